/- Texts in one: A drawing region one of whose operations changes memory of the call's own, whichever others stand behind it: of every program; no condition. -/
import Derived.Test.YtoibondihdhnoaaGreatDoorFRQ8
import Derived.Test.YtoibondihdhnoaaGreatDoorFRQ14
import Derived.Test.YtoibondihdhnoaaGreatDoorFRQ13
namespace Go.Proofs.YtoibondihdhnoaaGreatDoor
open Go.RowKit
def pzB (π:AV→AV) (b:Bool) (v:AV) : AV:=if b then π v else v
section
variable {P:Program} {M0:Nat→Nat→Prop} {w0:Bas} {N:Nm} {p:Pl} {st:VS} {a:Act} {w:World} {Q:Exit→VS→Prop}
def xi (P:Program) (M0:Nat→Nat→Prop) (w0:Bas) (N:Nm) (h0:Hp) (E:Operand→AV) (o:Oper) (d:Nat) (av:AV) (π:AV→AV) (h1:Hp) : Prop:=
 cR N o=true→∀ (p:Pl) (a:Act) (w:World) (s:List (Nat×AV)),Rel M0 w0 N p ⟨s,h0⟩ a w→(∀ z∈o.op.operands,ev ⟨s,h0⟩ z=E z)→∀ (K':Act→World→Prop) (Q:Exit→Act→World→Prop),
  (∀ p' a' w',Rel M0 w0 N p' ⟨(d,av)::s.map (fun q=>(q.1,π q.2)),h1⟩ a' w'→K' a' w')→o.wp P a w K' Q
theorem mV {id:Nat} {l:List Oper} (n:Nat) (ls:List Nat) (hm:P.follows .mixedOrders=true) (hB:Region.specB l.toArray (n+1)=true) (Ac:xj l n=ls) {so:Oper} {d:Nat} (π:AV→AV) (hπ:∀ (s:List (Nat×AV)) (t:Nat),lkp (s.map fun q=>(q.1,π q.2)) t=π (lkp s t)) (iy:l[n]? = some so) (oo:so.guard=none∧so.dst=some d)
  (h:mT P l (l.take n) st fun T=>∃ (av:AV) (h1:Hp),xi P M0 w0 N T.h (ev T) so d av π h1∧(∀ t∈ls,π (lkp T.s t)=lkp T.s t)∧mT P l (l.take n) ⟨st.s,h1⟩ (fun T2=>∀ t∈ls,lkp T2.s t=lkp T.s t)∧VL P M0 w0 N l Q (l.drop (n+1)) ⟨(d,av)::T.s.map (fun q=>(q.1,π q.2)),h1⟩) : VWp P M0 w0 N (.region id l.toArray true) Q st:=fun jr p0 a0 rj R0=>by
 have hN:l.all (cR N)=true:=by simpa [e_] using jr
 obtain ⟨rs,dW,⟨av,h1,fH,mj,gb,hK⟩,S⟩:=sV _ _ h;obtain ⟨kv,Ad,Ae,I0⟩:=sV _ _ gb;have dq:=hB;simp only [Region.specB,Bool.and_eq_true,decide_eq_true_eq] at dq;obtain ⟨⟨⟨⟨⟨⟨_,aK⟩,_⟩,_⟩,hd⟩,bh⟩,_⟩:=dq;have fb:n+1 < l.length:=by simpa using aK
 have dw:ea (l.take (n+1))=true:=by simpa using hd
 have xk:ea (l.take n)=true:=by
  have:=ot (l.take (n+1)) n dw;rwa [List.take_take,Nat.min_eq_left (Nat.le_succ n)] at this
 have hlen:(l.take n).length=n:=by simp;omega
 rw [hlen] at dW;have bf:∀ {i:Nat} {o:Oper},i < n→l[i]? = some o→(l.take n)[i]? = some o:=fun {i o} hi ho=>by rw [List.getElem?_take_of_lt hi];exact ho
 have i_:∀ {i:Nat} {o:Oper},i < n+1→l[i]? = some o→(l.take (n+1))[i]? = some o:=fun {i o} hi ho=>by rw [List.getElem?_take_of_lt hi];exact ho
 have kx:∀ {i:Nat} {o:Oper},(l.take n)[i]? = some o→i < n∧l[i]? = some o:=fun {i o} ho=>by
  have hi:i < n:=by have:=(List.getElem?_eq_some_iff.1 ho).1;omega
  rw [List.getElem?_take_of_lt hi] at ho;exact ⟨hi,ho⟩
 have ep:∀ {i:Nat},i < n→rs[i]? = some (rs.getD i .any):=fun {i} hi=>by simp [List.getD,show i < rs.length by omega]
 have cG:∀ i,i < n+1→∀ o,l[i]? = some o→∀ t∈o.looksAt l.toArray,∀ j,j < n+1→∀ q,l[j]? = some q→q.dst=some t→Region.waitsFor .any l.toArray i j=true∧j < i:=by
  intro i hi o ho;have h:=List.all_eq_true.1 bh i (List.mem_range.2 hi);simp only [List.getElem?_toArray,ho,Bool.and_eq_true] at h;have fS:∀ e∈o.after,Region.binds .any e=true→e.on < i:=fun e he hb=>by
   have h1:=Array.all_eq_true'.1 h.2 e he;simp only [hb,Bool.not_true,Bool.false_or,decide_eq_true_eq] at h1;exact h1
  intro t ht j hj q hq aH;have h1:=List.all_eq_true.1 (List.all_eq_true.1 h.1 t ht) j (List.mem_range.2 hj);simp only [hq,Option.bind_some,aH,bne_self_eq_false,Bool.false_or] at h1;refine ⟨h1,?_⟩;obtain ⟨o',aT,e,he,hb,cL⟩:=Region.waitsFor_spec h1;have:o'=o:=Option.some.inj (aT.symm.trans (by simpa using ho));subst this;rw [←cL];exact fS e he hb
 have aY:∀ {i j:Nat} {q:Oper} {t:Nat},j < i→i≤n→l[j]? = some q→q.dst=some t→lkp (aM st ((l.take n).take i) (rs.take i)).s t=rs.getD j .any:=fun {i j q t} hj hi hq ht=>
  mW ((l.take n).take i) (rs.take i) st t j q (rs.getD j .any) (ot _ _ xk) (by rw [List.getElem?_take_of_lt hj];exact bf (by omega) hq) (by rw [List.getElem?_take_of_lt hj];exact ep (by omega)) ht
 have aX:∀ {i t:Nat},(∀ j q,j < n→l[j]? = some q→q.dst≠some t)→lkp (aM st ((l.take n).take i) (rs.take i)).s t=lkp st.s t:=fun {i t} ho=>
  ml _ _ _ _ fun q hq he=>by
   obtain ⟨j,hj⟩:=List.mem_iff_getElem?.1 (List.mem_of_mem_take hq);obtain ⟨h1,h2⟩:=kx hj;exact ho j q h1 h2 he
 have bs:aM st (l.take n) rs=aM st ((l.take n).take n) (rs.take n):=by
  rw [List.take_of_length_le (l:=l.take n) (by rw [hlen];exact Nat.le_refl _),List.take_of_length_le (l:=rs) (by omega)]
 refine wp_region_any hm ?_;have mX:∀ {j:Nat} {q:Oper} {d':Nat},j < n→l[j]? = some q→q.dst=some d'→d'≠d:=fun {j q d'} hj hq aH he=>by
  subst he;have:j=n:=ou dw (i_ (by omega) hq) (i_ (Nat.lt_succ_self n) iy) aH oo.2;omega
 have rl:∀ t,lkp (aM st (l.take n) rs).s t=lkp (aM st ((l.take n).take n) (rs.take n)).s t:=fun t=>by rw [←bs]
 have kQ:∀ {i:Nat} {o:Oper} {t:Nat},i < n→l[i]? = some o→gO l n n i=false→t∈o.looksAt l.toArray++o.dst.toList→t∈ls:=fun {i o t} hi ho f_ ht=>by
  rw [←Ac];unfold xj;refine List.mem_flatMap.2 ⟨i,List.mem_range.2 hi,?_⟩;rw [f_,ho];simpa using ht
 have fw:∀ {i:Nat} {o:Oper} {t:Nat},i < n→l[i]? = some o→gO l n n i=false→t∈o.looksAt l.toArray++o.dst.toList→π (lkp (aM st ((l.take n).take n) (rs.take n)).s t)=lkp (aM st ((l.take n).take n) (rs.take n)).s t:=fun {i o t} hi ho f_ ht=>by
  rw [←bs];exact mj t (kQ hi ho f_ ht)
 have mY:kv.length=n:=by rw [Ad,hlen]
 have uG:∀ {i:Nat},i < n→kv[i]? = some (kv.getD i .any):=fun {i} hi=>by simp [List.getD,show i < kv.length by omega]
 have ja:∀ {i j:Nat} {q:Oper} {t:Nat},j < i→i≤n→l[j]? = some q→q.dst=some t→lkp (aM ⟨st.s,h1⟩ ((l.take n).take i) (kv.take i)).s t=kv.getD j .any:=fun {i j q t} hj hi hq ht=>
  mW ((l.take n).take i) (kv.take i) ⟨st.s,h1⟩ t j q (kv.getD j .any) (ot _ _ xk) (by rw [List.getElem?_take_of_lt hj];exact bf (by omega) hq) (by rw [List.getElem?_take_of_lt hj];exact uG (by omega)) ht
 have mZ:∀ {i t:Nat},(∀ j q,j < n→l[j]? = some q→q.dst≠some t)→lkp (aM ⟨st.s,h1⟩ ((l.take n).take i) (kv.take i)).s t=lkp st.s t:=fun {i t} ho=>
  ml _ _ ⟨st.s,h1⟩ _ fun q hq he=>by
   obtain ⟨j,hj⟩:=List.mem_iff_getElem?.1 (List.mem_of_mem_take hq);obtain ⟨h1,h2⟩:=kx hj;exact ho j q h1 h2 he
 have rm:aM ⟨st.s,h1⟩ (l.take n) kv=aM ⟨st.s,h1⟩ ((l.take n).take n) (kv.take n):=by
  rw [List.take_of_length_le (l:=l.take n) (by rw [hlen];exact Nat.le_refl _),List.take_of_length_le (l:=kv) (by omega)]
 have uH:∀ t∈ls,lkp (aM ⟨st.s,h1⟩ ((l.take n).take n) (kv.take n)).s t=lkp (aM st ((l.take n).take n) (rs.take n)).s t:=fun t ht=>by
  rw [←bs,←rm];exact Ae t ht
 have Af:∀ {i:Nat} {o:Oper},i < n→l[i]? = some o→gO l n n i=false→∀ t∈o.looksAt l.toArray,lkp (aM ⟨st.s,h1⟩ ((l.take n).take i) (kv.take i)).s t=lkp (aM st ((l.take n).take i) (rs.take i)).s t:=fun {i o} hi ho f_ t ht=>by
  have h3:=uH t (kQ hi ho f_ (List.mem_append_left _ ht));by_cases hex:∃ (j:Nat) (q:Oper),j < n∧l[j]? = some q∧q.dst=some t
  ·obtain ⟨j,q,hj,hq,aH⟩:=hex;obtain ⟨_,h5⟩:=cG i (by omega) o ho t ht j (by omega) q hq aH;rw [ja hj (Nat.le_refl _) hq aH,aY hj (Nat.le_refl _) hq aH] at h3;rw [ja h5 (by omega) hq aH,aY h5 (by omega) hq aH];exact h3
  ·have h_:∀ j q,j < n→l[j]? = some q→q.dst≠some t:=fun j q hj hq he=>hex ⟨j,q,hj,hq,he⟩;rw [mZ h_,aX h_]
 have Ag:∀ {i:Nat} {o:Oper} {t:Nat},i < n→l[i]? = some o→gO l n n i=false→o.dst=some t→kv.getD i .any=rs.getD i .any:=fun {i o t} hi ho f_ ht=>by
  have h3:=uH t (kQ hi ho f_ (List.mem_append_right _ (by rw [ht];simp)));rw [ja hi (Nat.le_refl _) ho ht,aY hi (Nat.le_refl _) ho ht] at h3;exact h3
 refine sW (Inv:=fun listed a w=>HeadInv .any l.toArray (n+1) listed∧∃ (p:Pl) (s:List (Nat×AV)),Rel M0 w0 N p ⟨s,if listed.getD n false=true then h1 else st.h⟩ a w ∧
   (∀ (j:Nat) (q:Oper) (d:Nat),j < n→listed.getD j false=true→l[j]? = some q→q.dst=some d→lkp s d=pzB π (listed.getD n false) (rs.getD j .any)) ∧
   (∀ t,t≠d→(∀ j q,j < n→l[j]? = some q→q.dst≠some t)→lkp s t=pzB π (listed.getD n false) (lkp st.s t))∧(listed.getD n false=true→lkp s d=av)) hB (fun _ _ _ inv=>inv.1) ?_ ?_ _ _ _ _ ?_ (by simp)
 ·rintro listed a w i o ⟨head,p,s,R,S1,S2,S3⟩ hi a_ ho fx;have aT:l[i]? = some o:=by simpa using ho
  obtain ⟨_,o2,lP,cZ⟩:=mem_ready.1 hi;have:o2=o:=Option.some.inj (lP.symm.trans ho);subst this;have bK:i < listed.size:=by rw [head.size];simpa using (by omega:i < l.length)
  have cn:(listed.setIfInBounds i true).getD i false=true:=by simp [bK]
  have aZ:∀ {j:Nat},i≠j→(listed.setIfInBounds i true).getD j false=listed.getD j false:=fun aq=>getD_set_ne false aq;have bZ:∀ j,Region.waitsFor .any l.toArray i j=true→listed.getD j false=true:=by
   intro j hj;obtain ⟨o3,m_,e,he,hb,cL⟩:=Region.waitsFor_spec hj;have:o3=o2:=Option.some.inj (m_.symm.trans ho);subst this;rw [←cL];exact cZ e he hb
  have qb:∀ t∈o2.looksAt l.toArray,t≠d:=fun t ht he=>by
   subst he;have:=(cG i a_ o2 aT t ht n (Nat.lt_succ_self n) so iy oo.2).2;omega
  have cS:∀ {k:Nat},i≤k→k≤n→∀ t∈o2.looksAt l.toArray,lkp s t=pzB π (listed.getD n false) (lkp (aM st ((l.take n).take k) (rs.take k)).s t):=fun {k} rn lQ t ht=>by
   by_cases hex:∃ (j:Nat) (q:Oper),j < n∧l[j]? = some q∧q.dst=some t
   ·obtain ⟨j,q,hj,hq,aH⟩:=hex;obtain ⟨h1,h2⟩:=cG i a_ o2 aT t ht j (by omega) q hq aH;rw [aY (by omega) lQ hq aH];exact S1 j q t hj (bZ j h1) hq aH
   ·have bz:∀ j q,j < n→l[j]? = some q→q.dst≠some t:=fun j q hj hq he=>hex ⟨j,q,hj,hq,he⟩;rw [aX bz,S2 t (qb t ht) bz]
  have cE:∀ {j:Nat} {q:Oper} {d d':Nat},j < n→j≠i→l[j]? = some q→q.dst=some d→o2.dst=some d'→d'≠d:=fun {j q d d'} hj cT hq aH eb he=>by
   subst he;exact cT (ou dw (i_ (by omega) hq) (i_ a_ aT) aH eb)
  by_cases uI:i=n
  ·subst uI;have:o2=so:=Option.some.inj (aT.symm.trans iy);subst this;have dO:=getD_both fx;rw [dO] at R;simp only [Bool.false_eq_true,if_false] at R;have ky:∀ z:Operand,z∈o2.op.operands→ev ⟨s,(aM st (l.take i) rs).h⟩ z=ev (aM st (l.take i) rs) z:=fun z hz=>by
    cases z with
    | tmp t=>
     show lkp s t=lkp _ t;rw [bs];have:=cS (Nat.le_refl _) (Nat.le_refl _) t (List.mem_append_left _ (List.mem_filterMap.2 ⟨.tmp t,by simpa using hz,rfl⟩));rw [dO] at this;exact this
    | const v=>rfl
    | global g=>rfl
    | func f=>rfl
   unfold wpOp;simp only [ho];rw [if_pos (by simp [Region.wanted,oo.1])];refine Or.inl ?_;refine fH (List.all_eq_true.1 hN o2 (List.mem_of_getElem? aT)) p a w s (by rw [fc];exact R) (fun z hz=>by
    rw [fc];have:=ky z hz;rw [fc] at this;exact this) _ _ fun p' a' w' R'=>?_
   refine ⟨head.set hi a_,p',_,by rw [cn];exact R',fun j q d' hj hl hq aH=>?_,fun t pf ht=>?_,fun _=>by simp [lkp]⟩
   ·rw [cn,lkp,if_neg (fun e=>mX hj hq aH e.symm),hπ];rw [aZ (by omega)] at hl;have:=S1 j q d' hj hl hq aH;rw [dO] at this;rw [this];rfl
   ·rw [cn,lkp,if_neg (fun e=>pf e.symm),hπ];have:=S2 t pf ht;rw [dO] at this;rw [this];rfl
  ·have dC:i < n:=by omega
   have ao:=S i o2 (rs.getD i .any) (bf dC aT) (ep dC);have fy:((listed.setIfInBounds i true).getD n false)=listed.getD n false:=aZ uI;have rp:∀ t,o2.dst=some t→pzB π (listed.getD n false) (rs.getD i .any)=rs.getD i .any:=fun t ht=>by
    cases hb:listed.getD n false
    ·rfl
    ·have f_:gO l n n i=false:=by
      cases hc:gO l n n i
      ·rfl
      ·have:=pg head n n i (fun j hj=>by
        obtain ⟨o6,lR,e,he,fI,cL⟩:=Region.waitsFor_spec hj;have:=head.closed n o6 lR hb e he fI;rwa [cL] at this) hc
       rw [getD_both fx] at this;cases this
     have:=fw (t:=t) dC aT f_ (List.mem_append_right _ (by rw [ht];simp));rw [aY dC (Nat.le_refl _) aT ht] at this;exact this
   have fin:∀ r v w',(∀ t,o2.dst=some t→r=rs.getD i .any)→V1 w' (Mof M0 (if listed.getD n false=true then h1 else st.h) p) (if listed.getD n false=true then h1 else st.h) p r v→Below w.heap.size w w'→(fun listed a w=>HeadInv .any l.toArray (n+1) listed∧∃ (p:Pl) (s:List (Nat×AV)),Rel M0 w0 N p ⟨s,if listed.getD n false=true then h1 else st.h⟩ a w ∧
     (∀ (j:Nat) (q:Oper) (d:Nat),j < n→listed.getD j false=true→l[j]? = some q→q.dst=some d→lkp s d=pzB π (listed.getD n false) (rs.getD j .any)) ∧
     (∀ t,t≠d→(∀ j q,j < n→l[j]? = some q→q.dst≠some t)→lkp s t=pzB π (listed.getD n false) (lkp st.s t))∧(listed.getD n false=true→lkp s d=av)) (listed.setIfInBounds i true) (a.put o2.dst v) w':=fun r v w' sX hv hb=>by
    have R':=(R.later hb).put (d:=o2.dst) (dZ (List.all_eq_true.1 hN o2 (List.mem_of_getElem? aT))) hv;have cJ:(VS.put ⟨s,if listed.getD n false=true then h1 else st.h⟩ o2.dst r)=⟨(VS.put ⟨s,if listed.getD n false=true then h1 else st.h⟩ o2.dst r).s,if listed.getD n false=true then h1 else st.h⟩:=by cases o2.dst<;>rfl
    rw [cJ] at R';refine ⟨head.set hi a_,p,_,by rw [fy];exact R',fun j q d hj hl hq aH=>?_,fun t pf ht=>?_,fun hl=>?_⟩
    ·rw [gP,fy];by_cases cT:j=i
     ·subst cT;have:q=o2:=Option.some.inj (hq.symm.trans aT);subst this;rw [if_pos aH,rp d aH];exact sX d aH
     ·rw [if_neg fun e=>cE hj cT hq aH e rfl];rw [aZ (Ne.symm cT)] at hl;exact S1 j q d hj hl hq aH
    ·rw [gP,if_neg (ht i o2 dC aT),fy];exact S2 t pf ht
    ·rw [fy] at hl;rw [gP,if_neg fun e=>mX dC aT e rfl];exact S3 hl
   have na:∀ t∈o2.looksAt l.toArray,lkp s t=lkp (aM st ((l.take n).take i) (rs.take i)).s t:=fun t ht=>by
    have h2:=cS (Nat.le_refl i) (by omega) t ht;have h3:=cS (show i≤n by omega) (Nat.le_refl n) t ht;cases hb:listed.getD n false
    ·rw [hb] at h2;exact h2
    ·have f_:gO l n n i=false:=by
      cases hc:gO l n n i
      ·rfl
      ·have:=pg head n n i (fun j hj=>by
        obtain ⟨o6,lR,e,he,fI,cL⟩:=Region.waitsFor_spec hj;have:=head.closed n o6 lR hb e he fI;rwa [cL] at this) hc
       rw [getD_both fx] at this;cases this
     have bz:=fw dC aT f_ (List.mem_append_left _ ht);rw [hb] at h2 h3;by_cases hex:∃ (j:Nat) (q:Oper),j < n∧l[j]? = some q∧q.dst=some t
     ·obtain ⟨j,q,hj,hq,aH⟩:=hex;obtain ⟨_,h5⟩:=cG i a_ o2 aT t ht j (by omega) q hq aH;rw [aY hj (Nat.le_refl _) hq aH] at bz;rw [aY h5 (by omega) hq aH] at h2 ⊢;rw [h2];exact bz
     ·have h_:∀ j q,j < n→l[j]? = some q→q.dst≠some t:=fun j q hj hq he=>hex ⟨j,q,hj,hq,he⟩;rw [aX h_] at bz;rw [aX h_] at h2 ⊢;rw [h2];exact bz
   obtain ⟨Sx,r,ph,I1,DU,sX⟩ : ∃ (Sx:VS) (r:AV),kz P l o2 Sx r∧Sx.h=(if listed.getD n false=true then h1 else st.h)∧(∀ t∈o2.looksAt l.toArray,lkp s t=lkp Sx.s t)∧∀ t,o2.dst=some t→r=rs.getD i .any:=by
    cases hb:listed.getD n false
    ·exact ⟨_,_,ao,by rw [fc];rfl,na,fun _ _=>rfl⟩
    ·have f_:gO l n n i=false:=by
      cases hc:gO l n n i
      ·rfl
      ·have:=pg head n n i (fun j hj=>by
        obtain ⟨o6,lR,e,he,fI,cL⟩:=Region.waitsFor_spec hj;have:=head.closed n o6 lR hb e he fI;rwa [cL] at this) hc
       rw [getD_both fx] at this;cases this
     exact ⟨_,_,I0 i o2 (kv.getD i .any) (bf dC aT) (uG dC),by rw [fc];rfl,fun t ht=>(na t ht).trans (Af dC aT f_ t ht).symm,fun t ht=>Ag dC aT f_ ht⟩
   have b8:fT P Sx.h (ev Sx) o2.op r→gives P o2 a w fun v w''=>V1 w'' (Mof M0 (if listed.getD n false=true then h1 else st.h) p) (if listed.getD n false=true then h1 else st.h) p r v∧Below w.heap.size w w'':=by
    intro hg;rw [I1] at hg;refine pj R.objs R.mok R.h0 R.glob (fun _ _ hb=>.inl hb) (fun x hx=>?_) hg;cases x with
    | tmp t=>
     show V1 _ _ _ _ (lkp Sx.s t) _;rw [←DU t (List.mem_append_left _ (List.mem_filterMap.2 ⟨.tmp t,by simpa using hx,rfl⟩))];exact R.slots t
    | const v=>exact .base _ _ (.lit v)
    | global g=>exact .base _ _ (R.evalG g)
    | func f=>exact .base _ _ (.lit _)
   have hy:=fun j=>pa (ops:=l) (j:=j) R hN;have b9:∀ (j:Nat) (want:Bool) (v:Value),o2.guard=some (j,want)→cY l Sx j = .lit v→cY l ⟨s,if listed.getD n false=true then h1 else st.h⟩ j = .lit v:=by
    intro j want v hg hv;unfold cY at hv ⊢;cases hj:l[j]? with
    | none=>simpa [hj] using hv
    | some q=>
     cases hq:q.dst with
     | none=>simpa [hj,hq] using hv
     | some d=>
      have ec:d∈o2.looksAt l.toArray:=by
       unfold Oper.looksAt;refine List.mem_append_right _ ?_;simp [hg,hj,hq]
      simp only [hj,hq] at hv ⊢;rw [DU d ec];exact hv
   unfold wpOp;simp only [ho];unfold kz at ph;split at ph
   ·rename_i hg;rw [if_pos (by simp [Region.wanted,hg])];exact Or.inl (kA (b8 ph) rfl fun v w' hv=>fin r v w' sX hv.1 hv.2)
   ·rename_i j want hg;split at ph
    ·rename_i b hb;have fA:=(hy j).1 b (b9 j want _ hg hb);split at ph
     ·rename_i hw;subst hw;rw [if_pos (by simp [Region.wanted,hg,fA])];exact Or.inl (kA (b8 ph) rfl fun v w' hv=>fin r v w' sX hv.1 hv.2)
     ·rename_i hw;rw [if_neg (by simpa [Region.wanted,hg,fA] using hw)];exact fin r undef w sX (by rw [ph];exact .base _ _ (.lit _)) (Below.refl _ _)
    ·rename_i us hb;have fA:=(hy j).2 us (b9 j want _ hg hb);rw [if_neg (by simp [Region.wanted,hg,fA])];exact fin r undef w sX (by rw [ph];exact .base _ _ (.lit _)) (Below.refl _ _)
    ·exact ph.elim
 ·rintro listed a w ⟨head,p,s,R,S1,S2,S3⟩ aD;rw [aD n (by omega)] at R;simp only [if_true] at R;rw [aD n (by omega)] at S1 S2 S3;have R':=R.weak (s':=(d,av)::(aM st (l.take n) rs).s.map (fun q=>(q.1,π q.2))) fun t=>by
   show lkp ((d,av)::(aM st (l.take n) rs).s.map (fun q=>(q.1,π q.2))) t=lkp s t∨_;refine .inl ?_;rw [lkp];split
   ·rename_i he;subst he;exact (S3 rfl).symm
   ·rename_i he;rw [hπ,bs];by_cases hex:∃ (j:Nat) (q:Oper),j < n∧l[j]? = some q∧q.dst=some t
    ·obtain ⟨j,q,hj,hq,aH⟩:=hex;rw [aY hj (Nat.le_refl _) hq aH];exact (S1 j q t hj (aD j (by omega)) hq aH).symm
    ·have bz:∀ j q,j < n→l[j]? = some q→q.dst≠some t:=fun j q hj hq he=>hex ⟨j,q,hj,hq,he⟩;rw [aX bz,S2 t (fun e=>he e.symm) bz];rfl
  have ix:(l.drop (n+1)).all (cR N)=true:=List.all_eq_true.2 fun q hq=>List.all_eq_true.1 hN q (List.mem_of_mem_drop hq);exact hK hN ix p _ w R'
 ·refine ⟨⟨by simp,fun j oj _ hl=>(by rw [getD_replicate_false] at hl;cases hl),fun t _ ht=>getD_in (by simpa using ht) (getD_replicate_false _ _)⟩,p0,st.s,?_,fun j q d _ hl=>(by rw [getD_replicate_false] at hl;cases hl),fun _ _ _=>by rw [getD_replicate_false];rfl,fun hl=>(by rw [getD_replicate_false] at hl;cases hl)⟩;rw [getD_replicate_false];exact R0.later (Below.refl _ _).drew
theorem sY {h0:Hp} {E:Operand→AV} {o:Oper} {d t id k e:Nat} {x y:Operand} {ti te:TI} {aj:Option Nat} {qs:List (List (List AV))} {es:List (List AV)} {c:AV} (cS:o.op = .call ⟨.builtin .append,#[x,y],#[t,t]⟩) (hd:o.dst=some d) (hx:E x = .slw id k 1 es) (hy:E y = .sl 1 [[c]])
  (aV:aU P t=some ti) (fJ:aU P ti.elem=some te) (hi:h0[id]? = some (some (.bag e 1 false aj qs))) (hc:ti.kind=1∧te.size=1∧te.zero.length=1∧te.bytes≤100000∧k < qs.length∧(aj=none∨aj=some k)∧h0.all (rq id)=true∧es.length+1≤1000000000) :
  xi P M0 w0 N h0 E o d (.slw id k 1 (es++[[c]])) (unW id) (h0.set id (some (.bag e 1 false (some k) qs))):=fun uJ p a w s R hE K' Q' hK=>by
 obtain ⟨dst,op,ty,pos,after,guard⟩:=o;simp only at cS hd;subst cS hd;have ex:ev ⟨s,h0⟩ x = .slw id k 1 es:=(hE x (by simp [Op.operands,Call.operands])).trans hx;have ey:ev ⟨s,h0⟩ y = .sl 1 [[c]]:=(hE y (by simp [Op.operands,Call.operands])).trans hy;obtain ⟨c1,c2,c3,c4,c5,c6,c7,c8⟩:=hc;have ht:nb P ⟨s,h0⟩ ⟨some d,.call ⟨.builtin .append,#[x,y],#[t,t]⟩,ty,pos,after,guard⟩=some ⟨(d,.slw id k 1 (es++[[c]]))::s.map (fun q=>(q.1,unW id q.2)),h0.set id (some (.bag e 1 false (some k) qs))⟩:=by
  unfold nb;simp only [ex,ey,aV,hi,fJ];rw [if_pos ⟨trivial,c1,c2,c3,c4,trivial,trivial,trivial,trivial,c5,c6,c7,c8⟩]
 obtain ⟨v,w',p',hh⟩:=DV (P:=P) R uJ ht;unfold Oper.wp;rcases hh with ⟨h1,h2⟩|⟨h1,_,h2⟩
 ·rw [h1];exact hK _ _ _ h2
 ·rw [h1];exact hK _ _ _ h2
theorem xl {h0:Hp} {E:Operand→AV} {o:Oper} {d k e sz:Nat} {nl:Bool} {es:List (List AV)} {xs:Array Operand} {mi:Array TypeId} (cS:o.op = .call ⟨.value (.func k),xs,mi⟩) (hd:o.dst=some d) (hc:VCo P k (xs.toList.map E) e sz nl es) (hp:(xs.toList.map E).all (fe 5)=true) :
  xi P M0 w0 N h0 E o d (.osl h0.length) (fun v=>v) (h0++[some (.arr e sz nl es)]):=fun uJ p a w s R hE K' Q' hK=>by
 obtain ⟨dst,op,ty,pos,after,guard⟩:=o;simp only at cS hd;subst cS hd;have ga:xs.toList.map (ev ⟨s,h0⟩)=xs.toList.map E:=List.map_congr_left fun z hz=>hE z (by simp only [Op.operands,Call.operands];exact Array.mem_append_right _ (by simpa using hz));refine DW (P:=P) (ow:=[d]) (c:=⟨.value (.func k),xs,mi⟩) (d:=d) R uJ (by simp [ov]) (e:=e) (sz:=sz) (nl:=nl) (es:=es) ?_ fun p a w R=>hK p a w ?_
 ·unfold uK p_;simp only [ev];simp only [ga];exact ⟨hc,hp⟩
 ·simpa using R
theorem xm (s:List (Nat×AV)) (t:Nat) : lkp (s.map fun q=>(q.1,(fun v=>v) q.2)) t=(fun v=>v) (lkp s t):=by simp
end
section
variable {P:Program} {M0:Nat→Nat→Prop} {w0:Bas} {N:Nm} {p:Pl} {st:VS} {a:Act} {w:World} {Q:Exit→VS→Prop}
theorem V1.conv {w:World} {M M':Nat→Nat→Prop} {h h':Hp} {p p':Pl} {id:Nat} (hM:∀ b j,¬M b j→¬M' b j) (hl:h.length≤h'.length) (hp:∀ i,p' i=p i)
  (hO:∀ i e sz nl es v,h'[i]? = some (some (.arr e sz nl es))→(∀ e sz nl es,h[i]? = some (some (.arr e sz nl es))→Osl w (p i) e sz nl es.length v)→(∀ e sz nl aj qs,h[i]? = some (some (.bag e sz nl aj qs))→Osl w (p i) e 1 nl qs.length v)→Osl w (p i) e sz nl es.length v)
  (hG:∀ i e sz nl aj qs v,h'[i]? = some (some (.bag e sz nl aj qs))→(∀ e sz nl es,h[i]? = some (some (.arr e sz nl es))→Osl w (p i) e sz nl es.length v)→(∀ e sz nl aj qs,h[i]? = some (some (.bag e sz nl aj qs))→Osl w (p i) e 1 nl qs.length v)→Osl w (p i) e 1 nl qs.length v)
  (hW:∀ i k sz v,i≠id→i < h.length→Sp w h p i k sz v→Sp w h' p' i k sz v) :
  ∀ (n:Nat) (av:AV) (v:Value),V1 w M h p av v→dD id n av=true→V1 w M' h' p' av v
 | 0,_,_,_,hb=>by simp [dD] at hb
 | n+1,av,v,hv,hb=>by
  have ih:=V1.conv (w:=w) (p:=p) (h:=h) hM hl hp hO hG hW n;cases hv with
  | base _ _ h0=>exact .base _ _ (h0.keep (Keeps.refl _ _) fun b j _=>hM b j)
  | agg cs us hl h1 hv=>
   simp only [dD] at hb;exact .agg cs us hl h1 fun i c u hc hu=>ih c u (hv i c u hc hu) (List.all_eq_true.1 hb c (List.mem_of_getElem? hc))
  | tup cs us hl hv=>
   simp only [dD] at hb;exact .tup cs us hl fun i c u hc hu=>ih c u (hv i c u hc hu) (List.all_eq_true.1 hb c (List.mem_of_getElem? hc))
  | fn f x y us vs hl bn hv bF=>
   simp only [dD,Bool.and_eq_true] at hb;exact .fn f x y us vs hl bn (fun i c u hc hu=>ih c u (hv i c u hc hu) (List.all_eq_true.1 hb.1 c (List.mem_of_getElem? hc))) (fun i c u hc hu=>ih c u (bF i c u hc hu) (List.all_eq_true.1 hb.2 c (List.mem_of_getElem? hc)))
  | iface t x u hv=>exact .iface t x u (ih x u hv (by simpa [dD] using hb))
  | ref i off hid=>rw [←hp i];exact .ref i off (Nat.lt_of_lt_of_le hid hl)
  | aref i sz k off hid=>rw [←hp i];exact .aref i sz k off (Nat.lt_of_lt_of_le hid hl)
  | osl i A m c hid hv lL=>exact .osl i A m c (Nat.lt_of_lt_of_le hid hl) (fun e sz nl es he=>by rw [hp i];exact hO i e sz nl es _ he hv lL) fun e sz nl aj qs he=>by rw [hp i];exact hG i e sz nl aj qs _ he hv lL
  | slw i k sz es _ hid h0 hs=>
   have hn:i≠id:=by simpa [dD] using hb
   exact .slw i k sz es v (Nat.lt_of_lt_of_le hid hl) (h0.keep (Keeps.refl _ _) fun b j _=>hM b j) (hW i k sz v hn hid hs)
  | mp i hid=>rw [←hp i];exact .mp i (Nat.lt_of_lt_of_le hid hl)
theorem Rel.retell {h2:Hp} {p':Pl} {ob ob2:Ob} {id:Nat} (R:Rel M0 w0 N p st a w) (hi:st.h[id]? = some (some ob)) (hh:h2=st.h.set id (some ob2)) (jt:b_ ob2=true→b_ ob=true) (eJ:∀ i,p' i=p i) (gg:∀ i,i≠id→p'.S i=p.S i) (hS:∀ b j,p'.S id b j→p.S id b j)
  (f:AV→AV) (cG:∀ (s:List (Nat×AV)) (t:Nat),lkp (s.map fun q=>(q.1,f q.2)) t=f (lkp s t))
  (hf:(∀ b j,¬Mof M0 st.h p b j→¬Mof M0 h2 p' b j)→∀ {x:AV} {u:Value},V1 w (Mof M0 st.h p) st.h p x u→V1 w (Mof M0 h2 p') h2 p' (f x) u)
  (jb:∀ (i:Nat) (cs:List AV),i≠id→st.h[i]? = some (some (.box cs))→∀ c∈cs,f c=c)
  (iL:(∀ b j,¬Mof M0 st.h p b j→¬Mof M0 h2 p' b j)→ObOK w0 w (Mof M0 h2 p') h2 p' id ob2) : Rel M0 w0 N p' ⟨st.s.map (fun q=>(q.1,f q.2)),h2⟩ a w:=by
 subst hh;have hid:=(List.getElem?_eq_some_iff.1 hi).1;have eN:(st.h.set id (some ob2))[id]? = some (some ob2):=List.getElem?_set_self hid;have dz:∀ (i:Nat) (o:Ob),i≠id→(st.h.set id (some ob2))[i]? = some (some o)→st.h[i]? = some (some o):=fun i o hn h=>by rwa [List.getElem?_set_ne (Ne.symm hn)] at h
 have qc:∀ {i b j},p'.O i b j→p.O i b j:=fun {i b j} hO=>by
  rcases hO with hO|hO
  ·exact .inl (by rw [←eJ];exact hO)
  ·by_cases he:i=id
   ·subst he;exact .inr (hS b j hO)
   ·rw [gg i he] at hO;exact .inr hO
 have hM:∀ b j,¬Mof M0 st.h p b j→¬Mof M0 (st.h.set id (some ob2)) p' b j:=fun b j hn hm=>by
  rcases hm with hm|⟨i,o,aG,bx,hO⟩
  ·exact hn (.inl hm)
  ·by_cases he:i=id
   ·subst he;rw [eN] at aG;simp only [Option.some.injEq] at aG;subst aG;exact hn (.inr ⟨i,_,hi,jt bx,qc hO⟩)
   ·exact hn (.inr ⟨i,o,dz i o he aG,bx,qc hO⟩)
 have hV:=fun {x:AV} {u:Value} => hf hM (x:=x) (u:=u);refine ⟨R.defers,R.size,R.below,R.m0,R.x0,fun i=>?_,fun i o aG=>?_,fun i i' o o' aG bp bx ee x j j' hO cw=>?_⟩
 ·show V1 _ _ _ _ (lkp (st.s.map fun q=>(q.1,f q.2)) i) _;rw [cG];exact hV (R.slots i)
 ·by_cases he:i=id
  ·subst he;rw [eN] at aG;simp only [Option.some.injEq] at aG;subst aG;exact iL hM
  ·have bp:=dz i o he aG;exact (R.objs i o bp).keep (fun _=>⟨eJ i,gg i he⟩) (fun _ _ _ _ _=>rfl) (Nat.le_refl _) (fun hx=>hx.keep (Keeps.refl _ _) fun b j _=>hM b j) fun cs ca c hc u hx=>by
    have:=hV hx;rw [jb i cs he (by rw [bp,ca]) c hc] at this;exact this
 ·have key:∀ {i o},(st.h.set id (some ob2))[i]? = some (some o)→b_ o=true→∃ o1,st.h[i]? = some (some o1)∧b_ o1=true:=fun {i o} aG bx=>by
   by_cases he:i=id
   ·subst he;rw [eN] at aG;simp only [Option.some.injEq] at aG;subst aG;exact ⟨_,hi,jt bx⟩
   ·exact ⟨o,dz i o he aG,bx⟩
  obtain ⟨o1,e1,l1⟩:=key aG bx;obtain ⟨o2,e2,l2⟩:=key bp ee;exact R.inj i i' o1 o2 e1 e2 l1 l2 x j j' (qc hO) (qc cw)
theorem DX {w:World} {M M':Nat→Nat→Prop} {h h':Hp} {p p':Pl} {id:Nat} (hM:∀ b j,¬M b j→¬M' b j) (hV:∀ (av:AV) (v:Value),V1 w M h p av v→dD id 5 av=true→V1 w M' h' p' av v) {x:AV} {u:Value} (hx:V1 w M h p x u) : V1 w M' h' p' (unW id x) u:=by
 by_cases hs:∃ i k sz es,x = .slw i k sz es
 ·obtain ⟨i,k',bE,es',rfl⟩:=hs;by_cases hn:i=id
  ·rw [show unW id (.slw i k' bE es') = .sl bE es' from if_pos hn];exact .base _ _ (hx.slw_inv.2.1.keep (Keeps.refl _ _) fun b j _=>hM b j)
  ·rw [show unW id (.slw i k' bE es') = .slw i k' bE es' from if_neg hn];exact hV _ _ hx (by simpa [dD] using hn)
 ·have e:unW id x=if dD id 5 x=true then x else .any:=by cases x<;>first|rfl|exact absurd ⟨_,_,_,_,rfl⟩ hs
  rw [e];split
  ·rename_i hn;exact hV _ _ hx hn
  ·exact .base _ _ (.any _)
theorem DY {id:Nat} {c:AV} (h:dD id 5 c=true) : unW id c=c:=by
 by_cases hs:∃ i k sz es,c = .slw i k sz es
 ·obtain ⟨i,k,sz,es,rfl⟩:=hs;have hn:i≠id:=by simpa [dD] using h
  exact if_neg hn
 ·have e:unW id c=if dD id 5 c=true then c else .any:=by cases c<;>first|rfl|exact absurd ⟨_,_,_,_,rfl⟩ hs
  rw [e,if_pos h]
theorem Rel.toBag {id e n sz:Nat} (R:Rel M0 w0 N p st a w) (hi:st.h[id]? = some (some (.arr e 1 false (List.replicate n [.lit (.slice none 0 0)])))) (aJ:0 < sz) (aD:st.h.all (rq id)=true) :
  Rel M0 w0 N p ⟨st.s.map (fun q=>(q.1,unW id q.2)),st.h.set id (some (.bag e sz false none (List.replicate n [])))⟩ a w:=by
 have hid:=(List.getElem?_eq_some_iff.1 hi).1;obtain ⟨o1,o2,o3⟩:=R.objs id _ hi;rw [if_neg (by simp)] at o3;obtain ⟨q1,cur,q2,q3,q4⟩:=o3;have bQ:b_ (Ob.arr e 1 false (List.replicate n [.lit (.slice none 0 0)]))=true:=rfl;have dE:∀ k,k < n→cur[k]? = some (.slice none 0 0):=fun k hk=>by
  obtain ⟨u,hu,hv⟩:=q4 k [.lit (.slice none 0 0)] 0 (.lit (.slice none 0 0)) (by simp [hk]) rfl;rw [show k*1+0=k by omega] at hu;cases hv;exact hu
 refine R.retell (p':=p) (ob2:=.bag e sz false none (List.replicate n [])) hi rfl (fun _=>rfl) (fun _=>rfl) (fun _ _=>rfl) (fun _ _ h=>h) (unW id) (nc id) (fun hM {x u} hx=>DX hM (fun av v hv hn=>V1.conv hM (by simp) (fun _=>rfl) (fun i e' bE nl es' v he ha hb=>?_) (fun i e' bE nl nf pk v he ha hb=>?_) (fun i k bE v hn _ hs=>hs.keep (fun e' ru xn pk he=>?_) (Nat.le_refl _)) 5 av v hv hn) hx) (fun i cs _ ca c hc=>DY (uL aD i cs ca c hc)) fun hM=>⟨aJ,?_⟩
 ·by_cases hn:i=id
  ·subst hn;rw [List.getElem?_set_self hid] at he;cases he
  ·rw [List.getElem?_set_ne (Ne.symm hn)] at he;exact ha _ _ _ _ he
 ·by_cases hn:i=id
  ·subst hn;rw [List.getElem?_set_self hid] at he;simp only [Option.some.injEq,Ob.bag.injEq] at he;obtain ⟨rfl,rfl,rfl,rfl,rfl⟩:=he;have:=ha _ _ _ _ hi;simpa using this
  ·rw [List.getElem?_set_ne (Ne.symm hn)] at he;exact hb _ _ _ _ _ he
 ·rw [List.getElem?_set_ne (Ne.symm hn)] at he;exact ⟨he,rfl,rfl,fun _ _ _ _=>rfl⟩
 ·rw [if_neg (by simp)];refine ⟨fun b j hO=>(R.objs id _ hi).own bQ b j hO,fun j=>q1.2 _ _,cur,q2,by simp at q3 ⊢;omega,fun k x hx=>?_,fun k k' v v' hk dH _ _ _ hv bF=>?_⟩
  ·have lQ:k < n:=by have:=(List.getElem?_eq_some_iff.1 hx).1;simpa using this
   have I2:x=[]:=by
    have:=List.mem_of_getElem? hx;simp at this;exact this.2
   subst I2;exact ⟨_,dE k lQ,.slNil _ _ _,fun _=>⟨none,0,0,rfl,Nat.le_refl _,fun h=>absurd h (Nat.lt_irrefl 0)⟩⟩
  ·rw [dE k (by simpa using hk)] at hv;simp only [Option.some.injEq] at hv;subst hv;intro b o n c b' o' n' c' e1;simp at e1
theorem Rel.bagArr {id e sz:Nat} {aj:Option Nat} {qs:List (List (List AV))} (R:Rel M0 w0 N p st a w) (hi:st.h[id]? = some (some (.bag e sz false aj qs))) (aD:st.h.all (rq id)=true) :
  ∃ p',Rel M0 w0 N p' ⟨st.s.map (fun q=>(q.1,unW id q.2)),st.h.set id (some (.arr e 1 false (qs.map fun q=>[.sl sz q])))⟩ a w:=by
 have hid:=(List.getElem?_eq_some_iff.1 hi).1;obtain ⟨b1,b2,cur,b3,b4,b5,b6⟩:=R.bagRow hi;obtain ⟨p',eJ,gg,cM⟩ : ∃ p':Pl,(∀ i,p' i=p i)∧(∀ i,i≠id→p'.S i=p.S i)∧∀ b j,¬p'.S id b j:=⟨⟨p.b,fun i=>if i=id then fun _ _=>False else p.S i⟩,fun _=>rfl,fun i hn=>if_neg hn,fun b j h=>by simp at h⟩
 refine ⟨p',R.retell (p':=p') (ob2:=.arr e 1 false (qs.map fun q=>[.sl sz q])) hi rfl (fun _=>rfl) eJ gg (fun b j h=>absurd h (cM b j)) (unW id) (nc id) (fun hM {x u} hx=>DX (p:=p) (h:=st.h) hM (fun av v hv hn=>V1.conv (p:=p) (h:=st.h) hM (by simp) eJ (fun i e' bE nl es' v he ha hb=>?_) (fun i e' bE nl nf pk v he ha hb=>?_) (fun i k bE v hn _ hs=>hs.keep (fun e' ru xn pk he=>?_) (Nat.le_refl _)) 5 av v hv hn) hx) (fun i cs _ ca c hc=>DY (uL aD i cs ca c hc)) fun hM=>⟨Nat.one_pos,fun k x hx=>?_,?_⟩⟩
 ·by_cases hn:i=id
  ·subst hn;rw [List.getElem?_set_self hid] at he;simp only [Option.some.injEq,Ob.arr.injEq] at he;obtain ⟨rfl,rfl,rfl,rfl⟩:=he;have:=hb _ _ _ _ _ hi;simpa using this
  ·rw [List.getElem?_set_ne (Ne.symm hn)] at he;exact ha _ _ _ _ he
 ·by_cases hn:i=id
  ·subst hn;rw [List.getElem?_set_self hid] at he;cases he
  ·rw [List.getElem?_set_ne (Ne.symm hn)] at he;exact hb _ _ _ _ _ he
 ·rw [List.getElem?_set_ne (Ne.symm hn)] at he;exact ⟨he,eJ i,gg i hn,fun _ _ _ _=>rfl⟩
 ·obtain ⟨q,_,rfl⟩:=eo hx;exact ⟨rfl,fun c hc=>by simp only [List.mem_singleton] at hc;subst hc;rfl⟩
 ·rw [if_neg (by simp)];refine ⟨⟨fun j=>by rw [eJ];exact (b1 _ j (.inl rfl)).1,cM⟩,cur,by rw [eJ];exact b3,by simpa using b4,fun k x j c hk hj=>?_⟩;obtain ⟨q,hq,rfl⟩:=eo hk;cases j with
  | succ j=>simp at hj
  | zero=>
   simp only [List.getElem?_cons_zero,Option.some.injEq] at hj;subst hj;obtain ⟨v,h1,h2,_⟩:=b5 k q hq;exact ⟨v,by simpa using h1,h2.keep (Keeps.refl _ _) fun b j _=>hM b j⟩
theorem Ah (id:Nat) : ∀ (s:List (Nat×AV)) (i:Nat),lkp (s.map fun q=>(q.1,purge id q.2)) i=purge id (lkp s i)
 | [],i=>by simp [lkp,purge,cH]
 | (d,v)::r,i=>by
  simp only [List.map_cons,lkp];split
  ·rfl
  ·exact Ah id r i
def DZ (id:Nat) : Option Ob→Bool
 | some (.box cs)=>cs.all (cH id 5)
 | _=>true
theorem Rel.anew {r e sz e2 oz:Nat} {nl:Bool} {es:List (List AV)} (R:Rel M0 w0 N p st a w) (hi:st.h[r]? = some (some (.arr e sz nl es))) (aJ:0 < oz) (aD:st.h.all (DZ r)=true) :
  Rel M0 w0 N p ⟨st.s.map (fun q=>(q.1,purge r q.2)),st.h.set r (some (.arr e2 oz true []))⟩ a w:=by
 have hid:=(List.getElem?_eq_some_iff.1 hi).1;have jb:∀ (i:Nat) (cs:List AV),st.h[i]? = some (some (.box cs))→∀ c∈cs,cH r 5 c=true:=fun i cs hi c hc=>by
  have:=List.all_eq_true.1 aD _ (List.mem_of_getElem? hi);exact List.all_eq_true.1 this c hc
 have dz:∀ (i:Nat) (ob:Ob),i≠r→(st.h.set r (some (.arr e2 oz true [])))[i]? = some (some ob)→st.h[i]? = some (some ob):=fun i ob hn h=>by rwa [List.getElem?_set_ne (Ne.symm hn)] at h
 refine R.retell (p':=p) (ob2:=.arr e2 oz true []) hi rfl (fun h=>by cases h) (fun _=>rfl) (fun _ _=>rfl) (fun _ _ h=>h) (purge r) (Ah r) (fun hM {x u} hx=>?_) (fun i cs _ ca c hc=>if_pos (jb i cs ca c hc)) fun hM=>⟨aJ,fun k x hk=>by simp at hk,rfl⟩
 unfold purge;split
 ·rename_i hn;exact V1.purge (Keeps.refl _ _) (fun b j _=>hM b j) (by simp) (fun _ _=>rfl) (fun i e sz nl es v hn he hv=>hv _ _ _ _ (dz i _ hn he)) (fun i e sz nl pe qs v hn he hv=>hv _ _ _ _ _ (dz i _ hn he)) (fun i k sz v hn _ hs=>hs.keep (fun e sz pe qs he=>⟨dz i _ hn he,rfl,rfl,fun _ _ _ _=>rfl⟩) (Nat.le_refl _)) 5 x u hx hn
 ·exact .base _ _ (.any _)
end
attribute [go_sem] DZ
section
variable {P:Program} {M0:Nat→Nat→Prop} {w0:Bas} {N:Nm} {p:Pl} {st:VS} {a:Act} {w:World}
theorem Rel.deadCell {bi j r:Nat} {cs:List AV} (R:Rel M0 w0 N p st a w) (hb:st.h[bi]? = some (some (.box cs))) (hj:cs[j]? = some (.osl r)) : Rel M0 w0 N p ⟨st.s,st.h.set bi (some (.box (cs.set j (.osl bi))))⟩ a w:=by
 have dk:bi < st.h.length:=(List.getElem?_eq_some_iff.1 hb).1;have c_:∀ (i:Nat) (ob:Ob),(st.h.set bi (some (.box (cs.set j (.osl bi)))))[i]? = some (some ob)→(i=bi∧ob = .box (cs.set j (.osl bi)))∨(i≠bi∧st.h[i]? = some (some ob)):=fun i ob h=>by
  by_cases he:bi=i
  ·subst he;rw [List.getElem?_set_self dk] at h;simp only [Option.some.injEq] at h;exact .inl ⟨rfl,h.symm⟩
  ·rw [List.getElem?_set_ne he] at h;exact .inr ⟨fun h=>he h.symm,h⟩
 refine (R.reheap _ (by simp) (fun i ob hi hl=>?_) (fun i e sz nl es cC he=>?_) (fun i e sz nl pe qs cC he=>?_) fun i ob hi rv keep=>?_).1
 ·rcases c_ i ob hi with ⟨rfl,rfl⟩|⟨_,bo⟩
  ·exact ⟨_,hb,rfl⟩
  ·exact ⟨ob,bo,hl⟩
 ·rcases c_ i _ he with ⟨_,h⟩|⟨_,h⟩
  ·cases h
  ·exact h
 ·rcases c_ i _ he with ⟨_,h⟩|⟨_,h⟩
  ·cases h
  ·exact h
 ·rcases c_ i ob hi with ⟨rfl,rfl⟩|⟨_,bo⟩
  ·obtain ⟨h1,cur,e2,h2,h3,h4,h5⟩:=R.objs i _ hb;refine ⟨h1,cur,e2,h2,by simpa using h3,fun c hc=>?_,fun k c hk=>?_⟩
   ·rcases List.mem_or_eq_of_mem_set hc with h|rfl
    ·exact h4 c h
    ·rfl
   ·rw [List.getElem?_set] at hk;by_cases he:j=k
    ·subst he;have bM:j < cs.length:=(List.getElem?_eq_some_iff.1 hj).1;rw [if_pos rfl,if_pos bM] at hk;simp only [Option.some.injEq] at hk;subst hk;obtain ⟨u,hu,hv⟩:=h5 j _ hj;obtain ⟨A,m,c,rfl,_,_⟩:=hv.osl_inv;refine ⟨_,hu,.osl _ _ _ _ (by simpa using dk) (fun e3 uy uz sT iZ=>?_) fun e3 uy uz DN DO iZ=>?_⟩
     ·rw [List.getElem?_set_self dk] at iZ;cases iZ
     ·rw [List.getElem?_set_self dk] at iZ;cases iZ
    ·rw [if_neg he] at hk;obtain ⟨u,hu,hv⟩:=h5 k c hk;exact ⟨u,hu,keep hv⟩
  ·exact absurd bo rv
theorem sZ {c b:Code} {Q:Exit→VS→Prop} (T:VS) (h1:∀ K:VS→Prop,(∀ aI,Le aI T→K aI)→VWp P M0 w0 N c (lk K Q) st) (h2:VWp P M0 w0 N b Q T) : VWp P M0 w0 N c (lk (VWp P M0 w0 N b Q) Q) st:=h1 _ fun _ hle=>vle hle h2
end
section
variable {P:Program} {w:World} {M:Nat→Nat→Prop}
theorem I3 {t:TypeId} {ti:TI} {cs:List AV} {v:Value} (aV:aU P t=some ti) (hk:ti.kind=2) (hz:0 < ti.esz) (lS:cs.length=ti.len*ti.esz) (aq:0 < ti.len) (hx:V0 w M (.vp cs) v) :
  ∃ u,(Instr.sliceAt t v none none none).run P w = .ok u w∧V0 w M (.sl ti.esz (ju ti.esz ti.len cs)) u:=by
 have s0:ti.esz=dJ P ti.elem:=by obtain ⟨d,i,z,hd,hi,hz,fK,rfl⟩:=ff aV;rfl
 cases hx with
 | vp _ b o u hb hM h1 aF iM=>
  refine ⟨.slice (some ⟨b,o,none⟩) ti.len ti.len,?_,?_⟩
  ·have:=D0 ⟨b,o,none⟩ (P:=P) w;simp only [Instr.sliceAt,Sem.run_bind,run_underlying (uM aV hk),Result.andThen_ok,this,Instr.sliceBounds,Sem.run_pure,kB (show 0 < dJ P ti.elem by omega)];simp only [Nat.sub_zero,Nat.zero_mul,jv,Nat.add_zero,ite_self]
  ·have oA:=xo ti.esz ti.len cs;have bf:=fun k e=>xp ti.esz ti.len cs k e (by omega);have ak:∀ k j,k < ti.len→j < ti.esz→k*ti.esz+j < cs.length:=fun k j hk hj=>by
    have:(k+1)*ti.esz≤ti.len*ti.esz:=Nat.mul_le_mul_right _ hk;rw [Nat.add_mul,Nat.one_mul] at this;omega
   have key:V0 w M (.sl ti.esz (ju ti.esz ti.len cs)) (.slice (some ⟨b,o,none⟩) (ju ti.esz ti.len cs).length ti.len):=by
    refine .sl ti.esz _ _ b o (fun k j=>u (k*ti.esz+j)) (fun hn=>?_) hb (fun k j hk hj=>?_) (by omega) (fun k e he=>(bf k e he).1) (fun k e j c he hc=>?_) (fun k j hk hj=>?_) (fun k e j c he hc=>?_)
    ·rw [hn] at oA;simp at oA;omega
    ·rw [Nat.add_assoc];exact hM _ (ak k j (by omega) hj)
    ·exact h1 _ (List.mem_of_getElem? ((bf k e he).2 j c hc))
    ·rw [Nat.add_assoc];exact aF _ (ak k j (by omega) hj)
    ·exact iM _ _ ((bf k e he).2 j c hc)
   rwa [oA] at key
end
section
variable {P:Program} {M0:Nat→Nat→Prop} {w0:Bas} {N:Nm} {p:Pl} {st:VS} {ops l:List Oper} {Q:Exit→VS→Prop}
theorem I4 {o:Oper} {t:TypeId} {x:Operand} {cs:List AV} {ti:TI} (cS:o.op = .slice t x none none none) (hg:o.guard=none) (aV:aU P t=some ti) (hk:ti.kind=2) (hz:0 < ti.esz) (lS:cs.length=ti.len*ti.esz) (aq:0 < ti.len) (hx:ev st x = .vp cs)
  (k:VL P M0 w0 N ops Q l (st.put o.dst (.sl ti.esz (ju ti.esz ti.len cs)))) : VL P M0 w0 N ops Q (o::l) st:=fun dM hB p a w R=>by
 simp only [List.all_cons,Bool.and_eq_true] at hB;refine wpList_step fun X Y=>?_;have s4:=R.eval x;rw [hx] at s4;obtain ⟨cQ,_⟩:=s4.vp_inv;obtain ⟨u,aB,hu⟩:=I3 aV hk hz lS aq cQ;have ku:o.wp P a w X (fun e a' w'=>∃ aI p',Rel M0 w0 N p' aI a' w'∧Q e aI):=by
  obtain ⟨dst,op,ty,pos,after,guard⟩:=o;simp only at cS hg;subst cS hg;unfold Oper.wp;simp [execOp,aB,Result.andThen];exact Y _ _ (k dM hB.2 p _ w (R.put (dZ hB.1) (.base _ _ hu)))
 simp only [Region.wanted,hg,if_true];exact ku
end
end Go.Proofs.YtoibondihdhnoaaGreatDoor
