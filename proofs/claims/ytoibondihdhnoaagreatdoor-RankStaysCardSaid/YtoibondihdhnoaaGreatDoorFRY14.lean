/- Texts in one: A drawing region one of whose operations changes memory of the call's own, whichever others stand behind it: of every program; no condition. -/
import Derived.Test.YtoibondihdhnoaaGreatDoorFRY7
import Derived.Test.YtoibondihdhnoaaGreatDoorFRY13
import Derived.Test.YtoibondihdhnoaaGreatDoorFRY12
namespace Go.Proofs.YtoibondihdhnoaaGreatDoor
open Go.RowKit
def pzB (π:AV→AV) (b:Bool) (v:AV) : AV:=if b then π v else v
section
variable {P:Program} {M0:Nat→Nat→Prop} {w0:Bas} {N:Nm} {p:Pl} {st:VS} {a:Act} {w:World} {Q:Exit→VS→Prop}
def xr (P:Program) (M0:Nat→Nat→Prop) (w0:Bas) (N:Nm) (h0:Hp) (E:Operand→AV) (o:Oper) (d:Nat) (av:AV) (π:AV→AV) (h1:Hp) : Prop:=
 cW N o=true→∀ (p:Pl) (a:Act) (w:World) (s:List (Nat×AV)),Rel M0 w0 N p ⟨s,h0⟩ a w→(∀ z∈o.op.operands,ev ⟨s,h0⟩ z=E z)→∀ (K':Act→World→Prop) (Q:Exit→Act→World→Prop),
  (∀ p' a' w',Rel M0 w0 N p' ⟨(d,av)::s.map (fun q=>(q.1,π q.2)),h1⟩ a' w'→K' a' w')→o.wp P a w K' Q
theorem mQ {id:Nat} {l:List Oper} (n:Nat) (ls:List Nat) (hm:P.follows .mixedOrders=true) (hB:Region.specB l.toArray (n+1)=true) (AF:xt l n=ls) {so:Oper} {d:Nat} (π:AV→AV) (hπ:∀ (s:List (Nat×AV)) (t:Nat),lkp (s.map fun q=>(q.1,π q.2)) t=π (lkp s t)) (iu:l[n]? = some so) (oo:so.guard=none∧so.dst=some d)
  (h:jt P l (l.take n) st fun T=>∃ (av:AV) (h1:Hp),xr P M0 w0 N T.h (ev T) so d av π h1∧(∀ t∈ls,π (lkp T.s t)=lkp T.s t)∧jt P l (l.take n) ⟨st.s,h1⟩ (fun T2=>∀ t∈ls,lkp T2.s t=lkp T.s t)∧VL P M0 w0 N l Q (l.drop (n+1)) ⟨(d,av)::T.s.map (fun q=>(q.1,π q.2)),h1⟩) : VWp P M0 w0 N (.region id l.toArray true) Q st:=fun ju p0 a0 va R0=>by
 have hN:l.all (cW N)=true:=by simpa [fg] using ju
 obtain ⟨rs,eb,⟨av,h1,fY,mm,f_,hK⟩,S⟩:=tA _ _ h;obtain ⟨ke,AG,AH,I5⟩:=tA _ _ f_;have dp:=hB;simp only [Region.specB,Bool.and_eq_true,decide_eq_true_eq] at dp;obtain ⟨⟨⟨⟨⟨⟨_,aL⟩,_⟩,_⟩,hd⟩,bb⟩,_⟩:=dp;have eY:n+1 < l.length:=by simpa using aL
 have du:dS (l.take (n+1))=true:=by simpa using hd
 have xu:dS (l.take n)=true:=by
  have:=ot (l.take (n+1)) n du;rwa [List.take_take,Nat.min_eq_left (Nat.le_succ n)] at this
 have hlen:(l.take n).length=n:=by simp;omega
 rw [hlen] at eb;have bm:∀ {i:Nat} {o:Oper},i < n→l[i]? = some o→(l.take n)[i]? = some o:=fun {i o} hi ho=>by rw [List.getElem?_take_of_lt hi];exact ho
 have jb:∀ {i:Nat} {o:Oper},i < n+1→l[i]? = some o→(l.take (n+1))[i]? = some o:=fun {i o} hi ho=>by rw [List.getElem?_take_of_lt hi];exact ho
 have kg:∀ {i:Nat} {o:Oper},(l.take n)[i]? = some o→i < n∧l[i]? = some o:=fun {i o} ho=>by
  have hi:i < n:=by have:=(List.getElem?_eq_some_iff.1 ho).1;omega
  rw [List.getElem?_take_of_lt hi] at ho;exact ⟨hi,ho⟩
 have ee:∀ {i:Nat},i < n→rs[i]? = some (rs.getD i .any):=fun {i} hi=>by simp [List.getD,show i < rs.length by omega]
 have cC:∀ i,i < n+1→∀ o,l[i]? = some o→∀ t∈o.looksAt l.toArray,∀ j,j < n+1→∀ q,l[j]? = some q→q.dst=some t→Region.waitsFor .any l.toArray i j=true∧j < i:=by
  intro i hi o ho;have h:=List.all_eq_true.1 bb i (List.mem_range.2 hi);simp only [List.getElem?_toArray,ho,Bool.and_eq_true] at h;have fK:∀ e∈o.after,Region.binds .any e=true→e.on < i:=fun e he hb=>by
   have h1:=Array.all_eq_true'.1 h.2 e he;simp only [hb,Bool.not_true,Bool.false_or,decide_eq_true_eq] at h1;exact h1
  intro t ht j hj q hq aH;have h1:=List.all_eq_true.1 (List.all_eq_true.1 h.1 t ht) j (List.mem_range.2 hj);simp only [hq,Option.bind_some,aH,bne_self_eq_false,Bool.false_or] at h1;refine ⟨h1,?_⟩;obtain ⟨o',aT,e,he,hb,cD⟩:=Region.waitsFor_spec h1;have:o'=o:=Option.some.inj (aT.symm.trans (by simpa using ho));subst this;rw [←cD];exact fK e he hb
 have aX:∀ {i j:Nat} {q:Oper} {t:Nat},j < i→i≤n→l[j]? = some q→q.dst=some t→lkp (aQ st ((l.take n).take i) (rs.take i)).s t=rs.getD j .any:=fun {i j q t} hj hi hq ht=>
  mR ((l.take n).take i) (rs.take i) st t j q (rs.getD j .any) (ot _ _ xu) (by rw [List.getElem?_take_of_lt hj];exact bm (by omega) hq) (by rw [List.getElem?_take_of_lt hj];exact ee (by omega)) ht
 have aW:∀ {i t:Nat},(∀ j q,j < n→l[j]? = some q→q.dst≠some t)→lkp (aQ st ((l.take n).take i) (rs.take i)).s t=lkp st.s t:=fun {i t} ho=>
  mn _ _ _ _ fun q hq he=>by
   obtain ⟨j,hj⟩:=List.mem_iff_getElem?.1 (List.mem_of_mem_take hq);obtain ⟨h1,h2⟩:=kg hj;exact ho j q h1 h2 he
 have bp:aQ st (l.take n) rs=aQ st ((l.take n).take n) (rs.take n):=by
  rw [List.take_of_length_le (l:=l.take n) (by rw [hlen];exact Nat.le_refl _),List.take_of_length_le (l:=rs) (by omega)]
 refine wp_region_any hm ?_;have mS:∀ {j:Nat} {q:Oper} {d':Nat},j < n→l[j]? = some q→q.dst=some d'→d'≠d:=fun {j q d'} hj hq aH he=>by
  subst he;have:j=n:=ou du (jb (by omega) hq) (jb (Nat.lt_succ_self n) iu) aH oo.2;omega
 have rE:∀ t,lkp (aQ st (l.take n) rs).s t=lkp (aQ st ((l.take n).take n) (rs.take n)).s t:=fun t=>by rw [←bp]
 have kA:∀ {i:Nat} {o:Oper} {t:Nat},i < n→l[i]? = some o→gV l n n i=false→t∈o.looksAt l.toArray++o.dst.toList→t∈ls:=fun {i o t} hi ho fZ ht=>by
  rw [←AF];unfold xt;refine List.mem_flatMap.2 ⟨i,List.mem_range.2 hi,?_⟩;rw [fZ,ho];simpa using ht
 have fq:∀ {i:Nat} {o:Oper} {t:Nat},i < n→l[i]? = some o→gV l n n i=false→t∈o.looksAt l.toArray++o.dst.toList→π (lkp (aQ st ((l.take n).take n) (rs.take n)).s t)=lkp (aQ st ((l.take n).take n) (rs.take n)).s t:=fun {i o t} hi ho fZ ht=>by
  rw [←bp];exact mm t (kA hi ho fZ ht)
 have mT:ke.length=n:=by rw [AG,hlen]
 have vb:∀ {i:Nat},i < n→ke[i]? = some (ke.getD i .any):=fun {i} hi=>by simp [List.getD,show i < ke.length by omega]
 have jc:∀ {i j:Nat} {q:Oper} {t:Nat},j < i→i≤n→l[j]? = some q→q.dst=some t→lkp (aQ ⟨st.s,h1⟩ ((l.take n).take i) (ke.take i)).s t=ke.getD j .any:=fun {i j q t} hj hi hq ht=>
  mR ((l.take n).take i) (ke.take i) ⟨st.s,h1⟩ t j q (ke.getD j .any) (ot _ _ xu) (by rw [List.getElem?_take_of_lt hj];exact bm (by omega) hq) (by rw [List.getElem?_take_of_lt hj];exact vb (by omega)) ht
 have mU:∀ {i t:Nat},(∀ j q,j < n→l[j]? = some q→q.dst≠some t)→lkp (aQ ⟨st.s,h1⟩ ((l.take n).take i) (ke.take i)).s t=lkp st.s t:=fun {i t} ho=>
  mn _ _ ⟨st.s,h1⟩ _ fun q hq he=>by
   obtain ⟨j,hj⟩:=List.mem_iff_getElem?.1 (List.mem_of_mem_take hq);obtain ⟨h1,h2⟩:=kg hj;exact ho j q h1 h2 he
 have rF:aQ ⟨st.s,h1⟩ (l.take n) ke=aQ ⟨st.s,h1⟩ ((l.take n).take n) (ke.take n):=by
  rw [List.take_of_length_le (l:=l.take n) (by rw [hlen];exact Nat.le_refl _),List.take_of_length_le (l:=ke) (by omega)]
 have vc:∀ t∈ls,lkp (aQ ⟨st.s,h1⟩ ((l.take n).take n) (ke.take n)).s t=lkp (aQ st ((l.take n).take n) (rs.take n)).s t:=fun t ht=>by
  rw [←bp,←rF];exact AH t ht
 have AI:∀ {i:Nat} {o:Oper},i < n→l[i]? = some o→gV l n n i=false→∀ t∈o.looksAt l.toArray,lkp (aQ ⟨st.s,h1⟩ ((l.take n).take i) (ke.take i)).s t=lkp (aQ st ((l.take n).take i) (rs.take i)).s t:=fun {i o} hi ho fZ t ht=>by
  have h3:=vc t (kA hi ho fZ (List.mem_append_left _ ht));by_cases hex:∃ (j:Nat) (q:Oper),j < n∧l[j]? = some q∧q.dst=some t
  ·obtain ⟨j,q,hj,hq,aH⟩:=hex;obtain ⟨_,h5⟩:=cC i (by omega) o ho t ht j (by omega) q hq aH;rw [jc hj (Nat.le_refl _) hq aH,aX hj (Nat.le_refl _) hq aH] at h3;rw [jc h5 (by omega) hq aH,aX h5 (by omega) hq aH];exact h3
  ·have jd:∀ j q,j < n→l[j]? = some q→q.dst≠some t:=fun j q hj hq he=>hex ⟨j,q,hj,hq,he⟩;rw [mU jd,aW jd]
 have AJ:∀ {i:Nat} {o:Oper} {t:Nat},i < n→l[i]? = some o→gV l n n i=false→o.dst=some t→ke.getD i .any=rs.getD i .any:=fun {i o t} hi ho fZ ht=>by
  have h3:=vc t (kA hi ho fZ (List.mem_append_right _ (by rw [ht];simp)));rw [jc hi (Nat.le_refl _) ho ht,aX hi (Nat.le_refl _) ho ht] at h3;exact h3
 refine tu (Inv:=fun listed a w=>HeadInv .any l.toArray (n+1) listed∧∃ (p:Pl) (s:List (Nat×AV)),Rel M0 w0 N p ⟨s,if listed.getD n false=true then h1 else st.h⟩ a w ∧
   (∀ (j:Nat) (q:Oper) (d:Nat),j < n→listed.getD j false=true→l[j]? = some q→q.dst=some d→lkp s d=pzB π (listed.getD n false) (rs.getD j .any)) ∧
   (∀ t,t≠d→(∀ j q,j < n→l[j]? = some q→q.dst≠some t)→lkp s t=pzB π (listed.getD n false) (lkp st.s t))∧(listed.getD n false=true→lkp s d=av)) hB (fun _ _ _ inv=>inv.1) ?_ ?_ _ _ _ _ ?_ (by simp)
 ·rintro listed a w i o ⟨head,p,s,R,S1,S2,S3⟩ hi bg ho fm;have aT:l[i]? = some o:=by simpa using ho
  obtain ⟨_,o2,lN,c_⟩:=mem_ready.1 hi;have:o2=o:=Option.some.inj (lN.symm.trans ho);subst this;have bI:i < listed.size:=by rw [head.size];simpa using (by omega:i < l.length)
  have cg:(listed.setIfInBounds i true).getD i false=true:=by simp [bI]
  have aZ:∀ {j:Nat},i≠j→(listed.setIfInBounds i true).getD j false=listed.getD j false:=fun ax=>getD_set_ne false ax;have bT:∀ j,Region.waitsFor .any l.toArray i j=true→listed.getD j false=true:=by
   intro j hj;obtain ⟨o3,mV,e,he,hb,cD⟩:=Region.waitsFor_spec hj;have:o3=o2:=Option.some.inj (mV.symm.trans ho);subst this;rw [←cD];exact c_ e he hb
  have mW:∀ t∈o2.looksAt l.toArray,t≠d:=fun t ht he=>by
   subst he;have:=(cC i bg o2 aT t ht n (Nat.lt_succ_self n) so iu oo.2).2;omega
  have cT:∀ {k:Nat},i≤k→k≤n→∀ t∈o2.looksAt l.toArray,lkp s t=pzB π (listed.getD n false) (lkp (aQ st ((l.take n).take k) (rs.take k)).s t):=fun {k} rG lO t ht=>by
   by_cases hex:∃ (j:Nat) (q:Oper),j < n∧l[j]? = some q∧q.dst=some t
   ·obtain ⟨j,q,hj,hq,aH⟩:=hex;obtain ⟨h1,h2⟩:=cC i bg o2 aT t ht j (by omega) q hq aH;rw [aX (by omega) lO hq aH];exact S1 j q t hj (bT j h1) hq aH
   ·have bD:∀ j q,j < n→l[j]? = some q→q.dst≠some t:=fun j q hj hq he=>hex ⟨j,q,hj,hq,he⟩;rw [aW bD,S2 t (mW t ht) bD]
  have cA:∀ {j:Nat} {q:Oper} {d d':Nat},j < n→j≠i→l[j]? = some q→q.dst=some d→o2.dst=some d'→d'≠d:=fun {j q d d'} hj cU hq aH dT he=>by
   subst he;exact cU (ou du (jb (by omega) hq) (jb bg aT) aH dT)
  by_cases vd:i=n
  ·subst vd;have:o2=so:=Option.some.inj (aT.symm.trans iu);subst this;have dK:=getD_both fm;rw [dK] at R;simp only [Bool.false_eq_true,if_false] at R;have rH:∀ z:Operand,z∈o2.op.operands→ev ⟨s,(aQ st (l.take i) rs).h⟩ z=ev (aQ st (l.take i) rs) z:=fun z hz=>by
    cases z with
    | tmp t=>
     show lkp s t=lkp _ t;rw [bp];have:=cT (Nat.le_refl _) (Nat.le_refl _) t (List.mem_append_left _ (List.mem_filterMap.2 ⟨.tmp t,by simpa using hz,rfl⟩));rw [dK] at this;exact this
    | const v=>rfl
    | global g=>rfl
    | func f=>rfl
   unfold wpOp;simp only [ho];rw [if_pos (by simp [Region.wanted,oo.1])];refine Or.inl ?_;refine fY (List.all_eq_true.1 hN o2 (List.mem_of_getElem? aT)) p a w s (by rw [eZ];exact R) (fun z hz=>by
    rw [eZ];have:=rH z hz;rw [eZ] at this;exact this) _ _ fun p' a' w' R'=>?_
   refine ⟨head.set hi bg,p',_,by rw [cg];exact R',fun j q d' hj hl hq aH=>?_,fun t pg ht=>?_,fun _=>by simp [lkp]⟩
   ·rw [cg,lkp,if_neg (fun e=>mS hj hq aH e.symm),hπ];rw [aZ (by omega)] at hl;have:=S1 j q d' hj hl hq aH;rw [dK] at this;rw [this];rfl
   ·rw [cg,lkp,if_neg (fun e=>pg e.symm),hπ];have:=S2 t pg ht;rw [dK] at this;rw [this];rfl
  ·have dz:i < n:=by omega
   have ar:=S i o2 (rs.getD i .any) (bm dz aT) (ee dz);have fr:((listed.setIfInBounds i true).getD n false)=listed.getD n false:=aZ vd;have rI:∀ t,o2.dst=some t→pzB π (listed.getD n false) (rs.getD i .any)=rs.getD i .any:=fun t ht=>by
    cases hb:listed.getD n false
    ·rfl
    ·have fZ:gV l n n i=false:=by
      cases hc:gV l n n i
      ·rfl
      ·have:=ph head n n i (fun j hj=>by
        obtain ⟨o6,lP,e,he,fC,cD⟩:=Region.waitsFor_spec hj;have:=head.closed n o6 lP hb e he fC;rwa [cD] at this) hc
       rw [getD_both fm] at this;cases this
     have:=fq (t:=t) dz aT fZ (List.mem_append_right _ (by rw [ht];simp));rw [aX dz (Nat.le_refl _) aT ht] at this;exact this
   have fin:∀ r v w',(∀ t,o2.dst=some t→r=rs.getD i .any)→V1 w' (Mof M0 (if listed.getD n false=true then h1 else st.h) p) (if listed.getD n false=true then h1 else st.h) p r v→Below w.heap.size w w'→(fun listed a w=>HeadInv .any l.toArray (n+1) listed∧∃ (p:Pl) (s:List (Nat×AV)),Rel M0 w0 N p ⟨s,if listed.getD n false=true then h1 else st.h⟩ a w ∧
     (∀ (j:Nat) (q:Oper) (d:Nat),j < n→listed.getD j false=true→l[j]? = some q→q.dst=some d→lkp s d=pzB π (listed.getD n false) (rs.getD j .any)) ∧
     (∀ t,t≠d→(∀ j q,j < n→l[j]? = some q→q.dst≠some t)→lkp s t=pzB π (listed.getD n false) (lkp st.s t))∧(listed.getD n false=true→lkp s d=av)) (listed.setIfInBounds i true) (a.put o2.dst v) w':=fun r v w' tB hv hb=>by
    have R':=(R.later hb).put (d:=o2.dst) (fh (List.all_eq_true.1 hN o2 (List.mem_of_getElem? aT))) hv;have cO:(VS.put ⟨s,if listed.getD n false=true then h1 else st.h⟩ o2.dst r)=⟨(VS.put ⟨s,if listed.getD n false=true then h1 else st.h⟩ o2.dst r).s,if listed.getD n false=true then h1 else st.h⟩:=by cases o2.dst<;>rfl
    rw [cO] at R';refine ⟨head.set hi bg,p,_,by rw [fr];exact R',fun j q d hj hl hq aH=>?_,fun t pg ht=>?_,fun hl=>?_⟩
    ·rw [gW,fr];by_cases cU:j=i
     ·subst cU;have:q=o2:=Option.some.inj (hq.symm.trans aT);subst this;rw [if_pos aH,rI d aH];exact tB d aH
     ·rw [if_neg fun e=>cA hj cU hq aH e rfl];rw [aZ (Ne.symm cU)] at hl;exact S1 j q d hj hl hq aH
    ·rw [gW,if_neg (ht i o2 dz aT),fr];exact S2 t pg ht
    ·rw [fr] at hl;rw [gW,if_neg fun e=>mS dz aT e rfl];exact S3 hl
   have mX:∀ t∈o2.looksAt l.toArray,lkp s t=lkp (aQ st ((l.take n).take i) (rs.take i)).s t:=fun t ht=>by
    have h2:=cT (Nat.le_refl i) (by omega) t ht;have h3:=cT (show i≤n by omega) (Nat.le_refl n) t ht;cases hb:listed.getD n false
    ·rw [hb] at h2;exact h2
    ·have fZ:gV l n n i=false:=by
      cases hc:gV l n n i
      ·rfl
      ·have:=ph head n n i (fun j hj=>by
        obtain ⟨o6,lP,e,he,fC,cD⟩:=Region.waitsFor_spec hj;have:=head.closed n o6 lP hb e he fC;rwa [cD] at this) hc
       rw [getD_both fm] at this;cases this
     have bD:=fq dz aT fZ (List.mem_append_left _ ht);rw [hb] at h2 h3;by_cases hex:∃ (j:Nat) (q:Oper),j < n∧l[j]? = some q∧q.dst=some t
     ·obtain ⟨j,q,hj,hq,aH⟩:=hex;obtain ⟨_,h5⟩:=cC i bg o2 aT t ht j (by omega) q hq aH;rw [aX hj (Nat.le_refl _) hq aH] at bD;rw [aX h5 (by omega) hq aH] at h2 ⊢;rw [h2];exact bD
     ·have jd:∀ j q,j < n→l[j]? = some q→q.dst≠some t:=fun j q hj hq he=>hex ⟨j,q,hj,hq,he⟩;rw [aW jd] at bD;rw [aW jd] at h2 ⊢;rw [h2];exact bD
   obtain ⟨Sx,r,pj,I6,DY,tB⟩ : ∃ (Sx:VS) (r:AV),kh P l o2 Sx r∧Sx.h=(if listed.getD n false=true then h1 else st.h)∧(∀ t∈o2.looksAt l.toArray,lkp s t=lkp Sx.s t)∧∀ t,o2.dst=some t→r=rs.getD i .any:=by
    cases hb:listed.getD n false
    ·exact ⟨_,_,ar,by rw [eZ];rfl,mX,fun _ _=>rfl⟩
    ·have fZ:gV l n n i=false:=by
      cases hc:gV l n n i
      ·rfl
      ·have:=ph head n n i (fun j hj=>by
        obtain ⟨o6,lP,e,he,fC,cD⟩:=Region.waitsFor_spec hj;have:=head.closed n o6 lP hb e he fC;rwa [cD] at this) hc
       rw [getD_both fm] at this;cases this
     exact ⟨_,_,I5 i o2 (ke.getD i .any) (bm dz aT) (vb dz),by rw [eZ];rfl,fun t ht=>(mX t ht).trans (AI dz aT fZ t ht).symm,fun t ht=>AJ dz aT fZ ht⟩
   have bU:fi P Sx.h (ev Sx) o2.op r→gives P o2 a w fun v w''=>V1 w'' (Mof M0 (if listed.getD n false=true then h1 else st.h) p) (if listed.getD n false=true then h1 else st.h) p r v∧Below w.heap.size w w'':=by
    intro hg;rw [I6] at hg;refine pk R.objs R.mok R.h0 R.glob (fun _ _ hb=>.inl hb) (fun x hx=>?_) hg;cases x with
    | tmp t=>
     show V1 _ _ _ _ (lkp Sx.s t) _;rw [←DY t (List.mem_append_left _ (List.mem_filterMap.2 ⟨.tmp t,by simpa using hx,rfl⟩))];exact R.slots t
    | const v=>exact .base _ _ (.lit v)
    | global g=>exact .base _ _ (R.evalG g)
    | func f=>exact .base _ _ (.lit _)
   have hy:=fun j=>pb (ops:=l) (j:=j) R hN;have bV:∀ (j:Nat) (want:Bool) (v:Value),o2.guard=some (j,want)→cI l Sx j = .lit v→cI l ⟨s,if listed.getD n false=true then h1 else st.h⟩ j = .lit v:=by
    intro j want v hg hv;unfold cI at hv ⊢;cases hj:l[j]? with
    | none=>simpa [hj] using hv
    | some q=>
     cases hq:q.dst with
     | none=>simpa [hj,hq] using hv
     | some d=>
      have dW:d∈o2.looksAt l.toArray:=by
       unfold Oper.looksAt;refine List.mem_append_right _ ?_;simp [hg,hj,hq]
      simp only [hj,hq] at hv ⊢;rw [DY d dW];exact hv
   unfold wpOp;simp only [ho];unfold kh at pj;split at pj
   ·rename_i hg;rw [if_pos (by simp [Region.wanted,hg])];exact Or.inl (ka (bU pj) rfl fun v w' hv=>fin r v w' tB hv.1 hv.2)
   ·rename_i j want hg;split at pj
    ·rename_i b hb;have ft:=(hy j).1 b (bV j want _ hg hb);split at pj
     ·rename_i hw;subst hw;rw [if_pos (by simp [Region.wanted,hg,ft])];exact Or.inl (ka (bU pj) rfl fun v w' hv=>fin r v w' tB hv.1 hv.2)
     ·rename_i hw;rw [if_neg (by simpa [Region.wanted,hg,ft] using hw)];exact fin r undef w tB (by rw [pj];exact .base _ _ (.lit _)) (Below.refl _ _)
    ·rename_i us hb;have ft:=(hy j).2 us (bV j want _ hg hb);rw [if_neg (by simp [Region.wanted,hg,ft])];exact fin r undef w tB (by rw [pj];exact .base _ _ (.lit _)) (Below.refl _ _)
    ·exact pj.elim
 ·rintro listed a w ⟨head,p,s,R,S1,S2,S3⟩ aF;rw [aF n (by omega)] at R;simp only [if_true] at R;rw [aF n (by omega)] at S1 S2 S3;have R':=R.weak (s':=(d,av)::(aQ st (l.take n) rs).s.map (fun q=>(q.1,π q.2))) fun t=>by
   show lkp ((d,av)::(aQ st (l.take n) rs).s.map (fun q=>(q.1,π q.2))) t=lkp s t∨_;refine .inl ?_;rw [lkp];split
   ·rename_i he;subst he;exact (S3 rfl).symm
   ·rename_i he;rw [hπ,bp];by_cases hex:∃ (j:Nat) (q:Oper),j < n∧l[j]? = some q∧q.dst=some t
    ·obtain ⟨j,q,hj,hq,aH⟩:=hex;rw [aX hj (Nat.le_refl _) hq aH];exact (S1 j q t hj (aF j (by omega)) hq aH).symm
    ·have bD:∀ j q,j < n→l[j]? = some q→q.dst≠some t:=fun j q hj hq he=>hex ⟨j,q,hj,hq,he⟩;rw [aW bD,S2 t (fun e=>he e.symm) bD];rfl
  have ja:(l.drop (n+1)).all (cW N)=true:=List.all_eq_true.2 fun q hq=>List.all_eq_true.1 hN q (List.mem_of_mem_drop hq);exact hK hN ja p _ w R'
 ·refine ⟨⟨by simp,fun j oj _ hl=>(by rw [getD_replicate_false] at hl;cases hl),fun t _ ht=>getD_in (by simpa using ht) (getD_replicate_false _ _)⟩,p0,st.s,?_,fun j q d _ hl=>(by rw [getD_replicate_false] at hl;cases hl),fun _ _ _=>by rw [getD_replicate_false];rfl,fun hl=>(by rw [getD_replicate_false] at hl;cases hl)⟩;rw [getD_replicate_false];exact R0.later (Below.refl _ _).drew
theorem tC {h0:Hp} {E:Operand→AV} {o:Oper} {d t id k e:Nat} {x y:Operand} {ti te:TI} {ak:Option Nat} {qs:List (List (List AV))} {es:List (List AV)} {c:AV} (cT:o.op = .call ⟨.builtin .append,#[x,y],#[t,t]⟩) (hd:o.dst=some d) (hx:E x = .slw id k 1 es) (hy:E y = .sl 1 [[c]])
  (aV:aU P t=some ti) (fD:aU P ti.elem=some te) (hi:h0[id]? = some (some (.bag e 1 false ak qs))) (hc:ti.kind=1∧te.size=1∧te.zero.length=1∧te.bytes≤100000∧k < qs.length∧(ak=none∨ak=some k)∧h0.all (rJ id)=true∧es.length+1≤1000000000) :
  xr P M0 w0 N h0 E o d (.slw id k 1 (es++[[c]])) (unW id) (h0.set id (some (.bag e 1 false (some k) qs))):=fun ve p a w s R hE K' Q' hK=>by
 obtain ⟨dst,op,ty,pos,after,guard⟩:=o;simp only at cT hd;subst cT hd;have ex:ev ⟨s,h0⟩ x = .slw id k 1 es:=(hE x (by simp [Op.operands,Call.operands])).trans hx;have ey:ev ⟨s,h0⟩ y = .sl 1 [[c]]:=(hE y (by simp [Op.operands,Call.operands])).trans hy;obtain ⟨c1,c2,c3,c4,c5,c6,c7,c8⟩:=hc;have ht:mY P ⟨s,h0⟩ ⟨some d,.call ⟨.builtin .append,#[x,y],#[t,t]⟩,ty,pos,after,guard⟩=some ⟨(d,.slw id k 1 (es++[[c]]))::s.map (fun q=>(q.1,unW id q.2)),h0.set id (some (.bag e 1 false (some k) qs))⟩:=by
  unfold mY;simp only [ex,ey,aV,hi,fD];rw [if_pos ⟨trivial,c1,c2,c3,c4,trivial,trivial,trivial,trivial,c5,c6,c7,c8⟩]
 obtain ⟨v,w',p',hh⟩:=DZ (P:=P) R ve ht;unfold Oper.wp;rcases hh with ⟨h1,h2⟩|⟨h1,_,h2⟩
 ·rw [h1];exact hK _ _ _ h2
 ·rw [h1];exact hK _ _ _ h2
theorem xv {h0:Hp} {E:Operand→AV} {o:Oper} {d k e sz:Nat} {nl:Bool} {es:List (List AV)} {xs:Array Operand} {ml:Array TypeId} (cT:o.op = .call ⟨.value (.func k),xs,ml⟩) (hd:o.dst=some d) (hc:VCo P k (xs.toList.map E) e sz nl es) (hp:(xs.toList.map E).all (e8 5)=true) :
  xr P M0 w0 N h0 E o d (.osl h0.length) (fun v=>v) (h0++[some (.arr e sz nl es)]):=fun ve p a w s R hE K' Q' hK=>by
 obtain ⟨dst,op,ty,pos,after,guard⟩:=o;simp only at cT hd;subst cT hd;have eB:xs.toList.map (ev ⟨s,h0⟩)=xs.toList.map E:=List.map_congr_left fun z hz=>hE z (by simp only [Op.operands,Call.operands];exact Array.mem_append_right _ (by simpa using hz));refine D0 (P:=P) (ow:=[d]) (c:=⟨.value (.func k),xs,ml⟩) (d:=d) R ve (by simp [ov]) (e:=e) (sz:=sz) (nl:=nl) (es:=es) ?_ fun p a w R=>hK p a w ?_
 ·unfold vf qe;simp only [ev];simp only [eB];exact ⟨hc,hp⟩
 ·simpa using R
theorem xw (s:List (Nat×AV)) (t:Nat) : lkp (s.map fun q=>(q.1,(fun v=>v) q.2)) t=(fun v=>v) (lkp s t):=by simp
end
section
variable {P:Program} {M0:Nat→Nat→Prop} {w0:Bas} {N:Nm} {p:Pl} {st:VS} {a:Act} {w:World} {Q:Exit→VS→Prop}
theorem V1.conv {w:World} {M M':Nat→Nat→Prop} {h h':Hp} {p p':Pl} {id:Nat} (hM:∀ b j,¬M b j→¬M' b j) (hl:h.length≤h'.length) (hp:∀ i,p' i=p i)
  (hO:∀ i e sz nl es v,h'[i]? = some (some (.arr e sz nl es))→(∀ e sz nl es,h[i]? = some (some (.arr e sz nl es))→Osl w (p i) e sz nl es.length v)→(∀ e sz nl ak qs,h[i]? = some (some (.bag e sz nl ak qs))→Osl w (p i) e 1 nl qs.length v)→Osl w (p i) e sz nl es.length v)
  (hG:∀ i e sz nl ak qs v,h'[i]? = some (some (.bag e sz nl ak qs))→(∀ e sz nl es,h[i]? = some (some (.arr e sz nl es))→Osl w (p i) e sz nl es.length v)→(∀ e sz nl ak qs,h[i]? = some (some (.bag e sz nl ak qs))→Osl w (p i) e 1 nl qs.length v)→Osl w (p i) e 1 nl qs.length v)
  (hW:∀ i k sz v,i≠id→i < h.length→Sp w h p i k sz v→Sp w h' p' i k sz v) :
  ∀ (n:Nat) (av:AV) (v:Value),V1 w M h p av v→dA id n av=true→V1 w M' h' p' av v
 | 0,_,_,_,hb=>by simp [dA] at hb
 | n+1,av,v,hv,hb=>by
  have ih:=V1.conv (w:=w) (p:=p) (h:=h) hM hl hp hO hG hW n;cases hv with
  | base _ _ h0=>exact .base _ _ (h0.keep (Keeps.refl _ _) fun b j _=>hM b j)
  | agg cs us hl h1 hv=>
   simp only [dA] at hb;exact .agg cs us hl h1 fun i c u hc hu=>ih c u (hv i c u hc hu) (List.all_eq_true.1 hb c (List.mem_of_getElem? hc))
  | tup cs us hl hv=>
   simp only [dA] at hb;exact .tup cs us hl fun i c u hc hu=>ih c u (hv i c u hc hu) (List.all_eq_true.1 hb c (List.mem_of_getElem? hc))
  | fn f x y us vs hl bj hv bA=>
   simp only [dA,Bool.and_eq_true] at hb;exact .fn f x y us vs hl bj (fun i c u hc hu=>ih c u (hv i c u hc hu) (List.all_eq_true.1 hb.1 c (List.mem_of_getElem? hc))) (fun i c u hc hu=>ih c u (bA i c u hc hu) (List.all_eq_true.1 hb.2 c (List.mem_of_getElem? hc)))
  | iface t x u hv=>exact .iface t x u (ih x u hv (by simpa [dA] using hb))
  | ref i off hid=>rw [←hp i];exact .ref i off (Nat.lt_of_lt_of_le hid hl)
  | aref i sz k off hid=>rw [←hp i];exact .aref i sz k off (Nat.lt_of_lt_of_le hid hl)
  | osl i A m c hid hv lJ=>exact .osl i A m c (Nat.lt_of_lt_of_le hid hl) (fun e sz nl es he=>by rw [hp i];exact hO i e sz nl es _ he hv lJ) fun e sz nl ak qs he=>by rw [hp i];exact hG i e sz nl ak qs _ he hv lJ
  | slw i k sz es _ hid h0 hs=>
   have hn:i≠id:=by simpa [dA] using hb
   exact .slw i k sz es v (Nat.lt_of_lt_of_le hid hl) (h0.keep (Keeps.refl _ _) fun b j _=>hM b j) (hW i k sz v hn hid hs)
  | mp i hid=>rw [←hp i];exact .mp i (Nat.lt_of_lt_of_le hid hl)
theorem Rel.retell {h2:Hp} {p':Pl} {ob ob2:Ob} {id:Nat} (R:Rel M0 w0 N p st a w) (hi:st.h[id]? = some (some ob)) (hh:h2=st.h.set id (some ob2)) (jv:cn ob2=true→cn ob=true) (eJ:∀ i,p' i=p i) (ga:∀ i,i≠id→p'.S i=p.S i) (hS:∀ b j,p'.S id b j→p.S id b j)
  (f:AV→AV) (cC:∀ (s:List (Nat×AV)) (t:Nat),lkp (s.map fun q=>(q.1,f q.2)) t=f (lkp s t))
  (hf:(∀ b j,¬Mof M0 st.h p b j→¬Mof M0 h2 p' b j)→∀ {x:AV} {u:Value},V1 w (Mof M0 st.h p) st.h p x u→V1 w (Mof M0 h2 p') h2 p' (f x) u)
  (je:∀ (i:Nat) (cs:List AV),i≠id→st.h[i]? = some (some (.box cs))→∀ c∈cs,f c=c)
  (iJ:(∀ b j,¬Mof M0 st.h p b j→¬Mof M0 h2 p' b j)→ObOK w0 w (Mof M0 h2 p') h2 p' id ob2) : Rel M0 w0 N p' ⟨st.s.map (fun q=>(q.1,f q.2)),h2⟩ a w:=by
 subst hh;have hid:=(List.getElem?_eq_some_iff.1 hi).1;have eN:(st.h.set id (some ob2))[id]? = some (some ob2):=List.getElem?_set_self hid;have dw:∀ (i:Nat) (o:Ob),i≠id→(st.h.set id (some ob2))[i]? = some (some o)→st.h[i]? = some (some o):=fun i o hn h=>by rwa [List.getElem?_set_ne (Ne.symm hn)] at h
 have qg:∀ {i b j},p'.O i b j→p.O i b j:=fun {i b j} hO=>by
  rcases hO with hO|hO
  ·exact .inl (by rw [←eJ];exact hO)
  ·by_cases he:i=id
   ·subst he;exact .inr (hS b j hO)
   ·rw [ga i he] at hO;exact .inr hO
 have hM:∀ b j,¬Mof M0 st.h p b j→¬Mof M0 (st.h.set id (some ob2)) p' b j:=fun b j hn hm=>by
  rcases hm with hm|⟨i,o,aG,bs,hO⟩
  ·exact hn (.inl hm)
  ·by_cases he:i=id
   ·subst he;rw [eN] at aG;simp only [Option.some.injEq] at aG;subst aG;exact hn (.inr ⟨i,_,hi,jv bs,qg hO⟩)
   ·exact hn (.inr ⟨i,o,dw i o he aG,bs,qg hO⟩)
 have hV:=fun {x:AV} {u:Value} => hf hM (x:=x) (u:=u);refine ⟨R.defers,R.size,R.below,R.m0,R.x0,fun i=>?_,fun i o aG=>?_,fun i i' o o' aG bn bs dX x j j' hO ct=>?_⟩
 ·show V1 _ _ _ _ (lkp (st.s.map fun q=>(q.1,f q.2)) i) _;rw [cC];exact hV (R.slots i)
 ·by_cases he:i=id
  ·subst he;rw [eN] at aG;simp only [Option.some.injEq] at aG;subst aG;exact iJ hM
  ·have bn:=dw i o he aG;exact (R.objs i o bn).keep (fun _=>⟨eJ i,ga i he⟩) (fun _ _ _ _ _=>rfl) (Nat.le_refl _) (fun hx=>hx.keep (Keeps.refl _ _) fun b j _=>hM b j) fun cs bW c hc u hx=>by
    have:=hV hx;rw [je i cs he (by rw [bn,bW]) c hc] at this;exact this
 ·have key:∀ {i o},(st.h.set id (some ob2))[i]? = some (some o)→cn o=true→∃ o1,st.h[i]? = some (some o1)∧cn o1=true:=fun {i o} aG bs=>by
   by_cases he:i=id
   ·subst he;rw [eN] at aG;simp only [Option.some.injEq] at aG;subst aG;exact ⟨_,hi,jv bs⟩
   ·exact ⟨o,dw i o he aG,bs⟩
  obtain ⟨o1,e1,l1⟩:=key aG bs;obtain ⟨o2,e2,l2⟩:=key bn dX;exact R.inj i i' o1 o2 e1 e2 l1 l2 x j j' (qg hO) (qg ct)
theorem D7 {w:World} {M M':Nat→Nat→Prop} {h h':Hp} {p p':Pl} {id:Nat} (hM:∀ b j,¬M b j→¬M' b j) (hV:∀ (av:AV) (v:Value),V1 w M h p av v→dA id 5 av=true→V1 w M' h' p' av v) {x:AV} {u:Value} (hx:V1 w M h p x u) : V1 w M' h' p' (unW id x) u:=by
 by_cases hs:∃ i k sz es,x = .slw i k sz es
 ·obtain ⟨i,k',bw,es',rfl⟩:=hs;by_cases hn:i=id
  ·rw [show unW id (.slw i k' bw es') = .sl bw es' from if_pos hn];exact .base _ _ (hx.slw_inv.2.1.keep (Keeps.refl _ _) fun b j _=>hM b j)
  ·rw [show unW id (.slw i k' bw es') = .slw i k' bw es' from if_neg hn];exact hV _ _ hx (by simpa [dA] using hn)
 ·have e:unW id x=if dA id 5 x=true then x else .any:=by cases x<;>first|rfl|exact absurd ⟨_,_,_,_,rfl⟩ hs
  rw [e];split
  ·rename_i hn;exact hV _ _ hx hn
  ·exact .base _ _ (.any _)
theorem D8 {id:Nat} {c:AV} (h:dA id 5 c=true) : unW id c=c:=by
 by_cases hs:∃ i k sz es,c = .slw i k sz es
 ·obtain ⟨i,k,sz,es,rfl⟩:=hs;have hn:i≠id:=by simpa [dA] using h
  exact if_neg hn
 ·have e:unW id c=if dA id 5 c=true then c else .any:=by cases c<;>first|rfl|exact absurd ⟨_,_,_,_,rfl⟩ hs
  rw [e,if_pos h]
theorem Rel.toBag {id e n sz:Nat} (R:Rel M0 w0 N p st a w) (hi:st.h[id]? = some (some (.arr e 1 false (List.replicate n [.lit (.slice none 0 0)])))) (aM:0 < sz) (aF:st.h.all (rJ id)=true) :
  Rel M0 w0 N p ⟨st.s.map (fun q=>(q.1,unW id q.2)),st.h.set id (some (.bag e sz false none (List.replicate n [])))⟩ a w:=by
 have hid:=(List.getElem?_eq_some_iff.1 hi).1;obtain ⟨o1,o2,o3⟩:=R.objs id _ hi;rw [if_neg (by simp)] at o3;obtain ⟨q1,cur,q2,q3,q4⟩:=o3;have bP:cn (Ob.arr e 1 false (List.replicate n [.lit (.slice none 0 0)]))=true:=rfl;have dB:∀ k,k < n→cur[k]? = some (.slice none 0 0):=fun k hk=>by
  obtain ⟨u,hu,hv⟩:=q4 k [.lit (.slice none 0 0)] 0 (.lit (.slice none 0 0)) (by simp [hk]) rfl;rw [show k*1+0=k by omega] at hu;cases hv;exact hu
 refine R.retell (p':=p) (ob2:=.bag e sz false none (List.replicate n [])) hi rfl (fun _=>rfl) (fun _=>rfl) (fun _ _=>rfl) (fun _ _ h=>h) (unW id) (mZ id) (fun hM {x u} hx=>D7 hM (fun av v hv hn=>V1.conv hM (by simp) (fun _=>rfl) (fun i e' bw nl es' v he ha hb=>?_) (fun i e' bw nl m_ pn v he ha hb=>?_) (fun i k bw v hn _ hs=>hs.keep (fun e' rK xx pn he=>?_) (Nat.le_refl _)) 5 av v hv hn) hx) (fun i cs _ bW c hc=>D8 (vg aF i cs bW c hc)) fun hM=>⟨aM,?_⟩
 ·by_cases hn:i=id
  ·subst hn;rw [List.getElem?_set_self hid] at he;cases he
  ·rw [List.getElem?_set_ne (Ne.symm hn)] at he;exact ha _ _ _ _ he
 ·by_cases hn:i=id
  ·subst hn;rw [List.getElem?_set_self hid] at he;simp only [Option.some.injEq,Ob.bag.injEq] at he;obtain ⟨rfl,rfl,rfl,rfl,rfl⟩:=he;have:=ha _ _ _ _ hi;simpa using this
  ·rw [List.getElem?_set_ne (Ne.symm hn)] at he;exact hb _ _ _ _ _ he
 ·rw [List.getElem?_set_ne (Ne.symm hn)] at he;exact ⟨he,rfl,rfl,fun _ _ _ _=>rfl⟩
 ·rw [if_neg (by simp)];refine ⟨fun b j hO=>(R.objs id _ hi).own bP b j hO,fun j=>q1.2 _ _,cur,q2,by simp at q3 ⊢;omega,fun k x hx=>?_,fun k k' v v' hk dF _ _ _ hv bA=>?_⟩
  ·have lO:k < n:=by have:=(List.getElem?_eq_some_iff.1 hx).1;simpa using this
   have I7:x=[]:=by
    have:=List.mem_of_getElem? hx;simp at this;exact this.2
   subst I7;exact ⟨_,dB k lO,.slNil _ _ _,fun _=>⟨none,0,0,rfl,Nat.le_refl _,fun h=>absurd h (Nat.lt_irrefl 0)⟩⟩
  ·rw [dB k (by simpa using hk)] at hv;simp only [Option.some.injEq] at hv;subst hv;intro b o n c b' o' n' c' e1;simp at e1
theorem Rel.bagArr {id e sz:Nat} {ak:Option Nat} {qs:List (List (List AV))} (R:Rel M0 w0 N p st a w) (hi:st.h[id]? = some (some (.bag e sz false ak qs))) (aF:st.h.all (rJ id)=true) :
  ∃ p',Rel M0 w0 N p' ⟨st.s.map (fun q=>(q.1,unW id q.2)),st.h.set id (some (.arr e 1 false (qs.map fun q=>[.sl sz q])))⟩ a w:=by
 have hid:=(List.getElem?_eq_some_iff.1 hi).1;obtain ⟨b1,b2,cur,b3,b4,b5,b6⟩:=R.bagRow hi;obtain ⟨p',eJ,ga,cL⟩ : ∃ p':Pl,(∀ i,p' i=p i)∧(∀ i,i≠id→p'.S i=p.S i)∧∀ b j,¬p'.S id b j:=⟨⟨p.b,fun i=>if i=id then fun _ _=>False else p.S i⟩,fun _=>rfl,fun i hn=>if_neg hn,fun b j h=>by simp at h⟩
 refine ⟨p',R.retell (p':=p') (ob2:=.arr e 1 false (qs.map fun q=>[.sl sz q])) hi rfl (fun _=>rfl) eJ ga (fun b j h=>absurd h (cL b j)) (unW id) (mZ id) (fun hM {x u} hx=>D7 (p:=p) (h:=st.h) hM (fun av v hv hn=>V1.conv (p:=p) (h:=st.h) hM (by simp) eJ (fun i e' bw nl es' v he ha hb=>?_) (fun i e' bw nl m_ pn v he ha hb=>?_) (fun i k bw v hn _ hs=>hs.keep (fun e' rK xx pn he=>?_) (Nat.le_refl _)) 5 av v hv hn) hx) (fun i cs _ bW c hc=>D8 (vg aF i cs bW c hc)) fun hM=>⟨Nat.one_pos,fun k x hx=>?_,?_⟩⟩
 ·by_cases hn:i=id
  ·subst hn;rw [List.getElem?_set_self hid] at he;simp only [Option.some.injEq,Ob.arr.injEq] at he;obtain ⟨rfl,rfl,rfl,rfl⟩:=he;have:=hb _ _ _ _ _ hi;simpa using this
  ·rw [List.getElem?_set_ne (Ne.symm hn)] at he;exact ha _ _ _ _ he
 ·by_cases hn:i=id
  ·subst hn;rw [List.getElem?_set_self hid] at he;cases he
  ·rw [List.getElem?_set_ne (Ne.symm hn)] at he;exact hb _ _ _ _ _ he
 ·rw [List.getElem?_set_ne (Ne.symm hn)] at he;exact ⟨he,eJ i,ga i hn,fun _ _ _ _=>rfl⟩
 ·obtain ⟨q,_,rfl⟩:=ea hx;exact ⟨rfl,fun c hc=>by simp only [List.mem_singleton] at hc;subst hc;rfl⟩
 ·rw [if_neg (by simp)];refine ⟨⟨fun j=>by rw [eJ];exact (b1 _ j (.inl rfl)).1,cL⟩,cur,by rw [eJ];exact b3,by simpa using b4,fun k x j c hk hj=>?_⟩;obtain ⟨q,hq,rfl⟩:=ea hk;cases j with
  | succ j=>simp at hj
  | zero=>
   simp only [List.getElem?_cons_zero,Option.some.injEq] at hj;subst hj;obtain ⟨v,h1,h2,_⟩:=b5 k q hq;exact ⟨v,by simpa using h1,h2.keep (Keeps.refl _ _) fun b j _=>hM b j⟩
theorem AK (id:Nat) : ∀ (s:List (Nat×AV)) (i:Nat),lkp (s.map fun q=>(q.1,purge id q.2)) i=purge id (lkp s i)
 | [],i=>by simp [lkp,purge,cE]
 | (d,v)::r,i=>by
  simp only [List.map_cons,lkp];split
  ·rfl
  ·exact AK id r i
def D9 (id:Nat) : Option Ob→Bool
 | some (.box cs)=>cs.all (cE id 5)
 | _=>true
theorem Rel.anew {r e sz e2 oz:Nat} {nl:Bool} {es:List (List AV)} (R:Rel M0 w0 N p st a w) (hi:st.h[r]? = some (some (.arr e sz nl es))) (aM:0 < oz) (aF:st.h.all (D9 r)=true) :
  Rel M0 w0 N p ⟨st.s.map (fun q=>(q.1,purge r q.2)),st.h.set r (some (.arr e2 oz true []))⟩ a w:=by
 have hid:=(List.getElem?_eq_some_iff.1 hi).1;have je:∀ (i:Nat) (cs:List AV),st.h[i]? = some (some (.box cs))→∀ c∈cs,cE r 5 c=true:=fun i cs hi c hc=>by
  have:=List.all_eq_true.1 aF _ (List.mem_of_getElem? hi);exact List.all_eq_true.1 this c hc
 have dw:∀ (i:Nat) (ob:Ob),i≠r→(st.h.set r (some (.arr e2 oz true [])))[i]? = some (some ob)→st.h[i]? = some (some ob):=fun i ob hn h=>by rwa [List.getElem?_set_ne (Ne.symm hn)] at h
 refine R.retell (p':=p) (ob2:=.arr e2 oz true []) hi rfl (fun h=>by cases h) (fun _=>rfl) (fun _ _=>rfl) (fun _ _ h=>h) (purge r) (AK r) (fun hM {x u} hx=>?_) (fun i cs _ bW c hc=>if_pos (je i cs bW c hc)) fun hM=>⟨aM,fun k x hk=>by simp at hk,rfl⟩
 unfold purge;split
 ·rename_i hn;exact V1.purge (Keeps.refl _ _) (fun b j _=>hM b j) (by simp) (fun _ _=>rfl) (fun i e sz nl es v hn he hv=>hv _ _ _ _ (dw i _ hn he)) (fun i e sz nl pe qs v hn he hv=>hv _ _ _ _ _ (dw i _ hn he)) (fun i k sz v hn _ hs=>hs.keep (fun e sz pe qs he=>⟨dw i _ hn he,rfl,rfl,fun _ _ _ _=>rfl⟩) (Nat.le_refl _)) 5 x u hx hn
 ·exact .base _ _ (.any _)
end
attribute [go_sem] D9
section
variable {P:Program} {M0:Nat→Nat→Prop} {w0:Bas} {N:Nm} {p:Pl} {st:VS} {a:Act} {w:World}
theorem Rel.deadCell {bi j r:Nat} {cs:List AV} (R:Rel M0 w0 N p st a w) (hb:st.h[bi]? = some (some (.box cs))) (hj:cs[j]? = some (.osl r)) : Rel M0 w0 N p ⟨st.s,st.h.set bi (some (.box (cs.set j (.osl bi))))⟩ a w:=by
 have dq:bi < st.h.length:=(List.getElem?_eq_some_iff.1 hb).1;have db:∀ (i:Nat) (ob:Ob),(st.h.set bi (some (.box (cs.set j (.osl bi)))))[i]? = some (some ob)→(i=bi∧ob = .box (cs.set j (.osl bi)))∨(i≠bi∧st.h[i]? = some (some ob)):=fun i ob h=>by
  by_cases he:bi=i
  ·subst he;rw [List.getElem?_set_self dq] at h;simp only [Option.some.injEq] at h;exact .inl ⟨rfl,h.symm⟩
  ·rw [List.getElem?_set_ne he] at h;exact .inr ⟨fun h=>he h.symm,h⟩
 refine (R.reheap _ (by simp) (fun i ob hi hl=>?_) (fun i e sz nl es cu he=>?_) (fun i e sz nl pe qs cu he=>?_) fun i ob hi rL keep=>?_).1
 ·rcases db i ob hi with ⟨rfl,rfl⟩|⟨_,br⟩
  ·exact ⟨_,hb,rfl⟩
  ·exact ⟨ob,br,hl⟩
 ·rcases db i _ he with ⟨_,h⟩|⟨_,h⟩
  ·cases h
  ·exact h
 ·rcases db i _ he with ⟨_,h⟩|⟨_,h⟩
  ·cases h
  ·exact h
 ·rcases db i ob hi with ⟨rfl,rfl⟩|⟨_,br⟩
  ·obtain ⟨h1,cur,e2,h2,h3,h4,h5⟩:=R.objs i _ hb;refine ⟨h1,cur,e2,h2,by simpa using h3,fun c hc=>?_,fun k c hk=>?_⟩
   ·rcases List.mem_or_eq_of_mem_set hc with h|rfl
    ·exact h4 c h
    ·rfl
   ·rw [List.getElem?_set] at hk;by_cases he:j=k
    ·subst he;have bB:j < cs.length:=(List.getElem?_eq_some_iff.1 hj).1;rw [if_pos rfl,if_pos bB] at hk;simp only [Option.some.injEq] at hk;subst hk;obtain ⟨u,hu,hv⟩:=h5 j _ hj;obtain ⟨A,m,c,rfl,_,_⟩:=hv.osl_inv;refine ⟨_,hu,.osl _ _ _ _ (by simpa using dq) (fun e3 uW uX tx i_=>?_) fun e3 uW uX DQ DS i_=>?_⟩
     ·rw [List.getElem?_set_self dq] at i_;cases i_
     ·rw [List.getElem?_set_self dq] at i_;cases i_
    ·rw [if_neg he] at hk;obtain ⟨u,hu,hv⟩:=h5 k c hk;exact ⟨u,hu,keep hv⟩
  ·exact absurd br rL
theorem tD {c b:Code} {Q:Exit→VS→Prop} (T:VS) (h1:∀ K:VS→Prop,(∀ aK,Le aK T→K aK)→VWp P M0 w0 N c (k7 K Q) st) (h2:VWp P M0 w0 N b Q T) : VWp P M0 w0 N c (k7 (VWp P M0 w0 N b Q) Q) st:=h1 _ fun _ hle=>vle hle h2
end
section
variable {P:Program} {w:World} {M:Nat→Nat→Prop}
theorem I8 {t:TypeId} {ti:TI} {cs:List AV} {v:Value} (aV:aU P t=some ti) (hk:ti.kind=2) (hz:0 < ti.esz) (lQ:cs.length=ti.len*ti.esz) (ax:0 < ti.len) (hx:V0 w M (.vp cs) v) :
  ∃ u,(Instr.sliceAt t v none none none).run P w = .ok u w∧V0 w M (.sl ti.esz (jw ti.esz ti.len cs)) u:=by
 have tE:ti.esz=dG P ti.elem:=by obtain ⟨d,i,z,hd,hi,hz,fE,rfl⟩:=e_ aV;rfl
 cases hx with
 | vp _ b o u hb hM h1 aE iK=>
  refine ⟨.slice (some ⟨b,o,none⟩) ti.len ti.len,?_,?_⟩
  ·have:=D_ ⟨b,o,none⟩ (P:=P) w;simp only [Instr.sliceAt,Sem.run_bind,run_underlying (vh aV hk),Result.andThen_ok,this,Instr.sliceBounds,Sem.run_pure,kk (show 0 < dG P ti.elem by omega)];simp only [Nat.sub_zero,Nat.zero_mul,jn,Nat.add_zero,ite_self]
  ·have oA:=xy ti.esz ti.len cs;have bm:=fun k e=>xz ti.esz ti.len cs k e (by omega);have aq:∀ k j,k < ti.len→j < ti.esz→k*ti.esz+j < cs.length:=fun k j hk hj=>by
    have:(k+1)*ti.esz≤ti.len*ti.esz:=Nat.mul_le_mul_right _ hk;rw [Nat.add_mul,Nat.one_mul] at this;omega
   have key:V0 w M (.sl ti.esz (jw ti.esz ti.len cs)) (.slice (some ⟨b,o,none⟩) (jw ti.esz ti.len cs).length ti.len):=by
    refine .sl ti.esz _ _ b o (fun k j=>u (k*ti.esz+j)) (fun hn=>?_) hb (fun k j hk hj=>?_) (by omega) (fun k e he=>(bm k e he).1) (fun k e j c he hc=>?_) (fun k j hk hj=>?_) (fun k e j c he hc=>?_)
    ·rw [hn] at oA;simp at oA;omega
    ·rw [Nat.add_assoc];exact hM _ (aq k j (by omega) hj)
    ·exact h1 _ (List.mem_of_getElem? ((bm k e he).2 j c hc))
    ·rw [Nat.add_assoc];exact aE _ (aq k j (by omega) hj)
    ·exact iK _ _ ((bm k e he).2 j c hc)
   rwa [oA] at key
end
section
variable {P:Program} {M0:Nat→Nat→Prop} {w0:Bas} {N:Nm} {p:Pl} {st:VS} {ops l:List Oper} {Q:Exit→VS→Prop}
theorem I9 {o:Oper} {t:TypeId} {x:Operand} {cs:List AV} {ti:TI} (cT:o.op = .slice t x none none none) (hg:o.guard=none) (aV:aU P t=some ti) (hk:ti.kind=2) (hz:0 < ti.esz) (lQ:cs.length=ti.len*ti.esz) (ax:0 < ti.len) (hx:ev st x = .vp cs)
  (k:VL P M0 w0 N ops Q l (st.put o.dst (.sl ti.esz (jw ti.esz ti.len cs)))) : VL P M0 w0 N ops Q (o::l) st:=fun ew hB p a w R=>by
 simp only [List.all_cons,Bool.and_eq_true] at hB;refine wpList_step fun X Y=>?_;have tF:=R.eval x;rw [hx] at tF;obtain ⟨cR,_⟩:=tF.vp_inv;obtain ⟨u,aD,hu⟩:=I8 aV hk hz lQ ax cR;have kc:o.wp P a w X (fun e a' w'=>∃ aK p',Rel M0 w0 N p' aK a' w'∧Q e aK):=by
  obtain ⟨dst,op,ty,pos,after,guard⟩:=o;simp only at cT hg;subst cT hg;unfold Oper.wp;simp [execOp,aD,Result.andThen];exact Y _ _ (k ew hB.2 p _ w (R.put (fh hB.1) (.base _ _ hu)))
 simp only [Region.wanted,hg,if_true];exact kc
end
end Go.Proofs.YtoibondihdhnoaaGreatDoor
