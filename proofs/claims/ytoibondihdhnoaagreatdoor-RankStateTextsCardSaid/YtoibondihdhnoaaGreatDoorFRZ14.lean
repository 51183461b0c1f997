/- Texts in one: A drawing region one of whose operations changes memory of the call's own, whichever others stand behind it: of every program; no condition. -/
import Derived.Test.YtoibondihdhnoaaGreatDoorFRZ7
import Derived.Test.YtoibondihdhnoaaGreatDoorFRZ13
import Derived.Test.YtoibondihdhnoaaGreatDoorFRZ12
namespace Go.Proofs.YtoibondihdhnoaaGreatDoor
open Go.RowKit
def pzB (π:AV→AV) (b:Bool) (v:AV) : AV:=if b then π v else v
section
variable {P:Program} {M0:Nat→Nat→Prop} {w0:Bas} {N:Nm} {p:Pl} {st:VS} {a:Act} {w:World} {Q:Exit→VS→Prop}
def AJ (P:Program) (M0:Nat→Nat→Prop) (w0:Bas) (N:Nm) (h0:Hp) (E:Operand→AV) (o:Oper) (d:Nat) (av:AV) (π:AV→AV) (h1:Hp) : Prop:=
 dz N o=true→∀ (p:Pl) (a:Act) (w:World) (s:List (Nat×AV)),Rel M0 w0 N p ⟨s,h0⟩ a w→(∀ z∈o.op.operands,ev ⟨s,h0⟩ z=E z)→∀ (K':Act→World→Prop) (Q:Exit→Act→World→Prop),
  (∀ p' a' w',Rel M0 w0 N p' ⟨(d,av)::s.map (fun q=>(q.1,π q.2)),h1⟩ a' w'→K' a' w')→o.wp P a w K' Q
theorem oJ {id:Nat} {l:List Oper} (n:Nat) (ls:List Nat) (hm:P.follows .mixedOrders=true) (hB:Region.specB l.toArray (n+1)=true) (AK:xF l n=ls) {so:Oper} {d:Nat} (π:AV→AV) (hπ:∀ (s:List (Nat×AV)) (t:Nat),lkp (s.map fun q=>(q.1,π q.2)) t=π (lkp s t)) (jm:l[n]? = some so) (pX:so.guard=none∧so.dst=some d)
  (h:l8 P l (l.take n) st fun T=>∃ (av:AV) (h1:Hp),AJ P M0 w0 N T.h (ev T) so d av π h1∧(∀ t∈ls,π (lkp T.s t)=lkp T.s t)∧l8 P l (l.take n) ⟨st.s,h1⟩ (fun T2=>∀ t∈ls,lkp T2.s t=lkp T.s t)∧VL P M0 w0 N l Q (l.drop (n+1)) ⟨(d,av)::T.s.map (fun q=>(q.1,π q.2)),h1⟩) : VWp P M0 w0 N (.region id l.toArray true) Q st:=fun oK p0 a0 AL R0=>by
 have hN:l.all (dz N)=true:=by simpa [fJ] using oK
 obtain ⟨rs,fB,⟨av,h1,iM,cP,fC,hK⟩,S⟩:=s5 _ _ h;obtain ⟨j9,AM,AN,JY⟩:=s5 _ _ fC;have fb:=hB;simp only [Region.specB,Bool.and_eq_true,decide_eq_true_eq] at fb;obtain ⟨⟨⟨⟨⟨⟨_,bg⟩,_⟩,_⟩,hd⟩,bz⟩,_⟩:=fb;have iS:n+1 < l.length:=by simpa using bg
 have eB:d_ (l.take (n+1))=true:=by simpa using hd
 have s7:d_ (l.take n)=true:=by
  have:=pY (l.take (n+1)) n eB;rwa [List.take_take,Nat.min_eq_left (Nat.le_succ n)] at this
 have hlen:(l.take n).length=n:=by simp;omega
 rw [hlen] at fB;have bo:∀ {i:Nat} {o:Oper},i < n→l[i]? = some o→(l.take n)[i]? = some o:=fun {i o} hi ho=>by rw [List.getElem?_take_of_lt hi];exact ho
 have iT:∀ {i:Nat} {o:Oper},i < n+1→l[i]? = some o→(l.take (n+1))[i]? = some o:=fun {i o} hi ho=>by rw [List.getElem?_take_of_lt hi];exact ho
 have pZ:∀ {i:Nat} {o:Oper},(l.take n)[i]? = some o→i < n∧l[i]? = some o:=fun {i o} ho=>by
  have hi:i < n:=by have:=(List.getElem?_eq_some_iff.1 ho).1;omega
  rw [List.getElem?_take_of_lt hi] at ho;exact ⟨hi,ho⟩
 have fZ:∀ {i:Nat},i < n→rs[i]? = some (rs.getD i .any):=fun {i} hi=>by simp [List.getD,show i < rs.length by omega]
 have cS:∀ i,i < n+1→∀ o,l[i]? = some o→∀ t∈o.looksAt l.toArray,∀ j,j < n+1→∀ q,l[j]? = some q→q.dst=some t→Region.waitsFor .any l.toArray i j=true∧j < i:=by
  intro i hi o ho;have h:=List.all_eq_true.1 bz i (List.mem_range.2 hi);simp only [List.getElem?_toArray,ho,Bool.and_eq_true] at h;have iL:∀ e∈o.after,Region.binds .any e=true→e.on < i:=fun e he hb=>by
   have h1:=Array.all_eq_true'.1 h.2 e he;simp only [hb,Bool.not_true,Bool.false_or,decide_eq_true_eq] at h1;exact h1
  intro t ht j hj q hq aS;have h1:=List.all_eq_true.1 (List.all_eq_true.1 h.1 t ht) j (List.mem_range.2 hj);simp only [hq,Option.bind_some,aS,bne_self_eq_false,Bool.false_or] at h1;refine ⟨h1,?_⟩;obtain ⟨o',bA,e,he,hb,cX⟩:=Region.waitsFor_spec h1;have:o'=o:=Option.some.inj (bA.symm.trans (by simpa using ho));subst this;rw [←cX];exact iL e he hb
 have bn:∀ {i j:Nat} {q:Oper} {t:Nat},j < i→i≤n→l[j]? = some q→q.dst=some t→lkp (a_ st ((l.take n).take i) (rs.take i)).s t=rs.getD j .any:=fun {i j q t} hj hi hq ht=>
  p5 ((l.take n).take i) (rs.take i) st t j q (rs.getD j .any) (pY _ _ s7) (by rw [List.getElem?_take_of_lt hj];exact bo (by omega) hq) (by rw [List.getElem?_take_of_lt hj];exact fZ (by omega)) ht
 have bh:∀ {i t:Nat},(∀ j q,j < n→l[j]? = some q→q.dst≠some t)→lkp (a_ st ((l.take n).take i) (rs.take i)).s t=lkp st.s t:=fun {i t} ho=>
  oL _ _ _ _ fun q hq he=>by
   obtain ⟨j,hj⟩:=List.mem_iff_getElem?.1 (List.mem_of_mem_take hq);obtain ⟨h1,h2⟩:=pZ hj;exact ho j q h1 h2 he
 have cn:a_ st (l.take n) rs=a_ st ((l.take n).take n) (rs.take n):=by
  rw [List.take_of_length_le (l:=l.take n) (by rw [hlen];exact Nat.le_refl _),List.take_of_length_le (l:=rs) (by omega)]
 refine wp_region_any hm ?_;have mA:∀ {j:Nat} {q:Oper} {d':Nat},j < n→l[j]? = some q→q.dst=some d'→d'≠d:=fun {j q d'} hj hq aS he=>by
  subst he;have:j=n:=p6 eB (iT (by omega) hq) (iT (Nat.lt_succ_self n) jm) aS pX.2;omega
 have rl:∀ t,lkp (a_ st (l.take n) rs).s t=lkp (a_ st ((l.take n).take n) (rs.take n)).s t:=fun t=>by rw [←cn]
 have kn:∀ {i:Nat} {o:Oper} {t:Nat},i < n→l[i]? = some o→ix l n n i=false→t∈o.looksAt l.toArray++o.dst.toList→t∈ls:=fun {i o t} hi ho fY ht=>by
  rw [←AK];unfold xF;refine List.mem_flatMap.2 ⟨i,List.mem_range.2 hi,?_⟩;rw [fY,ho];simpa using ht
 have eS:∀ {i:Nat} {o:Oper} {t:Nat},i < n→l[i]? = some o→ix l n n i=false→t∈o.looksAt l.toArray++o.dst.toList→π (lkp (a_ st ((l.take n).take n) (rs.take n)).s t)=lkp (a_ st ((l.take n).take n) (rs.take n)).s t:=fun {i o t} hi ho fY ht=>by
  rw [←cn];exact cP t (kn hi ho fY ht)
 have mB:j9.length=n:=by rw [AM,hlen]
 have uD:∀ {i:Nat},i < n→j9[i]? = some (j9.getD i .any):=fun {i} hi=>by simp [List.getD,show i < j9.length by omega]
 have iU:∀ {i j:Nat} {q:Oper} {t:Nat},j < i→i≤n→l[j]? = some q→q.dst=some t→lkp (a_ ⟨st.s,h1⟩ ((l.take n).take i) (j9.take i)).s t=j9.getD j .any:=fun {i j q t} hj hi hq ht=>
  p5 ((l.take n).take i) (j9.take i) ⟨st.s,h1⟩ t j q (j9.getD j .any) (pY _ _ s7) (by rw [List.getElem?_take_of_lt hj];exact bo (by omega) hq) (by rw [List.getElem?_take_of_lt hj];exact uD (by omega)) ht
 have mC:∀ {i t:Nat},(∀ j q,j < n→l[j]? = some q→q.dst≠some t)→lkp (a_ ⟨st.s,h1⟩ ((l.take n).take i) (j9.take i)).s t=lkp st.s t:=fun {i t} ho=>
  oL _ _ ⟨st.s,h1⟩ _ fun q hq he=>by
   obtain ⟨j,hj⟩:=List.mem_iff_getElem?.1 (List.mem_of_mem_take hq);obtain ⟨h1,h2⟩:=pZ hj;exact ho j q h1 h2 he
 have rm:a_ ⟨st.s,h1⟩ (l.take n) j9=a_ ⟨st.s,h1⟩ ((l.take n).take n) (j9.take n):=by
  rw [List.take_of_length_le (l:=l.take n) (by rw [hlen];exact Nat.le_refl _),List.take_of_length_le (l:=j9) (by omega)]
 have uE:∀ t∈ls,lkp (a_ ⟨st.s,h1⟩ ((l.take n).take n) (j9.take n)).s t=lkp (a_ st ((l.take n).take n) (rs.take n)).s t:=fun t ht=>by
  rw [←cn,←rm];exact AN t ht
 have AO:∀ {i:Nat} {o:Oper},i < n→l[i]? = some o→ix l n n i=false→∀ t∈o.looksAt l.toArray,lkp (a_ ⟨st.s,h1⟩ ((l.take n).take i) (j9.take i)).s t=lkp (a_ st ((l.take n).take i) (rs.take i)).s t:=fun {i o} hi ho fY t ht=>by
  have h3:=uE t (kn hi ho fY (List.mem_append_left _ ht));by_cases hex:∃ (j:Nat) (q:Oper),j < n∧l[j]? = some q∧q.dst=some t
  ·obtain ⟨j,q,hj,hq,aS⟩:=hex;obtain ⟨_,h5⟩:=cS i (by omega) o ho t ht j (by omega) q hq aS;rw [iU hj (Nat.le_refl _) hq aS,bn hj (Nat.le_refl _) hq aS] at h3;rw [iU h5 (by omega) hq aS,bn h5 (by omega) hq aS];exact h3
  ·have gC:∀ j q,j < n→l[j]? = some q→q.dst≠some t:=fun j q hj hq he=>hex ⟨j,q,hj,hq,he⟩;rw [mC gC,bh gC]
 have AP:∀ {i:Nat} {o:Oper} {t:Nat},i < n→l[i]? = some o→ix l n n i=false→o.dst=some t→j9.getD i .any=rs.getD i .any:=fun {i o t} hi ho fY ht=>by
  have h3:=uE t (kn hi ho fY (List.mem_append_right _ (by rw [ht];simp)));rw [iU hi (Nat.le_refl _) ho ht,bn hi (Nat.le_refl _) ho ht] at h3;exact h3
 refine xt (Inv:=fun listed a w=>HeadInv .any l.toArray (n+1) listed∧∃ (p:Pl) (s:List (Nat×AV)),Rel M0 w0 N p ⟨s,if listed.getD n false=true then h1 else st.h⟩ a w ∧
   (∀ (j:Nat) (q:Oper) (d:Nat),j < n→listed.getD j false=true→l[j]? = some q→q.dst=some d→lkp s d=pzB π (listed.getD n false) (rs.getD j .any)) ∧
   (∀ t,t≠d→(∀ j q,j < n→l[j]? = some q→q.dst≠some t)→lkp s t=pzB π (listed.getD n false) (lkp st.s t))∧(listed.getD n false=true→lkp s d=av)) hB (fun _ _ _ inv=>inv.1) ?_ ?_ _ _ _ _ ?_ (by simp)
 ·rintro listed a w i o ⟨head,p,s,R,S1,S2,S3⟩ hi bT ho fI;have bA:l[i]? = some o:=by simpa using ho
  obtain ⟨_,o2,rn,dS⟩:=mem_ready.1 hi;have:o2=o:=Option.some.inj (rn.symm.trans ho);subst this;have cG:i < listed.size:=by rw [head.size];simpa using (by omega:i < l.length)
  have bW:(listed.setIfInBounds i true).getD i false=true:=by simp [cG]
  have bb:∀ {j:Nat},i≠j→(listed.setIfInBounds i true).getD j false=listed.getD j false:=fun aC=>getD_set_ne false aC;have cT:∀ j,Region.waitsFor .any l.toArray i j=true→listed.getD j false=true:=by
   intro j hj;obtain ⟨o3,rp,e,he,hb,cX⟩:=Region.waitsFor_spec hj;have:o3=o2:=Option.some.inj (rp.symm.trans ho);subst this;rw [←cX];exact dS e he hb
  have l9:∀ t∈o2.looksAt l.toArray,t≠d:=fun t ht he=>by
   subst he;have:=(cS i bT o2 bA t ht n (Nat.lt_succ_self n) so jm pX.2).2;omega
  have dm:∀ {k:Nat},i≤k→k≤n→∀ t∈o2.looksAt l.toArray,lkp s t=pzB π (listed.getD n false) (lkp (a_ st ((l.take n).take k) (rs.take k)).s t):=fun {k} p7 kM t ht=>by
   by_cases hex:∃ (j:Nat) (q:Oper),j < n∧l[j]? = some q∧q.dst=some t
   ·obtain ⟨j,q,hj,hq,aS⟩:=hex;obtain ⟨h1,h2⟩:=cS i bT o2 bA t ht j (by omega) q hq aS;rw [bn (by omega) kM hq aS];exact S1 j q t hj (cT j h1) hq aS
   ·have bw:∀ j q,j < n→l[j]? = some q→q.dst≠some t:=fun j q hj hq he=>hex ⟨j,q,hj,hq,he⟩;rw [bh bw,S2 t (l9 t ht) bw]
  have dt:∀ {j:Nat} {q:Oper} {d d':Nat},j < n→j≠i→l[j]? = some q→q.dst=some d→o2.dst=some d'→d'≠d:=fun {j q d d'} hj eG hq aS lf he=>by
   subst he;exact eG (p6 eB (iT (by omega) hq) (iT bT bA) aS lf)
  by_cases uF:i=n
  ·subst uF;have:o2=so:=Option.some.inj (bA.symm.trans jm);subst this;have du:=getD_both fI;rw [du] at R;simp only [Bool.false_eq_true,if_false] at R;have rq:∀ z:Operand,z∈o2.op.operands→ev ⟨s,(a_ st (l.take i) rs).h⟩ z=ev (a_ st (l.take i) rs) z:=fun z hz=>by
    cases z with
    | tmp t=>
     show lkp s t=lkp _ t;rw [cn];have:=dm (Nat.le_refl _) (Nat.le_refl _) t (List.mem_append_left _ (List.mem_filterMap.2 ⟨.tmp t,by simpa using hz,rfl⟩));rw [du] at this;exact this
    | const v=>rfl
    | global g=>rfl
    | func f=>rfl
   unfold wpOp;simp only [ho];rw [if_pos (by simp [Region.wanted,pX.1])];refine Or.inl ?_;refine iM (List.all_eq_true.1 hN o2 (List.mem_of_getElem? bA)) p a w s (by rw [gY];exact R) (fun z hz=>by
    rw [gY];have:=rq z hz;rw [gY] at this;exact this) _ _ fun p' a' w' R'=>?_
   refine ⟨head.set hi bT,p',_,by rw [bW];exact R',fun j q d' hj hl hq aS=>?_,fun t oM ht=>?_,fun _=>by simp [lkp]⟩
   ·rw [bW,lkp,if_neg (fun e=>mA hj hq aS e.symm),hπ];rw [bb (by omega)] at hl;have:=S1 j q d' hj hl hq aS;rw [du] at this;rw [this];rfl
   ·rw [bW,lkp,if_neg (fun e=>oM e.symm),hπ];have:=S2 t oM ht;rw [du] at this;rw [this];rfl
  ·have di:i < n:=by omega
   have aD:=S i o2 (rs.getD i .any) (bo di bA) (fZ di);have eT:((listed.setIfInBounds i true).getD n false)=listed.getD n false:=bb uF;have rr:∀ t,o2.dst=some t→pzB π (listed.getD n false) (rs.getD i .any)=rs.getD i .any:=fun t ht=>by
    cases hb:listed.getD n false
    ·rfl
    ·have fY:ix l n n i=false:=by
      cases hc:ix l n n i
      ·rfl
      ·have:=ru head n n i (fun j hj=>by
        obtain ⟨o6,lv,e,he,fM,cX⟩:=Region.waitsFor_spec hj;have:=head.closed n o6 lv hb e he fM;rwa [cX] at this) hc
       rw [getD_both fI] at this;cases this
     have:=eS (t:=t) di bA fY (List.mem_append_right _ (by rw [ht];simp));rw [bn di (Nat.le_refl _) bA ht] at this;exact this
   have fin:∀ r v w',(∀ t,o2.dst=some t→r=rs.getD i .any)→V1 w' (Mof M0 (if listed.getD n false=true then h1 else st.h) p) (if listed.getD n false=true then h1 else st.h) p r v→Below w.heap.size w w'→(fun listed a w=>HeadInv .any l.toArray (n+1) listed∧∃ (p:Pl) (s:List (Nat×AV)),Rel M0 w0 N p ⟨s,if listed.getD n false=true then h1 else st.h⟩ a w ∧
     (∀ (j:Nat) (q:Oper) (d:Nat),j < n→listed.getD j false=true→l[j]? = some q→q.dst=some d→lkp s d=pzB π (listed.getD n false) (rs.getD j .any)) ∧
     (∀ t,t≠d→(∀ j q,j < n→l[j]? = some q→q.dst≠some t)→lkp s t=pzB π (listed.getD n false) (lkp st.s t))∧(listed.getD n false=true→lkp s d=av)) (listed.setIfInBounds i true) (a.put o2.dst v) w':=fun r v w' s8 hv hb=>by
    have R':=(R.later hb).put (d:=o2.dst) (fL (List.all_eq_true.1 hN o2 (List.mem_of_getElem? bA))) hv;have dp:(VS.put ⟨s,if listed.getD n false=true then h1 else st.h⟩ o2.dst r)=⟨(VS.put ⟨s,if listed.getD n false=true then h1 else st.h⟩ o2.dst r).s,if listed.getD n false=true then h1 else st.h⟩:=by cases o2.dst<;>rfl
    rw [dp] at R';refine ⟨head.set hi bT,p,_,by rw [eT];exact R',fun j q d hj hl hq aS=>?_,fun t oM ht=>?_,fun hl=>?_⟩
    ·rw [jJ,eT];by_cases eG:j=i
     ·subst eG;have:q=o2:=Option.some.inj (hq.symm.trans bA);subst this;rw [if_pos aS,rr d aS];exact s8 d aS
     ·rw [if_neg fun e=>dt hj eG hq aS e rfl];rw [bb (Ne.symm eG)] at hl;exact S1 j q d hj hl hq aS
    ·rw [jJ,if_neg (ht i o2 di bA),eT];exact S2 t oM ht
    ·rw [eT] at hl;rw [jJ,if_neg fun e=>mA di bA e rfl];exact S3 hl
   have mD:∀ t∈o2.looksAt l.toArray,lkp s t=lkp (a_ st ((l.take n).take i) (rs.take i)).s t:=fun t ht=>by
    have h2:=dm (Nat.le_refl i) (by omega) t ht;have h3:=dm (show i≤n by omega) (Nat.le_refl n) t ht;cases hb:listed.getD n false
    ·rw [hb] at h2;exact h2
    ·have fY:ix l n n i=false:=by
      cases hc:ix l n n i
      ·rfl
      ·have:=ru head n n i (fun j hj=>by
        obtain ⟨o6,lv,e,he,fM,cX⟩:=Region.waitsFor_spec hj;have:=head.closed n o6 lv hb e he fM;rwa [cX] at this) hc
       rw [getD_both fI] at this;cases this
     have bw:=eS di bA fY (List.mem_append_left _ ht);rw [hb] at h2 h3;by_cases hex:∃ (j:Nat) (q:Oper),j < n∧l[j]? = some q∧q.dst=some t
     ·obtain ⟨j,q,hj,hq,aS⟩:=hex;obtain ⟨_,h5⟩:=cS i bT o2 bA t ht j (by omega) q hq aS;rw [bn hj (Nat.le_refl _) hq aS] at bw;rw [bn h5 (by omega) hq aS] at h2 ⊢;rw [h2];exact bw
     ·have gC:∀ j q,j < n→l[j]? = some q→q.dst≠some t:=fun j q hj hq he=>hex ⟨j,q,hj,hq,he⟩;rw [bh gC] at bw;rw [bh gC] at h2 ⊢;rw [h2];exact bw
   obtain ⟨Sx,r,oN,JZ,Eh,s8⟩ : ∃ (Sx:VS) (r:AV),kO P l o2 Sx r∧Sx.h=(if listed.getD n false=true then h1 else st.h)∧(∀ t∈o2.looksAt l.toArray,lkp s t=lkp Sx.s t)∧∀ t,o2.dst=some t→r=rs.getD i .any:=by
    cases hb:listed.getD n false
    ·exact ⟨_,_,aD,by rw [gY];rfl,mD,fun _ _=>rfl⟩
    ·have fY:ix l n n i=false:=by
      cases hc:ix l n n i
      ·rfl
      ·have:=ru head n n i (fun j hj=>by
        obtain ⟨o6,lv,e,he,fM,cX⟩:=Region.waitsFor_spec hj;have:=head.closed n o6 lv hb e he fM;rwa [cX] at this) hc
       rw [getD_both fI] at this;cases this
     exact ⟨_,_,JY i o2 (j9.getD i .any) (bo di bA) (uD di),by rw [gY];rfl,fun t ht=>(mD t ht).trans (AO di bA fY t ht).symm,fun t ht=>AP di bA fY ht⟩
   have cE:fN P Sx.h (ev Sx) o2.op r→gives P o2 a w fun v w''=>V1 w'' (Mof M0 (if listed.getD n false=true then h1 else st.h) p) (if listed.getD n false=true then h1 else st.h) p r v∧Below w.heap.size w w'':=by
    intro hg;rw [JZ] at hg;refine rv R.objs R.mok R.h0 R.glob (fun _ _ hb=>.inl hb) (fun x hx=>?_) hg;cases x with
    | tmp t=>
     show V1 _ _ _ _ (lkp Sx.s t) _;rw [←Eh t (List.mem_append_left _ (List.mem_filterMap.2 ⟨.tmp t,by simpa using hx,rfl⟩))];exact R.slots t
    | const v=>exact .base _ _ (.lit v)
    | global g=>exact .base _ _ (R.evalG g)
    | func f=>exact .base _ _ (.lit _)
   have hy:=fun j=>rf (ops:=l) (j:=j) R hN;have cV:∀ (j:Nat) (want:Bool) (v:Value),o2.guard=some (j,want)→df l Sx j = .lit v→df l ⟨s,if listed.getD n false=true then h1 else st.h⟩ j = .lit v:=by
    intro j want v hg hv;unfold df at hv ⊢;cases hj:l[j]? with
    | none=>simpa [hj] using hv
    | some q=>
     cases hq:q.dst with
     | none=>simpa [hj,hq] using hv
     | some d=>
      have eV:d∈o2.looksAt l.toArray:=by
       unfold Oper.looksAt;refine List.mem_append_right _ ?_;simp [hg,hj,hq]
      simp only [hj,hq] at hv ⊢;rw [Eh d eV];exact hv
   unfold wpOp;simp only [ho];unfold kO at oN;split at oN
   ·rename_i hg;rw [if_pos (by simp [Region.wanted,hg])];exact Or.inl (lY (cE oN) rfl fun v w' hv=>fin r v w' s8 hv.1 hv.2)
   ·rename_i j want hg;split at oN
    ·rename_i b hb;have iV:=(hy j).1 b (cV j want _ hg hb);split at oN
     ·rename_i hw;subst hw;rw [if_pos (by simp [Region.wanted,hg,iV])];exact Or.inl (lY (cE oN) rfl fun v w' hv=>fin r v w' s8 hv.1 hv.2)
     ·rename_i hw;rw [if_neg (by simpa [Region.wanted,hg,iV] using hw)];exact fin r undef w s8 (by rw [oN];exact .base _ _ (.lit _)) (Below.refl _ _)
    ·rename_i us hb;have iV:=(hy j).2 us (cV j want _ hg hb);rw [if_neg (by simp [Region.wanted,hg,iV])];exact fin r undef w s8 (by rw [oN];exact .base _ _ (.lit _)) (Below.refl _ _)
    ·exact oN.elim
 ·rintro listed a w ⟨head,p,s,R,S1,S2,S3⟩ ax;rw [ax n (by omega)] at R;simp only [if_true] at R;rw [ax n (by omega)] at S1 S2 S3;have R':=R.weak (s':=(d,av)::(a_ st (l.take n) rs).s.map (fun q=>(q.1,π q.2))) fun t=>by
   show lkp ((d,av)::(a_ st (l.take n) rs).s.map (fun q=>(q.1,π q.2))) t=lkp s t∨_;refine .inl ?_;rw [lkp];split
   ·rename_i he;subst he;exact (S3 rfl).symm
   ·rename_i he;rw [hπ,cn];by_cases hex:∃ (j:Nat) (q:Oper),j < n∧l[j]? = some q∧q.dst=some t
    ·obtain ⟨j,q,hj,hq,aS⟩:=hex;rw [bn hj (Nat.le_refl _) hq aS];exact (S1 j q t hj (ax j (by omega)) hq aS).symm
    ·have bw:∀ j q,j < n→l[j]? = some q→q.dst≠some t:=fun j q hj hq he=>hex ⟨j,q,hj,hq,he⟩;rw [bh bw,S2 t (fun e=>he e.symm) bw];rfl
  have lu:(l.drop (n+1)).all (dz N)=true:=List.all_eq_true.2 fun q hq=>List.all_eq_true.1 hN q (List.mem_of_mem_drop hq);exact hK hN lu p _ w R'
 ·refine ⟨⟨by simp,fun j oj _ hl=>(by rw [getD_replicate_false] at hl;cases hl),fun t _ ht=>getD_in (by simpa using ht) (getD_replicate_false _ _)⟩,p0,st.s,?_,fun j q d _ hl=>(by rw [getD_replicate_false] at hl;cases hl),fun _ _ _=>by rw [getD_replicate_false];rfl,fun hl=>(by rw [getD_replicate_false] at hl;cases hl)⟩;rw [getD_replicate_false];exact R0.later (Below.refl _ _).drew
theorem uG {h0:Hp} {E:Operand→AV} {o:Oper} {d t id k e:Nat} {x y:Operand} {ti te:TI} {au:Option Nat} {qs:List (List (List AV))} {es:List (List AV)} {c:AV} (dm:o.op = .call ⟨.builtin .append,#[x,y],#[t,t]⟩) (hd:o.dst=some d) (hx:E x = .slw id k 1 es) (hy:E y = .sl 1 [[c]])
  (aV:aU P t=some ti) (f_:aU P ti.elem=some te) (hi:h0[id]? = some (some (.bag e 1 false au qs))) (hc:ti.kind=1∧te.size=1∧te.zero.length=1∧te.bytes≤100000∧k < qs.length∧(au=none∨au=some k)∧h0.all (ry id)=true∧es.length+1≤1000000000) :
  AJ P M0 w0 N h0 E o d (.slw id k 1 (es++[[c]])) (unW id) (h0.set id (some (.bag e 1 false (some k) qs))):=fun AQ p a w s R hE K' Q' hK=>by
 obtain ⟨dst,op,ty,pos,after,guard⟩:=o;simp only at dm hd;subst dm hd;have ex:ev ⟨s,h0⟩ x = .slw id k 1 es:=(hE x (by simp [Op.operands,Call.operands])).trans hx;have ey:ev ⟨s,h0⟩ y = .sl 1 [[c]]:=(hE y (by simp [Op.operands,Call.operands])).trans hy;obtain ⟨c1,c2,c3,c4,c5,c6,c7,c8⟩:=hc;have ht:mE P ⟨s,h0⟩ ⟨some d,.call ⟨.builtin .append,#[x,y],#[t,t]⟩,ty,pos,after,guard⟩=some ⟨(d,.slw id k 1 (es++[[c]]))::s.map (fun q=>(q.1,unW id q.2)),h0.set id (some (.bag e 1 false (some k) qs))⟩:=by
  unfold mE;simp only [ex,ey,aV,hi,f_];rw [if_pos ⟨trivial,c1,c2,c3,c4,trivial,trivial,trivial,trivial,c5,c6,c7,c8⟩]
 obtain ⟨v,w',p',hh⟩:=Ei (P:=P) R AQ ht;unfold Oper.wp;rcases hh with ⟨h1,h2⟩|⟨h1,_,h2⟩
 ·rw [h1];exact hK _ _ _ h2
 ·rw [h1];exact hK _ _ _ h2
theorem xG {h0:Hp} {E:Operand→AV} {o:Oper} {d k e sz:Nat} {nl:Bool} {es:List (List AV)} {xs:Array Operand} {oG:Array TypeId} (dm:o.op = .call ⟨.value (.func k),xs,oG⟩) (hd:o.dst=some d) (hc:VCo P k (xs.toList.map E) e sz nl es) (hp:(xs.toList.map E).all (eP 5)=true) :
  AJ P M0 w0 N h0 E o d (.osl h0.length) (fun v=>v) (h0++[some (.arr e sz nl es)]):=fun AQ p a w s R hE K' Q' hK=>by
 obtain ⟨dst,op,ty,pos,after,guard⟩:=o;simp only at dm hd;subst dm hd;have dB:xs.toList.map (ev ⟨s,h0⟩)=xs.toList.map E:=List.map_congr_left fun z hz=>hE z (by simp only [Op.operands,Call.operands];exact Array.mem_append_right _ (by simpa using hz));refine Ej (P:=P) (ow:=[d]) (c:=⟨.value (.func k),xs,oG⟩) (d:=d) R AQ (by simp [nI]) (e:=e) (sz:=sz) (nl:=nl) (es:=es) ?_ fun p a w R=>hK p a w ?_
 ·unfold uH ri;simp only [ev];simp only [dB];exact ⟨hc,hp⟩
 ·simpa using R
theorem xH (s:List (Nat×AV)) (t:Nat) : lkp (s.map fun q=>(q.1,(fun v=>v) q.2)) t=(fun v=>v) (lkp s t):=by simp
end
section
variable {P:Program} {M0:Nat→Nat→Prop} {w0:Bas} {N:Nm} {p:Pl} {st:VS} {a:Act} {w:World} {Q:Exit→VS→Prop}
theorem V1.conv {w:World} {M M':Nat→Nat→Prop} {h h':Hp} {p p':Pl} {id:Nat} (hM:∀ b j,¬M b j→¬M' b j) (hl:h.length≤h'.length) (hp:∀ i,p' i=p i)
  (hO:∀ i e sz nl es v,h'[i]? = some (some (.arr e sz nl es))→(∀ e sz nl es,h[i]? = some (some (.arr e sz nl es))→Osl w (p i) e sz nl es.length v)→(∀ e sz nl au qs,h[i]? = some (some (.bag e sz nl au qs))→Osl w (p i) e 1 nl qs.length v)→Osl w (p i) e sz nl es.length v)
  (hG:∀ i e sz nl au qs v,h'[i]? = some (some (.bag e sz nl au qs))→(∀ e sz nl es,h[i]? = some (some (.arr e sz nl es))→Osl w (p i) e sz nl es.length v)→(∀ e sz nl au qs,h[i]? = some (some (.bag e sz nl au qs))→Osl w (p i) e 1 nl qs.length v)→Osl w (p i) e 1 nl qs.length v)
  (hW:∀ i k sz v,i≠id→i < h.length→Sp w h p i k sz v→Sp w h' p' i k sz v) :
  ∀ (n:Nat) (av:AV) (v:Value),V1 w M h p av v→dj id n av=true→V1 w M' h' p' av v
 | 0,_,_,_,hb=>by simp [dj] at hb
 | n+1,av,v,hv,hb=>by
  have ih:=V1.conv (w:=w) (p:=p) (h:=h) hM hl hp hO hG hW n;cases hv with
  | base _ _ h0=>exact .base _ _ (h0.keep (Keeps.refl _ _) fun b j _=>hM b j)
  | agg cs us hl h1 hv=>
   simp only [dj] at hb;exact .agg cs us hl h1 fun i c u hc hu=>ih c u (hv i c u hc hu) (List.all_eq_true.1 hb c (List.mem_of_getElem? hc))
  | tup cs us hl hv=>
   simp only [dj] at hb;exact .tup cs us hl fun i c u hc hu=>ih c u (hv i c u hc hu) (List.all_eq_true.1 hb c (List.mem_of_getElem? hc))
  | fn f x y us vs hl bp hv bB=>
   simp only [dj,Bool.and_eq_true] at hb;exact .fn f x y us vs hl bp (fun i c u hc hu=>ih c u (hv i c u hc hu) (List.all_eq_true.1 hb.1 c (List.mem_of_getElem? hc))) (fun i c u hc hu=>ih c u (bB i c u hc hu) (List.all_eq_true.1 hb.2 c (List.mem_of_getElem? hc)))
  | iface t x u hv=>exact .iface t x u (ih x u hv (by simpa [dj] using hb))
  | ref i off hid=>rw [←hp i];exact .ref i off (Nat.lt_of_lt_of_le hid hl)
  | aref i sz k off hid=>rw [←hp i];exact .aref i sz k off (Nat.lt_of_lt_of_le hid hl)
  | osl i A m c hid hv lh=>exact .osl i A m c (Nat.lt_of_lt_of_le hid hl) (fun e sz nl es he=>by rw [hp i];exact hO i e sz nl es _ he hv lh) fun e sz nl au qs he=>by rw [hp i];exact hG i e sz nl au qs _ he hv lh
  | slw i k sz es _ hid h0 hs=>
   have hn:i≠id:=by simpa [dj] using hb
   exact .slw i k sz es v (Nat.lt_of_lt_of_le hid hl) (h0.keep (Keeps.refl _ _) fun b j _=>hM b j) (hW i k sz v hn hid hs)
  | mp i hid=>rw [←hp i];exact .mp i (Nat.lt_of_lt_of_le hid hl)
theorem Rel.retell {h2:Hp} {p':Pl} {ob ob2:Ob} {id:Nat} (R:Rel M0 w0 N p st a w) (hi:st.h[id]? = some (some ob)) (hh:h2=st.h.set id (some ob2)) (nJ:cH ob2=true→cH ob=true) (ee:∀ i,p' i=p i) (jK:∀ i,i≠id→p'.S i=p.S i) (hS:∀ b j,p'.S id b j→p.S id b j)
  (f:AV→AV) (cS:∀ (s:List (Nat×AV)) (t:Nat),lkp (s.map fun q=>(q.1,f q.2)) t=f (lkp s t))
  (hf:(∀ b j,¬Mof M0 st.h p b j→¬Mof M0 h2 p' b j)→∀ {x:AV} {u:Value},V1 w (Mof M0 st.h p) st.h p x u→V1 w (Mof M0 h2 p') h2 p' (f x) u)
  (jL:∀ (i:Nat) (cs:List AV),i≠id→st.h[i]? = some (some (.box cs))→∀ c∈cs,f c=c)
  (j8:(∀ b j,¬Mof M0 st.h p b j→¬Mof M0 h2 p' b j)→ObOK w0 w (Mof M0 h2 p') h2 p' id ob2) : Rel M0 w0 N p' ⟨st.s.map (fun q=>(q.1,f q.2)),h2⟩ a w:=by
 subst hh;have hid:=(List.getElem?_eq_some_iff.1 hi).1;have ep:(st.h.set id (some ob2))[id]? = some (some ob2):=List.getElem?_set_self hid;have de:∀ (i:Nat) (o:Ob),i≠id→(st.h.set id (some ob2))[i]? = some (some o)→st.h[i]? = some (some o):=fun i o hn h=>by rwa [List.getElem?_set_ne (Ne.symm hn)] at h
 have s9:∀ {i b j},p'.O i b j→p.O i b j:=fun {i b j} hO=>by
  rcases hO with hO|hO
  ·exact .inl (by rw [←ee];exact hO)
  ·by_cases he:i=id
   ·subst he;exact .inr (hS b j hO)
   ·rw [jK i he] at hO;exact .inr hO
 have hM:∀ b j,¬Mof M0 st.h p b j→¬Mof M0 (st.h.set id (some ob2)) p' b j:=fun b j hn hm=>by
  rcases hm with hm|⟨i,o,aL,bD,hO⟩
  ·exact hn (.inl hm)
  ·by_cases he:i=id
   ·subst he;rw [ep] at aL;simp only [Option.some.injEq] at aL;subst aL;exact hn (.inr ⟨i,_,hi,nJ bD,s9 hO⟩)
   ·exact hn (.inr ⟨i,o,de i o he aL,bD,s9 hO⟩)
 have hV:=fun {x:AV} {u:Value} => hf hM (x:=x) (u:=u);refine ⟨R.defers,R.size,R.below,R.m0,R.x0,fun i=>?_,fun i o aL=>?_,fun i i' o o' aL bG bD eI x j j' hO cO=>?_⟩
 ·show V1 _ _ _ _ (lkp (st.s.map fun q=>(q.1,f q.2)) i) _;rw [cS];exact hV (R.slots i)
 ·by_cases he:i=id
  ·subst he;rw [ep] at aL;simp only [Option.some.injEq] at aL;subst aL;exact j8 hM
  ·have bG:=de i o he aL;exact (R.objs i o bG).keep (fun _=>⟨ee i,jK i he⟩) (fun _ _ _ _ _=>rfl) (Nat.le_refl _) (fun hx=>hx.keep (Keeps.refl _ _) fun b j _=>hM b j) fun cs bV c hc u hx=>by
    have:=hV hx;rw [jL i cs he (by rw [bG,bV]) c hc] at this;exact this
 ·have key:∀ {i o},(st.h.set id (some ob2))[i]? = some (some o)→cH o=true→∃ o1,st.h[i]? = some (some o1)∧cH o1=true:=fun {i o} aL bD=>by
   by_cases he:i=id
   ·subst he;rw [ep] at aL;simp only [Option.some.injEq] at aL;subst aL;exact ⟨_,hi,nJ bD⟩
   ·exact ⟨o,de i o he aL,bD⟩
  obtain ⟨o1,e1,l1⟩:=key aL bD;obtain ⟨o2,e2,l2⟩:=key bG eI;exact R.inj i i' o1 o2 e1 e2 l1 l2 x j j' (s9 hO) (s9 cO)
theorem Ek {w:World} {M M':Nat→Nat→Prop} {h h':Hp} {p p':Pl} {id:Nat} (hM:∀ b j,¬M b j→¬M' b j) (hV:∀ (av:AV) (v:Value),V1 w M h p av v→dj id 5 av=true→V1 w M' h' p' av v) {x:AV} {u:Value} (hx:V1 w M h p x u) : V1 w M' h' p' (unW id x) u:=by
 by_cases hs:∃ i k sz es,x = .slw i k sz es
 ·obtain ⟨i,k',bm,bQ,rfl⟩:=hs;by_cases hn:i=id
  ·rw [show unW id (.slw i k' bm bQ) = .sl bm bQ from if_pos hn];exact .base _ _ (hx.slw_inv.2.1.keep (Keeps.refl _ _) fun b j _=>hM b j)
  ·rw [show unW id (.slw i k' bm bQ) = .slw i k' bm bQ from if_neg hn];exact hV _ _ hx (by simpa [dj] using hn)
 ·have e:unW id x=if dj id 5 x=true then x else .any:=by cases x<;>first|rfl|exact absurd ⟨_,_,_,_,rfl⟩ hs
  rw [e];split
  ·rename_i hn;exact hV _ _ hx hn
  ·exact .base _ _ (.any _)
theorem El {id:Nat} {c:AV} (h:dj id 5 c=true) : unW id c=c:=by
 by_cases hs:∃ i k sz es,c = .slw i k sz es
 ·obtain ⟨i,k,sz,es,rfl⟩:=hs;have hn:i≠id:=by simpa [dj] using h
  exact if_neg hn
 ·have e:unW id c=if dj id 5 c=true then c else .any:=by cases c<;>first|rfl|exact absurd ⟨_,_,_,_,rfl⟩ hs
  rw [e,if_pos h]
theorem Rel.toBag {id e n sz:Nat} (R:Rel M0 w0 N p st a w) (hi:st.h[id]? = some (some (.arr e 1 false (List.replicate n [.lit (.slice none 0 0)])))) (aM:0 < sz) (ax:st.h.all (ry id)=true) :
  Rel M0 w0 N p ⟨st.s.map (fun q=>(q.1,unW id q.2)),st.h.set id (some (.bag e sz false none (List.replicate n [])))⟩ a w:=by
 have hid:=(List.getElem?_eq_some_iff.1 hi).1;obtain ⟨o1,o2,o3⟩:=R.objs id _ hi;rw [if_neg (by simp)] at o3;obtain ⟨q1,cur,q2,q3,q4⟩:=o3;have bH:cH (Ob.arr e 1 false (List.replicate n [.lit (.slice none 0 0)]))=true:=rfl;have eJ:∀ k,k < n→cur[k]? = some (.slice none 0 0):=fun k hk=>by
  obtain ⟨u,hu,hv⟩:=q4 k [.lit (.slice none 0 0)] 0 (.lit (.slice none 0 0)) (by simp [hk]) rfl;rw [show k*1+0=k by omega] at hu;cases hv;exact hu
 refine R.retell (p':=p) (ob2:=.bag e sz false none (List.replicate n [])) hi rfl (fun _=>rfl) (fun _=>rfl) (fun _ _=>rfl) (fun _ _ h=>h) (unW id) (nK id) (fun hM {x u} hx=>Ek hM (fun av v hv hn=>V1.conv hM (by simp) (fun _=>rfl) (fun i e' bm nl bQ v he ha hb=>?_) (fun i e' bm nl mF p8 v he ha hb=>?_) (fun i k bm v hn _ hs=>hs.keep (fun e' rz xI p8 he=>?_) (Nat.le_refl _)) 5 av v hv hn) hx) (fun i cs _ bV c hc=>El (uI ax i cs bV c hc)) fun hM=>⟨aM,?_⟩
 ·by_cases hn:i=id
  ·subst hn;rw [List.getElem?_set_self hid] at he;cases he
  ·rw [List.getElem?_set_ne (Ne.symm hn)] at he;exact ha _ _ _ _ he
 ·by_cases hn:i=id
  ·subst hn;rw [List.getElem?_set_self hid] at he;simp only [Option.some.injEq,Ob.bag.injEq] at he;obtain ⟨rfl,rfl,rfl,rfl,rfl⟩:=he;have:=ha _ _ _ _ hi;simpa using this
  ·rw [List.getElem?_set_ne (Ne.symm hn)] at he;exact hb _ _ _ _ _ he
 ·rw [List.getElem?_set_ne (Ne.symm hn)] at he;exact ⟨he,rfl,rfl,fun _ _ _ _=>rfl⟩
 ·rw [if_neg (by simp)];refine ⟨fun b j hO=>(R.objs id _ hi).own bH b j hO,fun j=>q1.2 _ _,cur,q2,by simp at q3 ⊢;omega,fun k x hx=>?_,fun k k' v v' hk dy _ _ _ hv bB=>?_⟩
  ·have kM:k < n:=by have:=(List.getElem?_eq_some_iff.1 hx).1;simpa using this
   have J0:x=[]:=by
    have:=List.mem_of_getElem? hx;simp at this;exact this.2
   subst J0;exact ⟨_,eJ k kM,.slNil _ _ _,fun _=>⟨none,0,0,rfl,Nat.le_refl _,fun h=>absurd h (Nat.lt_irrefl 0)⟩⟩
  ·rw [eJ k (by simpa using hk)] at hv;simp only [Option.some.injEq] at hv;subst hv;intro b o n c b' o' n' c' e1;simp at e1
theorem Rel.bagArr {id e sz:Nat} {au:Option Nat} {qs:List (List (List AV))} (R:Rel M0 w0 N p st a w) (hi:st.h[id]? = some (some (.bag e sz false au qs))) (ax:st.h.all (ry id)=true) :
  ∃ p',Rel M0 w0 N p' ⟨st.s.map (fun q=>(q.1,unW id q.2)),st.h.set id (some (.arr e 1 false (qs.map fun q=>[.sl sz q])))⟩ a w:=by
 have hid:=(List.getElem?_eq_some_iff.1 hi).1;obtain ⟨b1,b2,cur,b3,b4,b5,b6⟩:=R.bagRow hi;obtain ⟨p',ee,jK,jM⟩ : ∃ p':Pl,(∀ i,p' i=p i)∧(∀ i,i≠id→p'.S i=p.S i)∧∀ b j,¬p'.S id b j:=⟨⟨p.b,fun i=>if i=id then fun _ _=>False else p.S i⟩,fun _=>rfl,fun i hn=>if_neg hn,fun b j h=>by simp at h⟩
 refine ⟨p',R.retell (p':=p') (ob2:=.arr e 1 false (qs.map fun q=>[.sl sz q])) hi rfl (fun _=>rfl) ee jK (fun b j h=>absurd h (jM b j)) (unW id) (nK id) (fun hM {x u} hx=>Ek (p:=p) (h:=st.h) hM (fun av v hv hn=>V1.conv (p:=p) (h:=st.h) hM (by simp) ee (fun i e' bm nl bQ v he ha hb=>?_) (fun i e' bm nl mF p8 v he ha hb=>?_) (fun i k bm v hn _ hs=>hs.keep (fun e' rz xI p8 he=>?_) (Nat.le_refl _)) 5 av v hv hn) hx) (fun i cs _ bV c hc=>El (uI ax i cs bV c hc)) fun hM=>⟨Nat.one_pos,fun k x hx=>?_,?_⟩⟩
 ·by_cases hn:i=id
  ·subst hn;rw [List.getElem?_set_self hid] at he;simp only [Option.some.injEq,Ob.arr.injEq] at he;obtain ⟨rfl,rfl,rfl,rfl⟩:=he;have:=hb _ _ _ _ _ hi;simpa using this
  ·rw [List.getElem?_set_ne (Ne.symm hn)] at he;exact ha _ _ _ _ he
 ·by_cases hn:i=id
  ·subst hn;rw [List.getElem?_set_self hid] at he;cases he
  ·rw [List.getElem?_set_ne (Ne.symm hn)] at he;exact hb _ _ _ _ _ he
 ·rw [List.getElem?_set_ne (Ne.symm hn)] at he;exact ⟨he,ee i,jK i hn,fun _ _ _ _=>rfl⟩
 ·obtain ⟨q,_,rfl⟩:=dT hx;exact ⟨rfl,fun c hc=>by simp only [List.mem_singleton] at hc;subst hc;rfl⟩
 ·rw [if_neg (by simp)];refine ⟨⟨fun j=>by rw [ee];exact (b1 _ j (.inl rfl)).1,jM⟩,cur,by rw [ee];exact b3,by simpa using b4,fun k x j c hk hj=>?_⟩;obtain ⟨q,hq,rfl⟩:=dT hk;cases j with
  | succ j=>simp at hj
  | zero=>
   simp only [List.getElem?_cons_zero,Option.some.injEq] at hj;subst hj;obtain ⟨v,h1,h2,_⟩:=b5 k q hq;exact ⟨v,by simpa using h1,h2.keep (Keeps.refl _ _) fun b j _=>hM b j⟩
theorem Em (id:Nat) : ∀ (s:List (Nat×AV)) (i:Nat),lkp (s.map fun q=>(q.1,purge id q.2)) i=purge id (lkp s i)
 | [],i=>by simp [lkp,purge,cu]
 | (d,v)::r,i=>by
  simp only [List.map_cons,lkp];split
  ·rfl
  ·exact Em id r i
def En (id:Nat) : Option Ob→Bool
 | some (.box cs)=>cs.all (cu id 5)
 | _=>true
theorem Rel.anew {r e sz e2 nL:Nat} {nl:Bool} {es:List (List AV)} (R:Rel M0 w0 N p st a w) (hi:st.h[r]? = some (some (.arr e sz nl es))) (aM:0 < nL) (ax:st.h.all (En r)=true) :
  Rel M0 w0 N p ⟨st.s.map (fun q=>(q.1,purge r q.2)),st.h.set r (some (.arr e2 nL true []))⟩ a w:=by
 have hid:=(List.getElem?_eq_some_iff.1 hi).1;have jL:∀ (i:Nat) (cs:List AV),st.h[i]? = some (some (.box cs))→∀ c∈cs,cu r 5 c=true:=fun i cs hi c hc=>by
  have:=List.all_eq_true.1 ax _ (List.mem_of_getElem? hi);exact List.all_eq_true.1 this c hc
 have de:∀ (i:Nat) (ob:Ob),i≠r→(st.h.set r (some (.arr e2 nL true [])))[i]? = some (some ob)→st.h[i]? = some (some ob):=fun i ob hn h=>by rwa [List.getElem?_set_ne (Ne.symm hn)] at h
 refine R.retell (p':=p) (ob2:=.arr e2 nL true []) hi rfl (fun h=>by cases h) (fun _=>rfl) (fun _ _=>rfl) (fun _ _ h=>h) (purge r) (Em r) (fun hM {x u} hx=>?_) (fun i cs _ bV c hc=>if_pos (jL i cs bV c hc)) fun hM=>⟨aM,fun k x hk=>by simp at hk,rfl⟩
 unfold purge;split
 ·rename_i hn;exact V1.purge (Keeps.refl _ _) (fun b j _=>hM b j) (by simp) (fun _ _=>rfl) (fun i e sz nl es v hn he hv=>hv _ _ _ _ (de i _ hn he)) (fun i e sz nl pe qs v hn he hv=>hv _ _ _ _ _ (de i _ hn he)) (fun i k sz v hn _ hs=>hs.keep (fun e sz pe qs he=>⟨de i _ hn he,rfl,rfl,fun _ _ _ _=>rfl⟩) (Nat.le_refl _)) 5 x u hx hn
 ·exact .base _ _ (.any _)
end
attribute [go_sem] En
section
variable {P:Program} {M0:Nat→Nat→Prop} {w0:Bas} {N:Nm} {p:Pl} {st:VS} {a:Act} {w:World}
theorem Rel.deadCell {bi j r:Nat} {cs:List AV} (R:Rel M0 w0 N p st a w) (hb:st.h[bi]? = some (some (.box cs))) (hj:cs[j]? = some (.osl r)) : Rel M0 w0 N p ⟨st.s,st.h.set bi (some (.box (cs.set j (.osl bi))))⟩ a w:=by
 have eN:bi < st.h.length:=(List.getElem?_eq_some_iff.1 hb).1;have dH:∀ (i:Nat) (ob:Ob),(st.h.set bi (some (.box (cs.set j (.osl bi)))))[i]? = some (some ob)→(i=bi∧ob = .box (cs.set j (.osl bi)))∨(i≠bi∧st.h[i]? = some (some ob)):=fun i ob h=>by
  by_cases he:bi=i
  ·subst he;rw [List.getElem?_set_self eN] at h;simp only [Option.some.injEq] at h;exact .inl ⟨rfl,h.symm⟩
  ·rw [List.getElem?_set_ne he] at h;exact .inr ⟨fun h=>he h.symm,h⟩
 refine (R.reheap _ (by simp) (fun i ob hi hl=>?_) (fun i e sz nl es cK he=>?_) (fun i e sz nl pe qs cK he=>?_) fun i ob hi rA keep=>?_).1
 ·rcases dH i ob hi with ⟨rfl,rfl⟩|⟨_,bF⟩
  ·exact ⟨_,hb,rfl⟩
  ·exact ⟨ob,bF,hl⟩
 ·rcases dH i _ he with ⟨_,h⟩|⟨_,h⟩
  ·cases h
  ·exact h
 ·rcases dH i _ he with ⟨_,h⟩|⟨_,h⟩
  ·cases h
  ·exact h
 ·rcases dH i ob hi with ⟨rfl,rfl⟩|⟨_,bF⟩
  ·obtain ⟨h1,cur,e2,h2,h3,h4,h5⟩:=R.objs i _ hb;refine ⟨h1,cur,e2,h2,by simpa using h3,fun c hc=>?_,fun k c hk=>?_⟩
   ·rcases List.mem_or_eq_of_mem_set hc with h|rfl
    ·exact h4 c h
    ·rfl
   ·rw [List.getElem?_set] at hk;by_cases he:j=k
    ·subst he;have bK:j < cs.length:=(List.getElem?_eq_some_iff.1 hj).1;rw [if_pos rfl,if_pos bK] at hk;simp only [Option.some.injEq] at hk;subst hk;obtain ⟨u,hu,hv⟩:=h5 j _ hj;obtain ⟨A,m,c,rfl,_,_⟩:=hv.osl_inv;refine ⟨_,hu,.osl _ _ _ _ (by simpa using eN) (fun e3 Aw Ax uz l7=>?_) fun e3 Aw Ax JL JM l7=>?_⟩
     ·rw [List.getElem?_set_self eN] at l7;cases l7
     ·rw [List.getElem?_set_self eN] at l7;cases l7
    ·rw [if_neg he] at hk;obtain ⟨u,hu,hv⟩:=h5 k c hk;exact ⟨u,hu,keep hv⟩
  ·exact absurd bF rA
theorem J1 {c b:Code} {Q:Exit→VS→Prop} (T:VS) (h1:∀ K:VS→Prop,(∀ aR,Le aR T→K aR)→VWp P M0 w0 N c (kP K Q) st) (h2:VWp P M0 w0 N b Q T) : VWp P M0 w0 N c (kP (VWp P M0 w0 N b Q) Q) st:=h1 _ fun _ hle=>vle hle h2
end
section
variable {P:Program} {w:World} {M:Nat→Nat→Prop}
theorem J2 {t:TypeId} {ti:TI} {cs:List AV} {v:Value} (aV:aU P t=some ti) (hk:ti.kind=2) (hz:0 < ti.esz) (iW:cs.length=ti.len*ti.esz) (aC:0 < ti.len) (hx:V0 w M (.vp cs) v) :
  ∃ u,(Instr.sliceAt t v none none none).run P w = .ok u w∧V0 w M (.sl ti.esz (jr ti.esz ti.len cs)) u:=by
 have s_:ti.esz=dq P ti.elem:=by obtain ⟨d,i,z,hd,hi,hz,fc,rfl⟩:=eQ aV;rfl
 cases hx with
 | vp _ b o u hb hM h1 aE iw=>
  refine ⟨.slice (some ⟨b,o,none⟩) ti.len ti.len,?_,?_⟩
  ·have:=Eo ⟨b,o,none⟩ (P:=P) w;simp only [Instr.sliceAt,Sem.run_bind,run_underlying (uJ aV hk),Result.andThen_ok,this,Instr.sliceBounds,Sem.run_pure,j_ (show 0 < dq P ti.elem by omega)];simp only [Nat.sub_zero,Nat.zero_mul,jC,Nat.add_zero,ite_self]
  ·have nM:=xJ ti.esz ti.len cs;have bo:=fun k e=>xK ti.esz ti.len cs k e (by omega);have aw:∀ k j,k < ti.len→j < ti.esz→k*ti.esz+j < cs.length:=fun k j hk hj=>by
    have:(k+1)*ti.esz≤ti.len*ti.esz:=Nat.mul_le_mul_right _ hk;rw [Nat.add_mul,Nat.one_mul] at this;omega
   have key:V0 w M (.sl ti.esz (jr ti.esz ti.len cs)) (.slice (some ⟨b,o,none⟩) (jr ti.esz ti.len cs).length ti.len):=by
    refine .sl ti.esz _ _ b o (fun k j=>u (k*ti.esz+j)) (fun hn=>?_) hb (fun k j hk hj=>?_) (by omega) (fun k e he=>(bo k e he).1) (fun k e j c he hc=>?_) (fun k j hk hj=>?_) (fun k e j c he hc=>?_)
    ·rw [hn] at nM;simp at nM;omega
    ·rw [Nat.add_assoc];exact hM _ (aw k j (by omega) hj)
    ·exact h1 _ (List.mem_of_getElem? ((bo k e he).2 j c hc))
    ·rw [Nat.add_assoc];exact aE _ (aw k j (by omega) hj)
    ·exact iw _ _ ((bo k e he).2 j c hc)
   rwa [nM] at key
end
section
variable {P:Program} {M0:Nat→Nat→Prop} {w0:Bas} {N:Nm} {p:Pl} {st:VS} {ops l:List Oper} {Q:Exit→VS→Prop}
theorem J3 {o:Oper} {t:TypeId} {x:Operand} {cs:List AV} {ti:TI} (dm:o.op = .slice t x none none none) (hg:o.guard=none) (aV:aU P t=some ti) (hk:ti.kind=2) (hz:0 < ti.esz) (iW:cs.length=ti.len*ti.esz) (aC:0 < ti.len) (hx:ev st x = .vp cs)
  (k:VL P M0 w0 N ops Q l (st.put o.dst (.sl ti.esz (jr ti.esz ti.len cs)))) : VL P M0 w0 N ops Q (o::l) st:=fun dU hB p a w R=>by
 simp only [List.all_cons,Bool.and_eq_true] at hB;refine wpList_step fun X Y=>?_;have ta:=R.eval x;rw [hx] at ta;obtain ⟨cD,_⟩:=ta.vp_inv;obtain ⟨u,aG,hu⟩:=J2 aV hk hz iW aC cD;have nH:o.wp P a w X (fun e a' w'=>∃ aR p',Rel M0 w0 N p' aR a' w'∧Q e aR):=by
  obtain ⟨dst,op,ty,pos,after,guard⟩:=o;simp only at dm hg;subst dm hg;unfold Oper.wp;simp [execOp,aG,Result.andThen];exact Y _ _ (k dU hB.2 p _ w (R.put (fL hB.1) (.base _ _ hu)))
 simp only [Region.wanted,hg,if_true];exact nH
end
end Go.Proofs.YtoibondihdhnoaaGreatDoor
