/- Texts in one: A drawing region whose own operations wait for each other, one through the other: of every program; no condition. -/
import Derived.Test.YtoibondihdhnoaaGreatDoorFRY7
namespace Go.Proofs.YtoibondihdhnoaaGreatDoor
open Go.RowKit
def OE (l:List Oper) (n:Nat) (a_:Nat→Bool) : Bool:=(List.range n).all fun c=>!a_ c || (List.range c).all fun d=>!a_ d || gV l n c d
section
variable {P:Program} {M0:Nat→Nat→Prop} {w0:Bas} {N:Nm} {p:Pl} {st:VS} {a:Act} {w:World} {Q:Exit→VS→Prop}
theorem C3 {id:Nat} {l:List Oper} (n:Nat) (ow:List Nat) (a_:Nat→Bool) (hm:P.follows .mixedOrders=true) (hB:Region.specB l.toArray n=true) (hC:OE l n a_=true) (hs:sOK st.h.length st.s) (hh:hOK st.h.length st.h)
  (h:ku P ow l a_ (l.take n) 0 st [] [] fun aK=>dP P ow l (l.drop n) aK (Q .normal)) : VWp P M0 w0 N (.region id l.toArray true) Q st:=fun ju p0 a0 va R0=>by
 have hN:l.all (cW N)=true:=by simpa [fg] using ju
 obtain ⟨rs,Xs,dD,S,e1,e2,hK⟩:=zw _ _ _ _ _ h;have dp:=hB;simp only [Region.specB,Bool.and_eq_true,decide_eq_true_eq] at dp;obtain ⟨⟨⟨⟨⟨⟨_,aL⟩,_⟩,_⟩,hd⟩,bb⟩,_⟩:=dp;have eY:n < l.length:=by simpa using aL
 have du:dS (l.take n)=true:=by simpa using hd
 have hlen:(l.take n).length=n:=by simp;omega
 rw [hlen] at hK;have bm:∀ {i:Nat} {o:Oper},i < n→l[i]? = some o→(l.take n)[i]? = some o:=fun {i o} hi ho=>by rw [List.getElem?_take_of_lt hi];exact ho
 have kg:∀ {i:Nat} {o:Oper},(l.take n)[i]? = some o→i < n∧l[i]? = some o:=fun {i o} ho=>by
  have hi:i < n:=by have:=(List.getElem?_eq_some_iff.1 ho).1;omega
  rw [List.getElem?_take_of_lt hi] at ho;exact ⟨hi,ho⟩
 have ee:∀ {i:Nat},i < n→rs[i]? = some (rs.getD i .any):=fun {i} hi=>by simp [List.getD,show i < rs.length by rw [S.len,hlen];exact hi]
 have cC:∀ i,i < n→∀ o,l[i]? = some o→∀ t∈o.looksAt l.toArray,∀ j,j < n→∀ q,l[j]? = some q→q.dst=some t→Region.waitsFor .any l.toArray i j=true∧j < i:=by
  intro i hi o ho;have h:=List.all_eq_true.1 bb i (List.mem_range.2 hi);simp only [List.getElem?_toArray,ho,Bool.and_eq_true] at h;have fK:∀ e∈o.after,Region.binds .any e=true→e.on < i:=fun e he hb=>by
   have h1:=Array.all_eq_true'.1 h.2 e he;simp only [hb,Bool.not_true,Bool.false_or,decide_eq_true_eq] at h1;exact h1
  intro t ht j hj q hq aH;have h1:=List.all_eq_true.1 (List.all_eq_true.1 h.1 t ht) j (List.mem_range.2 hj);simp only [hq,Option.bind_some,aH,bne_self_eq_false,Bool.false_or] at h1;refine ⟨h1,?_⟩;obtain ⟨o',aT,e,he,hb,cD⟩:=Region.waitsFor_spec h1;have:o'=o:=Option.some.inj (aT.symm.trans (by simpa using ho));subst this;rw [←cD];exact fK e he hb
 have wO:∀ c d,c < n→d < c→a_ c=true→a_ d=true→gV l n c d=true:=fun c d hc CN h1 h2=>by
  have:=List.all_eq_true.1 (List.all_eq_true.1 hC c (List.mem_range.2 hc) |> fun h=>by simpa [h1] using h:(List.range c).all (fun d=>!a_ d || gV l n c d)=true) d (List.mem_range.2 CN);simpa [h2] using this
 have aX:∀ {i j:Nat} {q:Oper} {t:Nat},j < i→i≤n→l[j]? = some q→q.dst=some t→lkp (aQ st ((l.take n).take i) (rs.take i)).s t=rs.getD j .any:=fun {i j q t} hj hi hq ht=>
  mR ((l.take n).take i) (rs.take i) st t j q (rs.getD j .any) (ot _ _ du) (by rw [List.getElem?_take_of_lt hj];exact bm (by omega) hq) (by rw [List.getElem?_take_of_lt hj];exact ee (by omega)) ht
 have aW:∀ {i t:Nat},(∀ j q,j < n→l[j]? = some q→q.dst≠some t)→lkp (aQ st ((l.take n).take i) (rs.take i)).s t=lkp st.s t:=fun {i t} ho=>
  mn _ _ _ _ fun q hq he=>by
   obtain ⟨j,hj⟩:=List.mem_iff_getElem?.1 (List.mem_of_mem_take hq);obtain ⟨h1,h2⟩:=kg hj;exact ho j q h1 h2 he
 have dt:∀ {j:Nat} {q:Oper} {d:Nat},j < n→l[j]? = some q→q.dst=some d→bc st.h.length 5 (rs.getD j .any)=true:=fun {j q d} hj hq aH=>by
  cases hc:a_ j
  ·exact (S.plain j q _ (by rw [Nat.zero_add];exact hc) (bm hj hq) (ee hj)).2.1 d aH
  ·obtain ⟨pid,av,fz,h1,_,h2,_⟩:=S.chain j q (by rw [Nat.zero_add];exact hc) (bm hj hq);rw [ee hj] at h1;rw [Option.some.inj h1];unfold q_;split
   ·rename_i hf;exact h2 hf
   ·rfl
 refine wp_region_any hm ?_;refine tu (Inv:=fun listed a w=>HeadInv .any l.toArray n listed∧∃ (k:Nat) (p:Pl) (s:List (Nat×AV)),k≤n∧(∀ c,c < n→a_ c=true→(listed.getD c false=true↔c < k))∧Rel M0 w0 N p ⟨s,st.h++Xs k⟩ a w ∧
   (∀ (j:Nat) (q:Oper) (d:Nat),j < n→listed.getD j false=true→l[j]? = some q→q.dst=some d→rs.getD j .any = .any∨lkp s d=rs.getD j .any) ∧
   (∀ t,(∀ j q,j < n→l[j]? = some q→q.dst≠some t)→lkp s t=lkp st.s t)∧(∀ t,lkp (dD k) t≠.any→lkp s t=lkp (dD k) t)) hB (fun _ _ _ inv=>inv.1) ?_ ?_ _ _ _ _ ?_ (by simp)
 ·rintro listed a w i o ⟨head,k,p,s,hk,eP,R,S1,S2,S3⟩ hi bg ho fm;have aT:l[i]? = some o:=by simpa using ho
  obtain ⟨_,o2,lN,c_⟩:=mem_ready.1 hi;have:o2=o:=Option.some.inj (lN.symm.trans ho);subst this;have bT:∀ j,Region.waitsFor .any l.toArray i j=true→listed.getD j false=true:=by
   intro j hj;obtain ⟨o3,mV,e,he,hb,cD⟩:=Region.waitsFor_spec hj;have:o3=o2:=Option.some.inj (mV.symm.trans ho);subst this;rw [←cD];exact c_ e he hb
  have cT:∀ t∈o2.looksAt l.toArray,lkp (aQ st ((l.take n).take i) (rs.take i)).s t = .any∨(lkp (aQ st ((l.take n).take i) (rs.take i)).s t=lkp s t∧bc st.h.length 5 (lkp s t)=true):=fun t ht=>by
   by_cases hex:∃ (j:Nat) (q:Oper),j < n∧l[j]? = some q∧q.dst=some t
   ·obtain ⟨j,q,hj,hq,aH⟩:=hex;obtain ⟨h1,h2⟩:=cC i bg o2 aT t ht j hj q hq aH;rw [aX h2 (by omega) hq aH];rcases S1 j q t hj (bT j h1) hq aH with this|this
    ·exact .inl this
    ·exact .inr ⟨this.symm,by rw [this];exact dt hj hq aH⟩
   ·have bD:∀ j q,j < n→l[j]? = some q→q.dst≠some t:=fun j q hj hq he=>hex ⟨j,q,hj,hq,he⟩;rw [aW bD,S2 t bD];exact .inr ⟨rfl,po hs t⟩
  have cA:∀ {j:Nat} {q:Oper} {d d':Nat},j < n→j≠i→l[j]? = some q→q.dst=some d→o2.dst=some d'→d'≠d:=fun {j q d d'} hj cU hq aH dT he=>by
   subst he;exact cU (ou du (bm hj hq) (bm bg aT) aH dT)
  cases dY:a_ i
  ·obtain ⟨ar,nc,_,_⟩:=S.plain i o2 (rs.getD i .any) (by rw [Nat.zero_add];exact dY) (bm bg aT) (ee bg);have fin:∀ v w',V1 w' (Mof M0 (st.h++Xs k) p) st.h p (rs.getD i .any) v→Below w.heap.size w w'→(fun listed a w=>HeadInv .any l.toArray n listed∧∃ (k:Nat) (p:Pl) (s:List (Nat×AV)),k≤n∧(∀ c,c < n→a_ c=true→(listed.getD c false=true↔c < k))∧Rel M0 w0 N p ⟨s,st.h++Xs k⟩ a w ∧
     (∀ (j:Nat) (q:Oper) (d:Nat),j < n→listed.getD j false=true→l[j]? = some q→q.dst=some d→rs.getD j .any = .any∨lkp s d=rs.getD j .any) ∧
     (∀ t,(∀ j q,j < n→l[j]? = some q→q.dst≠some t)→lkp s t=lkp st.s t)∧(∀ t,lkp (dD k) t≠.any→lkp s t=lkp (dD k) t)) (listed.setIfInBounds i true) (a.put o2.dst v) w':=fun v w' hv hb=>by
    have R':=(R.later hb).put (d:=o2.dst) (fh (List.all_eq_true.1 hN o2 (List.mem_of_getElem? aT))) (V1.long hv);have cO:(VS.put ⟨s,st.h++Xs k⟩ o2.dst (rs.getD i .any))=⟨(VS.put ⟨s,st.h++Xs k⟩ o2.dst (rs.getD i .any)).s,st.h++Xs k⟩:=by cases o2.dst<;>rfl
    rw [cO] at R';refine ⟨head.set hi bg,k,p,_,hk,fun c hc cG=>?_,R',fun j q d hj hl hq aH=>?_,fun t ht=>?_,fun t ht=>?_⟩
    ·have ax:i≠c:=fun e=>by rw [←e,dY] at cG;cases cG
     rw [getD_set_ne false ax];exact eP c hc cG
    ·rw [gW];by_cases cU:j=i
     ·subst cU;have:q=o2:=Option.some.inj (hq.symm.trans aT);subst this;rw [if_pos aH];exact .inr rfl
     ·rw [if_neg fun e=>cA hj cU hq aH e rfl];rw [getD_set_ne false (Ne.symm cU)] at hl;exact S1 j q d hj hl hq aH
    ·rw [gW,if_neg (ht i o2 bg aT)];exact S2 t ht
    ·obtain ⟨c,q,h1,h2,h3,h4⟩:=S.dom e2 k (by rw [hlen];exact hk) t ht;obtain ⟨h5,h6⟩:=kg h3;rw [gW,if_neg fun e=>cA h5 (fun e=>by rw [e,dY] at h2;cases h2) h6 h4 e rfl];exact S3 t ht
   have bU:fi P st.h (ev (aQ st ((l.take n).take i) (rs.take i))) o2.op (rs.getD i .any)→gives P o2 a w fun v w''=>V1 w'' (Mof M0 (st.h++Xs k) p) st.h p (rs.getD i .any) v∧Below w.heap.size w w'':=by
    intro hg;refine pk (R.short_objs hh) R.mok R.h0 R.glob (fun _ _ hb=>.inl hb) (fun x hx=>?_) hg;cases x with
    | tmp t=>
     show V1 _ _ _ _ (lkp (aQ st ((l.take n).take i) (rs.take i)).s t) _;rcases cT t (List.mem_append_left _ (List.mem_filterMap.2 ⟨.tmp t,by simpa using hx,rfl⟩)) with h1|⟨h1,h2⟩
     ·rw [h1];exact .base _ _ (.any _)
     ·rw [h1];exact V1.short (R.slots t) h2
    | const v=>exact .base _ _ (.lit v)
    | global g=>exact .base _ _ (R.evalG g)
    | func f=>exact .base _ _ (.lit _)
   have hy:=fun j=>pb (ops:=l) (j:=j) R hN;have bV:∀ (j:Nat) (want:Bool) (v:Value),o2.guard=some (j,want)→cI l (aQ st ((l.take n).take i) (rs.take i)) j = .lit v→cI l ⟨s,st.h++Xs k⟩ j = .lit v:=by
    intro j want v hg hv;unfold cI at hv ⊢;cases hj:l[j]? with
    | none=>simpa [hj] using hv
    | some q=>
     cases hq:q.dst with
     | none=>simpa [hj,hq] using hv
     | some d=>
      have dW:d∈o2.looksAt l.toArray:=by
       unfold Oper.looksAt;refine List.mem_append_right _ ?_;simp [hg,hj,hq]
      simp only [hj,hq] at hv ⊢;rcases cT d dW with h1|⟨h1,_⟩
      ·rw [h1] at hv;cases hv
      ·rw [←h1];exact hv
   unfold wpOp;simp only [ho];unfold kh at ar;split at ar
   ·rename_i hg;rw [if_pos (by simp [Region.wanted,hg])];rw [eZ] at ar;exact Or.inl (ka (bU ar) rfl fun v w' hv=>fin v w' hv.1 hv.2)
   ·rename_i j want hg;split at ar
    ·rename_i b hb;have ft:=(hy j).1 b (bV j want _ hg hb);split at ar
     ·rename_i hw;subst hw;rw [if_pos (by simp [Region.wanted,hg,ft])];rw [eZ] at ar;exact Or.inl (ka (bU ar) rfl fun v w' hv=>fin v w' hv.1 hv.2)
     ·rename_i hw;rw [if_neg (by simpa [Region.wanted,hg,ft] using hw)];exact fin undef w (by rw [ar];exact .base _ _ (.lit _)) (Below.refl _ _)
    ·rename_i us hb;have ft:=(hy j).2 us (bV j want _ hg hb);rw [if_neg (by simp [Region.wanted,hg,ft])];exact fin undef w (by rw [ar];exact .base _ _ (.lit _)) (Below.refl _ _)
    ·exact ar.elim
  ·obtain ⟨pid,av,fz,hres,⟨mh,CO,cL,kc⟩,sL,bW⟩:=S.chain i o2 (by rw [Nat.zero_add];exact dY) (bm bg aT);rw [ee bg] at hres;replace hres:=Option.some.inj hres
   have jy:k≤i:=by
    rcases Nat.lt_or_ge i k with h1|h1
    ·have h2:=(eP i bg dY).2 h1;rw [getD_both fm] at h2;cases h2
    ·exact h1
   have kX:∀ c,k≤c→c < k+(i - k)→a_ c=false:=fun c h1 h2=>by
    cases cG:a_ c
    ·rfl
    ·have:=ph head n i c bT (wO i c bg (by omega) dY cG);have:=(eP c (by omega) cG).1 this;omega
   obtain ⟨hX,fW⟩:=S.same (k:=k) (i - k) (by rw [hlen];omega) kX;rw [show k+(i - k)=i by omega] at hX fW;rw [hX,fW] at kc;rw [fW] at bW;have hv:=kc s (fun t ht ax=>by
    rw [eZ] at *;rcases qk (dD k) (aQ st ((l.take n).take i) (rs.take i)).s t with h1|h1
    ·rw [h1] at ax ⊢;exact S3 t ax
    ·rw [h1] at ax ⊢;rcases cT t (List.mem_append_left _ (List.mem_filterMap.2 ⟨.tmp t,by simpa using ht,rfl⟩)) with h2|⟨h2,_⟩
     ·exact absurd h2 ax
     ·exact h2.symm)
   rw [eZ] at hv;rw [eZ] at cL;unfold wpOp;simp only [ho];rw [if_pos (by simp [Region.wanted,mh])];refine Or.inl (xm R (List.all_eq_true.1 hN o2 (List.mem_of_getElem? aT)) hv fun p' aK a' w' R' he=>?_);replace R':=he _ _ _ _ _ _ R'
   have nS:∀ {t:Nat},(∀ d,o2.dst=some d→d≠t)→bc st.h.length 5 (lkp s t)=true→lkp (mG o2.dst av pid s) t=lkp s t:=fun {t} ax hid=>G3 ax cL hid;refine ⟨head.set hi bg,i+1,p',_,by omega,fun c hc cG=>?_,R',fun j q d hj hl hq aH=>?_,fun t ht=>?_,fun t ht=>?_⟩
   ·by_cases tS:i=c
    ·subst tS;have bI:i < listed.size:=by rw [head.size];simpa using (by omega:i < l.length)
     simp [bI]
    ·rw [getD_set_ne false tS];rcases Nat.lt_or_ge c i with h1|h1
     ·have:=ph head n i c bT (wO i c bg h1 dY cG);exact ⟨fun _=>by omega,fun _=>this⟩
     ·have:=eP c hc cG;exact ⟨fun h=>by have:=this.1 h;omega,fun h=>by omega⟩
   ·by_cases cU:j=i
    ·subst cU;have:q=o2:=Option.some.inj (hq.symm.trans aT);subst this;rw [hres];unfold q_;split
     ·refine .inr ?_;unfold mG;rw [aH];simp [lkp]
     ·exact .inl rfl
    ·rw [getD_set_ne false (Ne.symm cU)] at hl;rcases S1 j q d hj hl hq aH with me|me
     ·exact .inl me
     ·refine .inr ?_;rw [nS (fun d' dT=>cA hj cU hq aH dT) (by rw [me];exact dt hj hq aH)];exact me
   ·rw [nS (fun d' dT he=>ht i o2 bg aT (by rw [dT,he])) (by rw [S2 t ht];exact po hs t)];exact S2 t ht
   ·rw [bW] at ht ⊢;unfold nR at ht ⊢;by_cases hf:fz=true
    ·rw [if_pos hf] at ht ⊢;cases pid with
     | some _=>exact absurd rfl ht
     | none=>
      simp only at ht ⊢;obtain ⟨c,q,g1,g2,g3,g4⟩:=S.dom e2 k (by rw [hlen];omega) t ht;obtain ⟨g5,g6⟩:=kg g3;unfold mG;cases dT:o2.dst with
      | none=>simp only [mF];exact S3 t ht
      | some d=>
       simp only [lkp,mF];rw [if_neg (cA g5 (by omega) g6 g4 dT)];exact S3 t ht
    rw [if_neg hf] at ht ⊢;unfold nQ at ht ⊢;unfold mG;cases dT:o2.dst with
    | none=>
     simp only [dT] at ht ⊢;rw [CO dT];exact S3 t ht
    | some d=>
     simp only [dT] at ht ⊢;by_cases gg:d=t
     ·simp [lkp,gg]
     ·cases pid with
      | some _=>simp [lkp,gg] at ht
      | none=>
       simp only [lkp,gg,if_false,mF] at ht ⊢;exact S3 t ht
 ·rintro listed a w ⟨head,k,p,s,hk,eP,R,S1,S2,S3⟩ aF;have kX:∀ c,k≤c→c < k+(n - k)→a_ c=false:=fun c h1 h2=>by
   cases cG:a_ c
   ·rfl
   ·have:=(eP c (by omega) cG).1 (aF c (by omega));omega
  obtain ⟨hX,fW⟩:=S.same (k:=k) (n - k) (by rw [hlen];omega) kX;rw [show k+(n - k)=n by omega] at hX fW;rw [hX,fW] at hK;have gJ:aQ st (l.take n) rs=aQ st ((l.take n).take n) (rs.take n):=by
   rw [List.take_of_length_le (l:=l.take n) (by rw [hlen];exact Nat.le_refl _),List.take_of_length_le (l:=rs) (by rw [S.len,hlen];exact Nat.le_refl _)]
  have R':=R.weak (s':=dD k++(aQ st (l.take n) rs).s) fun t=>by
   show lkp (dD k++(aQ st (l.take n) rs).s) t=lkp s t∨_;rcases qk (dD k) (aQ st (l.take n) rs).s t with h1|h1
   ·rw [h1];by_cases ax:lkp (dD k) t = .any
    ·exact .inr ax
    ·exact .inl (S3 t ax).symm
   ·rw [h1,gJ];by_cases hex:∃ (j:Nat) (q:Oper),j < n∧l[j]? = some q∧q.dst=some t
    ·obtain ⟨j,q,hj,hq,aH⟩:=hex;rw [aX hj (Nat.le_refl _) hq aH];rcases S1 j q t hj (aF j hj) hq aH with h5|h5
     ·exact .inr h5
     ·exact .inl h5.symm
    ·have bD:∀ j q,j < n→l[j]? = some q→q.dst≠some t:=fun j q hj hq he=>hex ⟨j,q,hj,hq,he⟩;rw [aW bD,S2 t bD];exact .inl rfl
  have ja:(l.drop n).all (cW N)=true:=List.all_eq_true.2 fun q hq=>List.all_eq_true.1 hN q (List.mem_of_mem_drop hq);exact mP (ow:=ow) hN (fun p st a w R h=>⟨st,p,R,h⟩) (l.drop n) p _ _ w ja R' hK
 ·refine ⟨⟨by simp,fun j oj _ hl=>(by rw [getD_replicate_false] at hl;cases hl),fun t _ ht=>getD_in (by simpa using ht) (getD_replicate_false _ _)⟩,0,p0,st.s,Nat.zero_le _,fun c _ _=>⟨fun hl=>(by rw [getD_replicate_false] at hl;cases hl),fun h=>absurd h (Nat.not_lt_zero c)⟩,?_,fun j q d _ hl=>(by rw [getD_replicate_false] at hl;cases hl),fun _ _=>rfl,fun t ht=>?_⟩
  ·rw [e1,List.append_nil];exact R0.later (Below.refl _ _).drew
  ·rw [e2] at ht;exact absurd rfl ht
end
end Go.Proofs.YtoibondihdhnoaaGreatDoor
