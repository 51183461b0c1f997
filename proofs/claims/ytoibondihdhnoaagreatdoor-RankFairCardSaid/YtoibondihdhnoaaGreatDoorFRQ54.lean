/- Texts in one: A drawing region whose own operations wait for each other, one through the other: of every program; no condition. -/
import Derived.Test.YtoibondihdhnoaaGreatDoorFRQ8
namespace Go.Proofs.YtoibondihdhnoaaGreatDoor
open Go.RowKit
def Ow (l:List Oper) (n:Nat) (ba:Nat→Bool) : Bool:=(List.range n).all fun c=>!ba c || (List.range c).all fun d=>!ba d || gO l n c d
section
variable {P:Program} {M0:Nat→Nat→Prop} {w0:Bas} {N:Nm} {p:Pl} {st:VS} {a:Act} {w:World} {Q:Exit→VS→Prop}
theorem Cu {id:Nat} {l:List Oper} (n:Nat) (ow:List Nat) (ba:Nat→Bool) (hm:P.follows .mixedOrders=true) (hB:Region.specB l.toArray n=true) (hC:Ow l n ba=true) (hs:sOK st.h.length st.s) (hh:hOK st.h.length st.h)
  (h:kK P ow l ba (l.take n) 0 st [] [] fun aI=>dU P ow l (l.drop n) aI (Q .normal)) : VWp P M0 w0 N (.region id l.toArray true) Q st:=fun jr p0 a0 rj R0=>by
 have hN:l.all (cR N)=true:=by simpa [e_] using jr
 obtain ⟨rs,Xs,dG,S,e1,e2,hK⟩:=zh _ _ _ _ _ h;have dq:=hB;simp only [Region.specB,Bool.and_eq_true,decide_eq_true_eq] at dq;obtain ⟨⟨⟨⟨⟨⟨_,aK⟩,_⟩,_⟩,hd⟩,bh⟩,_⟩:=dq;have fb:n < l.length:=by simpa using aK
 have dw:ea (l.take n)=true:=by simpa using hd
 have hlen:(l.take n).length=n:=by simp;omega
 rw [hlen] at hK;have bf:∀ {i:Nat} {o:Oper},i < n→l[i]? = some o→(l.take n)[i]? = some o:=fun {i o} hi ho=>by rw [List.getElem?_take_of_lt hi];exact ho
 have kx:∀ {i:Nat} {o:Oper},(l.take n)[i]? = some o→i < n∧l[i]? = some o:=fun {i o} ho=>by
  have hi:i < n:=by have:=(List.getElem?_eq_some_iff.1 ho).1;omega
  rw [List.getElem?_take_of_lt hi] at ho;exact ⟨hi,ho⟩
 have ep:∀ {i:Nat},i < n→rs[i]? = some (rs.getD i .any):=fun {i} hi=>by simp [List.getD,show i < rs.length by rw [S.len,hlen];exact hi]
 have cG:∀ i,i < n→∀ o,l[i]? = some o→∀ t∈o.looksAt l.toArray,∀ j,j < n→∀ q,l[j]? = some q→q.dst=some t→Region.waitsFor .any l.toArray i j=true∧j < i:=by
  intro i hi o ho;have h:=List.all_eq_true.1 bh i (List.mem_range.2 hi);simp only [List.getElem?_toArray,ho,Bool.and_eq_true] at h;have fS:∀ e∈o.after,Region.binds .any e=true→e.on < i:=fun e he hb=>by
   have h1:=Array.all_eq_true'.1 h.2 e he;simp only [hb,Bool.not_true,Bool.false_or,decide_eq_true_eq] at h1;exact h1
  intro t ht j hj q hq aH;have h1:=List.all_eq_true.1 (List.all_eq_true.1 h.1 t ht) j (List.mem_range.2 hj);simp only [hq,Option.bind_some,aH,bne_self_eq_false,Bool.false_or] at h1;refine ⟨h1,?_⟩;obtain ⟨o',aT,e,he,hb,cL⟩:=Region.waitsFor_spec h1;have:o'=o:=Option.some.inj (aT.symm.trans (by simpa using ho));subst this;rw [←cL];exact fS e he hb
 have wF:∀ c d,c < n→d < c→ba c=true→ba d=true→gO l n c d=true:=fun c d hc Cv h1 h2=>by
  have:=List.all_eq_true.1 (List.all_eq_true.1 hC c (List.mem_range.2 hc) |> fun h=>by simpa [h1] using h:(List.range c).all (fun d=>!ba d || gO l n c d)=true) d (List.mem_range.2 Cv);simpa [h2] using this
 have aY:∀ {i j:Nat} {q:Oper} {t:Nat},j < i→i≤n→l[j]? = some q→q.dst=some t→lkp (aM st ((l.take n).take i) (rs.take i)).s t=rs.getD j .any:=fun {i j q t} hj hi hq ht=>
  mW ((l.take n).take i) (rs.take i) st t j q (rs.getD j .any) (ot _ _ dw) (by rw [List.getElem?_take_of_lt hj];exact bf (by omega) hq) (by rw [List.getElem?_take_of_lt hj];exact ep (by omega)) ht
 have aX:∀ {i t:Nat},(∀ j q,j < n→l[j]? = some q→q.dst≠some t)→lkp (aM st ((l.take n).take i) (rs.take i)).s t=lkp st.s t:=fun {i t} ho=>
  ml _ _ _ _ fun q hq he=>by
   obtain ⟨j,hj⟩:=List.mem_iff_getElem?.1 (List.mem_of_mem_take hq);obtain ⟨h1,h2⟩:=kx hj;exact ho j q h1 h2 he
 have du:∀ {j:Nat} {q:Oper} {d:Nat},j < n→l[j]? = some q→q.dst=some d→bg st.h.length 5 (rs.getD j .any)=true:=fun {j q d} hj hq aH=>by
  cases hc:ba j
  ·exact (S.plain j q _ (by rw [Nat.zero_add];exact hc) (bf hj hq) (ep hj)).2.1 d aH
  ·obtain ⟨pid,av,fz,h1,_,h2,_⟩:=S.chain j q (by rw [Nat.zero_add];exact hc) (bf hj hq);rw [ep hj] at h1;rw [Option.some.inj h1];unfold qS;split
   ·rename_i hf;exact h2 hf
   ·rfl
 refine wp_region_any hm ?_;refine sW (Inv:=fun listed a w=>HeadInv .any l.toArray n listed∧∃ (k:Nat) (p:Pl) (s:List (Nat×AV)),k≤n∧(∀ c,c < n→ba c=true→(listed.getD c false=true↔c < k))∧Rel M0 w0 N p ⟨s,st.h++Xs k⟩ a w ∧
   (∀ (j:Nat) (q:Oper) (d:Nat),j < n→listed.getD j false=true→l[j]? = some q→q.dst=some d→rs.getD j .any = .any∨lkp s d=rs.getD j .any) ∧
   (∀ t,(∀ j q,j < n→l[j]? = some q→q.dst≠some t)→lkp s t=lkp st.s t)∧(∀ t,lkp (dG k) t≠.any→lkp s t=lkp (dG k) t)) hB (fun _ _ _ inv=>inv.1) ?_ ?_ _ _ _ _ ?_ (by simp)
 ·rintro listed a w i o ⟨head,k,p,s,hk,eP,R,S1,S2,S3⟩ hi a_ ho fx;have aT:l[i]? = some o:=by simpa using ho
  obtain ⟨_,o2,lP,cZ⟩:=mem_ready.1 hi;have:o2=o:=Option.some.inj (lP.symm.trans ho);subst this;have bZ:∀ j,Region.waitsFor .any l.toArray i j=true→listed.getD j false=true:=by
   intro j hj;obtain ⟨o3,m_,e,he,hb,cL⟩:=Region.waitsFor_spec hj;have:o3=o2:=Option.some.inj (m_.symm.trans ho);subst this;rw [←cL];exact cZ e he hb
  have cS:∀ t∈o2.looksAt l.toArray,lkp (aM st ((l.take n).take i) (rs.take i)).s t = .any∨(lkp (aM st ((l.take n).take i) (rs.take i)).s t=lkp s t∧bg st.h.length 5 (lkp s t)=true):=fun t ht=>by
   by_cases hex:∃ (j:Nat) (q:Oper),j < n∧l[j]? = some q∧q.dst=some t
   ·obtain ⟨j,q,hj,hq,aH⟩:=hex;obtain ⟨h1,h2⟩:=cG i a_ o2 aT t ht j hj q hq aH;rw [aY h2 (by omega) hq aH];rcases S1 j q t hj (bZ j h1) hq aH with this|this
    ·exact .inl this
    ·exact .inr ⟨this.symm,by rw [this];exact du hj hq aH⟩
   ·have bz:∀ j q,j < n→l[j]? = some q→q.dst≠some t:=fun j q hj hq he=>hex ⟨j,q,hj,hq,he⟩;rw [aX bz,S2 t bz];exact .inr ⟨rfl,pn hs t⟩
  have cE:∀ {j:Nat} {q:Oper} {d d':Nat},j < n→j≠i→l[j]? = some q→q.dst=some d→o2.dst=some d'→d'≠d:=fun {j q d d'} hj cT hq aH eb he=>by
   subst he;exact cT (ou dw (bf hj hq) (bf a_ aT) aH eb)
  cases ef:ba i
  ·obtain ⟨ao,nh,_,_⟩:=S.plain i o2 (rs.getD i .any) (by rw [Nat.zero_add];exact ef) (bf a_ aT) (ep a_);have fin:∀ v w',V1 w' (Mof M0 (st.h++Xs k) p) st.h p (rs.getD i .any) v→Below w.heap.size w w'→(fun listed a w=>HeadInv .any l.toArray n listed∧∃ (k:Nat) (p:Pl) (s:List (Nat×AV)),k≤n∧(∀ c,c < n→ba c=true→(listed.getD c false=true↔c < k))∧Rel M0 w0 N p ⟨s,st.h++Xs k⟩ a w ∧
     (∀ (j:Nat) (q:Oper) (d:Nat),j < n→listed.getD j false=true→l[j]? = some q→q.dst=some d→rs.getD j .any = .any∨lkp s d=rs.getD j .any) ∧
     (∀ t,(∀ j q,j < n→l[j]? = some q→q.dst≠some t)→lkp s t=lkp st.s t)∧(∀ t,lkp (dG k) t≠.any→lkp s t=lkp (dG k) t)) (listed.setIfInBounds i true) (a.put o2.dst v) w':=fun v w' hv hb=>by
    have R':=(R.later hb).put (d:=o2.dst) (dZ (List.all_eq_true.1 hN o2 (List.mem_of_getElem? aT))) (V1.long hv);have cJ:(VS.put ⟨s,st.h++Xs k⟩ o2.dst (rs.getD i .any))=⟨(VS.put ⟨s,st.h++Xs k⟩ o2.dst (rs.getD i .any)).s,st.h++Xs k⟩:=by cases o2.dst<;>rfl
    rw [cJ] at R';refine ⟨head.set hi a_,k,p,_,hk,fun c hc cz=>?_,R',fun j q d hj hl hq aH=>?_,fun t ht=>?_,fun t ht=>?_⟩
    ·have aq:i≠c:=fun e=>by rw [←e,ef] at cz;cases cz
     rw [getD_set_ne false aq];exact eP c hc cz
    ·rw [gP];by_cases cT:j=i
     ·subst cT;have:q=o2:=Option.some.inj (hq.symm.trans aT);subst this;rw [if_pos aH];exact .inr rfl
     ·rw [if_neg fun e=>cE hj cT hq aH e rfl];rw [getD_set_ne false (Ne.symm cT)] at hl;exact S1 j q d hj hl hq aH
    ·rw [gP,if_neg (ht i o2 a_ aT)];exact S2 t ht
    ·obtain ⟨c,q,h1,h2,h3,h4⟩:=S.dom e2 k (by rw [hlen];exact hk) t ht;obtain ⟨h5,h6⟩:=kx h3;rw [gP,if_neg fun e=>cE h5 (fun e=>by rw [e,ef] at h2;cases h2) h6 h4 e rfl];exact S3 t ht
   have b8:fT P st.h (ev (aM st ((l.take n).take i) (rs.take i))) o2.op (rs.getD i .any)→gives P o2 a w fun v w''=>V1 w'' (Mof M0 (st.h++Xs k) p) st.h p (rs.getD i .any) v∧Below w.heap.size w w'':=by
    intro hg;refine pj (R.short_objs hh) R.mok R.h0 R.glob (fun _ _ hb=>.inl hb) (fun x hx=>?_) hg;cases x with
    | tmp t=>
     show V1 _ _ _ _ (lkp (aM st ((l.take n).take i) (rs.take i)).s t) _;rcases cS t (List.mem_append_left _ (List.mem_filterMap.2 ⟨.tmp t,by simpa using hx,rfl⟩)) with h1|⟨h1,h2⟩
     ·rw [h1];exact .base _ _ (.any _)
     ·rw [h1];exact V1.short (R.slots t) h2
    | const v=>exact .base _ _ (.lit v)
    | global g=>exact .base _ _ (R.evalG g)
    | func f=>exact .base _ _ (.lit _)
   have hy:=fun j=>pa (ops:=l) (j:=j) R hN;have b9:∀ (j:Nat) (want:Bool) (v:Value),o2.guard=some (j,want)→cY l (aM st ((l.take n).take i) (rs.take i)) j = .lit v→cY l ⟨s,st.h++Xs k⟩ j = .lit v:=by
    intro j want v hg hv;unfold cY at hv ⊢;cases hj:l[j]? with
    | none=>simpa [hj] using hv
    | some q=>
     cases hq:q.dst with
     | none=>simpa [hj,hq] using hv
     | some d=>
      have ec:d∈o2.looksAt l.toArray:=by
       unfold Oper.looksAt;refine List.mem_append_right _ ?_;simp [hg,hj,hq]
      simp only [hj,hq] at hv ⊢;rcases cS d ec with h1|⟨h1,_⟩
      ·rw [h1] at hv;cases hv
      ·rw [←h1];exact hv
   unfold wpOp;simp only [ho];unfold kz at ao;split at ao
   ·rename_i hg;rw [if_pos (by simp [Region.wanted,hg])];rw [fc] at ao;exact Or.inl (kA (b8 ao) rfl fun v w' hv=>fin v w' hv.1 hv.2)
   ·rename_i j want hg;split at ao
    ·rename_i b hb;have fA:=(hy j).1 b (b9 j want _ hg hb);split at ao
     ·rename_i hw;subst hw;rw [if_pos (by simp [Region.wanted,hg,fA])];rw [fc] at ao;exact Or.inl (kA (b8 ao) rfl fun v w' hv=>fin v w' hv.1 hv.2)
     ·rename_i hw;rw [if_neg (by simpa [Region.wanted,hg,fA] using hw)];exact fin undef w (by rw [ao];exact .base _ _ (.lit _)) (Below.refl _ _)
    ·rename_i us hb;have fA:=(hy j).2 us (b9 j want _ hg hb);rw [if_neg (by simp [Region.wanted,hg,fA])];exact fin undef w (by rw [ao];exact .base _ _ (.lit _)) (Below.refl _ _)
    ·exact ao.elim
  ·obtain ⟨pid,av,fz,hres,⟨mf,Cw,cM,ku⟩,zi,ca⟩:=S.chain i o2 (by rw [Nat.zero_add];exact ef) (bf a_ aT);rw [ep a_] at hres;replace hres:=Option.some.inj hres
   have jy:k≤i:=by
    rcases Nat.lt_or_ge i k with h1|h1
    ·have h2:=(eP i a_ ef).2 h1;rw [getD_both fx] at h2;cases h2
    ·exact h1
   have la:∀ c,k≤c→c < k+(i - k)→ba c=false:=fun c h1 h2=>by
    cases cz:ba c
    ·rfl
    ·have:=pg head n i c bZ (wF i c a_ (by omega) ef cz);have:=(eP c (by omega) cz).1 this;omega
   obtain ⟨hX,fZ⟩:=S.same (k:=k) (i - k) (by rw [hlen];omega) la;rw [show k+(i - k)=i by omega] at hX fZ;rw [hX,fZ] at ku;rw [fZ] at ca;have hv:=ku s (fun t ht aq=>by
    rw [fc] at *;rcases qh (dG k) (aM st ((l.take n).take i) (rs.take i)).s t with h1|h1
    ·rw [h1] at aq ⊢;exact S3 t aq
    ·rw [h1] at aq ⊢;rcases cS t (List.mem_append_left _ (List.mem_filterMap.2 ⟨.tmp t,by simpa using ht,rfl⟩)) with h2|⟨h2,_⟩
     ·exact absurd h2 aq
     ·exact h2.symm)
   rw [fc] at hv;rw [fc] at cM;unfold wpOp;simp only [ho];rw [if_pos (by simp [Region.wanted,mf])];refine Or.inl (xc R (List.all_eq_true.1 hN o2 (List.mem_of_getElem? aT)) hv fun p' aI a' w' R' he=>?_);replace R':=he _ _ _ _ _ _ R'
   have nS:∀ {t:Nat},(∀ d,o2.dst=some d→d≠t)→bg st.h.length 5 (lkp s t)=true→lkp (mG o2.dst av pid s) t=lkp s t:=fun {t} aq hid=>GZ aq cM hid;refine ⟨head.set hi a_,i+1,p',_,by omega,fun c hc cz=>?_,R',fun j q d hj hl hq aH=>?_,fun t ht=>?_,fun t ht=>?_⟩
   ·by_cases tw:i=c
    ·subst tw;have bK:i < listed.size:=by rw [head.size];simpa using (by omega:i < l.length)
     simp [bK]
    ·rw [getD_set_ne false tw];rcases Nat.lt_or_ge c i with h1|h1
     ·have:=pg head n i c bZ (wF i c a_ h1 ef cz);exact ⟨fun _=>by omega,fun _=>this⟩
     ·have:=eP c hc cz;exact ⟨fun h=>by have:=this.1 h;omega,fun h=>by omega⟩
   ·by_cases cT:j=i
    ·subst cT;have:q=o2:=Option.some.inj (hq.symm.trans aT);subst this;rw [hres];unfold qS;split
     ·refine .inr ?_;unfold mG;rw [aH];simp [lkp]
     ·exact .inl rfl
    ·rw [getD_set_ne false (Ne.symm cT)] at hl;rcases S1 j q d hj hl hq aH with mb|mb
     ·exact .inl mb
     ·refine .inr ?_;rw [nS (fun d' eb=>cE hj cT hq aH eb) (by rw [mb];exact du hj hq aH)];exact mb
   ·rw [nS (fun d' eb he=>ht i o2 a_ aT (by rw [eb,he])) (by rw [S2 t ht];exact pn hs t)];exact S2 t ht
   ·rw [ca] at ht ⊢;unfold nU at ht ⊢;by_cases hf:fz=true
    ·rw [if_pos hf] at ht ⊢;cases pid with
     | some _=>exact absurd rfl ht
     | none=>
      simp only at ht ⊢;obtain ⟨c,q,g1,g2,g3,g4⟩:=S.dom e2 k (by rw [hlen];omega) t ht;obtain ⟨g5,g6⟩:=kx g3;unfold mG;cases eb:o2.dst with
      | none=>simp only [mH];exact S3 t ht
      | some d=>
       simp only [lkp,mH];rw [if_neg (cE g5 (by omega) g6 g4 eb)];exact S3 t ht
    rw [if_neg hf] at ht ⊢;unfold nV at ht ⊢;unfold mG;cases eb:o2.dst with
    | none=>
     simp only [eb] at ht ⊢;rw [Cw eb];exact S3 t ht
    | some d=>
     simp only [eb] at ht ⊢;by_cases gh:d=t
     ·simp [lkp,gh]
     ·cases pid with
      | some _=>simp [lkp,gh] at ht
      | none=>
       simp only [lkp,gh,if_false,mH] at ht ⊢;exact S3 t ht
 ·rintro listed a w ⟨head,k,p,s,hk,eP,R,S1,S2,S3⟩ aD;have la:∀ c,k≤c→c < k+(n - k)→ba c=false:=fun c h1 h2=>by
   cases cz:ba c
   ·rfl
   ·have:=(eP c (by omega) cz).1 (aD c (by omega));omega
  obtain ⟨hX,fZ⟩:=S.same (k:=k) (n - k) (by rw [hlen];omega) la;rw [show k+(n - k)=n by omega] at hX fZ;rw [hX,fZ] at hK;have gJ:aM st (l.take n) rs=aM st ((l.take n).take n) (rs.take n):=by
   rw [List.take_of_length_le (l:=l.take n) (by rw [hlen];exact Nat.le_refl _),List.take_of_length_le (l:=rs) (by rw [S.len,hlen];exact Nat.le_refl _)]
  have R':=R.weak (s':=dG k++(aM st (l.take n) rs).s) fun t=>by
   show lkp (dG k++(aM st (l.take n) rs).s) t=lkp s t∨_;rcases qh (dG k) (aM st (l.take n) rs).s t with h1|h1
   ·rw [h1];by_cases aq:lkp (dG k) t = .any
    ·exact .inr aq
    ·exact .inl (S3 t aq).symm
   ·rw [h1,gJ];by_cases hex:∃ (j:Nat) (q:Oper),j < n∧l[j]? = some q∧q.dst=some t
    ·obtain ⟨j,q,hj,hq,aH⟩:=hex;rw [aY hj (Nat.le_refl _) hq aH];rcases S1 j q t hj (aD j hj) hq aH with h5|h5
     ·exact .inr h5
     ·exact .inl h5.symm
    ·have bz:∀ j q,j < n→l[j]? = some q→q.dst≠some t:=fun j q hj hq he=>hex ⟨j,q,hj,hq,he⟩;rw [aX bz,S2 t bz];exact .inl rfl
  have ix:(l.drop n).all (cR N)=true:=List.all_eq_true.2 fun q hq=>List.all_eq_true.1 hN q (List.mem_of_mem_drop hq);exact mS (ow:=ow) hN (fun p st a w R h=>⟨st,p,R,h⟩) (l.drop n) p _ _ w ix R' hK
 ·refine ⟨⟨by simp,fun j oj _ hl=>(by rw [getD_replicate_false] at hl;cases hl),fun t _ ht=>getD_in (by simpa using ht) (getD_replicate_false _ _)⟩,0,p0,st.s,Nat.zero_le _,fun c _ _=>⟨fun hl=>(by rw [getD_replicate_false] at hl;cases hl),fun h=>absurd h (Nat.not_lt_zero c)⟩,?_,fun j q d _ hl=>(by rw [getD_replicate_false] at hl;cases hl),fun _ _=>rfl,fun t ht=>?_⟩
  ·rw [e1,List.append_nil];exact R0.later (Below.refl _ _).drew
  ·rw [e2] at ht;exact absurd rfl ht
end
end Go.Proofs.YtoibondihdhnoaaGreatDoor
