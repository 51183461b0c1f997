/- Texts in one: A drawing region whose own operations wait for each other, one through the other: of every program; no condition. -/
import Derived.Test.YtoibondihdhnoaaDoorFRX12
namespace Go.Proofs.YtoibondihdhnoaaDoor
open Go.RowKit
def c9g (l:List Oper) (n:Nat) (isC:Nat→Bool) : Bool:=(List.range n).all fun c=>!isC c || (List.range c).all fun d=>!isC d || o8_ l n c d
section
variable {P:Program} {M0:Nat→Nat→Prop} {w0:Bas} {N:Nm} {p:Pl} {st:VS} {a:Act} {w:World} {Q:Exit→VS→Prop}
theorem b3a {id:Nat} {l:List Oper} (n:Nat) (ow:List Nat) (isC:Nat→Bool) (hm:P.follows .mixedOrders=true) (hB:Region.specB l.toArray n=true) (hC:c9g l n isC=true) (hs:sOK st.h.length st.s) (hh:hOK st.h.length st.h)
  (h:r2_ P ow l isC (l.take n) 0 st [] [] fun st'=>y2_ P ow l (l.drop n) st' (Q .normal)) : VWp P M0 w0 N (.region id l.toArray true) Q st:=fun hCd p0 a0 wst R0=>by
 have hN:l.all (q9_ N)=true:=by simpa [n7_] using hCd
 obtain ⟨rs,Xs,css,S,e1,e2,hK⟩:=t7_ _ _ _ _ _ h;have hB':=hB;simp only [Region.specB,Bool.and_eq_true,decide_eq_true_eq] at hB';obtain ⟨⟨⟨⟨⟨⟨_,hnl⟩,_⟩,_⟩,hd⟩,hlook⟩,_⟩:=hB';have hnl':n < l.length:=by simpa using hnl
 have hd':j5_ (l.take n)=true:=by simpa using hd
 have hlen:(l.take n).length=n:=by simp;omega
 rw [hlen] at hK;have hat:∀ {i:Nat} {o:Oper},i < n→l[i]? = some o→(l.take n)[i]? = some o:=fun {i o} hi ho=>by rw [List.getElem?_take_of_lt hi];exact ho
 have hta:∀ {i:Nat} {o:Oper},(l.take n)[i]? = some o→i < n∧l[i]? = some o:=fun {i o} ho=>by
  have hi:i < n:=by have:=(List.getElem?_eq_some_iff.1 ho).1;omega
  rw [List.getElem?_take_of_lt hi] at ho;exact ⟨hi,ho⟩
 have hrs:∀ {i:Nat},i < n→rs[i]? = some (rs.getD i .any):=fun {i} hi=>by simp [List.getD,show i < rs.length by rw [S.len,hlen];exact hi]
 have hlk:∀ i,i < n→∀ o,l[i]? = some o→∀ t∈o.looksAt l.toArray,∀ j,j < n→∀ q,l[j]? = some q→q.dst=some t→Region.waitsFor .any l.toArray i j=true∧j < i:=by
  intro i hi o ho;have h:=List.all_eq_true.1 hlook i (List.mem_range.2 hi);simp only [List.getElem?_toArray,ho,Bool.and_eq_true] at h;have haft:∀ e∈o.after,Region.binds .any e=true→e.on < i:=fun e he hb=>by
   have h1:=Array.all_eq_true'.1 h.2 e he;simp only [hb,Bool.not_true,Bool.false_or,decide_eq_true_eq] at h1;exact h1
  intro t ht j hj q hq hqd;have h1:=List.all_eq_true.1 (List.all_eq_true.1 h.1 t ht) j (List.mem_range.2 hj);simp only [hq,Option.bind_some,hqd,bne_self_eq_false,Bool.false_or] at h1;refine ⟨h1,?_⟩;obtain ⟨o',ho',e,he,hb,hon⟩:=Region.waitsFor_spec h1;have:o'=o:=Option.some.inj (ho'.symm.trans (by simpa using ho));subst this;rw [←hon];exact haft e he hb
 have hCw:∀ c d,c < n→d < c→isC c=true→isC d=true→o8_ l n c d=true:=fun c d hc hdc h1 h2=>by
  have:=List.all_eq_true.1 (List.all_eq_true.1 hC c (List.mem_range.2 hc) |> fun h=>by simpa [h1] using h:(List.range c).all (fun d=>!isC d || o8_ l n c d)=true) d (List.mem_range.2 hdc);simpa [h2] using this
 have txt_in:∀ {i j:Nat} {q:Oper} {t:Nat},j < i→i≤n→l[j]? = some q→q.dst=some t→lkp (d5_ st ((l.take n).take i) (rs.take i)).s t=rs.getD j .any:=fun {i j q t} hj hi hq ht=>
  r1_ ((l.take n).take i) (rs.take i) st t j q (rs.getD j .any) (i0_ _ _ hd') (by rw [List.getElem?_take_of_lt hj];exact hat (by omega) hq) (by rw [List.getElem?_take_of_lt hj];exact hrs (by omega)) ht
 have txt_out:∀ {i t:Nat},(∀ j q,j < n→l[j]? = some q→q.dst≠some t)→lkp (d5_ st ((l.take n).take i) (rs.take i)).s t=lkp st.s t:=fun {i t} ho=>
  p6_ _ _ _ _ fun q hq he=>by
   obtain ⟨j,hj⟩:=List.mem_iff_getElem?.1 (List.mem_of_mem_take hq);obtain ⟨h1,h2⟩:=hta hj;exact ho j q h1 h2 he
 have hids:∀ {j:Nat} {q:Oper} {d:Nat},j < n→l[j]? = some q→q.dst=some d→h5_ st.h.length 5 (rs.getD j .any)=true:=fun {j q d} hj hq hqd=>by
  cases hc:isC j
  ·exact (S.plain j q _ (by rw [Nat.zero_add];exact hc) (hat hj hq) (hrs hj)).2.1 d hqd
  ·obtain ⟨pid,av,fz,h1,_,h2,_⟩:=S.chain j q (by rw [Nat.zero_add];exact hc) (hat hj hq);rw [hrs hj] at h1;rw [Option.some.inj h1];unfold b0u;split
   ·rename_i hf;exact h2 hf
   ·rfl
 refine wp_region_any hm ?_;refine p2_ (Inv:=fun listed a w=>HeadInv .any l.toArray n listed∧∃ (k:Nat) (p:Pl) (s:List (Nat×AV)),k≤n∧(∀ c,c < n→isC c=true→(listed.getD c false=true↔c < k))∧Rel M0 w0 N p ⟨s,st.h++Xs k⟩ a w ∧
   (∀ (j:Nat) (q:Oper) (d:Nat),j < n→listed.getD j false=true→l[j]? = some q→q.dst=some d→rs.getD j .any = .any∨lkp s d=rs.getD j .any) ∧
   (∀ t,(∀ j q,j < n→l[j]? = some q→q.dst≠some t)→lkp s t=lkp st.s t)∧(∀ t,lkp (css k) t≠.any→lkp s t=lkp (css k) t)) hB (fun _ _ _ inv=>inv.1) ?_ ?_ _ _ _ _ ?_ (by simp)
 ·rintro listed a w i o ⟨head,k,p,s,hk,hkc,R,S1,S2,S3⟩ hi hin ho hiu;have ho':l[i]? = some o:=by simpa using ho
  obtain ⟨_,o2,ho2,hdone⟩:=mem_ready.1 hi;have:o2=o:=Option.some.inj (ho2.symm.trans ho);subst this;have hwait:∀ j,Region.waitsFor .any l.toArray i j=true→listed.getD j false=true:=by
   intro j hj;obtain ⟨o3,ho3,e,he,hb,hon⟩:=Region.waitsFor_spec hj;have:o3=o2:=Option.some.inj (ho3.symm.trans ho);subst this;rw [←hon];exact hdone e he hb
  have hop:∀ t∈o2.looksAt l.toArray,lkp (d5_ st ((l.take n).take i) (rs.take i)).s t = .any∨(lkp (d5_ st ((l.take n).take i) (rs.take i)).s t=lkp s t∧h5_ st.h.length 5 (lkp s t)=true):=fun t ht=>by
   by_cases hex:∃ (j:Nat) (q:Oper),j < n∧l[j]? = some q∧q.dst=some t
   ·obtain ⟨j,q,hj,hq,hqd⟩:=hex;obtain ⟨h1,h2⟩:=hlk i hin o2 ho' t ht j hj q hq hqd;rw [txt_in h2 (by omega) hq hqd];rcases S1 j q t hj (hwait j h1) hq hqd with this|this
    ·exact .inl this
    ·exact .inr ⟨this.symm,by rw [this];exact hids hj hq hqd⟩
   ·have hno:∀ j q,j < n→l[j]? = some q→q.dst≠some t:=fun j q hj hq he=>hex ⟨j,q,hj,hq,he⟩;rw [txt_out hno,S2 t hno];exact .inr ⟨rfl,a2r hs t⟩
  have hnot:∀ {j:Nat} {q:Oper} {d d':Nat},j < n→j≠i→l[j]? = some q→q.dst=some d→o2.dst=some d'→d'≠d:=fun {j q d d'} hj hji hq hqd hd2 he=>by
   subst he;exact hji (l4_ hd' (hat hj hq) (hat hin ho') hqd hd2)
  cases hci:isC i
  ·obtain ⟨hstep,hidr,_,_⟩:=S.plain i o2 (rs.getD i .any) (by rw [Nat.zero_add];exact hci) (hat hin ho') (hrs hin);have fin:∀ v w',V1 w' (Mof M0 (st.h++Xs k) p) st.h p (rs.getD i .any) v→Below w.heap.size w w'→(fun listed a w=>HeadInv .any l.toArray n listed∧∃ (k:Nat) (p:Pl) (s:List (Nat×AV)),k≤n∧(∀ c,c < n→isC c=true→(listed.getD c false=true↔c < k))∧Rel M0 w0 N p ⟨s,st.h++Xs k⟩ a w ∧
     (∀ (j:Nat) (q:Oper) (d:Nat),j < n→listed.getD j false=true→l[j]? = some q→q.dst=some d→rs.getD j .any = .any∨lkp s d=rs.getD j .any) ∧
     (∀ t,(∀ j q,j < n→l[j]? = some q→q.dst≠some t)→lkp s t=lkp st.s t)∧(∀ t,lkp (css k) t≠.any→lkp s t=lkp (css k) t)) (listed.setIfInBounds i true) (a.put o2.dst v) w':=fun v w' hv hb=>by
    have R':=(R.later hb).put (d:=o2.dst) (f8_ (List.all_eq_true.1 hN o2 (List.mem_of_getElem? ho'))) (V1.long hv);have hes:(VS.put ⟨s,st.h++Xs k⟩ o2.dst (rs.getD i .any))=⟨(VS.put ⟨s,st.h++Xs k⟩ o2.dst (rs.getD i .any)).s,st.h++Xs k⟩:=by cases o2.dst<;>rfl
    rw [hes] at R';refine ⟨head.set hi hin,k,p,_,hk,fun c hc hcc=>?_,R',fun j q d hj hl hq hqd=>?_,fun t ht=>?_,fun t ht=>?_⟩
    ·have hne:i≠c:=fun e=>by rw [←e,hci] at hcc;cases hcc
     rw [getD_set_ne false hne];exact hkc c hc hcc
    ·rw [g7_];by_cases hji:j=i
     ·subst hji;have:q=o2:=Option.some.inj (hq.symm.trans ho');subst this;rw [if_pos hqd];exact .inr rfl
     ·rw [if_neg fun e=>hnot hj hji hq hqd e rfl];rw [getD_set_ne false (Ne.symm hji)] at hl;exact S1 j q d hj hl hq hqd
    ·rw [g7_,if_neg (ht i o2 hin ho')];exact S2 t ht
    ·obtain ⟨c,q,h1,h2,h3,h4⟩:=S.dom e2 k (by rw [hlen];exact hk) t ht;obtain ⟨h5,h6⟩:=hta h3;rw [g7_,if_neg fun e=>hnot h5 (fun e=>by rw [e,hci] at h2;cases h2) h6 h4 e rfl];exact S3 t ht
   have hgive:j2_ P st.h (ev (d5_ st ((l.take n).take i) (rs.take i))) o2.op (rs.getD i .any)→gives P o2 a w fun v w''=>V1 w'' (Mof M0 (st.h++Xs k) p) st.h p (rs.getD i .any) v∧Below w.heap.size w w'':=by
    intro hg;refine q1_ (R.short_objs hh) R.mok R.h0 R.glob (fun _ _ hb=>.inl hb) (fun x hx=>?_) hg;cases x with
    | tmp t=>
     show V1 _ _ _ _ (lkp (d5_ st ((l.take n).take i) (rs.take i)).s t) _;rcases hop t (List.mem_append_left _ (List.mem_filterMap.2 ⟨.tmp t,by simpa using hx,rfl⟩)) with h1|⟨h1,h2⟩
     ·rw [h1];exact .base _ _ (.any _)
     ·rw [h1];exact V1.short (R.slots t) h2
    | const v=>exact .base _ _ (.lit v)
    | global g=>exact .base _ _ (R.evalG g)
    | func f=>exact .base _ _ (.lit _)
   have hy:=fun j=>i6_ (ops:=l) (j:=j) R hN;have hguard:∀ (j:Nat) (want:Bool) (v:Value),o2.guard=some (j,want)→e1_ l (d5_ st ((l.take n).take i) (rs.take i)) j = .lit v→e1_ l ⟨s,st.h++Xs k⟩ j = .lit v:=by
    intro j want v hg hv;unfold e1_ at hv ⊢;cases hj:l[j]? with
    | none=>simpa [hj] using hv
    | some q=>
     cases hq:q.dst with
     | none=>simpa [hj,hq] using hv
     | some d=>
      have hmem:d∈o2.looksAt l.toArray:=by
       unfold Oper.looksAt;refine List.mem_append_right _ ?_;simp [hg,hj,hq]
      simp only [hj,hq] at hv ⊢;rcases hop d hmem with h1|⟨h1,_⟩
      ·rw [h1] at hv;cases hv
      ·rw [←h1];exact hv
   unfold wpOp;simp only [ho];unfold q4_ at hstep;split at hstep
   ·rename_i hg;rw [if_pos (by simp [Region.wanted,hg])];rw [h0_] at hstep;exact Or.inl (e2_ (hgive hstep) rfl fun v w' hv=>fin v w' hv.1 hv.2)
   ·rename_i j want hg;split at hstep
    ·rename_i b hb;have hyb:=(hy j).1 b (hguard j want _ hg hb);split at hstep
     ·rename_i hw;subst hw;rw [if_pos (by simp [Region.wanted,hg,hyb])];rw [h0_] at hstep;exact Or.inl (e2_ (hgive hstep) rfl fun v w' hv=>fin v w' hv.1 hv.2)
     ·rename_i hw;rw [if_neg (by simpa [Region.wanted,hg,hyb] using hw)];exact fin undef w (by rw [hstep];exact .base _ _ (.lit _)) (Below.refl _ _)
    ·rename_i us hb;have hyb:=(hy j).2 us (hguard j want _ hg hb);rw [if_neg (by simp [Region.wanted,hg,hyb])];exact fin undef w (by rw [hstep];exact .base _ _ (.lit _)) (Below.refl _ _)
    ·exact hstep.elim
  ·obtain ⟨pid,av,fz,hres,⟨hgd,hdp,hpid,hdo⟩,hfz,hcs⟩:=S.chain i o2 (by rw [Nat.zero_add];exact hci) (hat hin ho');rw [hrs hin] at hres;replace hres:=Option.some.inj hres
   have hki:k≤i:=by
    rcases Nat.lt_or_ge i k with h1|h1
    ·have h2:=(hkc i hin hci).2 h1;rw [getD_both hiu] at h2;cases h2
    ·exact h1
   have hbet:∀ c,k≤c→c < k+(i - k)→isC c=false:=fun c h1 h2=>by
    cases hcc:isC c
    ·rfl
    ·have:=g5_ head n i c hwait (hCw i c hin (by omega) hci hcc);have:=(hkc c (by omega) hcc).1 this;omega
   obtain ⟨hX,hcsk⟩:=S.same (k:=k) (i - k) (by rw [hlen];omega) hbet;rw [show k+(i - k)=i by omega] at hX hcsk;rw [hX,hcsk] at hdo;rw [hcsk] at hcs;have hv:=hdo s (fun t ht hne=>by
    rw [h0_] at *;rcases z9_ (css k) (d5_ st ((l.take n).take i) (rs.take i)).s t with h1|h1
    ·rw [h1] at hne ⊢;exact S3 t hne
    ·rw [h1] at hne ⊢;rcases hop t (List.mem_append_left _ (List.mem_filterMap.2 ⟨.tmp t,by simpa using ht,rfl⟩)) with h2|⟨h2,_⟩
     ·exact absurd h2 hne
     ·exact h2.symm)
   rw [h0_] at hv;rw [h0_] at hpid;unfold wpOp;simp only [ho];rw [if_pos (by simp [Region.wanted,hgd])];refine Or.inl (b4z R (List.all_eq_true.1 hN o2 (List.mem_of_getElem? ho')) hv fun p' st' a' w' R' he=>?_);replace R':=he _ _ _ _ _ _ R'
   have hlks:∀ {t:Nat},(∀ d,o2.dst=some d→d≠t)→h5_ st.h.length 5 (lkp s t)=true→lkp (y0_ o2.dst av pid s) t=lkp s t:=fun {t} hne hid=>a7d hne hpid hid;refine ⟨head.set hi hin,i+1,p',_,by omega,fun c hc hcc=>?_,R',fun j q d hj hl hq hqd=>?_,fun t ht=>?_,fun t ht=>?_⟩
   ·by_cases hic:i=c
    ·subst hic;have hisz:i < listed.size:=by rw [head.size];simpa using (by omega:i < l.length)
     simp [hisz]
    ·rw [getD_set_ne false hic];rcases Nat.lt_or_ge c i with h1|h1
     ·have:=g5_ head n i c hwait (hCw i c hin h1 hci hcc);exact ⟨fun _=>by omega,fun _=>this⟩
     ·have:=hkc c hc hcc;exact ⟨fun h=>by have:=this.1 h;omega,fun h=>by omega⟩
   ·by_cases hji:j=i
    ·subst hji;have:q=o2:=Option.some.inj (hq.symm.trans ho');subst this;rw [hres];unfold b0u;split
     ·refine .inr ?_;unfold y0_;rw [hqd];simp [lkp]
     ·exact .inl rfl
    ·rw [getD_set_ne false (Ne.symm hji)] at hl;rcases S1 j q d hj hl hq hqd with hsd|hsd
     ·exact .inl hsd
     ·refine .inr ?_;rw [hlks (fun d' hd2=>hnot hj hji hq hqd hd2) (by rw [hsd];exact hids hj hq hqd)];exact hsd
   ·rw [hlks (fun d' hd2 he=>ht i o2 hin ho' (by rw [hd2,he])) (by rw [S2 t ht];exact a2r hs t)];exact S2 t ht
   ·rw [hcs] at ht ⊢;unfold z7_ at ht ⊢;by_cases hf:fz=true
    ·rw [if_pos hf] at ht ⊢;cases pid with
     | some _=>exact absurd rfl ht
     | none=>
      simp only at ht ⊢;obtain ⟨c,q,g1,g2,g3,g4⟩:=S.dom e2 k (by rw [hlen];omega) t ht;obtain ⟨g5,g6⟩:=hta g3;unfold y0_;cases hd2:o2.dst with
      | none=>simp only [x9_];exact S3 t ht
      | some d=>
       simp only [lkp,x9_];rw [if_neg (hnot g5 (by omega) g6 g4 hd2)];exact S3 t ht
    rw [if_neg hf] at ht ⊢;unfold a2q at ht ⊢;unfold y0_;cases hd2:o2.dst with
    | none=>
     simp only [hd2] at ht ⊢;rw [hdp hd2];exact S3 t ht
    | some d=>
     simp only [hd2] at ht ⊢;by_cases hdt:d=t
     ·simp [lkp,hdt]
     ·cases pid with
      | some _=>simp [lkp,hdt] at ht
      | none=>
       simp only [lkp,hdt,if_false,x9_] at ht ⊢;exact S3 t ht
 ·rintro listed a w ⟨head,k,p,s,hk,hkc,R,S1,S2,S3⟩ hall;have hbet:∀ c,k≤c→c < k+(n - k)→isC c=false:=fun c h1 h2=>by
   cases hcc:isC c
   ·rfl
   ·have:=(hkc c (by omega) hcc).1 (hall c (by omega));omega
  obtain ⟨hX,hcsk⟩:=S.same (k:=k) (n - k) (by rw [hlen];omega) hbet;rw [show k+(n - k)=n by omega] at hX hcsk;rw [hX,hcsk] at hK;have hpt:d5_ st (l.take n) rs=d5_ st ((l.take n).take n) (rs.take n):=by
   rw [List.take_of_length_le (l:=l.take n) (by rw [hlen];exact Nat.le_refl _),List.take_of_length_le (l:=rs) (by rw [S.len,hlen];exact Nat.le_refl _)]
  have R':=R.weak (s':=css k++(d5_ st (l.take n) rs).s) fun t=>by
   show lkp (css k++(d5_ st (l.take n) rs).s) t=lkp s t∨_;rcases z9_ (css k) (d5_ st (l.take n) rs).s t with h1|h1
   ·rw [h1];by_cases hne:lkp (css k) t = .any
    ·exact .inr hne
    ·exact .inl (S3 t hne).symm
   ·rw [h1,hpt];by_cases hex:∃ (j:Nat) (q:Oper),j < n∧l[j]? = some q∧q.dst=some t
    ·obtain ⟨j,q,hj,hq,hqd⟩:=hex;rw [txt_in hj (Nat.le_refl _) hq hqd];rcases S1 j q t hj (hall j hj) hq hqd with h5|h5
     ·exact .inr h5
     ·exact .inl h5.symm
    ·have hno:∀ j q,j < n→l[j]? = some q→q.dst≠some t:=fun j q hj hq he=>hex ⟨j,q,hj,hq,he⟩;rw [txt_out hno,S2 t hno];exact .inl rfl
  have hNd:(l.drop n).all (q9_ N)=true:=List.all_eq_true.2 fun q hq=>List.all_eq_true.1 hN q (List.mem_of_mem_drop hq);exact r0_ (ow:=ow) hN (fun p st a w R h=>⟨st,p,R,h⟩) (l.drop n) p _ _ w hNd R' hK
 ·refine ⟨⟨by simp,fun j oj _ hl=>(by rw [getD_replicate_false] at hl;cases hl),fun t _ ht=>getD_in (by simpa using ht) (getD_replicate_false _ _)⟩,0,p0,st.s,Nat.zero_le _,fun c _ _=>⟨fun hl=>(by rw [getD_replicate_false] at hl;cases hl),fun h=>absurd h (Nat.not_lt_zero c)⟩,?_,fun j q d _ hl=>(by rw [getD_replicate_false] at hl;cases hl),fun _ _=>rfl,fun t ht=>?_⟩
  ·rw [e1,List.append_nil];exact R0.later (Below.refl _ _).drew
  ·rw [e2] at ht;exact absurd rfl ht
end
end Go.Proofs.YtoibondihdhnoaaDoor
