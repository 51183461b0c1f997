/- Texts in one: A drawing region whose own operations wait for each other, one through the other: of every program; no condition. -/
import Derived.Test.YtoibondihdhnoaaGreatDoorFRK8
namespace Go.Proofs.YtoibondihdhnoaaGreatDoor
open Go.RowKit
def Ov (l:List Oper) (n:Nat) (bj:Nat→Bool) : Bool:=(List.range n).all fun c=>!bj c || (List.range c).all fun d=>!bj d || fM l n c d
section
variable {P:Program} {M0:Nat→Nat→Prop} {w0:Bas} {N:Nm} {p:Pl} {st:VS} {a:Act} {w:World} {Q:Exit→VS→Prop}
theorem CO {id:Nat} {l:List Oper} (n:Nat) (ow:List Nat) (bj:Nat→Bool) (hm:P.follows .mixedOrders=true) (hB:Region.specB l.toArray n=true) (hC:Ov l n bj=true) (hs:sOK st.h.length st.s) (hh:hOK st.h.length st.h)
  (h:kF P ow l bj (l.take n) 0 st [] [] fun aK=>ef P ow l (l.drop n) aK (Q .normal)) : VWp P M0 w0 N (.region id l.toArray true) Q st:=fun iS p0 a0 s8 R0=>by
 have hN:l.all (cX N)=true:=by simpa [fk] using iS
 obtain ⟨rs,Xs,dM,S,e1,e2,hK⟩:=zp _ _ _ _ _ h;have dm:=hB;simp only [Region.specB,Bool.and_eq_true,decide_eq_true_eq] at dm;obtain ⟨⟨⟨⟨⟨⟨_,aJ⟩,_⟩,_⟩,hd⟩,bh⟩,_⟩:=dm;have eZ:n < l.length:=by simpa using aJ
 have dv:dW (l.take n)=true:=by simpa using hd
 have hlen:(l.take n).length=n:=by simp;omega
 rw [hlen] at hK;have bb:∀ {i:Nat} {o:Oper},i < n→l[i]? = some o→(l.take n)[i]? = some o:=fun {i o} hi ho=>by rw [List.getElem?_take_of_lt hi];exact ho
 have jA:∀ {i:Nat} {o:Oper},(l.take n)[i]? = some o→i < n∧l[i]? = some o:=fun {i o} ho=>by
  have hi:i < n:=by have:=(List.getElem?_eq_some_iff.1 ho).1;omega
  rw [List.getElem?_take_of_lt hi] at ho;exact ⟨hi,ho⟩
 have dX:∀ {i:Nat},i < n→rs[i]? = some (rs.getD i .any):=fun {i} hi=>by simp [List.getD,show i < rs.length by rw [S.len,hlen];exact hi]
 have cn:∀ i,i < n→∀ o,l[i]? = some o→∀ t∈o.looksAt l.toArray,∀ j,j < n→∀ q,l[j]? = some q→q.dst=some t→Region.waitsFor .any l.toArray i j=true∧j < i:=by
  intro i hi o ho;have h:=List.all_eq_true.1 bh i (List.mem_range.2 hi);simp only [List.getElem?_toArray,ho,Bool.and_eq_true] at h;have fm:∀ e∈o.after,Region.binds .any e=true→e.on < i:=fun e he hb=>by
   have h1:=Array.all_eq_true'.1 h.2 e he;simp only [hb,Bool.not_true,Bool.false_or,decide_eq_true_eq] at h1;exact h1
  intro t ht j hj q hq aE;have h1:=List.all_eq_true.1 (List.all_eq_true.1 h.1 t ht) j (List.mem_range.2 hj);simp only [hq,Option.bind_some,aE,bne_self_eq_false,Bool.false_or] at h1;refine ⟨h1,?_⟩;obtain ⟨o',aM,e,he,hb,cA⟩:=Region.waitsFor_spec h1;have:o'=o:=Option.some.inj (aM.symm.trans (by simpa using ho));subst this;rw [←cA];exact fm e he hb
 have wI:∀ c d,c < n→d < c→bj c=true→bj d=true→fM l n c d=true:=fun c d hc CP h1 h2=>by
  have:=List.all_eq_true.1 (List.all_eq_true.1 hC c (List.mem_range.2 hc) |> fun h=>by simpa [h1] using h:(List.range c).all (fun d=>!bj d || fM l n c d)=true) d (List.mem_range.2 CP);simpa [h2] using this
 have aV:∀ {i j:Nat} {q:Oper} {t:Nat},j < i→i≤n→l[j]? = some q→q.dst=some t→lkp (aH st ((l.take n).take i) (rs.take i)).s t=rs.getD j .any:=fun {i j q t} hj hi hq ht=>
  mr ((l.take n).take i) (rs.take i) st t j q (rs.getD j .any) (mq _ _ dv) (by rw [List.getElem?_take_of_lt hj];exact bb (by omega) hq) (by rw [List.getElem?_take_of_lt hj];exact dX (by omega)) ht
 have aO:∀ {i t:Nat},(∀ j q,j < n→l[j]? = some q→q.dst≠some t)→lkp (aH st ((l.take n).take i) (rs.take i)).s t=lkp st.s t:=fun {i t} ho=>
  lR _ _ _ _ fun q hq he=>by
   obtain ⟨j,hj⟩:=List.mem_iff_getElem?.1 (List.mem_of_mem_take hq);obtain ⟨h1,h2⟩:=jA hj;exact ho j q h1 h2 he
 have dA:∀ {j:Nat} {q:Oper} {d:Nat},j < n→l[j]? = some q→q.dst=some d→bn st.h.length 5 (rs.getD j .any)=true:=fun {j q d} hj hq aE=>by
  cases hc:bj j
  ·exact (S.plain j q _ (by rw [Nat.zero_add];exact hc) (bb hj hq) (dX hj)).2.1 d aE
  ·obtain ⟨pid,av,fz,h1,_,h2,_⟩:=S.chain j q (by rw [Nat.zero_add];exact hc) (bb hj hq);rw [dX hj] at h1;rw [Option.some.inj h1];unfold rb;split
   ·rename_i hf;exact h2 hf
   ·rfl
 refine wp_region_any hm ?_;refine rC (Inv:=fun listed a w=>HeadInv .any l.toArray n listed∧∃ (k:Nat) (p:Pl) (s:List (Nat×AV)),k≤n∧(∀ c,c < n→bj c=true→(listed.getD c false=true↔c < k))∧Rel M0 w0 N p ⟨s,st.h++Xs k⟩ a w ∧
   (∀ (j:Nat) (q:Oper) (d:Nat),j < n→listed.getD j false=true→l[j]? = some q→q.dst=some d→rs.getD j .any = .any∨lkp s d=rs.getD j .any) ∧
   (∀ t,(∀ j q,j < n→l[j]? = some q→q.dst≠some t)→lkp s t=lkp st.s t)∧(∀ t,lkp (dM k) t≠.any→lkp s t=lkp (dM k) t)) hB (fun _ _ _ inv=>inv.1) ?_ ?_ _ _ _ _ ?_ (by simp)
 ·rintro listed a w i o ⟨head,k,p,s,hk,fa,R,S1,S2,S3⟩ hi bc ho e8;have aM:l[i]? = some o:=by simpa using ho
  obtain ⟨_,o2,kL,cW⟩:=mem_ready.1 hi;have:o2=o:=Option.some.inj (kL.symm.trans ho);subst this;have bK:∀ j,Region.waitsFor .any l.toArray i j=true→listed.getD j false=true:=by
   intro j hj;obtain ⟨o3,lS,e,he,hb,cA⟩:=Region.waitsFor_spec hj;have:o3=o2:=Option.some.inj (lS.symm.trans ho);subst this;rw [←cA];exact cW e he hb
  have cP:∀ t∈o2.looksAt l.toArray,lkp (aH st ((l.take n).take i) (rs.take i)).s t = .any∨(lkp (aH st ((l.take n).take i) (rs.take i)).s t=lkp s t∧bn st.h.length 5 (lkp s t)=true):=fun t ht=>by
   by_cases hex:∃ (j:Nat) (q:Oper),j < n∧l[j]? = some q∧q.dst=some t
   ·obtain ⟨j,q,hj,hq,aE⟩:=hex;obtain ⟨h1,h2⟩:=cn i bc o2 aM t ht j hj q hq aE;rw [aV h2 (by omega) hq aE];rcases S1 j q t hj (bK j h1) hq aE with this|this
    ·exact .inl this
    ·exact .inr ⟨this.symm,by rw [this];exact dA hj hq aE⟩
   ·have bm:∀ j q,j < n→l[j]? = some q→q.dst≠some t:=fun j q hj hq he=>hex ⟨j,q,hj,hq,he⟩;rw [aO bm,S2 t bm];exact .inr ⟨rfl,pw hs t⟩
  have cg:∀ {j:Nat} {q:Oper} {d d':Nat},j < n→j≠i→l[j]? = some q→q.dst=some d→o2.dst=some d'→d'≠d:=fun {j q d d'} hj cK hq aE dY he=>by
   subst he;exact cK (na dv (bb hj hq) (bb bc aM) aE dY)
  cases ew:bj i
  ·obtain ⟨aj,nr,_,_⟩:=S.plain i o2 (rs.getD i .any) (by rw [Nat.zero_add];exact ew) (bb bc aM) (dX bc);have fin:∀ v w',V1 w' (Mof M0 (st.h++Xs k) p) st.h p (rs.getD i .any) v→Below w.heap.size w w'→(fun listed a w=>HeadInv .any l.toArray n listed∧∃ (k:Nat) (p:Pl) (s:List (Nat×AV)),k≤n∧(∀ c,c < n→bj c=true→(listed.getD c false=true↔c < k))∧Rel M0 w0 N p ⟨s,st.h++Xs k⟩ a w ∧
     (∀ (j:Nat) (q:Oper) (d:Nat),j < n→listed.getD j false=true→l[j]? = some q→q.dst=some d→rs.getD j .any = .any∨lkp s d=rs.getD j .any) ∧
     (∀ t,(∀ j q,j < n→l[j]? = some q→q.dst≠some t)→lkp s t=lkp st.s t)∧(∀ t,lkp (dM k) t≠.any→lkp s t=lkp (dM k) t)) (listed.setIfInBounds i true) (a.put o2.dst v) w':=fun v w' hv hb=>by
    have R':=(R.later hb).put (d:=o2.dst) (fw (List.all_eq_true.1 hN o2 (List.mem_of_getElem? aM))) (V1.long hv);have cL:(VS.put ⟨s,st.h++Xs k⟩ o2.dst (rs.getD i .any))=⟨(VS.put ⟨s,st.h++Xs k⟩ o2.dst (rs.getD i .any)).s,st.h++Xs k⟩:=by cases o2.dst<;>rfl
    rw [cL] at R';refine ⟨head.set hi bc,k,p,_,hk,fun c hc cJ=>?_,R',fun j q d hj hl hq aE=>?_,fun t ht=>?_,fun t ht=>?_⟩
    ·have au:i≠c:=fun e=>by rw [←e,ew] at cJ;cases cJ
     rw [getD_set_ne false au];exact fa c hc cJ
    ·rw [gr];by_cases cK:j=i
     ·subst cK;have:q=o2:=Option.some.inj (hq.symm.trans aM);subst this;rw [if_pos aE];exact .inr rfl
     ·rw [if_neg fun e=>cg hj cK hq aE e rfl];rw [getD_set_ne false (Ne.symm cK)] at hl;exact S1 j q d hj hl hq aE
    ·rw [gr,if_neg (ht i o2 bc aM)];exact S2 t ht
    ·obtain ⟨c,q,h1,h2,h3,h4⟩:=S.dom e2 k (by rw [hlen];exact hk) t ht;obtain ⟨h5,h6⟩:=jA h3;rw [gr,if_neg fun e=>cg h5 (fun e=>by rw [e,ew] at h2;cases h2) h6 h4 e rfl];exact S3 t ht
   have bL:dJ P st.h (ev (aH st ((l.take n).take i) (rs.take i))) o2.op (rs.getD i .any)→gives P o2 a w fun v w''=>V1 w'' (Mof M0 (st.h++Xs k) p) st.h p (rs.getD i .any) v∧Below w.heap.size w w'':=by
    intro hg;refine oC (R.short_objs hh) R.mok R.h0 R.glob (fun _ _ hb=>.inl hb) (fun x hx=>?_) hg;cases x with
    | tmp t=>
     show V1 _ _ _ _ (lkp (aH st ((l.take n).take i) (rs.take i)).s t) _;rcases cP t (List.mem_append_left _ (List.mem_filterMap.2 ⟨.tmp t,by simpa using hx,rfl⟩)) with h1|⟨h1,h2⟩
     ·rw [h1];exact .base _ _ (.any _)
     ·rw [h1];exact V1.short (R.slots t) h2
    | const v=>exact .base _ _ (.lit v)
    | global g=>exact .base _ _ (R.evalG g)
    | func f=>exact .base _ _ (.lit _)
   have hy:=fun j=>oA (ops:=l) (j:=j) R hN;have bG:∀ (j:Nat) (want:Bool) (v:Value),o2.guard=some (j,want)→db l (aH st ((l.take n).take i) (rs.take i)) j = .lit v→db l ⟨s,st.h++Xs k⟩ j = .lit v:=by
    intro j want v hg hv;unfold db at hv ⊢;cases hj:l[j]? with
    | none=>simpa [hj] using hv
    | some q=>
     cases hq:q.dst with
     | none=>simpa [hj,hq] using hv
     | some d=>
      have c_:d∈o2.looksAt l.toArray:=by
       unfold Oper.looksAt;refine List.mem_append_right _ ?_;simp [hg,hj,hq]
      simp only [hj,hq] at hv ⊢;rcases cP d c_ with h1|⟨h1,_⟩
      ·rw [h1] at hv;cases hv
      ·rw [←h1];exact hv
   unfold wpOp;simp only [ho];unfold jV at aj;split at aj
   ·rename_i hg;rw [if_pos (by simp [Region.wanted,hg])];rw [eP] at aj;exact Or.inl (jB (bL aj) rfl fun v w' hv=>fin v w' hv.1 hv.2)
   ·rename_i j want hg;split at aj
    ·rename_i b hb;have eQ:=(hy j).1 b (bG j want _ hg hb);split at aj
     ·rename_i hw;subst hw;rw [if_pos (by simp [Region.wanted,hg,eQ])];rw [eP] at aj;exact Or.inl (jB (bL aj) rfl fun v w' hv=>fin v w' hv.1 hv.2)
     ·rename_i hw;rw [if_neg (by simpa [Region.wanted,hg,eQ] using hw)];exact fin undef w (by rw [aj];exact .base _ _ (.lit _)) (Below.refl _ _)
    ·rename_i us hb;have eQ:=(hy j).2 us (bG j want _ hg hb);rw [if_neg (by simp [Region.wanted,hg,eQ])];exact fin undef w (by rw [aj];exact .base _ _ (.lit _)) (Below.refl _ _)
    ·exact aj.elim
  ·obtain ⟨pid,av,fz,hres,⟨mj,CQ,cS,ku⟩,zr,bM⟩:=S.chain i o2 (by rw [Nat.zero_add];exact ew) (bb bc aM);rw [dX bc] at hres;replace hres:=Option.some.inj hres
   have jZ:k≤i:=by
    rcases Nat.lt_or_ge i k with h1|h1
    ·have h2:=(fa i bc ew).2 h1;rw [getD_both e8] at h2;cases h2
    ·exact h1
   have lf:∀ c,k≤c→c < k+(i - k)→bj c=false:=fun c h1 h2=>by
    cases cJ:bj c
    ·rfl
    ·have:=nf head n i c bK (wI i c bc (by omega) ew cJ);have:=(fa c (by omega) cJ).1 this;omega
   obtain ⟨hX,ga⟩:=S.same (k:=k) (i - k) (by rw [hlen];omega) lf;rw [show k+(i - k)=i by omega] at hX ga;rw [hX,ga] at ku;rw [ga] at bM;have hv:=ku s (fun t ht au=>by
    rw [eP] at *;rcases qq (dM k) (aH st ((l.take n).take i) (rs.take i)).s t with h1|h1
    ·rw [h1] at au ⊢;exact S3 t au
    ·rw [h1] at au ⊢;rcases cP t (List.mem_append_left _ (List.mem_filterMap.2 ⟨.tmp t,by simpa using ht,rfl⟩)) with h2|⟨h2,_⟩
     ·exact absurd h2 au
     ·exact h2.symm)
   rw [eP] at hv;rw [eP] at cS;unfold wpOp;simp only [ho];rw [if_pos (by simp [Region.wanted,mj])];refine Or.inl (xk R (List.all_eq_true.1 hN o2 (List.mem_of_getElem? aM)) hv fun p' aK a' w' R' he=>?_);replace R':=he _ _ _ _ _ _ R'
   have n8:∀ {t:Nat},(∀ d,o2.dst=some d→d≠t)→bn st.h.length 5 (lkp s t)=true→lkp (mN o2.dst av pid s) t=lkp s t:=fun {t} au hid=>G8 au cS hid;refine ⟨head.set hi bc,i+1,p',_,by omega,fun c hc cJ=>?_,R',fun j q d hj hl hq aE=>?_,fun t ht=>?_,fun t ht=>?_⟩
   ·by_cases mF:i=c
    ·subst mF;have bF:i < listed.size:=by rw [head.size];simpa using (by omega:i < l.length)
     simp [bF]
    ·rw [getD_set_ne false mF];rcases Nat.lt_or_ge c i with h1|h1
     ·have:=nf head n i c bK (wI i c bc h1 ew cJ);exact ⟨fun _=>by omega,fun _=>this⟩
     ·have:=fa c hc cJ;exact ⟨fun h=>by have:=this.1 h;omega,fun h=>by omega⟩
   ·by_cases cK:j=i
    ·subst cK;have:q=o2:=Option.some.inj (hq.symm.trans aM);subst this;rw [hres];unfold rb;split
     ·refine .inr ?_;unfold mN;rw [aE];simp [lkp]
     ·exact .inl rfl
    ·rw [getD_set_ne false (Ne.symm cK)] at hl;rcases S1 j q d hj hl hq aE with mc|mc
     ·exact .inl mc
     ·refine .inr ?_;rw [n8 (fun d' dY=>cg hj cK hq aE dY) (by rw [mc];exact dA hj hq aE)];exact mc
   ·rw [n8 (fun d' dY he=>ht i o2 bc aM (by rw [dY,he])) (by rw [S2 t ht];exact pw hs t)];exact S2 t ht
   ·rw [bM] at ht ⊢;unfold n_ at ht ⊢;by_cases hf:fz=true
    ·rw [if_pos hf] at ht ⊢;cases pid with
     | some _=>exact absurd rfl ht
     | none=>
      simp only at ht ⊢;obtain ⟨c,q,g1,g2,g3,g4⟩:=S.dom e2 k (by rw [hlen];omega) t ht;obtain ⟨g5,g6⟩:=jA g3;unfold mN;cases dY:o2.dst with
      | none=>simp only [mO];exact S3 t ht
      | some d=>
       simp only [lkp,mO];rw [if_neg (cg g5 (by omega) g6 g4 dY)];exact S3 t ht
    rw [if_neg hf] at ht ⊢;unfold lJ at ht ⊢;unfold mN;cases dY:o2.dst with
    | none=>
     simp only [dY] at ht ⊢;rw [CQ dY];exact S3 t ht
    | some d=>
     simp only [dY] at ht ⊢;by_cases gy:d=t
     ·simp [lkp,gy]
     ·cases pid with
      | some _=>simp [lkp,gy] at ht
      | none=>
       simp only [lkp,gy,if_false,mO] at ht ⊢;exact S3 t ht
 ·rintro listed a w ⟨head,k,p,s,hk,fa,R,S1,S2,S3⟩ aG;have lf:∀ c,k≤c→c < k+(n - k)→bj c=false:=fun c h1 h2=>by
   cases cJ:bj c
   ·rfl
   ·have:=(fa c (by omega) cJ).1 (aG c (by omega));omega
  obtain ⟨hX,ga⟩:=S.same (k:=k) (n - k) (by rw [hlen];omega) lf;rw [show k+(n - k)=n by omega] at hX ga;rw [hX,ga] at hK;have gT:aH st (l.take n) rs=aH st ((l.take n).take n) (rs.take n):=by
   rw [List.take_of_length_le (l:=l.take n) (by rw [hlen];exact Nat.le_refl _),List.take_of_length_le (l:=rs) (by rw [S.len,hlen];exact Nat.le_refl _)]
  have R':=R.weak (s':=dM k++(aH st (l.take n) rs).s) fun t=>by
   show lkp (dM k++(aH st (l.take n) rs).s) t=lkp s t∨_;rcases qq (dM k) (aH st (l.take n) rs).s t with h1|h1
   ·rw [h1];by_cases au:lkp (dM k) t = .any
    ·exact .inr au
    ·exact .inl (S3 t au).symm
   ·rw [h1,gT];by_cases hex:∃ (j:Nat) (q:Oper),j < n∧l[j]? = some q∧q.dst=some t
    ·obtain ⟨j,q,hj,hq,aE⟩:=hex;rw [aV hj (Nat.le_refl _) hq aE];rcases S1 j q t hj (aG j hj) hq aE with h5|h5
     ·exact .inr h5
     ·exact .inl h5.symm
    ·have bm:∀ j q,j < n→l[j]? = some q→q.dst≠some t:=fun j q hj hq he=>hex ⟨j,q,hj,hq,he⟩;rw [aO bm,S2 t bm];exact .inl rfl
  have iC:(l.drop n).all (cX N)=true:=List.all_eq_true.2 fun q hq=>List.all_eq_true.1 hN q (List.mem_of_mem_drop hq);exact mn (ow:=ow) hN (fun p st a w R h=>⟨st,p,R,h⟩) (l.drop n) p _ _ w iC R' hK
 ·refine ⟨⟨by simp,fun j oj _ hl=>(by rw [getD_replicate_false] at hl;cases hl),fun t _ ht=>getD_in (by simpa using ht) (getD_replicate_false _ _)⟩,0,p0,st.s,Nat.zero_le _,fun c _ _=>⟨fun hl=>(by rw [getD_replicate_false] at hl;cases hl),fun h=>absurd h (Nat.not_lt_zero c)⟩,?_,fun j q d _ hl=>(by rw [getD_replicate_false] at hl;cases hl),fun _ _=>rfl,fun t ht=>?_⟩
  ·rw [e1,List.append_nil];exact R0.later (Below.refl _ _).drew
  ·rw [e2] at ht;exact absurd rfl ht
end
end Go.Proofs.YtoibondihdhnoaaGreatDoor
