/- Texts in one: A drawing region whose own operations wait for each other, one through the other: of every program; no condition. -/
import Derived.Test.YtoibondihdhnoaaGreatDoorFRP8
namespace Go.Proofs.YtoibondihdhnoaaGreatDoor
open Go.RowKit
def Py (l:List Oper) (n:Nat) (bf:Nat→Bool) : Bool:=(List.range n).all fun c=>!bf c || (List.range c).all fun d=>!bf d || fC l n c d
section
variable {P:Program} {M0:Nat→Nat→Prop} {w0:Bas} {N:Nm} {p:Pl} {st:VS} {a:Act} {w:World} {Q:Exit→VS→Prop}
theorem Da {id:Nat} {l:List Oper} (n:Nat) (ow:List Nat) (bf:Nat→Bool) (hm:P.follows .mixedOrders=true) (hB:Region.specB l.toArray n=true) (hC:Py l n bf=true) (hs:sOK st.h.length st.s) (hh:hOK st.h.length st.h)
  (h:kH P ow l bf (l.take n) 0 st [] [] fun aL=>dS P ow l (l.drop n) aL (Q .normal)) : VWp P M0 w0 N (.region id l.toArray true) Q st:=fun iw p0 a0 rE R0=>by
 have hN:l.all (cU N)=true:=by simpa [eY] using iw
 obtain ⟨rs,Xs,dL,S,e1,e2,hK⟩:=zE _ _ _ _ _ h;have cZ:=hB;simp only [Region.specB,Bool.and_eq_true,decide_eq_true_eq] at cZ;obtain ⟨⟨⟨⟨⟨⟨_,aK⟩,_⟩,_⟩,hd⟩,a_⟩,_⟩:=cZ;have eB:n < l.length:=by simpa using aK
 have c_:dF (l.take n)=true:=by simpa using hd
 have hlen:(l.take n).length=n:=by simp;omega
 rw [hlen] at hK;have bb:∀ {i:Nat} {o:Oper},i < n→l[i]? = some o→(l.take n)[i]? = some o:=fun {i o} hi ho=>by rw [List.getElem?_take_of_lt hi];exact ho
 have iR:∀ {i:Nat} {o:Oper},(l.take n)[i]? = some o→i < n∧l[i]? = some o:=fun {i o} ho=>by
  have hi:i < n:=by have:=(List.getElem?_eq_some_iff.1 ho).1;omega
  rw [List.getElem?_take_of_lt hi] at ho;exact ⟨hi,ho⟩
 have dB:∀ {i:Nat},i < n→rs[i]? = some (rs.getD i .any):=fun {i} hi=>by simp [List.getD,show i < rs.length by rw [S.len,hlen];exact hi]
 have cm:∀ i,i < n→∀ o,l[i]? = some o→∀ t∈o.looksAt l.toArray,∀ j,j < n→∀ q,l[j]? = some q→q.dst=some t→Region.waitsFor .any l.toArray i j=true∧j < i:=by
  intro i hi o ho;have h:=List.all_eq_true.1 a_ i (List.mem_range.2 hi);simp only [List.getElem?_toArray,ho,Bool.and_eq_true] at h;have eC:∀ e∈o.after,Region.binds .any e=true→e.on < i:=fun e he hb=>by
   have h1:=Array.all_eq_true'.1 h.2 e he;simp only [hb,Bool.not_true,Bool.false_or,decide_eq_true_eq] at h1;exact h1
  intro t ht j hj q hq aA;have h1:=List.all_eq_true.1 (List.all_eq_true.1 h.1 t ht) j (List.mem_range.2 hj);simp only [hq,Option.bind_some,aA,bne_self_eq_false,Bool.false_or] at h1;refine ⟨h1,?_⟩;obtain ⟨o',aJ,e,he,hb,cf⟩:=Region.waitsFor_spec h1;have:o'=o:=Option.some.inj (aJ.symm.trans (by simpa using ho));subst this;rw [←cf];exact eC e he hb
 have w8:∀ c d,c < n→d < c→bf c=true→bf d=true→fC l n c d=true:=fun c d hc Db h1 h2=>by
  have:=List.all_eq_true.1 (List.all_eq_true.1 hC c (List.mem_range.2 hc) |> fun h=>by simpa [h1] using h:(List.range c).all (fun d=>!bf d || fC l n c d)=true) d (List.mem_range.2 Db);simpa [h2] using this
 have aO:∀ {i j:Nat} {q:Oper} {t:Nat},j < i→i≤n→l[j]? = some q→q.dst=some t→lkp (aH st ((l.take n).take i) (rs.take i)).s t=rs.getD j .any:=fun {i j q t} hj hi hq ht=>
  ma ((l.take n).take i) (rs.take i) st t j q (rs.getD j .any) (ly _ _ c_) (by rw [List.getElem?_take_of_lt hj];exact bb (by omega) hq) (by rw [List.getElem?_take_of_lt hj];exact dB (by omega)) ht
 have aI:∀ {i t:Nat},(∀ j q,j < n→l[j]? = some q→q.dst≠some t)→lkp (aH st ((l.take n).take i) (rs.take i)).s t=lkp st.s t:=fun {i t} ho=>
  lz _ _ _ _ fun q hq he=>by
   obtain ⟨j,hj⟩:=List.mem_iff_getElem?.1 (List.mem_of_mem_take hq);obtain ⟨h1,h2⟩:=iR hj;exact ho j q h1 h2 he
 have dx:∀ {j:Nat} {q:Oper} {d:Nat},j < n→l[j]? = some q→q.dst=some d→bh st.h.length 5 (rs.getD j .any)=true:=fun {j q d} hj hq aA=>by
  cases hc:bf j
  ·exact (S.plain j q _ (by rw [Nat.zero_add];exact hc) (bb hj hq) (dB hj)).2.1 d aA
  ·obtain ⟨pid,av,fz,h1,_,h2,_⟩:=S.chain j q (by rw [Nat.zero_add];exact hc) (bb hj hq);rw [dB hj] at h1;rw [Option.some.inj h1];unfold ri;split
   ·rename_i hf;exact h2 hf
   ·rfl
 refine wp_region_any hm ?_;refine qu (Inv:=fun listed a w=>HeadInv .any l.toArray n listed∧∃ (k:Nat) (p:Pl) (s:List (Nat×AV)),k≤n∧(∀ c,c < n→bf c=true→(listed.getD c false=true↔c < k))∧Rel M0 w0 N p ⟨s,st.h++Xs k⟩ a w ∧
   (∀ (j:Nat) (q:Oper) (d:Nat),j < n→listed.getD j false=true→l[j]? = some q→q.dst=some d→rs.getD j .any = .any∨lkp s d=rs.getD j .any) ∧
   (∀ t,(∀ j q,j < n→l[j]? = some q→q.dst≠some t)→lkp s t=lkp st.s t)∧(∀ t,lkp (dL k) t≠.any→lkp s t=lkp (dL k) t)) hB (fun _ _ _ inv=>inv.1) ?_ ?_ _ _ _ _ ?_ (by simp)
 ·rintro listed a w i o ⟨head,k,p,s,hk,eV,R,S1,S2,S3⟩ hi ba ho ep;have aJ:l[i]? = some o:=by simpa using ho
  obtain ⟨_,o2,jX,cG⟩:=mem_ready.1 hi;have:o2=o:=Option.some.inj (jX.symm.trans ho);subst this;have bB:∀ j,Region.waitsFor .any l.toArray i j=true→listed.getD j false=true:=by
   intro j hj;obtain ⟨o3,kP,e,he,hb,cf⟩:=Region.waitsFor_spec hj;have:o3=o2:=Option.some.inj (kP.symm.trans ho);subst this;rw [←cf];exact cG e he hb
  have cj:∀ t∈o2.looksAt l.toArray,lkp (aH st ((l.take n).take i) (rs.take i)).s t = .any∨(lkp (aH st ((l.take n).take i) (rs.take i)).s t=lkp s t∧bh st.h.length 5 (lkp s t)=true):=fun t ht=>by
   by_cases hex:∃ (j:Nat) (q:Oper),j < n∧l[j]? = some q∧q.dst=some t
   ·obtain ⟨j,q,hj,hq,aA⟩:=hex;obtain ⟨h1,h2⟩:=cm i ba o2 aJ t ht j hj q hq aA;rw [aO h2 (by omega) hq aA];rcases S1 j q t hj (bB j h1) hq aA with this|this
    ·exact .inl this
    ·exact .inr ⟨this.symm,by rw [this];exact dx hj hq aA⟩
   ·have bg:∀ j q,j < n→l[j]? = some q→q.dst≠some t:=fun j q hj hq he=>hex ⟨j,q,hj,hq,he⟩;rw [aI bg,S2 t bg];exact .inr ⟨rfl,pH hs t⟩
  have bW:∀ {j:Nat} {q:Oper} {d d':Nat},j < n→j≠i→l[j]? = some q→q.dst=some d→o2.dst=some d'→d'≠d:=fun {j q d d'} hj cq hq aA dC he=>by
   subst he;exact cq (mK c_ (bb hj hq) (bb ba aJ) aA dC)
  cases eg:bf i
  ·obtain ⟨aj,nI,_,_⟩:=S.plain i o2 (rs.getD i .any) (by rw [Nat.zero_add];exact eg) (bb ba aJ) (dB ba);have fin:∀ v w',V1 w' (Mof M0 (st.h++Xs k) p) st.h p (rs.getD i .any) v→Below w.heap.size w w'→(fun listed a w=>HeadInv .any l.toArray n listed∧∃ (k:Nat) (p:Pl) (s:List (Nat×AV)),k≤n∧(∀ c,c < n→bf c=true→(listed.getD c false=true↔c < k))∧Rel M0 w0 N p ⟨s,st.h++Xs k⟩ a w ∧
     (∀ (j:Nat) (q:Oper) (d:Nat),j < n→listed.getD j false=true→l[j]? = some q→q.dst=some d→rs.getD j .any = .any∨lkp s d=rs.getD j .any) ∧
     (∀ t,(∀ j q,j < n→l[j]? = some q→q.dst≠some t)→lkp s t=lkp st.s t)∧(∀ t,lkp (dL k) t≠.any→lkp s t=lkp (dL k) t)) (listed.setIfInBounds i true) (a.put o2.dst v) w':=fun v w' hv hb=>by
    have R':=(R.later hb).put (d:=o2.dst) (eZ (List.all_eq_true.1 hN o2 (List.mem_of_getElem? aJ))) (V1.long hv);have cI:(VS.put ⟨s,st.h++Xs k⟩ o2.dst (rs.getD i .any))=⟨(VS.put ⟨s,st.h++Xs k⟩ o2.dst (rs.getD i .any)).s,st.h++Xs k⟩:=by cases o2.dst<;>rfl
    rw [cI] at R';refine ⟨head.set hi ba,k,p,_,hk,fun c hc cK=>?_,R',fun j q d hj hl hq aA=>?_,fun t ht=>?_,fun t ht=>?_⟩
    ·have aq:i≠c:=fun e=>by rw [←e,eg] at cK;cases cK
     rw [getD_set_ne false aq];exact eV c hc cK
    ·rw [fL];by_cases cq:j=i
     ·subst cq;have:q=o2:=Option.some.inj (hq.symm.trans aJ);subst this;rw [if_pos aA];exact .inr rfl
     ·rw [if_neg fun e=>bW hj cq hq aA e rfl];rw [getD_set_ne false (Ne.symm cq)] at hl;exact S1 j q d hj hl hq aA
    ·rw [fL,if_neg (ht i o2 ba aJ)];exact S2 t ht
    ·obtain ⟨c,q,h1,h2,h3,h4⟩:=S.dom e2 k (by rw [hlen];exact hk) t ht;obtain ⟨h5,h6⟩:=iR h3;rw [fL,if_neg fun e=>bW h5 (fun e=>by rw [e,eg] at h2;cases h2) h6 h4 e rfl];exact S3 t ht
   have bx:dt P st.h (ev (aH st ((l.take n).take i) (rs.take i))) o2.op (rs.getD i .any)→gives P o2 a w fun v w''=>V1 w'' (Mof M0 (st.h++Xs k) p) st.h p (rs.getD i .any) v∧Below w.heap.size w w'':=by
    intro hg;refine nC (R.short_objs hh) R.mok R.h0 R.glob (fun _ _ hb=>.inl hb) (fun x hx=>?_) hg;cases x with
    | tmp t=>
     show V1 _ _ _ _ (lkp (aH st ((l.take n).take i) (rs.take i)).s t) _;rcases cj t (List.mem_append_left _ (List.mem_filterMap.2 ⟨.tmp t,by simpa using hx,rfl⟩)) with h1|⟨h1,h2⟩
     ·rw [h1];exact .base _ _ (.any _)
     ·rw [h1];exact V1.short (R.slots t) h2
    | const v=>exact .base _ _ (.lit v)
    | global g=>exact .base _ _ (R.evalG g)
    | func f=>exact .base _ _ (.lit _)
   have hy:=fun j=>nv (ops:=l) (j:=j) R hN;have bj:∀ (j:Nat) (want:Bool) (v:Value),o2.guard=some (j,want)→cV l (aH st ((l.take n).take i) (rs.take i)) j = .lit v→cV l ⟨s,st.h++Xs k⟩ j = .lit v:=by
    intro j want v hg hv;unfold cV at hv ⊢;cases hj:l[j]? with
    | none=>simpa [hj] using hv
    | some q=>
     cases hq:q.dst with
     | none=>simpa [hj,hq] using hv
     | some d=>
      have cH:d∈o2.looksAt l.toArray:=by
       unfold Oper.looksAt;refine List.mem_append_right _ ?_;simp [hg,hj,hq]
      simp only [hj,hq] at hv ⊢;rcases cj d cH with h1|⟨h1,_⟩
      ·rw [h1] at hv;cases hv
      ·rw [←h1];exact hv
   unfold wpOp;simp only [ho];unfold jB at aj;split at aj
   ·rename_i hg;rw [if_pos (by simp [Region.wanted,hg])];rw [ea] at aj;exact Or.inl (iS (bx aj) rfl fun v w' hv=>fin v w' hv.1 hv.2)
   ·rename_i j want hg;split at aj
    ·rename_i b hb;have dU:=(hy j).1 b (bj j want _ hg hb);split at aj
     ·rename_i hw;subst hw;rw [if_pos (by simp [Region.wanted,hg,dU])];rw [ea] at aj;exact Or.inl (iS (bx aj) rfl fun v w' hv=>fin v w' hv.1 hv.2)
     ·rename_i hw;rw [if_neg (by simpa [Region.wanted,hg,dU] using hw)];exact fin undef w (by rw [aj];exact .base _ _ (.lit _)) (Below.refl _ _)
    ·rename_i us hb;have dU:=(hy j).2 us (bj j want _ hg hb);rw [if_neg (by simp [Region.wanted,hg,dU])];exact fin undef w (by rw [aj];exact .base _ _ (.lit _)) (Below.refl _ _)
    ·exact aj.elim
  ·obtain ⟨pid,av,fz,hres,⟨mF,Dc,cQ,kv⟩,zF,bI⟩:=S.chain i o2 (by rw [Nat.zero_add];exact eg) (bb ba aJ);rw [dB ba] at hres;replace hres:=Option.some.inj hres
   have jH:k≤i:=by
    rcases Nat.lt_or_ge i k with h1|h1
    ·have h2:=(eV i ba eg).2 h1;rw [getD_both ep] at h2;cases h2
    ·exact h1
   have lp:∀ c,k≤c→c < k+(i - k)→bf c=false:=fun c h1 h2=>by
    cases cK:bf c
    ·rfl
    ·have:=mM head n i c bB (w8 i c ba (by omega) eg cK);have:=(eV c (by omega) cK).1 this;omega
   obtain ⟨hX,gg⟩:=S.same (k:=k) (i - k) (by rw [hlen];omega) lp;rw [show k+(i - k)=i by omega] at hX gg;rw [hX,gg] at kv;rw [gg] at bI;have hv:=kv s (fun t ht aq=>by
    rw [ea] at *;rcases qA (dL k) (aH st ((l.take n).take i) (rs.take i)).s t with h1|h1
    ·rw [h1] at aq ⊢;exact S3 t aq
    ·rw [h1] at aq ⊢;rcases cj t (List.mem_append_left _ (List.mem_filterMap.2 ⟨.tmp t,by simpa using ht,rfl⟩)) with h2|⟨h2,_⟩
     ·exact absurd h2 aq
     ·exact h2.symm)
   rw [ea] at hv;rw [ea] at cQ;unfold wpOp;simp only [ho];rw [if_pos (by simp [Region.wanted,mF])];refine Or.inl (xy R (List.all_eq_true.1 hN o2 (List.mem_of_getElem? aJ)) hv fun p' aL a' w' R' he=>?_);replace R':=he _ _ _ _ _ _ R'
   have oC:∀ {t:Nat},(∀ d,o2.dst=some d→d≠t)→bh st.h.length 5 (lkp s t)=true→lkp (nb o2.dst av pid s) t=lkp s t:=fun {t} aq hid=>Im aq cQ hid;refine ⟨head.set hi ba,i+1,p',_,by omega,fun c hc cK=>?_,R',fun j q d hj hl hq aA=>?_,fun t ht=>?_,fun t ht=>?_⟩
   ·by_cases mV:i=c
    ·subst mV;have bz:i < listed.size:=by rw [head.size];simpa using (by omega:i < l.length)
     simp [bz]
    ·rw [getD_set_ne false mV];rcases Nat.lt_or_ge c i with h1|h1
     ·have:=mM head n i c bB (w8 i c ba h1 eg cK);exact ⟨fun _=>by omega,fun _=>this⟩
     ·have:=eV c hc cK;exact ⟨fun h=>by have:=this.1 h;omega,fun h=>by omega⟩
   ·by_cases cq:j=i
    ·subst cq;have:q=o2:=Option.some.inj (hq.symm.trans aJ);subst this;rw [hres];unfold ri;split
     ·refine .inr ?_;unfold nb;rw [aA];simp [lkp]
     ·exact .inl rfl
    ·rw [getD_set_ne false (Ne.symm cq)] at hl;rcases S1 j q d hj hl hq aA with my|my
     ·exact .inl my
     ·refine .inr ?_;rw [oC (fun d' dC=>bW hj cq hq aA dC) (by rw [my];exact dx hj hq aA)];exact my
   ·rw [oC (fun d' dC he=>ht i o2 ba aJ (by rw [dC,he])) (by rw [S2 t ht];exact pH hs t)];exact S2 t ht
   ·rw [bI] at ht ⊢;unfold oD at ht ⊢;by_cases hf:fz=true
    ·rw [if_pos hf] at ht ⊢;cases pid with
     | some _=>exact absurd rfl ht
     | none=>
      simp only at ht ⊢;obtain ⟨c,q,g1,g2,g3,g4⟩:=S.dom e2 k (by rw [hlen];omega) t ht;obtain ⟨g5,g6⟩:=iR g3;unfold nb;cases dC:o2.dst with
      | none=>simp only [nc];exact S3 t ht
      | some d=>
       simp only [lkp,nc];rw [if_neg (bW g5 (by omega) g6 g4 dC)];exact S3 t ht
    rw [if_neg hf] at ht ⊢;unfold nf at ht ⊢;unfold nb;cases dC:o2.dst with
    | none=>
     simp only [dC] at ht ⊢;rw [Dc dC];exact S3 t ht
    | some d=>
     simp only [dC] at ht ⊢;by_cases gx:d=t
     ·simp [lkp,gx]
     ·cases pid with
      | some _=>simp [lkp,gx] at ht
      | none=>
       simp only [lkp,gx,if_false,nc] at ht ⊢;exact S3 t ht
 ·rintro listed a w ⟨head,k,p,s,hk,eV,R,S1,S2,S3⟩ aE;have lp:∀ c,k≤c→c < k+(n - k)→bf c=false:=fun c h1 h2=>by
   cases cK:bf c
   ·rfl
   ·have:=(eV c (by omega) cK).1 (aE c (by omega));omega
  obtain ⟨hX,gg⟩:=S.same (k:=k) (n - k) (by rw [hlen];omega) lp;rw [show k+(n - k)=n by omega] at hX gg;rw [hX,gg] at hK;have gW:aH st (l.take n) rs=aH st ((l.take n).take n) (rs.take n):=by
   rw [List.take_of_length_le (l:=l.take n) (by rw [hlen];exact Nat.le_refl _),List.take_of_length_le (l:=rs) (by rw [S.len,hlen];exact Nat.le_refl _)]
  have R':=R.weak (s':=dL k++(aH st (l.take n) rs).s) fun t=>by
   show lkp (dL k++(aH st (l.take n) rs).s) t=lkp s t∨_;rcases qA (dL k) (aH st (l.take n) rs).s t with h1|h1
   ·rw [h1];by_cases aq:lkp (dL k) t = .any
    ·exact .inr aq
    ·exact .inl (S3 t aq).symm
   ·rw [h1,gW];by_cases hex:∃ (j:Nat) (q:Oper),j < n∧l[j]? = some q∧q.dst=some t
    ·obtain ⟨j,q,hj,hq,aA⟩:=hex;rw [aO hj (Nat.le_refl _) hq aA];rcases S1 j q t hj (aE j hj) hq aA with h5|h5
     ·exact .inr h5
     ·exact .inl h5.symm
    ·have bg:∀ j q,j < n→l[j]? = some q→q.dst≠some t:=fun j q hj hq he=>hex ⟨j,q,hj,hq,he⟩;rw [aI bg,S2 t bg];exact .inl rfl
  have ia:(l.drop n).all (cU N)=true:=List.all_eq_true.2 fun q hq=>List.all_eq_true.1 hN q (List.mem_of_mem_drop hq);exact l9 (ow:=ow) hN (fun p st a w R h=>⟨st,p,R,h⟩) (l.drop n) p _ _ w ia R' hK
 ·refine ⟨⟨by simp,fun j oj _ hl=>(by rw [getD_replicate_false] at hl;cases hl),fun t _ ht=>getD_in (by simpa using ht) (getD_replicate_false _ _)⟩,0,p0,st.s,Nat.zero_le _,fun c _ _=>⟨fun hl=>(by rw [getD_replicate_false] at hl;cases hl),fun h=>absurd h (Nat.not_lt_zero c)⟩,?_,fun j q d _ hl=>(by rw [getD_replicate_false] at hl;cases hl),fun _ _=>rfl,fun t ht=>?_⟩
  ·rw [e1,List.append_nil];exact R0.later (Below.refl _ _).drew
  ·rw [e2] at ht;exact absurd rfl ht
end
end Go.Proofs.YtoibondihdhnoaaGreatDoor
