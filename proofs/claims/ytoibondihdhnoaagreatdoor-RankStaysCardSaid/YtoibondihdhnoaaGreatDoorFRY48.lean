/- Texts in one: A drawing region some of whose operations are told by what they give: of every program; no condition. -/
import Derived.Test.YtoibondihdhnoaaGreatDoorFRY7
namespace Go.Proofs.YtoibondihdhnoaaGreatDoor
open Go.RowKit
section
variable {P:Program} {M0:Nat→Nat→Prop} {w0:Bas} {N:Nm} {p:Pl} {st:VS} {a:Act} {w:World} {Q:Exit→VS→Prop}
theorem GP {l:List Oper} {n:Nat} {rs:List AV} (R:Rel M0 w0 N p st a w) (hn:n≤l.length) (hd:dS (l.take n)=true) (hN:l.all (cW N)=true)
  (bb:∀ i,i < n→∀ o,l[i]? = some o→∀ t∈o.looksAt l.toArray,∀ j,j < n→∀ q,l[j]? = some q→q.dst=some t→Region.waitsFor .any l.toArray i j=true)
  (aq:∀ i j,i < n→Region.waitsFor .any l.toArray i j=true→j < i) (ee:rs.length=n)
  (i:Nat) (fJ:∀ (o:Oper) (r:AV),(l.take n)[i]? = some o→rs[i]? = some r→kh P l o (aQ st ((l.take n).take i) (rs.take i)) r) (hi:i < n) :
  p9 P l.toArray w a n (fun i v w'=>V1 w' (Mof M0 st.h p) st.h p (rs.getD i .any) v) i:=by
 intro o ho vs w' cp hS;have aT:l[i]? = some o:=by simpa using ho
 have aV:(l.take n)[i]? = some o:=by rw [List.getElem?_take_of_lt hi];exact aT
 have R':=R.later cp;have eR:∀ q∈l.take n,∀ d,q.dst=some d→d < a.tmps.size:=fun q hq d eg=>R.size.lt (fh (List.all_eq_true.1 hN q (List.mem_of_mem_take hq)) d eg);have hlen:(l.take n).length=n:=by simp;omega
 have cC:∀ t∈o.looksAt l.toArray,V1 w' (Mof M0 st.h p) st.h p (lkp (aQ st ((l.take n).take i) (rs.take i)).s t) ((fill (fun _=>true) vs (l.take n) 0 a).tmps.getD t undef):=fun t ht=>
  CA hd (by rw [ee,hlen]) eR (R'.slots t) (by rw [hlen];omega) fun j q hj hq=>by
   have ep:j < n:=by have:=(List.getElem?_eq_some_iff.1 hj).1;omega
   have eM:l[j]? = some q:=by rw [List.getElem?_take_of_lt ep] at hj;exact hj
   have hw:=bb i hi o aT t ht j ep q eM hq;exact ⟨aq i j hi hw,hS j ep hw⟩
 have hr:rs[i]? = some (rs.getD i .any):=by simp [List.getD,show i < rs.length by omega]
 have ar:=fJ o _ aV hr;simp only [];have bU:fi P st.h (ev (aQ st ((l.take n).take i) (rs.take i))) o.op (rs.getD i .any)→gives P o (fill (fun _=>true) vs (l.take n) 0 a) w' fun v w''=>V1 w'' (Mof M0 st.h p) st.h p (rs.getD i .any) v∧Below w'.heap.size w' w'':=by
  intro hg;refine pk R'.objs R'.mok R'.h0 R'.glob (fun _ _ hb=>.inl hb) (fun x hx=>?_) hg;cases x with
  | tmp t=>exact cC t (List.mem_append_left _ (List.mem_filterMap.2 ⟨.tmp t,by simpa using hx,rfl⟩))
  | const v=>exact .base _ _ (.lit v)
  | global g=>exact .base _ _ (R'.evalG g)
  | func f=>exact .base _ _ (.lit _)
 unfold kh at ar;split at ar
 ·rename_i hg;simp only [Region.wanted,hg,if_true];rw [eZ] at ar;exact bU ar
 ·rename_i j want hg;simp only [Region.wanted,hg];have hy:(∀ b,cI l (aQ st ((l.take n).take i) (rs.take i)) j = .lit (.bool b)→yielded l.toArray (fill (fun _=>true) vs (l.take n) 0 a).tmps j=some b)∧(∀ us,cI l (aQ st ((l.take n).take i) (rs.take i)) j = .lit (.tuple us)→yielded l.toArray (fill (fun _=>true) vs (l.take n) 0 a).tmps j=none):=by
   unfold cI yielded;cases hj:l[j]? with
   | none=>simp [hj,undef]
   | some q=>
    cases hq:q.dst with
    | none=>simp [hj,hq,undef]
    | some d=>
     have dW:d∈o.looksAt l.toArray:=by
      unfold Oper.looksAt;refine List.mem_append_right _ ?_;simp [hg,hj,hq]
     have hs:=cC d dW;have kW:d < (fill (fun _=>true) vs (l.take n) 0 a).tmps.size:=by
      rw [(zn _ _ _).1];exact R.size.lt (fh (List.all_eq_true.1 hN q (List.mem_of_getElem? hj)) d hq)
     have db:(fill (fun _=>true) vs (l.take n) 0 a).tmps.getD d undef=(fill (fun _=>true) vs (l.take n) 0 a).tmps[d]:=by simp [kW]
     rw [db] at hs;simp only [List.getElem?_toArray,hj,Option.bind_some,hq];refine ⟨fun b hb=>?_,fun us hb=>?_⟩
     ·rw [hb] at hs;have:=hs.lit_inv;simp [kW,this]
     ·rw [hb] at hs;have:=hs.lit_inv;simp [kW,this]
  split at ar
  ·rename_i b hb;rw [hy.1 b hb];split at ar
   ·rename_i hw;subst hw;rw [if_pos (by simp)];rw [eZ] at ar;exact bU ar
   ·rename_i hw;rw [if_neg (by simpa using hw),ar];exact .base _ _ (.lit _)
  ·rename_i us hb;rw [hy.2 us hb,if_neg (by simp),ar];exact .base _ _ (.lit _)
  ·exact ar.elim
theorem CB {o:Oper} {R R':Value→World→Prop} (h:gives P o a w R) (hr:∀ v w',R v w'→R' v w') : gives P o a w R':=by
 unfold gives at h ⊢;generalize (execOp a.eval o).run P w=q at h ⊢;unfold tt at h;split at h
 ·exact hr _ _ h
 ·exact hr _ _ h
 ·exact h.mono fun e w'' ⟨v,he,hv⟩=>⟨v,he,hr _ _ hv⟩
 ·exact h.elim
theorem GQ {ops:Array Oper} {n:Nat} {S S':Nat→Value→World→Prop} {i:Nat} (h:p9 P ops w a n S i) (hd:∀ j v w',S' j v w'→S j v w') (hs:∀ v w',S i v w'→S' i v w') : p9 P ops w a n S' i:=by
 intro o ho vs w' hb hv;have:=h o ho vs w' hb fun j hj hw=>hd _ _ _ (hv j hj hw);split
 ·rename_i hc;rw [if_pos hc] at this;exact CB this fun v w'' hh=>⟨hs _ _ hh.1,hh.2⟩
 ·rename_i hc;rw [if_neg hc] at this;exact hs _ _ this
theorem Rel.know (R:Rel M0 w0 N p st a w) {d:Nat} {r:AV} (hv:V1 w (Mof M0 st.h p) st.h p r (a.tmps.getD d undef)) : Rel M0 w0 N p ⟨(d,r)::st.s,st.h⟩ a w:=by
 refine ⟨R.defers,R.size,R.below,R.m0,R.x0,fun i=>?_,R.objs,R.inj⟩;simp only [lkp];split
 ·rename_i h;subst h;exact hv
 ·exact R.slots i
theorem Rel.reframe {a':Act} (R:Rel M0 w0 N p st a w) (hd:a'.defers=[]) (hs:SizeOK N a') (h:∀ i,lkp st.s i≠.any→a'.tmps.getD i undef=a.tmps.getD i undef) : Rel M0 w0 N p st a' w:=by
 refine ⟨hd,hs,R.below,R.m0,R.x0,fun i=>?_,R.objs,R.inj⟩;by_cases hi:lkp st.s i = .any
 ·rw [hi];exact .base _ _ (.any _)
 ·rw [h i hi];exact R.slots i
theorem No {id:Nat} {l:List Oper} (n:Nat) (ow:List Nat) (a_:Nat→Bool) (S2:VS) (T:Pl→Act→World→Nat→Value→World→Prop) (hm:P.follows .mixedOrders=true) (hB:Region.specB l.toArray n=true)
  (hT:∀ p a w i v w1 w2,T p a w i v w1→Below w1.heap.size w1 w2→T p a w i v w2)
  (h:iN P l a_ (l.take n) 0 st fun aK=>
   (∀ p a w,Rel M0 w0 N p st a w→∀ i o,i < n→a_ i=true→l[i]? = some o→o.guard=none∧∀ a' w',Below w.heap.size w w' →
    (∀ t∈o.looksAt l.toArray,V1 w' (Mof M0 st.h p) st.h p (lkp aK.s t) (a'.tmps.getD t undef))→(∀ t,(∀ j q,j < n→l[j]? = some q→q.dst≠some t)→a'.tmps.getD t undef=a.tmps.getD t undef) →
    (∀ j q d,j < n→a_ j=true→l[j]? = some q→q.dst=some d→Region.waitsFor .any l.toArray i j=true→T p a w j (a'.tmps.getD d undef) w') →
    gives P o a' w' fun v w''=>T p a w i v w''∧Below w'.heap.size w' w'') ∧
   (∀ p a w a' w',Rel M0 w0 N p st a w→Below w.heap.size w w'→Rel M0 w0 N p aK a' w'→(∀ t,(∀ j q,j < n→l[j]? = some q→q.dst≠some t)→a'.tmps.getD t undef=a.tmps.getD t undef) →
    (∀ j q d,j < n→a_ j=true→l[j]? = some q→q.dst=some d→T p a w j (a'.tmps.getD d undef) w')→∃ p2,Rel M0 w0 N p2 S2 a' w')∧dP P ow l (l.drop n) S2 (Q .normal)) :
  VWp P M0 w0 N (.region id l.toArray true) Q st:=fun ju p a w R=>by
 have hN:l.all (cW N)=true:=by simpa [fg] using ju
 obtain ⟨rs,eb,⟨nN,sG,nO⟩,hP,sH⟩:=tI _ _ _ h;have dp:=hB;simp only [Region.specB,Bool.and_eq_true,decide_eq_true_eq] at dp;obtain ⟨⟨⟨⟨⟨⟨_,aL⟩,_⟩,_⟩,hd⟩,bb⟩,_⟩:=dp;have eY:n < l.length:=by simpa using aL
 have du:dS (l.take n)=true:=by simpa using hd
 have hlen:(l.take n).length=n:=by simp;omega
 rw [hlen] at eb;have cC:∀ i,i < n→∀ o,l[i]? = some o→(∀ t∈o.looksAt l.toArray,∀ j,j < n→∀ q,l[j]? = some q→q.dst=some t→Region.waitsFor .any l.toArray i j=true)∧(∀ e∈o.after,Region.binds .any e=true→e.on < i):=by
  intro i hi o ho;have h:=List.all_eq_true.1 bb i (List.mem_range.2 hi);simp only [List.getElem?_toArray,ho,Bool.and_eq_true] at h;refine ⟨fun t ht j hj q hq aH=>?_,fun e he hb=>?_⟩
  ·have h1:=List.all_eq_true.1 (List.all_eq_true.1 h.1 t ht) j (List.mem_range.2 hj);simp only [hq,Option.bind_some,aH,bne_self_eq_false,Bool.false_or] at h1;exact h1
  ·have h1:=Array.all_eq_true'.1 h.2 e he;simp only [hb,Bool.not_true,Bool.false_or,decide_eq_true_eq] at h1;exact h1
 have aq:∀ i j,i < n→Region.waitsFor .any l.toArray i j=true→j < i:=by
  intro i j hi hw;obtain ⟨o,ho,e,he,hb,cD⟩:=Region.waitsFor_spec hw;rw [←cD];exact (cC i hi o (by simpa using ho)).2 e he hb
 have pf:(l.take n).all (cW N)=true:=List.all_eq_true.2 fun q hq=>List.all_eq_true.1 hN q (List.mem_of_mem_take hq);have bm:∀ {i:Nat} {o:Oper},i < n→l[i]? = some o→(l.take n)[i]? = some o:=fun {i o} hi ho=>by rw [List.getElem?_take_of_lt hi];exact ho
 have eR:∀ q∈l.take n,∀ d,q.dst=some d→d < a.tmps.size:=fun q hq d eg=>R.size.lt (fh (List.all_eq_true.1 pf q hq) d eg);have nP:∀ i,i < n→a_ i=true→rs.getD i .any = .any:=fun i hi hc=>by
  have cu:i < l.length:=by omega
  have:=sH i _ (by rw [Nat.zero_add];exact hc) (bm hi (List.getElem?_eq_getElem cu));rw [List.getD_eq_getElem?_getD,this];rfl
 have cS:∀ {vs:Nat→Value} {j d:Nat} {q:Oper},j < n→l[j]? = some q→q.dst=some d→(fill (fun _=>true) vs (l.take n) 0 a).tmps.getD d undef=vs j:=fun {vs j d q} hj hq eg=>by
  rw [zo (l.take n) 0 a d j q du eR (bm hj hq) eg,Nat.zero_add]
 refine xf n (fun i v w'=>V1 w' (Mof M0 st.h p) st.h p (rs.getD i .any) v∧(a_ i=true→T p a w i v w')) hm hB
  (fun i _ v w1 w2 hv hb=>⟨hv.1.later hb,fun hc=>hT _ _ _ _ _ _ _ (hv.2 hc) hb⟩) (fun i hi=>?_) fun vs w' hb hv=>?_
 ·by_cases hc:a_ i=true
  ·intro o ho vs w' cp hS;have aT:l[i]? = some o:=by simpa using ho
   obtain ⟨hg,hh⟩:=nN p a w R i o hi hc aT;simp only [Region.wanted,hg,if_true];refine CB (hh _ w' cp (fun t ht=>?_) (fun t ht=>?_) fun j q d hj sI hq eg hw=>?_) fun v w'' wH=>⟨⟨?_,fun _=>wH.1⟩,wH.2⟩
   ·have R':=R.later cp;by_cases hex:∃ (j:Nat) (q:Oper),(l.take n)[j]? = some q∧q.dst=some t
    ·obtain ⟨j,q,hj,hq⟩:=hex;have ep:j < n:=by have:=(List.getElem?_eq_some_iff.1 hj).1;omega
     have eM:l[j]? = some q:=by rw [List.getElem?_take_of_lt ep] at hj;exact hj
     have hw:=(cC i hi o aT).1 t ht j ep q eM hq;rw [cS ep eM hq,mR (l.take n) rs st t j q (rs.getD j .any) du hj (by simp [List.getD,show j < rs.length by omega]) hq];exact (hS j ep hw).1
    ·have bD:∀ o∈l.take n,o.dst≠some t:=fun o ho he=>by
      obtain ⟨j,hj⟩:=List.mem_iff_getElem?.1 ho;exact hex ⟨j,o,hj,he⟩
     have e1:=oS (vs:=vs) (l.take n) 0 a t bD eR;rw [e1,mn _ _ _ _ bD];exact R'.slots t
   ·refine oS (l.take n) 0 a t (fun q hq he=>?_) eR;obtain ⟨j,hj⟩:=List.mem_iff_getElem?.1 hq;have ep:j < n:=by have:=(List.getElem?_eq_some_iff.1 hj).1;omega
    exact ht j q ep (by rw [List.getElem?_take_of_lt ep] at hj;exact hj) he
   ·have:=(hS j hj hw).2 sI;have e1:=cS (vs:=vs) hj hq eg;rw [e1];exact this
   ·rw [nP i hi hc];exact .base _ _ (.any v)
  ·have gY:a_ i=false:=by simpa using hc
   refine GQ (GP R (Nat.le_of_lt eY) du hN (fun i hi o ho t ht j hj q hq aH=>(cC i hi o ho).1 t ht j hj q hq aH) aq eb i (fun o r ho hr=>(hP i o r (by rw [Nat.zero_add];exact gY) ho hr).1) hi) (fun j v w' hh=>hh.1) fun v w' hh=>⟨hh,fun h=>absurd h hc⟩
 ·obtain ⟨p2,R2⟩:=sG p a w _ w' R hb (u_ R du pf (by rw [hlen];exact eb) hb (by rw [hlen];exact fun i hi=>(hv i hi).1)) (fun t ht=>by
   refine oS (l.take n) 0 a t (fun q hq he=>?_) eR;obtain ⟨j,hj⟩:=List.mem_iff_getElem?.1 hq;have ep:j < n:=by have:=(List.getElem?_eq_some_iff.1 hj).1;omega
   exact ht j q ep (by rw [List.getElem?_take_of_lt ep] at hj;exact hj) he) fun j q d hj sI hq eg=>by
    rw [cS hj hq eg];exact (hv j hj).2 sI
  have ja:(l.drop n).all (cW N)=true:=List.all_eq_true.2 fun q hq=>List.all_eq_true.1 hN q (List.mem_of_mem_drop hq);exact mP (ow:=ow) hN (fun p st a w R h=>⟨st,p,R,h⟩) (l.drop n) p2 _ _ w' ja R2 nO
end
end Go.Proofs.YtoibondihdhnoaaGreatDoor
