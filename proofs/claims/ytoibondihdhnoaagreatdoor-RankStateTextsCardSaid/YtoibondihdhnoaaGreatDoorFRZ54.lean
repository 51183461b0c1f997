/- Texts in one: A drawing region some of whose operations are told by what they give: of every program; no condition. -/
import Derived.Test.YtoibondihdhnoaaGreatDoorFRZ7
namespace Go.Proofs.YtoibondihdhnoaaGreatDoor
open Go.RowKit
section
variable {P:Program} {M0:Nat→Nat→Prop} {w0:Bas} {N:Nm} {p:Pl} {st:VS} {a:Act} {w:World} {Q:Exit→VS→Prop}
theorem P9 {l:List Oper} {n:Nat} {rs:List AV} (R:Rel M0 w0 N p st a w) (hn:n≤l.length) (hd:d_ (l.take n)=true) (hN:l.all (dz N)=true)
  (bz:∀ i,i < n→∀ o,l[i]? = some o→∀ t∈o.looksAt l.toArray,∀ j,j < n→∀ q,l[j]? = some q→q.dst=some t→Region.waitsFor .any l.toArray i j=true)
  (aw:∀ i j,i < n→Region.waitsFor .any l.toArray i j=true→j < i) (fZ:rs.length=n)
  (i:Nat) (cC:∀ (o:Oper) (r:AV),(l.take n)[i]? = some o→rs[i]? = some r→kO P l o (a_ st ((l.take n).take i) (rs.take i)) r) (hi:i < n) :
  pQ P l.toArray w a n (fun i v w'=>V1 w' (Mof M0 st.h p) st.h p (rs.getD i .any) v) i:=by
 intro o ho vs w' eh hS;have bA:l[i]? = some o:=by simpa using ho
 have aV:(l.take n)[i]? = some o:=by rw [List.getElem?_take_of_lt hi];exact bA
 have R':=R.later eh;have gN:∀ q∈l.take n,∀ d,q.dst=some d→d < a.tmps.size:=fun q hq d fu=>R.size.lt (fL (List.all_eq_true.1 hN q (List.mem_of_mem_take hq)) d fu);have hlen:(l.take n).length=n:=by simp;omega
 have cS:∀ t∈o.looksAt l.toArray,V1 w' (Mof M0 st.h p) st.h p (lkp (a_ st ((l.take n).take i) (rs.take i)).s t) ((fill (fun _=>true) vs (l.take n) 0 a).tmps.getD t undef):=fun t ht=>
  De hd (by rw [fZ,hlen]) gN (R'.slots t) (by rw [hlen];omega) fun j q hj hq=>by
   have fX:j < n:=by have:=(List.getElem?_eq_some_iff.1 hj).1;omega
   have eK:l[j]? = some q:=by rw [List.getElem?_take_of_lt fX] at hj;exact hj
   have hw:=bz i hi o bA t ht j fX q eK hq;exact ⟨aw i j hi hw,hS j fX hw⟩
 have hr:rs[i]? = some (rs.getD i .any):=by simp [List.getD,show i < rs.length by omega]
 have aD:=cC o _ aV hr;simp only [];have cE:fN P st.h (ev (a_ st ((l.take n).take i) (rs.take i))) o.op (rs.getD i .any)→gives P o (fill (fun _=>true) vs (l.take n) 0 a) w' fun v w''=>V1 w'' (Mof M0 st.h p) st.h p (rs.getD i .any) v∧Below w'.heap.size w' w'':=by
  intro hg;refine rv R'.objs R'.mok R'.h0 R'.glob (fun _ _ hb=>.inl hb) (fun x hx=>?_) hg;cases x with
  | tmp t=>exact cS t (List.mem_append_left _ (List.mem_filterMap.2 ⟨.tmp t,by simpa using hx,rfl⟩))
  | const v=>exact .base _ _ (.lit v)
  | global g=>exact .base _ _ (R'.evalG g)
  | func f=>exact .base _ _ (.lit _)
 unfold kO at aD;split at aD
 ·rename_i hg;simp only [Region.wanted,hg,if_true];rw [gY] at aD;exact cE aD
 ·rename_i j want hg;simp only [Region.wanted,hg];have hy:(∀ b,df l (a_ st ((l.take n).take i) (rs.take i)) j = .lit (.bool b)→yielded l.toArray (fill (fun _=>true) vs (l.take n) 0 a).tmps j=some b)∧(∀ us,df l (a_ st ((l.take n).take i) (rs.take i)) j = .lit (.tuple us)→yielded l.toArray (fill (fun _=>true) vs (l.take n) 0 a).tmps j=none):=by
   unfold df yielded;cases hj:l[j]? with
   | none=>simp [hj,undef]
   | some q=>
    cases hq:q.dst with
    | none=>simp [hj,hq,undef]
    | some d=>
     have eV:d∈o.looksAt l.toArray:=by
      unfold Oper.looksAt;refine List.mem_append_right _ ?_;simp [hg,hj,hq]
     have hs:=cS d eV;have kG:d < (fill (fun _=>true) vs (l.take n) 0 a).tmps.size:=by
      rw [(zJ _ _ _).1];exact R.size.lt (fL (List.all_eq_true.1 hN q (List.mem_of_getElem? hj)) d hq)
     have dH:(fill (fun _=>true) vs (l.take n) 0 a).tmps.getD d undef=(fill (fun _=>true) vs (l.take n) 0 a).tmps[d]:=by simp [kG]
     rw [dH] at hs;simp only [List.getElem?_toArray,hj,Option.bind_some,hq];refine ⟨fun b hb=>?_,fun us hb=>?_⟩
     ·rw [hb] at hs;have:=hs.lit_inv;simp [kG,this]
     ·rw [hb] at hs;have:=hs.lit_inv;simp [kG,this]
  split at aD
  ·rename_i b hb;rw [hy.1 b hb];split at aD
   ·rename_i hw;subst hw;rw [if_pos (by simp)];rw [gY] at aD;exact cE aD
   ·rename_i hw;rw [if_neg (by simpa using hw),aD];exact .base _ _ (.lit _)
  ·rename_i us hb;rw [hy.2 us hb,if_neg (by simp),aD];exact .base _ _ (.lit _)
  ·exact aD.elim
theorem IW {o:Oper} {R R':Value→World→Prop} (h:gives P o a w R) (hr:∀ v w',R v w'→R' v w') : gives P o a w R':=by
 unfold gives at h ⊢;generalize (execOp a.eval o).run P w=q at h ⊢;unfold sX at h;split at h
 ·exact hr _ _ h
 ·exact hr _ _ h
 ·exact h.mono fun e w'' ⟨v,he,hv⟩=>⟨v,he,hr _ _ hv⟩
 ·exact h.elim
theorem P_ {ops:Array Oper} {n:Nat} {S S':Nat→Value→World→Prop} {i:Nat} (h:pQ P ops w a n S i) (hd:∀ j v w',S' j v w'→S j v w') (hs:∀ v w',S i v w'→S' i v w') : pQ P ops w a n S' i:=by
 intro o ho vs w' hb hv;have:=h o ho vs w' hb fun j hj hw=>hd _ _ _ (hv j hj hw);split
 ·rename_i hc;rw [if_pos hc] at this;exact IW this fun v w'' hh=>⟨hs _ _ hh.1,hh.2⟩
 ·rename_i hc;rw [if_neg hc] at this;exact hs _ _ this
theorem Rel.know (R:Rel M0 w0 N p st a w) {d:Nat} {r:AV} (hv:V1 w (Mof M0 st.h p) st.h p r (a.tmps.getD d undef)) : Rel M0 w0 N p ⟨(d,r)::st.s,st.h⟩ a w:=by
 refine ⟨R.defers,R.size,R.below,R.m0,R.x0,fun i=>?_,R.objs,R.inj⟩;simp only [lkp];split
 ·rename_i h;subst h;exact hv
 ·exact R.slots i
theorem Rel.reframe {a':Act} (R:Rel M0 w0 N p st a w) (hd:a'.defers=[]) (hs:SizeOK N a') (h:∀ i,lkp st.s i≠.any→a'.tmps.getD i undef=a.tmps.getD i undef) : Rel M0 w0 N p st a' w:=by
 refine ⟨hd,hs,R.below,R.m0,R.x0,fun i=>?_,R.objs,R.inj⟩;by_cases hi:lkp st.s i = .any
 ·rw [hi];exact .base _ _ (.any _)
 ·rw [h i hi];exact R.slots i
theorem Qa {id:Nat} {l:List Oper} (n:Nat) (ow:List Nat) (dZ:Nat→Bool) (S2:VS) (T:Pl→Act→World→Nat→Value→World→Prop) (hm:P.follows .mixedOrders=true) (hB:Region.specB l.toArray n=true)
  (hT:∀ p a w i v w1 w2,T p a w i v w1→Below w1.heap.size w1 w2→T p a w i v w2)
  (h:kq P l dZ (l.take n) 0 st fun aR=>
   (∀ p a w,Rel M0 w0 N p st a w→∀ i o,i < n→dZ i=true→l[i]? = some o→o.guard=none∧∀ a' w',Below w.heap.size w w' →
    (∀ t∈o.looksAt l.toArray,V1 w' (Mof M0 st.h p) st.h p (lkp aR.s t) (a'.tmps.getD t undef))→(∀ t,(∀ j q,j < n→l[j]? = some q→q.dst≠some t)→a'.tmps.getD t undef=a.tmps.getD t undef) →
    (∀ j q d,j < n→dZ j=true→l[j]? = some q→q.dst=some d→Region.waitsFor .any l.toArray i j=true→T p a w j (a'.tmps.getD d undef) w') →
    gives P o a' w' fun v w''=>T p a w i v w''∧Below w'.heap.size w' w'') ∧
   (∀ p a w a' w',Rel M0 w0 N p st a w→Below w.heap.size w w'→Rel M0 w0 N p aR a' w'→(∀ t,(∀ j q,j < n→l[j]? = some q→q.dst≠some t)→a'.tmps.getD t undef=a.tmps.getD t undef) →
    (∀ j q d,j < n→dZ j=true→l[j]? = some q→q.dst=some d→T p a w j (a'.tmps.getD d undef) w')→∃ p2,Rel M0 w0 N p2 S2 a' w')∧eA P ow l (l.drop n) S2 (Q .normal)) :
  VWp P M0 w0 N (.region id l.toArray true) Q st:=fun oK p a w R=>by
 have hN:l.all (dz N)=true:=by simpa [fJ] using oK
 obtain ⟨rs,fB,⟨xb,Dw,xc⟩,hP,Dx⟩:=uN _ _ _ h;have fb:=hB;simp only [Region.specB,Bool.and_eq_true,decide_eq_true_eq] at fb;obtain ⟨⟨⟨⟨⟨⟨_,bg⟩,_⟩,_⟩,hd⟩,bz⟩,_⟩:=fb;have iS:n < l.length:=by simpa using bg
 have eB:d_ (l.take n)=true:=by simpa using hd
 have hlen:(l.take n).length=n:=by simp;omega
 rw [hlen] at fB;have cS:∀ i,i < n→∀ o,l[i]? = some o→(∀ t∈o.looksAt l.toArray,∀ j,j < n→∀ q,l[j]? = some q→q.dst=some t→Region.waitsFor .any l.toArray i j=true)∧(∀ e∈o.after,Region.binds .any e=true→e.on < i):=by
  intro i hi o ho;have h:=List.all_eq_true.1 bz i (List.mem_range.2 hi);simp only [List.getElem?_toArray,ho,Bool.and_eq_true] at h;refine ⟨fun t ht j hj q hq aS=>?_,fun e he hb=>?_⟩
  ·have h1:=List.all_eq_true.1 (List.all_eq_true.1 h.1 t ht) j (List.mem_range.2 hj);simp only [hq,Option.bind_some,aS,bne_self_eq_false,Bool.false_or] at h1;exact h1
  ·have h1:=Array.all_eq_true'.1 h.2 e he;simp only [hb,Bool.not_true,Bool.false_or,decide_eq_true_eq] at h1;exact h1
 have aw:∀ i j,i < n→Region.waitsFor .any l.toArray i j=true→j < i:=by
  intro i j hi hw;obtain ⟨o,ho,e,he,hb,cX⟩:=Region.waitsFor_spec hw;rw [←cX];exact (cS i hi o (by simpa using ho)).2 e he hb
 have s6:(l.take n).all (dz N)=true:=List.all_eq_true.2 fun q hq=>List.all_eq_true.1 hN q (List.mem_of_mem_take hq);have bo:∀ {i:Nat} {o:Oper},i < n→l[i]? = some o→(l.take n)[i]? = some o:=fun {i o} hi ho=>by rw [List.getElem?_take_of_lt hi];exact ho
 have gN:∀ q∈l.take n,∀ d,q.dst=some d→d < a.tmps.size:=fun q hq d fu=>R.size.lt (fL (List.all_eq_true.1 s6 q hq) d fu);have xd:∀ i,i < n→dZ i=true→rs.getD i .any = .any:=fun i hi hc=>by
  have cK:i < l.length:=by omega
  have:=Dx i _ (by rw [Nat.zero_add];exact hc) (bo hi (List.getElem?_eq_getElem cK));rw [List.getD_eq_getElem?_getD,this];rfl
 have cw:∀ {vs:Nat→Value} {j d:Nat} {q:Oper},j < n→l[j]? = some q→q.dst=some d→(fill (fun _=>true) vs (l.take n) 0 a).tmps.getD d undef=vs j:=fun {vs j d q} hj hq fu=>by
  rw [Dd (l.take n) 0 a d j q eB gN (bo hj hq) fu,Nat.zero_add]
 refine Ag n (fun i v w'=>V1 w' (Mof M0 st.h p) st.h p (rs.getD i .any) v∧(dZ i=true→T p a w i v w')) hm hB
  (fun i _ v w1 w2 hv hb=>⟨hv.1.later hb,fun hc=>hT _ _ _ _ _ _ _ (hv.2 hc) hb⟩) (fun i hi=>?_) fun vs w' hb hv=>?_
 ·by_cases hc:dZ i=true
  ·intro o ho vs w' eh hS;have bA:l[i]? = some o:=by simpa using ho
   obtain ⟨hg,hh⟩:=xb p a w R i o hi hc bA;simp only [Region.wanted,hg,if_true];refine IW (hh _ w' eh (fun t ht=>?_) (fun t ht=>?_) fun j q d hj j5 hq fu hw=>?_) fun v w'' IX=>⟨⟨?_,fun _=>IX.1⟩,IX.2⟩
   ·have R':=R.later eh;by_cases hex:∃ (j:Nat) (q:Oper),(l.take n)[j]? = some q∧q.dst=some t
    ·obtain ⟨j,q,hj,hq⟩:=hex;have fX:j < n:=by have:=(List.getElem?_eq_some_iff.1 hj).1;omega
     have eK:l[j]? = some q:=by rw [List.getElem?_take_of_lt fX] at hj;exact hj
     have hw:=(cS i hi o bA).1 t ht j fX q eK hq;rw [cw fX eK hq,p5 (l.take n) rs st t j q (rs.getD j .any) eB hj (by simp [List.getD,show j < rs.length by omega]) hq];exact (hS j fX hw).1
    ·have bw:∀ o∈l.take n,o.dst≠some t:=fun o ho he=>by
      obtain ⟨j,hj⟩:=List.mem_iff_getElem?.1 ho;exact hex ⟨j,o,hj,he⟩
     have e1:=sG (vs:=vs) (l.take n) 0 a t bw gN;rw [e1,oL _ _ _ _ bw];exact R'.slots t
   ·refine sG (l.take n) 0 a t (fun q hq he=>?_) gN;obtain ⟨j,hj⟩:=List.mem_iff_getElem?.1 hq;have fX:j < n:=by have:=(List.getElem?_eq_some_iff.1 hj).1;omega
    exact ht j q fX (by rw [List.getElem?_take_of_lt fX] at hj;exact hj) he
   ·have:=(hS j hj hw).2 j5;have e1:=cw (vs:=vs) hj hq fu;rw [e1];exact this
   ·rw [xd i hi hc];exact .base _ _ (.any v)
  ·have ib:dZ i=false:=by simpa using hc
   refine P_ (P9 R (Nat.le_of_lt iS) eB hN (fun i hi o ho t ht j hj q hq aS=>(cS i hi o ho).1 t ht j hj q hq aS) aw fB i (fun o r ho hr=>(hP i o r (by rw [Nat.zero_add];exact ib) ho hr).1) hi) (fun j v w' hh=>hh.1) fun v w' hh=>⟨hh,fun h=>absurd h hc⟩
 ·obtain ⟨p2,R2⟩:=Dw p a w _ w' R hb (xE R eB s6 (by rw [hlen];exact fB) hb (by rw [hlen];exact fun i hi=>(hv i hi).1)) (fun t ht=>by
   refine sG (l.take n) 0 a t (fun q hq he=>?_) gN;obtain ⟨j,hj⟩:=List.mem_iff_getElem?.1 hq;have fX:j < n:=by have:=(List.getElem?_eq_some_iff.1 hj).1;omega
   exact ht j q fX (by rw [List.getElem?_take_of_lt fX] at hj;exact hj) he) fun j q d hj j5 hq fu=>by
    rw [cw hj hq fu];exact (hv j hj).2 j5
  have lu:(l.drop n).all (dz N)=true:=List.all_eq_true.2 fun q hq=>List.all_eq_true.1 hN q (List.mem_of_mem_drop hq);exact rD (ow:=ow) hN (fun p st a w R h=>⟨st,p,R,h⟩) (l.drop n) p2 _ _ w' lu R2 xc
end
end Go.Proofs.YtoibondihdhnoaaGreatDoor
