/- Texts in one: Nothing appended to a row without elements, in a drawing region's tail: of every program; no condition. -/
import Derived.Test.YtoibondihdhnoaaGreatDoorFRK13
import Derived.Laws.Append
namespace Go.Proofs.YtoibondihdhnoaaGreatDoor
open Go.RowKit
section
variable {P:Program} {M0:Nat→Nat→Prop} {w0:Bas} {N:Nm} {p:Pl} {st:VS} {a:Act} {w:World} {Q:Exit→VS→Prop}
theorem V0.sl_nil {sz:Nat} {v:Value} {M:Nat→Nat→Prop} (h:V0 w M (.sl sz []) v) : ∃ A c,v = .slice A 0 c:=by
 cases h with
 | slNil _ A cap=>exact ⟨A,cap,rfl⟩
 | sl _ _ cap b o u au hb hM dC aL h1 hc hv=>exact absurd rfl au
theorem II {id:Nat} {l:List Oper} (n:Nat) (hm:P.follows .mixedOrders=true) (hB:Region.specB l.toArray n=true) (h:mX P l (l.take n) st fun aK=>VL P M0 w0 N l Q (l.drop n) aK) :
  VWp P M0 w0 N (.region id l.toArray true) Q st:=fun hC p a w R=>by
 have hN:l.all (cX N)=true:=by simpa [fk] using hC
 obtain ⟨rs,dQ,hK,fU⟩:=s7 _ _ h;have dm:=hB;simp only [Region.specB,Bool.and_eq_true,decide_eq_true_eq] at hB;obtain ⟨⟨⟨⟨⟨⟨kJ,aJ⟩,hs⟩,hc⟩,hd⟩,bh⟩,mY⟩:=hB;have eZ:n < l.length:=by simpa using aJ
 have dv:dW (l.take n)=true:=by simpa using hd
 have hlen:(l.take n).length=n:=by simp;omega
 have cn:∀ i,i < n→∀ o,l[i]? = some o→(∀ t∈o.looksAt l.toArray,∀ j,j < n→∀ q,l[j]? = some q→q.dst=some t→Region.waitsFor .any l.toArray i j=true)∧(∀ e∈o.after,Region.binds .any e=true→e.on < i):=by
  intro i hi o ho;have h:=List.all_eq_true.1 bh i (List.mem_range.2 hi);simp only [List.getElem?_toArray,ho,Bool.and_eq_true] at h;refine ⟨fun t ht j hj q hq aE=>?_,fun e he hb=>?_⟩
  ·have h1:=List.all_eq_true.1 (List.all_eq_true.1 h.1 t ht) j (List.mem_range.2 hj);simp only [hq,Option.bind_some,aE,bne_self_eq_false,Bool.false_or] at h1;exact h1
  ·have h1:=Array.all_eq_true'.1 h.2 e he;simp only [hb,Bool.not_true,Bool.false_or,decide_eq_true_eq] at h1;exact h1
 have aq:∀ i j,i < n→Region.waitsFor .any l.toArray i j=true→j < i:=by
  intro i j hi hw;obtain ⟨o,ho,e,he,hb,cA⟩:=Region.waitsFor_spec hw;rw [←cA];exact (cn i hi o (by simpa using ho)).2 e he hb
 refine xp n (fun i v w'=>V1 w' (Mof M0 st.h p) st.h p (rs.getD i .any) v) hm dm (fun i _ v w1 w2 hv hb=>hv.later hb) (fun i hi=>?_) fun vs w' hb hv=>?_
 ·exact Af R (Nat.le_of_lt eZ) dv hN (fun i hi o ho t ht j hj q hq aE=>(cn i hi o ho).1 t ht j hj q hq aE) aq (by rw [dQ,hlen]) fU i hi
 ·have pq:(l.take n).all (cX N)=true:=List.all_eq_true.2 fun q hq=>List.all_eq_true.1 hN q (List.mem_of_mem_take hq);have iC:(l.drop n).all (cX N)=true:=List.all_eq_true.2 fun q hq=>List.all_eq_true.1 hN q (List.mem_of_mem_drop hq);exact hK hN iC p _ w' (uI R dv pq dQ hb (by rw [hlen];exact hv))
variable {ops l:List Oper}
theorem IJ {t ty e:TypeId} {i:TypeInfo} (ht:P.underlying t=some (.slice e)) (hi:P.info? e=some i) (A:Option Addr) (c:Nat) (w:World) : (Builtin.append_ #[t,t] ty #[.slice none 0 0,.slice A 0 c]).run P w = .ok (.slice none 0 0) w:=by
 cases A with
 | none=>simp [Builtin.append_,run_underlying ht,sizeOf,typeInfo,hi,Builtin.lenOf,Builtin.firstCells]
 | some b=>
  have h:=Go.run_firstCells_some (P:=P) w i.size 0 b 0 c [] (by simp) (fun j v hj=>by simp at hj);simp [Builtin.append_,run_underlying ht,sizeOf,typeInfo,hi,Builtin.lenOf,h]
theorem DO {t ty e:TypeId} {i:TypeInfo} (ht:P.underlying t=some (.slice e)) (hi:P.info? e=some i) (a:Addr) (A:Option Addr) (c:Nat) (w:World) : (Builtin.append_ #[t,t] ty #[.slice (some a) 0 0,.slice A 0 c]).run P w = .ok (.slice (some a) 0 0) w:=by
 cases A with
 | none=>simp [Builtin.append_,run_underlying ht,sizeOf,typeInfo,hi,Builtin.lenOf,Builtin.firstCells,storeCells]
 | some b=>
  have h:=Go.run_firstCells_some (P:=P) w i.size 0 b 0 c [] (by simp) (fun j v hj=>by simp at hj);simp [Builtin.append_,run_underlying ht,sizeOf,typeInfo,hi,Builtin.lenOf,h,storeCells]
theorem IK {o:Oper} {t e d sz:Nat} {x y:Operand} {i:TypeInfo} (ho:o.op = .call ⟨.builtin .append,#[x,y],#[t,t]⟩∧o.guard=none∧o.dst=some d) (ht:P.underlying t=some (.slice e)) (hi:P.info? e=some i)
  (hx:ev st x = .lit (.slice none 0 0)) (hy:ev st y = .sl sz []) (k:VL P M0 w0 N ops Q l ⟨(d,.lit (.slice none 0 0))::st.s,st.h⟩) : VL P M0 w0 N ops Q (o::l) st:=fun eD hB p a w R=>by
 simp only [List.all_cons,Bool.and_eq_true] at hB;obtain ⟨dst,op,ty,pos,after,guard⟩:=o;obtain ⟨h1,h2,h3⟩:=ho;simp only at h1 h2 h3;subst h1 h2 h3;refine wpList_step fun X Y=>?_;simp only [Region.wanted,if_true];have iR:=R.eval x;rw [hx] at iR;have jT:=R.eval y;rw [hy] at jT;have DP:=iR.lit_inv;obtain ⟨A,c,IL⟩:=V0.sl_nil jT.sl_inv;have aC:=IJ (P:=P) (ty:=ty) ht hi A c w;unfold Oper.wp;simp only [execOp,resolve,invoke,builtin,Sem.run_bind,Sem.run_pure,Result.andThen_ok,List.map_toArray,List.map_cons,List.map_nil,DP,IL,aC,Oper.upon];exact Y _ _ (k eD hB.2 p _ w (R.putS (fw hB.1 d rfl) (.base _ _ (.lit _))))
end
end Go.Proofs.YtoibondihdhnoaaGreatDoor
