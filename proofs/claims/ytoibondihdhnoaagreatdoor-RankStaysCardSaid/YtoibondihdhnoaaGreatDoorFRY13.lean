/- Texts in one: Nothing appended to a row without elements, in a drawing region's tail: of every program; no condition. -/
import Derived.Test.YtoibondihdhnoaaGreatDoorFRY12
import Derived.Laws.Append
namespace Go.Proofs.YtoibondihdhnoaaGreatDoor
open Go.RowKit
section
variable {P:Program} {M0:Nat→Nat→Prop} {w0:Bas} {N:Nm} {p:Pl} {st:VS} {a:Act} {w:World} {Q:Exit→VS→Prop}
theorem V0.sl_nil {sz:Nat} {v:Value} {M:Nat→Nat→Prop} (h:V0 w M (.sl sz []) v) : ∃ A c,v = .slice A 0 c:=by
 cases h with
 | slNil _ A cap=>exact ⟨A,cap,rfl⟩
 | sl _ _ cap b o u ax hb hM dy aM h1 hc hv=>exact absurd rfl ax
theorem I0 {id:Nat} {l:List Oper} (n:Nat) (hm:P.follows .mixedOrders=true) (hB:Region.specB l.toArray n=true) (h:jt P l (l.take n) st fun aK=>VL P M0 w0 N l Q (l.drop n) aK) :
  VWp P M0 w0 N (.region id l.toArray true) Q st:=fun hC p a w R=>by
 have hN:l.all (cW N)=true:=by simpa [fg] using hC
 obtain ⟨rs,eb,hK,fJ⟩:=tA _ _ h;have dp:=hB;simp only [Region.specB,Bool.and_eq_true,decide_eq_true_eq] at hB;obtain ⟨⟨⟨⟨⟨⟨kx,aL⟩,hs⟩,hc⟩,hd⟩,bb⟩,mJ⟩:=hB;have eY:n < l.length:=by simpa using aL
 have du:dS (l.take n)=true:=by simpa using hd
 have hlen:(l.take n).length=n:=by simp;omega
 have cC:∀ i,i < n→∀ o,l[i]? = some o→(∀ t∈o.looksAt l.toArray,∀ j,j < n→∀ q,l[j]? = some q→q.dst=some t→Region.waitsFor .any l.toArray i j=true)∧(∀ e∈o.after,Region.binds .any e=true→e.on < i):=by
  intro i hi o ho;have h:=List.all_eq_true.1 bb i (List.mem_range.2 hi);simp only [List.getElem?_toArray,ho,Bool.and_eq_true] at h;refine ⟨fun t ht j hj q hq aH=>?_,fun e he hb=>?_⟩
  ·have h1:=List.all_eq_true.1 (List.all_eq_true.1 h.1 t ht) j (List.mem_range.2 hj);simp only [hq,Option.bind_some,aH,bne_self_eq_false,Bool.false_or] at h1;exact h1
  ·have h1:=Array.all_eq_true'.1 h.2 e he;simp only [hb,Bool.not_true,Bool.false_or,decide_eq_true_eq] at h1;exact h1
 have aq:∀ i j,i < n→Region.waitsFor .any l.toArray i j=true→j < i:=by
  intro i j hi hw;obtain ⟨o,ho,e,he,hb,cD⟩:=Region.waitsFor_spec hw;rw [←cD];exact (cC i hi o (by simpa using ho)).2 e he hb
 refine xf n (fun i v w'=>V1 w' (Mof M0 st.h p) st.h p (rs.getD i .any) v) hm dp (fun i _ v w1 w2 hv hb=>hv.later hb) (fun i hi=>?_) fun vs w' hb hv=>?_
 ·exact AE R (Nat.le_of_lt eY) du hN (fun i hi o ho t ht j hj q hq aH=>(cC i hi o ho).1 t ht j hj q hq aH) aq (by rw [eb,hlen]) fJ i hi
 ·have pf:(l.take n).all (cW N)=true:=List.all_eq_true.2 fun q hq=>List.all_eq_true.1 hN q (List.mem_of_mem_take hq);have ja:(l.drop n).all (cW N)=true:=List.all_eq_true.2 fun q hq=>List.all_eq_true.1 hN q (List.mem_of_mem_drop hq);exact hK hN ja p _ w' (u_ R du pf eb hb (by rw [hlen];exact hv))
variable {ops l:List Oper}
theorem I1 {t ty e:TypeId} {i:TypeInfo} (ht:P.underlying t=some (.slice e)) (hi:P.info? e=some i) (A:Option Addr) (c:Nat) (w:World) : (Builtin.append_ #[t,t] ty #[.slice none 0 0,.slice A 0 c]).run P w = .ok (.slice none 0 0) w:=by
 cases A with
 | none=>simp [Builtin.append_,run_underlying ht,sizeOf,typeInfo,hi,Builtin.lenOf,Builtin.firstCells]
 | some b=>
  have h:=Go.run_firstCells_some (P:=P) w i.size 0 b 0 c [] (by simp) (fun j v hj=>by simp at hj);simp [Builtin.append_,run_underlying ht,sizeOf,typeInfo,hi,Builtin.lenOf,h]
theorem I2 {t ty e:TypeId} {i:TypeInfo} (ht:P.underlying t=some (.slice e)) (hi:P.info? e=some i) (a:Addr) (A:Option Addr) (c:Nat) (w:World) : (Builtin.append_ #[t,t] ty #[.slice (some a) 0 0,.slice A 0 c]).run P w = .ok (.slice (some a) 0 0) w:=by
 cases A with
 | none=>simp [Builtin.append_,run_underlying ht,sizeOf,typeInfo,hi,Builtin.lenOf,Builtin.firstCells,storeCells]
 | some b=>
  have h:=Go.run_firstCells_some (P:=P) w i.size 0 b 0 c [] (by simp) (fun j v hj=>by simp at hj);simp [Builtin.append_,run_underlying ht,sizeOf,typeInfo,hi,Builtin.lenOf,h,storeCells]
theorem I3 {o:Oper} {t e d sz:Nat} {x y:Operand} {i:TypeInfo} (ho:o.op = .call ⟨.builtin .append,#[x,y],#[t,t]⟩∧o.guard=none∧o.dst=some d) (ht:P.underlying t=some (.slice e)) (hi:P.info? e=some i)
  (hx:ev st x = .lit (.slice none 0 0)) (hy:ev st y = .sl sz []) (k:VL P M0 w0 N ops Q l ⟨(d,.lit (.slice none 0 0))::st.s,st.h⟩) : VL P M0 w0 N ops Q (o::l) st:=fun ew hB p a w R=>by
 simp only [List.all_cons,Bool.and_eq_true] at hB;obtain ⟨dst,op,ty,pos,after,guard⟩:=o;obtain ⟨h1,h2,h3⟩:=ho;simp only at h1 h2 h3;subst h1 h2 h3;refine wpList_step fun X Y=>?_;simp only [Region.wanted,if_true];have iL:=R.eval x;rw [hx] at iL;have jN:=R.eval y;rw [hy] at jN;have DX:=iL.lit_inv;obtain ⟨A,c,I4⟩:=V0.sl_nil jN.sl_inv;have aD:=I1 (P:=P) (ty:=ty) ht hi A c w;unfold Oper.wp;simp only [execOp,resolve,invoke,builtin,Sem.run_bind,Sem.run_pure,Result.andThen_ok,List.map_toArray,List.map_cons,List.map_nil,DX,I4,aD,Oper.upon];exact Y _ _ (k ew hB.2 p _ w (R.putS (fh hB.1 d rfl) (.base _ _ (.lit _))))
end
end Go.Proofs.YtoibondihdhnoaaGreatDoor
