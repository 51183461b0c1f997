/- Texts in one: Nothing appended to a row without elements, in a drawing region's tail: of every program; no condition. -/
import Derived.Test.YtoibondihdhnoaaGreatDoorFRQ13
import Derived.Laws.Append
namespace Go.Proofs.YtoibondihdhnoaaGreatDoor
open Go.RowKit
section
variable {P:Program} {M0:Nat→Nat→Prop} {w0:Bas} {N:Nm} {p:Pl} {st:VS} {a:Act} {w:World} {Q:Exit→VS→Prop}
theorem V0.sl_nil {sz:Nat} {v:Value} {M:Nat→Nat→Prop} (h:V0 w M (.sl sz []) v) : ∃ A c,v = .slice A 0 c:=by
 cases h with
 | slNil _ A cap=>exact ⟨A,cap,rfl⟩
 | sl _ _ cap b o u aq hb hM dB aJ h1 hc hv=>exact absurd rfl aq
theorem IV {id:Nat} {l:List Oper} (n:Nat) (hm:P.follows .mixedOrders=true) (hB:Region.specB l.toArray n=true) (h:mT P l (l.take n) st fun aI=>VL P M0 w0 N l Q (l.drop n) aI) :
  VWp P M0 w0 N (.region id l.toArray true) Q st:=fun hC p a w R=>by
 have hN:l.all (cR N)=true:=by simpa [e_] using hC
 obtain ⟨rs,dW,hK,fa⟩:=sV _ _ h;have dq:=hB;simp only [Region.specB,Bool.and_eq_true,decide_eq_true_eq] at hB;obtain ⟨⟨⟨⟨⟨⟨kP,aK⟩,hs⟩,hc⟩,hd⟩,bh⟩,mU⟩:=hB;have fb:n < l.length:=by simpa using aK
 have dw:ea (l.take n)=true:=by simpa using hd
 have hlen:(l.take n).length=n:=by simp;omega
 have cG:∀ i,i < n→∀ o,l[i]? = some o→(∀ t∈o.looksAt l.toArray,∀ j,j < n→∀ q,l[j]? = some q→q.dst=some t→Region.waitsFor .any l.toArray i j=true)∧(∀ e∈o.after,Region.binds .any e=true→e.on < i):=by
  intro i hi o ho;have h:=List.all_eq_true.1 bh i (List.mem_range.2 hi);simp only [List.getElem?_toArray,ho,Bool.and_eq_true] at h;refine ⟨fun t ht j hj q hq aH=>?_,fun e he hb=>?_⟩
  ·have h1:=List.all_eq_true.1 (List.all_eq_true.1 h.1 t ht) j (List.mem_range.2 hj);simp only [hq,Option.bind_some,aH,bne_self_eq_false,Bool.false_or] at h1;exact h1
  ·have h1:=Array.all_eq_true'.1 h.2 e he;simp only [hb,Bool.not_true,Bool.false_or,decide_eq_true_eq] at h1;exact h1
 have ak:∀ i j,i < n→Region.waitsFor .any l.toArray i j=true→j < i:=by
  intro i j hi hw;obtain ⟨o,ho,e,he,hb,cL⟩:=Region.waitsFor_spec hw;rw [←cL];exact (cG i hi o (by simpa using ho)).2 e he hb
 refine xh n (fun i v w'=>V1 w' (Mof M0 st.h p) st.h p (rs.getD i .any) v) hm dq (fun i _ v w1 w2 hv hb=>hv.later hb) (fun i hi=>?_) fun vs w' hb hv=>?_
 ·exact Ab R (Nat.le_of_lt fb) dw hN (fun i hi o ho t ht j hj q hq aH=>(cG i hi o ho).1 t ht j hj q hq aH) ak (by rw [dW,hlen]) fa i hi
 ·have pd:(l.take n).all (cR N)=true:=List.all_eq_true.2 fun q hq=>List.all_eq_true.1 hN q (List.mem_of_mem_take hq);have ix:(l.drop n).all (cR N)=true:=List.all_eq_true.2 fun q hq=>List.all_eq_true.1 hN q (List.mem_of_mem_drop hq);exact hK hN ix p _ w' (uE R dw pd dW hb (by rw [hlen];exact hv))
variable {ops l:List Oper}
theorem IW {t ty e:TypeId} {i:TypeInfo} (ht:P.underlying t=some (.slice e)) (hi:P.info? e=some i) (A:Option Addr) (c:Nat) (w:World) : (Builtin.append_ #[t,t] ty #[.slice none 0 0,.slice A 0 c]).run P w = .ok (.slice none 0 0) w:=by
 cases A with
 | none=>simp [Builtin.append_,run_underlying ht,sizeOf,typeInfo,hi,Builtin.lenOf,Builtin.firstCells]
 | some b=>
  have h:=Go.run_firstCells_some (P:=P) w i.size 0 b 0 c [] (by simp) (fun j v hj=>by simp at hj);simp [Builtin.append_,run_underlying ht,sizeOf,typeInfo,hi,Builtin.lenOf,h]
theorem IX {t ty e:TypeId} {i:TypeInfo} (ht:P.underlying t=some (.slice e)) (hi:P.info? e=some i) (a:Addr) (A:Option Addr) (c:Nat) (w:World) : (Builtin.append_ #[t,t] ty #[.slice (some a) 0 0,.slice A 0 c]).run P w = .ok (.slice (some a) 0 0) w:=by
 cases A with
 | none=>simp [Builtin.append_,run_underlying ht,sizeOf,typeInfo,hi,Builtin.lenOf,Builtin.firstCells,storeCells]
 | some b=>
  have h:=Go.run_firstCells_some (P:=P) w i.size 0 b 0 c [] (by simp) (fun j v hj=>by simp at hj);simp [Builtin.append_,run_underlying ht,sizeOf,typeInfo,hi,Builtin.lenOf,h,storeCells]
theorem IY {o:Oper} {t e d sz:Nat} {x y:Operand} {i:TypeInfo} (ho:o.op = .call ⟨.builtin .append,#[x,y],#[t,t]⟩∧o.guard=none∧o.dst=some d) (ht:P.underlying t=some (.slice e)) (hi:P.info? e=some i)
  (hx:ev st x = .lit (.slice none 0 0)) (hy:ev st y = .sl sz []) (k:VL P M0 w0 N ops Q l ⟨(d,.lit (.slice none 0 0))::st.s,st.h⟩) : VL P M0 w0 N ops Q (o::l) st:=fun dM hB p a w R=>by
 simp only [List.all_cons,Bool.and_eq_true] at hB;obtain ⟨dst,op,ty,pos,after,guard⟩:=o;obtain ⟨h1,h2,h3⟩:=ho;simp only at h1 h2 h3;subst h1 h2 h3;refine wpList_step fun X Y=>?_;simp only [Region.wanted,if_true];have iN:=R.eval x;rw [hx] at iN;have jO:=R.eval y;rw [hy] at jO;have DT:=iN.lit_inv;obtain ⟨A,c,IZ⟩:=V0.sl_nil jO.sl_inv;have aB:=IW (P:=P) (ty:=ty) ht hi A c w;unfold Oper.wp;simp only [execOp,resolve,invoke,builtin,Sem.run_bind,Sem.run_pure,Result.andThen_ok,List.map_toArray,List.map_cons,List.map_nil,DT,IZ,aB,Oper.upon];exact Y _ _ (k dM hB.2 p _ w (R.putS (dZ hB.1 d rfl) (.base _ _ (.lit _))))
end
section
variable {P:Program} {M0:Nat→Nat→Prop} {w0:Bas} {N:Nm} {st:VS} {Q:Exit→VS→Prop} {ops l:List Oper}
theorem uF {o:Oper} {t kt et d id:Nat} {x:Operand} {kf:Nat×IntKind} {kvs:List (Value×Value)} (ho:o.op = .call ⟨.builtin .len,#[x],#[t]⟩∧o.guard=none∧o.dst=some d) (hu:P.underlying t=some (.map kt et))
  (hx:ev st x = .mp id) (hid:st.h[id]? = some (some (.mpo kf kvs))) (k:VL P M0 w0 N ops Q l ⟨(d,.lit (.int .i64 (kvs.length:Int)))::st.s,st.h⟩) : VL P M0 w0 N ops Q (o::l) st:=fun dM hB p a w R=>by
 simp only [List.all_cons,Bool.and_eq_true] at hB;obtain ⟨dst,op,ty,pos,after,guard⟩:=o;obtain ⟨h1,h2,h3⟩:=ho;simp only at h1 h2 h3;subst h1 h2 h3;refine wpList_step fun X Y=>?_;simp only [Region.wanted,if_true];have em:=R.eval x;rw [hx] at em;obtain ⟨em,_⟩:=em.mp_inv;obtain ⟨_,_,es,clock,hg,om,_⟩:=R.objs id _ hid;have hl:es.size=kvs.length:=by rw [←om];simp
 have aB:(Builtin.len_ #[t] ty #[.map (some (p id))]).run P w = .ok (.int .i64 (kvs.length:Int)) w:=by
  simp [Builtin.len_,run_underlying hu,MapKept.run_getObj_map hg,hl,goInt]
 unfold Oper.wp;simp only [execOp,resolve,invoke,builtin,Sem.run_bind,Sem.run_pure,Result.andThen_ok,List.map_toArray,List.map_cons,List.map_nil,em,aB,Oper.upon];exact Y _ _ (k dM hB.2 p _ w (R.putS (dZ hB.1 d rfl) (.base _ _ (.lit _))))
end
end Go.Proofs.YtoibondihdhnoaaGreatDoor
