/- Texts in one: slices.Clone at rows of texts and of cars that were taken. -/
import Derived.Test.YtoibondihdhnoaaGreatDoorFRN16
import Derived.Lib.LazyBuf
namespace Go.Proofs.YtoibondihdhnoaaGreatDoor
open Go.RowKit
set_option maxRecDepth 100000
set_option maxHeartbeats 1000000
theorem b2u {P:Program} {w:World} {t ty e:TypeId} {i:TypeInfo} {z:Value} {sz:Nat} (ht:P.underlying t=some (.slice e)) (hi:P.info? e=some i) (hz:i.zero=some z) (hs:i.size=sz) (hzs:z.cells.size=sz) (hby:i.bytes≤100000) (hsz:0 < sz)
  {M:Nat→Nat→Prop} {es:List (List AV)} {a:Addr} {n c:Nat} (hv:V0 w M (.sl sz es) (.slice (some a) n c)) (hn:es.length≤1000000000) :
  ∃ v' w',(Builtin.append_ #[t,t] ty #[.slice (some ⟨w.heap.size,0,none⟩) 0 0,.slice (some a) n c]).run P (w.alloc (.cells #[] e)) = .ok v' w'∧Below w.heap.size w w'∧OwnRow w w' M e sz (decide (es=[])) es v':=by
 have hb0:Below w.heap.size w (w.alloc (.cells #[] e)):=(Below.refl _ w).alloc (Nat.le_refl _) _;cases hv with
 | slNil _ _ _=>
  have hr:=z9_ (P:=P) (ty:=ty) ht hi ⟨w.heap.size,0,none⟩ (some a) c (w.alloc (.cells #[] e));exact ⟨_,_,hr,hb0,⟨_,rfl⟩,rfl⟩
 | sl _ _ _ b o u hne hb hM hcap hsz' h1 hc hvv=>
  have hpos:0 < es.length:=List.length_pos_iff.2 hne;have hbytes:es.length*i.bytes≤281474976710656:=by
   have:es.length*i.bytes≤1000000000*100000:=Nat.mul_le_mul hn hby;omega
  have e1:=a4f (P:=P) (w:=w.alloc (.cells #[] e)) (ty:=ty) ht hi ⟨w.heap.size,0,none⟩ (some ⟨b,o,none⟩) es.length c hpos hbytes hn;obtain ⟨N,hN⟩ : ∃ N:List Value,N=(List.range (es.length*sz)).map fun j=>u (j / sz) (j % sz):=⟨_,rfl⟩
  have hNl:N.length=es.length*sz:=by rw [hN];simp
  have hNat:∀ j,j < es.length*sz→N[j]? = some (u (j / sz) (j % sz)):=fun j hj=>by rw [hN];simp [hj]
  have hdiv:∀ j,j < es.length*sz→j / sz < es.length∧j % sz < sz∧j / sz*sz+j % sz=j:=fun j hj=>⟨Nat.div_lt_of_lt_mul (by rw [Nat.mul_comm];exact hj),Nat.mod_lt _ hsz,by rw [Nat.mul_comm];exact Nat.div_add_mod j sz⟩
  have hcell:∀ j v,N[j]? = some v→(w.alloc (.cells #[] e)).cell? ((⟨b,o,none⟩ : Addr).add j)=some v:=fun j v hj=>by
   have hjl:j < es.length*sz:=by rw [←hNl];exact (List.getElem?_eq_some_iff.1 hj).1
   rw [hNat j hjl] at hj;obtain rfl:=Option.some.inj hj;obtain ⟨d1,d2,d3⟩:=hdiv j hjl;have:=hc _ _ d1 d2;have e3:o+j=o+j / sz*sz+j % sz:=by omega
   rw [f1_];show World.cell? _ ⟨b,o+j,none⟩=_;rw [e3];exact j5_ (hb0.block b hb) this
  have hr:=run_append_nil (P:=P) (w:=w.alloc (.cells #[] e)) t ty e i z ht hi hz ⟨b,o,none⟩ es.length c N (by rw [hNl,hs]) hcell hpos (by omega) hbytes;have hge:=grownCap_ge (w.alloc (.cells #[] e)) es.length 0 e;have hcm:=grownCap_le_maxLen (w.alloc (.cells #[] e)) es.length 0 e (by simp only [maxLen];omega);generalize grownCap (w.alloc (.cells #[] e)) es.length 0 e=G at *;refine ⟨_,_,e1.trans hr,?_,?_⟩
  ·exact x5_ hb0.drew _
  ·rw [decide_eq_false hne];unfold OwnRow;rw [if_neg (by simp)];have hle:(w.alloc (.cells #[] e)).drew.heap.size=w.heap.size+1:=by simp
   refine ⟨(w.alloc (.cells #[] e)).heap.size,G,_,rfl,by simp,heap_alloc_new (w.alloc (.cells #[] e)).drew _,?_,hge,hcm,fun k x j cc hk hj=>?_⟩
   ·rw [Array.size_append,size_zeroCells,hzs,List.size_toArray,hNl,←Nat.add_mul];congr 1;omega
   ·have hkl:=(List.getElem?_eq_some_iff.1 hk).1;have hjl:j < sz:=by rw [←hsz' k x hk];exact (List.getElem?_eq_some_iff.1 hj).1
    have hlt:k*sz+j < es.length*sz:=by
     have:(k+1)*sz≤es.length*sz:=Nat.mul_le_mul_right _ hkl;rw [Nat.add_mul] at this;omega
    have hq:(k*sz+j) / sz=k∧(k*sz+j) % sz=j:=by
     rw [Nat.add_comm,Nat.add_mul_div_right _ _ hsz,Nat.add_mul_mod_self_right,Nat.div_eq_of_lt hjl,Nat.mod_eq_of_lt hjl];exact ⟨Nat.zero_add k,rfl⟩
    refine ⟨u k j,?_,?_⟩
    ·rw [Array.getElem?_append_left (by rw [List.size_toArray,hNl];exact hlt),List.getElem?_toArray,hNat _ hlt,hq.1,hq.2]
    ·refine (hvv k x j cc hk hj).keep ((Keeps.of_below (M:=M) (x5_ hb0.drew _))) fun b' j' hb' hn hm=>?_;rcases hm with hm|hm
     ·exact hn hm
     ·simp at hm;omega
theorem r9_ {P:Program} {ops:Array Oper} {Q:Exit→Act→World→Prop} {rest:List Oper} {a:Act} {w w1:World} {o:Oper} {x y:Operand} {t d:Nat} {vx vy v:Value} (ho:o.op = .call ⟨.builtin .append,#[x,y],#[t,t]⟩) (hg:o.guard=none) (hd:o.dst=some d) (hx:a.eval x=vx) (hy:a.eval y=vy)
  (hr:(Builtin.append_ #[t,t] o.type #[vx,vy]).run P w = .ok v w1) (k:wpList P ops Q rest (a.put (some d) v) w1) : wpList P ops Q (o::rest) a w:=by
 obtain ⟨dst,op,ty,pos,after,guard⟩:=o;simp only at ho hg hd hr;subst ho hg hd hx hy;refine wpList_step fun X Y=>?_;simp only [Region.wanted,if_true];unfold Oper.wp;simp only [execOp,resolve,invoke,builtin,Sem.run_bind,Sem.run_pure,Result.andThen_ok,List.map_toArray,List.map_cons,List.map_nil,hr,Oper.upon];exact Y _ _ k
theorem b4v (w:World) (c:Nat) : Calls Tryz.prog 135 #[.slice none 0 c] w fun e w'=>e = .returned (.slice none 0 0)∧w'=w:=by
 have q:∀ (w:World) (a:Option Addr) (n c n' c':Nat),(binOp .eql 62 (.slice a n c) (.slice none n' c')).run Tryz.prog w = .ok (.bool a.isNone) w:=fun w a n c n' c'=>Lib.run_eql_slice_nil w _ _ a n c n' c' Tryz.underlying62;go_enter Tryz.func135,Tryz.ntmps135
 go_wp2
 go_ret
 exact ⟨rfl,rfl⟩
theorem b0y (w:World) (a:Addr) (n c:Nat) (v':Value) (w1:World) (hA:(Builtin.append_ #[62,62] 62 #[.slice (some ⟨w.heap.size,0,none⟩) 0 0,.slice (some a) n c]).run Tryz.prog (w.alloc (.cells #[] 9)) = .ok v' w1) :
  Calls Tryz.prog 135 #[.slice (some a) n c] w fun e w'=>e = .returned v'∧w'=w1:=by
 have q:∀ (w:World) (a:Option Addr) (n c n' c':Nat),(binOp .eql 62 (.slice a n c) (.slice none n' c')).run Tryz.prog w = .ok (.bool a.isNone) w:=fun w a n c n' c'=>Lib.run_eql_slice_nil w _ _ a n c n' c' Tryz.underlying62;have u22:∀ w,Sem.run Tryz.prog (underlying 62) w = .ok (TypeDesc.slice 9) w:=run_underlying Tryz.underlying62;obtain ⟨i0,hi⟩ : ∃ i,Tryz.prog.info? 9=some i:=Option.isSome_iff_exists.1 (by kernel_rfl);go_enter Tryz.func135,Tryz.ntmps135
 go_wp2_with (refine r9_ rfl rfl rfl rfl rfl hA ?_)
 go_ret
 exact ⟨rfl,rfl⟩
theorem b2v (es:List (List AV)) (h1:∀ (k:Nat) (x:List AV),es[k]? = some x→x.length=1∧∀ c∈x,f7_ c=true) (hn:es.length≤1000000000) : VCo Tryz.prog 135 [.sl 1 es] 9 1 (decide (es=[])) es:=by
 refine ⟨by kernel_rfl,by decide,h1,fun w M vs hM hvl hv=>?_⟩;obtain ⟨v1,rfl⟩ : ∃ v1,vs=[v1]:=by
  rcases vs with _|⟨v,_|⟨_,_⟩⟩
  ·simp at hvl
  ·exact ⟨v,rfl⟩
  ·simp at hvl
 have hv0:=hv 0 _ _ rfl rfl;obtain ⟨A,n,c,rfl⟩:=hv0.sl_form;cases A with
 | none=>
  have e0:es=[]∧n=0:=by
   cases hv0 with
   | slNil=>exact ⟨rfl,rfl⟩
  obtain ⟨rfl,rfl⟩:=e0;refine (b4v w c).mono ?_;rintro en w' ⟨rfl,rfl⟩;exact ⟨_,rfl,Below.refl _ _,⟨none,rfl⟩,rfl⟩
 | some a=>
  obtain ⟨d,i0,z,hd,hi,hz,h1z,hti⟩:=c1_ ti9;injection hti with q1 q2 q3 q4 q5 q6 q7 q8 q9
  have hzs:z.cells.size=1:=by
   rw [←Array.length_toList,←q9];rfl
  obtain ⟨v',w1,hr,hb,ho⟩:=b2u (P:=Tryz.prog) (ty:=62) Tryz.underlying62 hi hz q2.symm hzs (by rw [←q3];decide) (by decide) hv0 hn;refine (b0y w a n c v' w1 hr).mono ?_;rintro en w' ⟨rfl,rfl⟩;exact ⟨_,rfl,hb,ho⟩
theorem b4w (w:World) (c:Nat) : Calls Tryz.prog 156 #[.slice none 0 c] w fun e w'=>e = .returned (.slice none 0 0)∧w'=w:=by
 have q:∀ (w:World) (a:Option Addr) (n c n' c':Nat),(binOp .eql 30 (.slice a n c) (.slice none n' c')).run Tryz.prog w = .ok (.bool a.isNone) w:=fun w a n c n' c'=>Lib.run_eql_slice_nil w _ _ a n c n' c' Tryz.underlying30;go_enter Tryz.func156,Tryz.ntmps156
 go_wp2
 go_ret
 exact ⟨rfl,rfl⟩
theorem b0z (w:World) (a:Addr) (n c:Nat) (v':Value) (w1:World) (hA:(Builtin.append_ #[30,30] 30 #[.slice (some ⟨w.heap.size,0,none⟩) 0 0,.slice (some a) n c]).run Tryz.prog (w.alloc (.cells #[] 148)) = .ok v' w1) :
  Calls Tryz.prog 156 #[.slice (some a) n c] w fun e w'=>e = .returned v'∧w'=w1:=by
 have q:∀ (w:World) (a:Option Addr) (n c n' c':Nat),(binOp .eql 30 (.slice a n c) (.slice none n' c')).run Tryz.prog w = .ok (.bool a.isNone) w:=fun w a n c n' c'=>Lib.run_eql_slice_nil w _ _ a n c n' c' Tryz.underlying30;have u22:∀ w,Sem.run Tryz.prog (underlying 30) w = .ok (TypeDesc.slice 148) w:=run_underlying Tryz.underlying30;obtain ⟨i0,hi⟩ : ∃ i,Tryz.prog.info? 148=some i:=Option.isSome_iff_exists.1 (by kernel_rfl);go_enter Tryz.func156,Tryz.ntmps156
 go_wp2_with (refine r9_ rfl rfl rfl rfl rfl hA ?_)
 go_ret
 exact ⟨rfl,rfl⟩
theorem c2c (es:List (List AV)) (h1:∀ (k:Nat) (x:List AV),es[k]? = some x→x.length=3∧∀ c∈x,f7_ c=true) (hn:es.length≤1000000000) : VCo Tryz.prog 156 [.sl 3 es] 148 3 (decide (es=[])) es:=by
 refine ⟨by kernel_rfl,by decide,h1,fun w M vs hM hvl hv=>?_⟩;obtain ⟨v1,rfl⟩ : ∃ v1,vs=[v1]:=by
  rcases vs with _|⟨v,_|⟨_,_⟩⟩
  ·simp at hvl
  ·exact ⟨v,rfl⟩
  ·simp at hvl
 have hv0:=hv 0 _ _ rfl rfl;obtain ⟨A,n,c,rfl⟩:=hv0.sl_form;cases A with
 | none=>
  have e0:es=[]∧n=0:=by
   cases hv0 with
   | slNil=>exact ⟨rfl,rfl⟩
  obtain ⟨rfl,rfl⟩:=e0;refine (b4w w c).mono ?_;rintro en w' ⟨rfl,rfl⟩;exact ⟨_,rfl,Below.refl _ _,⟨none,rfl⟩,rfl⟩
 | some a=>
  obtain ⟨d,i0,z,hd,hi,hz,h1z,hti⟩:=c1_ c8m;injection hti with q1 q2 q3 q4 q5 q6 q7 q8 q9
  have hzs:z.cells.size=3:=by
   rw [←Array.length_toList,←q9];rfl
  obtain ⟨v',w1,hr,hb,ho⟩:=b2u (P:=Tryz.prog) (ty:=30) Tryz.underlying30 hi hz q2.symm hzs (by rw [←q3];decide) (by decide) hv0 hn;refine (b0z w a n c v' w1 hr).mono ?_;rintro en w' ⟨rfl,rfl⟩;exact ⟨_,rfl,hb,ho⟩
end Go.Proofs.YtoibondihdhnoaaGreatDoor
