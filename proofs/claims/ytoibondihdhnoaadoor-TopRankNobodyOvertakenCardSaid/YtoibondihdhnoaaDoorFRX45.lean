/- Texts in one: Walks: an event is noted in the diary. -/
import Derived.Test.YtoibondihdhnoaaDoorFRX33
import Derived.Test.YtoibondihdhnoaaDoorFRX37
import Derived.Test.YtoibondihdhnoaaDoorFRX34
namespace Go.Proofs.YtoibondihdhnoaaDoor
open Go.RowKit
set_option maxRecDepth 100000
set_option maxHeartbeats 2000000
theorem c0j {w:World} {M:Nat→Nat→Prop} {v:Value} {e:Int} {sz:Nat} (hv:V0 w M (.tup [f0_,I e]) v) : V0 w M (.tup [.sl sz [],I e]) v:=by
 cases hv with
 | tup _ us hl hh=>
  refine .tup _ us hl fun i c u hc hu=>?_;rcases i with _|i
  ·simp only [List.getElem?_cons_zero,Option.some.injEq] at hc;subst hc;exact (hh 0 _ u rfl hu).nilSl sz
  ·exact hh (i+1) c u hc hu
theorem c8b {r:Ru} {t:T3} {x:Ev} (h:apE r t.1 x=0) : (stepT r t x).1=(apU r t.1 x).1∧(stepT r t x).2.1=(apU r t.1 x).2:=by
 constructor<;>simp only [stepT,apR,if_pos h]
def m4_ (d:Dy) (a b:Bool) : Hp:=[some (.box [.osl 1,.mp 2,.osl 3,.mp 4]),some (.arr 38 4 a (d.st.map Sy.av)),some (.mpo (4,.i64) d.op),some (.arr 140 3 b (d.wt.map Wt.av)),some (.mpo (4,.i64) d.sv)]
theorem c8c (log:List Ev) (d:Dy) (a b:Bool) (i:Nat) (hi:i < log.length) (hl:log.length≤1000000) (h4:(e6_ log i).kind=4) :
  VH Tryd.prog 48 (m4_ d a b) [.ref 0 0,w2_ log,I (i:Int)] [0] (m4_ d a b) (.tup []):=by
 obtain ⟨w1,w2,w3,w4,w5,w6⟩:=ixs (m:=i) (by omega);refine i8_ Tryd.func48 rfl (by kernel_rfl) rfl (fun _=>by kernel_rfl) fun M0 w0 vs=>?_;simp only [Tryd.ntmps48,Tryd.results48,b5_];unfold m4_;repeat' first|(with_reducible first|apply a9_|apply a3_|apply b4_|apply c5_|apply a1_|refine a2_ [] ?_)|((with_reducible refine a7_ ?_ ?_);(focus (go_simp;done)))|((with_reducible refine a0_ fun X Y=>?_);go_simp;refine Y _ ?_;clear Y X)
 go_simp
theorem c8d (log:List Ev) (d:Dy) (a b:Bool) (i:Nat) (hi:i < log.length) (hl:log.length≤1000000) (h0:(e6_ log i).kind=0) (hs:d.st.length≤i) (hv:NumOK d.sv i) :
  VH Tryd.prog 48 (m4_ d a b) [.ref 0 0,w2_ log,I (i:Int)] [0] (m4_ (o9_ log d i (e6_ log i)) false b) (.tup []):=by
 obtain ⟨w1,w2,w3,w4,w5,w6⟩:=ixs (m:=i) (by omega);unfold o9_;rw [if_neg (by omega),if_pos h0];obtain ⟨n1,n2,n3⟩:=hv.at_ (e6_ log i).car;unfold c7t;generalize c2i d.sv (e6_ log i).car=V at *;have n4:IntKind.i64.wrap V=V:=h3_ (by omega) (by omega);have n5:d.st.length+1≤1000000000:=by omega
 refine i8_ Tryd.func48 rfl (by kernel_rfl) rfl (fun _=>by kernel_rfl) fun M0 w0 vs=>?_;simp only [Tryd.ntmps48,Tryd.results48,b5_];unfold m4_;repeat' first|(with_reducible first|apply a9_|apply a3_|apply b0_|apply a1_|refine a2_ [] ?_)|((with_reducible refine a7_ ?_ ?_);(focus (go_simp;done)))|((with_reducible refine a6_ ?_ ?_);(focus (go_simp;done)))|((with_reducible refine a0_ fun X Y=>?_);go_simp;refine Y _ ?_;clear Y X)
 refine a6h 11 [] (by kernel_rfl) (by kernel_rfl) ?_;simp only [List.take,List.drop];repeat' first|(with_reducible first|apply a9_|apply a3_|apply a1_|apply a5_)|((with_reducible first|refine a0_ fun X Y=>?_|refine a4_ fun X Y=>?_);go_simp;refine Y _ ?_;clear Y X)
 refine a9b 10 [39] 1 [0,29] (by kernel_rfl) (by kernel_rfl) (by kernel_rfl) (by kernel_rfl) rfl ⟨rfl,rfl⟩ rfl ?_;simp only [List.take,List.drop];repeat' first|with_reducible apply a5_|((with_reducible refine a4_ fun X Y=>?_);go_simp;refine Y _ ?_;clear Y X)
 refine ⟨_,by go_simp,by go_simp;exact rfl,?_,?_⟩
 ·intro t ht;simp only [List.mem_cons,List.not_mem_nil,or_false] at ht;rcases ht with rfl|rfl<;>rfl
 go_simp;repeat' first|(with_reducible first|apply a9_|apply a3_|apply a1_)|((with_reducible refine a0_ fun X Y=>?_);go_simp;refine Y _ ?_;clear Y X)
 refine a6h 8 [] (by kernel_rfl) (by kernel_rfl) ?_;simp only [List.take,List.drop];repeat' first|(with_reducible first|apply a3_|apply b4_|apply c5_|apply a1_|apply a5_)|((with_reducible first|refine a0_ fun X Y=>?_|refine a4_ fun X Y=>?_);go_simp;refine Y _ ?_;clear Y X)
 go_simp
theorem c8e (log:List Ev) (d:Dy) (a b:Bool) (i:Nat) (hi:i < log.length) (hl:log.length≤1000000) (hk:(e6_ log i).kind=2) (h:DyOK log i d) (hh:h2_ (e6_ log i).car d.st=true) :
  VH Tryd.prog 48 (m4_ d a b) [.ref 0 0,w2_ log,I (i:Int)] [0] (m4_ (o9_ log d i (e6_ log i)) a b) (.tup []):=by
 obtain ⟨w1,w2,w3,w4,w5,w6⟩:=ixs (m:=i) (by omega);have ho:=h.op _ hh;obtain ⟨j,hj,hjl,hjc,hju⟩:=o3_ d.st 0 hh;rw [Nat.zero_add] at hj;unfold o9_;rw [if_neg (by omega),if_neg (by omega),hju];rw [hj] at ho;have hcame:=h.st _ (List.getElem_mem hjl);obtain ⟨c1,c2,c3,c4,c5⟩:=hcame;obtain ⟨y,hy⟩ : ∃ y,d.st[j]=y:=⟨_,rfl⟩
 rw [hy] at hjc c1 c2 c3 c4 c5 ⊢;have e1:∀ hh:j < (d.st.map Sy.av).length,(d.st.map Sy.av)[j]'hh=Sy.av y:=fun hh=>by rw [List.getElem_map,hy]
 have e2:j < (d.st.map Sy.av).length:=by simpa using hjl
 have ej:((j:Int)).toNat=j:=by omega
 have HY:=Lib.hid hy;obtain ⟨yc,ya,yw,yd⟩:=y;simp only [Sy.av] at e1;simp only at hjc c1 c2 c3 c4 c5;have e3:(d.st.set j (k4_ (e6_ log i) i ⟨yc,ya,yw,yd⟩)).map Sy.av=(d.st.map Sy.av).set j [S yc,I ya,I yw,I (yd+1)]:=by
  rw [List.map_set];unfold k4_;rw [hk];rfl
 have e4:z4_ log d.st (e6_ log i)=[]:=by unfold z4_;rw [if_neg (by omega)]
 rw [if_neg (by omega),if_neg (by omega),e4,List.append_nil];have e5:IntKind.i64.wrap (yd+1)=yd+1:=h3_ (by omega) (by omega);unfold m4_;simp only;rw [e3];generalize d.st.map Sy.av=E at *;clear h hh hj hju e3 e4 HY c1 c2 c3 c4 c5 hjc;refine i8_ Tryd.func48 rfl (by kernel_rfl) rfl (fun _=>by kernel_rfl) fun M0 w0 vs=>?_;simp only [Tryd.ntmps48,Tryd.results48,b5_];repeat' first|(with_reducible first|apply a9_|apply a3_|apply b0_|apply a1_|refine a2_ [] ?_)|((with_reducible refine a6_ ?_ ?_);(focus (go_simp;done)))|((with_reducible refine a0_ fun X Y=>?_);go_simp;refine Y _ ?_;clear Y X)
 refine a6h 13 [] (by kernel_rfl) (by kernel_rfl) ?_;simp only [List.take,List.drop];repeat' first|(with_reducible first|apply a9_|apply a3_|apply a1_|apply a5_)|((with_reducible refine a4_ fun X Y=>?_);go_simp;refine Y _ ?_;clear Y X)
 repeat' first|(with_reducible first|apply a9_|apply a3_|apply a8_|apply b1_|apply a1_|refine a2_ [] ?_)|((with_reducible refine a7_ ?_ ?_);(focus (go_simp;done)))|((with_reducible refine a6_ ?_ ?_);(focus (go_simp;done)))|((with_reducible refine a0_ fun X Y=>?_);go_simp;refine Y _ ?_;clear Y X)
 go_simp
theorem c8f (log:List Ev) (d:Dy) (a b:Bool) (i:Nat) (hi:i < log.length) (hl:log.length≤1000000) (hk:(e6_ log i).kind=3) (h:DyOK log i d) (hh:h2_ (e6_ log i).car d.st=true) :
  VH Tryd.prog 48 (m4_ d a b) [.ref 0 0,w2_ log,I (i:Int)] [0] (m4_ (o9_ log d i (e6_ log i)) a b) (.tup []):=by
 obtain ⟨w1,w2,w3,w4,w5,w6⟩:=ixs (m:=i) (by omega);have ho:=h.op _ hh;obtain ⟨j,hj,hjl,hjc,hju⟩:=o3_ d.st 0 hh;rw [Nat.zero_add] at hj;unfold o9_;rw [if_neg (by omega),if_neg (by omega),hju];rw [hj] at ho;have hcame:=h.st _ (List.getElem_mem hjl);obtain ⟨c1,c2,c3,c4,c5⟩:=hcame;obtain ⟨y,hy⟩ : ∃ y,d.st[j]=y:=⟨_,rfl⟩
 rw [hy] at hjc c1 c2 c3 c4 c5 ⊢;have e1:∀ hh:j < (d.st.map Sy.av).length,(d.st.map Sy.av)[j]'hh=Sy.av y:=fun hh=>by rw [List.getElem_map,hy]
 have e2:j < (d.st.map Sy.av).length:=by simpa using hjl
 have ej:((j:Int)).toNat=j:=by omega
 have HY:=Lib.hid hy;obtain ⟨yc,ya,yw,yd⟩:=y;simp only [Sy.av] at e1;simp only at hjc c1 c2 c3 c4 c5;have e3:(d.st.set j (k4_ (e6_ log i) i ⟨yc,ya,yw,yd⟩)).map Sy.av=(d.st.map Sy.av).set j [S yc,I ya,I (i:Int),I yd]:=by
  rw [List.map_set];unfold k4_;rw [hk];rfl
 have e4:z4_ log d.st (e6_ log i)=[]:=by unfold z4_;rw [if_neg (by omega)]
 rw [if_neg (by omega),if_neg (by omega),e4,List.append_nil];unfold m4_;simp only;rw [e3];generalize d.st.map Sy.av=E at *;clear h hh hj hju e3 e4 HY c1 c2 c3 c4 c5 hjc;refine i8_ Tryd.func48 rfl (by kernel_rfl) rfl (fun _=>by kernel_rfl) fun M0 w0 vs=>?_;simp only [Tryd.ntmps48,Tryd.results48,b5_];repeat' first|(with_reducible first|apply a9_|apply a3_|apply b0_|apply a1_|refine a2_ [] ?_)|((with_reducible refine a6_ ?_ ?_);(focus (go_simp;done)))|((with_reducible refine a0_ fun X Y=>?_);go_simp;refine Y _ ?_;clear Y X)
 refine a6h 13 [] (by kernel_rfl) (by kernel_rfl) ?_;simp only [List.take,List.drop];repeat' first|(with_reducible first|apply a9_|apply a3_|apply a1_|apply a5_)|((with_reducible refine a4_ fun X Y=>?_);go_simp;refine Y _ ?_;clear Y X)
 repeat' first|(with_reducible first|apply a9_|apply a3_|apply a8_|apply b1_|apply a1_|refine a2_ [] ?_)|((with_reducible refine a7_ ?_ ?_);(focus (go_simp;done)))|((with_reducible refine a6_ ?_ ?_);(focus (go_simp;done)))|((with_reducible refine a0_ fun X Y=>?_);go_simp;refine Y _ ?_;clear Y X)
 go_simp
theorem c8g (log:List Ev) (d:Dy) (a b:Bool) (i:Nat) (hi:i < log.length) (hl:log.length≤1000000) (hk:(e6_ log i).kind=5) (h:DyOK log i d) (hh:h2_ (e6_ log i).car d.st=true) :
  VH Tryd.prog 48 (m4_ d a b) [.ref 0 0,w2_ log,I (i:Int)] [0] (m4_ (o9_ log d i (e6_ log i)) a b) (.tup []):=by
 obtain ⟨w1,w2,w3,w4,w5,w6⟩:=ixs (m:=i) (by omega);have ho:=h.op _ hh;obtain ⟨j,hj,hjl,hjc,hju⟩:=o3_ d.st 0 hh;rw [Nat.zero_add] at hj;unfold o9_;rw [if_neg (by omega),if_neg (by omega),hju];rw [hj] at ho;have hcame:=h.st _ (List.getElem_mem hjl);obtain ⟨c1,c2,c3,c4,c5⟩:=hcame;obtain ⟨y,hy⟩ : ∃ y,d.st[j]=y:=⟨_,rfl⟩
 rw [hy] at hjc c1 c2 c3 c4 c5 ⊢;have e1:∀ hh:j < (d.st.map Sy.av).length,(d.st.map Sy.av)[j]'hh=Sy.av y:=fun hh=>by rw [List.getElem_map,hy]
 have e2:j < (d.st.map Sy.av).length:=by simpa using hjl
 have ej:((j:Int)).toNat=j:=by omega
 have HY:=Lib.hid hy;obtain ⟨yc,ya,yw,yd⟩:=y;simp only [Sy.av] at e1;simp only at hjc c1 c2 c3 c4 c5;have e3:(d.st.set j (k4_ (e6_ log i) i ⟨yc,ya,yw,yd⟩)).map Sy.av=(d.st.map Sy.av).set j [S yc,I ya,I (-1),I yd]:=by
  rw [List.map_set];unfold k4_;rw [hk];rfl
 have e4:z4_ log d.st (e6_ log i)=[]:=by unfold z4_;rw [if_neg (by omega)]
 rw [if_neg (by omega),if_pos hk,e4,List.append_nil];obtain ⟨n1,n2,n3⟩:=h.sv.at_ (e6_ log i).car;unfold c7t;rw [show c2i d.sv (e6_ log i).car+(-1)=c2i d.sv (e6_ log i).car - 1 by omega];generalize c2i d.sv (e6_ log i).car=V at *;have n4:IntKind.i64.wrap (V - 1)=V - 1:=h3_ (by omega) (by omega);unfold m4_;simp only;rw [e3];generalize d.st.map Sy.av=E at *;clear h hh hj hju e3 e4 HY c1 c2 c3 c4 c5 hjc;refine i8_ Tryd.func48 rfl (by kernel_rfl) rfl (fun _=>by kernel_rfl) fun M0 w0 vs=>?_;simp only [Tryd.ntmps48,Tryd.results48,b5_];repeat' first|(with_reducible first|apply a9_|apply a3_|apply b0_|apply a1_|refine a2_ [] ?_)|((with_reducible refine a6_ ?_ ?_);(focus (go_simp;done)))|((with_reducible refine a0_ fun X Y=>?_);go_simp;refine Y _ ?_;clear Y X)
 refine a6h 13 [] (by kernel_rfl) (by kernel_rfl) ?_;simp only [List.take,List.drop];repeat' first|(with_reducible first|apply a9_|apply a3_|apply a1_|apply a5_)|((with_reducible refine a4_ fun X Y=>?_);go_simp;refine Y _ ?_;clear Y X)
 repeat' first|(with_reducible first|apply a9_|apply a3_|apply a8_|apply a1_|refine a2_ [] ?_)|((with_reducible refine a7_ ?_ ?_);(focus (go_simp;done)))|((with_reducible refine a6_ ?_ ?_);(focus (go_simp;done)))|((with_reducible refine a0_ fun X Y=>?_);go_simp;refine Y _ ?_;clear Y X)
 refine a6h 8 [] (by kernel_rfl) (by kernel_rfl) ?_;simp only [List.take,List.drop];repeat' first|(with_reducible first|apply b1_|apply a1_|apply a5_)|((with_reducible first|refine a0_ fun X Y=>?_|refine a4_ fun X Y=>?_);go_simp;refine Y _ ?_;clear Y X)
 go_simp
theorem c8h (log:List Ev) (d:Dy) (a b:Bool) (i:Nat) (hi:i < log.length) (hl:log.length≤1000000) (hk:(e6_ log i).kind=1) (ht:0≤(e6_ log i).time∧(e6_ log i).time≤604800) (h:DyOK log i d) (hh:h2_ (e6_ log i).car d.st=true) :
  VH Tryd.prog 48 (m4_ d a b) [.ref 0 0,w2_ log,I (i:Int)] [0] (m4_ (o9_ log d i (e6_ log i)) a false) (.tup []):=by
 obtain ⟨w1,w2,w3,w4,w5,w6⟩:=ixs (m:=i) (by omega);have ho:=h.op _ hh;obtain ⟨j,hj,hjl,hjc,hju⟩:=o3_ d.st 0 hh;rw [Nat.zero_add] at hj;unfold o9_;rw [if_neg (by omega),if_neg (by omega),hju];rw [hj] at ho;have hcame:=h.st _ (List.getElem_mem hjl);obtain ⟨c1,c2,c3,c4,c5⟩:=hcame;obtain ⟨y,hy⟩ : ∃ y,d.st[j]=y:=⟨_,rfl⟩
 rw [hy] at hjc c1 c2 c3 c4 c5 ⊢;have e1:∀ hh:j < (d.st.map Sy.av).length,(d.st.map Sy.av)[j]'hh=Sy.av y:=fun hh=>by rw [List.getElem_map,hy]
 have e2:j < (d.st.map Sy.av).length:=by simpa using hjl
 have ej:((j:Int)).toNat=j:=by omega
 have HY:=Lib.hid hy;obtain ⟨yc,ya,yw,yd⟩:=y;simp only [Sy.av] at e1;simp only at hjc c1 c2 c3 c4 c5;have e3:(d.st.set j (k4_ (e6_ log i) i ⟨yc,ya,yw,yd⟩)).map Sy.av=(d.st.map Sy.av).set j [S yc,I ya,I (i:Int),I yd]:=by
  rw [List.map_set];unfold k4_;rw [hk];rfl
 have e4:z4_ log d.st (e6_ log i)=[⟨(e6_ log i).car,(e6_ log i).rank,(e6_ log i).time - (e6_ log ya.toNat).time⟩]:=by
  unfold z4_ a2k;rw [if_pos hk,hj,Int.toNat_natCast,List.getD_eq_getElem?_getD,List.getElem?_eq_getElem hjl,HY.out];rfl
 rw [if_pos hk,e4];obtain ⟨n1,n2,n3⟩:=h.sv.at_ (e6_ log i).car;unfold c7t;generalize c2i d.sv (e6_ log i).car=V at *;have n4:IntKind.i64.wrap (V+1)=V+1:=h3_ (by omega) (by omega);obtain ⟨m,hm⟩ : ∃ m:Nat,ya=m:=⟨ya.toNat,by omega⟩
 subst hm;have m1:m < log.length:=by omega
 have m2:((m:Int)).toNat=m:=by omega
 rw [m2] at c3 ⊢;have n5:IntKind.i64.wrap ((e6_ log i).time - (e6_ log m).time)=(e6_ log i).time - (e6_ log m).time:=h3_ (by omega) (by omega);have n6:d.wt.length+1≤1000000000:=by have:=h.wl;omega
 unfold m4_;simp only;rw [e3,List.map_append];generalize d.st.map Sy.av=E at *;clear h hh hj hju e3 e4 HY c1 c2 c3 c4 c5 hjc;refine i8_ Tryd.func48 rfl (by kernel_rfl) rfl (fun _=>by kernel_rfl) fun M0 w0 vs=>?_;simp only [Tryd.ntmps48,Tryd.results48,b5_];repeat' first|(with_reducible first|apply a9_|apply a3_|apply b0_|apply a1_|refine a2_ [] ?_)|((with_reducible refine a6_ ?_ ?_);(focus (go_simp;done)))|((with_reducible refine a0_ fun X Y=>?_);go_simp;refine Y _ ?_;clear Y X)
 refine a6h 13 [] (by kernel_rfl) (by kernel_rfl) ?_;simp only [List.take,List.drop];repeat' first|(with_reducible first|apply a9_|apply a3_|apply a1_|apply a5_)|((with_reducible refine a4_ fun X Y=>?_);go_simp;refine Y _ ?_;clear Y X)
 repeat' first|(with_reducible first|apply a9_|apply a3_|apply a8_|apply a1_|refine a2_ [] ?_)|((with_reducible refine a7_ ?_ ?_);(focus (go_simp;done)))|((with_reducible refine a0_ fun X Y=>?_);go_simp;refine Y _ ?_;clear Y X)
 refine a6h 8 [] (by kernel_rfl) (by kernel_rfl) ?_;simp only [List.take,List.drop];repeat' first|(with_reducible first|apply a3_|apply a1_|apply a5_)|((with_reducible first|refine a0_ fun X Y=>?_|refine a4_ fun X Y=>?_);go_simp;refine Y _ ?_;clear Y X)
 refine a9b 22 [100] 3 [0,78] (by kernel_rfl) (by kernel_rfl) (by kernel_rfl) (by kernel_rfl) rfl ⟨rfl,rfl⟩ rfl ?_;simp only [List.take,List.drop];repeat' first|with_reducible apply a5_|((with_reducible refine a4_ fun X Y=>?_);go_simp;refine Y _ ?_;clear Y X)
 refine ⟨_,by go_simp,by go_simp;exact rfl,?_,?_⟩
 ·intro t ht;simp only [List.mem_cons,List.not_mem_nil,or_false] at ht;rcases ht with rfl|rfl<;>rfl
 go_simp;repeat' first|(with_reducible first|apply b1_|apply a1_)|((with_reducible refine a0_ fun X Y=>?_);go_simp;refine Y _ ?_;clear Y X)
 go_simp
def a8r (a:Bool×Bool) (x:Ev) : Bool×Bool:=(if x.kind=0 then false else a.1,if x.kind=1 then false else a.2)
theorem d1f (log:List Ev) (d:Dy) (a:Bool×Bool) (i:Nat) (hi:i < log.length) (hl:log.length≤1000000) (hk:0≤(e6_ log i).kind∧(e6_ log i).kind≤5) (ht:0≤(e6_ log i).time∧(e6_ log i).time≤604800) (h:DyOK log i d) (hh:(e6_ log i).kind≠0→(e6_ log i).kind≠4→h2_ (e6_ log i).car d.st=true) :
  VH Tryd.prog 48 (m4_ d a.1 a.2) [.ref 0 0,w2_ log,I (i:Int)] [0] (m4_ (o9_ log d i (e6_ log i)) (a8r a (e6_ log i)).1 (a8r a (e6_ log i)).2) (.tup []):=by
 obtain ⟨a,b⟩:=a;unfold a8r;simp only;by_cases h4:(e6_ log i).kind=4
 ·rw [if_neg (by omega),if_neg (by omega),show o9_ log d i (e6_ log i)=d by unfold o9_;rw [if_pos h4]];exact c8c log d a b i hi hl h4
 by_cases h0:(e6_ log i).kind=0
 ·rw [if_pos h0,if_neg (by omega)];exact c8d log d a b i hi hl h0 h.sl h.sv
 rw [if_neg h0];have hs:=hh h0 h4;by_cases h1:(e6_ log i).kind=1
 ·rw [if_pos h1];exact c8h log d a b i hi hl h1 ht h hs
 rw [if_neg h1];by_cases h2:(e6_ log i).kind=2
 ·exact c8e log d a b i hi hl h2 h hs
 by_cases h3:(e6_ log i).kind=3
 ·exact c8f log d a b i hi hl h3 h hs
 exact c8g log d a b i hi hl (by omega) h hs
theorem c8i (r:Ru) (s:St) (mv:List Sg) (n:Bool) (log:List Ev) (d:Dy) (a:Bool×Bool) (x:Ev) (i:Nat) (hx:x=e6_ log i) (hi:i < log.length) (hl:log.length≤1000000) (hk:0≤(e6_ log i).kind∧(e6_ log i).kind≤5) (ht:0≤(e6_ log i).time∧(e6_ log i).time≤604800) (h:DyOK log i d) (hh:(e6_ log i).kind≠0→(e6_ log i).kind≠4→h2_ (e6_ log i).car d.st=true) :
  VH Tryd.prog 47 (v4_ r s mv n++[some (.box [.ref 4 0]),some (.box [.osl 5,.mp 6,.osl 7,.mp 8]),some (.arr 38 4 a.1 (d.st.map Sy.av)),some (.mpo (4,.i64) d.op),some (.arr 140 3 a.2 (d.wt.map Wt.av)),some (.mpo (4,.i64) d.sv)]) [.ref 0 0,I (i:Int),evA x,.ref 3 0,.vp [w2_ log]] [0,3]
   (v4_ r s mv n++[some (.box [.ref 4 0]),some (.box [.osl 5,.mp 6,.osl 7,.mp 8]),some (.arr 38 4 (a8r a x).1 ((o9_ log d i x).st.map Sy.av)),some (.mpo (4,.i64) (o9_ log d i x).op),some (.arr 140 3 (a8r a x).2 ((o9_ log d i x).wt.map Wt.av)),some (.mpo (4,.i64) (o9_ log d i x).sv)]) (.tup []):=by
 have wn:=d1f log d a i hi hl hk ht h hh;rw [←hx] at wn;unfold m4_ at wn;generalize o9_ log d i x=D2 at *;generalize a8r a x=A2 at *;clear hx hh h ht hk;obtain ⟨kd,tm,rk,car⟩:=x;simp only [evA];refine i8_ Tryd.func47 rfl (by kernel_rfl) rfl (fun _=>by kernel_rfl) fun M0 w0 vs=>?_;simp only [Tryd.ntmps47,Tryd.results47,b5_];unfold v4_;simp only [List.cons_append,List.nil_append];repeat' with_reducible apply a9_
 refine a2_ [] ?_;repeat' first|(with_reducible first|apply a3_|apply a1_)|((with_reducible refine a0_ fun X Y=>?_);go_simp;refine Y _ ?_;clear Y X)
 refine c6_ (b9_ [] 3 ⟨rfl,rfl⟩ ?_);simp only [List.take,List.drop];repeat' first|with_reducible apply a1_|((with_reducible refine a0_ fun X Y=>?_);go_simp;refine Y _ ?_;clear Y X)
 refine e5_ [4,5,6,7,8] [4] [] [some (.box [.osl 1,.mp 2,.osl 3,.mp 4]),some (.arr 38 4 A2.1 (D2.st.map Sy.av)),some (.mpo (4,.i64) D2.op),some (.arr 140 3 A2.2 (D2.wt.map Wt.av)),some (.mpo (4,.i64) D2.sv)] (.tup []) rfl (by go_simp) ?_ ?_
 ·unfold j7_;go_simp;refine ⟨_,_,_,wn,?_⟩;go_simp;kernel_rfl
 go_simp;apply e3_;skip
 go_simp
theorem c0k (r:Ru) : Known (st0 r) []:=fun c hc=>by
 have h:=b9t.1 hc;change 0 < cnt c (List.replicate _ []).flatten+cnt c [] at h;rw [a1w,j0_] at h;omega
noncomputable def runTD (l0:List Ev) (r:Ru) : Nat→List Ev→T3×(Dy×Bool×Bool)→T3×(Dy×Bool×Bool)
 | _,[],z=>z
 | k,x::l,z=>if apE r z.1.1 x≠0 then (stepT r z.1 x,z.2) else runTD l0 r (k+1) l (stepT r z.1 x,(o9_ l0 z.2.1 k x,a8r z.2.2 x))
def b0n (l:List Ev) : AV:=.fn (.func 47) [] [.ref 0 0,.vp [w2_ l]]
theorem b6w (r:Ru) (l:List Ev) (hn:r.ranks.length≤1000000) (hnm:∀ k,k < r.ranks.length→(rat r.ranks k).name.size≤1000) (h0:¬a3h r l=0) :
  VH Tryd.prog 24 [some (.box [.ref 1 0]),some (.box [.osl 2,.mp 3,.osl 4,.mp 5]),some (.arr 38 4 true []),some (.mpo (4,.i64) []),some (.arr 140 3 true []),some (.mpo (4,.i64) [])] [c4_ r,w2_ l,b0n l] [2] [some (.box [.ref 1 0]),some (.box [.osl 2,.mp 3,.osl 4,.mp 5]),some (.arr 38 4 true []),some (.mpo (4,.i64) []),some (.arr 140 3 true []),some (.mpo (4,.i64) [])] (.tup [.lit (.pointer none),I 0,I (a3h r l)]):=by
 have g1:=r8_ r hn hnm;have g2:=b3_ (decide (l.length≤200)) 8;have g3:VC Tryd.prog 30 [.sl 1 ([(d6_ r).2,unl (decide (l.length≤200)) 8].map y3_)] (I (a3h r l)):=d9_ _ rfl rfl;have ed:decide ((l.length:Int)≤200)=decide (l.length≤200):=by
  by_cases h:l.length≤200
  ·rw [decide_eq_true h,decide_eq_true (by omega)]
  ·rw [decide_eq_false h,decide_eq_false (by omega)]
 rw [←ed] at g2 g3;generalize a3h r l=E at *;generalize (d6_ r).2=A1 at *;generalize unl (decide ((l.length:Int)≤200)) 8=A2 at *;clear ed;unfold b0n;refine i8_ Tryd.func24 rfl (by kernel_rfl) rfl (fun _=>by kernel_rfl) fun M0 w0 vs=>?_;simp only [Tryd.ntmps24,Tryd.results24,b5_];repeat' first|(with_reducible first|apply a9_|apply a3_|apply b4_|apply c5_|apply a1_|refine a2_ [] ?_)|((with_reducible refine a7_ ?_ ?_);(focus (go_simp;done)))|((with_reducible refine a0_ fun X Y=>?_);go_simp;(first|(with_reducible refine ⟨_,g1,?_⟩)|(with_reducible refine ⟨_,g2,?_⟩)|(refine ⟨_,g3,?_⟩)|skip);refine Y _ ?_;clear Y X)
 go_simp
theorem b0o (r:Ru) (l:List Ev) (H:Hp) (V:AV) (hnm:∀ k,k < r.ranks.length→(rat r.ranks k).name.size≤1000) (hr:RuOK r) (hl:l.length≤200) (hc:∀ x∈l,x.car.size≤1000) (h0:a3h r l=0) (z:T3×(Dy×Bool×Bool)) (hz:runTD l r 0 l (t0 r,(⟨[],[],[],[]⟩,true,true))=z)
  (hfin:(goP r 0 l (st0 r)).2.2≠0∧H=[some (.box [.ref 1 0]),some (.box [.osl 2,.mp 3,.osl 4,.mp 5]),some (.arr 38 4 z.2.2.1 (z.2.1.st.map Sy.av)),some (.mpo (4,.i64) z.2.1.op),some (.arr 140 3 z.2.2.2 (z.2.1.wt.map Wt.av)),some (.mpo (4,.i64) z.2.1.sv)]∧V = .tup [.lit (.pointer none),I ((goP r 0 l (st0 r)).2.1:Int),I (goP r 0 l (st0 r)).2.2]∨(goP r 0 l (st0 r)).2.2=0∧H=[some (.box [.ref 1 0]),some (.box [.osl 2,.mp 3,.osl 4,.mp 5]),some (.arr 38 4 z.2.2.1 (z.2.1.st.map Sy.av)),some (.mpo (4,.i64) z.2.1.op),some (.arr 140 3 z.2.2.2 (z.2.1.wt.map Wt.av)),some (.mpo (4,.i64) z.2.1.sv),some (.bag 81 1 false none (d3_ z.1.1.q)),some (.box [.osl 6,.osl 8,I z.1.1.time,.sl 4 (r.ranks.map Rk.av),I r.back,I r.ret,.sl 3 (z.1.2.1.map Sg.av)]),some (.arr 85 3 z.1.2.2 (z.1.1.tk.map Tk.av))]∧V = .tup [.ref 7 0,I 0,I 0]) :
  VH Tryd.prog 24 [some (.box [.ref 1 0]),some (.box [.osl 2,.mp 3,.osl 4,.mp 5]),some (.arr 38 4 true []),some (.mpo (4,.i64) []),some (.arr 140 3 true []),some (.mpo (4,.i64) [])] [c4_ r,w2_ l,b0n l] [2] H V:=by
 have hn:r.ranks.length≤1000000:=by have:=hr.n6;omega
 have g1:=r8_ r hn hnm;have g2:=b3_ (decide (l.length≤200)) 8;have g3:VC Tryd.prog 30 [.sl 1 ([(d6_ r).2,unl (decide (l.length≤200)) 8].map y3_)] (I (a3h r l)):=d9_ _ rfl rfl;have ed:decide ((l.length:Int)≤200)=decide (l.length≤200):=by rw [decide_eq_true hl,decide_eq_true (by omega)]
 rw [←ed] at g2 g3;rw [h0] at g3;generalize (d6_ r).2=A1 at *;generalize unl (decide ((l.length:Int)≤200)) 8=A2 at *;have ge:=b2i r hn;have HF:=Lib.hid hfin;have HR:=Lib.hid hr;have HC:=Lib.hid hc;have HZ:=Lib.hid hz;clear ed h0 hfin hr hnm hc hn hz;unfold b0n;refine i8_ Tryd.func24 rfl (by kernel_rfl) rfl (fun _=>by kernel_rfl) fun M0 w0 vs=>?_;simp only [Tryd.ntmps24,Tryd.results24,b5_];repeat' with_reducible apply a9_
 refine a2_ [] ?_;repeat' first|(with_reducible first|apply a9_|apply a3_|apply a1_)|((with_reducible refine a0_ fun X Y=>?_);go_simp;refine Y _ ?_;clear Y X)
 refine a2_ [] ?_;repeat' first|(with_reducible first|apply a9_|apply a3_|apply a1_)|((with_reducible refine a0_ fun X Y=>?_);go_simp;(first|(with_reducible refine ⟨_,g1,?_⟩)|(with_reducible refine ⟨_,g2,?_⟩)|(refine ⟨_,g3,?_⟩)|skip);refine Y _ ?_;clear Y X)
 refine a2_ [] ?_;repeat' first|(with_reducible first|apply a9_|apply a3_|apply b0_|apply a1_)|((with_reducible refine a6_ ?_ ?_);(focus (go_simp;done)))|((with_reducible refine a0_ fun X Y=>?_);go_simp;refine Y _ ?_;clear Y X)
 refine c6_ (b9_ [] 1 ⟨rfl,rfl⟩ ?_);simp only [List.take,List.drop];repeat' first|with_reducible apply a1_|((with_reducible refine a0_ fun X Y=>?_);go_simp;refine Y _ ?_;clear Y X)
 refine e5_ [] [] [] (a8j r (st0 r) [] true true) (.ref 1 0) rfl (by go_simp) ?_ ?_
 ·unfold j7_;go_simp;refine ⟨_,_,⟨_,ge⟩,?_⟩;unfold a8j;go_simp;kernel_rfl
 unfold a8j;go_simp;refine b9_ [] 1 ⟨rfl,rfl⟩ ?_;simp only [List.take,List.drop];repeat' first|with_reducible apply a1_|((with_reducible refine a0_ fun X Y=>?_);go_simp;refine Y _ ?_;clear Y X)
 apply e3_;refine d7_ 7 6 9 rfl rfl rfl ?_;repeat' with_reducible apply a9_
 refine a2_ [] ?_;repeat' first|(with_reducible first|apply a3_|apply a8_|apply a1_)|((with_reducible refine a0_ fun X Y=>?_);go_simp;refine Y _ ?_;clear Y X)
 apply a0c (α:=Nat×T3×(Dy×Bool×Bool)) [2,10,27,28] (fun (x:Nat×T3×(Dy×Bool×Bool))=>[(29,I (x.1:Int))]) (fun (x:Nat×T3×(Dy×Bool×Bool))=>([some (.box [.ref 1 0]),some (.box [.osl 2,.mp 3,.osl 4,.mp 5]),some (.arr 38 4 x.2.2.2.1 (x.2.2.1.st.map Sy.av)),some (.mpo (4,.i64) x.2.2.1.op),some (.arr 140 3 x.2.2.2.2 (x.2.2.1.wt.map Wt.av)),some (.mpo (4,.i64) x.2.2.1.sv),some (.bag 81 1 false none (d3_ x.2.1.1.q)),some (.box [.osl 6,.osl 8,I x.2.1.1.time,.sl 4 (r.ranks.map Rk.av),I r.back,I r.ret,.sl 3 (x.2.1.2.1.map Sg.av)]),some (.arr 85 3 x.2.1.2.2 (x.2.1.1.tk.map Tk.av))] : Hp)) (fun (x:Nat×T3×(Dy×Bool×Bool))=>Hid (Inv r x.2.1.1∧goP r x.1 (l.drop x.1) x.2.1.1=goP r 0 l (st0 r)∧runTD l r x.1 (l.drop x.1) x.2=z)∧x.1≤l.length∧Hid (DyOK l x.1 x.2.2.1∧Known x.2.1.1 x.2.2.1.st)) (fun (x:Nat×T3×(Dy×Bool×Bool))=>l.length - x.1) ((0,(st0 r,([] : List Sg),true),(⟨[],[],[],[]⟩,true,true))) ⟨Lib.hid ⟨Inv.st0 HR.out,rfl,HZ.out⟩,Nat.zero_le _,Lib.hid (⟨DyOK.zero l,c0k r⟩)⟩
 ·(go_simp<;>exact rfl)
 ·go_simp
 rintro ⟨k,⟨s,m,a⟩,y⟩ ⟨HI,hk,HY⟩ K hK;simp only at HI hk hK HY ⊢;by_cases hkl:k < l.length
 ·obtain ⟨w1,w2,w3,w4,w5,w6⟩:=ixs (m:=k) (by omega);have el:l.drop k=e6_ l k::l.drop (k+1):=by rw [o7_ hkl,←List.drop_eq_getElem_cons hkl]
  have wa:=b4f r (s,m,a) (e6_ l k) HR.out HI.out.1 (HC.out _ (by rw [o7_ hkl];exact List.getElem_mem hkl));obtain ⟨T2,hT2⟩ : ∃ T2,stepT r (s,m,a) (e6_ l k)=T2:=⟨_,rfl⟩
  rw [hT2] at wa;obtain ⟨s2,m2,a2⟩:=T2;have hAU:apE r s (e6_ l k)=0→(apU r s (e6_ l k)).1=s2∧(apU r s (e6_ l k)).2=m2:=fun h=>by
   have e1:=congrArg (fun t:T3=>t.1) hT2;have e2:=congrArg (fun t:T3=>t.2.1) hT2;simp only [stepT,apR,if_pos h] at e1 e2;exact ⟨e1,e2⟩
  have hE:goP r k (l.drop k) s=if apE r s (e6_ l k)≠0 then (s,k,apE r s (e6_ l k)) else goP r (k+1) (l.drop (k+1)) s2:=by
   rw [el,goP];by_cases h:apE r s (e6_ l k)=0
   ·rw [if_neg (by simp [h]),if_neg (by simp [h]),(hAU h).1]
   ·rw [if_pos h,if_pos h]
  have hU:runTD l r k (l.drop k) ((s,m,a),y)=if apE r s (e6_ l k)≠0 then ((s2,m2,a2),y) else runTD l r (k+1) (l.drop (k+1)) ((s2,m2,a2),(o9_ l y.1 k (e6_ l k),a8r y.2 (e6_ l k))):=by rw [el,runTD,hT2]
  have hI2:apE r s (e6_ l k)=0→Inv r s2:=fun h=>by
   rw [←(hAU h).1];exact (HI.out.1.ap HR.out h).1
  have hY2:apE r s (e6_ l k)=0→DyOK l (k+1) (o9_ l y.1 k (e6_ l k))∧Known s2 (o9_ l y.1 k (e6_ l k)).st:=fun h=>by
   refine ⟨HY.out.1.step rfl (c3e (parts h).1),?_⟩;rw [b4o,←(hAU h).1];exact Known.step HR.out HI.out.1 HY.out.2 h k
  have HY2:=Lib.hid hY2;clear hY2;have h1:=HI.out.2.1;have h2:=HI.out.2.2;rw [hE] at h1;rw [hU] at h2;have wt:=fun hE0:apE r s (e6_ l k)=0=>c8i r s2 m2 a2 l y.1 y.2 (e6_ l k) k rfl hkl (by omega) (b5z (parts hE0).1) (c3e (parts hE0).1) HY.out.1 (fun h0 h4=>HY.out.2 _ (d0z HI.out.1.len hE0 h0 h4));clear hT2 HI hE hU el hAU;unfold b0f v4_ at wa;simp only at wa;unfold v4_ at wt;simp only [List.cons_append,List.nil_append] at wt;have H1:=Lib.hid h1;have H2:=Lib.hid h2;have HI2:=Lib.hid hI2;clear h1 h2 hI2;have WT:=Lib.hid wt;clear wt;generalize apE r s (e6_ l k)=E at *;repeat' with_reducible apply a9_
  refine a2_ [] ?_;repeat' first|(with_reducible first|apply a9_|apply a3_|apply b0_|apply a8_|apply a1_)|((with_reducible refine a7_ ?_ ?_);(focus (go_simp;done)))|((with_reducible refine a0_ fun X Y=>?_);go_simp;refine Y _ ?_;clear Y X)
  refine a2_ [] ?_;repeat' first|(with_reducible first|apply a9_|apply a3_|apply a1_)|((with_reducible refine a0_ fun X Y=>?_);go_simp;refine Y _ ?_;clear Y X)
  refine c6_ (b9_ [] 2 ⟨rfl,rfl⟩ ?_);simp only [List.take,List.drop];repeat' first|with_reducible apply a1_|((with_reducible refine a0_ fun X Y=>?_);go_simp;refine Y _ ?_;clear Y X)
  refine e5_ [7,6,8] [7] [] [some (.box [.osl 1,.osl 2,I s2.time,.sl 4 (r.ranks.map Rk.av),I r.back,I r.ret,.sl 3 (m2.map Sg.av)]),some (.bag 81 1 false none (d3_ s2.q)),some (.arr 85 3 a2 (s2.tk.map Tk.av))] (I E) rfl (by go_simp) ?_ ?_
  ·unfold j7_;go_simp;refine ⟨_,_,_,wa,?_⟩;go_simp;kernel_rfl
  go_simp;refine b9_ [] 1 ⟨rfl,rfl⟩ ?_;simp only [List.take,List.drop];repeat' first|with_reducible apply a1_|((with_reducible refine a0_ fun X Y=>?_);go_simp;refine Y _ ?_;clear Y X)
  apply e3_;repeat' with_reducible first|apply a9_|apply a3_
  by_cases he:E=0
  ·subst he;have h1:=H1.out;have h2:=H2.out;rw [if_neg (by simp)] at h1 h2;have hi2:=HI2.out rfl;have wt:=WT.out rfl;have hY2:=HY2.out rfl;generalize o9_ l y.1 k (e6_ l k)=O2 at *;generalize a8r y.2 (e6_ l k)=A2 at *;clear H1 HI2 WT H2 HY HY2;have H1:=Lib.hid h1;have H2:=Lib.hid h2;have HI2:=Lib.hid hi2;clear h1 h2 hi2;refine a2_ [] ?_;repeat' first|(with_reducible first|apply a3_|apply b0_|apply a1_)|((with_reducible refine a6_ ?_ ?_);(focus (go_simp;done)))|((with_reducible refine a0_ fun X Y=>?_);go_simp;refine Y _ ?_;clear Y X)
   refine c6_ (b9_ [] 4 ⟨rfl,rfl⟩ ?_);simp only [List.take,List.drop];repeat' first|with_reducible apply a1_|((with_reducible refine a0_ fun X Y=>?_);go_simp;refine Y _ ?_;clear Y X)
   refine e5_ [7,6,8,0,1,2,3,4,5] [7,0] [] [some (.box [.osl 1,.osl 2,I s2.time,.sl 4 (r.ranks.map Rk.av),I r.back,I r.ret,.sl 3 (m2.map Sg.av)]),some (.bag 81 1 false none (d3_ s2.q)),some (.arr 85 3 a2 (s2.tk.map Tk.av)),some (.box [.ref 4 0]),some (.box [.osl 5,.mp 6,.osl 7,.mp 8]),some (.arr 38 4 A2.1 (O2.st.map Sy.av)),some (.mpo (4,.i64) O2.op),some (.arr 140 3 A2.2 (O2.wt.map Wt.av)),some (.mpo (4,.i64) O2.sv)] (.tup []) rfl (by go_simp) ?_ ?_
   ·unfold j7_;go_simp;refine ⟨_,_,_,wt,?_⟩;go_simp;kernel_rfl
   go_simp;apply e3_;repeat' with_reducible first|apply a3_|apply b1_
   refine a2_ [] ?_;repeat' first|(with_reducible first|apply a3_|apply a1_)|((with_reducible refine a0_ fun X Y=>?_);go_simp;refine Y _ ?_;clear Y X)
   refine hK _ (k+1,(s2,m2,a2),(O2,A2)) ⟨Lib.hid ⟨HI2.out,H1.out,H2.out⟩,hkl,Lib.hid (hY2)⟩ (by simp only;omega) ?_;go_simp
  ·have h1:=H1.out;have h2:=H2.out;rw [if_pos he] at h1 h2;rcases HF.out with ⟨q1,rfl,q3⟩|⟨q1,_,_⟩
   ·rw [←h1] at q3;simp only at q3;subst q3;subst h2;clear HF H1 HI2 H2 h1 q1 hK HZ WT;refine a2_ [] ?_;repeat' first|(with_reducible first|apply a9_|apply a3_|apply a1_)|((with_reducible refine a7_ ?_ ?_);(focus (go_simp;done)))|((with_reducible refine a0_ fun X Y=>?_);go_simp;refine Y _ ?_;clear Y X)
    refine a2_ [] ?_;repeat' first|(with_reducible first|apply a3_|apply b4_|apply c5_|apply c2_|apply a1_)|((with_reducible refine a0_ fun X Y=>?_);go_simp;refine Y _ ?_;clear Y X)
    go_simp
   ·rw [←h1] at q1;exact absurd q1 he
 ·have hkE:k=l.length:=by omega
  have h1:=HI.out.2.1;have h2:=HI.out.2.2;rw [hkE,List.drop_length] at h1 h2;rw [goP] at h1;rw [runTD] at h2;rcases HF.out with ⟨q1,_,_⟩|⟨_,q2,q3⟩
  ·rw [←h1] at q1;exact absurd rfl q1
  ·subst q3;subst h2;subst q2;subst hkE;clear HF h1 HI hK HZ;repeat' with_reducible apply a9_
   refine a2_ [] ?_;repeat' first|(with_reducible first|apply a9_|apply a3_|apply b8_|apply d4_|apply b7_|apply a1_)|((with_reducible refine a6_ ?_ ?_);(focus (go_simp;done)))|((with_reducible refine a0_ fun X Y=>?_);go_simp;refine Y _ ?_;clear Y X)
   refine a2_ [] ?_;repeat' first|(with_reducible first|apply a3_|apply c5_|apply a1_)|((with_reducible refine a0_ fun X Y=>?_);go_simp;refine Y _ ?_;clear Y X)
   go_simp
def a1b (d:Dy) (a:Bool×Bool) : Hp:=[some (.mpo (4,.i64) d.op),some (.mpo (4,.i64) d.sv),some (.box [.osl 4,.mp 0,.osl 5,.mp 1]),some (.box [.ref 2 0]),some (.arr 38 4 a.1 (d.st.map Sy.av)),some (.arr 140 3 a.2 (d.wt.map Wt.av))]
theorem b4y (r:Ru) (l:List Ev) (d:Dy) (a:Bool×Bool) (n e:Int) (g:VH Tryd.prog 24 [some (.box [.ref 1 0]),some (.box [.osl 2,.mp 3,.osl 4,.mp 5]),some (.arr 38 4 true []),some (.mpo (4,.i64) []),some (.arr 140 3 true []),some (.mpo (4,.i64) [])] [c4_ r,w2_ l,b0n l] [2] [some (.box [.ref 1 0]),some (.box [.osl 2,.mp 3,.osl 4,.mp 5]),some (.arr 38 4 a.1 (d.st.map Sy.av)),some (.mpo (4,.i64) d.op),some (.arr 140 3 a.2 (d.wt.map Wt.av)),some (.mpo (4,.i64) d.sv)] (.tup [.lit (.pointer none),I n,I e])) :
  VH Tryd.prog 23 [] [c4_ r,w2_ l] [] (a1b d a) (.tup [.ref 2 0,I e]):=by
 unfold b0n at g;refine i8_ Tryd.func23 rfl (by kernel_rfl) rfl (fun _=>by kernel_rfl) fun M0 w0 vs=>?_;simp only [Tryd.ntmps23,Tryd.results23,b5_];repeat' with_reducible apply a9_
 refine a2_ [] ?_;repeat' first|(with_reducible first|apply a9_|apply a3_|apply a1_)|((with_reducible refine a0_ fun X Y=>?_);go_simp;refine Y _ ?_;clear Y X)
 refine a2_ [13] ?_;repeat' first|(with_reducible first|apply a9_|apply a3_|apply a1_)|((with_reducible refine a0_ fun X Y=>?_);go_simp;refine Y _ ?_;clear Y X)
 refine u0_ (fun p a w R=>⟨_,R.nilCell (bi:=2) (j:=0) (e:=38) (sz:=4) rfl rfl (by decide)⟩) ?_;go_simp;refine u0_ (fun p a w R=>⟨_,R.nilCell (bi:=2) (j:=2) (e:=140) (sz:=3) rfl rfl (by decide)⟩) ?_;go_simp;skip
 refine c6_ (b9_ [] 3 ⟨rfl,rfl⟩ ?_);simp only [List.take,List.drop];repeat' first|with_reducible apply a1_|((with_reducible refine a0_ fun X Y=>?_);go_simp;refine Y _ ?_;clear Y X)
 refine e5_ [3,2,4,0,5,1] [3] [] [some (.box [.ref 1 0]),some (.box [.osl 2,.mp 3,.osl 4,.mp 5]),some (.arr 38 4 a.1 (d.st.map Sy.av)),some (.mpo (4,.i64) d.op),some (.arr 140 3 a.2 (d.wt.map Wt.av)),some (.mpo (4,.i64) d.sv)] (.tup [.lit (.pointer none),I n,I e]) rfl (by go_simp) ?_ ?_
 ·unfold j7_;go_simp;refine ⟨_,_,_,g,?_⟩;go_simp;kernel_rfl
 go_simp;refine b9_ [] 7 ⟨rfl,rfl⟩ ?_;simp only [List.take,List.drop];repeat' first|with_reducible apply a1_|((with_reducible refine a0_ fun X Y=>?_);go_simp;refine Y _ ?_;clear Y X)
 apply e3_;repeat' with_reducible first|apply a9_|apply a3_
 refine a2_ [] ?_;repeat' first|(with_reducible first|apply a3_|apply c5_|apply a1_)|((with_reducible refine a0_ fun X Y=>?_);go_simp;refine Y _ ?_;clear Y X)
 unfold a1b;go_simp
theorem c8j (r:Ru) (l:List Ev) (d:Dy) (a:Bool×Bool) (s:St) (mv:List Sg) (b:Bool) (g:VH Tryd.prog 24 [some (.box [.ref 1 0]),some (.box [.osl 2,.mp 3,.osl 4,.mp 5]),some (.arr 38 4 true []),some (.mpo (4,.i64) []),some (.arr 140 3 true []),some (.mpo (4,.i64) [])] [c4_ r,w2_ l,b0n l] [2] [some (.box [.ref 1 0]),some (.box [.osl 2,.mp 3,.osl 4,.mp 5]),some (.arr 38 4 a.1 (d.st.map Sy.av)),some (.mpo (4,.i64) d.op),some (.arr 140 3 a.2 (d.wt.map Wt.av)),some (.mpo (4,.i64) d.sv),some (.bag 81 1 false none (d3_ s.q)),some (.box [.osl 6,.osl 8,I s.time,.sl 4 (r.ranks.map Rk.av),I r.back,I r.ret,.sl 3 (mv.map Sg.av)]),some (.arr 85 3 b (s.tk.map Tk.av))] (.tup [.ref 7 0,I 0,I 0])) :
  VH Tryd.prog 23 [] [c4_ r,w2_ l] [] (a1b d a++[some (.bag 81 1 false none (d3_ s.q)),some (.box [.osl 6,.osl 8,I s.time,.sl 4 (r.ranks.map Rk.av),I r.back,I r.ret,.sl 3 (mv.map Sg.av)]),some (.arr 85 3 b (s.tk.map Tk.av))]) (.tup [.ref 2 0,I 0]):=by
 unfold b0n at g;refine i8_ Tryd.func23 rfl (by kernel_rfl) rfl (fun _=>by kernel_rfl) fun M0 w0 vs=>?_;simp only [Tryd.ntmps23,Tryd.results23,b5_];repeat' with_reducible apply a9_
 refine a2_ [] ?_;repeat' first|(with_reducible first|apply a9_|apply a3_|apply a1_)|((with_reducible refine a0_ fun X Y=>?_);go_simp;refine Y _ ?_;clear Y X)
 refine a2_ [13] ?_;repeat' first|(with_reducible first|apply a9_|apply a3_|apply a1_)|((with_reducible refine a0_ fun X Y=>?_);go_simp;refine Y _ ?_;clear Y X)
 refine u0_ (fun p a w R=>⟨_,R.nilCell (bi:=2) (j:=0) (e:=38) (sz:=4) rfl rfl (by decide)⟩) ?_;go_simp;refine u0_ (fun p a w R=>⟨_,R.nilCell (bi:=2) (j:=2) (e:=140) (sz:=3) rfl rfl (by decide)⟩) ?_;go_simp;skip
 refine c6_ (b9_ [] 3 ⟨rfl,rfl⟩ ?_);simp only [List.take,List.drop];repeat' first|with_reducible apply a1_|((with_reducible refine a0_ fun X Y=>?_);go_simp;refine Y _ ?_;clear Y X)
 refine e5_ [3,2,4,0,5,1] [3] [] [some (.box [.ref 1 0]),some (.box [.osl 2,.mp 3,.osl 4,.mp 5]),some (.arr 38 4 a.1 (d.st.map Sy.av)),some (.mpo (4,.i64) d.op),some (.arr 140 3 a.2 (d.wt.map Wt.av)),some (.mpo (4,.i64) d.sv),some (.bag 81 1 false none (d3_ s.q)),some (.box [.osl 6,.osl 8,I s.time,.sl 4 (r.ranks.map Rk.av),I r.back,I r.ret,.sl 3 (mv.map Sg.av)]),some (.arr 85 3 b (s.tk.map Tk.av))] (.tup [.ref 7 0,I 0,I 0]) rfl (by go_simp) ?_ ?_
 ·unfold j7_;go_simp;refine ⟨_,_,_,g,?_⟩;go_simp;kernel_rfl
 go_simp;refine b9_ [] 7 ⟨rfl,rfl⟩ ?_;simp only [List.take,List.drop];repeat' first|with_reducible apply a1_|((with_reducible refine a0_ fun X Y=>?_);go_simp;refine Y _ ?_;clear Y X)
 apply e3_;repeat' with_reducible first|apply a9_|apply a3_
 refine a2_ [] ?_;repeat' first|(with_reducible first|apply a3_|apply c5_|apply a1_)|((with_reducible refine a0_ fun X Y=>?_);go_simp;refine Y _ ?_;clear Y X)
 unfold a1b;go_simp
theorem c4m (r:Ru) (l:List Ev) (d:Dy) (a:Bool×Bool) (e:Int) (he:e≠0) (g:VH Tryd.prog 23 [] [c4_ r,w2_ l] [] (a1b d a) (.tup [.ref 2 0,I e])) :
  VC Tryd.prog 6 [c4_ r,w2_ l] (.tup [f0_,I e]):=by
 unfold a1b at g;refine c0_ Tryd.func6 rfl (by kernel_rfl) (by kernel_rfl) rfl fun M0 w0=>?_;simp only [Tryd.ntmps6,Tryd.results6,b5_];repeat' with_reducible apply a9_
 refine a2_ [] ?_;repeat' first|(with_reducible first|apply a9_|apply a3_|apply a1_)|((with_reducible refine a0_ fun X Y=>?_);go_simp;refine Y _ ?_;clear Y X)
 refine c6_ (b9_ [] 2 ⟨rfl,rfl⟩ ?_);simp only [List.take,List.drop];repeat' first|with_reducible apply a1_|((with_reducible refine a0_ fun X Y=>?_);go_simp;refine Y _ ?_;clear Y X)
 refine e5_ [] [] [] [some (.mpo (4,.i64) d.op),some (.mpo (4,.i64) d.sv),some (.box [.osl 4,.mp 0,.osl 5,.mp 1]),some (.box [.ref 2 0]),some (.arr 38 4 a.1 (d.st.map Sy.av)),some (.arr 140 3 a.2 (d.wt.map Wt.av))] (.tup [.ref 2 0,I e]) rfl (by go_simp) ?_ ?_
 ·unfold j7_;go_simp;refine ⟨_,_,⟨_,g⟩,?_⟩;go_simp;kernel_rfl
 go_simp;refine b9_ [] 5 ⟨rfl,rfl⟩ ?_;simp only [List.take,List.drop];repeat' first|with_reducible apply a1_|((with_reducible refine a0_ fun X Y=>?_);go_simp;refine Y _ ?_;clear Y X)
 apply e3_;repeat' first|(with_reducible first|apply a9_|apply a3_|apply b4_|apply c5_|apply a1_|refine a2_ [] ?_)|((with_reducible refine a7_ ?_ ?_);(focus (go_simp;done)))|((with_reducible refine a0_ fun X Y=>?_);go_simp;refine Y _ ?_;clear Y X)
 go_simp
theorem c8k (r:Ru) (l:List Ev) (d:Dy) (a:Bool×Bool) (s:St) (mv:List Sg) (b:Bool) (g:VH Tryd.prog 23 [] [c4_ r,w2_ l] [] (a1b d a++[some (.bag 81 1 false none (d3_ s.q)),some (.box [.osl 6,.osl 8,I s.time,.sl 4 (r.ranks.map Rk.av),I r.back,I r.ret,.sl 3 (mv.map Sg.av)]),some (.arr 85 3 b (s.tk.map Tk.av))]) (.tup [.ref 2 0,I 0])) :
  VC Tryd.prog 6 [c4_ r,w2_ l] (.tup [.sl 4 (d.st.map Sy.av),I 0]):=by
 unfold a1b at g;simp only [List.cons_append,List.nil_append] at g;refine c0_ Tryd.func6 rfl (by kernel_rfl) (by kernel_rfl) rfl fun M0 w0=>?_;simp only [Tryd.ntmps6,Tryd.results6,b5_];repeat' with_reducible apply a9_
 refine a2_ [] ?_;repeat' first|(with_reducible first|apply a9_|apply a3_|apply a1_)|((with_reducible refine a0_ fun X Y=>?_);go_simp;refine Y _ ?_;clear Y X)
 refine c6_ (b9_ [] 2 ⟨rfl,rfl⟩ ?_);simp only [List.take,List.drop];repeat' first|with_reducible apply a1_|((with_reducible refine a0_ fun X Y=>?_);go_simp;refine Y _ ?_;clear Y X)
 refine e5_ [] [] [] [some (.mpo (4,.i64) d.op),some (.mpo (4,.i64) d.sv),some (.box [.osl 4,.mp 0,.osl 5,.mp 1]),some (.box [.ref 2 0]),some (.arr 38 4 a.1 (d.st.map Sy.av)),some (.arr 140 3 a.2 (d.wt.map Wt.av)),some (.bag 81 1 false none (d3_ s.q)),some (.box [.osl 6,.osl 8,I s.time,.sl 4 (r.ranks.map Rk.av),I r.back,I r.ret,.sl 3 (mv.map Sg.av)]),some (.arr 85 3 b (s.tk.map Tk.av))] (.tup [.ref 2 0,I 0]) rfl (by go_simp) ?_ ?_
 ·unfold j7_;go_simp;refine ⟨_,_,⟨_,g⟩,?_⟩;go_simp;kernel_rfl
 go_simp;refine b9_ [] 5 ⟨rfl,rfl⟩ ?_;simp only [List.take,List.drop];repeat' first|with_reducible apply a1_|((with_reducible refine a0_ fun X Y=>?_);go_simp;refine Y _ ?_;clear Y X)
 apply e3_;repeat' with_reducible first|apply a9_|apply a3_
 refine a2_ [] ?_;repeat' first|(with_reducible first|apply a9_|apply a3_|apply b0_|apply a1_)|((with_reducible refine a6_ ?_ ?_);(focus (go_simp;done)))|((with_reducible refine a0_ fun X Y=>?_);go_simp;refine Y _ ?_;clear Y X)
 refine d7_ 2 0 4 rfl rfl rfl ?_;refine a2_ [] ?_;repeat' first|(with_reducible first|apply a3_|apply c5_|apply a1_)|((with_reducible refine a0_ fun X Y=>?_);go_simp;refine Y _ ?_;clear Y X)
 go_simp
end Go.Proofs.YtoibondihdhnoaaDoor
