/- Texts in one: Walks: an event is noted in the diary. -/
import Derived.Test.YtoibondihdhnoaaGreatDoorFRM31
import Derived.Test.YtoibondihdhnoaaGreatDoorFRM41
namespace Go.Proofs.YtoibondihdhnoaaGreatDoor
open Go.RowKit
set_option maxRecDepth 100000
set_option maxHeartbeats 2000000
def k7_ (d:Dy) (a b:Bool) : Hp:=[some (.box [.osl 1,.mp 2,.osl 3,.mp 4]),some (.arr 167 4 a (d.st.map Sy.av)),some (.mpo (4,.i64) d.op),some (.arr 67 3 b (d.wt.map Wt.av)),some (.mpo (4,.i64) d.sv)]
theorem c6x (log:List Ev) (d:Dy) (a b:Bool) (i:Nat) (hi:i < log.length) (hl:log.length≤1000000) (h4:(e0_ log i).kind=4) :
  VH Tryz.prog 143 (k7_ d a b) [.ref 0 0,v5_ log,I (i:Int)] [0] (k7_ d a b) (.tup []):=by
 obtain ⟨w1,w2,w3,w4,w5,w6⟩:=ixs (m:=i) (by omega);refine g6_ Tryz.func143 rfl (by kernel_rfl) rfl (fun _=>by kernel_rfl) fun M0 w0 vs=>?_;simp only [Tryz.ntmps143,Tryz.results143,b4_];unfold k7_;repeat' first|(with_reducible first|apply a9_|apply a3_|apply b3_|apply c0_|apply a1_|refine a2_ [] ?_)|((with_reducible refine a7_ ?_ ?_);(focus (go_simp;done)))|((with_reducible refine a0_ fun X Y=>?_);go_simp;refine Y _ ?_;clear Y X)
 go_simp
theorem c6y (log:List Ev) (d:Dy) (a b:Bool) (i:Nat) (hi:i < log.length) (hl:log.length≤1000000) (h0:(e0_ log i).kind=0) (hs:d.st.length≤i) (hv:NumOK d.sv i) :
  VH Tryz.prog 143 (k7_ d a b) [.ref 0 0,v5_ log,I (i:Int)] [0] (k7_ (l9_ log d i (e0_ log i)) false b) (.tup []):=by
 obtain ⟨w1,w2,w3,w4,w5,w6⟩:=ixs (m:=i) (by omega);unfold l9_;rw [if_neg (by omega),if_pos h0];obtain ⟨n1,n2,n3⟩:=hv.at_ (e0_ log i).car;unfold c6k;generalize c1v d.sv (e0_ log i).car=V at *;have n4:IntKind.i64.wrap V=V:=g3_ (by omega) (by omega);have n5:d.st.length+1≤1000000000:=by omega
 refine g6_ Tryz.func143 rfl (by kernel_rfl) rfl (fun _=>by kernel_rfl) fun M0 w0 vs=>?_;simp only [Tryz.ntmps143,Tryz.results143,b4_];unfold k7_;repeat' first|(with_reducible first|apply a9_|apply a3_|apply b0_|apply a1_|refine a2_ [] ?_)|((with_reducible refine a7_ ?_ ?_);(focus (go_simp;done)))|((with_reducible refine a6_ ?_ ?_);(focus (go_simp;done)))|((with_reducible refine a0_ fun X Y=>?_);go_simp;refine Y _ ?_;clear Y X)
 refine a4y 11 [] (by kernel_rfl) (by kernel_rfl) ?_;simp only [List.take,List.drop];repeat' first|(with_reducible first|apply a9_|apply a3_|apply a1_|apply a5_)|((with_reducible first|refine a0_ fun X Y=>?_|refine a4_ fun X Y=>?_);go_simp;refine Y _ ?_;clear Y X)
 refine a2m 10 [39] 1 [0,29] (by kernel_rfl) (by kernel_rfl) (by kernel_rfl) (by kernel_rfl) rfl ⟨rfl,rfl⟩ rfl ?_;simp only [List.take,List.drop];repeat' first|with_reducible apply a5_|((with_reducible refine a4_ fun X Y=>?_);go_simp;refine Y _ ?_;clear Y X)
 refine ⟨_,by go_simp,by go_simp;exact rfl,?_,?_⟩
 ·intro t ht;simp only [List.mem_cons,List.not_mem_nil,or_false] at ht;rcases ht with rfl|rfl<;>rfl
 go_simp;repeat' first|(with_reducible first|apply a9_|apply a3_|apply a1_)|((with_reducible refine a0_ fun X Y=>?_);go_simp;refine Y _ ?_;clear Y X)
 refine a4y 8 [] (by kernel_rfl) (by kernel_rfl) ?_;simp only [List.take,List.drop];repeat' first|(with_reducible first|apply a3_|apply b3_|apply c0_|apply a1_|apply a5_)|((with_reducible first|refine a0_ fun X Y=>?_|refine a4_ fun X Y=>?_);go_simp;refine Y _ ?_;clear Y X)
 go_simp
theorem c6z (log:List Ev) (d:Dy) (a b:Bool) (i:Nat) (hi:i < log.length) (hl:log.length≤1000000) (hk:(e0_ log i).kind=2) (h:DyOK log i d) (hh:j2_ (e0_ log i).car d.st=true) :
  VH Tryz.prog 143 (k7_ d a b) [.ref 0 0,v5_ log,I (i:Int)] [0] (k7_ (l9_ log d i (e0_ log i)) a b) (.tup []):=by
 obtain ⟨w1,w2,w3,w4,w5,w6⟩:=ixs (m:=i) (by omega);have ho:=h.op _ hh;obtain ⟨j,hj,hjl,hjc,hju⟩:=n6_ d.st 0 hh;rw [Nat.zero_add] at hj;unfold l9_;rw [if_neg (by omega),if_neg (by omega),hju];rw [hj] at ho;have hcame:=h.st _ (List.getElem_mem hjl);obtain ⟨c1,c2,c3,c4,c5⟩:=hcame;obtain ⟨y,hy⟩ : ∃ y,d.st[j]=y:=⟨_,rfl⟩
 rw [hy] at hjc c1 c2 c3 c4 c5 ⊢;have e1:∀ hh:j < (d.st.map Sy.av).length,(d.st.map Sy.av)[j]'hh=Sy.av y:=fun hh=>by rw [List.getElem_map,hy]
 have e2:j < (d.st.map Sy.av).length:=by simpa using hjl
 have ej:((j:Int)).toNat=j:=by omega
 have HY:=Lib.hid hy;obtain ⟨yc,ya,yw,yd⟩:=y;simp only [Sy.av] at e1;simp only at hjc c1 c2 c3 c4 c5;have e3:(d.st.set j (q6_ (e0_ log i) i ⟨yc,ya,yw,yd⟩)).map Sy.av=(d.st.map Sy.av).set j [S yc,I ya,I yw,I (yd+1)]:=by
  rw [List.map_set];unfold q6_;rw [hk];rfl
 have e4:p6_ log d.st (e0_ log i)=[]:=by unfold p6_;rw [if_neg (by omega)]
 rw [if_neg (by omega),if_neg (by omega),e4,List.append_nil];have e5:IntKind.i64.wrap (yd+1)=yd+1:=g3_ (by omega) (by omega);unfold k7_;simp only;rw [e3];generalize d.st.map Sy.av=E at *;clear h hh hj hju e3 e4 HY c1 c2 c3 c4 c5 hjc;refine g6_ Tryz.func143 rfl (by kernel_rfl) rfl (fun _=>by kernel_rfl) fun M0 w0 vs=>?_;simp only [Tryz.ntmps143,Tryz.results143,b4_];repeat' first|(with_reducible first|apply a9_|apply a3_|apply b0_|apply a1_|refine a2_ [] ?_)|((with_reducible refine a6_ ?_ ?_);(focus (go_simp;done)))|((with_reducible refine a0_ fun X Y=>?_);go_simp;refine Y _ ?_;clear Y X)
 refine a4y 13 [] (by kernel_rfl) (by kernel_rfl) ?_;simp only [List.take,List.drop];repeat' first|(with_reducible first|apply a9_|apply a3_|apply a1_|apply a5_)|((with_reducible refine a4_ fun X Y=>?_);go_simp;refine Y _ ?_;clear Y X)
 repeat' first|(with_reducible first|apply a9_|apply a3_|apply a8_|apply b2_|apply a1_|refine a2_ [] ?_)|((with_reducible refine a7_ ?_ ?_);(focus (go_simp;done)))|((with_reducible refine a6_ ?_ ?_);(focus (go_simp;done)))|((with_reducible refine a0_ fun X Y=>?_);go_simp;refine Y _ ?_;clear Y X)
 go_simp
theorem c7a (log:List Ev) (d:Dy) (a b:Bool) (i:Nat) (hi:i < log.length) (hl:log.length≤1000000) (hk:(e0_ log i).kind=3) (h:DyOK log i d) (hh:j2_ (e0_ log i).car d.st=true) :
  VH Tryz.prog 143 (k7_ d a b) [.ref 0 0,v5_ log,I (i:Int)] [0] (k7_ (l9_ log d i (e0_ log i)) a b) (.tup []):=by
 obtain ⟨w1,w2,w3,w4,w5,w6⟩:=ixs (m:=i) (by omega);have ho:=h.op _ hh;obtain ⟨j,hj,hjl,hjc,hju⟩:=n6_ d.st 0 hh;rw [Nat.zero_add] at hj;unfold l9_;rw [if_neg (by omega),if_neg (by omega),hju];rw [hj] at ho;have hcame:=h.st _ (List.getElem_mem hjl);obtain ⟨c1,c2,c3,c4,c5⟩:=hcame;obtain ⟨y,hy⟩ : ∃ y,d.st[j]=y:=⟨_,rfl⟩
 rw [hy] at hjc c1 c2 c3 c4 c5 ⊢;have e1:∀ hh:j < (d.st.map Sy.av).length,(d.st.map Sy.av)[j]'hh=Sy.av y:=fun hh=>by rw [List.getElem_map,hy]
 have e2:j < (d.st.map Sy.av).length:=by simpa using hjl
 have ej:((j:Int)).toNat=j:=by omega
 have HY:=Lib.hid hy;obtain ⟨yc,ya,yw,yd⟩:=y;simp only [Sy.av] at e1;simp only at hjc c1 c2 c3 c4 c5;have e3:(d.st.set j (q6_ (e0_ log i) i ⟨yc,ya,yw,yd⟩)).map Sy.av=(d.st.map Sy.av).set j [S yc,I ya,I (i:Int),I yd]:=by
  rw [List.map_set];unfold q6_;rw [hk];rfl
 have e4:p6_ log d.st (e0_ log i)=[]:=by unfold p6_;rw [if_neg (by omega)]
 rw [if_neg (by omega),if_neg (by omega),e4,List.append_nil];unfold k7_;simp only;rw [e3];generalize d.st.map Sy.av=E at *;clear h hh hj hju e3 e4 HY c1 c2 c3 c4 c5 hjc;refine g6_ Tryz.func143 rfl (by kernel_rfl) rfl (fun _=>by kernel_rfl) fun M0 w0 vs=>?_;simp only [Tryz.ntmps143,Tryz.results143,b4_];repeat' first|(with_reducible first|apply a9_|apply a3_|apply b0_|apply a1_|refine a2_ [] ?_)|((with_reducible refine a6_ ?_ ?_);(focus (go_simp;done)))|((with_reducible refine a0_ fun X Y=>?_);go_simp;refine Y _ ?_;clear Y X)
 refine a4y 13 [] (by kernel_rfl) (by kernel_rfl) ?_;simp only [List.take,List.drop];repeat' first|(with_reducible first|apply a9_|apply a3_|apply a1_|apply a5_)|((with_reducible refine a4_ fun X Y=>?_);go_simp;refine Y _ ?_;clear Y X)
 repeat' first|(with_reducible first|apply a9_|apply a3_|apply a8_|apply b2_|apply a1_|refine a2_ [] ?_)|((with_reducible refine a7_ ?_ ?_);(focus (go_simp;done)))|((with_reducible refine a6_ ?_ ?_);(focus (go_simp;done)))|((with_reducible refine a0_ fun X Y=>?_);go_simp;refine Y _ ?_;clear Y X)
 go_simp
theorem c7b (log:List Ev) (d:Dy) (a b:Bool) (i:Nat) (hi:i < log.length) (hl:log.length≤1000000) (hk:(e0_ log i).kind=5) (h:DyOK log i d) (hh:j2_ (e0_ log i).car d.st=true) :
  VH Tryz.prog 143 (k7_ d a b) [.ref 0 0,v5_ log,I (i:Int)] [0] (k7_ (l9_ log d i (e0_ log i)) a b) (.tup []):=by
 obtain ⟨w1,w2,w3,w4,w5,w6⟩:=ixs (m:=i) (by omega);have ho:=h.op _ hh;obtain ⟨j,hj,hjl,hjc,hju⟩:=n6_ d.st 0 hh;rw [Nat.zero_add] at hj;unfold l9_;rw [if_neg (by omega),if_neg (by omega),hju];rw [hj] at ho;have hcame:=h.st _ (List.getElem_mem hjl);obtain ⟨c1,c2,c3,c4,c5⟩:=hcame;obtain ⟨y,hy⟩ : ∃ y,d.st[j]=y:=⟨_,rfl⟩
 rw [hy] at hjc c1 c2 c3 c4 c5 ⊢;have e1:∀ hh:j < (d.st.map Sy.av).length,(d.st.map Sy.av)[j]'hh=Sy.av y:=fun hh=>by rw [List.getElem_map,hy]
 have e2:j < (d.st.map Sy.av).length:=by simpa using hjl
 have ej:((j:Int)).toNat=j:=by omega
 have HY:=Lib.hid hy;obtain ⟨yc,ya,yw,yd⟩:=y;simp only [Sy.av] at e1;simp only at hjc c1 c2 c3 c4 c5;have e3:(d.st.set j (q6_ (e0_ log i) i ⟨yc,ya,yw,yd⟩)).map Sy.av=(d.st.map Sy.av).set j [S yc,I ya,I (-1),I yd]:=by
  rw [List.map_set];unfold q6_;rw [hk];rfl
 have e4:p6_ log d.st (e0_ log i)=[]:=by unfold p6_;rw [if_neg (by omega)]
 rw [if_neg (by omega),if_pos hk,e4,List.append_nil];obtain ⟨n1,n2,n3⟩:=h.sv.at_ (e0_ log i).car;unfold c6k;rw [show c1v d.sv (e0_ log i).car+(-1)=c1v d.sv (e0_ log i).car - 1 by omega];generalize c1v d.sv (e0_ log i).car=V at *;have n4:IntKind.i64.wrap (V - 1)=V - 1:=g3_ (by omega) (by omega);unfold k7_;simp only;rw [e3];generalize d.st.map Sy.av=E at *;clear h hh hj hju e3 e4 HY c1 c2 c3 c4 c5 hjc;refine g6_ Tryz.func143 rfl (by kernel_rfl) rfl (fun _=>by kernel_rfl) fun M0 w0 vs=>?_;simp only [Tryz.ntmps143,Tryz.results143,b4_];repeat' first|(with_reducible first|apply a9_|apply a3_|apply b0_|apply a1_|refine a2_ [] ?_)|((with_reducible refine a6_ ?_ ?_);(focus (go_simp;done)))|((with_reducible refine a0_ fun X Y=>?_);go_simp;refine Y _ ?_;clear Y X)
 refine a4y 13 [] (by kernel_rfl) (by kernel_rfl) ?_;simp only [List.take,List.drop];repeat' first|(with_reducible first|apply a9_|apply a3_|apply a1_|apply a5_)|((with_reducible refine a4_ fun X Y=>?_);go_simp;refine Y _ ?_;clear Y X)
 repeat' first|(with_reducible first|apply a9_|apply a3_|apply a8_|apply a1_|refine a2_ [] ?_)|((with_reducible refine a7_ ?_ ?_);(focus (go_simp;done)))|((with_reducible refine a6_ ?_ ?_);(focus (go_simp;done)))|((with_reducible refine a0_ fun X Y=>?_);go_simp;refine Y _ ?_;clear Y X)
 refine a4y 8 [] (by kernel_rfl) (by kernel_rfl) ?_;simp only [List.take,List.drop];repeat' first|(with_reducible first|apply b2_|apply a1_|apply a5_)|((with_reducible first|refine a0_ fun X Y=>?_|refine a4_ fun X Y=>?_);go_simp;refine Y _ ?_;clear Y X)
 go_simp
theorem c7c (log:List Ev) (d:Dy) (a b:Bool) (i:Nat) (hi:i < log.length) (hl:log.length≤1000000) (hk:(e0_ log i).kind=1) (ht:0≤(e0_ log i).time∧(e0_ log i).time≤604800) (h:DyOK log i d) (hh:j2_ (e0_ log i).car d.st=true) :
  VH Tryz.prog 143 (k7_ d a b) [.ref 0 0,v5_ log,I (i:Int)] [0] (k7_ (l9_ log d i (e0_ log i)) a false) (.tup []):=by
 obtain ⟨w1,w2,w3,w4,w5,w6⟩:=ixs (m:=i) (by omega);have ho:=h.op _ hh;obtain ⟨j,hj,hjl,hjc,hju⟩:=n6_ d.st 0 hh;rw [Nat.zero_add] at hj;unfold l9_;rw [if_neg (by omega),if_neg (by omega),hju];rw [hj] at ho;have hcame:=h.st _ (List.getElem_mem hjl);obtain ⟨c1,c2,c3,c4,c5⟩:=hcame;obtain ⟨y,hy⟩ : ∃ y,d.st[j]=y:=⟨_,rfl⟩
 rw [hy] at hjc c1 c2 c3 c4 c5 ⊢;have e1:∀ hh:j < (d.st.map Sy.av).length,(d.st.map Sy.av)[j]'hh=Sy.av y:=fun hh=>by rw [List.getElem_map,hy]
 have e2:j < (d.st.map Sy.av).length:=by simpa using hjl
 have ej:((j:Int)).toNat=j:=by omega
 have HY:=Lib.hid hy;obtain ⟨yc,ya,yw,yd⟩:=y;simp only [Sy.av] at e1;simp only at hjc c1 c2 c3 c4 c5;have e3:(d.st.set j (q6_ (e0_ log i) i ⟨yc,ya,yw,yd⟩)).map Sy.av=(d.st.map Sy.av).set j [S yc,I ya,I (i:Int),I yd]:=by
  rw [List.map_set];unfold q6_;rw [hk];rfl
 have e4:p6_ log d.st (e0_ log i)=[⟨(e0_ log i).car,(e0_ log i).rank,(e0_ log i).time - (e0_ log ya.toNat).time⟩]:=by
  unfold p6_ a1b;rw [if_pos hk,hj,Int.toNat_natCast,List.getD_eq_getElem?_getD,List.getElem?_eq_getElem hjl,HY.out];rfl
 rw [if_pos hk,e4];obtain ⟨n1,n2,n3⟩:=h.sv.at_ (e0_ log i).car;unfold c6k;generalize c1v d.sv (e0_ log i).car=V at *;have n4:IntKind.i64.wrap (V+1)=V+1:=g3_ (by omega) (by omega);obtain ⟨m,hm⟩ : ∃ m:Nat,ya=m:=⟨ya.toNat,by omega⟩
 subst hm;have m1:m < log.length:=by omega
 have m2:((m:Int)).toNat=m:=by omega
 rw [m2] at c3 ⊢;have n5:IntKind.i64.wrap ((e0_ log i).time - (e0_ log m).time)=(e0_ log i).time - (e0_ log m).time:=g3_ (by omega) (by omega);have n6:d.wt.length+1≤1000000000:=by have:=h.wl;omega
 unfold k7_;simp only;rw [e3,List.map_append];generalize d.st.map Sy.av=E at *;clear h hh hj hju e3 e4 HY c1 c2 c3 c4 c5 hjc;refine g6_ Tryz.func143 rfl (by kernel_rfl) rfl (fun _=>by kernel_rfl) fun M0 w0 vs=>?_;simp only [Tryz.ntmps143,Tryz.results143,b4_];repeat' first|(with_reducible first|apply a9_|apply a3_|apply b0_|apply a1_|refine a2_ [] ?_)|((with_reducible refine a6_ ?_ ?_);(focus (go_simp;done)))|((with_reducible refine a0_ fun X Y=>?_);go_simp;refine Y _ ?_;clear Y X)
 refine a4y 13 [] (by kernel_rfl) (by kernel_rfl) ?_;simp only [List.take,List.drop];repeat' first|(with_reducible first|apply a9_|apply a3_|apply a1_|apply a5_)|((with_reducible refine a4_ fun X Y=>?_);go_simp;refine Y _ ?_;clear Y X)
 repeat' first|(with_reducible first|apply a9_|apply a3_|apply a8_|apply a1_|refine a2_ [] ?_)|((with_reducible refine a7_ ?_ ?_);(focus (go_simp;done)))|((with_reducible refine a0_ fun X Y=>?_);go_simp;refine Y _ ?_;clear Y X)
 refine a4y 8 [] (by kernel_rfl) (by kernel_rfl) ?_;simp only [List.take,List.drop];repeat' first|(with_reducible first|apply a3_|apply a1_|apply a5_)|((with_reducible first|refine a0_ fun X Y=>?_|refine a4_ fun X Y=>?_);go_simp;refine Y _ ?_;clear Y X)
 refine a2m 22 [100] 3 [0,78] (by kernel_rfl) (by kernel_rfl) (by kernel_rfl) (by kernel_rfl) rfl ⟨rfl,rfl⟩ rfl ?_;simp only [List.take,List.drop];repeat' first|with_reducible apply a5_|((with_reducible refine a4_ fun X Y=>?_);go_simp;refine Y _ ?_;clear Y X)
 refine ⟨_,by go_simp,by go_simp;exact rfl,?_,?_⟩
 ·intro t ht;simp only [List.mem_cons,List.not_mem_nil,or_false] at ht;rcases ht with rfl|rfl<;>rfl
 go_simp;repeat' first|(with_reducible first|apply b2_|apply a1_)|((with_reducible refine a0_ fun X Y=>?_);go_simp;refine Y _ ?_;clear Y X)
 go_simp
def a7r (a:Bool×Bool) (x:Ev) : Bool×Bool:=(if x.kind=0 then false else a.1,if x.kind=1 then false else a.2)
theorem d0f (log:List Ev) (d:Dy) (a:Bool×Bool) (i:Nat) (hi:i < log.length) (hl:log.length≤1000000) (hk:0≤(e0_ log i).kind∧(e0_ log i).kind≤5) (ht:0≤(e0_ log i).time∧(e0_ log i).time≤604800) (h:DyOK log i d) (hh:(e0_ log i).kind≠0→(e0_ log i).kind≠4→j2_ (e0_ log i).car d.st=true) :
  VH Tryz.prog 143 (k7_ d a.1 a.2) [.ref 0 0,v5_ log,I (i:Int)] [0] (k7_ (l9_ log d i (e0_ log i)) (a7r a (e0_ log i)).1 (a7r a (e0_ log i)).2) (.tup []):=by
 obtain ⟨a,b⟩:=a;unfold a7r;simp only;by_cases h4:(e0_ log i).kind=4
 ·rw [if_neg (by omega),if_neg (by omega),show l9_ log d i (e0_ log i)=d by unfold l9_;rw [if_pos h4]];exact c6x log d a b i hi hl h4
 by_cases h0:(e0_ log i).kind=0
 ·rw [if_pos h0,if_neg (by omega)];exact c6y log d a b i hi hl h0 h.sl h.sv
 rw [if_neg h0];have hs:=hh h0 h4;by_cases h1:(e0_ log i).kind=1
 ·rw [if_pos h1];exact c7c log d a b i hi hl h1 ht h hs
 rw [if_neg h1];by_cases h2:(e0_ log i).kind=2
 ·exact c6z log d a b i hi hl h2 h hs
 by_cases h3:(e0_ log i).kind=3
 ·exact c7a log d a b i hi hl h3 h hs
 exact c7b log d a b i hi hl (by omega) h hs
theorem c7d (r:Ru) (s:St) (mv:List Sg) (n:Bool) (log:List Ev) (d:Dy) (a:Bool×Bool) (x:Ev) (i:Nat) (hx:x=e0_ log i) (hi:i < log.length) (hl:log.length≤1000000) (hk:0≤(e0_ log i).kind∧(e0_ log i).kind≤5) (ht:0≤(e0_ log i).time∧(e0_ log i).time≤604800) (h:DyOK log i d) (hh:(e0_ log i).kind≠0→(e0_ log i).kind≠4→j2_ (e0_ log i).car d.st=true) :
  VH Tryz.prog 142 (m9_ r s mv n++[some (.box [.ref 4 0]),some (.box [.osl 5,.mp 6,.osl 7,.mp 8]),some (.arr 167 4 a.1 (d.st.map Sy.av)),some (.mpo (4,.i64) d.op),some (.arr 67 3 a.2 (d.wt.map Wt.av)),some (.mpo (4,.i64) d.sv)]) [.ref 0 0,I (i:Int),evA x,.ref 3 0,.vp [v5_ log]] [0,3]
   (m9_ r s mv n++[some (.box [.ref 4 0]),some (.box [.osl 5,.mp 6,.osl 7,.mp 8]),some (.arr 167 4 (a7r a x).1 ((l9_ log d i x).st.map Sy.av)),some (.mpo (4,.i64) (l9_ log d i x).op),some (.arr 67 3 (a7r a x).2 ((l9_ log d i x).wt.map Wt.av)),some (.mpo (4,.i64) (l9_ log d i x).sv)]) (.tup []):=by
 have wn:=d0f log d a i hi hl hk ht h hh;rw [←hx] at wn;unfold k7_ at wn;generalize l9_ log d i x=D2 at *;generalize a7r a x=A2 at *;clear hx hh h ht hk;obtain ⟨kd,tm,rk,car⟩:=x;simp only [evA];refine g6_ Tryz.func142 rfl (by kernel_rfl) rfl (fun _=>by kernel_rfl) fun M0 w0 vs=>?_;simp only [Tryz.ntmps142,Tryz.results142,b4_];unfold m9_;simp only [List.cons_append,List.nil_append];repeat' with_reducible apply a9_
 refine a2_ [] ?_;repeat' first|(with_reducible first|apply a3_|apply a1_)|((with_reducible refine a0_ fun X Y=>?_);go_simp;refine Y _ ?_;clear Y X)
 refine c7_ (c2_ [] 3 ⟨rfl,rfl⟩ ?_);simp only [List.take,List.drop];repeat' first|with_reducible apply a1_|((with_reducible refine a0_ fun X Y=>?_);go_simp;refine Y _ ?_;clear Y X)
 refine d8_ [4,5,6,7,8] [4] [] [some (.box [.osl 1,.mp 2,.osl 3,.mp 4]),some (.arr 167 4 A2.1 (D2.st.map Sy.av)),some (.mpo (4,.i64) D2.op),some (.arr 67 3 A2.2 (D2.wt.map Wt.av)),some (.mpo (4,.i64) D2.sv)] (.tup []) rfl (by go_simp) ?_ ?_
 ·unfold i6_;go_simp;refine ⟨_,_,_,wn,?_⟩;go_simp;kernel_rfl
 go_simp;apply d7_;skip
 go_simp
theorem b9s (r:Ru) : Known (st0 r) []:=fun c hc=>by
 have h:=b8e.1 hc;change 0 < cnt c (List.replicate _ []).flatten+cnt c [] at h;rw [a0q,i2_] at h;omega
noncomputable def runTD (l0:List Ev) (r:Ru) : Nat→List Ev→T3×(Dy×Bool×Bool)→T3×(Dy×Bool×Bool)
 | _,[],z=>z
 | k,x::l,z=>if apE r z.1.1 x≠0 then (stepT r z.1 x,z.2) else runTD l0 r (k+1) l (stepT r z.1 x,(l9_ l0 z.2.1 k x,a7r z.2.2 x))
def a9s (l:List Ev) : AV:=.fn (.func 142) [] [.ref 0 0,.vp [v5_ l]]
theorem b5t (r:Ru) (l:List Ev) (hn:r.ranks.length≤1000000) (hnm:∀ k,k < r.ranks.length→(rat r.ranks k).name.size≤1000) (h0:¬a1a r l=0) :
  VH Tryz.prog 85 [some (.box [.ref 1 0]),some (.box [.osl 2,.mp 3,.osl 4,.mp 5]),some (.arr 167 4 true []),some (.mpo (4,.i64) []),some (.arr 67 3 true []),some (.mpo (4,.i64) [])] [c6_ r,v5_ l,a9s l] [2] [some (.box [.ref 1 0]),some (.box [.osl 2,.mp 3,.osl 4,.mp 5]),some (.arr 167 4 true []),some (.mpo (4,.i64) []),some (.arr 67 3 true []),some (.mpo (4,.i64) [])] (.tup [.lit (.pointer none),I 0,I (a1a r l)]):=by
 have g1:=l4_ r hn hnm;have g2:=b1_ (decide (l.length≤200)) 8;have g3:VC Tryz.prog 88 [.sl 1 ([(d4_ r).2,unl (decide (l.length≤200)) 8].map s3_)] (I (a1a r l)):=c8_ _ rfl rfl;have ed:decide ((l.length:Int)≤200)=decide (l.length≤200):=by
  by_cases h:l.length≤200
  ·rw [decide_eq_true h,decide_eq_true (by omega)]
  ·rw [decide_eq_false h,decide_eq_false (by omega)]
 rw [←ed] at g2 g3;generalize a1a r l=E at *;generalize (d4_ r).2=A1 at *;generalize unl (decide ((l.length:Int)≤200)) 8=A2 at *;clear ed;unfold a9s;refine g6_ Tryz.func85 rfl (by kernel_rfl) rfl (fun _=>by kernel_rfl) fun M0 w0 vs=>?_;simp only [Tryz.ntmps85,Tryz.results85,b4_];repeat' first|(with_reducible first|apply a9_|apply a3_|apply b3_|apply c0_|apply a1_|refine a2_ [] ?_)|((with_reducible refine a7_ ?_ ?_);(focus (go_simp;done)))|((with_reducible refine a0_ fun X Y=>?_);go_simp;(first|(with_reducible refine ⟨_,g1,?_⟩)|(with_reducible refine ⟨_,g2,?_⟩)|(refine ⟨_,g3,?_⟩)|skip);refine Y _ ?_;clear Y X)
 go_simp
theorem a9t (r:Ru) (l:List Ev) (H:Hp) (V:AV) (hnm:∀ k,k < r.ranks.length→(rat r.ranks k).name.size≤1000) (hr:RuOK r) (hl:l.length≤200) (hc:∀ x∈l,x.car.size≤1000) (h0:a1a r l=0) (z:T3×(Dy×Bool×Bool)) (hz:runTD l r 0 l (t0 r,(⟨[],[],[],[]⟩,true,true))=z)
  (hfin:(goP r 0 l (st0 r)).2.2≠0∧H=[some (.box [.ref 1 0]),some (.box [.osl 2,.mp 3,.osl 4,.mp 5]),some (.arr 167 4 z.2.2.1 (z.2.1.st.map Sy.av)),some (.mpo (4,.i64) z.2.1.op),some (.arr 67 3 z.2.2.2 (z.2.1.wt.map Wt.av)),some (.mpo (4,.i64) z.2.1.sv)]∧V = .tup [.lit (.pointer none),I ((goP r 0 l (st0 r)).2.1:Int),I (goP r 0 l (st0 r)).2.2]∨(goP r 0 l (st0 r)).2.2=0∧H=[some (.box [.ref 1 0]),some (.box [.osl 2,.mp 3,.osl 4,.mp 5]),some (.arr 167 4 z.2.2.1 (z.2.1.st.map Sy.av)),some (.mpo (4,.i64) z.2.1.op),some (.arr 67 3 z.2.2.2 (z.2.1.wt.map Wt.av)),some (.mpo (4,.i64) z.2.1.sv),some (.bag 62 1 false none (e9_ z.1.1.q)),some (.box [.osl 6,.osl 8,I z.1.1.time,.sl 4 (r.ranks.map Rk.av),I r.back,I r.ret,.sl 3 (z.1.2.1.map Sg.av)]),some (.arr 148 3 z.1.2.2 (z.1.1.tk.map Tk.av))]∧V = .tup [.ref 7 0,I 0,I 0]) :
  VH Tryz.prog 85 [some (.box [.ref 1 0]),some (.box [.osl 2,.mp 3,.osl 4,.mp 5]),some (.arr 167 4 true []),some (.mpo (4,.i64) []),some (.arr 67 3 true []),some (.mpo (4,.i64) [])] [c6_ r,v5_ l,a9s l] [2] H V:=by
 have hn:r.ranks.length≤1000000:=by have:=hr.n6;omega
 have g1:=l4_ r hn hnm;have g2:=b1_ (decide (l.length≤200)) 8;have g3:VC Tryz.prog 88 [.sl 1 ([(d4_ r).2,unl (decide (l.length≤200)) 8].map s3_)] (I (a1a r l)):=c8_ _ rfl rfl;have ed:decide ((l.length:Int)≤200)=decide (l.length≤200):=by rw [decide_eq_true hl,decide_eq_true (by omega)]
 rw [←ed] at g2 g3;rw [h0] at g3;generalize (d4_ r).2=A1 at *;generalize unl (decide ((l.length:Int)≤200)) 8=A2 at *;have ge:=a6s r hn;have HF:=Lib.hid hfin;have HR:=Lib.hid hr;have HC:=Lib.hid hc;have HZ:=Lib.hid hz;clear ed h0 hfin hr hnm hc hn hz;unfold a9s;refine g6_ Tryz.func85 rfl (by kernel_rfl) rfl (fun _=>by kernel_rfl) fun M0 w0 vs=>?_;simp only [Tryz.ntmps85,Tryz.results85,b4_];repeat' with_reducible apply a9_
 refine a2_ [] ?_;repeat' first|(with_reducible first|apply a9_|apply a3_|apply a1_)|((with_reducible refine a0_ fun X Y=>?_);go_simp;refine Y _ ?_;clear Y X)
 refine a2_ [] ?_;repeat' first|(with_reducible first|apply a9_|apply a3_|apply a1_)|((with_reducible refine a0_ fun X Y=>?_);go_simp;(first|(with_reducible refine ⟨_,g1,?_⟩)|(with_reducible refine ⟨_,g2,?_⟩)|(refine ⟨_,g3,?_⟩)|skip);refine Y _ ?_;clear Y X)
 refine a2_ [] ?_;repeat' first|(with_reducible first|apply a9_|apply a3_|apply b0_|apply a1_)|((with_reducible refine a6_ ?_ ?_);(focus (go_simp;done)))|((with_reducible refine a0_ fun X Y=>?_);go_simp;refine Y _ ?_;clear Y X)
 refine c7_ (c2_ [] 1 ⟨rfl,rfl⟩ ?_);simp only [List.take,List.drop];repeat' first|with_reducible apply a1_|((with_reducible refine a0_ fun X Y=>?_);go_simp;refine Y _ ?_;clear Y X)
 refine d8_ [] [] [] (a2o r (st0 r) [] true true) (.ref 1 0) rfl (by go_simp) ?_ ?_
 ·unfold i6_;go_simp;refine ⟨_,_,⟨_,ge⟩,?_⟩;unfold a2o;go_simp;kernel_rfl
 unfold a2o;go_simp;refine c2_ [] 1 ⟨rfl,rfl⟩ ?_;simp only [List.take,List.drop];repeat' first|with_reducible apply a1_|((with_reducible refine a0_ fun X Y=>?_);go_simp;refine Y _ ?_;clear Y X)
 apply d7_;refine g1_ 7 6 9 rfl rfl rfl ?_;repeat' with_reducible apply a9_
 refine a2_ [] ?_;repeat' first|(with_reducible first|apply a3_|apply a8_|apply a1_)|((with_reducible refine a0_ fun X Y=>?_);go_simp;refine Y _ ?_;clear Y X)
 apply b0m (α:=Nat×T3×(Dy×Bool×Bool)) [2,10,27,28] (fun (x:Nat×T3×(Dy×Bool×Bool))=>[(29,I (x.1:Int))]) (fun (x:Nat×T3×(Dy×Bool×Bool))=>([some (.box [.ref 1 0]),some (.box [.osl 2,.mp 3,.osl 4,.mp 5]),some (.arr 167 4 x.2.2.2.1 (x.2.2.1.st.map Sy.av)),some (.mpo (4,.i64) x.2.2.1.op),some (.arr 67 3 x.2.2.2.2 (x.2.2.1.wt.map Wt.av)),some (.mpo (4,.i64) x.2.2.1.sv),some (.bag 62 1 false none (e9_ x.2.1.1.q)),some (.box [.osl 6,.osl 8,I x.2.1.1.time,.sl 4 (r.ranks.map Rk.av),I r.back,I r.ret,.sl 3 (x.2.1.2.1.map Sg.av)]),some (.arr 148 3 x.2.1.2.2 (x.2.1.1.tk.map Tk.av))] : Hp)) (fun (x:Nat×T3×(Dy×Bool×Bool))=>Hid (Inv r x.2.1.1∧goP r x.1 (l.drop x.1) x.2.1.1=goP r 0 l (st0 r)∧runTD l r x.1 (l.drop x.1) x.2=z)∧x.1≤l.length∧Hid (DyOK l x.1 x.2.2.1∧Known x.2.1.1 x.2.2.1.st)) (fun (x:Nat×T3×(Dy×Bool×Bool))=>l.length - x.1) ((0,(st0 r,([] : List Sg),true),(⟨[],[],[],[]⟩,true,true))) ⟨Lib.hid ⟨Inv.st0 HR.out,rfl,HZ.out⟩,Nat.zero_le _,Lib.hid (⟨DyOK.zero l,b9s r⟩)⟩
 ·(go_simp<;>exact rfl)
 ·go_simp
 rintro ⟨k,⟨s,m,a⟩,y⟩ ⟨HI,hk,HY⟩ K hK;simp only at HI hk hK HY ⊢;by_cases hkl:k < l.length
 ·obtain ⟨w1,w2,w3,w4,w5,w6⟩:=ixs (m:=k) (by omega);have el:l.drop k=e0_ l k::l.drop (k+1):=by rw [r5_ hkl,←List.drop_eq_getElem_cons hkl]
  have wa:=a6u r (s,m,a) (e0_ l k) HR.out HI.out.1 (HC.out _ (by rw [r5_ hkl];exact List.getElem_mem hkl));obtain ⟨T2,hT2⟩ : ∃ T2,stepT r (s,m,a) (e0_ l k)=T2:=⟨_,rfl⟩
  rw [hT2] at wa;obtain ⟨s2,m2,a2⟩:=T2;have hAU:apE r s (e0_ l k)=0→(apU r s (e0_ l k)).1=s2∧(apU r s (e0_ l k)).2=m2:=fun h=>by
   have e1:=congrArg (fun t:T3=>t.1) hT2;have e2:=congrArg (fun t:T3=>t.2.1) hT2;simp only [stepT,apR,if_pos h] at e1 e2;exact ⟨e1,e2⟩
  have hE:goP r k (l.drop k) s=if apE r s (e0_ l k)≠0 then (s,k,apE r s (e0_ l k)) else goP r (k+1) (l.drop (k+1)) s2:=by
   rw [el,goP];by_cases h:apE r s (e0_ l k)=0
   ·rw [if_neg (by simp [h]),if_neg (by simp [h]),(hAU h).1]
   ·rw [if_pos h,if_pos h]
  have hU:runTD l r k (l.drop k) ((s,m,a),y)=if apE r s (e0_ l k)≠0 then ((s2,m2,a2),y) else runTD l r (k+1) (l.drop (k+1)) ((s2,m2,a2),(l9_ l y.1 k (e0_ l k),a7r y.2 (e0_ l k))):=by rw [el,runTD,hT2]
  have hI2:apE r s (e0_ l k)=0→Inv r s2:=fun h=>by
   rw [←(hAU h).1];exact (HI.out.1.ap HR.out h).1
  have hY2:apE r s (e0_ l k)=0→DyOK l (k+1) (l9_ l y.1 k (e0_ l k))∧Known s2 (l9_ l y.1 k (e0_ l k)).st:=fun h=>by
   refine ⟨HY.out.1.step rfl (c2p (parts h).1),?_⟩;rw [b3d,←(hAU h).1];exact Known.step HR.out HI.out.1 HY.out.2 h k
  have HY2:=Lib.hid hY2;clear hY2;have h1:=HI.out.2.1;have h2:=HI.out.2.2;rw [hE] at h1;rw [hU] at h2;have wt:=fun hE0:apE r s (e0_ l k)=0=>c7d r s2 m2 a2 l y.1 y.2 (e0_ l k) k rfl hkl (by omega) (c2o (parts hE0).1) (c2p (parts hE0).1) HY.out.1 (fun h0 h4=>HY.out.2 _ (c5e HI.out.1.len hE0 h0 h4));clear hT2 HI hE hU el hAU;unfold a6t m9_ at wa;simp only at wa;unfold m9_ at wt;simp only [List.cons_append,List.nil_append] at wt;have H1:=Lib.hid h1;have H2:=Lib.hid h2;have HI2:=Lib.hid hI2;clear h1 h2 hI2;have WT:=Lib.hid wt;clear wt;generalize apE r s (e0_ l k)=E at *;repeat' with_reducible apply a9_
  refine a2_ [] ?_;repeat' first|(with_reducible first|apply a9_|apply a3_|apply b0_|apply a8_|apply a1_)|((with_reducible refine a7_ ?_ ?_);(focus (go_simp;done)))|((with_reducible refine a0_ fun X Y=>?_);go_simp;refine Y _ ?_;clear Y X)
  refine a2_ [] ?_;repeat' first|(with_reducible first|apply a9_|apply a3_|apply a1_)|((with_reducible refine a0_ fun X Y=>?_);go_simp;refine Y _ ?_;clear Y X)
  refine c7_ (c2_ [] 2 ⟨rfl,rfl⟩ ?_);simp only [List.take,List.drop];repeat' first|with_reducible apply a1_|((with_reducible refine a0_ fun X Y=>?_);go_simp;refine Y _ ?_;clear Y X)
  refine d8_ [7,6,8] [7] [] [some (.box [.osl 1,.osl 2,I s2.time,.sl 4 (r.ranks.map Rk.av),I r.back,I r.ret,.sl 3 (m2.map Sg.av)]),some (.bag 62 1 false none (e9_ s2.q)),some (.arr 148 3 a2 (s2.tk.map Tk.av))] (I E) rfl (by go_simp) ?_ ?_
  ·unfold i6_;go_simp;refine ⟨_,_,_,wa,?_⟩;go_simp;kernel_rfl
  go_simp;refine c2_ [] 1 ⟨rfl,rfl⟩ ?_;simp only [List.take,List.drop];repeat' first|with_reducible apply a1_|((with_reducible refine a0_ fun X Y=>?_);go_simp;refine Y _ ?_;clear Y X)
  apply d7_;repeat' with_reducible first|apply a9_|apply a3_
  by_cases he:E=0
  ·subst he;have h1:=H1.out;have h2:=H2.out;rw [if_neg (by simp)] at h1 h2;have hi2:=HI2.out rfl;have wt:=WT.out rfl;have hY2:=HY2.out rfl;generalize l9_ l y.1 k (e0_ l k)=O2 at *;generalize a7r y.2 (e0_ l k)=A2 at *;clear H1 HI2 WT H2 HY HY2;have H1:=Lib.hid h1;have H2:=Lib.hid h2;have HI2:=Lib.hid hi2;clear h1 h2 hi2;refine a2_ [] ?_;repeat' first|(with_reducible first|apply a3_|apply b0_|apply a1_)|((with_reducible refine a6_ ?_ ?_);(focus (go_simp;done)))|((with_reducible refine a0_ fun X Y=>?_);go_simp;refine Y _ ?_;clear Y X)
   refine c7_ (c2_ [] 4 ⟨rfl,rfl⟩ ?_);simp only [List.take,List.drop];repeat' first|with_reducible apply a1_|((with_reducible refine a0_ fun X Y=>?_);go_simp;refine Y _ ?_;clear Y X)
   refine d8_ [7,6,8,0,1,2,3,4,5] [7,0] [] [some (.box [.osl 1,.osl 2,I s2.time,.sl 4 (r.ranks.map Rk.av),I r.back,I r.ret,.sl 3 (m2.map Sg.av)]),some (.bag 62 1 false none (e9_ s2.q)),some (.arr 148 3 a2 (s2.tk.map Tk.av)),some (.box [.ref 4 0]),some (.box [.osl 5,.mp 6,.osl 7,.mp 8]),some (.arr 167 4 A2.1 (O2.st.map Sy.av)),some (.mpo (4,.i64) O2.op),some (.arr 67 3 A2.2 (O2.wt.map Wt.av)),some (.mpo (4,.i64) O2.sv)] (.tup []) rfl (by go_simp) ?_ ?_
   ·unfold i6_;go_simp;refine ⟨_,_,_,wt,?_⟩;go_simp;kernel_rfl
   go_simp;apply d7_;repeat' with_reducible first|apply a3_|apply b2_
   refine a2_ [] ?_;repeat' first|(with_reducible first|apply a3_|apply a1_)|((with_reducible refine a0_ fun X Y=>?_);go_simp;refine Y _ ?_;clear Y X)
   refine hK _ (k+1,(s2,m2,a2),(O2,A2)) ⟨Lib.hid ⟨HI2.out,H1.out,H2.out⟩,hkl,Lib.hid (hY2)⟩ (by simp only;omega) ?_;go_simp
  ·have h1:=H1.out;have h2:=H2.out;rw [if_pos he] at h1 h2;rcases HF.out with ⟨q1,rfl,q3⟩|⟨q1,_,_⟩
   ·rw [←h1] at q3;simp only at q3;subst q3;subst h2;clear HF H1 HI2 H2 h1 q1 hK HZ WT;refine a2_ [] ?_;repeat' first|(with_reducible first|apply a9_|apply a3_|apply a1_)|((with_reducible refine a7_ ?_ ?_);(focus (go_simp;done)))|((with_reducible refine a0_ fun X Y=>?_);go_simp;refine Y _ ?_;clear Y X)
    refine a2_ [] ?_;repeat' first|(with_reducible first|apply a3_|apply b3_|apply c0_|apply b9_|apply a1_)|((with_reducible refine a0_ fun X Y=>?_);go_simp;refine Y _ ?_;clear Y X)
    go_simp
   ·rw [←h1] at q1;exact absurd q1 he
 ·have hkE:k=l.length:=by omega
  have h1:=HI.out.2.1;have h2:=HI.out.2.2;rw [hkE,List.drop_length] at h1 h2;rw [goP] at h1;rw [runTD] at h2;rcases HF.out with ⟨q1,_,_⟩|⟨_,q2,q3⟩
  ·rw [←h1] at q1;exact absurd rfl q1
  ·subst q3;subst h2;subst q2;subst hkE;clear HF h1 HI hK HZ;repeat' with_reducible apply a9_
   refine a2_ [] ?_;repeat' first|(with_reducible first|apply a9_|apply a3_|apply c4_|apply e1_|apply b7_|apply a1_)|((with_reducible refine a6_ ?_ ?_);(focus (go_simp;done)))|((with_reducible refine a0_ fun X Y=>?_);go_simp;refine Y _ ?_;clear Y X)
   refine a2_ [] ?_;repeat' first|(with_reducible first|apply a3_|apply c0_|apply a1_)|((with_reducible refine a0_ fun X Y=>?_);go_simp;refine Y _ ?_;clear Y X)
   go_simp
def z6_ (d:Dy) (a:Bool×Bool) : Hp:=[some (.mpo (4,.i64) d.op),some (.mpo (4,.i64) d.sv),some (.box [.osl 4,.mp 0,.osl 5,.mp 1]),some (.box [.ref 2 0]),some (.arr 167 4 a.1 (d.st.map Sy.av)),some (.arr 67 3 a.2 (d.wt.map Wt.av))]
theorem b3y (r:Ru) (l:List Ev) (d:Dy) (a:Bool×Bool) (n e:Int) (g:VH Tryz.prog 85 [some (.box [.ref 1 0]),some (.box [.osl 2,.mp 3,.osl 4,.mp 5]),some (.arr 167 4 true []),some (.mpo (4,.i64) []),some (.arr 67 3 true []),some (.mpo (4,.i64) [])] [c6_ r,v5_ l,a9s l] [2] [some (.box [.ref 1 0]),some (.box [.osl 2,.mp 3,.osl 4,.mp 5]),some (.arr 167 4 a.1 (d.st.map Sy.av)),some (.mpo (4,.i64) d.op),some (.arr 67 3 a.2 (d.wt.map Wt.av)),some (.mpo (4,.i64) d.sv)] (.tup [.lit (.pointer none),I n,I e])) :
  VH Tryz.prog 95 [] [c6_ r,v5_ l] [] (z6_ d a) (.tup [.ref 2 0,I e]):=by
 unfold a9s at g;refine g6_ Tryz.func95 rfl (by kernel_rfl) rfl (fun _=>by kernel_rfl) fun M0 w0 vs=>?_;simp only [Tryz.ntmps95,Tryz.results95,b4_];repeat' with_reducible apply a9_
 refine a2_ [] ?_;repeat' first|(with_reducible first|apply a9_|apply a3_|apply a1_)|((with_reducible refine a0_ fun X Y=>?_);go_simp;refine Y _ ?_;clear Y X)
 refine a2_ [13] ?_;repeat' first|(with_reducible first|apply a9_|apply a3_|apply a1_)|((with_reducible refine a0_ fun X Y=>?_);go_simp;refine Y _ ?_;clear Y X)
 refine z9_ (fun p a w R=>⟨_,R.nilCell (bi:=2) (j:=0) (e:=167) (sz:=4) rfl rfl (by decide)⟩) ?_;go_simp;refine z9_ (fun p a w R=>⟨_,R.nilCell (bi:=2) (j:=2) (e:=67) (sz:=3) rfl rfl (by decide)⟩) ?_;go_simp;skip
 refine c7_ (c2_ [] 3 ⟨rfl,rfl⟩ ?_);simp only [List.take,List.drop];repeat' first|with_reducible apply a1_|((with_reducible refine a0_ fun X Y=>?_);go_simp;refine Y _ ?_;clear Y X)
 refine d8_ [3,2,4,0,5,1] [3] [] [some (.box [.ref 1 0]),some (.box [.osl 2,.mp 3,.osl 4,.mp 5]),some (.arr 167 4 a.1 (d.st.map Sy.av)),some (.mpo (4,.i64) d.op),some (.arr 67 3 a.2 (d.wt.map Wt.av)),some (.mpo (4,.i64) d.sv)] (.tup [.lit (.pointer none),I n,I e]) rfl (by go_simp) ?_ ?_
 ·unfold i6_;go_simp;refine ⟨_,_,_,g,?_⟩;go_simp;kernel_rfl
 go_simp;refine c2_ [] 7 ⟨rfl,rfl⟩ ?_;simp only [List.take,List.drop];repeat' first|with_reducible apply a1_|((with_reducible refine a0_ fun X Y=>?_);go_simp;refine Y _ ?_;clear Y X)
 apply d7_;repeat' with_reducible first|apply a9_|apply a3_
 refine a2_ [] ?_;repeat' first|(with_reducible first|apply a3_|apply c0_|apply a1_)|((with_reducible refine a0_ fun X Y=>?_);go_simp;refine Y _ ?_;clear Y X)
 unfold z6_;go_simp
theorem c7e (r:Ru) (l:List Ev) (d:Dy) (a:Bool×Bool) (s:St) (mv:List Sg) (b:Bool) (g:VH Tryz.prog 85 [some (.box [.ref 1 0]),some (.box [.osl 2,.mp 3,.osl 4,.mp 5]),some (.arr 167 4 true []),some (.mpo (4,.i64) []),some (.arr 67 3 true []),some (.mpo (4,.i64) [])] [c6_ r,v5_ l,a9s l] [2] [some (.box [.ref 1 0]),some (.box [.osl 2,.mp 3,.osl 4,.mp 5]),some (.arr 167 4 a.1 (d.st.map Sy.av)),some (.mpo (4,.i64) d.op),some (.arr 67 3 a.2 (d.wt.map Wt.av)),some (.mpo (4,.i64) d.sv),some (.bag 62 1 false none (e9_ s.q)),some (.box [.osl 6,.osl 8,I s.time,.sl 4 (r.ranks.map Rk.av),I r.back,I r.ret,.sl 3 (mv.map Sg.av)]),some (.arr 148 3 b (s.tk.map Tk.av))] (.tup [.ref 7 0,I 0,I 0])) :
  VH Tryz.prog 95 [] [c6_ r,v5_ l] [] (z6_ d a++[some (.bag 62 1 false none (e9_ s.q)),some (.box [.osl 6,.osl 8,I s.time,.sl 4 (r.ranks.map Rk.av),I r.back,I r.ret,.sl 3 (mv.map Sg.av)]),some (.arr 148 3 b (s.tk.map Tk.av))]) (.tup [.ref 2 0,I 0]):=by
 unfold a9s at g;refine g6_ Tryz.func95 rfl (by kernel_rfl) rfl (fun _=>by kernel_rfl) fun M0 w0 vs=>?_;simp only [Tryz.ntmps95,Tryz.results95,b4_];repeat' with_reducible apply a9_
 refine a2_ [] ?_;repeat' first|(with_reducible first|apply a9_|apply a3_|apply a1_)|((with_reducible refine a0_ fun X Y=>?_);go_simp;refine Y _ ?_;clear Y X)
 refine a2_ [13] ?_;repeat' first|(with_reducible first|apply a9_|apply a3_|apply a1_)|((with_reducible refine a0_ fun X Y=>?_);go_simp;refine Y _ ?_;clear Y X)
 refine z9_ (fun p a w R=>⟨_,R.nilCell (bi:=2) (j:=0) (e:=167) (sz:=4) rfl rfl (by decide)⟩) ?_;go_simp;refine z9_ (fun p a w R=>⟨_,R.nilCell (bi:=2) (j:=2) (e:=67) (sz:=3) rfl rfl (by decide)⟩) ?_;go_simp;skip
 refine c7_ (c2_ [] 3 ⟨rfl,rfl⟩ ?_);simp only [List.take,List.drop];repeat' first|with_reducible apply a1_|((with_reducible refine a0_ fun X Y=>?_);go_simp;refine Y _ ?_;clear Y X)
 refine d8_ [3,2,4,0,5,1] [3] [] [some (.box [.ref 1 0]),some (.box [.osl 2,.mp 3,.osl 4,.mp 5]),some (.arr 167 4 a.1 (d.st.map Sy.av)),some (.mpo (4,.i64) d.op),some (.arr 67 3 a.2 (d.wt.map Wt.av)),some (.mpo (4,.i64) d.sv),some (.bag 62 1 false none (e9_ s.q)),some (.box [.osl 6,.osl 8,I s.time,.sl 4 (r.ranks.map Rk.av),I r.back,I r.ret,.sl 3 (mv.map Sg.av)]),some (.arr 148 3 b (s.tk.map Tk.av))] (.tup [.ref 7 0,I 0,I 0]) rfl (by go_simp) ?_ ?_
 ·unfold i6_;go_simp;refine ⟨_,_,_,g,?_⟩;go_simp;kernel_rfl
 go_simp;refine c2_ [] 7 ⟨rfl,rfl⟩ ?_;simp only [List.take,List.drop];repeat' first|with_reducible apply a1_|((with_reducible refine a0_ fun X Y=>?_);go_simp;refine Y _ ?_;clear Y X)
 apply d7_;repeat' with_reducible first|apply a9_|apply a3_
 refine a2_ [] ?_;repeat' first|(with_reducible first|apply a3_|apply c0_|apply a1_)|((with_reducible refine a0_ fun X Y=>?_);go_simp;refine Y _ ?_;clear Y X)
 unfold z6_;go_simp
theorem c3w (r:Ru) (l:List Ev) (d:Dy) (a:Bool×Bool) (e:Int) (he:e≠0) (g:VH Tryz.prog 95 [] [c6_ r,v5_ l] [] (z6_ d a) (.tup [.ref 2 0,I e])) :
  VC Tryz.prog 35 [c6_ r,v5_ l] (.tup [o6_,I e]):=by
 unfold z6_ at g;refine b8_ Tryz.func35 rfl (by kernel_rfl) (by kernel_rfl) rfl fun M0 w0=>?_;simp only [Tryz.ntmps35,Tryz.results35,b4_];repeat' with_reducible apply a9_
 refine a2_ [] ?_;repeat' first|(with_reducible first|apply a9_|apply a3_|apply a1_)|((with_reducible refine a0_ fun X Y=>?_);go_simp;refine Y _ ?_;clear Y X)
 refine c7_ (c2_ [] 2 ⟨rfl,rfl⟩ ?_);simp only [List.take,List.drop];repeat' first|with_reducible apply a1_|((with_reducible refine a0_ fun X Y=>?_);go_simp;refine Y _ ?_;clear Y X)
 refine d8_ [] [] [] [some (.mpo (4,.i64) d.op),some (.mpo (4,.i64) d.sv),some (.box [.osl 4,.mp 0,.osl 5,.mp 1]),some (.box [.ref 2 0]),some (.arr 167 4 a.1 (d.st.map Sy.av)),some (.arr 67 3 a.2 (d.wt.map Wt.av))] (.tup [.ref 2 0,I e]) rfl (by go_simp) ?_ ?_
 ·unfold i6_;go_simp;refine ⟨_,_,⟨_,g⟩,?_⟩;go_simp;kernel_rfl
 go_simp;refine c2_ [] 5 ⟨rfl,rfl⟩ ?_;simp only [List.take,List.drop];repeat' first|with_reducible apply a1_|((with_reducible refine a0_ fun X Y=>?_);go_simp;refine Y _ ?_;clear Y X)
 apply d7_;repeat' first|(with_reducible first|apply a9_|apply a3_|apply b3_|apply c0_|apply a1_|refine a2_ [] ?_)|((with_reducible refine a7_ ?_ ?_);(focus (go_simp;done)))|((with_reducible refine a0_ fun X Y=>?_);go_simp;refine Y _ ?_;clear Y X)
 go_simp
theorem c7f (r:Ru) (l:List Ev) (d:Dy) (a:Bool×Bool) (s:St) (mv:List Sg) (b:Bool) (g:VH Tryz.prog 95 [] [c6_ r,v5_ l] [] (z6_ d a++[some (.bag 62 1 false none (e9_ s.q)),some (.box [.osl 6,.osl 8,I s.time,.sl 4 (r.ranks.map Rk.av),I r.back,I r.ret,.sl 3 (mv.map Sg.av)]),some (.arr 148 3 b (s.tk.map Tk.av))]) (.tup [.ref 2 0,I 0])) :
  VC Tryz.prog 35 [c6_ r,v5_ l] (.tup [.sl 3 (d.wt.map Wt.av),I 0]):=by
 unfold z6_ at g;simp only [List.cons_append,List.nil_append] at g;refine b8_ Tryz.func35 rfl (by kernel_rfl) (by kernel_rfl) rfl fun M0 w0=>?_;simp only [Tryz.ntmps35,Tryz.results35,b4_];repeat' with_reducible apply a9_
 refine a2_ [] ?_;repeat' first|(with_reducible first|apply a9_|apply a3_|apply a1_)|((with_reducible refine a0_ fun X Y=>?_);go_simp;refine Y _ ?_;clear Y X)
 refine c7_ (c2_ [] 2 ⟨rfl,rfl⟩ ?_);simp only [List.take,List.drop];repeat' first|with_reducible apply a1_|((with_reducible refine a0_ fun X Y=>?_);go_simp;refine Y _ ?_;clear Y X)
 refine d8_ [] [] [] [some (.mpo (4,.i64) d.op),some (.mpo (4,.i64) d.sv),some (.box [.osl 4,.mp 0,.osl 5,.mp 1]),some (.box [.ref 2 0]),some (.arr 167 4 a.1 (d.st.map Sy.av)),some (.arr 67 3 a.2 (d.wt.map Wt.av)),some (.bag 62 1 false none (e9_ s.q)),some (.box [.osl 6,.osl 8,I s.time,.sl 4 (r.ranks.map Rk.av),I r.back,I r.ret,.sl 3 (mv.map Sg.av)]),some (.arr 148 3 b (s.tk.map Tk.av))] (.tup [.ref 2 0,I 0]) rfl (by go_simp) ?_ ?_
 ·unfold i6_;go_simp;refine ⟨_,_,⟨_,g⟩,?_⟩;go_simp;kernel_rfl
 go_simp;refine c2_ [] 5 ⟨rfl,rfl⟩ ?_;simp only [List.take,List.drop];repeat' first|with_reducible apply a1_|((with_reducible refine a0_ fun X Y=>?_);go_simp;refine Y _ ?_;clear Y X)
 apply d7_;repeat' with_reducible first|apply a9_|apply a3_
 refine a2_ [] ?_;repeat' first|(with_reducible first|apply a9_|apply a3_|apply b0_|apply a1_)|((with_reducible refine a6_ ?_ ?_);(focus (go_simp;done)))|((with_reducible refine a0_ fun X Y=>?_);go_simp;refine Y _ ?_;clear Y X)
 refine g1_ 2 2 5 rfl rfl rfl ?_;refine a2_ [] ?_;repeat' first|(with_reducible first|apply a3_|apply c0_|apply a1_)|((with_reducible refine a0_ fun X Y=>?_);go_simp;refine Y _ ?_;clear Y X)
 go_simp
end Go.Proofs.YtoibondihdhnoaaGreatDoor
