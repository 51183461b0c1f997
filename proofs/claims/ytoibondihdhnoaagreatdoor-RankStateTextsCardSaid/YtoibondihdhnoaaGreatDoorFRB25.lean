/- Texts in one: Walks on a town that changes: a car returns. -/
import Derived.Test.YtoibondihdhnoaaGreatDoorFRB21
import Derived.Test.YtoibondihdhnoaaGreatDoorFRB20
import Derived.Test.YtoibondihdhnoaaGreatDoorFRB23
import Derived.Test.YtoibondihdhnoaaGreatDoorFRB14
namespace Go.Proofs.YtoibondihdhnoaaGreatDoor
open Go.RowKit
set_option maxRecDepth 100000
set_option maxHeartbeats 2000000
theorem c8l (r:Ru) (s:St) (mv:List Sg) (n1 n2:Bool) (x:Ev) (k:Nat) (hx:x.rank=k) (hk:k < s.q.length) (hr:r.ranks.length=s.q.length) (hf:a3k r s.q.length) (h0:¬a7v r s k=0) :
  VH Tryz.prog 228 (e1_ r s mv n1 n2) [.ref 0 0,evA x] [0] (e1_ r s mv n1 n2) (I (a7v r s k)):=by
 have hk2:k < r.ranks.length:=by omega
 have hfk:=hf k hk
 obtain ⟨kd,tm,rk,car⟩:=x
 simp only at hx
 subst hx
 unfold a7v at h0 ⊢
 by_cases h1:(rat r.ranks k).feeder = -1
 ·rw [if_pos h1]
  clear hfk hf h0
  simp only [evA]
  refine h2_ Tryz.func228 rfl (by kernel_rfl) rfl (fun _=>by kernel_rfl) fun M0 w0 vs=>?_
  simp only [Tryz.ntmps228,Tryz.results228,b4_]
  unfold e1_
  repeat' (first|(with_reducible first|apply a9_|apply a3_|apply a1_|refine a2_ [] ?_)|((with_reducible refine a0_ fun X Y=>?_);go_simp;refine Y _ ?_;clear Y X))
  refine c3s 10 [] [⟨9,5,[.string ⟨#[]⟩,.int .i64 0,.int .i64 0,.bool false],none,[]⟩] (by kernel_rfl) (by kernel_rfl) (by kernel_rfl) (by go_simp) (by go_simp) ?_
  simp only [List.take,List.drop]
  repeat (first|(refine a2k rfl ?_)|((with_reducible refine a2l rfl fun X Y=>?_);go_simp;refine Y _ (by go_simp) ?_;clear Y X)|(with_reducible apply a6a))
  refine ⟨by go_simp,?_⟩
  simp only [a2y,a5z,Slot.end_,List.cons_append,List.nil_append]
  repeat' (first|(with_reducible first|apply a9_|apply a3_|apply b1_|apply c4_|apply a1_|refine a2_ [] ?_)|((with_reducible refine a7_ ?_ ?_);(focus (go_simp;done)))|((with_reducible refine a0_ fun X Y=>?_);go_simp;refine Y _ ?_;clear Y X))
  go_simp
 ·rw [if_neg h1] at h0 ⊢
  obtain ⟨f0,fl⟩:=hfk h1
  unfold feedN at h0 ⊢
  obtain ⟨f,hfe⟩ : ∃ f:Nat,(rat r.ranks k).feeder=f:=⟨(rat r.ranks k).feeder.toNat,by omega⟩
  have g3:=a0m r s mv k hk hr
  rw [hfe] at fl h1 h0 ⊢
  simp only [Int.toNat_natCast] at fl h0 ⊢
  clear hfk hf f0
  have g1:=b5_ (rat r.ranks k).called 22
  have g2:=b5_ (decide (0 < (qat s.q f).length)) 12
  have g4:=b5_ (e5_ r s k) 16
  have g5:VC Tryz.prog 88 [.sl 1 ([unl (rat r.ranks k).called 22,unl (decide (0 < (qat s.q f).length)) 12,unl (e5_ r s k) 16].map a0e)] (I (fst [unl (rat r.ranks k).called 22,unl (decide (0 < (qat s.q f).length)) 12,unl (e5_ r s k) 16])):=d2_ _ rfl rfl
  generalize fst [unl (rat r.ranks k).called 22,unl (decide (0 < (qat s.q f).length)) 12,unl (e5_ r s k) 16]=E at *
  generalize unl (rat r.ranks k).called 22=A1 at *
  generalize unl (decide (0 < (qat s.q f).length)) 12=A2 at *
  generalize unl (e5_ r s k) 16=A3 at *
  generalize e5_ r s k=F at *
  simp only [evA]
  refine h2_ Tryz.func228 rfl (by kernel_rfl) rfl (fun _=>by kernel_rfl) fun M0 w0 vs=>?_
  simp only [Tryz.ntmps228,Tryz.results228,b4_]
  unfold e1_
  repeat' (first|(with_reducible first|apply a9_|apply a3_|apply a1_|refine a2_ [] ?_)|((with_reducible refine a0_ fun X Y=>?_);go_simp;refine Y _ ?_;clear Y X))
  refine c3s 10 [] [⟨9,5,[.string ⟨#[]⟩,.int .i64 0,.int .i64 0,.bool false],none,[]⟩] (by kernel_rfl) (by kernel_rfl) (by kernel_rfl) (by go_simp) (by go_simp) ?_
  simp only [List.take,List.drop]
  repeat (first|(refine a2k rfl ?_)|((with_reducible refine a2l rfl fun X Y=>?_);go_simp;refine Y _ (by go_simp) ?_;clear Y X)|(with_reducible apply a6a))
  refine ⟨by go_simp,?_⟩
  simp only [a2y,a5z,Slot.end_,List.cons_append,List.nil_append]
  repeat' (first|(with_reducible first|apply a9_|apply a3_|apply c4_|apply b0_|apply a1_|refine a2_ [] ?_|apply a6_)|((with_reducible refine a5_ ?_ ?_);(focus (go_simp;done)))|((with_reducible first|refine a0_ fun X Y=>?_|refine a4_ fun X Y=>?_);go_simp;(first|(with_reducible refine ⟨_,g1,?_⟩)|(with_reducible refine ⟨_,g2,?_⟩)|(refine ⟨_,⟨g3,rfl⟩,?_⟩)|(with_reducible refine ⟨_,g4,?_⟩)|(refine ⟨_,g5,?_⟩)|skip);refine Y _ ?_;clear Y X)|((refine b9_ 23 23 [] rfl (by kernel_rfl) (by kernel_rfl) ?_);simp only [List.take,List.drop]))
  go_simp
theorem d1o (r:Ru) (s:St) (mv:List Sg) (n1 n2:Bool) (x:Ev) (k f:Nat) (hx:x.rank=k) (hk:k < s.q.length) (hr:r.ranks.length=s.q.length) (hf:(rat r.ranks k).feeder=f) (hfl:f < s.q.length) (hne:f≠k) (hq:(qat s.q k).length+1≤1000000000) (hm:mv.length+2≤1000000000) (h0:a7v r s k=0) :
  VH Tryz.prog 228 (e1_ r s mv n1 n2) [.ref 0 0,evA x] [0] (e1_ r ⟨upQ s.q k f,s.tk,s.time⟩ (mv++upM s.q k f) n1 false) (I 0):=by
 have hk2:k < r.ranks.length:=by omega
 obtain ⟨kd,tm,rk,car⟩:=x
 simp only at hx
 subst hx
 have h1:¬(f:Int) = -1:=by omega
 unfold a7v feedN at h0
 rw [hf,if_neg h1,Int.toNat_natCast] at h0
 have hp:0 < (qat s.q f).length:=by
  rw [b6_,b6_] at h0
  exact of_decide_eq_true (d1_ (by decide) h0.2.1)
 have gu:=d5j r s mv n1 n2 k f hk hr hf hfl hne hp hq hm
 have g3:=a0m r s mv k hk hr
 have g1:=b5_ (rat r.ranks k).called 22
 have g2:=b5_ (decide (0 < (qat s.q f).length)) 12
 have g4:=b5_ (e5_ r s k) 16
 have g5:VC Tryz.prog 88 [.sl 1 ([unl (rat r.ranks k).called 22,unl (decide (0 < (qat s.q f).length)) 12,unl (e5_ r s k) 16].map a0e)] (I (fst [unl (rat r.ranks k).called 22,unl (decide (0 < (qat s.q f).length)) 12,unl (e5_ r s k) 16])):=d2_ _ rfl rfl
 rw [h0] at g5
 have hd:decide (0 < (qat s.q f).length)=true:=decide_eq_true hp
 clear h0
 generalize unl (rat r.ranks k).called 22=A1 at *
 rw [hd] at g2 g5
 generalize unl true 12=A2 at *
 generalize unl (e5_ r s k) 16=A3 at *
 generalize e5_ r s k=F at *
 generalize upQ s.q k f=Q2 at *
 generalize mv++upM s.q k f=M2 at *
 clear hd hq hm
 simp only [evA]
 refine h2_ Tryz.func228 rfl (by kernel_rfl) rfl (fun _=>by kernel_rfl) fun M0 w0 vs=>?_
 simp only [Tryz.ntmps228,Tryz.results228,b4_]
 unfold e1_ at gu ⊢
 repeat' (first|(with_reducible first|apply a9_|apply a3_|apply a1_|refine a2_ [] ?_)|((with_reducible refine a0_ fun X Y=>?_);go_simp;refine Y _ ?_;clear Y X))
 refine c3s 10 [] [⟨9,5,[.string ⟨#[]⟩,.int .i64 0,.int .i64 0,.bool false],none,[]⟩] (by kernel_rfl) (by kernel_rfl) (by kernel_rfl) (by go_simp) (by go_simp) ?_
 simp only [List.take,List.drop]
 repeat (first|(refine a2k rfl ?_)|((with_reducible refine a2l rfl fun X Y=>?_);go_simp;refine Y _ (by go_simp) ?_;clear Y X)|(with_reducible apply a6a))
 refine ⟨by go_simp,?_⟩
 simp only [a2y,a5z,Slot.end_,List.cons_append,List.nil_append]
 repeat' (first|(with_reducible first|apply a9_|apply a3_|apply a1_)|((with_reducible refine a0_ fun X Y=>?_);go_simp;refine Y _ ?_;clear Y X))
 refine a2_ [] ?_
 repeat' (first|(with_reducible first|apply a9_|apply a3_|apply b0_|apply a1_)|((with_reducible refine a5_ ?_ ?_);(focus (go_simp;done)))|((with_reducible refine a0_ fun X Y=>?_);go_simp;refine Y _ ?_;clear Y X))
 refine b9_ 23 23 [] rfl (by kernel_rfl) (by kernel_rfl) ?_
 simp only [List.take,List.drop]
 repeat' (first|(with_reducible first|apply a9_|apply a3_|apply a1_|apply a6_)|((with_reducible refine a4_ fun X Y=>?_);go_simp;(first|(with_reducible refine ⟨_,g1,?_⟩)|(with_reducible refine ⟨_,g2,?_⟩)|(refine ⟨_,⟨g3,rfl⟩,?_⟩)|(with_reducible refine ⟨_,g4,?_⟩)|(refine ⟨_,g5,?_⟩)|skip);refine Y _ ?_;clear Y X))
 refine a2_ [] ?_
 repeat' (first|(with_reducible first|apply a3_|apply a1_)|((with_reducible refine a7_ ?_ ?_);(focus (go_simp;done)))|((with_reducible refine a0_ fun X Y=>?_);go_simp;refine Y _ ?_;clear Y X))
 refine d8_ (c9_ [] 3 ⟨rfl,rfl⟩ ?_)
 simp only [List.take,List.drop]
 repeat' (first|(with_reducible apply a1_)|((with_reducible refine a0_ fun X Y=>?_);go_simp;refine Y _ ?_;clear Y X))
 refine g0_ [0,1,2,3] [0] [] [some (.box [.osl 1,.osl 2,I s.time,.sl 4 (r.ranks.map Rk.av),I r.back,I r.ret,.osl 3]),some (.bag 62 1 false none (f6_ Q2)),some (.arr 148 3 n1 (s.tk.map Tk.av)),some (.arr 45 3 false (M2.map Sg.av))] (.tup []) rfl (by go_simp) ?_ ?_
 ·unfold m5_
  go_simp
  refine ⟨_,_,_,gu,?_⟩
  go_simp
  kernel_rfl
 go_simp
 apply e9_
 repeat' (with_reducible first|apply a9_|apply a3_)
 refine a2_ [] ?_
 repeat' (first|(with_reducible first|apply a3_|apply c4_|apply a1_)|((with_reducible refine a0_ fun X Y=>?_);go_simp;refine Y _ ?_;clear Y X))
 go_simp
end Go.Proofs.YtoibondihdhnoaaGreatDoor
namespace Go.Proofs.YtoibondihdhnoaaGreatDoor
open Go.RowKit
set_option maxRecDepth 100000
set_option maxHeartbeats 2000000
theorem c4q (r:Ru) (s:St) (mv:List Sg) (n1 n2:Bool) (x:Ev) (k:Nat) (hx:x.rank=k) (hl:s.tk.length≤1000000) (h0:a1e s.tk x.car < 0) :
  VH Tryz.prog 229 (e1_ r s mv n1 n2) [.ref 0 0,evA x] [0] (e1_ r s mv n1 n2) (I 6):=by
 have g1:=z1_ r s mv x.car hl
 generalize a1e s.tk x.car=A at *
 obtain ⟨kd,tm,rk,car⟩:=x
 simp only at hx
 subst hx
 simp only [evA]
 refine h2_ Tryz.func229 rfl (by kernel_rfl) rfl (fun _=>by kernel_rfl) fun M0 w0 vs=>?_
 simp only [Tryz.ntmps229,Tryz.results229,b4_]
 unfold e1_
 repeat' (first|(with_reducible first|apply a9_|apply a3_|apply b1_|apply c4_|apply a1_|refine a2_ [] ?_|apply a6_)|((with_reducible refine a7_ ?_ ?_);(focus (go_simp;done)))|((with_reducible first|refine a0_ fun X Y=>?_|refine a4_ fun X Y=>?_);go_simp;(first|(refine ⟨_,⟨g1,rfl⟩,?_⟩)|skip);refine Y _ ?_;clear Y X)|((refine b9_ 16 16 [] rfl (by kernel_rfl) (by kernel_rfl) ?_);simp only [List.take,List.drop]))
 go_simp
theorem c4r (r:Ru) (s:St) (mv:List Sg) (n1 n2:Bool) (x:Ev) (k i:Nat) (hx:x.rank=k) (hl:s.tk.length≤1000000) (hi:a1e s.tk x.car=i) (hil:i < s.tk.length) (h0:(e4_ s.tk i).rank≠k) :
  VH Tryz.prog 229 (e1_ r s mv n1 n2) [.ref 0 0,evA x] [0] (e1_ r s mv n1 n2) (I 6):=by
 have g1:=z1_ r s mv x.car hl
 rw [hi] at g1
 clear hi
 obtain ⟨kd,tm,rk,car⟩:=x
 simp only at hx
 subst hx
 simp only [evA]
 refine h2_ Tryz.func229 rfl (by kernel_rfl) rfl (fun _=>by kernel_rfl) fun M0 w0 vs=>?_
 simp only [Tryz.ntmps229,Tryz.results229,b4_]
 unfold e1_
 repeat' (first|(with_reducible first|apply a9_|apply a3_|apply b1_|apply c4_|apply a1_|refine a2_ [] ?_|apply a6_)|((with_reducible refine a7_ ?_ ?_);(focus (go_simp;done)))|((with_reducible first|refine a0_ fun X Y=>?_|refine a4_ fun X Y=>?_);go_simp;(first|(refine ⟨_,⟨g1,rfl⟩,?_⟩)|skip);refine Y _ ?_;clear Y X)|((refine b9_ 16 16 [] rfl (by kernel_rfl) (by kernel_rfl) ?_);simp only [List.take,List.drop]))
 go_simp
theorem c4s (r:Ru) (s:St) (mv:List Sg) (n1 n2:Bool) (x:Ev) (k i:Nat) (hx:x.rank=k) (hk:k < s.q.length) (hr:r.ranks.length=s.q.length) (hl:s.tk.length≤1000000) (hi:a1e s.tk x.car=i) (hil:i < s.tk.length) (h0:(e4_ s.tk i).rank=k)
  (ht:0≤x.time∧x.time≤604800) (ht2:0≤(e4_ s.tk i).time∧(e4_ s.tk i).time≤604800) (h1:¬fst [unl (decide (x.time - (e4_ s.tk i).time≤r.ret)) 25,unl (e5_ r s k) 16]=0) :
  VH Tryz.prog 229 (e1_ r s mv n1 n2) [.ref 0 0,evA x] [0] (e1_ r s mv n1 n2) (I (fst [unl (decide (x.time - (e4_ s.tk i).time≤r.ret)) 25,unl (e5_ r s k) 16])):=by
 have g1:=z1_ r s mv x.car hl
 rw [hi] at g1
 clear hi
 have g2:=a0m r s mv k hk hr
 have g3:=b5_ (decide (x.time - (e4_ s.tk i).time≤r.ret)) 25
 have g4:=b5_ (e5_ r s k) 16
 have g5:VC Tryz.prog 88 [.sl 1 ([unl (decide (x.time - (e4_ s.tk i).time≤r.ret)) 25,unl (e5_ r s k) 16].map a0e)] (I (fst [unl (decide (x.time - (e4_ s.tk i).time≤r.ret)) 25,unl (e5_ r s k) 16])):=d2_ _ rfl rfl
 have hw:IntKind.i64.wrap (x.time - (e4_ s.tk i).time)=x.time - (e4_ s.tk i).time:=c5_ (by omega) (by omega)
 generalize fst [unl (decide (x.time - (e4_ s.tk i).time≤r.ret)) 25,unl (e5_ r s k) 16]=E at *
 generalize unl (decide (x.time - (e4_ s.tk i).time≤r.ret)) 25=A1 at *
 generalize unl (e5_ r s k) 16=A2 at *
 generalize e5_ r s k=F at *
 clear ht ht2
 obtain ⟨kd,tm,rk,car⟩:=x
 simp only at hx hw g3
 subst hx
 simp only [evA]
 refine h2_ Tryz.func229 rfl (by kernel_rfl) rfl (fun _=>by kernel_rfl) fun M0 w0 vs=>?_
 simp only [Tryz.ntmps229,Tryz.results229,b4_]
 unfold e1_
 repeat' (first|(with_reducible first|apply a9_|apply a3_|apply b1_|apply c4_|apply b0_|apply a1_|refine a2_ [] ?_|apply a6_)|((with_reducible refine a7_ ?_ ?_);(focus (go_simp;done)))|((with_reducible refine a5_ ?_ ?_);(focus (go_simp;done)))|((with_reducible first|refine a0_ fun X Y=>?_|refine a4_ fun X Y=>?_);go_simp;(first|(refine ⟨_,⟨g1,rfl⟩,?_⟩)|(refine ⟨_,⟨g2,rfl⟩,?_⟩)|(with_reducible refine ⟨_,g3,?_⟩)|(with_reducible refine ⟨_,g4,?_⟩)|(refine ⟨_,g5,?_⟩)|skip);refine Y _ ?_;clear Y X)|((refine b9_ 16 16 [] rfl (by kernel_rfl) (by kernel_rfl) ?_);simp only [List.take,List.drop])|((refine b9_ 27 27 [] rfl (by kernel_rfl) (by kernel_rfl) ?_);simp only [List.take,List.drop]))
 go_simp
end Go.Proofs.YtoibondihdhnoaaGreatDoor
namespace Go.Proofs.YtoibondihdhnoaaGreatDoor
open Go.RowKit
set_option maxRecDepth 100000
set_option maxHeartbeats 2000000
theorem a1k {α β:Type} (f:α→β) : ∀ (l:List α) (i:Nat),(l.map f).eraseIdx i=(l.eraseIdx i).map f
 | [],_=>rfl
 | _::_,0=>rfl
 | x::l,i+1=>by
  rw [List.map_cons,List.eraseIdx_cons_succ,List.eraseIdx_cons_succ,List.map_cons,a1k f l i]
theorem d1p (r:Ru) (s:St) (mv:List Sg) (n1 n2:Bool) (x:Ev) (k i:Nat) (hx:x.rank=k) (hk:k < s.q.length) (hr:r.ranks.length=s.q.length) (hl:s.tk.length≤1000000) (hi:a1e s.tk x.car=i) (hil:i < s.tk.length) (h0:(e4_ s.tk i).rank=k)
  (ht:0≤x.time∧x.time≤604800) (ht2:0≤(e4_ s.tk i).time∧(e4_ s.tk i).time≤604800) (hq:(qat s.q k).length+1≤10000) (h1:fst [unl (decide (x.time - (e4_ s.tk i).time≤r.ret)) 25,unl (e5_ r s k) 16]=0) :
  VH Tryz.prog 229 (e1_ r s mv n1 n2) [.ref 0 0,evA x] [0] (e1_ r ⟨s.q.set k ([x.car]++qat s.q k),s.tk.eraseIdx i,s.time⟩ mv false n2) (I 0):=by
 have g1:=z1_ r s mv x.car hl
 rw [hi] at g1
 clear hi
 have g2:=a0m r s mv k hk hr
 have g3:=b5_ (decide (x.time - (e4_ s.tk i).time≤r.ret)) 25
 have g4:=b5_ (e5_ r s k) 16
 have g5:VC Tryz.prog 88 [.sl 1 ([unl (decide (x.time - (e4_ s.tk i).time≤r.ret)) 25,unl (e5_ r s k) 16].map a0e)] (I (fst [unl (decide (x.time - (e4_ s.tk i).time≤r.ret)) 25,unl (e5_ r s k) 16])):=d2_ _ rfl rfl
 have hw:IntKind.i64.wrap (x.time - (e4_ s.tk i).time)=x.time - (e4_ s.tk i).time:=c5_ (by omega) (by omega)
 have gd:=a7z (s.tk.map Tk.av) n1 i (by simpa using hil)
 rw [a1k] at gd
 rw [h1] at g5
 clear h1
 generalize unl (decide (x.time - (e4_ s.tk i).time≤r.ret)) 25=A1 at *
 generalize unl (e5_ r s k) 16=A2 at *
 generalize e5_ r s k=F at *
 generalize s.tk.eraseIdx i=TK at *
 clear ht ht2
 obtain ⟨kd,tm,rk,car⟩:=x
 simp only at hx hw g3
 subst hx
 simp only [evA]
 obtain ⟨w1,w2,w3,w4,w5,w6⟩:=ixs (m:=i) (by omega)
 refine h2_ Tryz.func229 rfl (by kernel_rfl) rfl (fun _=>by kernel_rfl) fun M0 w0 vs=>?_
 simp only [Tryz.ntmps229,Tryz.results229,b4_]
 unfold e1_
 repeat' (first|(with_reducible first|apply a9_|apply a3_|apply a1_|refine a2_ [] ?_)|((with_reducible refine a0_ fun X Y=>?_);go_simp;(first|(refine ⟨_,⟨g1,rfl⟩,?_⟩)|skip);refine Y _ ?_;clear Y X))
 refine b9_ 16 16 [] rfl (by kernel_rfl) (by kernel_rfl) ?_
 simp only [List.take,List.drop]
 repeat' (first|(with_reducible first|apply a9_|apply a3_|apply b0_|apply a1_|apply a6_)|((with_reducible refine a5_ ?_ ?_);(focus (go_simp;done)))|((with_reducible refine a4_ fun X Y=>?_);go_simp;refine Y _ ?_;clear Y X))
 refine b9_ 27 27 [] rfl (by kernel_rfl) (by kernel_rfl) ?_
 simp only [List.take,List.drop]
 repeat' (first|(with_reducible first|apply a9_|apply a3_|apply a1_|apply a6_)|((with_reducible refine a4_ fun X Y=>?_);go_simp;(first|(refine ⟨_,⟨g2,rfl⟩,?_⟩)|(with_reducible refine ⟨_,g3,?_⟩)|(with_reducible refine ⟨_,g4,?_⟩)|(refine ⟨_,g5,?_⟩)|skip);refine Y _ ?_;clear Y X))
 refine a2_ [] ?_
 repeat' (first|(with_reducible first|apply a9_|apply a3_|apply b0_|apply a1_)|((with_reducible refine a5_ ?_ ?_);(focus (go_simp;done)))|((with_reducible refine a0_ fun X Y=>?_);go_simp;refine Y _ ?_;clear Y X))
 refine d8_ (c9_ [] 9 ⟨rfl,rfl⟩ ?_)
 simp only [List.take,List.drop]
 repeat' (first|(with_reducible apply a1_)|((with_reducible refine a0_ fun X Y=>?_);go_simp;refine Y _ ?_;clear Y X))
 refine b2q (fun p a w R=>⟨_,Rel.deadCell R (bi:=0) (j:=1) (r:=2) rfl rfl⟩) ?_
 simp only [List.set]
 refine g0_ [2] [] [] [some (.arr 148 3 false (TK.map Tk.av))] (.osl 0) rfl (by go_simp) ?_ ?_
 ·unfold m5_
  go_simp
  refine ⟨_,_,⟨_,gd⟩,?_⟩
  go_simp
  kernel_rfl
 go_simp
 refine c9_ [] 4 ⟨rfl,rfl⟩ ?_
 simp only [List.take,List.drop]
 repeat' (first|(with_reducible apply a1_)|((with_reducible refine a0_ fun X Y=>?_);go_simp;refine Y _ ?_;clear Y X))
 apply e9_
 repeat' (with_reducible first|apply a9_|apply a3_)
 refine a1f 20 [0,69,69,70,70,71,71,72,72,73,3,74,74,75] (by kernel_rfl) (by kernel_rfl) (by kernel_rfl) (fun v=>v) a3q rfl ⟨rfl,rfl⟩ ?_
 simp only [List.take]
 repeat' (first|(with_reducible apply a6_)|((with_reducible refine a4_ fun X Y=>?_);go_simp;refine Y _ ?_;clear Y X))
 refine ⟨_,_,b4t (by exact rfl) (by exact rfl) (by go_simp;exact b9l _ _ (by repeat' (first | exact TxO.one _ | exact TxO.map _ | apply TxO.take | apply TxO.drop | apply TxO.tail)) (by simp;omega)) (by go_simp),?_,?_,?_⟩
 ·simp only [List.forall_mem_cons]
  go_simp
 ·repeat' (first|(with_reducible apply a6_)|((with_reducible refine a4_ fun X Y=>?_);go_simp;refine Y _ ?_;clear Y X))
  simp only [List.forall_mem_cons]
  go_simp
 go_simp
 refine c9_ [] 2 ⟨rfl,rfl⟩ ?_
 simp only [List.take,List.drop]
 repeat' (first|(with_reducible apply a1_)|((with_reducible refine a0_ fun X Y=>?_);go_simp;refine Y _ ?_;clear Y X))
 apply e9_
 repeat' (first|(with_reducible first|apply a9_|apply a3_|apply c4_|apply a1_|refine a2_ [] ?_)|((with_reducible refine a0_ fun X Y=>?_);go_simp;refine Y _ ?_;clear Y X))
 go_simp
 rw [←j5_]
 rfl
end Go.Proofs.YtoibondihdhnoaaGreatDoor
namespace Go.Proofs.YtoibondihdhnoaaGreatDoor
open Go.RowKit
set_option maxRecDepth 100000
set_option maxHeartbeats 2000000
theorem a1l (q:List (List ByteArray)) (c:ByteArray) : ∃ a b:Int,b8r q c = .tup [.agg [I a,I b],B (decide (0≤o5_ q c))]:=by
 unfold b8r
 by_cases h:0≤o5_ q c
 ·rw [if_pos h,decide_eq_true h]
  exact ⟨_,_,rfl⟩
 ·rw [if_neg h,decide_eq_false h]
  exact ⟨_,_,rfl⟩
theorem b9v (r:Ru) (s:St) (mv:List Sg) (n1 n2:Bool) (x:Ev) (k:Nat) (hx:x.rank=k) (hk:k < s.q.length) (hr:r.ranks.length=s.q.length) (hf:a3k r s.q.length) (hql:s.q.length≤1000000) (hqs:∀ k,k < s.q.length→(qat s.q k).length≤1000000) (h0:¬l4_ r s x k=0) :
  VH Tryz.prog 224 (e1_ r s mv n1 n2) [.ref 0 0,evA x] [0] (e1_ r s mv n1 n2) (I (l4_ r s x k)):=by
 have hk2:k < r.ranks.length:=by omega
 have hfk:=hf k hk
 clear hf
 have g1:=b2k r s mv x.car hql hqs
 clear hqs
 obtain ⟨sa,sb,es⟩:=a1l s.q x.car
 rw [es] at g1
 clear es
 have g2:=a0m r s mv k hk hr
 have q1:=b5_ (!decide (0≤o5_ s.q x.car)) 5
 have q2:=b5_ (!o6_ r s k) 13
 have q3:=b5_ (e5_ r s k) 16
 have g5:VC Tryz.prog 88 [.sl 1 ([unl (!decide (0≤o5_ s.q x.car)) 5,unl (!o6_ r s k) 13,unl (e5_ r s k) 16].map a0e)] (I (l4_ r s x k)):=d2_ _ rfl rfl
 unfold o6_ feedN at *
 generalize l4_ r s x k=E at *
 generalize decide (0≤o5_ s.q x.car)=D at *
 generalize unl (!D) 5=A1 at *
 generalize unl (e5_ r s k) 16=A3 at *
 generalize e5_ r s k=F at *
 obtain ⟨kd,tm,rk,car⟩:=x
 simp only at hx g1
 subst hx
 simp only [evA]
 by_cases h1:(rat r.ranks k).feeder = -1
 ·have e:(decide ((rat r.ranks k).feeder≠-1)&&decide (0 < (qat s.q (rat r.ranks k).feeder.toNat).length))=false:=by simp [h1]
  rw [e,Bool.not_false] at q2 g5
  generalize unl true 13=A2 at *
  clear hfk e
  refine h2_ Tryz.func224 rfl (by kernel_rfl) rfl (fun _=>by kernel_rfl) fun M0 w0 vs=>?_
  simp only [Tryz.ntmps224,Tryz.results224,b4_]
  unfold e1_
  repeat' (first|(with_reducible first|apply a9_|apply a3_|apply b1_|apply c4_|apply a1_|refine a2_ [] ?_|apply a6_)|((with_reducible refine a7_ ?_ ?_);(focus (go_simp;done)))|((with_reducible first|refine a0_ fun X Y=>?_|refine a4_ fun X Y=>?_);go_simp;(first|(refine ⟨_,⟨g1,rfl⟩,?_⟩)|(refine ⟨_,⟨g2,rfl⟩,?_⟩)|(with_reducible refine ⟨_,q1,?_⟩)|(with_reducible refine ⟨_,q2,?_⟩)|(with_reducible refine ⟨_,q3,?_⟩)|(refine ⟨_,g5,?_⟩)|skip);refine Y _ ?_;clear Y X)|((refine b9_ 11 11 [] rfl (by kernel_rfl) (by kernel_rfl) ?_);simp only [List.take,List.drop])|((refine b9_ 14 14 [] rfl (by kernel_rfl) (by kernel_rfl) ?_);simp only [List.take,List.drop]))
  go_simp
 ·obtain ⟨f0,fl⟩:=hfk h1
  clear hfk
  obtain ⟨f,hfe⟩ : ∃ f:Nat,(rat r.ranks k).feeder=f:=⟨(rat r.ranks k).feeder.toNat,by omega⟩
  rw [hfe] at fl h1 q2 g5
  have e:(decide ((f:Int)≠-1)&&decide (0 < (qat s.q (f:Int).toNat).length))=decide (0 < (qat s.q f).length):=by
   rw [decide_eq_true h1,Bool.true_and,Int.toNat_natCast]
  rw [e] at q2 g5
  simp only [Int.toNat_natCast] at fl
  generalize unl (!decide (0 < (qat s.q f).length)) 13=A2 at *
  clear f0 e
  have hmx:(if (f:Int) < 0 then 0 else (f:Int))=f:=if_neg (by omega)
  refine h2_ Tryz.func224 rfl (by kernel_rfl) rfl (fun _=>by kernel_rfl) fun M0 w0 vs=>?_
  simp only [Tryz.ntmps224,Tryz.results224,b4_]
  unfold e1_
  repeat' (first|(with_reducible first|apply a9_|apply a3_|apply b1_|apply c4_|apply a1_|refine a2_ [] ?_|apply a6_)|((with_reducible refine a7_ ?_ ?_);(focus (go_simp;done)))|((with_reducible first|refine a0_ fun X Y=>?_|refine a4_ fun X Y=>?_);go_simp;(first|(refine ⟨_,⟨g1,rfl⟩,?_⟩)|(refine ⟨_,⟨g2,rfl⟩,?_⟩)|(with_reducible refine ⟨_,q1,?_⟩)|(with_reducible refine ⟨_,q2,?_⟩)|(with_reducible refine ⟨_,q3,?_⟩)|(refine ⟨_,g5,?_⟩)|skip);refine Y _ ?_;clear Y X)|((refine b9_ 11 11 [] rfl (by kernel_rfl) (by kernel_rfl) ?_);simp only [List.take,List.drop])|((refine b9_ 14 14 [] rfl (by kernel_rfl) (by kernel_rfl) ?_);simp only [List.take,List.drop]))
  go_simp
end Go.Proofs.YtoibondihdhnoaaGreatDoor
namespace Go.Proofs.YtoibondihdhnoaaGreatDoor
open Go.RowKit
set_option maxRecDepth 100000
set_option maxHeartbeats 2000000
theorem c8m (r:Ru) (s:St) (mv:List Sg) (n1 n2:Bool) (x:Ev) (k:Nat) (hx:x.rank=k) (hk:k < s.q.length) (hr:r.ranks.length=s.q.length) (hql:s.q.length≤1000000) (hqs:∀ k,k < s.q.length→(qat s.q k).length≤1000000) (hl:s.tk.length≤1000000) (hfe:(rat r.ranks k).feeder = -1) (ht:a1e s.tk x.car < 0) (h0:l4_ r s x k=0) :
  VH Tryz.prog 224 (e1_ r s mv n1 n2) [.ref 0 0,evA x] [0] (e1_ r ⟨s.q.set k (qat s.q k++[x.car]),s.tk,s.time⟩ mv n1 n2) (I 0):=by
 have hk2:k < r.ranks.length:=by omega
 have hqk:=hqs k hk
 have hqk2:(qat s.q k).length≤999999999:=by omega
 have g1:=b2k r s mv x.car hql hqs
 clear hqs
 obtain ⟨sa,sb,es⟩:=a1l s.q x.car
 rw [es] at g1
 clear es
 have g2:=a0m r s mv k hk hr
 have q1:=b5_ (!decide (0≤o5_ s.q x.car)) 5
 have q2:=b5_ (!o6_ r s k) 13
 have q3:=b5_ (e5_ r s k) 16
 have g5:VC Tryz.prog 88 [.sl 1 ([unl (!decide (0≤o5_ s.q x.car)) 5,unl (!o6_ r s k) 13,unl (e5_ r s k) 16].map a0e)] (I (l4_ r s x k)):=d2_ _ rfl rfl
 rw [h0] at g5
 clear h0
 unfold o6_ feedN at *
 generalize decide (0≤o5_ s.q x.car)=D at *
 generalize unl (!D) 5=A1 at *
 generalize unl (e5_ r s k) 16=A3 at *
 generalize e5_ r s k=F at *
 have g6:=z1_ r ⟨s.q.set k (qat s.q k++[x.car]),s.tk,s.time⟩ mv x.car hl
 simp only at g6
 have e:(decide ((rat r.ranks k).feeder≠-1)&&decide (0 < (qat s.q (rat r.ranks k).feeder.toNat).length))=false:=by simp [hfe]
 rw [e,Bool.not_false] at q2 g5
 generalize unl true 13=A2 at *
 clear e
 generalize a1e s.tk x.car=A at *
 obtain ⟨kd,tm,rk,car⟩:=x
 simp only at hx g1 g6
 subst hx
 simp only [evA]
 refine h2_ Tryz.func224 rfl (by kernel_rfl) rfl (fun _=>by kernel_rfl) fun M0 w0 vs=>?_
 simp only [Tryz.ntmps224,Tryz.results224,b4_]
 unfold e1_
 repeat' (first|(with_reducible first|apply a9_|apply a3_|apply a1_|refine a2_ [] ?_)|((with_reducible refine a0_ fun X Y=>?_);go_simp;(first|(refine ⟨_,⟨g1,rfl⟩,?_⟩)|skip);refine Y _ ?_;clear Y X))
 refine b9_ 11 11 [] rfl (by kernel_rfl) (by kernel_rfl) ?_
 simp only [List.take,List.drop]
 repeat' (first|(with_reducible first|apply a9_|apply a3_|apply a1_|apply a6_)|((with_reducible refine a4_ fun X Y=>?_);go_simp;refine Y _ ?_;clear Y X))
 refine a2_ [] ?_
 repeat' (first|(with_reducible first|apply a9_|apply a3_|apply a1_)|((with_reducible refine a0_ fun X Y=>?_);go_simp;refine Y _ ?_;clear Y X))
 refine b9_ 14 14 [] rfl (by kernel_rfl) (by kernel_rfl) ?_
 simp only [List.take,List.drop]
 repeat' (first|(with_reducible first|apply a9_|apply a3_|apply a1_|apply a6_)|((with_reducible refine a4_ fun X Y=>?_);go_simp;(first|(refine ⟨_,⟨g2,rfl⟩,?_⟩)|(with_reducible refine ⟨_,q1,?_⟩)|(with_reducible refine ⟨_,q2,?_⟩)|(with_reducible refine ⟨_,q3,?_⟩)|(refine ⟨_,g5,?_⟩)|skip);refine Y _ ?_;clear Y X))
 refine a2_ [] ?_
 repeat' (first|(with_reducible first|apply a9_|apply a3_|apply b0_|apply a1_)|((with_reducible refine a5_ ?_ ?_);(focus (go_simp;done)))|((with_reducible refine a0_ fun X Y=>?_);go_simp;refine Y _ ?_;clear Y X))
 refine a1f 19 [0,59,59,60,60,61,61,62,62,63,3,64,64,65] (by kernel_rfl) (by kernel_rfl) (by kernel_rfl) (unW 1) (s3_ 1) rfl ⟨rfl,rfl⟩ ?_
 simp only [List.take]
 repeat' (first|(with_reducible apply a6_)|((with_reducible refine a4_ fun X Y=>?_);go_simp;refine Y _ ?_;clear Y X))
 refine ⟨_,_,a9x (id:=1) (k:=k) (es:=(qat s.q k).map p1_) (c:=S car) (by exact rfl) (by exact rfl) (by go_simp) (by go_simp) d3g ti9 (by exact rfl) (by go_simp),?_,?_,?_⟩
 ·simp only [List.forall_mem_cons]
  go_simp
 ·repeat' (first|(with_reducible apply a6_)|((with_reducible refine a4_ fun X Y=>?_);go_simp;refine Y _ ?_;clear Y X))
  simp only [List.forall_mem_cons]
  go_simp
 go_simp
 refine c9_ [] 2 ⟨rfl,rfl⟩ ?_
 simp only [List.take,List.drop]
 repeat' (first|(with_reducible apply a1_)|((with_reducible refine a0_ fun X Y=>?_);go_simp;refine Y _ ?_;clear Y X))
 apply e9_
 repeat' (with_reducible first|apply a9_|apply a3_)
 rw [a4g,j5_]
 refine a2_ [] ?_
 repeat' (first|(with_reducible first|apply a9_|apply a3_|apply a1_)|((with_reducible refine a0_ fun X Y=>?_);go_simp;(first|(refine ⟨_,⟨g6,rfl⟩,?_⟩)|skip);refine Y _ ?_;clear Y X))
 refine a2_ [] ?_
 repeat' (first|(with_reducible first|apply a9_|apply a3_|apply b0_|apply a1_)|((with_reducible refine a5_ ?_ ?_);(focus (go_simp;done)))|((with_reducible refine a0_ fun X Y=>?_);go_simp;refine Y _ ?_;clear Y X))
 refine a2_ [] ?_
 repeat' (first|(with_reducible first|apply a3_|apply c4_|apply a1_)|((with_reducible refine a0_ fun X Y=>?_);go_simp;refine Y _ ?_;clear Y X))
 go_simp
theorem c8n (r:Ru) (s:St) (mv:List Sg) (n1 n2:Bool) (x:Ev) (k:Nat) (hx:x.rank=k) (hk:k < s.q.length) (hr:r.ranks.length=s.q.length) (hql:s.q.length≤1000000) (hqs:∀ k,k < s.q.length→(qat s.q k).length≤1000000) (hl:s.tk.length≤1000000) (hfe:(rat r.ranks k).feeder = -1) (i:Nat) (ht:a1e s.tk x.car=i) (hil:i < s.tk.length) (h0:l4_ r s x k=0) :
  VH Tryz.prog 224 (e1_ r s mv n1 n2) [.ref 0 0,evA x] [0] (e1_ r ⟨s.q.set k (qat s.q k++[x.car]),s.tk.eraseIdx i,s.time⟩ mv false n2) (I 0):=by
 have hk2:k < r.ranks.length:=by omega
 have hqk:=hqs k hk
 have hqk2:(qat s.q k).length≤999999999:=by omega
 have g1:=b2k r s mv x.car hql hqs
 clear hqs
 obtain ⟨sa,sb,es⟩:=a1l s.q x.car
 rw [es] at g1
 clear es
 have g2:=a0m r s mv k hk hr
 have q1:=b5_ (!decide (0≤o5_ s.q x.car)) 5
 have q2:=b5_ (!o6_ r s k) 13
 have q3:=b5_ (e5_ r s k) 16
 have g5:VC Tryz.prog 88 [.sl 1 ([unl (!decide (0≤o5_ s.q x.car)) 5,unl (!o6_ r s k) 13,unl (e5_ r s k) 16].map a0e)] (I (l4_ r s x k)):=d2_ _ rfl rfl
 rw [h0] at g5
 clear h0
 unfold o6_ feedN at *
 generalize decide (0≤o5_ s.q x.car)=D at *
 generalize unl (!D) 5=A1 at *
 generalize unl (e5_ r s k) 16=A3 at *
 generalize e5_ r s k=F at *
 have g6:=z1_ r ⟨s.q.set k (qat s.q k++[x.car]),s.tk,s.time⟩ mv x.car hl
 simp only at g6
 have e:(decide ((rat r.ranks k).feeder≠-1)&&decide (0 < (qat s.q (rat r.ranks k).feeder.toNat).length))=false:=by simp [hfe]
 rw [e,Bool.not_false] at q2 g5
 generalize unl true 13=A2 at *
 clear e
 rw [ht] at g6
 clear ht
 have gd:=a7z (s.tk.map Tk.av) n1 i (by simpa using hil)
 rw [a1k] at gd
 generalize s.tk.eraseIdx i=TK at *
 obtain ⟨w1,w2,w3,w4,w5,w6⟩:=ixs (m:=i) (by omega)
 obtain ⟨kd,tm,rk,car⟩:=x
 simp only at hx g1 g6
 subst hx
 simp only [evA]
 refine h2_ Tryz.func224 rfl (by kernel_rfl) rfl (fun _=>by kernel_rfl) fun M0 w0 vs=>?_
 simp only [Tryz.ntmps224,Tryz.results224,b4_]
 unfold e1_
 repeat' (first|(with_reducible first|apply a9_|apply a3_|apply a1_|refine a2_ [] ?_)|((with_reducible refine a0_ fun X Y=>?_);go_simp;(first|(refine ⟨_,⟨g1,rfl⟩,?_⟩)|skip);refine Y _ ?_;clear Y X))
 refine b9_ 11 11 [] rfl (by kernel_rfl) (by kernel_rfl) ?_
 simp only [List.take,List.drop]
 repeat' (first|(with_reducible first|apply a9_|apply a3_|apply a1_|apply a6_)|((with_reducible refine a4_ fun X Y=>?_);go_simp;refine Y _ ?_;clear Y X))
 refine a2_ [] ?_
 repeat' (first|(with_reducible first|apply a9_|apply a3_|apply a1_)|((with_reducible refine a0_ fun X Y=>?_);go_simp;refine Y _ ?_;clear Y X))
 refine b9_ 14 14 [] rfl (by kernel_rfl) (by kernel_rfl) ?_
 simp only [List.take,List.drop]
 repeat' (first|(with_reducible first|apply a9_|apply a3_|apply a1_|apply a6_)|((with_reducible refine a4_ fun X Y=>?_);go_simp;(first|(refine ⟨_,⟨g2,rfl⟩,?_⟩)|(with_reducible refine ⟨_,q1,?_⟩)|(with_reducible refine ⟨_,q2,?_⟩)|(with_reducible refine ⟨_,q3,?_⟩)|(refine ⟨_,g5,?_⟩)|skip);refine Y _ ?_;clear Y X))
 refine a2_ [] ?_
 repeat' (first|(with_reducible first|apply a9_|apply a3_|apply b0_|apply a1_)|((with_reducible refine a5_ ?_ ?_);(focus (go_simp;done)))|((with_reducible refine a0_ fun X Y=>?_);go_simp;refine Y _ ?_;clear Y X))
 refine a1f 19 [0,59,59,60,60,61,61,62,62,63,3,64,64,65] (by kernel_rfl) (by kernel_rfl) (by kernel_rfl) (unW 1) (s3_ 1) rfl ⟨rfl,rfl⟩ ?_
 simp only [List.take]
 repeat' (first|(with_reducible apply a6_)|((with_reducible refine a4_ fun X Y=>?_);go_simp;refine Y _ ?_;clear Y X))
 refine ⟨_,_,a9x (id:=1) (k:=k) (es:=(qat s.q k).map p1_) (c:=S car) (by exact rfl) (by exact rfl) (by go_simp) (by go_simp) d3g ti9 (by exact rfl) (by go_simp),?_,?_,?_⟩
 ·simp only [List.forall_mem_cons]
  go_simp
 ·repeat' (first|(with_reducible apply a6_)|((with_reducible refine a4_ fun X Y=>?_);go_simp;refine Y _ ?_;clear Y X))
  simp only [List.forall_mem_cons]
  go_simp
 go_simp
 refine c9_ [] 2 ⟨rfl,rfl⟩ ?_
 simp only [List.take,List.drop]
 repeat' (first|(with_reducible apply a1_)|((with_reducible refine a0_ fun X Y=>?_);go_simp;refine Y _ ?_;clear Y X))
 apply e9_
 repeat' (with_reducible first|apply a9_|apply a3_)
 rw [a4g,j5_]
 refine a2_ [] ?_
 repeat' (first|(with_reducible first|apply a9_|apply a3_|apply a1_)|((with_reducible refine a0_ fun X Y=>?_);go_simp;(first|(refine ⟨_,⟨g6,rfl⟩,?_⟩)|skip);refine Y _ ?_;clear Y X))
 refine a2_ [] ?_
 repeat' (first|(with_reducible first|apply a3_|apply a1_)|((with_reducible refine a7_ ?_ ?_);(focus (go_simp;done)))|((with_reducible refine a0_ fun X Y=>?_);go_simp;refine Y _ ?_;clear Y X))
 refine d8_ (c9_ [] 9 ⟨rfl,rfl⟩ ?_)
 simp only [List.take,List.drop]
 repeat' (first|(with_reducible apply a1_)|((with_reducible refine a0_ fun X Y=>?_);go_simp;refine Y _ ?_;clear Y X))
 refine b2q (fun p a w R=>⟨_,Rel.deadCell R (bi:=0) (j:=1) (r:=2) rfl rfl⟩) ?_
 simp only [List.set]
 refine g0_ [2] [] [] [some (.arr 148 3 false (TK.map Tk.av))] (.osl 0) rfl (by go_simp) ?_ ?_
 ·unfold m5_
  go_simp
  refine ⟨_,_,⟨_,gd⟩,?_⟩
  go_simp
  kernel_rfl
 go_simp
 refine c9_ [] 4 ⟨rfl,rfl⟩ ?_
 simp only [List.take,List.drop]
 repeat' (first|(with_reducible apply a1_)|((with_reducible refine a0_ fun X Y=>?_);go_simp;refine Y _ ?_;clear Y X))
 apply e9_
 repeat' (with_reducible first|apply a9_|apply a3_)
 refine a2_ [] ?_
 repeat' (first|(with_reducible first|apply a3_|apply c4_|apply a1_)|((with_reducible refine a0_ fun X Y=>?_);go_simp;refine Y _ ?_;clear Y X))
 go_simp
theorem c8o (r:Ru) (s:St) (mv:List Sg) (n1 n2:Bool) (x:Ev) (k:Nat) (hx:x.rank=k) (hk:k < s.q.length) (hr:r.ranks.length=s.q.length) (hql:s.q.length≤1000000) (hqs:∀ k,k < s.q.length→(qat s.q k).length≤1000000) (hl:s.tk.length≤1000000) (f:Nat) (hfe:(rat r.ranks k).feeder=f) (fl:f < s.q.length) (ht:a1e s.tk x.car < 0) (h0:l4_ r s x k=0) :
  VH Tryz.prog 224 (e1_ r s mv n1 n2) [.ref 0 0,evA x] [0] (e1_ r ⟨s.q.set k (qat s.q k++[x.car]),s.tk,s.time⟩ mv n1 n2) (I 0):=by
 have hk2:k < r.ranks.length:=by omega
 have hqk:=hqs k hk
 have hqk2:(qat s.q k).length≤999999999:=by omega
 have g1:=b2k r s mv x.car hql hqs
 clear hqs
 obtain ⟨sa,sb,es⟩:=a1l s.q x.car
 rw [es] at g1
 clear es
 have g2:=a0m r s mv k hk hr
 have q1:=b5_ (!decide (0≤o5_ s.q x.car)) 5
 have q2:=b5_ (!o6_ r s k) 13
 have q3:=b5_ (e5_ r s k) 16
 have g5:VC Tryz.prog 88 [.sl 1 ([unl (!decide (0≤o5_ s.q x.car)) 5,unl (!o6_ r s k) 13,unl (e5_ r s k) 16].map a0e)] (I (l4_ r s x k)):=d2_ _ rfl rfl
 rw [h0] at g5
 clear h0
 unfold o6_ feedN at *
 generalize decide (0≤o5_ s.q x.car)=D at *
 generalize unl (!D) 5=A1 at *
 generalize unl (e5_ r s k) 16=A3 at *
 generalize e5_ r s k=F at *
 have g6:=z1_ r ⟨s.q.set k (qat s.q k++[x.car]),s.tk,s.time⟩ mv x.car hl
 simp only at g6
 have h1:(f:Int)≠-1:=by omega
 have e:(decide ((rat r.ranks k).feeder≠-1)&&decide (0 < (qat s.q (rat r.ranks k).feeder.toNat).length))=decide (0 < (qat s.q f).length):=by
  rw [hfe,decide_eq_true h1,Bool.true_and,Int.toNat_natCast]
 rw [e] at q2 g5
 generalize unl (!decide (0 < (qat s.q f).length)) 13=A2 at *
 clear e
 have hmx:(if (f:Int) < 0 then 0 else (f:Int))=f:=if_neg (by omega)
 generalize a1e s.tk x.car=A at *
 obtain ⟨kd,tm,rk,car⟩:=x
 simp only at hx g1 g6
 subst hx
 simp only [evA]
 refine h2_ Tryz.func224 rfl (by kernel_rfl) rfl (fun _=>by kernel_rfl) fun M0 w0 vs=>?_
 simp only [Tryz.ntmps224,Tryz.results224,b4_]
 unfold e1_
 repeat' (first|(with_reducible first|apply a9_|apply a3_|apply a1_|refine a2_ [] ?_)|((with_reducible refine a0_ fun X Y=>?_);go_simp;(first|(refine ⟨_,⟨g1,rfl⟩,?_⟩)|skip);refine Y _ ?_;clear Y X))
 refine b9_ 11 11 [] rfl (by kernel_rfl) (by kernel_rfl) ?_
 simp only [List.take,List.drop]
 repeat' (first|(with_reducible first|apply a9_|apply a3_|apply a1_|apply a6_)|((with_reducible refine a4_ fun X Y=>?_);go_simp;refine Y _ ?_;clear Y X))
 refine a2_ [] ?_
 repeat' (first|(with_reducible first|apply a9_|apply a3_|apply a1_)|((with_reducible refine a0_ fun X Y=>?_);go_simp;refine Y _ ?_;clear Y X))
 refine b9_ 14 14 [] rfl (by kernel_rfl) (by kernel_rfl) ?_
 simp only [List.take,List.drop]
 repeat' (first|(with_reducible first|apply a9_|apply a3_|apply a1_|apply a6_)|((with_reducible refine a4_ fun X Y=>?_);go_simp;(first|(refine ⟨_,⟨g2,rfl⟩,?_⟩)|(with_reducible refine ⟨_,q1,?_⟩)|(with_reducible refine ⟨_,q2,?_⟩)|(with_reducible refine ⟨_,q3,?_⟩)|(refine ⟨_,g5,?_⟩)|skip);refine Y _ ?_;clear Y X))
 refine a2_ [] ?_
 repeat' (first|(with_reducible first|apply a9_|apply a3_|apply b0_|apply a1_)|((with_reducible refine a5_ ?_ ?_);(focus (go_simp;done)))|((with_reducible refine a0_ fun X Y=>?_);go_simp;refine Y _ ?_;clear Y X))
 refine a1f 19 [0,59,59,60,60,61,61,62,62,63,3,64,64,65] (by kernel_rfl) (by kernel_rfl) (by kernel_rfl) (unW 1) (s3_ 1) rfl ⟨rfl,rfl⟩ ?_
 simp only [List.take]
 repeat' (first|(with_reducible apply a6_)|((with_reducible refine a4_ fun X Y=>?_);go_simp;refine Y _ ?_;clear Y X))
 refine ⟨_,_,a9x (id:=1) (k:=k) (es:=(qat s.q k).map p1_) (c:=S car) (by exact rfl) (by exact rfl) (by go_simp) (by go_simp) d3g ti9 (by exact rfl) (by go_simp),?_,?_,?_⟩
 ·simp only [List.forall_mem_cons]
  go_simp
 ·repeat' (first|(with_reducible apply a6_)|((with_reducible refine a4_ fun X Y=>?_);go_simp;refine Y _ ?_;clear Y X))
  simp only [List.forall_mem_cons]
  go_simp
 go_simp
 refine c9_ [] 2 ⟨rfl,rfl⟩ ?_
 simp only [List.take,List.drop]
 repeat' (first|(with_reducible apply a1_)|((with_reducible refine a0_ fun X Y=>?_);go_simp;refine Y _ ?_;clear Y X))
 apply e9_
 repeat' (with_reducible first|apply a9_|apply a3_)
 rw [a4g,j5_]
 refine a2_ [] ?_
 repeat' (first|(with_reducible first|apply a9_|apply a3_|apply a1_)|((with_reducible refine a0_ fun X Y=>?_);go_simp;(first|(refine ⟨_,⟨g6,rfl⟩,?_⟩)|skip);refine Y _ ?_;clear Y X))
 refine a2_ [] ?_
 repeat' (first|(with_reducible first|apply a9_|apply a3_|apply b0_|apply a1_)|((with_reducible refine a5_ ?_ ?_);(focus (go_simp;done)))|((with_reducible refine a0_ fun X Y=>?_);go_simp;refine Y _ ?_;clear Y X))
 refine a2_ [] ?_
 repeat' (first|(with_reducible first|apply a3_|apply c4_|apply a1_)|((with_reducible refine a0_ fun X Y=>?_);go_simp;refine Y _ ?_;clear Y X))
 go_simp
theorem c8p (r:Ru) (s:St) (mv:List Sg) (n1 n2:Bool) (x:Ev) (k:Nat) (hx:x.rank=k) (hk:k < s.q.length) (hr:r.ranks.length=s.q.length) (hql:s.q.length≤1000000) (hqs:∀ k,k < s.q.length→(qat s.q k).length≤1000000) (hl:s.tk.length≤1000000) (f:Nat) (hfe:(rat r.ranks k).feeder=f) (fl:f < s.q.length) (i:Nat) (ht:a1e s.tk x.car=i) (hil:i < s.tk.length) (h0:l4_ r s x k=0) :
  VH Tryz.prog 224 (e1_ r s mv n1 n2) [.ref 0 0,evA x] [0] (e1_ r ⟨s.q.set k (qat s.q k++[x.car]),s.tk.eraseIdx i,s.time⟩ mv false n2) (I 0):=by
 have hk2:k < r.ranks.length:=by omega
 have hqk:=hqs k hk
 have hqk2:(qat s.q k).length≤999999999:=by omega
 have g1:=b2k r s mv x.car hql hqs
 clear hqs
 obtain ⟨sa,sb,es⟩:=a1l s.q x.car
 rw [es] at g1
 clear es
 have g2:=a0m r s mv k hk hr
 have q1:=b5_ (!decide (0≤o5_ s.q x.car)) 5
 have q2:=b5_ (!o6_ r s k) 13
 have q3:=b5_ (e5_ r s k) 16
 have g5:VC Tryz.prog 88 [.sl 1 ([unl (!decide (0≤o5_ s.q x.car)) 5,unl (!o6_ r s k) 13,unl (e5_ r s k) 16].map a0e)] (I (l4_ r s x k)):=d2_ _ rfl rfl
 rw [h0] at g5
 clear h0
 unfold o6_ feedN at *
 generalize decide (0≤o5_ s.q x.car)=D at *
 generalize unl (!D) 5=A1 at *
 generalize unl (e5_ r s k) 16=A3 at *
 generalize e5_ r s k=F at *
 have g6:=z1_ r ⟨s.q.set k (qat s.q k++[x.car]),s.tk,s.time⟩ mv x.car hl
 simp only at g6
 have h1:(f:Int)≠-1:=by omega
 have e:(decide ((rat r.ranks k).feeder≠-1)&&decide (0 < (qat s.q (rat r.ranks k).feeder.toNat).length))=decide (0 < (qat s.q f).length):=by
  rw [hfe,decide_eq_true h1,Bool.true_and,Int.toNat_natCast]
 rw [e] at q2 g5
 generalize unl (!decide (0 < (qat s.q f).length)) 13=A2 at *
 clear e
 have hmx:(if (f:Int) < 0 then 0 else (f:Int))=f:=if_neg (by omega)
 rw [ht] at g6
 clear ht
 have gd:=a7z (s.tk.map Tk.av) n1 i (by simpa using hil)
 rw [a1k] at gd
 generalize s.tk.eraseIdx i=TK at *
 obtain ⟨w1,w2,w3,w4,w5,w6⟩:=ixs (m:=i) (by omega)
 obtain ⟨kd,tm,rk,car⟩:=x
 simp only at hx g1 g6
 subst hx
 simp only [evA]
 refine h2_ Tryz.func224 rfl (by kernel_rfl) rfl (fun _=>by kernel_rfl) fun M0 w0 vs=>?_
 simp only [Tryz.ntmps224,Tryz.results224,b4_]
 unfold e1_
 repeat' (first|(with_reducible first|apply a9_|apply a3_|apply a1_|refine a2_ [] ?_)|((with_reducible refine a0_ fun X Y=>?_);go_simp;(first|(refine ⟨_,⟨g1,rfl⟩,?_⟩)|skip);refine Y _ ?_;clear Y X))
 refine b9_ 11 11 [] rfl (by kernel_rfl) (by kernel_rfl) ?_
 simp only [List.take,List.drop]
 repeat' (first|(with_reducible first|apply a9_|apply a3_|apply a1_|apply a6_)|((with_reducible refine a4_ fun X Y=>?_);go_simp;refine Y _ ?_;clear Y X))
 refine a2_ [] ?_
 repeat' (first|(with_reducible first|apply a9_|apply a3_|apply a1_)|((with_reducible refine a0_ fun X Y=>?_);go_simp;refine Y _ ?_;clear Y X))
 refine b9_ 14 14 [] rfl (by kernel_rfl) (by kernel_rfl) ?_
 simp only [List.take,List.drop]
 repeat' (first|(with_reducible first|apply a9_|apply a3_|apply a1_|apply a6_)|((with_reducible refine a4_ fun X Y=>?_);go_simp;(first|(refine ⟨_,⟨g2,rfl⟩,?_⟩)|(with_reducible refine ⟨_,q1,?_⟩)|(with_reducible refine ⟨_,q2,?_⟩)|(with_reducible refine ⟨_,q3,?_⟩)|(refine ⟨_,g5,?_⟩)|skip);refine Y _ ?_;clear Y X))
 refine a2_ [] ?_
 repeat' (first|(with_reducible first|apply a9_|apply a3_|apply b0_|apply a1_)|((with_reducible refine a5_ ?_ ?_);(focus (go_simp;done)))|((with_reducible refine a0_ fun X Y=>?_);go_simp;refine Y _ ?_;clear Y X))
 refine a1f 19 [0,59,59,60,60,61,61,62,62,63,3,64,64,65] (by kernel_rfl) (by kernel_rfl) (by kernel_rfl) (unW 1) (s3_ 1) rfl ⟨rfl,rfl⟩ ?_
 simp only [List.take]
 repeat' (first|(with_reducible apply a6_)|((with_reducible refine a4_ fun X Y=>?_);go_simp;refine Y _ ?_;clear Y X))
 refine ⟨_,_,a9x (id:=1) (k:=k) (es:=(qat s.q k).map p1_) (c:=S car) (by exact rfl) (by exact rfl) (by go_simp) (by go_simp) d3g ti9 (by exact rfl) (by go_simp),?_,?_,?_⟩
 ·simp only [List.forall_mem_cons]
  go_simp
 ·repeat' (first|(with_reducible apply a6_)|((with_reducible refine a4_ fun X Y=>?_);go_simp;refine Y _ ?_;clear Y X))
  simp only [List.forall_mem_cons]
  go_simp
 go_simp
 refine c9_ [] 2 ⟨rfl,rfl⟩ ?_
 simp only [List.take,List.drop]
 repeat' (first|(with_reducible apply a1_)|((with_reducible refine a0_ fun X Y=>?_);go_simp;refine Y _ ?_;clear Y X))
 apply e9_
 repeat' (with_reducible first|apply a9_|apply a3_)
 rw [a4g,j5_]
 refine a2_ [] ?_
 repeat' (first|(with_reducible first|apply a9_|apply a3_|apply a1_)|((with_reducible refine a0_ fun X Y=>?_);go_simp;(first|(refine ⟨_,⟨g6,rfl⟩,?_⟩)|skip);refine Y _ ?_;clear Y X))
 refine a2_ [] ?_
 repeat' (first|(with_reducible first|apply a3_|apply a1_)|((with_reducible refine a7_ ?_ ?_);(focus (go_simp;done)))|((with_reducible refine a0_ fun X Y=>?_);go_simp;refine Y _ ?_;clear Y X))
 refine d8_ (c9_ [] 9 ⟨rfl,rfl⟩ ?_)
 simp only [List.take,List.drop]
 repeat' (first|(with_reducible apply a1_)|((with_reducible refine a0_ fun X Y=>?_);go_simp;refine Y _ ?_;clear Y X))
 refine b2q (fun p a w R=>⟨_,Rel.deadCell R (bi:=0) (j:=1) (r:=2) rfl rfl⟩) ?_
 simp only [List.set]
 refine g0_ [2] [] [] [some (.arr 148 3 false (TK.map Tk.av))] (.osl 0) rfl (by go_simp) ?_ ?_
 ·unfold m5_
  go_simp
  refine ⟨_,_,⟨_,gd⟩,?_⟩
  go_simp
  kernel_rfl
 go_simp
 refine c9_ [] 4 ⟨rfl,rfl⟩ ?_
 simp only [List.take,List.drop]
 repeat' (first|(with_reducible apply a1_)|((with_reducible refine a0_ fun X Y=>?_);go_simp;refine Y _ ?_;clear Y X))
 apply e9_
 repeat' (with_reducible first|apply a9_|apply a3_)
 refine a2_ [] ?_
 repeat' (first|(with_reducible first|apply a3_|apply c4_|apply a1_)|((with_reducible refine a0_ fun X Y=>?_);go_simp;refine Y _ ?_;clear Y X))
 go_simp
end Go.Proofs.YtoibondihdhnoaaGreatDoor
namespace Go.Proofs.YtoibondihdhnoaaGreatDoor
open Go.RowKit
set_option maxRecDepth 100000
set_option maxHeartbeats 2000000
theorem a6q (r:Ru) (x:Ev) (hn:r.ranks.length≤1000000) (hc:x.car.size≤1000) : VC Tryz.prog 117 [e0_ r,evA x] (I (evE r x)):=by
 have i1:=m3_ x.kind 0 5
 have i2:=m3_ x.time 0 604800
 have i3:=m3_ x.rank 0 ((r.ranks.length:Int) - 1)
 have i4:=a0f x.car hc
 have u1:=b5_ (inR x.kind 0 5) 15
 have u2:=b5_ (inR x.time 0 604800) 2
 have u3:=b5_ (inR x.rank 0 ((r.ranks.length:Int) - 1)) 6
 have u4:=b5_ (!decide (x.kind=4) || decide (x.car=ByteArray.empty)) 3
 have u5:=b5_ (decide (x.kind=4) || c8_ x.car) 4
 have g5:VC Tryz.prog 88 [.sl 1 ([unl (inR x.kind 0 5) 15,unl (inR x.time 0 604800) 2,unl (inR x.rank 0 ((r.ranks.length:Int) - 1)) 6,unl (!decide (x.kind=4) || decide (x.car=ByteArray.empty)) 3,unl (decide (x.kind=4) || c8_ x.car) 4].map a0e)] (I (evE r x)):=d2_ _ rfl rfl
 have hw:IntKind.i64.wrap ((r.ranks.length:Int) - 1)=(r.ranks.length:Int) - 1:=c5_ (by omega) (by omega)
 generalize evE r x=E at *
 generalize inR x.kind 0 5=D1 at *
 generalize inR x.time 0 604800=D2 at *
 generalize inR x.rank 0 ((r.ranks.length:Int) - 1)=D3 at *
 generalize c8_ x.car=D5 at *
 generalize unl D1 15=A1 at *
 generalize unl D2 2=A2 at *
 generalize unl D3 6=A3 at *
 by_cases h4:x.kind=4
 ·rw [h4] at i1
  rw [decide_eq_true h4,Bool.not_true,Bool.false_or] at u4
  rw [decide_eq_true h4,Bool.true_or] at u5
  rw [decide_eq_true h4,Bool.not_true,Bool.false_or,Bool.true_or] at g5
  generalize unl true 4=A5 at *
  have he:(ByteArray.empty:ByteArray)=⟨#[]⟩:=rfl
  rw [he] at u4 g5
  generalize unl (decide (x.car=⟨#[]⟩)) 3=A4 at *
  clear he
  refine c0_ Tryz.func117 rfl (by kernel_rfl) (by kernel_rfl) rfl fun M0 w0=>?_
  simp only [Tryz.ntmps117,Tryz.results117,b4_]
  repeat' (first|(with_reducible first|apply a9_|apply a3_|apply c4_|apply a1_|refine a2_ [] ?_|apply a6_)|((with_reducible first|refine a0_ fun X Y=>?_|refine a4_ fun X Y=>?_);go_simp;(first|(with_reducible refine ⟨_,i1,?_⟩)|(with_reducible refine ⟨_,i2,?_⟩)|(with_reducible refine ⟨_,i3,?_⟩)|(with_reducible refine ⟨_,u1,?_⟩)|(with_reducible refine ⟨_,u2,?_⟩)|(with_reducible refine ⟨_,u3,?_⟩)|(with_reducible refine ⟨_,u4,?_⟩)|(with_reducible refine ⟨_,u5,?_⟩)|(refine ⟨_,g5,?_⟩)|skip);refine Y _ ?_;clear Y X)|((refine b9_ 34 34 [] rfl (by kernel_rfl) (by kernel_rfl) ?_);simp only [List.take,List.drop]))
  go_simp
 ·rw [decide_eq_false h4,Bool.not_false,Bool.true_or] at u4
  rw [decide_eq_false h4,Bool.false_or] at u5
  rw [decide_eq_false h4,Bool.not_false,Bool.true_or,Bool.false_or] at g5
  generalize unl true 3=A4 at *
  generalize unl D5 4=A5 at *
  refine c0_ Tryz.func117 rfl (by kernel_rfl) (by kernel_rfl) rfl fun M0 w0=>?_
  simp only [Tryz.ntmps117,Tryz.results117,b4_]
  repeat' (first|(with_reducible first|apply a9_|apply a3_|apply c4_|apply a1_|refine a2_ [] ?_|apply a6_)|((with_reducible first|refine a0_ fun X Y=>?_|refine a4_ fun X Y=>?_);go_simp;(first|(with_reducible refine ⟨_,i1,?_⟩)|(with_reducible refine ⟨_,i2,?_⟩)|(with_reducible refine ⟨_,i3,?_⟩)|(with_reducible refine ⟨_,i4,?_⟩)|(with_reducible refine ⟨_,u1,?_⟩)|(with_reducible refine ⟨_,u2,?_⟩)|(with_reducible refine ⟨_,u3,?_⟩)|(with_reducible refine ⟨_,u4,?_⟩)|(with_reducible refine ⟨_,u5,?_⟩)|(refine ⟨_,g5,?_⟩)|skip);refine Y _ ?_;clear Y X)|((refine b9_ 34 34 [] rfl (by kernel_rfl) (by kernel_rfl) ?_);simp only [List.take,List.drop]))
  go_simp
end Go.Proofs.YtoibondihdhnoaaGreatDoor
