/- Texts in one: Walks on a town that changes: cars that leave and that are called up. -/
import Derived.Test.YtoibondihdhnoaaGreatDoorFRN21
import Derived.Test.YtoibondihdhnoaaGreatDoorFRN20
namespace Go.Proofs.YtoibondihdhnoaaGreatDoor
open Go.RowKit
set_option maxRecDepth 100000
set_option maxHeartbeats 2000000
theorem c2i (r:Ru) (s:St) (mv:List Sg) (n1 n2:Bool) (x:Ev) (k:Nat) (hx:x.rank=k) (hk:k < s.q.length) (hq:(qat s.q k).length≤1000000) (h0:a2n (qat s.q k) x.car < 0) :
  VH Tryz.prog 227 (e4_ r s mv n1 n2) [.ref 0 0,evA x] [0] (e4_ r s mv n1 n2) (I 6):=by
 have g1:=a4p (qat s.q k) x.car hq;unfold a2n at h0;generalize ixP (isT (qat s.q k) x.car) 0 (qat s.q k).length=A at *;obtain ⟨kd,tm,rk,car⟩:=x;simp only at hx;subst hx;simp only [evA];refine g4_ Tryz.func227 rfl (by kernel_rfl) rfl (fun _=>by kernel_rfl) fun M0 w0 vs=>?_;simp only [Tryz.ntmps227,Tryz.results227,b4_];unfold e4_;repeat' first|(with_reducible first|apply a8_|apply a3_|apply b5_|apply c4_|apply a1_|refine a2_ [] ?_|apply a5_)|((with_reducible refine a7_ ?_ ?_);(focus (go_simp;done)))|((with_reducible first|refine a0_ fun X Y=>?_|refine a4_ fun X Y=>?_);go_simp;(first|(refine ⟨_,⟨g1,rfl⟩,?_⟩)|skip);refine Y _ ?_;clear Y X)|((refine b2_ 10 10 [] rfl (by kernel_rfl) (by kernel_rfl) ?_);simp only [List.take,List.drop])
 go_simp
theorem c6f (r:Ru) (s:St) (mv:List Sg) (n1 n2:Bool) (x:Ev) (k:Nat) (hx:x.rank=k) (hk:k < s.q.length) (hq:(qat s.q k).length≤10000) (h0:¬a2n (qat s.q k) x.car < 0) :
  VH Tryz.prog 227 (e4_ r s mv n1 n2) [.ref 0 0,evA x] [0] (e4_ r (a8o s x k) mv n1 n2) (I 0):=by
 have g1:=a4p (qat s.q k) x.car (by omega);obtain ⟨i,e,hi,hh⟩:=c6b (l:=qat s.q k) (c:=x.car) (Classical.byContradiction fun hn=>h0 (a2z.2 hn));unfold a8o;rw [e,Int.toNat_natCast];unfold a2n at e;rw [e] at g1;clear e h0 hh;obtain ⟨kd,tm,rk,car⟩:=x;simp only at hx;subst hx;have hw:=ixs (m:=i) (by omega);obtain ⟨w1,w2,w3,w4,w5,w6⟩:=hw;have hi2:i≤(qat s.q k).length:=by omega
 have hi3:(i:Int)+1≤((qat s.q k).length:Int):=by omega
 have hi4:i+1≤(qat s.q k).length:=hi;have hi5:(i:Int)≤((qat s.q k).length:Int):=by omega
 simp only [evA];refine g4_ Tryz.func227 rfl (by kernel_rfl) rfl (fun _=>by kernel_rfl) fun M0 w0 vs=>?_;simp only [Tryz.ntmps227,Tryz.results227,b4_];unfold e4_;repeat' first|(with_reducible first|apply a8_|apply a3_|apply a1_|refine a2_ [] ?_)|((with_reducible refine a0_ fun X Y=>?_);go_simp;refine Y _ ?_;clear Y X)
 refine b2_ 10 10 [] rfl (by kernel_rfl) (by kernel_rfl) ?_;simp only [List.take,List.drop];repeat' first|(with_reducible first|apply a8_|apply a3_|apply b1_|apply a1_|refine a2_ [] ?_|apply a5_)|((with_reducible refine a6_ ?_ ?_);(focus (go_simp;done)))|((with_reducible first|refine a0_ fun X Y=>?_|refine a4_ fun X Y=>?_);go_simp;(first|(refine ⟨_,⟨g1,rfl⟩,?_⟩)|skip);refine Y _ ?_;clear Y X)
 refine y9_ 15 [0,22,22,23,23,24,24,25,25,26,3,27,27,28] (by kernel_rfl) (by kernel_rfl) (by kernel_rfl) (fun v=>v) a0q rfl ⟨rfl,rfl⟩ ?_;simp only [List.take];repeat' first|with_reducible apply a5_|((with_reducible refine a4_ fun X Y=>?_);go_simp;refine Y _ ?_;clear Y X)
 refine ⟨_,_,a5b (by exact rfl) (by exact rfl) (by go_simp;exact a8n _ _ (by repeat' (first|exact TxO.one _|exact TxO.map _|apply TxO.take|apply TxO.drop|apply TxO.tail)) (by repeat' (first|exact TxO.one _|exact TxO.map _|apply TxO.take|apply TxO.drop|apply TxO.tail)) (by simp;omega)) (by go_simp),?_,?_,?_⟩
 ·simp only [List.forall_mem_cons];go_simp
 ·repeat' first|with_reducible apply a5_|((with_reducible refine a4_ fun X Y=>?_);go_simp;refine Y _ ?_;clear Y X)
  simp only [List.forall_mem_cons];go_simp
 go_simp;refine c0_ [] 2 ⟨rfl,rfl⟩ ?_;simp only [List.take,List.drop];repeat' first|with_reducible apply a1_|((with_reducible refine a0_ fun X Y=>?_);go_simp;refine Y _ ?_;clear Y X)
 apply d6_;repeat' first|(with_reducible first|apply a8_|apply a3_|apply c4_|apply a1_|refine a2_ [] ?_)|((with_reducible refine a0_ fun X Y=>?_);go_simp;refine Y _ ?_;clear Y X)
 go_simp;rw [←i2_];congr 1;rw [List.eraseIdx_eq_take_drop_succ,List.map_append,List.map_take,List.map_drop]
end Go.Proofs.YtoibondihdhnoaaGreatDoor
