/- Texts in one: Walks: all cars that stand in queues; whether a text is among texts. -/
import Derived.Test.YtoibondihdhnoaaGreatDoorFRL50
import Derived.Test.YtoibondihdhnoaaGreatDoorFRL38
import Derived.Test.YtoibondihdhnoaaGreatDoorFRL13
namespace Go.Proofs.YtoibondihdhnoaaGreatDoor
open Go.RowKit
set_option maxRecDepth 100000
set_option maxHeartbeats 2000000
def flN (s:St) (k:Nat) : List ByteArray:=(s.q.take k).flatten
theorem b3x {s:St} {k:Nat} (h:k < s.q.length) : flN s (k+1)=flN s k++qat s.q k:=by
 unfold flN;rw [k0_ h,List.flatten_append,f5_ h];simp
theorem c0h (s:St) : flN s s.q.length=s.q.flatten:=by
 unfold flN;rw [List.take_length]
theorem b1w {s:St} (h:SmallS s) : ∀ (k:Nat),k≤s.q.length→(flN s k).length≤300*k
 | 0,_=>by simp [flN]
 | k+1,hk=>by
  have ih:=b1w h k (by omega);have:=(h.q1 _ (List.getElem_mem (show k < s.q.length by omega))).1;rw [b3x (by omega),List.length_append,f5_ (by omega)];omega
theorem d1w (s:St) (h:SmallS s) : VCo Tryz.prog 69 [j0_ s] 9 1 (decide (s.q.flatten=[])) (s.q.flatten.map r0_):=by
 rw [←c0h];have e0:flN s 0=[]:=by simp [flN]
 have hlen:=b1w h;have HL:=Lib.hid hlen;have hnq:=h.nq;have hq1:=h.q1;have HQ:=Lib.hid hq1;obtain ⟨i0,hi0⟩ : ∃ i,Tryz.prog.info? 9=some i:=Option.isSome_iff_exists.1 (by kernel_rfl);have HI:=Lib.hid hi0;clear h hlen hq1 hi0;refine c0o Tryz.func69 rfl (by kernel_rfl) (by kernel_rfl) rfl Tryz.results69 (by decide) (c3v _) fun M0 w0=>?_;simp only [Tryz.ntmps69,b4_];repeat' first|(with_reducible first|apply a8_|apply a3_|apply a9_|apply a1_|refine a2_ [3] ?_)|((with_reducible refine a0_ fun X Y=>?_);go_simp;refine Y _ ?_;clear Y X)
 apply c1b [1] (fun k=>[(4,I k),(3,.osl 0)]) (fun k=>([some (.arr 9 1 (decide (flN s k=[])) ((flN s k).map r0_))] : Hp))  (s.q.length)
 ·go_simp<;>exact rfl
 ·go_simp
 ·intro k hk K hK;obtain ⟨w1,w2,w3,w4,w5,w6⟩:=ixs (m:=k) (by omega);have hs:=b3x hk;have hb:(flN s k).length≤100000:=by have:=HL.out k (by omega);omega
  have hb2:(qat s.q k).length≤300:=by rw [f5_ hk];exact (HQ.out _ (List.getElem_mem hk)).1
  clear e0;rw [hs] at hK;clear hs;generalize flN s k=F at *;by_cases hF:F=[]
  ·subst hF;by_cases hQ:qat s.q k=[]
   ·rw [hQ] at hK hb2;repeat' with_reducible apply a8_
    refine a2_ [] ?_;repeat' first|(with_reducible first|apply a8_|apply a3_|apply b1_|apply a9_|apply a1_)|((with_reducible refine a7_ ?_ ?_);(focus (go_simp;done)))|((with_reducible refine a0_ fun X Y=>?_);go_simp;refine Y _ ?_;clear Y X)
    refine c3_ (b8_ [] 6 ⟨rfl,rfl⟩ ?_);simp only [List.take,List.drop];repeat' first|with_reducible apply a1_|((with_reducible refine a0_ fun X Y=>?_);go_simp;refine Y _ ?_;clear Y X)
    refine c5n (sz:=1) (id:=0) (e1:=9) (es:=[]) ⟨rfl,rfl,rfl⟩ Tryz.underlying62 HI.out (by go_simp) (by go_simp) (by go_simp) ?_;refine b8_ [] 1 ⟨rfl,rfl⟩ ?_;simp only [List.take,List.drop];repeat' first|with_reducible apply a1_|((with_reducible refine a0_ fun X Y=>?_);go_simp;refine Y _ ?_;clear Y X)
    apply d3_;repeat' with_reducible first|apply a3_|apply b5_
    refine a2_ [] ?_;repeat' first|(with_reducible first|apply a3_|apply a1_)|((with_reducible refine a0_ fun X Y=>?_);go_simp;refine Y _ ?_;clear Y X)
    refine hK _ ?_;go_simp
   ·have e1:decide (([] : List ByteArray)++qat s.q k=[])=false:=by simpa using hQ
    have h0:0 < (qat s.q k).length:=List.length_pos_iff.2 hQ;have h3:(qat s.q k).length≤1000000000:=by omega
    rw [e1] at hK;clear e1;repeat' first|(with_reducible first|apply a8_|apply a3_|apply b1_|apply a9_|apply b5_|apply a1_|refine a2_ [] ?_)|((with_reducible refine a7_ ?_ ?_);(focus (go_simp;done)))|((with_reducible refine a0_ fun X Y=>?_);go_simp;refine Y _ ?_;clear Y X)
    refine hK _ ?_;go_simp
  ·have e1:decide (F++qat s.q k=[])=false:=by simp [hF]
   have e2:decide (F=[])=false:=by simp [hF]
   have e3:F.length+(qat s.q k).length≤1000000000:=by omega
   rw [e1] at hK;rw [e2];clear e1 e2;repeat' first|(with_reducible first|apply a8_|apply a3_|apply b1_|apply a9_|apply b5_|apply a1_|refine a2_ [] ?_)|((with_reducible refine a7_ ?_ ?_);(focus (go_simp;done)))|((with_reducible refine a0_ fun X Y=>?_);go_simp;refine Y _ ?_;clear Y X)
   refine hK _ ?_;go_simp
 ·intro K;clear e0;repeat' first|(with_reducible first|apply a8_|apply a3_|apply c1_|apply c2_|apply e0_|apply b6_|apply a1_|refine a2_ [] ?_)|((with_reducible refine a6_ ?_ ?_);(focus (go_simp;done)))|((with_reducible refine a0_ fun X Y=>?_);go_simp;refine Y _ ?_;clear Y X)
  exact ⟨0,rfl,rfl⟩
end Go.Proofs.YtoibondihdhnoaaGreatDoor
