/- Texts in one: Walks: the sizes of rules and of logs; the error of rules. -/
import Derived.Test.YtoibondihdhnoaaGreatDoorFRN45
namespace Go.Proofs.YtoibondihdhnoaaGreatDoor
open Go.RowKit
set_option maxRecDepth 100000
set_option maxHeartbeats 2000000
def b1z (r:Ru) (k:Nat) : Bool:=decide (20 < (rat r.ranks k).name.size)
def d0l (r:Ru) : Bool:=decide (r.ranks.length≤8)&&!a2w (b1z r) 0 r.ranks.length
theorem d2g (r:Ru) (hl:r.ranks.length≤9223372036854775807) : VC Tryz.prog 19 [c3_ r] (B (d0l r)):=by
 unfold d0l;by_cases h8:r.ranks.length≤8
 ·have h8':¬(8:Int) < (r.ranks.length:Int):=by omega
  obtain ⟨R,hR⟩ : ∃ R,a2w (b1z r) 0 r.ranks.length=R:=⟨_,rfl⟩
  rw [decide_eq_true h8,hR];have HR:=Lib.hid hR;have HL:=Lib.hid h8;clear hR h8 hl;refine c2_ Tryz.func19 rfl (by kernel_rfl) (by kernel_rfl) rfl fun M0 w0=>?_;simp only [Tryz.ntmps19,Tryz.results19,b4_];repeat' first|(with_reducible first|apply a8_|apply a3_|apply b1_|apply a9_|apply a1_|refine a2_ [] ?_)|((with_reducible refine a6_ ?_ ?_);(focus (go_simp;done)))|((with_reducible refine a0_ fun X Y=>?_);go_simp;refine Y _ ?_;clear Y X)
  apply u8_ [1] (fun k=>[(3,I k)]) (fun k=>([] : Hp)) (b1z r) (r.ranks.length)
  ·go_simp<;>exact rfl
  ·go_simp
  ·intro k hk HB HP K hK;have:=HL.out;obtain ⟨w1,w2,w3,w4,w5,w6⟩:=ixs (m:=k) (by omega);have hp:=HP.out;rw [b1z,decide_eq_false_iff_not] at hp;have hp2:¬(20:Int) < ((rat r.ranks k).name.size:Int):=by omega
   clear hp this;repeat' first|(with_reducible first|apply a8_|apply a3_|apply b1_|apply a9_|apply b3_|apply a1_|refine a2_ [] ?_)|((with_reducible refine a7_ ?_ ?_);(focus (go_simp;done)))|((with_reducible refine a6_ ?_ ?_);(focus (go_simp;done)))|((with_reducible refine a0_ fun X Y=>?_);go_simp;refine Y _ ?_;clear Y X)
   refine hK _ ?_;go_simp
  ·intro k hk HB HP K;have hp:=HP.out;rw [b1z,decide_eq_true_eq] at hp;have hp2:(20:Int) < ((rat r.ranks k).name.size:Int):=by omega
   have e:=HR.out;rw [k3_ hk HP.out] at e;subst e;clear hp;repeat' first|(with_reducible first|apply a8_|apply a3_|apply b5_|apply c4_|apply b1_|apply a9_|apply c8_|apply a1_|refine a2_ [] ?_)|((with_reducible refine a7_ ?_ ?_);(focus (go_simp;done)))|((with_reducible refine a0_ fun X Y=>?_);go_simp;refine Y _ ?_;clear Y X)
   go_simp
  ·intro HB K;have e:=HR.out;rw [m7_ HB.out] at e;subst e;repeat' first|(with_reducible first|apply a8_|apply a3_|apply b8_|apply c4_|apply d0_|apply b7_|apply a1_|refine a2_ [] ?_)|((with_reducible refine a6_ ?_ ?_);(focus (go_simp;done)))|((with_reducible refine a0_ fun X Y=>?_);go_simp;refine Y _ ?_;clear Y X)
   go_simp
 ·have h8':(8:Int) < (r.ranks.length:Int):=by omega
  rw [decide_eq_false h8,Bool.false_and];clear h8 hl;refine c2_ Tryz.func19 rfl (by kernel_rfl) (by kernel_rfl) rfl fun M0 w0=>?_;simp only [Tryz.ntmps19,Tryz.results19,b4_];repeat' first|(with_reducible first|apply a8_|apply a3_|apply b5_|apply c4_|apply a1_|refine a2_ [] ?_)|((with_reducible refine a7_ ?_ ?_);(focus (go_simp;done)))|((with_reducible refine a0_ fun X Y=>?_);go_simp;refine Y _ ?_;clear Y X)
  go_simp
theorem d0m {r:Ru} (h:d0l r=true) : r.ranks.length≤8∧∀ k,k < r.ranks.length→(rat r.ranks k).name.size≤1000:=by
 unfold d0l at h;rw [Bool.and_eq_true,decide_eq_true_eq,Bool.not_eq_true'] at h;refine ⟨h.1,fun k hk=>?_⟩;by_cases hb:b1z r k=true
 ·have:=k3_ hk hb;rw [h.2] at this;cases this
 ·unfold b1z at hb;have:¬20 < (rat r.ranks k).name.size:=fun hh=>hb (decide_eq_true hh);omega
theorem b6b (r:Ru) (hn:r.ranks.length≤1000000) (hnm:∀ k,k < r.ranks.length→(rat r.ranks k).name.size≤1000) : VC Tryz.prog 24 [c3_ r] (I (d2_ r).2):=by
 have g:=b0a r hn hnm;generalize (d2_ r).2=E at *;generalize ((d2_ r).1:Int)=K0 at *;refine c2_ Tryz.func24 rfl (by kernel_rfl) (by kernel_rfl) rfl fun M0 w0=>?_;simp only [Tryz.ntmps24,Tryz.results24,b4_];repeat' first|(with_reducible first|apply a8_|apply a3_|apply c4_|apply a1_|refine a2_ [] ?_)|((with_reducible refine a0_ fun X Y=>?_);go_simp;(first|(refine ⟨_,g,?_⟩)|skip);refine Y _ ?_;clear Y X)
 go_simp
end Go.Proofs.YtoibondihdhnoaaGreatDoor
