/- Texts in one: The law of stays and waits: true whatever the input is. -/
import Derived.Test.YtoibondihdhnoaaGreatDoorFRE56
import Derived.Test.YtoibondihdhnoaaGreatDoorFRE45
import Derived.Test.YtoibondihdhnoaaGreatDoorFRE39
import Derived.Test.YtoibondihdhnoaaGreatDoorFRE31
namespace Go.Proofs.YtoibondihdhnoaaGreatDoor
open Go.RowKit
set_option maxRecDepth 100000
set_option maxHeartbeats 2000000
theorem c4k {r:Ru} {l:List Ev} (h:b0d r l=0) : (e9_ r).2=0∧x6_ r l=0∧l.length≤200∧(goP r 0 l (st0 r)).2.2=0:=by
 unfold b0d at h;by_cases h1:x6_ r l=0
 ·rw [if_neg (by simpa using h1)] at h;obtain ⟨_,h2,h3⟩:=a7l h1;exact ⟨h2,h1,h3,h⟩
 ·rw [if_pos h1] at h;exact absurd h h1
theorem c1a {r:Ru} {l:List Ev} (h:b0d r l=0) : ∀ k,k < l.length→0≤(c5_ l k).time∧(c5_ l k).time≤604800:=fun k hk=>by
 have:=b7o (b3n l 0 (st0 r) (c4k h).2.2.2 _ (List.getElem_mem hk));rwa [←k2_ hk] at this
theorem b6j (l:List Ev) : (p4_ 0 l).length≤l.length:=by
 rw [←c0p];exact b2k l _
theorem c1b (l:List Ev) : (a0p l 0 l).length≤l.length:=by
 rw [←c0q];exact b2l l _
theorem c8s (r:Ru) (l:List Ev) (hl:r.ranks.length≤9223372036854775807) (hL:l.length≤9223372036854775807) : VC Tryz.prog 8 [c4_ r,n8_ l] (B true):=by
 have ha:=c7t;have gF:=d2l r hl;have gS:=c7u l hL;clear hl hL;cases hF:d0m r
 ·rw [hF] at gF;clear hF gS;refine b8_ Tryz.func8 rfl (by kernel_rfl) (by kernel_rfl) rfl fun M0 w0=>?_;simp only [Tryz.ntmps8,Tryz.results8,b2_];repeat' first|(with_reducible first|apply a8_|apply a3_|apply b4_|apply c2_|apply b0_|apply a1_|refine a2_ [] ?_)|((with_reducible refine a7_ ?_ ?_);(focus (go_simp;done)))|((with_reducible refine a6_ ?_ ?_);(focus (go_simp;done)))|((with_reducible refine a0_ fun X Y=>?_);go_simp;(first|(with_reducible refine ⟨_,ha,?_⟩)|(refine ⟨_,gF,?_⟩)|skip);refine Y _ ?_;clear Y X)
  go_simp
 rw [hF] at gF;cases hS:b0k l
 ·rw [hS] at gS;clear hF hS;refine b8_ Tryz.func8 rfl (by kernel_rfl) (by kernel_rfl) rfl fun M0 w0=>?_;simp only [Tryz.ntmps8,Tryz.results8,b2_];repeat' first|(with_reducible first|apply a8_|apply a3_|apply b4_|apply c2_|apply b0_|apply a1_|refine a2_ [] ?_)|((with_reducible refine a7_ ?_ ?_);(focus (go_simp;done)))|((with_reducible refine a6_ ?_ ?_);(focus (go_simp;done)))|((with_reducible refine a0_ fun X Y=>?_);go_simp;(first|(with_reducible refine ⟨_,ha,?_⟩)|(refine ⟨_,gF,?_⟩)|(refine ⟨_,gS,?_⟩)|skip);refine Y _ ?_;clear Y X)
  go_simp
 rw [hS] at gS;obtain ⟨h8,hnm⟩:=d0n hF;obtain ⟨h202,hc⟩:=c3v hS;have hsm:SmallL r l:=⟨by omega,hnm,hc⟩
 have g1:=b2b r (by omega);have g2:=b9p l (by omega);have g3:=c7q r l hsm;have g4:=b9n r l hsm;have g5:=c4h r l (by omega) hnm (by omega) hc;by_cases h:b0d r l=0
 ·have g6:=c8k l (by omega);have g7:=c8l l (by omega) (c1a h);have g8:=b2a (p4_ 0 l) (by have:=b6j l;omega);have g9:=a4i (a0p l 0 l) (by have:=c1b l;omega);rw [if_pos h,h] at g3 g4;rw [h] at g5;clear hF hS h8 hnm h202 hc hsm h;generalize p4_ 0 l=A at *;generalize a0p l 0 l=W at *;refine b8_ Tryz.func8 rfl (by kernel_rfl) (by kernel_rfl) rfl fun M0 w0=>?_;simp only [Tryz.ntmps8,Tryz.results8,b2_];repeat' first|(with_reducible first|apply a8_|apply a3_|apply c2_|apply b0_|apply a1_|refine a2_ [] ?_)|((with_reducible refine a6_ ?_ ?_);(focus (go_simp;done)))|((with_reducible refine a0_ fun X Y=>?_);go_simp;(first|(with_reducible refine ⟨_,ha,?_⟩)|(refine ⟨_,gF,?_⟩)|(refine ⟨_,gS,?_⟩)|(refine ⟨_,g1,?_⟩)|(refine ⟨_,g2,?_⟩)|(refine ⟨_,g3,?_⟩)|(refine ⟨_,g4,?_⟩)|(refine ⟨_,g5,?_⟩)|(refine ⟨_,g6,?_⟩)|(refine ⟨_,g7,?_⟩)|(refine ⟨_,g8,?_⟩)|(refine ⟨_,g9,?_⟩)|skip);refine Y _ ?_;clear Y X)
  go_simp
 ·rw [if_neg h] at g3 g4;clear hF hS h8 hnm h202 hc hsm;generalize b0d r l=E at *;have hw0:IntKind.i64.wrap 0=0:=by decide
  refine b8_ Tryz.func8 rfl (by kernel_rfl) (by kernel_rfl) rfl fun M0 w0=>?_;simp only [Tryz.ntmps8,Tryz.results8,b2_];repeat' first|(with_reducible first|apply a8_|apply a3_|apply b4_|apply c2_|apply b0_|apply a1_|refine a2_ [] ?_)|((with_reducible refine a7_ ?_ ?_);(focus (go_simp;done)))|((with_reducible refine a6_ ?_ ?_);(focus (go_simp;done)))|((with_reducible refine a0_ fun X Y=>?_);go_simp;(first|(with_reducible refine ⟨_,ha,?_⟩)|(refine ⟨_,gF,?_⟩)|(refine ⟨_,gS,?_⟩)|(refine ⟨_,g1,?_⟩)|(refine ⟨_,g2,?_⟩)|(refine ⟨_,g3,?_⟩)|(refine ⟨_,g4,?_⟩)|(refine ⟨_,g5,?_⟩)|skip);refine Y _ ?_;clear Y X)
  go_simp
end Go.Proofs.YtoibondihdhnoaaGreatDoor
