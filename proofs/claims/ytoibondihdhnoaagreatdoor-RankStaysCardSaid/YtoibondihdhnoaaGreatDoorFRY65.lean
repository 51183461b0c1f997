/- Texts in one: The law of stays and waits: true whatever the input is. -/
import Derived.Test.YtoibondihdhnoaaGreatDoorFRY8
import Derived.Test.YtoibondihdhnoaaGreatDoorFRY62
import Derived.Test.YtoibondihdhnoaaGreatDoorFRY64
namespace Go.Proofs.YtoibondihdhnoaaGreatDoor
open Go.RowKit
set_option maxRecDepth 100000
set_option maxHeartbeats 2000000
theorem PO {r:Ru} {l:List Ev} (h:gE r l=0) : ∀ k,k < l.length→0≤(aB l k).time∧(aB l k).time≤604800:=fun k hk=>by
 have:=vu (vY l 0 (st0 r) (uG h).2.2.2 _ (List.getElem_mem hk));rwa [←kq hk] at this
theorem PQ (l:List Ev) : (kt 0 l).length≤l.length:=by
 rw [←H9];exact Dk l _
theorem Ig (l:List Ev) : (fI l 0 l).length≤l.length:=by
 rw [←Ib];exact Dl l _
theorem PR (r:Ru) (l:List Ev) (hl:r.ranks.length≤9223372036854775807) (hL:l.length≤9223372036854775807) : VC Tryz.prog 8 [bN r,cF l] (B true):=by
 have ha:=zh;have gF:=zi r hl;have gS:=zk l hL;clear hl hL;cases hF:qW r
 ·rw [hF] at gF;clear hF gS;refine aJ Tryz.func8 rfl (by kernel_rfl) rfl fun M0 w0=>?_;simp only [Tryz.ntmps8,Tryz.results8,aC];repeat' first|(with_reducible first|apply af|apply ae|apply aR|apply aw|apply ao|apply aa|refine ah [] ?_|(apply au;·go_simp)|(apply aj;·go_simp))|((with_reducible apply ab);intro X Y;go_simp;(first|(with_reducible refine ⟨_,ha,?_⟩)|(refine ⟨_,gF,?_⟩)|skip);apply Y;clear Y X)
  go_simp
 rw [hF] at gF;cases hS:qX l
 ·rw [hS] at gS;clear hF hS;refine aJ Tryz.func8 rfl (by kernel_rfl) rfl fun M0 w0=>?_;simp only [Tryz.ntmps8,Tryz.results8,aC];repeat' first|(with_reducible first|apply af|apply ae|apply aR|apply aw|apply ao|apply aa|refine ah [] ?_|(apply au;·go_simp)|(apply aj;·go_simp))|((with_reducible apply ab);intro X Y;go_simp;(first|(with_reducible refine ⟨_,ha,?_⟩)|(refine ⟨_,gF,?_⟩)|(refine ⟨_,gS,?_⟩)|skip);apply Y;clear Y X)
  go_simp
 rw [hS] at gS;obtain ⟨h8,cf⟩:=zj hF;obtain ⟨fA,hc⟩:=zm hS;have cJ:SmallL r l:=⟨by omega,cf,hc⟩
 have g1:=zf r (by omega);have g2:=zd l (by omega);have g3:=MV r l cJ;have g4:=Cw r l cJ;have g5:=Da r l (by omega) cf (by omega) hc;by_cases h:gE r l=0
 ·have g6:=PI l (by omega);have g7:=PJ l (by omega) (PO h);have g8:=MW (kt 0 l) (by have:=PQ l;omega);have g9:=GJ (fI l 0 l) (by have:=Ig l;omega);rw [if_pos h,h] at g3 g4;rw [h] at g5;clear hF hS h8 cf fA hc cJ h;generalize kt 0 l=A at *;generalize fI l 0 l=W at *;refine aJ Tryz.func8 rfl (by kernel_rfl) rfl fun M0 w0=>?_;simp only [Tryz.ntmps8,Tryz.results8,aC];repeat' first|(with_reducible first|apply af|apply ae|apply aw|apply ao|apply aa|refine ah [] ?_|(apply aj;·go_simp))|((with_reducible apply ab);intro X Y;go_simp;(first|(with_reducible refine ⟨_,ha,?_⟩)|(refine ⟨_,gF,?_⟩)|(refine ⟨_,gS,?_⟩)|(refine ⟨_,g1,?_⟩)|(refine ⟨_,g2,?_⟩)|(refine ⟨_,g3,?_⟩)|(refine ⟨_,g4,?_⟩)|(refine ⟨_,g5,?_⟩)|(refine ⟨_,g6,?_⟩)|(refine ⟨_,g7,?_⟩)|(refine ⟨_,g8,?_⟩)|(refine ⟨_,g9,?_⟩)|skip);apply Y;clear Y X)
  go_simp
 ·rw [if_neg h] at g3 g4;clear hF hS h8 cf fA hc cJ;generalize gE r l=E at *;have AM:IntKind.i64.wrap 0=0:=by decide
  refine aJ Tryz.func8 rfl (by kernel_rfl) rfl fun M0 w0=>?_;simp only [Tryz.ntmps8,Tryz.results8,aC];repeat' first|(with_reducible first|apply af|apply ae|apply aR|apply aw|apply ao|apply aa|refine ah [] ?_|(apply au;·go_simp)|(apply aj;·go_simp))|((with_reducible apply ab);intro X Y;go_simp;(first|(with_reducible refine ⟨_,ha,?_⟩)|(refine ⟨_,gF,?_⟩)|(refine ⟨_,gS,?_⟩)|(refine ⟨_,g1,?_⟩)|(refine ⟨_,g2,?_⟩)|(refine ⟨_,g3,?_⟩)|(refine ⟨_,g4,?_⟩)|(refine ⟨_,g5,?_⟩)|skip);apply Y;clear Y X)
  go_simp
end Go.Proofs.YtoibondihdhnoaaGreatDoor
