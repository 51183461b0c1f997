/- Texts in one: Walks: the sizes of rules and of logs; the error of rules. -/
import Derived.Test.YtoibondihdhnoaaGreatDoorFRK9
import Derived.Test.YtoibondihdhnoaaGreatDoorFRK46
namespace Go.Proofs.YtoibondihdhnoaaGreatDoor
open Go.RowKit
set_option maxRecDepth 100000
set_option maxHeartbeats 2000000
def sw (r:Ru) (k:Nat) : Bool:=decide (20 < (rat r.ranks k).name.size)
def vX (r:Ru) : Bool:=decide (r.ranks.length≤8)&&!gg (sw r) 0 r.ranks.length
theorem MZ (r:Ru) (hl:r.ranks.length≤9223372036854775807) : VC Tryz.prog 19 [b8 r] (B (vX r)):=by
 unfold vX;by_cases h8:r.ranks.length≤8
 ·have M4:¬(8:Int) < (r.ranks.length:Int):=by omega
  obtain ⟨R,hR⟩ : ∃ R,gg (sw r) 0 r.ranks.length=R:=⟨_,rfl⟩
  rw [decide_eq_true h8,hR];have HR:=Lib.hid hR;have HL:=Lib.hid h8;clear hR h8 hl;refine aQ Tryz.func19 rfl (by kernel_rfl) rfl fun M0 w0=>?_;simp only [Tryz.ntmps19,Tryz.results19,aB];repeat' with_reducible first|apply af|apply ae|apply ar|apply aA|apply aa|refine ah [] ?_|(apply ak;·go_simp)|(apply ab;intro X Y;go_simp;apply Y;clear Y X)
  apply dI [1] (fun k=>[(3,I k)]) (fun k=>([] : Hp)) (sw r) (r.ranks.length)
  ·go_simp<;>exact rfl
  ·go_simp
  ·intro k hk HB HP K hK;have:=HL.out;obtain ⟨w1,w2,w3,w4,w5,w6⟩:=ixs (m:=k) (by omega);have hp:=HP.out;rw [sw,decide_eq_false_iff_not] at hp;have fX:¬(20:Int) < ((rat r.ranks k).name.size:Int):=by omega
   clear hp this;repeat' with_reducible first|apply af|apply ae|apply ar|apply aA|apply bf|apply aa|refine ah [] ?_|(apply aw;·go_simp)|(apply ak;·go_simp)|(apply ab;intro X Y;go_simp;apply Y;clear Y X)
   refine hK _ ?_;go_simp
  ·intro k hk HB HP K;have hp:=HP.out;rw [sw,decide_eq_true_eq] at hp;have fX:(20:Int) < ((rat r.ranks k).name.size:Int):=by omega
   have e:=HR.out;rw [mh hk HP.out] at e;subst e;clear hp;repeat' with_reducible first|apply af|apply ae|apply aT|apply az|apply ar|apply aA|apply cG|apply aa|refine ah [] ?_|(apply aw;·go_simp)|(apply ab;intro X Y;go_simp;apply Y;clear Y X)
   go_simp
  ·intro HB K;have e:=HR.out;rw [oo HB.out] at e;subst e;repeat' with_reducible first|apply af|apply ae|apply bP|apply az|apply bQ|apply bT|apply aa|refine ah [] ?_|(apply ak;·go_simp)|(apply ab;intro X Y;go_simp;apply Y;clear Y X)
   go_simp
 ·have M4:(8:Int) < (r.ranks.length:Int):=by omega
  rw [decide_eq_false h8,Bool.false_and];clear h8 hl;refine aQ Tryz.func19 rfl (by kernel_rfl) rfl fun M0 w0=>?_;simp only [Tryz.ntmps19,Tryz.results19,aB];repeat' with_reducible first|apply af|apply ae|apply aT|apply az|apply aa|refine ah [] ?_|(apply aw;·go_simp)|(apply ab;intro X Y;go_simp;apply Y;clear Y X)
  go_simp
theorem M5 {r:Ru} (h:vX r=true) : r.ranks.length≤8∧∀ k,k < r.ranks.length→(rat r.ranks k).name.size≤1000:=by
 unfold vX at h;rw [Bool.and_eq_true,decide_eq_true_eq,Bool.not_eq_true'] at h;refine ⟨h.1,fun k hk=>?_⟩;by_cases hb:sw r k=true
 ·have:=mh hk hb;rw [h.2] at this;cases this
 ·unfold sw at hb;have:¬20 < (rat r.ranks k).name.size:=fun hh=>hb (decide_eq_true hh);omega
theorem M6 (r:Ru) (hn:r.ranks.length≤1000000) (ch:∀ k,k < r.ranks.length→(rat r.ranks k).name.size≤1000) : VC Tryz.prog 24 [b8 r] (I (di r).2):=by
 have g:=MT r hn ch;generalize (di r).2=E at *;generalize ((di r).1:Int)=K0 at *;refine aQ Tryz.func24 rfl (by kernel_rfl) rfl fun M0 w0=>?_;simp only [Tryz.ntmps24,Tryz.results24,aB];repeat' first|(with_reducible first|apply af|apply ae|apply az|apply aa|refine ah [] ?_)|((with_reducible apply ab);intro X Y;go_simp;(first|(refine ⟨_,g,?_⟩)|skip);apply Y;clear Y X)
 go_simp
theorem B4:VC Tryz.prog 25 [.agg [aW,aW,I 0],.agg [aW,aW,I 0]] (B true):=by
 refine aQ Tryz.func25 rfl (by kernel_rfl) rfl fun M0 w0=>?_;simp only [Tryz.ntmps25,Tryz.results25,aB];repeat' with_reducible first|apply af|apply ae|apply ar|apply aA|apply aa|refine ah [] ?_|(apply ak;·go_simp)|(apply ab;intro X Y;go_simp;apply Y;clear Y X)
 apply dI [2,3] (fun k=>[(5,I k)]) (fun k=>([] : Hp)) (fun _=>false) (0)
 ·go_simp<;>exact rfl
 ·go_simp
 ·intro k hk;omega
 ·intro k hk;omega
 ·intro HB K;repeat' with_reducible first|apply af|apply ae|apply bP|apply bQ|apply aA|apply bT|apply aa|refine ah [] ?_|(apply ak;·go_simp)|(apply ab;intro X Y;go_simp;apply Y;clear Y X)
  apply dI [2,3] (fun k=>[(6,I k)]) (fun k=>([] : Hp)) (fun _=>false) (0)
  ·go_simp<;>exact rfl
  ·go_simp
  ·intro k hk;omega
  ·intro k hk;omega
  ·intro HB K;repeat' with_reducible first|apply af|apply ae|apply bP|apply az|apply bQ|apply bT|apply aa|refine ah [] ?_|(apply ak;·go_simp)|(apply ab;intro X Y;go_simp;apply Y;clear Y X)
   go_simp
end Go.Proofs.YtoibondihdhnoaaGreatDoor
