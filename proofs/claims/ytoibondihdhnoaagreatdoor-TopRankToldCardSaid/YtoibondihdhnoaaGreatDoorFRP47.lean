/- Texts in one: Walks: the sizes of rules and of logs; the error of rules. -/
import Derived.Test.YtoibondihdhnoaaGreatDoorFRP9
import Derived.Test.YtoibondihdhnoaaGreatDoorFRP46
namespace Go.Proofs.YtoibondihdhnoaaGreatDoor
open Go.RowKit
set_option maxRecDepth 100000
set_option maxHeartbeats 2000000
def sA (r:Ru) (k:Nat) : Bool:=decide (20 < (rat r.ranks k).name.size)
def ua (r:Ru) : Bool:=decide (r.ranks.length≤8)&&!fU (sA r) 0 r.ranks.length
theorem NT (r:Ru) (hl:r.ranks.length≤9223372036854775807) : VC Tryz.prog 19 [cY r] (B (ua r)):=by
 unfold ua;by_cases h8:r.ranks.length≤8
 ·have NU:¬(8:Int) < (r.ranks.length:Int):=by omega
  obtain ⟨R,hR⟩ : ∃ R,fU (sA r) 0 r.ranks.length=R:=⟨_,rfl⟩
  rw [decide_eq_true h8,hR];have HR:=Lib.hid hR;have HL:=Lib.hid h8;clear hR h8 hl;refine aP Tryz.func19 rfl (by kernel_rfl) rfl fun M0 w0=>?_;simp only [Tryz.ntmps19,Tryz.results19,aF];repeat' with_reducible first|apply af|apply ae|apply au|apply aB|apply aa|refine ah [] ?_|(apply ar;·go_simp)|(apply ab;intro X Y;go_simp;apply Y;clear Y X)
  apply eo [1] (fun k=>[(3,I k)]) (fun k=>([] : Hp)) (sA r) (r.ranks.length)
  ·go_simp<;>exact rfl
  ·go_simp
  ·intro k hk HB HP K hK;have:=HL.out;obtain ⟨w1,w2,w3,w4,w5,w6⟩:=ixs (m:=k) (by omega);have hp:=HP.out;rw [sA,decide_eq_false_iff_not] at hp;have kZ:¬(20:Int) < ((rat r.ranks k).name.size:Int):=by omega
   clear hp this;repeat' with_reducible first|apply af|apply ae|apply au|apply aB|apply bp|apply aa|refine ah [] ?_|(apply aw;·go_simp)|(apply ar;·go_simp)|(apply ab;intro X Y;go_simp;apply Y;clear Y X)
   refine hK _ ?_;go_simp
  ·intro k hk HB HP K;have hp:=HP.out;rw [sA,decide_eq_true_eq] at hp;have kZ:(20:Int) < ((rat r.ranks k).name.size:Int):=by omega
   have e:=HR.out;rw [ni hk HP.out] at e;subst e;clear hp;repeat' with_reducible first|apply af|apply ae|apply aZ|apply ax|apply au|apply aB|apply cX|apply aa|refine ah [] ?_|(apply aw;·go_simp)|(apply ab;intro X Y;go_simp;apply Y;clear Y X)
   go_simp
  ·intro HB K;have e:=HR.out;rw [nj HB.out] at e;subst e;repeat' with_reducible first|apply af|apply ae|apply bP|apply ax|apply bQ|apply bT|apply aa|refine ah [] ?_|(apply ar;·go_simp)|(apply ab;intro X Y;go_simp;apply Y;clear Y X)
   go_simp
 ·have NU:(8:Int) < (r.ranks.length:Int):=by omega
  rw [decide_eq_false h8,Bool.false_and];clear h8 hl;refine aP Tryz.func19 rfl (by kernel_rfl) rfl fun M0 w0=>?_;simp only [Tryz.ntmps19,Tryz.results19,aF];repeat' with_reducible first|apply af|apply ae|apply aZ|apply ax|apply aa|refine ah [] ?_|(apply aw;·go_simp)|(apply ab;intro X Y;go_simp;apply Y;clear Y X)
  go_simp
theorem Hm {r:Ru} (h:ua r=true) : r.ranks.length≤8∧∀ k,k < r.ranks.length→(rat r.ranks k).name.size≤1000:=by
 unfold ua at h;rw [Bool.and_eq_true,decide_eq_true_eq,Bool.not_eq_true'] at h;refine ⟨h.1,fun k hk=>?_⟩;by_cases hb:sA r k=true
 ·have:=ni hk hb;rw [h.2] at this;cases this
 ·unfold sA at hb;have:¬20 < (rat r.ranks k).name.size:=fun hh=>hb (decide_eq_true hh);omega
theorem V0.nilTk {w:World} {M:Nat→Nat→Prop} {v:Value} {q:AV} {t:Int} (hv:V0 w M (.agg [q,br,I t]) v) : V0 w M (.agg [q,.sl 3 [],I t]) v:=by
 cases hv with
 | agg _ us hl h1 h2=>
  refine .agg _ us hl (fun c hc=>?_) fun j c u hc hu=>?_
  ·simp only [List.mem_cons,List.not_mem_nil,or_false] at hc;rcases hc with rfl|rfl|rfl
   ·exact h1 _ (by simp)
   ·rfl
   ·rfl
  ·rcases j with _|_|_|j
   ·exact h2 0 c u hc hu
   ·simp only [List.getElem?_cons_zero,List.getElem?_cons_succ,Option.some.injEq] at hc;subst hc;exact (h2 1 _ u rfl hu).nilSl 3
   ·exact h2 2 c u hc hu
   ·simp at hc
theorem NV (r:Ru) (hn:r.ranks.length≤1000000) : VC Tryz.prog 39 [cY r] (cT (st0 r)):=by
 refine (?_:VC Tryz.prog 39 [cY r] (.agg [gp (st0 r).q,br,I 0])).weak fun w M v hv=>hv.nilTk;unfold st0;simp only [gp,FM];have gU:r.ranks.length≤1000000000:=by omega
 have gX:(r.ranks.length:Int)≤1000000000:=by omega
 refine aP Tryz.func39 rfl (by kernel_rfl) rfl fun M0 w0=>?_;simp only [Tryz.ntmps39,Tryz.results39,aF];repeat' with_reducible apply af
 refine ah [] ?_;repeat' with_reducible first|apply af|apply ae|apply aa|(apply ab;intro X Y;go_simp;apply Y;clear Y X)
 refine ah [6] ?_;repeat ((with_reducible refine ab fun X Y=>?_);go_simp;refine Y _ ?_;clear Y X)
 apply aa;apply ae;refine jA (fun p a w R=>⟨_,R.toBag (id:=1) (sz:=1) rfl (by decide) (by kernel_rfl)⟩) ?_;go_simp;refine jA (fun p a w R=>R.bagArr (id:=1) rfl (by kernel_rfl)) ?_;go_simp;refine g_ 0 0 1 rfl rfl rfl ?_;repeat' with_reducible apply ax
 go_simp
end Go.Proofs.YtoibondihdhnoaaGreatDoor
