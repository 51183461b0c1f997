/- The rules by which plain values are worked out: of every program; no condition. -/
import Derived.Test.YtmfmpagfjgpodaaVM
import Derived.IntWalk
namespace Go.Proofs.Ytmfmpagfjgpodaa
open Go.RowKit
section
variable {P : Program} {ow : List Nat} {ops l : List Oper} {o : Oper} {st : VS} {K : VS → Prop}
theorem vrun_nil (h : K st) : VRun P ow ops [] st K := h
theorem vrun_cons (h : ∀ KK : VS → Prop, (∀ st, VRun P ow ops l st K → KK st) → VOp P ow ops o st KK) : VRun P ow ops (o :: l) st K := h _ fun _ h => h
/-- A call of a region. -/
theorem vcall {c : Call} {k : FuncId} {args : List AV} {r : AV} {h : Hp} {E : Operand → AV} {KK : AV → Prop} (hc : calleeA E c = some (k, args)) (hv : VC P k (args.map (prepA h)) r) (hp : args.all (pureA 5) = true ∨ flatA 3 r = true) (hk : KK r) :
    ∃ r, CallOK P h E c r ∧ KK r := ⟨r, by unfold CallOK; rw [hc]; exact ⟨hv, hp⟩, hk⟩
theorem vhrun_nil (h : K st) : VHRun P ops [] st K := h
theorem vhrun_cons (h : ∀ KK : VS → Prop, (∀ st, VHRun P ops l st K → KK st) → VHOp P ops o st KK) : VHRun P ops (o :: l) st K := h _ fun _ h => h
theorem wrap_eq {x : Int} (h1 : -9223372036854775808 ≤ x) (h2 : x ≤ 9223372036854775807) : IntKind.i64.wrap x = x := IntWalk.i64_in _ (by omega)
end
attribute [go_sem] OwnOK ownCall Value.oneCell' CallOK exists_eq_left' VOp VDo VHOp VHDo guardA tailOp newH isOwn ev VS.put lkp Gives pureOp allocOp loadA cellsAt avCells binA eqLs eqLeaf pBin pBool unA convA faddrA fieldA partA iaddrA indexA sliceA bound buildA fillA placeA putA oneOk oneAV lenA ifaceA bltA nilA pureA prepA thaw flatA rowA zrow chunkA splA noOsl purge purgeO VThen VBlock VRet resA oneR enumA calleeA idsB idsO leS leO leH Le
/-! ### Plain values, in short -/
abbrev I (n : Int) : AV := .lit (.int .i64 n)
abbrev B (b : Bool) : AV := .lit (.bool b)
abbrev S (b : ByteArray) : AV := .lit (.string b)
end Go.Proofs.Ytmfmpagfjgpodaa
