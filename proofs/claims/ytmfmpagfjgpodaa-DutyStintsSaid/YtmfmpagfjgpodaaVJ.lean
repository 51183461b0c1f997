/- Variables and rows of the call's own: made, written to, grown: of every program; no condition. -/
import Derived.Test.YtmfmpagfjgpodaaVI
namespace Go.Proofs.Ytmfmpagfjgpodaa
open Go.RowKit

def splA (cs : List AV) (off : Nat) (vs : List AV) : List AV := cs.take off ++ vs ++ cs.drop (off + vs.length)
/-- No slice that is row id: what is told of it may be stale. -/
def noOsl (id : Nat) : Nat → AV → Bool
  | 0, _ => false
  | n + 1, .agg cs => cs.all (noOsl id n)
  | n + 1, .tup cs => cs.all (noOsl id n)
  | n + 1, .fn _ a b => a.all (noOsl id n) && b.all (noOsl id n)
  | n + 1, .iface _ v => noOsl id n v
  | _ + 1, .osl i => i != id
  | _ + 1, .ref i _ => i != id
  | _ + 1, .aref i _ _ _ => i != id
  | _ + 1, _ => true
def purge (id : Nat) (v : AV) : AV := if noOsl id 5 v = true then v else .any
/-- A variable whose cells no longer tell of row id is given up. -/
def purgeO (id : Nat) : Option Ob → Option Ob
  | some (.box cs) => if cs.all (noOsl id 5) = true then some (.box cs) else none
  | o => o
def newH (st : VS) (d : Option Tmp) (av : AV) (ob : Ob) : Option VS := match d with | some d => some ⟨(d, av) :: st.s, st.h ++ [some ob]⟩ | none => none
def isOwn (ow : List Nat) (d : Option Tmp) : Bool := match d with | some d => ow.contains d | none => false
/-- What an operation makes of a state that makes or writes to memory of the call's own. -/
def tailOp (P : Program) (ow : List Nat) (st : VS) (o : Oper) : Option VS :=
  match o.op with
  | .alloc t => match tinfo P t with | some ti => newH st o.dst (.ref st.h.length 0) (.box (ti.zero.map .lit)) | none => none
  | .box _ x => if isOwn ow o.dst && oneOk (ev st x) then newH st o.dst (.ref st.h.length 0) (.box (avCells (ev st x))) else none
  | .buildSlice t n parts => if isOwn ow o.dst then (match rowA P t n (parts.toList.map fun q => (q.1, ev st q.2)) with
      | some (cs, ti) => if cs.all (pureA 5) then newH st o.dst (.osl st.h.length) (.arr ti.elem ti.esz false (chunkA ti.esz n cs)) else none
      | none => none) else none
  | .assign (.const (.slice none 0 0)) => if isOwn ow o.dst then (match tinfo P o.type with
      | some ti => if ti.kind = 1 ∧ ti.esz ≠ 0 then newH st o.dst (.osl st.h.length) (.arr ti.elem ti.esz true []) else none
      | none => none) else none
  | .makeSlice t l c => match tinfo P t, ev st l, ev st c with
      | some ti, .lit (.int .i64 n), .lit (.int .i64 m) => match tinfo P ti.elem with
        | some te => if ti.kind = 1 ∧ te.size = ti.esz ∧ te.zero.length = ti.esz ∧ ti.esz ≠ 0 ∧ n = m ∧ 0 ≤ n ∧ n ≤ 1000000000 ∧ te.bytes ≤ 100000 then newH st o.dst (.osl st.h.length) (.arr ti.elem ti.esz false (List.replicate n.toNat (te.zero.map .lit))) else none
        | none => none
      | _, _, _ => none
  | .store t x y => match o.dst, tinfo P t, ev st x with
    | none, some ti, .ref id off => match st.h[id]? with
      | some (some (.box cs)) => if oneOk (ev st y) = true ∧ (avCells (ev st y)).length = ti.size ∧ off + ti.size ≤ cs.length then some ⟨st.s, st.h.set id (some (.box (splA cs off (avCells (ev st y)))))⟩ else none
      | _ => none
    | none, some ti, .aref id sz i off => match st.h[id]? with
      | some (some (.arr e sz' nl es)) => if sz = sz' ∧ i < es.length ∧ oneOk (ev st y) = true ∧ (avCells (ev st y)).all (pureA 5) = true ∧ (avCells (ev st y)).length = ti.size ∧ off + ti.size ≤ sz then some ⟨st.s, st.h.set id (some (.arr e sz nl (es.set i (splA (es.getD i []) off (avCells (ev st y))))))⟩ else none
      | _ => none
    | _, _, _ => none
  | .call ⟨.builtin .append, xs, ts⟩ => match xs.toList, ts.toList, o.dst with
    | [x, y], [t, t'], some d => match tinfo P t, ev st x, ev st y with
      | some ti, .osl id, .sl sz es => match st.h[id]? with
        | some (some (.arr e sz' nl es')) => match tinfo P ti.elem with
          | some te => if t = t' ∧ ti.kind = 1 ∧ ti.elem = e ∧ sz = sz' ∧ ti.esz = sz ∧ te.size = sz ∧ te.zero.length = sz ∧ (nl = true → 0 < es.length) ∧ es'.length + es.length ≤ 1000000000 ∧ te.bytes ≤ 100000 then
              some ⟨(d, .osl id) :: st.s.map (fun q => (q.1, purge id q.2)), (st.h.set id (some (.arr e sz false (es' ++ es)))).map (purgeO id)⟩ else none
          | none => none
        | _ => none
      | _, _, _ => none
    | _, _, _ => none
  | _ => none
end Go.Proofs.Ytmfmpagfjgpodaa
