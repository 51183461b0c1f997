/- Plain values that stand for values and for the memory behind them: of every program; no condition. -/
import Derived.Test.YtmfmpagfjgpodaaReg
namespace Go.Proofs.Ytmfmpagfjgpodaa
open Go.RowKit

/-- A plain value: any, one that is known, a struct or an array, several results, a slice that nobody writes to any more, a pointer to cells that nobody writes to any more,
a function, an interface's value, a pointer into a variable of the call's own, into a row of the call's own, and the slice that is a row of the call's own. -/
inductive AV where
  | any
  | lit (v : Value)
  | agg (cs : List AV)
  | tup (vs : List AV)
  | sl (sz : Nat) (es : List (List AV))
  | vp (cs : List AV)
  | fn (f : Fn) (first cap : List AV)
  | iface (t : TypeId) (v : AV)
  | ref (id off : Nat)
  | aref (id sz i off : Nat)
  | osl (id : Nat)
/-- A variable or a row of the call's own. -/
inductive Ob where
  | box (cs : List AV)
  | arr (e : TypeId) (sz : Nat) (isnil : Bool) (es : List (List AV))
abbrev Hp := List (Option Ob)

/-- Fits one cell of memory. -/
def oneAV : AV → Bool
  | .any | .agg _ | .tup _ => false
  | .lit v => v.oneCell'
  | _ => true

/-- The value v is what av tells, its memory in blocks that M leaves alone. -/
inductive V0 (w : World) (M : Nat → Prop) : AV → Value → Prop
  | any (v : Value) : V0 w M .any v
  | lit (v : Value) : V0 w M (.lit v) v
  | agg (cs : List AV) (us : List Value) (hl : us.length = cs.length) (h1 : ∀ c ∈ cs, oneAV c = true) (h : ∀ (i : Nat) (c : AV) (u : Value), cs[i]? = some c → us[i]? = some u → V0 w M c u) : V0 w M (.agg cs) (.agg us.toArray)
  | tup (cs : List AV) (us : List Value) (hl : us.length = cs.length) (h : ∀ (i : Nat) (c : AV) (u : Value), cs[i]? = some c → us[i]? = some u → V0 w M c u) : V0 w M (.tup cs) (.tuple us.toArray)
  | slNil (sz : Nat) (A : Option Addr) (cap : Nat) : V0 w M (.sl sz []) (.slice A 0 cap)
  | sl (sz : Nat) (es : List (List AV)) (cap b o : Nat) (u : Nat → Nat → Value) (hne : es ≠ []) (hb : b < w.heap.size) (hM : ¬ M b) (hcap : es.length ≤ cap) (hsz : ∀ (k : Nat) (e : List AV), es[k]? = some e → e.length = sz)
      (h1 : ∀ (k : Nat) (e : List AV) (j : Nat) (c : AV), es[k]? = some e → e[j]? = some c → oneAV c = true)
      (hc : ∀ k j, k < es.length → j < sz → w.cell? ⟨b, o + k * sz + j, none⟩ = some (u k j))
      (h : ∀ (k : Nat) (e : List AV) (j : Nat) (c : AV), es[k]? = some e → e[j]? = some c → V0 w M c (u k j)) : V0 w M (.sl sz es) (.slice (some ⟨b, o, none⟩) es.length cap)
  | vp (cs : List AV) (b o : Nat) (u : Nat → Value) (hb : b < w.heap.size) (hM : ¬ M b) (h1 : ∀ c ∈ cs, oneAV c = true) (hc : ∀ j, j < cs.length → w.cell? ⟨b, o + j, none⟩ = some (u j))
      (h : ∀ (j : Nat) (c : AV), cs[j]? = some c → V0 w M c (u j)) : V0 w M (.vp cs) (.pointer (some ⟨b, o, none⟩))
  | fn (f : Fn) (first cap : List AV) (us vs : List Value) (hl : us.length = first.length) (hl' : vs.length = cap.length) (h : ∀ (i : Nat) (c : AV) (u : Value), first[i]? = some c → us[i]? = some u → V0 w M c u)
      (h' : ∀ (i : Nat) (c : AV) (u : Value), cap[i]? = some c → vs[i]? = some u → V0 w M c u) : V0 w M (.fn f first cap) (.func f us.toArray vs.toArray)
  | iface (t : TypeId) (v : AV) (u : Value) (h : V0 w M v u) : V0 w M (.iface t v) (.iface t u)

/-- What is there stays as it is, but for the blocks of M. -/
structure Keeps (M : Nat → Prop) (w w' : World) : Prop where
  size : w.heap.size ≤ w'.heap.size
  block : ∀ b, b < w.heap.size → ¬ M b → w'.heap[b]? = w.heap[b]?
theorem Keeps.refl (M : Nat → Prop) (w : World) : Keeps M w w := ⟨Nat.le_refl _, fun _ _ _ => rfl⟩
theorem Keeps.of_below {M : Nat → Prop} {w w' : World} (h : Below w.heap.size w w') : Keeps M w w' := ⟨h.size, fun b hb _ => h.block b hb⟩
theorem Keeps.cell {M : Nat → Prop} {w w' : World} (h : Keeps M w w') {b o : Nat} {v : Value} (hb : b < w.heap.size) (hM : ¬ M b) (hc : w.cell? ⟨b, o, none⟩ = some v) : w'.cell? ⟨b, o, none⟩ = some v := by
  rw [← hc]
  exact World.cell?_of_block (a := ⟨b, o, none⟩) (h.block b hb hM)

theorem V0.keep {w w' : World} {M M' : Nat → Prop} (hk : Keeps M w w') (hM : ∀ b, b < w.heap.size → ¬ M b → ¬ M' b) {av : AV} {v : Value} (h : V0 w M av v) : V0 w' M' av v := by
  induction h with
  | any v => exact .any v
  | lit v => exact .lit v
  | agg cs us hl h1 _ ih => exact .agg cs us hl h1 ih
  | tup cs us hl _ ih => exact .tup cs us hl ih
  | slNil sz A cap => exact .slNil sz A cap
  | sl sz es cap b o u hne hb hMb hcap hsz h1 hc _ ih => exact .sl sz es cap b o u hne (Nat.lt_of_lt_of_le hb hk.size) (hM b hb hMb) hcap hsz h1 (fun k j h1 h2 => hk.cell hb hMb (hc k j h1 h2)) ih
  | vp cs b o u hb hMb h1 hc _ ih => exact .vp cs b o u (Nat.lt_of_lt_of_le hb hk.size) (hM b hb hMb) h1 (fun j hj => hk.cell hb hMb (hc j hj)) ih
  | fn f first cap us vs hl hl' _ _ ih ih' => exact .fn f first cap us vs hl hl' ih ih'
  | iface t v u _ ih => exact .iface t v u ih
theorem V0.later {w w' : World} {M : Nat → Prop} (hb : Below w.heap.size w w') {av : AV} {v : Value} (h : V0 w M av v) : V0 w' M av v := h.keep (.of_below hb) (fun _ _ h => h)

/-- A row of the call's own, as a slice's value. -/
def Osl (w : World) (g : Nat) (e : TypeId) (sz : Nat) (nl : Bool) (n : Nat) (v : Value) : Prop :=
  if nl = true then v = .slice none 0 0 ∧ n = 0 else ∃ cap cur, v = .slice (some ⟨g, 0, none⟩) n cap ∧ w.heap[g]? = some (.cells cur e (0, 0)) ∧ cur.size = cap * sz ∧ n ≤ cap ∧ cap ≤ maxLen
/-- The same beside variables and rows of the call's own: h tells what they hold, p in which blocks they lie. -/
inductive V1 (w : World) (M : Nat → Prop) (h : Hp) (p : Nat → Nat) : AV → Value → Prop
  | base (av : AV) (v : Value) (h0 : V0 w M av v) : V1 w M h p av v
  | agg (cs : List AV) (us : List Value) (hl : us.length = cs.length) (h1 : ∀ c ∈ cs, oneAV c = true) (hv : ∀ (i : Nat) (c : AV) (u : Value), cs[i]? = some c → us[i]? = some u → V1 w M h p c u) : V1 w M h p (.agg cs) (.agg us.toArray)
  | tup (cs : List AV) (us : List Value) (hl : us.length = cs.length) (hv : ∀ (i : Nat) (c : AV) (u : Value), cs[i]? = some c → us[i]? = some u → V1 w M h p c u) : V1 w M h p (.tup cs) (.tuple us.toArray)
  | fn (f : Fn) (first cap : List AV) (us vs : List Value) (hl : us.length = first.length) (hl' : vs.length = cap.length) (hv : ∀ (i : Nat) (c : AV) (u : Value), first[i]? = some c → us[i]? = some u → V1 w M h p c u)
      (hv' : ∀ (i : Nat) (c : AV) (u : Value), cap[i]? = some c → vs[i]? = some u → V1 w M h p c u) : V1 w M h p (.fn f first cap) (.func f us.toArray vs.toArray)
  | iface (t : TypeId) (v : AV) (u : Value) (hv : V1 w M h p v u) : V1 w M h p (.iface t v) (.iface t u)
  | ref (id off : Nat) (hid : id < h.length) : V1 w M h p (.ref id off) (.pointer (some ⟨p id, off, none⟩))
  | aref (id sz i off : Nat) (hid : id < h.length) : V1 w M h p (.aref id sz i off) (.pointer (some ⟨p id, i * sz + off, none⟩))
  | osl (id : Nat) (A : Option Addr) (n c : Nat) (hid : id < h.length) (hv : ∀ e sz nl es, h[id]? = some (some (.arr e sz nl es)) → Osl w (p id) e sz nl es.length (.slice A n c)) : V1 w M h p (.osl id) (.slice A n c)

theorem V1.keep {w w' : World} {M M' : Nat → Prop} {h h' : Hp} {p p' : Nat → Nat} (hk : Keeps M w w') (hM : ∀ b, b < w.heap.size → ¬ M b → ¬ M' b) (hl : h.length ≤ h'.length) (hp : ∀ id, id < h.length → p' id = p id)
    (ho : ∀ id e sz nl es v, id < h.length → h'[id]? = some (some (.arr e sz nl es)) → (∀ e sz nl es, h[id]? = some (some (.arr e sz nl es)) → Osl w (p id) e sz nl es.length v) → Osl w' (p id) e sz nl es.length v)
    {av : AV} {v : Value} (hv : V1 w M h p av v) : V1 w' M' h' p' av v := by
  induction hv with
  | base av v h0 => exact .base _ _ (h0.keep hk hM)
  | agg cs us hl h1 _ ih => exact .agg cs us hl h1 ih
  | tup cs us hl _ ih => exact .tup cs us hl ih
  | fn f first cap us vs hl hl' _ _ ih ih' => exact .fn f first cap us vs hl hl' ih ih'
  | iface t v u _ ih => exact .iface t v u ih
  | ref id off hid => rw [← hp id hid]; exact .ref id off (Nat.lt_of_lt_of_le hid hl)
  | aref id sz i off hid => rw [← hp id hid]; exact .aref id sz i off (Nat.lt_of_lt_of_le hid hl)
  | osl id A n c hid hv => exact .osl id A n c (Nat.lt_of_lt_of_le hid hl) fun e sz nl es he => by rw [hp id hid]; exact ho id e sz nl es _ hid he hv
theorem Osl.below {w w' : World} (hb : Below w.heap.size w w') {g : Nat} {e : TypeId} {sz : Nat} {nl : Bool} {n : Nat} {v : Value} (h : Osl w g e sz nl n v) : Osl w' g e sz nl n v := by
  unfold Osl at h ⊢
  split
  · rename_i hn
    rw [if_pos hn] at h
    exact h
  · rename_i hn
    rw [if_neg hn] at h
    obtain ⟨cap, cur, h1, h2, h3⟩ := h
    exact ⟨cap, cur, h1, (hb.block g (Array.getElem?_eq_some_iff.1 h2).1).trans h2, h3⟩
theorem V1.later {w w' : World} {M : Nat → Prop} {h : Hp} {p : Nat → Nat} (hb : Below w.heap.size w w') {av : AV} {v : Value} (hv : V1 w M h p av v) : V1 w' M h p av v :=
  hv.keep (.of_below hb) (fun _ _ h => h) (Nat.le_refl _) (fun _ _ => rfl) fun _ _ _ _ _ _ _ he hv => (hv _ _ _ _ he).below hb

theorem V0.one {w : World} {M : Nat → Prop} {av : AV} {v : Value} (h : V0 w M av v) (h1 : oneAV av = true) : v.oneCell' = true := by
  cases h <;> first | rfl | (simp [oneAV] at h1; done) | exact h1
theorem V1.one {w : World} {M : Nat → Prop} {h : Hp} {p : Nat → Nat} {av : AV} {v : Value} (hv : V1 w M h p av v) (h1 : oneAV av = true) : v.oneCell' = true := by
  cases hv with
  | base _ _ h0 => exact h0.one h1
  | _ => first | rfl | (simp [oneAV] at h1; done)
theorem Osl.form {w : World} {g : Nat} {e : TypeId} {sz : Nat} {nl : Bool} {n : Nat} {v : Value} (h : Osl w g e sz nl n v) : ∃ A n c, v = .slice A n c := by
  unfold Osl at h
  split at h
  · exact ⟨_, _, _, h.1⟩
  · obtain ⟨cap, cur, h1, _⟩ := h
    exact ⟨_, _, _, h1⟩
end Go.Proofs.Ytmfmpagfjgpodaa
