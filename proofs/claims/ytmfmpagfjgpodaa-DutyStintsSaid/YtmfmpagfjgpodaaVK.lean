/- Statements, on plain values: of every program; no condition. -/
import Derived.Test.YtmfmpagfjgpodaaVQ
import Derived.Deep.LoopGhost
namespace Go.Proofs.Ytmfmpagfjgpodaa
open Go.RowKit

/-- All temporaries are there. -/
def codeB (N : Nat) : Code → Bool
  | .region _ ops _ => ops.toList.all (dstB N)
  | .seq a b => codeB N a && codeB N b
  | .cond _ a b => codeB N a && codeB N b
  | .block _ c => codeB N c
  | .loop c => codeB N c
  | .skip => true
  | .exit _ => true
  | .ret => true
  | _ => false
section
variable (P : Program)
/-- Function f gives a new row of elements es, which nobody else has. -/
def OwnRow (w w' : World) (M : Nat → Prop) (e sz : Nat) (nl : Bool) (es : List (List AV)) (v : Value) : Prop :=
  if nl = true then v = .slice none 0 0 ∧ es = [] else ∃ g cap cur, v = .slice (some ⟨g, 0, none⟩) es.length cap ∧ w.heap.size ≤ g ∧ w'.heap[g]? = some (.cells cur e (0, 0)) ∧ cur.size = cap * sz ∧ es.length ≤ cap ∧ cap ≤ maxLen ∧
    ∀ (k : Nat) (x : List AV) (j : Nat) (c : AV), es[k]? = some x → x[j]? = some c → ∃ u, cur[k * sz + j]? = some u ∧ V0 w' (fun b => M b ∨ b = g) c u
def VCo (f : FuncId) (args : List AV) (e sz : Nat) (nl : Bool) (es : List (List AV)) : Prop :=
  goesB P f = true ∧ 0 < sz ∧ (∀ (k : Nat) (x : List AV), es[k]? = some x → x.length = sz ∧ ∀ c ∈ x, oneAV c = true) ∧
  ∀ (w : World) (M : Nat → Prop) (vs : List Value), (∀ b, M b → b < w.heap.size) → vs.length = args.length → (∀ (i : Nat) (a : AV) (v : Value), args[i]? = some a → vs[i]? = some v → V0 w M a v) →
    Calls P f vs.toArray w fun en w' => ∃ v, en = .returned v ∧ Below w.heap.size w w' ∧ OwnRow w w' M e sz nl es v
def OwnOK (st : VS) (c : Call) (e sz : Nat) (nl : Bool) (es : List (List AV)) : Prop :=
  match calleeA (ev st) c with
  | none => False
  | some (k, args) => VCo P k args e sz nl es ∧ args.all (pureA 5) = true
/-- The call, where its result is a row of the call's own. -/
def ownCall (ow : List Nat) (o : Oper) : Option (Call × Nat) :=
  match o.op, o.dst with
  | .call c, some d => match c.callee with
    | .value _ => if ow.contains d then some (c, d) else none
    | _ => none
  | _, _ => none
def VDo (ow : List Nat) (o : Oper) (st : VS) (K : VS → Prop) : Prop :=
  match tailOp P ow st o with
  | some st' => K st'
  | none => match ownCall ow o with
    | some (c, d) => ∃ e sz nl es, OwnOK P st c e sz nl es ∧ K ⟨(d, .osl st.h.length) :: st.s, st.h ++ [some (.arr e sz nl es)]⟩
    | none => ∃ r, Gives P st.h (ev st) o.op r ∧ K (st.put o.dst r)
def guardA (ops : List Oper) (st : VS) (j : Nat) : AV := match ops[j]? with | some o => (match o.dst with | some d => lkp st.s d | none => .lit undef) | none => .lit undef
def VOp (ow : List Nat) (ops : List Oper) (o : Oper) (st : VS) (K : VS → Prop) : Prop :=
  match o.guard with
  | none => VDo P ow o st K
  | some (j, want) => match guardA ops st j with
    | .lit (.bool b) => if b = want then VDo P ow o st K else K (st.put o.dst (.lit undef))
    | .lit (.tuple _) => K (st.put o.dst (.lit undef))
    | _ => False
def VRun (ow : List Nat) (ops : List Oper) : List Oper → VS → (VS → Prop) → Prop
  | [], st, K => K st
  | o :: l, st, K => VOp P ow ops o st fun st' => VRun ow ops l st' K
end
section
variable {P : Program} {M0 : Nat → Prop} {w0 : World} {N : Nat} {p : Nat → Nat} {st : VS} {a : Act} {w : World}
theorem own_ok (R : Rel M0 w0 N p st a w) {o : Oper} {ow : List Nat} {c : Call} {d e sz : Nat} {nl : Bool} {es : List (List AV)} {K' : Act → World → Prop} {Q : Exit → Act → World → Prop} (hd : dstB N o = true) (hc : ownCall ow o = some (c, d)) (h : OwnOK P st c e sz nl es)
    (hk : ∀ p a w, Rel M0 w0 N p ⟨(d, .osl st.h.length) :: st.s, st.h ++ [some (.arr e sz nl es)]⟩ a w → K' a w) : o.wp P a w K' Q := by
  obtain ⟨dst, op, ty, pos, after, guard⟩ := o
  have hlt := dstB_lt hd
  unfold ownCall at hc
  simp only at hc hlt
  split at hc
  · rename_i c' d'
    split at hc
    · split at hc
      · simp only [Option.some.injEq, Prod.mk.injEq] at hc
        obtain ⟨rfl, rfl⟩ := hc
        obtain ⟨callee, cargs, cts⟩ := c'
        unfold OwnOK at h
        split at h
        · exact h.elim
        · rename_i k args hcal
          obtain ⟨⟨hgo, hsz, hes, hcalls⟩, hp⟩ := h
          obtain ⟨vs, hrun, hlen, hvs⟩ := call_enter (P := P) (dst := some d') (ty := ty) (pos := pos) (after := after) (guard := guard) (fun x _ => R.eval x) hcal hgo
          unfold Oper.wp
          rw [hrun]
          simp only [Oper.upon]
          refine (hcalls w (Mof M0 st.h p) vs R.lt hlen fun i b v hb hv => (hvs i b v hb hv).pure 5 (List.all_eq_true.1 hp b (List.mem_of_getElem? hb))).mono ?_
          rintro en w' ⟨v, rfl, hb, ho⟩
          unfold OwnRow at ho
          cases nl
          · simp only [Bool.false_eq_true, if_false] at ho
            obtain ⟨g, cap, cur, rfl, hg, hh, hcs, hle, hcm, hv⟩ := ho
            have hpn : pNew p st.h.length g st.h.length = g := by simp [pNew]
            have hM : ∀ b, ¬ (Mof M0 st.h p b ∨ b = g) → ¬ Mof M0 (st.h ++ [some (.arr e sz false es)]) (pNew p st.h.length g) b := by
              intro b hn hm
              rcases hm with hm | ⟨i, ob, hi, hl, hpi⟩
              · exact hn (.inl (.inl hm))
              · rcases get_new hi with ⟨hlt, hi'⟩ | ⟨rfl, hx⟩
                · exact hn (.inl (.inr ⟨i, ob, hi', hl, by rw [← hpi]; simp [pNew, Nat.ne_of_lt hlt]⟩))
                · rw [hpn] at hpi
                  exact hn (.inr hpi.symm)
            refine hk _ _ _ (R.grow hb (hlt d' rfl) (fun _ => hg) ⟨hsz, hes, ?_⟩ (.osl _ _ _ _ (by simp) fun e' sz' nl' es' he => ?_))
            · rw [if_neg (by simp), hpn]
              refine ⟨Nat.le_trans R.below.size hg, cur, hh, by rw [hcs]; exact Nat.mul_le_mul_right _ hle, fun k x j c hk hj => ?_⟩
              obtain ⟨u, hu, hvu⟩ := hv k x j c hk hj
              exact ⟨u, hu, hvu.keep (Keeps.refl _ _) fun b _ hn => hM b hn⟩
            · rw [List.getElem?_append_right (Nat.le_refl _)] at he
              simp only [Nat.sub_self, List.getElem?_cons_zero, Option.some.injEq] at he
              injection he with h1 h2 h3 h4
              subst h1 h2 h3 h4
              unfold Osl
              rw [if_neg (by simp), hpn]
              exact ⟨cap, cur, rfl, hh, hcs, hle, hcm⟩
          · simp only [if_true] at ho
            obtain ⟨rfl, rfl⟩ := ho
            refine hk _ _ _ (R.grow (b := 0) hb (hlt d' rfl) (fun h => by cases h) ⟨hsz, by simp, by simp⟩ (.osl _ _ _ _ (by simp) fun e' sz' nl' es' he => ?_))
            rw [List.getElem?_append_right (Nat.le_refl _)] at he
            simp only [Nat.sub_self, List.getElem?_cons_zero, Option.some.injEq] at he
            injection he with h1 h2 h3 h4
            subst h1 h2 h3 h4
            simp [Osl]
      · cases hc
    · cases hc
  · cases hc
theorem VDo_ok {ow : List Nat} {o : Oper} {K : VS → Prop} {K' : Act → World → Prop} {Q : Exit → Act → World → Prop} (R : Rel M0 w0 N p st a w) (hd : dstB N o = true) (h : VDo P ow o st K) (hk : ∀ p st a w, Rel M0 w0 N p st a w → K st → K' a w) : o.wp P a w K' Q := by
  unfold VDo at h
  split at h
  · rename_i st' he
    obtain ⟨v, w', p', hh⟩ := tail_ok (P := P) R hd he
    unfold Oper.wp
    rcases hh with ⟨h1, h2⟩ | ⟨h1, _, h2⟩
    · rw [h1]; exact hk _ _ _ _ h2 h
    · rw [h1]; exact hk _ _ _ _ h2 h
  · split at h
    · rename_i c d hc
      obtain ⟨e, sz, nl, es, ho, hK⟩ := h
      exact own_ok R hd hc ho fun p a w R => hk _ _ _ _ R hK
    · obtain ⟨r, hg, hK⟩ := h
      have := R.gives (P := P) hg
      exact wp_of_gives this rfl fun v w' ⟨hv, hb⟩ => hk _ _ _ _ ((R.later hb).put (dstB_lt hd) hv) hK
theorem yielded_lit {ops : List Oper} {j : Nat} (R : Rel M0 w0 N p st a w) (hops : ops.all (dstB N) = true) : (∀ b, guardA ops st j = .lit (.bool b) → yielded ops.toArray a.tmps j = some b) ∧ (∀ vs, guardA ops st j = .lit (.tuple vs) → yielded ops.toArray a.tmps j = none) := by
  unfold guardA yielded
  cases hj : ops[j]? with
  | none => simp [hj, undef]
  | some o =>
    have hd := List.all_eq_true.1 hops o (List.mem_of_getElem? hj)
    cases ho : o.dst with
    | none => simp [hj, ho, undef]
    | some d =>
      have hlt : d < a.tmps.size := by rw [R.size]; exact dstB_lt hd d ho
      have hs := R.slots d
      have hget : a.tmps.getD d undef = a.tmps[d] := by simp [hlt]
      rw [hget] at hs
      simp only [List.getElem?_toArray, hj, Option.bind_some, ho]
      refine ⟨fun b hb => ?_, fun vs hb => ?_⟩
      · rw [hb] at hs
        have := hs.lit_inv
        simp [hlt, this]
      · rw [hb] at hs
        have := hs.lit_inv
        simp [hlt, this]
theorem VRun_ok {ow : List Nat} {ops : List Oper} {K : VS → Prop} {Q : Exit → Act → World → Prop} (hops : ops.all (dstB N) = true) (hk : ∀ p st a w, Rel M0 w0 N p st a w → K st → Q .normal a w) :
    ∀ (l : List Oper) (p : Nat → Nat) (st : VS) (a : Act) (w : World), l.all (dstB N) = true → Rel M0 w0 N p st a w → VRun P ow ops l st K → wpList P ops.toArray Q l a w
  | [], p, st, a, w, _, R, h => wpList_nil (hk p st a w R h)
  | o :: l, p, st, a, w, hl, R, h => by
    simp only [List.all_cons, Bool.and_eq_true] at hl
    have ih := fun p st a w => VRun_ok (ow := ow) hops hk l p st a w hl.2
    refine wpList_step fun KK hKK => ?_
    simp only [VRun, VOp] at h
    have hdo : VDo P ow o st (fun st' => VRun P ow ops l st' K) → o.wp P a w KK Q := fun h => VDo_ok R hl.1 h fun p st a w R h => hKK _ _ (ih p st a w R h)
    have hsk : VRun P ow ops l (st.put o.dst (.lit undef)) K → KK (a.put o.dst undef) w := fun h => hKK _ _ (ih p _ _ w (R.put (dstB_lt hl.1) (.base _ _ (.lit _))) h)
    split at h
    · rename_i hg
      simp only [Region.wanted, hg, if_true]
      exact hdo h
    · rename_i j want hg
      obtain ⟨hy1, hy2⟩ := yielded_lit (j := j) R hops
      simp only [Region.wanted, hg]
      split at h
      · rename_i b hb
        rw [hy1 b hb]
        by_cases hw : b = want
        · subst hw
          rw [if_pos (by simp)]
          rw [if_pos rfl] at h
          exact hdo h
        · rw [if_neg (by simpa using hw)]
          rw [if_neg hw] at h
          exact hsk h
      · rename_i vs hb
        rw [hy2 vs hb, if_neg (by simp)]
        exact hsk h
      · exact h.elim

/-! ### Statements -/
def VWp (P : Program) (M0 : Nat → Prop) (w0 : World) (N : Nat) (c : Code) (Q : Exit → VS → Prop) (st : VS) : Prop :=
  codeB N c = true → ∀ p a w, Rel M0 w0 N p st a w → c.wp P (fun e a' w' => ∃ st' p', Rel M0 w0 N p' st' a' w' ∧ Q e st') a w
def VThen (K : VS → Prop) (Q : Exit → VS → Prop) : Exit → VS → Prop
  | .normal, st => K st
  | e, st => Q e st
def VBlock (id : Nat) (Q : Exit → VS → Prop) : Exit → VS → Prop
  | .exit id', st => if id' = id then Q .normal st else Q (.exit id') st
  | e, st => Q e st
variable {Q : Exit → VS → Prop}
theorem vskip (h : Q .normal st) : VWp P M0 w0 N .skip Q st := fun _ p _ _ R => wp_skip ⟨st, p, R, h⟩
theorem vexit {id : Nat} (h : Q (.exit id) st) : VWp P M0 w0 N (.exit id) Q st := fun _ p _ _ R => wp_exit ⟨st, p, R, h⟩
theorem vret (h : Q .ret st) : VWp P M0 w0 N .ret Q st := fun _ p _ _ R => wp_ret ⟨st, p, R, h⟩
theorem vseq {x y : Code} (h : VWp P M0 w0 N x (VThen (VWp P M0 w0 N y Q) Q) st) : VWp P M0 w0 N (.seq x y) Q st := fun hB p a w R => by
  simp only [codeB, Bool.and_eq_true] at hB
  refine wp_seq (wp_mono (h hB.1 p a w R) ?_)
  rintro e a' w' ⟨st', p', R', hq⟩
  cases e with
  | normal => exact hq hB.2 p' a' w' R'
  | _ => exact ⟨st', p', R', hq⟩
theorem vthenN {K : VS → Prop} (h : K st) : VThen K Q .normal st := h
theorem vthenE {K : VS → Prop} {id : Nat} (h : Q (.exit id) st) : VThen K Q (.exit id) st := h
theorem vthenR {K : VS → Prop} (h : Q .ret st) : VThen K Q .ret st := h
theorem vblockN {id : Nat} (h : Q .normal st) : VBlock id Q .normal st := h
theorem vblockR {id : Nat} (h : Q .ret st) : VBlock id Q .ret st := h
theorem vblockH {id : Nat} (h : Q .normal st) : VBlock id Q (.exit id) st := by simpa [VBlock] using h
theorem vblockE {id id' : Nat} (hne : Nat.beq id' id = false) (h : Q (.exit id') st) : VBlock id Q (.exit id') st := by
  have : id' ≠ id := fun e => by subst e; simp at hne
  simpa [VBlock, this] using h
theorem vblock {id : Nat} {c : Code} (h : VWp P M0 w0 N c (VBlock id Q) st) : VWp P M0 w0 N (.block id c) Q st := fun hB p a w R => by
  refine wp_block (wp_mono (h (by simpa [codeB] using hB) p a w R) ?_)
  rintro e a' w' ⟨st', p', R', hq⟩
  cases e with
  | exit id' =>
    simp only [Exit.inBlock]
    simp only [VBlock] at hq
    split
    · rename_i he
      rw [if_pos he] at hq
      exact ⟨st', p', R', hq⟩
    · rename_i he
      rw [if_neg he] at hq
      exact ⟨st', p', R', hq⟩
  | _ => exact ⟨st', p', R', hq⟩
theorem vcond {c : Operand} {x y : Code} {t : Bool} (hc : ev st c = .lit (.bool t)) (h1 : t = true → VWp P M0 w0 N x Q st) (h2 : t = false → VWp P M0 w0 N y Q st) : VWp P M0 w0 N (.cond c x y) Q st := fun hB p a w R => by
  simp only [codeB, Bool.and_eq_true] at hB
  have he := R.eval c
  rw [hc] at he
  exact wp_cond_split he.lit_inv (fun ht => h1 ht hB.1 p a w R) (fun ht => h2 ht hB.2 p a w R)
theorem vcondT {c : Operand} {x y : Code} (hc : ev st c = .lit (.bool true)) (h : VWp P M0 w0 N x Q st) : VWp P M0 w0 N (.cond c x y) Q st := vcond hc (fun _ => h) (fun h => by cases h)
theorem vcondF {c : Operand} {x y : Code} (hc : ev st c = .lit (.bool false)) (h : VWp P M0 w0 N y Q st) : VWp P M0 w0 N (.cond c x y) Q st := vcond hc (fun h => by cases h) (fun _ => h)
theorem vregion {id : Nat} {l : List Oper} (ow : List Nat) (h : VRun P ow l l st (Q .normal)) : VWp P M0 w0 N (.region id l.toArray false) Q st := fun hB p a w R => by
  have hB' : l.all (dstB N) = true := by simpa [codeB] using hB
  exact wp_region_lit (VRun_ok (ow := ow) hB' (fun p st a w R h => ⟨st, p, R, h⟩) l p st a w hB' R h)
/-! ### A state told weaker -/
def idsB (k : Nat) : Nat → AV → Bool
  | 0, _ => false
  | n + 1, .agg cs => cs.all (idsB k n)
  | n + 1, .tup cs => cs.all (idsB k n)
  | n + 1, .fn _ a b => a.all (idsB k n) && b.all (idsB k n)
  | n + 1, .iface _ v => idsB k n v
  | _ + 1, .ref id _ => decide (id < k)
  | _ + 1, .aref id _ _ _ => decide (id < k)
  | _ + 1, .osl id => decide (id < k)
  | _ + 1, _ => true
def idsO (k : Nat) : Ob → Bool
  | .box cs => cs.all (idsB k 5)
  | .arr .. => true
def leS (s : List (Nat × AV)) (n : Nat) : List (Nat × AV) → Prop
  | [] => True
  | (i, v) :: r => lkp s i = v ∧ idsB n 5 v = true ∧ leS s n r
def leO (h : Hp) (n k : Nat) : Option Ob → Prop
  | none => True
  | some ob => h[k]? = some (some ob) ∧ idsO n ob = true
def leH (h : Hp) (n : Nat) : Nat → Hp → Prop
  | _, [] => True
  | k, o :: r => leO h n k o ∧ leH h n (k + 1) r
def Le (st st' : VS) : Prop := leS st.s st'.h.length st'.s ∧ st'.h.length ≤ st.h.length ∧ leH st.h st'.h.length 0 st'.h
theorem leH_at {h : Hp} {n : Nat} : ∀ (h' : Hp) (k id : Nat) (ob : Ob), leH h n k h' → h'[id]? = some (some ob) → h[k + id]? = some (some ob) ∧ idsO n ob = true
  | [], _, _, _, _, hi => by simp at hi
  | o :: r, k, id, ob, hh, hi => by
    cases id with
    | zero =>
      simp only [List.getElem?_cons_zero, Option.some.injEq] at hi
      subst hi
      exact hh.1
    | succ id =>
      have := leH_at r (k + 1) id ob hh.2 (by simpa using hi)
      rwa [show k + 1 + id = k + (id + 1) by omega] at this
theorem V1.trunc {w : World} {M M' : Nat → Prop} {h h' : Hp} {p : Nat → Nat} (hM : ∀ b, ¬ M b → ¬ M' b) (hh : ∀ (id : Nat) (ob : Ob), h'[id]? = some (some ob) → h[id]? = some (some ob)) :
    ∀ (n : Nat) (av : AV) (v : Value), V1 w M h p av v → idsB h'.length n av = true → V1 w M' h' p av v
  | 0, _, _, _, hb => by simp [idsB] at hb
  | n + 1, av, v, hv, hb => by
    have ih := V1.trunc (w := w) (p := p) hM hh n
    cases hv with
    | base _ _ h0 => exact .base _ _ (h0.keep (Keeps.refl _ _) fun b _ hn => hM b hn)
    | agg cs us hl h1 hv =>
      simp only [idsB] at hb
      exact .agg cs us hl h1 fun i c u hc hu => ih c u (hv i c u hc hu) (List.all_eq_true.1 hb c (List.mem_of_getElem? hc))
    | tup cs us hl hv =>
      simp only [idsB] at hb
      exact .tup cs us hl fun i c u hc hu => ih c u (hv i c u hc hu) (List.all_eq_true.1 hb c (List.mem_of_getElem? hc))
    | fn f x y us vs hl hl' hv hv' =>
      simp only [idsB, Bool.and_eq_true] at hb
      exact .fn f x y us vs hl hl' (fun i c u hc hu => ih c u (hv i c u hc hu) (List.all_eq_true.1 hb.1 c (List.mem_of_getElem? hc))) (fun i c u hc hu => ih c u (hv' i c u hc hu) (List.all_eq_true.1 hb.2 c (List.mem_of_getElem? hc)))
    | iface t x u hv => exact .iface t x u (ih x u hv (by simpa [idsB] using hb))
    | ref id off hid => exact .ref id off (by simpa [idsB] using hb)
    | aref id sz i off hid => exact .aref id sz i off (by simpa [idsB] using hb)
    | osl id A m c hid hv => exact .osl id A m c (by simpa [idsB] using hb) fun e sz nl es he => hv e sz nl es (hh id _ he)
theorem lkp_le {st : VS} {M : Nat → Prop} {h' : Hp} {p : Nat → Nat} {tm : Nat → Value} (hs : ∀ i, idsB h'.length 5 (lkp st.s i) = true → V1 w M h' p (lkp st.s i) (tm i)) : ∀ (s' : List (Nat × AV)), leS st.s h'.length s' → ∀ i, V1 w M h' p (lkp s' i) (tm i)
  | [], _, _ => .base _ _ (.any _)
  | (d, v) :: r, hl, i => by
    simp only [lkp]
    split
    · rename_i he
      subst he
      have h1 := hs d (by rw [hl.1]; exact hl.2.1)
      rwa [hl.1] at h1
    · exact lkp_le hs r hl.2.2 i
theorem Rel.le {st' : VS} (R : Rel M0 w0 N p st a w) (hle : Le st st') : Rel M0 w0 N p st' a w := by
  obtain ⟨h1, h2, h3⟩ := hle
  have hh : ∀ (id : Nat) (ob : Ob), st'.h[id]? = some (some ob) → st.h[id]? = some (some ob) := fun id ob hi => by
    have := (leH_at st'.h 0 id ob h3 hi).1
    rwa [Nat.zero_add] at this
  have hM : ∀ b, ¬ Mof M0 st.h p b → ¬ Mof M0 st'.h p b := fun b hn hm => hn (by
    rcases hm with hm | ⟨id, ob, hi, hl, hp⟩
    · exact .inl hm
    · exact .inr ⟨id, ob, hh id ob hi, hl, hp⟩)
  refine ⟨R.defers, R.size, R.below, R.m0, fun i => lkp_le (fun j hj => V1.trunc hM hh 5 _ _ (R.slots j) hj) st'.s h1 i, fun id ob hi => ?_, fun id id' ob ob' hi hi' => R.inj id id' ob ob' (hh _ _ hi) (hh _ _ hi')⟩
  have ho := R.objs id ob (hh id ob hi)
  have hids := (leH_at st'.h 0 id ob h3 hi).2
  cases ob with
  | box cs =>
    obtain ⟨a1, cur, e, a2, a3, a4, a5⟩ := ho
    exact ⟨a1, cur, e, a2, a3, a4, fun j c hj => let ⟨u, hu, hv⟩ := a5 j c hj; ⟨u, hu, V1.trunc hM hh 5 c u hv (List.all_eq_true.1 hids c (List.mem_of_getElem? hj))⟩⟩
  | arr e sz nl es =>
    obtain ⟨a1, a2, a3⟩ := ho
    refine ⟨a1, a2, ?_⟩
    split at a3
    · rename_i hn
      rw [if_pos hn]
      exact a3
    · rename_i hn
      rw [if_neg hn]
      obtain ⟨b1, cur, b2, b3, b4⟩ := a3
      exact ⟨b1, cur, b2, b3, fun k x j c hk hj => let ⟨u, hu, hv⟩ := b4 k x j c hk hj; ⟨u, hu, hv.keep (Keeps.refl _ _) fun b _ hn => hM b hn⟩⟩
/-- A loop: St tells the state ahead of each round. -/
theorem vloop {c : Code} {α : Type} (St : α → VS) (Inv : α → Prop) (μ : α → Nat) (x0 : α) (hI : Inv x0) (h0 : Le st (St x0))
    (round : ∀ x, Inv x → ∀ K : VS → Prop, (∀ st' y, Inv y → μ y < μ x → Le st' (St y) → K st') → VWp P M0 w0 N c (VThen K Q) (St x)) : VWp P M0 w0 N (.loop c) Q st := fun hB p a w R => by
  have hB' : codeB N c = true := by simpa [codeB] using hB
  refine wp_loop_ghost (fun n a w => ∃ x p, Inv x ∧ μ x = n ∧ Rel M0 w0 N p (St x) a w) (μ x0) ⟨x0, p, hI, rfl, R.le h0⟩ ?_
  rintro n a w ⟨x, p, hx, rfl, R⟩
  refine wp_mono (round x hx (fun st' => ∃ y, Inv y ∧ μ y < μ x ∧ Le st' (St y)) (fun st' y h1 h2 h3 => ⟨y, h1, h2, h3⟩) hB' p a w R) ?_
  rintro e a' w' ⟨st', p', R', hq⟩
  cases e with
  | normal =>
    obtain ⟨y, hy, hm, hle⟩ := hq
    exact ⟨μ y, hm, y, p', hy, rfl, R'.le hle⟩
  | _ => exact ⟨st', p', R', hq⟩
/-- From here on with a state told weaker. -/
theorem vle {c : Code} {st' : VS} (hle : Le st st') (h : VWp P M0 w0 N c Q st') : VWp P M0 w0 N c Q st := fun hB p a w R => h hB p a w (R.le hle)

/-! ### A call -/
def enumA : Nat → List AV → List (Nat × AV)
  | _, [] => []
  | k, v :: r => (k, v) :: enumA (k + 1) r
def resA (P : Program) (st : VS) : List ResultVar → Option (List AV)
  | [] => some []
  | .tmp t :: rs => match resA P st rs with | some vs => some (prepA st.h (lkp st.s t) :: vs) | none => none
  | .cell x t :: rs => match loadA P st.h t (lkp st.s x), resA P st rs with | some v, some vs => some (prepA st.h v :: vs) | _, _ => none
def oneR : List AV → AV
  | [v] => v
  | vs => .tup vs
def VRet (P : Program) (rs : List ResultVar) (r : AV) : Exit → VS → Prop
  | .ret, st => (resA P st rs).map oneR = some r
  | .normal, st => (resA P st rs).map oneR = some r
  | _, _ => False
theorem Rel.prep (R : Rel M0 w0 N p st a w) {v : AV} {u : Value} (hv : V1 w (Mof M0 st.h p) st.h p v u) : V0 w M0 (prepA st.h v) u := by
  unfold prepA
  split
  · rename_i hp
    exact (hv.pure 5 hp).keep (Keeps.refl _ _) fun b _ hn hm => hn (.inl hm)
  · exact thaw_ok R.objs R.m0 (fun _ hb => .inl hb) 5 v u hv
theorem res_ok (R : Rel M0 w0 N p st a w) : ∀ (rs : List ResultVar) (vs : List AV), resA P st rs = some vs →
    ∃ us : List Value, (rs.mapM fun | .tmp t => pure (a.tmps.getD t undef) | .cell x t => do loadVar t (← asAddr (a.tmps.getD x undef)) : Sem (List Value)).run P w = .ok us w ∧ us.length = vs.length ∧ ∀ (i : Nat) (c : AV) (u : Value), vs[i]? = some c → us[i]? = some u → V0 w M0 c u
  | [], vs, h => by
    simp only [resA, Option.some.injEq] at h
    subst h
    exact ⟨[], by simp, rfl, by simp⟩
  | .tmp t :: rs, vs, h => by
    simp only [resA] at h
    split at h
    · rename_i vs' hvs
      simp only [Option.some.injEq] at h
      subst h
      obtain ⟨us, hrun, hl, hv⟩ := res_ok R rs vs' hvs
      refine ⟨a.tmps.getD t undef :: us, by simp only [List.mapM_cons, Sem.run_bind, Sem.run_pure, Result.andThen_ok, hrun], by simp [hl], fun i c u hc hu => ?_⟩
      cases i with
      | zero => simp at hc hu; subst hc; subst hu; simpa using R.prep (R.slots t)
      | succ i => exact hv i c u (by simpa using hc) (by simpa using hu)
    · cases h
  | .cell x t :: rs, vs, h => by
    simp only [resA] at h
    split at h
    · rename_i v vs' hv' hvs
      simp only [Option.some.injEq] at h
      subst h
      obtain ⟨us, hrun, hl, hv⟩ := res_ok R rs vs' hvs
      obtain ⟨u, hu, hvu⟩ := load_ok (P := P) R.objs (R.slots x) hv'
      have hptr : ∃ ad, a.tmps.getD x undef = .pointer (some ad) := by
        unfold loadA at hv'
        split at hv'
        · cases hv'
        · split at hv'
          · cases hv'
          · rename_i cs hcs
            obtain ⟨b, o, hq, _⟩ := cellsAt_ok R.objs (R.slots x) hcs
            exact ⟨_, hq⟩
      obtain ⟨ad, had⟩ := hptr
      rw [had] at hu
      simp only [Instr.loadAt, Instr.sureAddr, Sem.run_bind, Sem.run_pure, Result.andThen_ok] at hu
      have e1 : (asAddr (a.tmps.getD x undef)).run P w = .ok ad w := by rw [had]; rfl
      refine ⟨u :: us, by simp only [List.mapM_cons, Sem.run_bind, Sem.run_pure, Result.andThen_ok, e1, hu, hrun], by simp [hl], fun i c y hc hy => ?_⟩
      cases i with
      | zero => simp at hc hy; subst hc; subst hy; exact R.prep hvu
      | succ i => exact hv i c y (by simpa using hc) (by simpa using hy)
    · cases h
theorem enum_at : ∀ (args : List AV) (k : Nat) (tm : Nat → Value) {M : Nat → Prop} {h : Hp} {p : Nat → Nat}, (∀ (i : Nat) (c : AV), args[i]? = some c → V1 w M h p c (tm (k + i))) → ∀ i, V1 w M h p (lkp (enumA k args) i) (tm i)
  | [], _, _, _, _, _, _, _ => .base _ _ (.any _)
  | c :: r, k, tm, M, h, p, hv, i => by
    simp only [enumA, lkp]
    split
    · rename_i he
      subst he
      exact hv 0 c rfl
    · refine enum_at r (k + 1) tm (fun j c hj => ?_) i
      have := hv (j + 1) c (by simpa using hj)
      rwa [show k + (j + 1) = k + 1 + j by omega] at this
theorem VC_of {f : FuncId} {fn : Func} {c : Code} {args : List AV} {r : AV} (hf : P.funcs[f]? = some fn) (hb : fn.body = some c) (hg : goesB P f = true) (hN : codeB fn.ntmps c = true) (hn : Nat.ble args.length fn.ntmps = true)
    (h : ∀ M0 w0, VWp P M0 w0 fn.ntmps c (VRet P fn.results.toList r) ⟨enumA 0 args, []⟩) : VC P f args r := by
  refine ⟨hg, fun w M vs hM hl hv => ?_⟩
  refine calls_of_wp hf hb ?_
  have R : Rel M w fn.ntmps (fun _ => 0) ⟨enumA 0 args, []⟩ { tmps := vs.toArray ++ Array.replicate (fn.ntmps - vs.toArray.size) undef, defers := [] } w := by
    refine ⟨rfl, by have := Nat.le_of_ble_eq_true hn; simp; omega, Below.refl _ _, hM, fun i => ?_, fun id ob hi => by simp at hi, fun id _ _ _ hi => by simp at hi⟩
    refine enum_at args 0 (fun i => (vs.toArray ++ Array.replicate (fn.ntmps - vs.toArray.size) undef).getD i undef) (fun i c hc => ?_) i
    have hi : i < vs.length := by rw [hl]; exact (List.getElem?_eq_some_iff.1 hc).1
    rw [Nat.zero_add]
    have hgd : (vs.toArray ++ Array.replicate (fn.ntmps - vs.toArray.size) undef).getD i undef = vs[i] := by
      rw [Array.getD_eq_getD_getElem?, Array.getElem?_append_left (by simpa using hi)]
      simp [hi]
    rw [hgd]
    refine .base _ _ ((hv i c _ hc (List.getElem?_eq_getElem hi)).keep (Keeps.refl _ _) fun b _ hn hm => ?_)
    rcases hm with hm | ⟨id, ob, hi, _⟩
    · exact hn hm
    · simp at hi
  refine wp_mono (h M w hN (fun _ => 0) _ w R) ?_
  have key : ∀ (st' : VS) (p' : Nat → Nat) (a' : Act) (w' : World), Rel M w fn.ntmps p' st' a' w' → (resA P st' fn.results.toList).map oneR = some r → a'.defers = [] ∧ ∃ v, (results fn a'.tmps).run P w' = .ok v w' ∧ ∃ v', Ending.returned v = .returned v' ∧ Below w.heap.size w w' ∧ V0 w' M r v' := by
    intro st' p' a' w' R' hr
    obtain ⟨vs', hvs, hone⟩ := Option.map_eq_some_iff.1 hr
    obtain ⟨us, hrun, hul, huv⟩ := res_ok (P := P) R' _ _ hvs
    have hrun' : (fn.results.mapM fun | .tmp t => pure (a'.tmps.getD t undef) | .cell x t => do loadVar t (← asAddr (a'.tmps.getD x undef)) : Sem (Array Value)).run P w' = .ok us.toArray w' := by
      rw [← Array.toArray_toList (xs := fn.results), List.mapM_toArray]
      simp only [Sem.run_map, hrun, Result.andThen_ok]
    have hres : (results fn a'.tmps).run P w' = .ok (if h : us.toArray.size = 1 then us.toArray[0] else .tuple us.toArray) w' := by
      unfold results
      rw [Sem.run_bind]
      exact (congrArg (fun r => Result.andThen r _) hrun').trans rfl
    refine ⟨R'.defers, _, hres, _, rfl, R'.below, ?_⟩
    subst hone
    by_cases h1 : us.length = 1
    · obtain ⟨u, rfl⟩ : ∃ u, us = [u] := List.length_eq_one_iff.1 h1
      obtain ⟨c, rfl⟩ : ∃ c, vs' = [c] := List.length_eq_one_iff.1 (by rw [← hul]; rfl)
      exact huv 0 c u rfl rfl
    · have h2 : oneR vs' = .tup vs' := by
        cases vs' with
        | nil => rfl
        | cons x y => cases y with
          | nil => simp at hul; omega
          | cons => rfl
      rw [h2, dif_neg (by simpa using h1)]
      exact .tup _ _ hul huv
  rintro e a' w' ⟨st', p', R', hq⟩
  cases e with
  | normal => exact key st' p' a' w' R' hq
  | ret => exact key st' p' a' w' R' hq
  | _ => exact hq.elim
/-- The result is a row of the call's own. -/
def VRetO (t : Nat) (e sz : Nat) (nl : Bool) (es : List (List AV)) : Exit → VS → Prop
  | .ret, st => ∃ id, lkp st.s t = .osl id ∧ st.h[id]? = some (some (.arr e sz nl es))
  | .normal, st => ∃ id, lkp st.s t = .osl id ∧ st.h[id]? = some (some (.arr e sz nl es))
  | _, _ => False
theorem rel_init {fn : Func} {args : List AV} {M : Nat → Prop} {vs : List Value} (hn : Nat.ble args.length fn.ntmps = true) (hM : ∀ b, M b → b < w.heap.size) (hl : vs.length = args.length) (hv : ∀ (i : Nat) (a : AV) (v : Value), args[i]? = some a → vs[i]? = some v → V0 w M a v) :
    Rel M w fn.ntmps (fun _ => 0) ⟨enumA 0 args, []⟩ { tmps := vs.toArray ++ Array.replicate (fn.ntmps - vs.toArray.size) undef, defers := [] } w := by
  refine ⟨rfl, by have := Nat.le_of_ble_eq_true hn; simp; omega, Below.refl _ _, hM, fun i => ?_, fun id ob hi => by simp at hi, fun id _ _ _ hi => by simp at hi⟩
  refine enum_at args 0 (fun i => (vs.toArray ++ Array.replicate (fn.ntmps - vs.toArray.size) undef).getD i undef) (fun i c hc => ?_) i
  have hi : i < vs.length := by rw [hl]; exact (List.getElem?_eq_some_iff.1 hc).1
  rw [Nat.zero_add]
  have hgd : (vs.toArray ++ Array.replicate (fn.ntmps - vs.toArray.size) undef).getD i undef = vs[i] := by
    rw [Array.getD_eq_getD_getElem?, Array.getElem?_append_left (by simpa using hi)]
    simp [hi]
  rw [hgd]
  refine .base _ _ ((hv i c _ hc (List.getElem?_eq_getElem hi)).keep (Keeps.refl _ _) fun b _ hn hm => ?_)
  rcases hm with hm | ⟨id, ob, hi, _⟩
  · exact hn hm
  · simp at hi
theorem VCo_of {f : FuncId} {fn : Func} {c : Code} {args : List AV} {t e sz : Nat} {nl : Bool} {es : List (List AV)} (hf : P.funcs[f]? = some fn) (hb : fn.body = some c) (hg : goesB P f = true) (hN : codeB fn.ntmps c = true) (hn : Nat.ble args.length fn.ntmps = true) (hr : fn.results = #[.tmp t])
    (hsz : 0 < sz) (hes : ∀ (k : Nat) (x : List AV), es[k]? = some x → x.length = sz ∧ ∀ c ∈ x, oneAV c = true) (h : ∀ M0 w0, VWp P M0 w0 fn.ntmps c (VRetO t e sz nl es) ⟨enumA 0 args, []⟩) : VCo P f args e sz nl es := by
  refine ⟨hg, hsz, hes, fun w M vs hM hl hv => ?_⟩
  refine calls_of_wp hf hb (wp_mono (h M w hN (fun _ => 0) _ w (rel_init hn hM hl hv)) ?_)
  have key : ∀ (st' : VS) (p' : Nat → Nat) (a' : Act) (w' : World), Rel M w fn.ntmps p' st' a' w' → (∃ id, lkp st'.s t = .osl id ∧ st'.h[id]? = some (some (.arr e sz nl es))) →
      a'.defers = [] ∧ ∃ v, (results fn a'.tmps).run P w' = .ok v w' ∧ ∃ v', Ending.returned v = .returned v' ∧ Below w.heap.size w w' ∧ OwnRow w w' M e sz nl es v' := by
    intro st' p' a' w' R ⟨id, hs, hi⟩
    have hsl := R.slots t
    rw [hs] at hsl
    obtain ⟨A, n, c, hq, hid, hosl⟩ := hsl.osl_inv
    have ho := hosl _ _ _ _ hi
    have hob := R.objs id _ hi
    have hres : (results fn a'.tmps).run P w' = .ok (a'.tmps.getD t undef) w' := by
      unfold results
      rw [hr]
      simp
    refine ⟨R.defers, _, hres, _, rfl, R.below, ?_⟩
    unfold Osl at ho
    unfold OwnRow
    obtain ⟨_, _, hrow⟩ := hob
    cases nl
    · simp only [Bool.false_eq_true, if_false] at ho hrow ⊢
      obtain ⟨cap, cur, h1, h2, h3, h4, h5⟩ := ho
      obtain ⟨hge, cur', h6, _, h7⟩ := hrow
      obtain rfl : cur' = cur := by rw [h6] at h2; injection h2 with h2; injection h2
      refine ⟨p' id, cap, cur', h1, hge, h6, h3, h4, h5, fun k x j c hk hj => ?_⟩
      obtain ⟨u, hu, hv⟩ := h7 k x j c hk hj
      refine ⟨u, hu, hv.keep (Keeps.refl _ _) fun b _ hn hm => ?_⟩
      rcases hm with hm | hm
      · exact hn (.inl hm)
      · exact hn (.inr ⟨id, _, hi, rfl, hm.symm⟩)
    · simp only [if_true] at ho hrow ⊢
      exact ⟨ho.1, hrow⟩
  rintro en a' w' ⟨st', p', R', hq⟩
  cases en with
  | normal => exact key st' p' a' w' R' hq
  | ret => exact key st' p' a' w' R' hq
  | _ => exact hq.elim
/-- A row that is the call's own, as one that is only read. -/
theorem VC_of_own {f : FuncId} {args : List AV} {e sz : Nat} {nl : Bool} {es : List (List AV)} (h : VCo P f args e sz nl es) : VC P f args (.sl sz es) := by
  obtain ⟨hg, hsz, hes, hc⟩ := h
  refine ⟨hg, fun w M vs hM hl hv => (hc w M vs hM hl hv).mono ?_⟩
  rintro en w' ⟨v, rfl, hb, ho⟩
  refine ⟨v, rfl, hb, ?_⟩
  unfold OwnRow at ho
  cases nl
  · simp only [Bool.false_eq_true, if_false] at ho
    obtain ⟨g, cap, cur, rfl, hge, hh, hcs, hle, _, hvv⟩ := ho
    by_cases hne : es = []
    · subst hne
      exact .slNil _ _ _
    · have hMg : ¬ M g := fun hm => by have := hM g hm; omega
      refine .sl sz es cap g 0 (fun k j => cur.getD (k * sz + j) undef) hne (Array.getElem?_eq_some_iff.1 hh).1 hMg hle (fun k x hk => (hes k x hk).1) (fun k x j c hk hj => (hes k x hk).2 c (List.mem_of_getElem? hj)) (fun k j hk hj => ?_) fun k x j c hk hj => ?_
      · rw [cell_of_row w' g _ cur e (0, 0) hh, Nat.zero_add]
        have : (k + 1) * sz ≤ cap * sz := Nat.mul_le_mul_right _ (by omega)
        rw [Nat.add_mul] at this
        have : k * sz + j < cur.size := by omega
        simp [this]
      · obtain ⟨u, hu, hv0⟩ := hvv k x j c hk hj
        have : cur.getD (k * sz + j) undef = u := by simp [hu]
        simp only [this]
        exact hv0.keep (Keeps.refl _ _) fun b _ hn hm => hn (.inl hm)
  · simp only [if_true] at ho
    obtain ⟨rfl, rfl⟩ := ho
    exact .slNil _ _ _
end
end Go.Proofs.Ytmfmpagfjgpodaa
