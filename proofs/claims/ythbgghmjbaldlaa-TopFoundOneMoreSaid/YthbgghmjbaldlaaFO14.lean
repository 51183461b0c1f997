/- Texts in one: Walks on plain values: pairs as many as can be; the functions that write to a matching. -/
import Derived.Test.YthbgghmjbaldlaaFO5
import Derived.Test.YthbgghmjbaldlaaFO12
import Derived.Test.YthbgghmjbaldlaaFO4
import Derived.Test.YthbgghmjbaldlaaFO13
/-! QMo1: Walks on plain values: pairs as many as can be; the functions that write to a matching. -/
namespace Go.Proofs.Ythbgghmjbaldlaa
open Go.RowKit
set_option maxRecDepth 100000
set_option maxHeartbeats 1000000
/-- A matching: of each item its claim, of each claim its item; and the items that were asked. -/
structure Mt where
  items : List Int
  claims : List Int
  seen : List Nat
def Mt.see (s : Mt) (i : Nat) : Mt := ⟨s.items, s.claims, s.seen ++ [i]⟩
def Mt.set (s : Mt) (i k : Nat) : Mt := ⟨s.items.set i k, s.claims.set k i, s.seen⟩
def tryL (g : Nat → Mt → Bool × Mt) (k : Nat) : List Nat → Mt → Bool × Mt
  | [], s => (false, s)
  | i :: r, s =>
    if i ∈ s.seen then tryL g k r s
    else if s.items.getD i 0 < 0 then (true, (s.see i).set i k)
    else if (g (s.items.getD i 0).toNat (s.see i)).1 = true then (true, (g (s.items.getD i 0).toNat (s.see i)).2.set i k)
    else tryL g k r (g (s.items.getD i 0).toNat (s.see i)).2
def giveF (pos : List (List Nat)) : Nat → Nat → Mt → Bool × Mt
  | 0, _, s => (false, s)
  | n + 1, k, s => tryL (giveF pos n) k (pos.getD k []) s
structure Mt.OK (n m : Nat) (s : Mt) : Prop where
  items : s.items.length = n
  claims : s.claims.length = m
  vals : ∀ v ∈ s.items, v < (m : Int)
  nodup : s.seen.Nodup
  seen : ∀ i ∈ s.seen, i < n
def posA (pos : List (List Nat)) : AV := .sl 1 (pos.map fun r => [.sl 1 (r.map fun i : Nat => intA (i : Int))])
def seenV (l : List Nat) : List (Value × Value) := l.map fun i : Nat => (.int .i64 (i : Int), .bool true)
def mtH (pos : List (List Nat)) (s : Mt) : Hp := [some (.box [posA pos, .osl 1, .osl 2]), some (.arr 3 1 false (s.items.map intA)), some (.arr 3 1 false (s.claims.map intA)), some (.mpo (5, .i64) (seenV s.seen))]
attribute [go_sem] mtH posA
theorem seen_in {l : List Nat} {i : Nat} (h : i ∈ l) : findK (.int .i64 (i : Int)) (seenV l) = some (.bool true) := by
  induction l with
  | nil => cases h
  | cons a l ih =>
    simp only [seenV, List.map_cons, findK] at ih ⊢
    by_cases he : i = a
    · subst he
      simp [sameKey]
    · have : sameKey (.int .i64 (i : Int)) (.int .i64 (a : Int)) = false := by simp [sameKey]; omega
      rw [this]
      rcases List.mem_cons.1 h with h | h
      · exact absurd h he
      · exact ih h
theorem seen_out {l : List Nat} {i : Nat} (h : i ∉ l) : findK (.int .i64 (i : Int)) (seenV l) = none ∧ ∀ v, updK (.int .i64 (i : Int)) v (seenV l) = seenV l ++ [(.int .i64 (i : Int), v)] := by
  induction l with
  | nil => exact ⟨rfl, fun _ => rfl⟩
  | cons a l ih =>
    simp only [List.mem_cons, not_or] at h
    obtain ⟨h1, h2⟩ := ih h.2
    have : sameKey (.int .i64 (i : Int)) (.int .i64 (a : Int)) = false := by simp [sameKey]; omega
    simp only [seenV, List.map_cons, findK, updK, this] at h1 h2 ⊢
    exact ⟨h1, fun v => by rw [if_neg (by simp), h2 v]; rfl⟩
theorem pig : ∀ (n : Nat) (l : List Nat), l.Nodup → (∀ i ∈ l, i < n) → l.length ≤ n
  | 0, l, _, h => by
    cases l with
    | nil => simp
    | cons a l => exact absurd (h a (by simp)) (by omega)
  | n + 1, l, hn, h => by
    by_cases hm : n ∈ l
    · have := pig n (l.erase n) (hn.erase n) fun i hi => by
        obtain ⟨h1, h2⟩ := (List.Nodup.mem_erase_iff hn).1 hi
        have := h i h2
        omega
      rw [List.length_erase_of_mem hm] at this
      omega
    · have := pig n l hn fun i hi => by
        have := h i hi
        have : i ≠ n := fun e => hm (e ▸ hi)
        omega
      omega
section
variable {n m : Nat} {s : Mt}
theorem Mt.OK.see_ok {i : Nat} (hs : s.OK n m) (hi : i < n) (hni : i ∉ s.seen) : (s.see i).OK n m ∧ (s.see i).seen.length = s.seen.length + 1 :=
  ⟨⟨hs.items, hs.claims, hs.vals, by
    simp only [Mt.see]
    rw [List.nodup_append]
    exact ⟨hs.nodup, by simp, fun a ha b hb => by simp at hb; subst hb; exact fun e => hni (e ▸ ha)⟩, fun j hj => by
    simp only [Mt.see, List.mem_append, List.mem_singleton] at hj
    rcases hj with hj | hj
    · exact hs.seen j hj
    · omega⟩, by simp [Mt.see]⟩
theorem Mt.OK.set_ok {i k : Nat} (hs : s.OK n m) (hk : k < m) : (s.set i k).OK n m :=
  ⟨by simp [Mt.set, hs.items], by simp [Mt.set, hs.claims], fun v hv => by
    simp only [Mt.set] at hv
    rcases List.mem_or_eq_of_mem_set hv with hv | rfl
    · exact hs.vals v hv
    · omega, hs.nodup, hs.seen⟩
theorem Mt.OK.val {i : Nat} (hs : s.OK n m) (hi : i < n) (h0 : 0 ≤ s.items.getD i 0) : (s.items.getD i 0).toNat < m := by
  have hl : i < s.items.length := by rw [hs.items]; exact hi
  have := hs.vals s.items[i] (List.getElem_mem hl)
  have he : s.items.getD i 0 = s.items[i] := by simp [List.getD, hl]
  omega
theorem tryL_ok {g : Nat → Mt → Bool × Mt} (hg : ∀ k s, k < m → s.OK n m → (g k s).2.OK n m ∧ s.seen.length ≤ (g k s).2.seen.length) {k : Nat} (hk : k < m) :
    ∀ (r : List Nat) (s : Mt), (∀ i ∈ r, i < n) → s.OK n m → (tryL g k r s).2.OK n m ∧ s.seen.length ≤ (tryL g k r s).2.seen.length
  | [], s, _, hs => ⟨hs, Nat.le_refl _⟩
  | i :: r, s, hr, hs => by
    have ih := fun s => tryL_ok hg hk r s fun j hj => hr j (List.mem_cons_of_mem _ hj)
    have hi := hr i (by simp)
    unfold tryL
    split
    · exact ih s hs
    · rename_i hni
      obtain ⟨h1, h2⟩ := hs.see_ok hi hni
      split
      · exact ⟨h1.set_ok hk, by show s.seen.length ≤ (s.see i).seen.length; omega⟩
      · rename_i h0
        obtain ⟨h3, h4⟩ := hg _ _ (hs.val hi (by omega)) h1
        split
        · exact ⟨h3.set_ok hk, by show s.seen.length ≤ (g (s.items.getD i 0).toNat (s.see i)).2.seen.length; omega⟩
        · obtain ⟨h5, h6⟩ := ih _ h3
          exact ⟨h5, by omega⟩
theorem giveF_ok {pos : List (List Nat)} (hp : ∀ r ∈ pos, ∀ i ∈ r, i < n) : ∀ (f k : Nat) (s : Mt), k < m → s.OK n m → (giveF pos f k s).2.OK n m ∧ s.seen.length ≤ (giveF pos f k s).2.seen.length
  | 0, k, s, _, hs => ⟨hs, Nat.le_refl _⟩
  | f + 1, k, s, hk, hs => by
    refine tryL_ok (fun k s => giveF_ok hp f k s) hk _ s (fun i hi => ?_) hs
    by_cases hl : k < pos.length
    · have : pos.getD k [] = pos[k] := by simp [List.getD, hl]
      rw [this] at hi
      exact hp _ (List.getElem_mem hl) i hi
    · have : pos.getD k [] = [] := by simp [List.getD, hl]
      rw [this] at hi
      cases hi
end
@[go_sem] theorem mi_seen : minfo Try.prog 72 = some ((5, .i64), .bool false) := by kernel_rfl
theorem w_give (pos : List (List Nat)) (n m fuel : Nat) (hp : ∀ r ∈ pos, ∀ i ∈ r, i < n) (_hn : n ≤ 1000) (_hm : m ≤ 1000) (hl : pos.length = m) (hlr : ∀ r ∈ pos, r.length ≤ 1000) :
    ∀ (k : Nat) (s : Mt), k < m → s.OK n m → n - s.seen.length < fuel → VH Try.prog 29 (mtH pos s) [.ref 0 0, I (k : Int), .mp 3] [0, 2] (mtH pos (giveF pos fuel k s).2) (B (giveF pos fuel k s).1) := by
  induction fuel with
  | zero => intro k s hk hs hf; omega
  | succ fuel ih =>
    intro k s0 hk hs0 hf
    have hkl : k < pos.length := by omega
    obtain ⟨row, hrow⟩ : ∃ row, pos[k] = row := ⟨_, rfl⟩
    have hG : giveF pos (fuel + 1) k s0 = tryL (giveF pos fuel) k row s0 := by simp [giveF, List.getD, hkl, hrow]
    have hri : ∀ i ∈ row, i < n := hrow ▸ hp _ (List.getElem_mem hkl)
    have hrl : row.length ≤ 1000 := hrow ▸ hlr _ (List.getElem_mem hkl)
    rw [hG]
    clear hG
    obtain ⟨T, hT⟩ : ∃ T, tryL (giveF pos fuel) k row s0 = T := ⟨_, rfl⟩
    have hT' := hT
    rw [hT]
    have HT := Lib.hid hT'
    clear hT hT'
    refine VH_of Try.func29 rfl (by kernel_rfl) rfl (fun _ => by kernel_rfl) fun M0 w0 vs => ?_
    simp only [Try.ntmps29, Try.results29, enumA]
    unfold mtH posA
    repeat' (first | (with_reducible first | refine vseq ?_ | refine vthenN ?_ | refine vthenE ?_ | refine vthenR ?_ | refine vret ?_ | refine vskip ?_ | refine vexit ?_ | refine vblock ?_ | refine vblockN ?_ | refine vblockR ?_ | refine vblockH ?_ | refine vrun_nil ?_ | refine vblockE rfl ?_ | refine vregion [] ?_ | refine vhrun_nil ?_) | ((with_reducible refine vcondT ?_ ?_); (focus (go_simp; done))) | ((with_reducible refine vcondF ?_ ?_); (focus (go_simp; done))) | ((with_reducible first | refine vrun_cons fun KK hKK => ?_ | refine vhrun_cons fun KK hKK => ?_); go_simp; refine hKK _ ?_; clear hKK KK) | ((refine vdrawL 16 16 [] rfl (by kernel_rfl) (by kernel_rfl) ?_); simp only [List.append, List.take, List.drop]) | ((with_reducible refine vcondS ?_ (fun ht => ?_) (fun ht => ?_)); (focus (go_simp; done)); (all_goals (simp [go_sem] at ht; replace ht := ht.out))) | ((apply vrun_consG0 rfl); (focus (go_simp <;> exact rfl)); (focus (go_simp; done)); (focus (intro hb0; replace hb0 := hb0.out; go_simp <;> (first | exact rfl))); intro KK hKK; go_simp; refine hKK _ ?_; clear hKK KK) | ((apply vhrun_consG0 rfl); (focus (go_simp <;> exact rfl)); (focus (intro hb0; replace hb0 := hb0.out; go_simp <;> (first | exact rfl))); intro KK hKK; go_simp; refine hKK _ ?_; clear hKK KK))
    try rw [hrow]
    clear hrow
    apply vloopK (α := Nat × Mt) [0, 1, 2, 15, 16] (fun (x : Nat × Mt) => [(17, I x.1)]) (fun (x : Nat × Mt) => (mtH pos x.2 : Hp)) (fun (x : Nat × Mt) => Hid (tryL (giveF pos fuel) k (row.drop x.1) x.2 = T) ∧ x.2.OK n m ∧ s0.seen.length ≤ x.2.seen.length ∧ x.1 ≤ row.length) (fun (x : Nat × Mt) => row.length - x.1) ((0, s0)) ⟨by simpa using HT, hs0, Nat.le_refl _, Nat.zero_le _⟩
    · (go_simp <;> exact rfl)
    · go_simp
    · rintro ⟨j, s⟩ ⟨HI, hs, hle, hj⟩ K hK
      simp only at HI hs hle hj
      unfold mtH posA
      have wj := wrap_eq (x := (j : Int) + 1) (by omega) (by omega)
      by_cases hlt : j < row.length
      · have hin : row[j] < n := hri _ (List.getElem_mem hlt)
        have hdr : row.drop j = row[j] :: row.drop (j + 1) := List.drop_eq_getElem_cons hlt
        obtain ⟨i, hi⟩ : ∃ i, row[j] = i := ⟨_, rfl⟩
        rw [hi] at hin hdr
        have HJ : Hid (tryL (giveF pos fuel) k (i :: row.drop (j + 1)) s = T) := Lib.hid (by rw [← hdr]; exact HI.out)
        clear HI hdr
        by_cases hse : i ∈ s.seen
        · have hf := seen_in hse
          have HK : Hid (tryL (giveF pos fuel) k (row.drop (j + 1)) s = T) := Lib.hid (by have := HJ.out; rwa [tryL, if_pos hse] at this)
          clear HJ
          repeat' (first | (with_reducible first | refine vseq ?_ | refine vthenN ?_ | refine vthenE ?_ | refine vthenR ?_ | refine vret ?_ | refine vskip ?_ | refine vexit ?_ | refine vblock ?_ | refine vblockN ?_ | refine vblockR ?_ | refine vblockH ?_ | refine vrun_nil ?_ | refine vblockE rfl ?_ | refine vregion [] ?_ | refine vhrun_nil ?_) | ((with_reducible refine vcondT ?_ ?_); (focus (go_simp; done))) | ((with_reducible refine vcondF ?_ ?_); (focus (go_simp; done))) | ((with_reducible first | refine vrun_cons fun KK hKK => ?_ | refine vhrun_cons fun KK hKK => ?_); go_simp; refine hKK _ ?_; clear hKK KK) | ((refine vdrawL 16 16 [] rfl (by kernel_rfl) (by kernel_rfl) ?_); simp only [List.append, List.take, List.drop]) | ((with_reducible refine vcondS ?_ (fun ht => ?_) (fun ht => ?_)); (focus (go_simp; done)); (all_goals (simp [go_sem] at ht; replace ht := ht.out))) | ((apply vrun_consG0 rfl); (focus (go_simp <;> exact rfl)); (focus (go_simp; done)); (focus (intro hb0; replace hb0 := hb0.out; go_simp <;> (first | exact rfl))); intro KK hKK; go_simp; refine hKK _ ?_; clear hKK KK) | ((apply vhrun_consG0 rfl); (focus (go_simp <;> exact rfl)); (focus (intro hb0; replace hb0 := hb0.out; go_simp <;> (first | exact rfl))); intro KK hKK; go_simp; refine hKK _ ?_; clear hKK KK))
          refine hK _ (j + 1, s) ⟨HK, hs, hle, hlt⟩ (by simp only; omega) ?_
          go_simp
        · obtain ⟨hf, hu⟩ := seen_out hse
          have hu := hu (.bool true)
          obtain ⟨hse1, hsl⟩ := hs.see_ok hin hse
          have hil : i < s.items.length := by rw [hs.items]; exact hin
          have hkc : k < s.claims.length := by rw [hs.claims]; exact hk
          obtain ⟨v, hv⟩ : ∃ v, s.items[i] = v := ⟨_, rfl⟩
          have hgv : s.items.getD i 0 = v := by simp [List.getD, hil, hv]
          have HT2 := HJ.out
          rw [tryL, if_neg hse, hgv] at HT2
          have hval := hs.val hin
          rw [hgv] at hval
          clear HJ
          by_cases hv0 : v < 0
          · rw [if_pos hv0] at HT2
            have HK := Lib.hid HT2
            clear HT2 hval
            repeat' (first | (with_reducible first | refine vseq ?_ | refine vthenN ?_ | refine vthenE ?_ | refine vthenR ?_ | refine vret ?_ | refine vskip ?_ | refine vexit ?_ | refine vblock ?_ | refine vblockN ?_ | refine vblockR ?_ | refine vblockH ?_ | refine vrun_nil ?_ | refine vblockE rfl ?_ | refine vhrun_nil ?_) | ((with_reducible refine vcondT ?_ ?_); (focus (go_simp; done))) | ((with_reducible refine vcondF ?_ ?_); (focus (go_simp; done))) | ((with_reducible first | refine vrun_cons fun KK hKK => ?_ | refine vhrun_cons fun KK hKK => ?_); go_simp; refine hKK _ ?_; clear hKK KK) | ((with_reducible refine vcondS ?_ (fun ht => ?_) (fun ht => ?_)); (focus (go_simp; done)); (all_goals (simp [go_sem] at ht; replace ht := ht.out))) | ((apply vrun_consG0 rfl); (focus (go_simp <;> exact rfl)); (focus (go_simp; done)); (focus (intro hb0; replace hb0 := hb0.out; go_simp <;> (first | exact rfl))); intro KK hKK; go_simp; refine hKK _ ?_; clear hKK KK) | ((apply vhrun_consG0 rfl); (focus (go_simp <;> exact rfl)); (focus (intro hb0; replace hb0 := hb0.out; go_simp <;> (first | exact rfl))); intro KK hKK; go_simp; refine hKK _ ?_; clear hKK KK))
            refine vregion [] ?_
            repeat' (first | (with_reducible first | refine vseq ?_ | refine vthenN ?_ | refine vthenE ?_ | refine vthenR ?_ | refine vret ?_ | refine vskip ?_ | refine vexit ?_ | refine vblock ?_ | refine vblockN ?_ | refine vblockR ?_ | refine vblockH ?_ | refine vrun_nil ?_ | refine vblockE rfl ?_ | refine vhrun_nil ?_) | ((with_reducible refine vcondT ?_ ?_); (focus (go_simp; done))) | ((with_reducible refine vcondF ?_ ?_); (focus (go_simp; done))) | ((with_reducible first | refine vrun_cons fun KK hKK => ?_ | refine vhrun_cons fun KK hKK => ?_); go_simp; refine hKK _ ?_; clear hKK KK) | ((with_reducible refine vcondS ?_ (fun ht => ?_) (fun ht => ?_)); (focus (go_simp; done)); (all_goals (simp [go_sem] at ht; replace ht := ht.out))) | ((apply vrun_consG0 rfl); (focus (go_simp <;> exact rfl)); (focus (go_simp; done)); (focus (intro hb0; replace hb0 := hb0.out; go_simp <;> (first | exact rfl))); intro KK hKK; go_simp; refine hKK _ ?_; clear hKK KK) | ((apply vhrun_consG0 rfl); (focus (go_simp <;> exact rfl)); (focus (intro hb0; replace hb0 := hb0.out; go_simp <;> (first | exact rfl))); intro KK hKK; go_simp; refine hKK _ ?_; clear hKK KK))
            refine vregion [] ?_
            repeat' (first | (with_reducible first | refine vseq ?_ | refine vthenN ?_ | refine vthenE ?_ | refine vthenR ?_ | refine vret ?_ | refine vskip ?_ | refine vexit ?_ | refine vblock ?_ | refine vblockN ?_ | refine vblockR ?_ | refine vblockH ?_ | refine vrun_nil ?_ | refine vblockE rfl ?_ | refine vhrun_nil ?_) | ((with_reducible refine vcondT ?_ ?_); (focus (go_simp; done))) | ((with_reducible refine vcondF ?_ ?_); (focus (go_simp; done))) | ((with_reducible first | refine vrun_cons fun KK hKK => ?_ | refine vhrun_cons fun KK hKK => ?_); go_simp; refine hKK _ ?_; clear hKK KK) | ((with_reducible refine vcondS ?_ (fun ht => ?_) (fun ht => ?_)); (focus (go_simp; done)); (all_goals (simp [go_sem] at ht; replace ht := ht.out))) | ((apply vrun_consG0 rfl); (focus (go_simp <;> exact rfl)); (focus (go_simp; done)); (focus (intro hb0; replace hb0 := hb0.out; go_simp <;> (first | exact rfl))); intro KK hKK; go_simp; refine hKK _ ?_; clear hKK KK) | ((apply vhrun_consG0 rfl); (focus (go_simp <;> exact rfl)); (focus (intro hb0; replace hb0 := hb0.out; go_simp <;> (first | exact rfl))); intro KK hKK; go_simp; refine hKK _ ?_; clear hKK KK))
            refine vregion [] ?_
            repeat' (first | (with_reducible first | refine vseq ?_ | refine vthenN ?_ | refine vthenE ?_ | refine vthenR ?_ | refine vret ?_ | refine vskip ?_ | refine vexit ?_ | refine vblock ?_ | refine vblockN ?_ | refine vblockR ?_ | refine vblockH ?_ | refine vrun_nil ?_ | refine vblockE rfl ?_ | refine vhrun_nil ?_) | ((with_reducible refine vcondT ?_ ?_); (focus (go_simp; done))) | ((with_reducible refine vcondF ?_ ?_); (focus (go_simp; done))) | ((with_reducible first | refine vrun_cons fun KK hKK => ?_ | refine vhrun_cons fun KK hKK => ?_); go_simp; refine hKK _ ?_; clear hKK KK) | ((with_reducible refine vcondS ?_ (fun ht => ?_) (fun ht => ?_)); (focus (go_simp; done)); (all_goals (simp [go_sem] at ht; replace ht := ht.out))) | ((apply vrun_consG0 rfl); (focus (go_simp <;> exact rfl)); (focus (go_simp; done)); (focus (intro hb0; replace hb0 := hb0.out; go_simp <;> (first | exact rfl))); intro KK hKK; go_simp; refine hKK _ ?_; clear hKK KK) | ((apply vhrun_consG0 rfl); (focus (go_simp <;> exact rfl)); (focus (intro hb0; replace hb0 := hb0.out; go_simp <;> (first | exact rfl))); intro KK hKK; go_simp; refine hKK _ ?_; clear hKK KK))
            refine vregion [] ?_
            repeat' (first | (with_reducible first | refine vseq ?_ | refine vthenN ?_ | refine vthenE ?_ | refine vthenR ?_ | refine vret ?_ | refine vskip ?_ | refine vexit ?_ | refine vblock ?_ | refine vblockN ?_ | refine vblockR ?_ | refine vblockH ?_ | refine vrun_nil ?_ | refine vblockE rfl ?_ | refine vhrun_nil ?_) | ((with_reducible refine vcondT ?_ ?_); (focus (go_simp; done))) | ((with_reducible refine vcondF ?_ ?_); (focus (go_simp; done))) | ((with_reducible first | refine vrun_cons fun KK hKK => ?_ | refine vhrun_cons fun KK hKK => ?_); go_simp; refine hKK _ ?_; clear hKK KK) | ((with_reducible refine vcondS ?_ (fun ht => ?_) (fun ht => ?_)); (focus (go_simp; done)); (all_goals (simp [go_sem] at ht; replace ht := ht.out))) | ((apply vrun_consG0 rfl); (focus (go_simp <;> exact rfl)); (focus (go_simp; done)); (focus (intro hb0; replace hb0 := hb0.out; go_simp <;> (first | exact rfl))); intro KK hKK; go_simp; refine hKK _ ?_; clear hKK KK) | ((apply vhrun_consG0 rfl); (focus (go_simp <;> exact rfl)); (focus (intro hb0; replace hb0 := hb0.out; go_simp <;> (first | exact rfl))); intro KK hKK; go_simp; refine hKK _ ?_; clear hKK KK))
            refine vregion [] ?_
            repeat' (first | (with_reducible first | refine vseq ?_ | refine vthenN ?_ | refine vthenE ?_ | refine vthenR ?_ | refine vret ?_ | refine vskip ?_ | refine vexit ?_ | refine vblock ?_ | refine vblockN ?_ | refine vblockR ?_ | refine vblockH ?_ | refine vrun_nil ?_ | refine vblockE rfl ?_ | refine vhrun_nil ?_) | ((with_reducible refine vcondT ?_ ?_); (focus (go_simp; done))) | ((with_reducible refine vcondF ?_ ?_); (focus (go_simp; done))) | ((with_reducible first | refine vrun_cons fun KK hKK => ?_ | refine vhrun_cons fun KK hKK => ?_); go_simp; refine hKK _ ?_; clear hKK KK) | ((with_reducible refine vcondS ?_ (fun ht => ?_) (fun ht => ?_)); (focus (go_simp; done)); (all_goals (simp [go_sem] at ht; replace ht := ht.out))) | ((apply vrun_consG0 rfl); (focus (go_simp <;> exact rfl)); (focus (go_simp; done)); (focus (intro hb0; replace hb0 := hb0.out; go_simp <;> (first | exact rfl))); intro KK hKK; go_simp; refine hKK _ ?_; clear hKK KK) | ((apply vhrun_consG0 rfl); (focus (go_simp <;> exact rfl)); (focus (intro hb0; replace hb0 := hb0.out; go_simp <;> (first | exact rfl))); intro KK hKK; go_simp; refine hKK _ ?_; clear hKK KK))
            refine vdrawS 13 [] (by kernel_rfl) (by kernel_rfl) (by kernel_rfl) rfl ⟨rfl, rfl⟩ rfl ?_
            simp only [List.take, List.drop]
            repeat' (first | (with_reducible first | refine vseq ?_ | refine vthenN ?_ | refine vthenE ?_ | refine vthenR ?_ | refine vret ?_ | refine vskip ?_ | refine vexit ?_ | refine vblock ?_ | refine vblockN ?_ | refine vblockR ?_ | refine vblockH ?_ | refine vrun_nil ?_ | refine vblockE rfl ?_ | refine vhrun_nil ?_) | ((with_reducible refine vcondT ?_ ?_); (focus (go_simp; done))) | ((with_reducible refine vcondF ?_ ?_); (focus (go_simp; done))) | ((with_reducible first | refine vrun_cons fun KK hKK => ?_ | refine vhrun_cons fun KK hKK => ?_); go_simp; refine hKK _ ?_; clear hKK KK) | ((with_reducible refine vcondS ?_ (fun ht => ?_) (fun ht => ?_)); (focus (go_simp; done)); (all_goals (simp [go_sem] at ht; replace ht := ht.out))) | ((apply vrun_consG0 rfl); (focus (go_simp <;> exact rfl)); (focus (go_simp; done)); (focus (intro hb0; replace hb0 := hb0.out; go_simp <;> (first | exact rfl))); intro KK hKK; go_simp; refine hKK _ ?_; clear hKK KK) | ((apply vhrun_consG0 rfl); (focus (go_simp <;> exact rfl)); (focus (intro hb0; replace hb0 := hb0.out; go_simp <;> (first | exact rfl))); intro KK hKK; go_simp; refine hKK _ ?_; clear hKK KK))
            refine ⟨_, by go_simp; exact rfl, ?_⟩
            repeat' (first | (with_reducible first | refine vseq ?_ | refine vthenN ?_ | refine vthenE ?_ | refine vthenR ?_ | refine vret ?_ | refine vskip ?_ | refine vexit ?_ | refine vblock ?_ | refine vblockN ?_ | refine vblockR ?_ | refine vblockH ?_ | refine vrun_nil ?_ | refine vblockE rfl ?_ | refine vregion [] ?_ | refine vhrun_nil ?_) | ((with_reducible refine vcondT ?_ ?_); (focus (go_simp; done))) | ((with_reducible refine vcondF ?_ ?_); (focus (go_simp; done))) | ((with_reducible first | refine vrun_cons fun KK hKK => ?_ | refine vhrun_cons fun KK hKK => ?_); go_simp; refine hKK _ ?_; clear hKK KK) | ((refine vdrawL 16 16 [] rfl (by kernel_rfl) (by kernel_rfl) ?_); simp only [List.append, List.take, List.drop]) | ((with_reducible refine vcondS ?_ (fun ht => ?_) (fun ht => ?_)); (focus (go_simp; done)); (all_goals (simp [go_sem] at ht; replace ht := ht.out))) | ((apply vrun_consG0 rfl); (focus (go_simp <;> exact rfl)); (focus (go_simp; done)); (focus (intro hb0; replace hb0 := hb0.out; go_simp <;> (first | exact rfl))); intro KK hKK; go_simp; refine hKK _ ?_; clear hKK KK) | ((apply vhrun_consG0 rfl); (focus (go_simp <;> exact rfl)); (focus (intro hb0; replace hb0 := hb0.out; go_simp <;> (first | exact rfl))); intro KK hKK; go_simp; refine hKK _ ?_; clear hKK KK))
            rw [← HK.out]
            go_simp
            simp [Mt.set, Mt.see, seenV, List.map_set, intA]
          · rw [if_neg hv0] at HT2
            have hvn : ((v.toNat : Nat) : Int) = v := Int.toNat_of_nonneg (by omega)
            have hcall := ih v.toNat (s.see i) (hval (by omega)) hse1 (by have := pig n _ hse1.nodup hse1.seen; omega)
            obtain ⟨hgo, hgl⟩ := giveF_ok hp fuel v.toNat (s.see i) (hval (by omega)) hse1
            obtain ⟨g, hg⟩ : ∃ g, giveF pos fuel v.toNat (s.see i) = g := ⟨_, rfl⟩
            rw [hg] at hcall hgo hgl HT2
            rw [hvn] at hcall
            have HT3 := Lib.hid HT2
            clear HT2 hg
            repeat' (first | (with_reducible first | refine vseq ?_ | refine vthenN ?_ | refine vthenE ?_ | refine vthenR ?_ | refine vret ?_ | refine vskip ?_ | refine vexit ?_ | refine vblock ?_ | refine vblockN ?_ | refine vblockR ?_ | refine vblockH ?_ | refine vrun_nil ?_ | refine vblockE rfl ?_ | refine vhrun_nil ?_) | ((with_reducible refine vcondT ?_ ?_); (focus (go_simp; done))) | ((with_reducible refine vcondF ?_ ?_); (focus (go_simp; done))) | ((with_reducible first | refine vrun_cons fun KK hKK => ?_ | refine vhrun_cons fun KK hKK => ?_); go_simp; refine hKK _ ?_; clear hKK KK) | ((with_reducible refine vcondS ?_ (fun ht => ?_) (fun ht => ?_)); (focus (go_simp; done)); (all_goals (simp [go_sem] at ht; replace ht := ht.out))) | ((apply vrun_consG0 rfl); (focus (go_simp <;> exact rfl)); (focus (go_simp; done)); (focus (intro hb0; replace hb0 := hb0.out; go_simp <;> (first | exact rfl))); intro KK hKK; go_simp; refine hKK _ ?_; clear hKK KK) | ((apply vhrun_consG0 rfl); (focus (go_simp <;> exact rfl)); (focus (intro hb0; replace hb0 := hb0.out; go_simp <;> (first | exact rfl))); intro KK hKK; go_simp; refine hKK _ ?_; clear hKK KK))
            refine vregion [] ?_
            repeat' (first | (with_reducible first | refine vseq ?_ | refine vthenN ?_ | refine vthenE ?_ | refine vthenR ?_ | refine vret ?_ | refine vskip ?_ | refine vexit ?_ | refine vblock ?_ | refine vblockN ?_ | refine vblockR ?_ | refine vblockH ?_ | refine vrun_nil ?_ | refine vblockE rfl ?_ | refine vhrun_nil ?_) | ((with_reducible refine vcondT ?_ ?_); (focus (go_simp; done))) | ((with_reducible refine vcondF ?_ ?_); (focus (go_simp; done))) | ((with_reducible first | refine vrun_cons fun KK hKK => ?_ | refine vhrun_cons fun KK hKK => ?_); go_simp; refine hKK _ ?_; clear hKK KK) | ((with_reducible refine vcondS ?_ (fun ht => ?_) (fun ht => ?_)); (focus (go_simp; done)); (all_goals (simp [go_sem] at ht; replace ht := ht.out))) | ((apply vrun_consG0 rfl); (focus (go_simp <;> exact rfl)); (focus (go_simp; done)); (focus (intro hb0; replace hb0 := hb0.out; go_simp <;> (first | exact rfl))); intro KK hKK; go_simp; refine hKK _ ?_; clear hKK KK) | ((apply vhrun_consG0 rfl); (focus (go_simp <;> exact rfl)); (focus (intro hb0; replace hb0 := hb0.out; go_simp <;> (first | exact rfl))); intro KK hKK; go_simp; refine hKK _ ?_; clear hKK KK))
            refine vregion [] ?_
            repeat' (first | (with_reducible first | refine vseq ?_ | refine vthenN ?_ | refine vthenE ?_ | refine vthenR ?_ | refine vret ?_ | refine vskip ?_ | refine vexit ?_ | refine vblock ?_ | refine vblockN ?_ | refine vblockR ?_ | refine vblockH ?_ | refine vrun_nil ?_ | refine vblockE rfl ?_ | refine vhrun_nil ?_) | ((with_reducible refine vcondT ?_ ?_); (focus (go_simp; done))) | ((with_reducible refine vcondF ?_ ?_); (focus (go_simp; done))) | ((with_reducible first | refine vrun_cons fun KK hKK => ?_ | refine vhrun_cons fun KK hKK => ?_); go_simp; refine hKK _ ?_; clear hKK KK) | ((with_reducible refine vcondS ?_ (fun ht => ?_) (fun ht => ?_)); (focus (go_simp; done)); (all_goals (simp [go_sem] at ht; replace ht := ht.out))) | ((apply vrun_consG0 rfl); (focus (go_simp <;> exact rfl)); (focus (go_simp; done)); (focus (intro hb0; replace hb0 := hb0.out; go_simp <;> (first | exact rfl))); intro KK hKK; go_simp; refine hKK _ ?_; clear hKK KK) | ((apply vhrun_consG0 rfl); (focus (go_simp <;> exact rfl)); (focus (intro hb0; replace hb0 := hb0.out; go_simp <;> (first | exact rfl))); intro KK hKK; go_simp; refine hKK _ ?_; clear hKK KK))
            refine vregion [] ?_
            repeat' (first | (with_reducible first | refine vseq ?_ | refine vthenN ?_ | refine vthenE ?_ | refine vthenR ?_ | refine vret ?_ | refine vskip ?_ | refine vexit ?_ | refine vblock ?_ | refine vblockN ?_ | refine vblockR ?_ | refine vblockH ?_ | refine vrun_nil ?_ | refine vblockE rfl ?_ | refine vhrun_nil ?_) | ((with_reducible refine vcondT ?_ ?_); (focus (go_simp; done))) | ((with_reducible refine vcondF ?_ ?_); (focus (go_simp; done))) | ((with_reducible first | refine vrun_cons fun KK hKK => ?_ | refine vhrun_cons fun KK hKK => ?_); go_simp; refine hKK _ ?_; clear hKK KK) | ((with_reducible refine vcondS ?_ (fun ht => ?_) (fun ht => ?_)); (focus (go_simp; done)); (all_goals (simp [go_sem] at ht; replace ht := ht.out))) | ((apply vrun_consG0 rfl); (focus (go_simp <;> exact rfl)); (focus (go_simp; done)); (focus (intro hb0; replace hb0 := hb0.out; go_simp <;> (first | exact rfl))); intro KK hKK; go_simp; refine hKK _ ?_; clear hKK KK) | ((apply vhrun_consG0 rfl); (focus (go_simp <;> exact rfl)); (focus (intro hb0; replace hb0 := hb0.out; go_simp <;> (first | exact rfl))); intro KK hKK; go_simp; refine hKK _ ?_; clear hKK KK))
            refine vregion [] ?_
            repeat' (first | (with_reducible first | refine vseq ?_ | refine vthenN ?_ | refine vthenE ?_ | refine vthenR ?_ | refine vret ?_ | refine vskip ?_ | refine vexit ?_ | refine vblock ?_ | refine vblockN ?_ | refine vblockR ?_ | refine vblockH ?_ | refine vrun_nil ?_ | refine vblockE rfl ?_ | refine vhrun_nil ?_) | ((with_reducible refine vcondT ?_ ?_); (focus (go_simp; done))) | ((with_reducible refine vcondF ?_ ?_); (focus (go_simp; done))) | ((with_reducible first | refine vrun_cons fun KK hKK => ?_ | refine vhrun_cons fun KK hKK => ?_); go_simp; refine hKK _ ?_; clear hKK KK) | ((with_reducible refine vcondS ?_ (fun ht => ?_) (fun ht => ?_)); (focus (go_simp; done)); (all_goals (simp [go_sem] at ht; replace ht := ht.out))) | ((apply vrun_consG0 rfl); (focus (go_simp <;> exact rfl)); (focus (go_simp; done)); (focus (intro hb0; replace hb0 := hb0.out; go_simp <;> (first | exact rfl))); intro KK hKK; go_simp; refine hKK _ ?_; clear hKK KK) | ((apply vhrun_consG0 rfl); (focus (go_simp <;> exact rfl)); (focus (intro hb0; replace hb0 := hb0.out; go_simp <;> (first | exact rfl))); intro KK hKK; go_simp; refine hKK _ ?_; clear hKK KK))
            refine vregionL (vl_run [] 18 ⟨rfl, rfl⟩ ?_)
            simp only [List.take, List.drop]
            repeat' (first | (with_reducible first | refine vseq ?_ | refine vthenN ?_ | refine vthenE ?_ | refine vthenR ?_ | refine vret ?_ | refine vskip ?_ | refine vexit ?_ | refine vblock ?_ | refine vblockN ?_ | refine vblockR ?_ | refine vblockH ?_ | refine vrun_nil ?_ | refine vblockE rfl ?_ | refine vhrun_nil ?_) | ((with_reducible refine vcondT ?_ ?_); (focus (go_simp; done))) | ((with_reducible refine vcondF ?_ ?_); (focus (go_simp; done))) | ((with_reducible first | refine vrun_cons fun KK hKK => ?_ | refine vhrun_cons fun KK hKK => ?_); go_simp; refine hKK _ ?_; clear hKK KK) | ((with_reducible refine vcondS ?_ (fun ht => ?_) (fun ht => ?_)); (focus (go_simp; done)); (all_goals (simp [go_sem] at ht; replace ht := ht.out))) | ((apply vrun_consG0 rfl); (focus (go_simp <;> exact rfl)); (focus (go_simp; done)); (focus (intro hb0; replace hb0 := hb0.out; go_simp <;> (first | exact rfl))); intro KK hKK; go_simp; refine hKK _ ?_; clear hKK KK) | ((apply vhrun_consG0 rfl); (focus (go_simp <;> exact rfl)); (focus (intro hb0; replace hb0 := hb0.out; go_simp <;> (first | exact rfl))); intro KK hKK; go_simp; refine hKK _ ?_; clear hKK KK))
            refine vl_call [0, 1, 2, 3] [0, 3] [] (mtH pos g.2) (B g.1) rfl (by go_simp) ?_ ?_
            · unfold HCall
              go_simp
              refine ⟨_, _, _, hcall, ?_⟩
              go_simp
              simp [Mt.see, seenV]
              kernel_rfl
            · go_simp
              refine vl_run [] 1 ⟨rfl, rfl⟩ ?_
              simp only [List.take, List.drop]
              repeat' (first | (with_reducible first | refine vseq ?_ | refine vthenN ?_ | refine vthenE ?_ | refine vthenR ?_ | refine vret ?_ | refine vskip ?_ | refine vexit ?_ | refine vblock ?_ | refine vblockN ?_ | refine vblockR ?_ | refine vblockH ?_ | refine vrun_nil ?_ | refine vblockE rfl ?_ | refine vhrun_nil ?_) | ((with_reducible refine vcondT ?_ ?_); (focus (go_simp; done))) | ((with_reducible refine vcondF ?_ ?_); (focus (go_simp; done))) | ((with_reducible first | refine vrun_cons fun KK hKK => ?_ | refine vhrun_cons fun KK hKK => ?_); go_simp; refine hKK _ ?_; clear hKK KK) | ((with_reducible refine vcondS ?_ (fun ht => ?_) (fun ht => ?_)); (focus (go_simp; done)); (all_goals (simp [go_sem] at ht; replace ht := ht.out))) | ((apply vrun_consG0 rfl); (focus (go_simp <;> exact rfl)); (focus (go_simp; done)); (focus (intro hb0; replace hb0 := hb0.out; go_simp <;> (first | exact rfl))); intro KK hKK; go_simp; refine hKK _ ?_; clear hKK KK) | ((apply vhrun_consG0 rfl); (focus (go_simp <;> exact rfl)); (focus (intro hb0; replace hb0 := hb0.out; go_simp <;> (first | exact rfl))); intro KK hKK; go_simp; refine hKK _ ?_; clear hKK KK))
              refine vl_nil ?_
              cases hg1 : g.1
              · rw [hg1] at HT3
                repeat' (first | (with_reducible first | refine vseq ?_ | refine vthenN ?_ | refine vthenE ?_ | refine vthenR ?_ | refine vret ?_ | refine vskip ?_ | refine vexit ?_ | refine vblock ?_ | refine vblockN ?_ | refine vblockR ?_ | refine vblockH ?_ | refine vrun_nil ?_ | refine vblockE rfl ?_ | refine vregion [] ?_ | refine vhrun_nil ?_) | ((with_reducible refine vcondT ?_ ?_); (focus (go_simp; done))) | ((with_reducible refine vcondF ?_ ?_); (focus (go_simp; done))) | ((with_reducible first | refine vrun_cons fun KK hKK => ?_ | refine vhrun_cons fun KK hKK => ?_); go_simp; refine hKK _ ?_; clear hKK KK) | ((refine vdrawL 16 16 [] rfl (by kernel_rfl) (by kernel_rfl) ?_); simp only [List.append, List.take, List.drop]) | ((with_reducible refine vcondS ?_ (fun ht => ?_) (fun ht => ?_)); (focus (go_simp; done)); (all_goals (simp [go_sem] at ht; replace ht := ht.out))) | ((apply vrun_consG0 rfl); (focus (go_simp <;> exact rfl)); (focus (go_simp; done)); (focus (intro hb0; replace hb0 := hb0.out; go_simp <;> (first | exact rfl))); intro KK hKK; go_simp; refine hKK _ ?_; clear hKK KK) | ((apply vhrun_consG0 rfl); (focus (go_simp <;> exact rfl)); (focus (intro hb0; replace hb0 := hb0.out; go_simp <;> (first | exact rfl))); intro KK hKK; go_simp; refine hKK _ ?_; clear hKK KK))
                refine hK _ (j + 1, g.2) ⟨Lib.hid (by simpa using HT3.out), hgo, by simp only; omega, hlt⟩ (by simp only; omega) ?_
                go_simp
              · rw [hg1] at HT3
                have gil : i < g.2.items.length := by rw [hgo.items]; exact hin
                have gkl : k < g.2.claims.length := by rw [hgo.claims]; exact hk
                repeat' (first | (with_reducible first | refine vseq ?_ | refine vthenN ?_ | refine vthenE ?_ | refine vthenR ?_ | refine vret ?_ | refine vskip ?_ | refine vexit ?_ | refine vblock ?_ | refine vblockN ?_ | refine vblockR ?_ | refine vblockH ?_ | refine vrun_nil ?_ | refine vblockE rfl ?_ | refine vhrun_nil ?_) | ((with_reducible refine vcondT ?_ ?_); (focus (go_simp; done))) | ((with_reducible refine vcondF ?_ ?_); (focus (go_simp; done))) | ((with_reducible first | refine vrun_cons fun KK hKK => ?_ | refine vhrun_cons fun KK hKK => ?_); go_simp; refine hKK _ ?_; clear hKK KK) | ((with_reducible refine vcondS ?_ (fun ht => ?_) (fun ht => ?_)); (focus (go_simp; done)); (all_goals (simp [go_sem] at ht; replace ht := ht.out))) | ((apply vrun_consG0 rfl); (focus (go_simp <;> exact rfl)); (focus (go_simp; done)); (focus (intro hb0; replace hb0 := hb0.out; go_simp <;> (first | exact rfl))); intro KK hKK; go_simp; refine hKK _ ?_; clear hKK KK) | ((apply vhrun_consG0 rfl); (focus (go_simp <;> exact rfl)); (focus (intro hb0; replace hb0 := hb0.out; go_simp <;> (first | exact rfl))); intro KK hKK; go_simp; refine hKK _ ?_; clear hKK KK))
                refine vdrawS 13 [] (by kernel_rfl) (by kernel_rfl) (by kernel_rfl) rfl ⟨rfl, rfl⟩ rfl ?_
                simp only [List.take, List.drop]
                repeat' (first | (with_reducible first | refine vseq ?_ | refine vthenN ?_ | refine vthenE ?_ | refine vthenR ?_ | refine vret ?_ | refine vskip ?_ | refine vexit ?_ | refine vblock ?_ | refine vblockN ?_ | refine vblockR ?_ | refine vblockH ?_ | refine vrun_nil ?_ | refine vblockE rfl ?_ | refine vhrun_nil ?_) | ((with_reducible refine vcondT ?_ ?_); (focus (go_simp; done))) | ((with_reducible refine vcondF ?_ ?_); (focus (go_simp; done))) | ((with_reducible first | refine vrun_cons fun KK hKK => ?_ | refine vhrun_cons fun KK hKK => ?_); go_simp; refine hKK _ ?_; clear hKK KK) | ((with_reducible refine vcondS ?_ (fun ht => ?_) (fun ht => ?_)); (focus (go_simp; done)); (all_goals (simp [go_sem] at ht; replace ht := ht.out))) | ((apply vrun_consG0 rfl); (focus (go_simp <;> exact rfl)); (focus (go_simp; done)); (focus (intro hb0; replace hb0 := hb0.out; go_simp <;> (first | exact rfl))); intro KK hKK; go_simp; refine hKK _ ?_; clear hKK KK) | ((apply vhrun_consG0 rfl); (focus (go_simp <;> exact rfl)); (focus (intro hb0; replace hb0 := hb0.out; go_simp <;> (first | exact rfl))); intro KK hKK; go_simp; refine hKK _ ?_; clear hKK KK))
                refine ⟨_, by go_simp; exact rfl, ?_⟩
                repeat' (first | (with_reducible first | refine vseq ?_ | refine vthenN ?_ | refine vthenE ?_ | refine vthenR ?_ | refine vret ?_ | refine vskip ?_ | refine vexit ?_ | refine vblock ?_ | refine vblockN ?_ | refine vblockR ?_ | refine vblockH ?_ | refine vrun_nil ?_ | refine vblockE rfl ?_ | refine vregion [] ?_ | refine vhrun_nil ?_) | ((with_reducible refine vcondT ?_ ?_); (focus (go_simp; done))) | ((with_reducible refine vcondF ?_ ?_); (focus (go_simp; done))) | ((with_reducible first | refine vrun_cons fun KK hKK => ?_ | refine vhrun_cons fun KK hKK => ?_); go_simp; refine hKK _ ?_; clear hKK KK) | ((refine vdrawL 16 16 [] rfl (by kernel_rfl) (by kernel_rfl) ?_); simp only [List.append, List.take, List.drop]) | ((with_reducible refine vcondS ?_ (fun ht => ?_) (fun ht => ?_)); (focus (go_simp; done)); (all_goals (simp [go_sem] at ht; replace ht := ht.out))) | ((apply vrun_consG0 rfl); (focus (go_simp <;> exact rfl)); (focus (go_simp; done)); (focus (intro hb0; replace hb0 := hb0.out; go_simp <;> (first | exact rfl))); intro KK hKK; go_simp; refine hKK _ ?_; clear hKK KK) | ((apply vhrun_consG0 rfl); (focus (go_simp <;> exact rfl)); (focus (intro hb0; replace hb0 := hb0.out; go_simp <;> (first | exact rfl))); intro KK hKK; go_simp; refine hKK _ ?_; clear hKK KK))
                rw [← HT3.out]
                go_simp
                simp [Mt.set, seenV, List.map_set, intA]
      · have hdr : row.drop j = [] := List.drop_eq_nil_of_le (by omega)
        have HK := HI.out
        rw [hdr, tryL] at HK
        subst HK
        clear HI hdr
        repeat' (first | (with_reducible first | refine vseq ?_ | refine vthenN ?_ | refine vthenE ?_ | refine vthenR ?_ | refine vret ?_ | refine vskip ?_ | refine vexit ?_ | refine vblock ?_ | refine vblockN ?_ | refine vblockR ?_ | refine vblockH ?_ | refine vrun_nil ?_ | refine vblockE rfl ?_ | refine vregion [] ?_ | refine vhrun_nil ?_) | ((with_reducible refine vcondT ?_ ?_); (focus (go_simp; done))) | ((with_reducible refine vcondF ?_ ?_); (focus (go_simp; done))) | ((with_reducible first | refine vrun_cons fun KK hKK => ?_ | refine vhrun_cons fun KK hKK => ?_); go_simp; refine hKK _ ?_; clear hKK KK) | ((refine vdrawL 16 16 [] rfl (by kernel_rfl) (by kernel_rfl) ?_); simp only [List.append, List.take, List.drop]) | ((with_reducible refine vcondS ?_ (fun ht => ?_) (fun ht => ?_)); (focus (go_simp; done)); (all_goals (simp [go_sem] at ht; replace ht := ht.out))) | ((apply vrun_consG0 rfl); (focus (go_simp <;> exact rfl)); (focus (go_simp; done)); (focus (intro hb0; replace hb0 := hb0.out; go_simp <;> (first | exact rfl))); intro KK hKK; go_simp; refine hKK _ ?_; clear hKK KK) | ((apply vhrun_consG0 rfl); (focus (go_simp <;> exact rfl)); (focus (intro hb0; replace hb0 := hb0.out; go_simp <;> (first | exact rfl))); intro KK hKK; go_simp; refine hKK _ ?_; clear hKK KK))
        go_simp
end Go.Proofs.Ythbgghmjbaldlaa

/-! QMo2: Walks on plain values: what can be reached from a claim by handing over. -/
namespace Go.Proofs.Ythbgghmjbaldlaa
open Go.RowKit
set_option maxRecDepth 100000
set_option maxHeartbeats 1000000
/-- Claims and items that are reached. -/
structure Rc where
  cl : List Bool
  it : List Bool
def goL (items : List Int) (g : Nat → Rc → Rc) : List Nat → Rc → Rc
  | [], s => s
  | i :: r, s =>
    if s.it.getD i false = true then goL items g r s
    else if 0 ≤ items.getD i 0 ∧ s.cl.getD (items.getD i 0).toNat false = false then goL items g r (g (items.getD i 0).toNat ⟨s.cl, s.it.set i true⟩)
    else goL items g r ⟨s.cl, s.it.set i true⟩
def reachF (pos : List (List Nat)) (items : List Int) : Nat → Nat → Rc → Rc
  | 0, _, s => s
  | n + 1, k, s => goL items (reachF pos items n) (pos.getD k []) ⟨s.cl.set k true, s.it⟩
def nof : List Bool → Nat
  | [] => 0
  | b :: r => (if b then 0 else 1) + nof r
theorem nof_set : ∀ {l : List Bool} {i : Nat}, l[i]? = some false → nof (l.set i true) + 1 = nof l
  | [], i, h => by simp at h
  | b :: r, 0, h => by
    simp at h
    subst h
    simp [nof]
    omega
  | b :: r, i + 1, h => by
    have := nof_set (l := r) (i := i) (by simpa using h)
    simp only [List.set_cons_succ, nof]
    omega
structure Rc.OK (n m : Nat) (s : Rc) : Prop where
  cl : s.cl.length = m
  it : s.it.length = n
def boolA (b : Bool) : List AV := [B b]
def rcH (pos : List (List Nat)) (items : List Int) (C : AV) (s : Rc) : Hp := [some (.box [posA pos, .sl 1 (items.map intA), C]), some (.arr 4 1 false (s.cl.map boolA)), some (.arr 4 1 false (s.it.map boolA))]
attribute [go_sem] rcH boolA
section
variable {n m : Nat} {items : List Int}
theorem goL_ok {g : Nat → Rc → Rc} (hi : items.length = n) (hv : ∀ v ∈ items, v < (m : Int)) (hg : ∀ k s, k < m → s.OK n m → (g k s).OK n m ∧ nof (g k s).it ≤ nof s.it) :
    ∀ (r : List Nat) (s : Rc), (∀ i ∈ r, i < n) → s.OK n m → (goL items g r s).OK n m ∧ nof (goL items g r s).it ≤ nof s.it
  | [], s, _, hs => ⟨hs, Nat.le_refl _⟩
  | i :: r, s, hr, hs => by
    have ih := fun s => goL_ok hi hv hg r s fun j hj => hr j (List.mem_cons_of_mem _ hj)
    have hin := hr i (by simp)
    unfold goL
    split
    · exact ih s hs
    · rename_i hni
      have hil : i < s.it.length := by rw [hs.it]; exact hin
      have hf : s.it[i]? = some false := by
        rw [List.getElem?_eq_getElem hil]
        have : s.it.getD i false = s.it[i] := by simp [List.getD, hil]
        rw [this] at hni
        simpa using hni
      have hn := nof_set hf
      have h1 : Rc.OK n m ⟨s.cl, s.it.set i true⟩ := ⟨hs.cl, by simpa using hs.it⟩
      split
      · rename_i hc
        have hl : i < items.length := by rw [hi]; exact hin
        have hgd : items.getD i 0 = items[i] := by simp [List.getD, hl]
        have := hv _ (List.getElem_mem hl)
        obtain ⟨h2, h3⟩ := hg (items.getD i 0).toNat ⟨s.cl, s.it.set i true⟩ (by omega) h1
        obtain ⟨h4, h5⟩ := ih _ h2
        refine ⟨h4, ?_⟩
        simp only at h3
        omega
      · obtain ⟨h4, h5⟩ := ih _ h1
        refine ⟨h4, ?_⟩
        simp only at h5
        omega
theorem reachF_ok {pos : List (List Nat)} (hp : ∀ r ∈ pos, ∀ i ∈ r, i < n) (hi : items.length = n) (hv : ∀ v ∈ items, v < (m : Int)) : ∀ (f k : Nat) (s : Rc), k < m → s.OK n m → (reachF pos items f k s).OK n m ∧ nof (reachF pos items f k s).it ≤ nof s.it
  | 0, k, s, _, hs => ⟨hs, Nat.le_refl _⟩
  | f + 1, k, s, hk, hs => by
    refine goL_ok hi hv (fun k s => reachF_ok hp hi hv f k s) _ _ (fun i hi => ?_) ⟨by simpa using hs.cl, hs.it⟩
    by_cases hl : k < pos.length
    · have : pos.getD k [] = pos[k] := by simp [List.getD, hl]
      rw [this] at hi
      exact hp _ (List.getElem_mem hl) i hi
    · have : pos.getD k [] = [] := by simp [List.getD, hl]
      rw [this] at hi
      cases hi
end
theorem w_reach (pos : List (List Nat)) (items : List Int) (C : AV) (hC : idsB 3 5 C = true ∧ oneAV C = true ∧ renA (tau [0, 1, 2] 3) 5 C = C) (n m fuel : Nat) (hp : ∀ r ∈ pos, ∀ i ∈ r, i < n) (_hn : n ≤ 1000) (_hm : m ≤ 1000) (hl : pos.length = m) (hlr : ∀ r ∈ pos, r.length ≤ 1000) (hi : items.length = n) (hv : ∀ v ∈ items, v < (m : Int)) :
    ∀ (k : Nat) (s : Rc), k < m → s.OK n m → nof s.it < fuel → VH Try.prog 30 (rcH pos items C s) [.ref 0 0, I (k : Int), .osl 1, .osl 2] [0, 2, 3] (rcH pos items C (reachF pos items fuel k s)) (.tup []) := by
  induction fuel with
  | zero => intro k s hk hs hf; omega
  | succ fuel ih =>
    intro k s0 hk hs0 hf
    have hkl : k < pos.length := by omega
    obtain ⟨row, hrow⟩ : ∃ row, pos[k] = row := ⟨_, rfl⟩
    obtain ⟨T, hT⟩ : ∃ T, reachF pos items (fuel + 1) k s0 = T := ⟨_, rfl⟩
    rw [hT]
    have HT : Hid (goL items (reachF pos items fuel) row ⟨s0.cl.set k true, s0.it⟩ = T) := Lib.hid (by rw [← hT]; simp [reachF, List.getD, hkl, hrow])
    clear hT
    have hri : ∀ i ∈ row, i < n := hrow ▸ hp _ (List.getElem_mem hkl)
    have hrl : row.length ≤ 1000 := hrow ▸ hlr _ (List.getElem_mem hkl)
    have hkc : k < s0.cl.length := by rw [hs0.cl]; exact hk
    obtain ⟨hC1, hC2, hC3⟩ := hC
    refine VH_of Try.func30 rfl (by kernel_rfl) rfl (fun _ => by kernel_rfl) fun M0 w0 vs => ?_
    simp only [Try.ntmps30, Try.results30, enumA]
    unfold rcH posA
    repeat' (first | (with_reducible first | refine vseq ?_ | refine vthenN ?_ | refine vthenE ?_ | refine vthenR ?_ | refine vret ?_ | refine vskip ?_ | refine vexit ?_ | refine vblock ?_ | refine vblockN ?_ | refine vblockR ?_ | refine vblockH ?_ | refine vrun_nil ?_ | refine vblockE rfl ?_ | refine vregion [] ?_ | refine vhrun_nil ?_) | ((with_reducible refine vcondT ?_ ?_); (focus (go_simp; done))) | ((with_reducible refine vcondF ?_ ?_); (focus (go_simp; done))) | ((with_reducible first | refine vrun_cons fun KK hKK => ?_ | refine vhrun_cons fun KK hKK => ?_); go_simp; refine hKK _ ?_; clear hKK KK) | ((with_reducible refine vcondS ?_ (fun ht => ?_) (fun ht => ?_)); (focus (go_simp; done)); (all_goals (simp [go_sem] at ht; replace ht := ht.out))) | ((apply vrun_consG0 rfl); (focus (go_simp <;> exact rfl)); (focus (go_simp; done)); (focus (intro hb0; replace hb0 := hb0.out; go_simp <;> (first | exact rfl))); intro KK hKK; go_simp; refine hKK _ ?_; clear hKK KK))
    try rw [hrow]
    clear hrow
    apply vloopK (α := Nat × Rc) [0, 2, 3, 20, 21] (fun (x : Nat × Rc) => [(22, I x.1)]) (fun (x : Nat × Rc) => (rcH pos items C x.2 : Hp)) (fun (x : Nat × Rc) => Hid (goL items (reachF pos items fuel) (row.drop x.1) x.2 = T) ∧ x.2.OK n m ∧ nof x.2.it ≤ nof s0.it ∧ x.1 ≤ row.length) (fun (x : Nat × Rc) => row.length - x.1) ((0, ⟨s0.cl.set k true, s0.it⟩)) ⟨by simpa using HT, ⟨by simpa using hs0.cl, hs0.it⟩, Nat.le_refl _, Nat.zero_le _⟩
    · (go_simp <;> exact rfl)
    · go_simp
    · rintro ⟨j, s⟩ ⟨HI, hs, hle, hj⟩ K hK
      simp only at HI hs hle hj
      unfold rcH posA
      have wj := wrap_eq (x := (j : Int) + 1) (by omega) (by omega)
      by_cases hlt : j < row.length
      · have hin : row[j] < n := hri _ (List.getElem_mem hlt)
        have hdr : row.drop j = row[j] :: row.drop (j + 1) := List.drop_eq_getElem_cons hlt
        obtain ⟨i, hi0⟩ : ∃ i, row[j] = i := ⟨_, rfl⟩
        rw [hi0] at hin hdr
        have HJ : Hid (goL items (reachF pos items fuel) (i :: row.drop (j + 1)) s = T) := Lib.hid (by rw [← hdr]; exact HI.out)
        clear HI hdr
        have hil : i < s.it.length := by rw [hs.it]; exact hin
        have hgi : s.it.getD i false = s.it[i] := by simp [List.getD, hil]
        cases hb : s.it[i]
        · have hf0 : s.it[i]? = some false := by rw [List.getElem?_eq_getElem hil, hb]
          have hnf := nof_set hf0
          have hs1 : Rc.OK n m ⟨s.cl, s.it.set i true⟩ := ⟨hs.cl, by simpa using hs.it⟩
          have hii : i < items.length := by rw [hi]; exact hin
          obtain ⟨v, hvi⟩ : ∃ v, items[i] = v := ⟨_, rfl⟩
          have hgv : items.getD i 0 = v := by simp [List.getD, hii, hvi]
          have hvm : v < (m : Int) := hvi ▸ hv _ (List.getElem_mem hii)
          have HT2 := HJ.out
          rw [goL, if_neg (by rw [hgi, hb]; simp), hgv] at HT2
          clear HJ
          by_cases hv0 : 0 ≤ v
          · obtain ⟨u, hu⟩ : ∃ u : Nat, v = (u : Int) := ⟨v.toNat, by omega⟩
            subst hu
            rw [Int.toNat_natCast] at HT2
            have huc : u < s.cl.length := by rw [hs.cl]; omega
            have hgu : s.cl.getD u false = s.cl[u] := by simp [List.getD, huc]
            cases hbu : s.cl[u]
            · rw [if_pos ⟨hv0, by rw [hgu, hbu]⟩] at HT2
              have hcall := ih u ⟨s.cl, s.it.set i true⟩ (by omega) hs1 (by simp only; omega)
              obtain ⟨hgo, hgl⟩ := reachF_ok hp hi hv fuel u ⟨s.cl, s.it.set i true⟩ (by omega) hs1
              obtain ⟨g, hg⟩ : ∃ g, reachF pos items fuel u ⟨s.cl, s.it.set i true⟩ = g := ⟨_, rfl⟩
              rw [hg] at hcall hgo hgl HT2
              have HT3 := Lib.hid HT2
              clear HT2 hg
              have hgl' : nof g.it ≤ nof s0.it := by simp only at hgl; omega
              clear hgl hnf hle
              repeat' (first | (with_reducible first | refine vseq ?_ | refine vthenN ?_ | refine vthenE ?_ | refine vthenR ?_ | refine vret ?_ | refine vskip ?_ | refine vexit ?_ | refine vblock ?_ | refine vblockN ?_ | refine vblockR ?_ | refine vblockH ?_ | refine vrun_nil ?_ | refine vblockE rfl ?_ | refine vhrun_nil ?_) | ((with_reducible refine vcondT ?_ ?_); (focus (go_simp; done))) | ((with_reducible refine vcondF ?_ ?_); (focus (go_simp; done))) | ((with_reducible first | refine vrun_cons fun KK hKK => ?_ | refine vhrun_cons fun KK hKK => ?_); go_simp; refine hKK _ ?_; clear hKK KK) | ((with_reducible refine vcondS ?_ (fun ht => ?_) (fun ht => ?_)); (focus (go_simp; done)); (all_goals (simp [go_sem] at ht; replace ht := ht.out))) | ((apply vrun_consG0 rfl); (focus (go_simp <;> exact rfl)); (focus (go_simp; done)); (focus (intro hb0; replace hb0 := hb0.out; go_simp <;> (first | exact rfl))); intro KK hKK; go_simp; refine hKK _ ?_; clear hKK KK))
              refine vregion [] ?_
              repeat' (first | (with_reducible first | refine vseq ?_ | refine vthenN ?_ | refine vthenE ?_ | refine vthenR ?_ | refine vret ?_ | refine vskip ?_ | refine vexit ?_ | refine vblock ?_ | refine vblockN ?_ | refine vblockR ?_ | refine vblockH ?_ | refine vrun_nil ?_ | refine vblockE rfl ?_ | refine vhrun_nil ?_) | ((with_reducible refine vcondT ?_ ?_); (focus (go_simp; done))) | ((with_reducible refine vcondF ?_ ?_); (focus (go_simp; done))) | ((with_reducible first | refine vrun_cons fun KK hKK => ?_ | refine vhrun_cons fun KK hKK => ?_); go_simp; refine hKK _ ?_; clear hKK KK) | ((with_reducible refine vcondS ?_ (fun ht => ?_) (fun ht => ?_)); (focus (go_simp; done)); (all_goals (simp [go_sem] at ht; replace ht := ht.out))) | ((apply vrun_consG0 rfl); (focus (go_simp <;> exact rfl)); (focus (go_simp; done)); (focus (intro hb0; replace hb0 := hb0.out; go_simp <;> (first | exact rfl))); intro KK hKK; go_simp; refine hKK _ ?_; clear hKK KK))
              refine vregion [] ?_
              repeat' (first | (with_reducible first | refine vseq ?_ | refine vthenN ?_ | refine vthenE ?_ | refine vthenR ?_ | refine vret ?_ | refine vskip ?_ | refine vexit ?_ | refine vblock ?_ | refine vblockN ?_ | refine vblockR ?_ | refine vblockH ?_ | refine vrun_nil ?_ | refine vblockE rfl ?_ | refine vhrun_nil ?_) | ((with_reducible refine vcondT ?_ ?_); (focus (go_simp; done))) | ((with_reducible refine vcondF ?_ ?_); (focus (go_simp; done))) | ((with_reducible first | refine vrun_cons fun KK hKK => ?_ | refine vhrun_cons fun KK hKK => ?_); go_simp; refine hKK _ ?_; clear hKK KK) | ((with_reducible refine vcondS ?_ (fun ht => ?_) (fun ht => ?_)); (focus (go_simp; done)); (all_goals (simp [go_sem] at ht; replace ht := ht.out))) | ((apply vrun_consG0 rfl); (focus (go_simp <;> exact rfl)); (focus (go_simp; done)); (focus (intro hb0; replace hb0 := hb0.out; go_simp <;> (first | exact rfl))); intro KK hKK; go_simp; refine hKK _ ?_; clear hKK KK))
              refine vregion [] ?_
              repeat' (first | (with_reducible first | refine vseq ?_ | refine vthenN ?_ | refine vthenE ?_ | refine vthenR ?_ | refine vret ?_ | refine vskip ?_ | refine vexit ?_ | refine vblock ?_ | refine vblockN ?_ | refine vblockR ?_ | refine vblockH ?_ | refine vrun_nil ?_ | refine vblockE rfl ?_ | refine vhrun_nil ?_) | ((with_reducible refine vcondT ?_ ?_); (focus (go_simp; done))) | ((with_reducible refine vcondF ?_ ?_); (focus (go_simp; done))) | ((with_reducible first | refine vrun_cons fun KK hKK => ?_ | refine vhrun_cons fun KK hKK => ?_); go_simp; refine hKK _ ?_; clear hKK KK) | ((with_reducible refine vcondS ?_ (fun ht => ?_) (fun ht => ?_)); (focus (go_simp; done)); (all_goals (simp [go_sem] at ht; replace ht := ht.out))) | ((apply vrun_consG0 rfl); (focus (go_simp <;> exact rfl)); (focus (go_simp; done)); (focus (intro hb0; replace hb0 := hb0.out; go_simp <;> (first | exact rfl))); intro KK hKK; go_simp; refine hKK _ ?_; clear hKK KK))
              refine vregion [] ?_
              repeat' (first | (with_reducible first | refine vseq ?_ | refine vthenN ?_ | refine vthenE ?_ | refine vthenR ?_ | refine vret ?_ | refine vskip ?_ | refine vexit ?_ | refine vblock ?_ | refine vblockN ?_ | refine vblockR ?_ | refine vblockH ?_ | refine vrun_nil ?_ | refine vblockE rfl ?_ | refine vhrun_nil ?_) | ((with_reducible refine vcondT ?_ ?_); (focus (go_simp; done))) | ((with_reducible refine vcondF ?_ ?_); (focus (go_simp; done))) | ((with_reducible first | refine vrun_cons fun KK hKK => ?_ | refine vhrun_cons fun KK hKK => ?_); go_simp; refine hKK _ ?_; clear hKK KK) | ((with_reducible refine vcondS ?_ (fun ht => ?_) (fun ht => ?_)); (focus (go_simp; done)); (all_goals (simp [go_sem] at ht; replace ht := ht.out))) | ((apply vrun_consG0 rfl); (focus (go_simp <;> exact rfl)); (focus (go_simp; done)); (focus (intro hb0; replace hb0 := hb0.out; go_simp <;> (first | exact rfl))); intro KK hKK; go_simp; refine hKK _ ?_; clear hKK KK))
              refine vregion [] ?_
              repeat' (first | (with_reducible first | refine vseq ?_ | refine vthenN ?_ | refine vthenE ?_ | refine vthenR ?_ | refine vret ?_ | refine vskip ?_ | refine vexit ?_ | refine vblock ?_ | refine vblockN ?_ | refine vblockR ?_ | refine vblockH ?_ | refine vrun_nil ?_ | refine vblockE rfl ?_ | refine vhrun_nil ?_) | ((with_reducible refine vcondT ?_ ?_); (focus (go_simp; done))) | ((with_reducible refine vcondF ?_ ?_); (focus (go_simp; done))) | ((with_reducible first | refine vrun_cons fun KK hKK => ?_ | refine vhrun_cons fun KK hKK => ?_); go_simp; refine hKK _ ?_; clear hKK KK) | ((with_reducible refine vcondS ?_ (fun ht => ?_) (fun ht => ?_)); (focus (go_simp; done)); (all_goals (simp [go_sem] at ht; replace ht := ht.out))) | ((apply vrun_consG0 rfl); (focus (go_simp <;> exact rfl)); (focus (go_simp; done)); (focus (intro hb0; replace hb0 := hb0.out; go_simp <;> (first | exact rfl))); intro KK hKK; go_simp; refine hKK _ ?_; clear hKK KK))
              refine vregion [] ?_
              repeat' (first | (with_reducible first | refine vseq ?_ | refine vthenN ?_ | refine vthenE ?_ | refine vthenR ?_ | refine vret ?_ | refine vskip ?_ | refine vexit ?_ | refine vblock ?_ | refine vblockN ?_ | refine vblockR ?_ | refine vblockH ?_ | refine vrun_nil ?_ | refine vblockE rfl ?_ | refine vhrun_nil ?_) | ((with_reducible refine vcondT ?_ ?_); (focus (go_simp; done))) | ((with_reducible refine vcondF ?_ ?_); (focus (go_simp; done))) | ((with_reducible first | refine vrun_cons fun KK hKK => ?_ | refine vhrun_cons fun KK hKK => ?_); go_simp; refine hKK _ ?_; clear hKK KK) | ((with_reducible refine vcondS ?_ (fun ht => ?_) (fun ht => ?_)); (focus (go_simp; done)); (all_goals (simp [go_sem] at ht; replace ht := ht.out))) | ((apply vrun_consG0 rfl); (focus (go_simp <;> exact rfl)); (focus (go_simp; done)); (focus (intro hb0; replace hb0 := hb0.out; go_simp <;> (first | exact rfl))); intro KK hKK; go_simp; refine hKK _ ?_; clear hKK KK))
              refine vregionL (vl_run [] 4 ⟨rfl, rfl⟩ ?_)
              simp only [List.take, List.drop]
              repeat' (first | (with_reducible first | refine vseq ?_ | refine vthenN ?_ | refine vthenE ?_ | refine vthenR ?_ | refine vret ?_ | refine vskip ?_ | refine vexit ?_ | refine vblock ?_ | refine vblockN ?_ | refine vblockR ?_ | refine vblockH ?_ | refine vrun_nil ?_ | refine vblockE rfl ?_ | refine vhrun_nil ?_) | ((with_reducible refine vcondT ?_ ?_); (focus (go_simp; done))) | ((with_reducible refine vcondF ?_ ?_); (focus (go_simp; done))) | ((with_reducible first | refine vrun_cons fun KK hKK => ?_ | refine vhrun_cons fun KK hKK => ?_); go_simp; refine hKK _ ?_; clear hKK KK) | ((with_reducible refine vcondS ?_ (fun ht => ?_) (fun ht => ?_)); (focus (go_simp; done)); (all_goals (simp [go_sem] at ht; replace ht := ht.out))) | ((apply vrun_consG0 rfl); (focus (go_simp <;> exact rfl)); (focus (go_simp; done)); (focus (intro hb0; replace hb0 := hb0.out; go_simp <;> (first | exact rfl))); intro KK hKK; go_simp; refine hKK _ ?_; clear hKK KK))
              refine vl_call [0, 1, 2] [0] [1, 2] (rcH pos items C g) (.tup []) rfl (by go_simp) ?_ ?_
              · unfold HCall
                go_simp
                refine ⟨_, _, _, hcall, ?_⟩
                go_simp
                kernel_rfl
              · go_simp
                refine vl_nil ?_
                repeat' (first | (with_reducible first | refine vseq ?_ | refine vthenN ?_ | refine vthenE ?_ | refine vthenR ?_ | refine vret ?_ | refine vskip ?_ | refine vexit ?_ | refine vblock ?_ | refine vblockN ?_ | refine vblockR ?_ | refine vblockH ?_ | refine vrun_nil ?_ | refine vblockE rfl ?_ | refine vregion [] ?_ | refine vhrun_nil ?_) | ((with_reducible refine vcondT ?_ ?_); (focus (go_simp; done))) | ((with_reducible refine vcondF ?_ ?_); (focus (go_simp; done))) | ((with_reducible first | refine vrun_cons fun KK hKK => ?_ | refine vhrun_cons fun KK hKK => ?_); go_simp; refine hKK _ ?_; clear hKK KK) | ((with_reducible refine vcondS ?_ (fun ht => ?_) (fun ht => ?_)); (focus (go_simp; done)); (all_goals (simp [go_sem] at ht; replace ht := ht.out))) | ((apply vrun_consG0 rfl); (focus (go_simp <;> exact rfl)); (focus (go_simp; done)); (focus (intro hb0; replace hb0 := hb0.out; go_simp <;> (first | exact rfl))); intro KK hKK; go_simp; refine hKK _ ?_; clear hKK KK))
                refine hK _ (j + 1, g) ⟨HT3, hgo, hgl', hlt⟩ (by simp only; omega) ?_
                go_simp
            · have HK := Lib.hid (show goL items (reachF pos items fuel) (row.drop (j + 1)) ⟨s.cl, s.it.set i true⟩ = T by rwa [if_neg (fun h => by rw [hgu, hbu] at h; simp at h)] at HT2)
              clear HT2
              repeat' (first | (with_reducible first | refine vseq ?_ | refine vthenN ?_ | refine vthenE ?_ | refine vthenR ?_ | refine vret ?_ | refine vskip ?_ | refine vexit ?_ | refine vblock ?_ | refine vblockN ?_ | refine vblockR ?_ | refine vblockH ?_ | refine vrun_nil ?_ | refine vblockE rfl ?_ | refine vregion [] ?_ | refine vhrun_nil ?_) | ((with_reducible refine vcondT ?_ ?_); (focus (go_simp; done))) | ((with_reducible refine vcondF ?_ ?_); (focus (go_simp; done))) | ((with_reducible first | refine vrun_cons fun KK hKK => ?_ | refine vhrun_cons fun KK hKK => ?_); go_simp; refine hKK _ ?_; clear hKK KK) | ((with_reducible refine vcondS ?_ (fun ht => ?_) (fun ht => ?_)); (focus (go_simp; done)); (all_goals (simp [go_sem] at ht; replace ht := ht.out))) | ((apply vrun_consG0 rfl); (focus (go_simp <;> exact rfl)); (focus (go_simp; done)); (focus (intro hb0; replace hb0 := hb0.out; go_simp <;> (first | exact rfl))); intro KK hKK; go_simp; refine hKK _ ?_; clear hKK KK))
              refine hK _ (j + 1, ⟨s.cl, s.it.set i true⟩) ⟨HK, hs1, by simp only; omega, hlt⟩ (by simp only; omega) ?_
              go_simp
          · have HK := Lib.hid (show goL items (reachF pos items fuel) (row.drop (j + 1)) ⟨s.cl, s.it.set i true⟩ = T by rwa [if_neg (fun h => hv0 h.1)] at HT2)
            clear HT2
            repeat' (first | (with_reducible first | refine vseq ?_ | refine vthenN ?_ | refine vthenE ?_ | refine vthenR ?_ | refine vret ?_ | refine vskip ?_ | refine vexit ?_ | refine vblock ?_ | refine vblockN ?_ | refine vblockR ?_ | refine vblockH ?_ | refine vrun_nil ?_ | refine vblockE rfl ?_ | refine vregion [] ?_ | refine vhrun_nil ?_) | ((with_reducible refine vcondT ?_ ?_); (focus (go_simp; done))) | ((with_reducible refine vcondF ?_ ?_); (focus (go_simp; done))) | ((with_reducible first | refine vrun_cons fun KK hKK => ?_ | refine vhrun_cons fun KK hKK => ?_); go_simp; refine hKK _ ?_; clear hKK KK) | ((with_reducible refine vcondS ?_ (fun ht => ?_) (fun ht => ?_)); (focus (go_simp; done)); (all_goals (simp [go_sem] at ht; replace ht := ht.out))) | ((apply vrun_consG0 rfl); (focus (go_simp <;> exact rfl)); (focus (go_simp; done)); (focus (intro hb0; replace hb0 := hb0.out; go_simp <;> (first | exact rfl))); intro KK hKK; go_simp; refine hKK _ ?_; clear hKK KK))
            refine hK _ (j + 1, ⟨s.cl, s.it.set i true⟩) ⟨HK, hs1, by simp only; omega, hlt⟩ (by simp only; omega) ?_
            go_simp
        · have HK : Hid (goL items (reachF pos items fuel) (row.drop (j + 1)) s = T) := Lib.hid (by have := HJ.out; rwa [goL, if_pos (hgi.trans hb)] at this)
          clear HJ
          repeat' (first | (with_reducible first | refine vseq ?_ | refine vthenN ?_ | refine vthenE ?_ | refine vthenR ?_ | refine vret ?_ | refine vskip ?_ | refine vexit ?_ | refine vblock ?_ | refine vblockN ?_ | refine vblockR ?_ | refine vblockH ?_ | refine vrun_nil ?_ | refine vblockE rfl ?_ | refine vregion [] ?_ | refine vhrun_nil ?_) | ((with_reducible refine vcondT ?_ ?_); (focus (go_simp; done))) | ((with_reducible refine vcondF ?_ ?_); (focus (go_simp; done))) | ((with_reducible first | refine vrun_cons fun KK hKK => ?_ | refine vhrun_cons fun KK hKK => ?_); go_simp; refine hKK _ ?_; clear hKK KK) | ((with_reducible refine vcondS ?_ (fun ht => ?_) (fun ht => ?_)); (focus (go_simp; done)); (all_goals (simp [go_sem] at ht; replace ht := ht.out))) | ((apply vrun_consG0 rfl); (focus (go_simp <;> exact rfl)); (focus (go_simp; done)); (focus (intro hb0; replace hb0 := hb0.out; go_simp <;> (first | exact rfl))); intro KK hKK; go_simp; refine hKK _ ?_; clear hKK KK))
          refine hK _ (j + 1, s) ⟨HK, hs, hle, hlt⟩ (by simp only; omega) ?_
          go_simp
      · have hdr : row.drop j = [] := List.drop_eq_nil_of_le (by omega)
        have HK := HI.out
        rw [hdr, goL] at HK
        subst HK
        clear HI hdr
        repeat' (first | (with_reducible first | refine vseq ?_ | refine vthenN ?_ | refine vthenE ?_ | refine vthenR ?_ | refine vret ?_ | refine vskip ?_ | refine vexit ?_ | refine vblock ?_ | refine vblockN ?_ | refine vblockR ?_ | refine vblockH ?_ | refine vrun_nil ?_ | refine vblockE rfl ?_ | refine vregion [] ?_ | refine vhrun_nil ?_) | ((with_reducible refine vcondT ?_ ?_); (focus (go_simp; done))) | ((with_reducible refine vcondF ?_ ?_); (focus (go_simp; done))) | ((with_reducible first | refine vrun_cons fun KK hKK => ?_ | refine vhrun_cons fun KK hKK => ?_); go_simp; refine hKK _ ?_; clear hKK KK) | ((with_reducible refine vcondS ?_ (fun ht => ?_) (fun ht => ?_)); (focus (go_simp; done)); (all_goals (simp [go_sem] at ht; replace ht := ht.out))) | ((apply vrun_consG0 rfl); (focus (go_simp <;> exact rfl)); (focus (go_simp; done)); (focus (intro hb0; replace hb0 := hb0.out; go_simp <;> (first | exact rfl))); intro KK hKK; go_simp; refine hKK _ ?_; clear hKK KK))
        go_simp
end Go.Proofs.Ythbgghmjbaldlaa

/-! QMoP: The plain law of pairs as many as can be: a claim that finds no item leaves a closed set; no condition. -/
namespace Go.Proofs.Ythbgghmjbaldlaa
open Go.RowKit
theorem tryL_no {g : Nat → Mt → Bool × Mt} {k : Nat} (hg : ∀ k s, (g k s).1 = false → (g k s).2.items = s.items ∧ (g k s).2.claims = s.claims) :
    ∀ (r : List Nat) (s : Mt), (tryL g k r s).1 = false → (tryL g k r s).2.items = s.items ∧ (tryL g k r s).2.claims = s.claims
  | [], s, _ => ⟨rfl, rfl⟩
  | i :: r, s, h => by
    have ih := fun s => tryL_no hg r s (k := k)
    unfold tryL at h ⊢
    split
    · rename_i hi
      rw [if_pos hi] at h
      exact ih s h
    · rename_i hi
      rw [if_neg hi] at h
      split
      · rename_i h0
        rw [if_pos h0] at h
        cases h
      · rename_i h0
        rw [if_neg h0] at h
        split
        · rename_i h1
          rw [if_pos h1] at h
          cases h
        · rename_i h1
          rw [if_neg h1] at h
          obtain ⟨a1, a2⟩ := ih _ h
          obtain ⟨b1, b2⟩ := hg _ _ (by simpa using h1)
          exact ⟨a1.trans b1, a2.trans b2⟩
theorem giveF_no {pos : List (List Nat)} : ∀ (f k : Nat) (s : Mt), (giveF pos f k s).1 = false → (giveF pos f k s).2.items = s.items ∧ (giveF pos f k s).2.claims = s.claims
  | 0, _, _, _ => ⟨rfl, rfl⟩
  | f + 1, _k, s, h => tryL_no (fun k s => giveF_no f k s) _ s h
/-- What was asked between s and s' is dealt with. -/
def Dn (pos : List (List Nat)) (s s' : Mt) : Prop := ∀ i, i ∈ s'.seen → i ∉ s.seen → 0 ≤ s.items.getD i 0 ∧ ∀ j ∈ pos.getD (s.items.getD i 0).toNat [], j ∈ s'.seen
theorem tryL_dn {pos : List (List Nat)} {n m f k : Nat} {g : Nat → Mt → Bool × Mt} (hno : ∀ k s, (g k s).1 = false → (g k s).2.items = s.items ∧ (g k s).2.claims = s.claims)
    (hok : ∀ k s, k < m → s.OK n m → (g k s).2.OK n m ∧ s.seen.length ≤ (g k s).2.seen.length)
    (hg : ∀ k s, k < m → s.OK n m → n - s.seen.length < f → (g k s).1 = false → Dn pos s (g k s).2 ∧ (∀ j ∈ pos.getD k [], j ∈ (g k s).2.seen) ∧ ∀ j ∈ s.seen, j ∈ (g k s).2.seen) :
    ∀ (r : List Nat) (s : Mt), (∀ i ∈ r, i < n) → s.OK n m → n - s.seen.length < f + 1 → (tryL g k r s).1 = false → Dn pos s (tryL g k r s).2 ∧ (∀ j ∈ r, j ∈ (tryL g k r s).2.seen) ∧ ∀ j ∈ s.seen, j ∈ (tryL g k r s).2.seen
  | [], s, _, _, _, _ => ⟨fun i h1 h2 => absurd h1 h2, by simp, fun j hj => hj⟩
  | i :: r, s, hr, hs, hf, h => by
    have ih := fun s => tryL_dn hno hok hg (k := k) r s fun j hj => hr j (List.mem_cons_of_mem _ hj)
    have hi := hr i (by simp)
    unfold tryL at h ⊢
    split
    · rename_i hse
      rw [if_pos hse] at h
      obtain ⟨a1, a2, a3⟩ := ih s hs hf h
      refine ⟨a1, fun j hj => ?_, a3⟩
      rcases List.mem_cons.1 hj with rfl | hj
      · exact a3 _ hse
      · exact a2 j hj
    · rename_i hse
      rw [if_neg hse] at h
      obtain ⟨hs1, hl1⟩ := hs.see_ok hi hse
      have hpig := pig n _ hs1.nodup hs1.seen
      split
      · rename_i h0
        rw [if_pos h0] at h
        cases h
      · rename_i h0
        rw [if_neg h0] at h
        have hvm := hs.val hi (by omega)
        split
        · rename_i h1
          rw [if_pos h1] at h
          cases h
        · rename_i h1
          rw [if_neg h1] at h
          have hf1 : (g (s.items.getD i 0).toNat (s.see i)).1 = false := by simpa using h1
          obtain ⟨ho, hol⟩ := hok _ _ hvm hs1
          obtain ⟨b1, b2, b3⟩ := hg _ _ hvm hs1 (by omega) hf1
          obtain ⟨e1, _⟩ := hno _ _ hf1
          obtain ⟨a1, a2, a3⟩ := ih _ ho (by omega) h
          have hsee : ∀ j, j ∈ s.seen → j ∈ (s.see i).seen := fun j hj => by simp [Mt.see, hj]
          have hii : i ∈ (g (s.items.getD i 0).toNat (s.see i)).2.seen := b3 i (by simp [Mt.see])
          refine ⟨fun x hx hnx => ?_, fun j hj => ?_, fun j hj => a3 j (b3 j (hsee j hj))⟩
          · by_cases hq : x ∈ (g (s.items.getD i 0).toNat (s.see i)).2.seen
            · by_cases hxi : x = i
              · subst hxi
                exact ⟨by omega, fun j hj => a3 j (b2 j hj)⟩
              · obtain ⟨c1, c2⟩ := b1 x hq (by simp [Mt.see, hnx, hxi])
                exact ⟨c1, fun j hj => a3 j (c2 j hj)⟩
            · obtain ⟨c1, c2⟩ := a1 x hx hq
              rw [e1] at c1 c2
              exact ⟨c1, c2⟩
          · rcases List.mem_cons.1 hj with rfl | hj
            · exact a3 _ hii
            · exact a2 j hj
theorem giveF_dn {pos : List (List Nat)} {n m : Nat} (hp : ∀ r ∈ pos, ∀ i ∈ r, i < n) : ∀ (f k : Nat) (s : Mt), k < m → s.OK n m → n - s.seen.length < f → (giveF pos f k s).1 = false →
    Dn pos s (giveF pos f k s).2 ∧ (∀ j ∈ pos.getD k [], j ∈ (giveF pos f k s).2.seen) ∧ ∀ j ∈ s.seen, j ∈ (giveF pos f k s).2.seen
  | 0, _, _, _, _, hf, _ => by omega
  | f + 1, k, s, hk, hs, hf, h => by
    refine tryL_dn (fun k s => giveF_no f k s) (fun k s => giveF_ok hp f k s) (fun k s => giveF_dn hp f k s) _ s (fun i hi => ?_) hs hf h
    by_cases hl : k < pos.length
    · have : pos.getD k [] = pos[k] := by simp [List.getD, hl]
      rw [this] at hi
      exact hp _ (List.getElem_mem hl) i hi
    · have : pos.getD k [] = [] := by simp [List.getD, hl]
      rw [this] at hi
      cases hi
/-- All items of the claims C lie in S, and each item of S has a claim of C. -/
def Closed (pos : List (List Nat)) (items : List Int) (S C : Nat → Prop) : Prop := (∀ c, C c → ∀ j ∈ pos.getD c [], S j) ∧ ∀ i, S i → 0 ≤ items.getD i 0 ∧ C (items.getD i 0).toNat
theorem Closed.same {pos : List (List Nat)} {items items' : List Int} {S C : Nat → Prop} (h : Closed pos items S C) (he : ∀ i, S i → items'.getD i 0 = items.getD i 0) : Closed pos items' S C :=
  ⟨h.1, fun i hi => by rw [he i hi]; exact h.2 i hi⟩
theorem tryL_in {pos : List (List Nat)} {S C : Nat → Prop} {g : Nat → Mt → Bool × Mt} {k : Nat} (hno : ∀ k s, (g k s).1 = false → (g k s).2.items = s.items ∧ (g k s).2.claims = s.claims)
    (hg : ∀ k s, C k → Closed pos s.items S C → (g k s).1 = false) : ∀ (r : List Nat) (s : Mt), (∀ i ∈ r, S i) → Closed pos s.items S C → (tryL g k r s).1 = false
  | [], s, _, _ => rfl
  | i :: r, s, hr, hc => by
    have ih := fun s => tryL_in hno hg (k := k) r s fun j hj => hr j (List.mem_cons_of_mem _ hj)
    obtain ⟨h0, h1⟩ := hc.2 i (hr i (by simp))
    unfold tryL
    split
    · exact ih s hc
    · rw [if_neg (by omega)]
      have hf := hg (s.items.getD i 0).toNat (s.see i) h1 hc
      rw [if_neg (by rw [hf]; simp)]
      refine ih _ (hc.same fun j _ => ?_)
      rw [(hno _ _ hf).1]
      rfl
theorem giveF_in {pos : List (List Nat)} {S C : Nat → Prop} : ∀ (f k : Nat) (s : Mt), C k → Closed pos s.items S C → (giveF pos f k s).1 = false
  | 0, _, _, _, _ => rfl
  | f + 1, k, s, hk, hc => tryL_in (fun k s => giveF_no f k s) (fun k s => giveF_in f k s) _ s (hc.1 k hk) hc
theorem tryL_same {pos : List (List Nat)} {S C : Nat → Prop} {g : Nat → Mt → Bool × Mt} {k : Nat} (hin : ∀ k s, C k → Closed pos s.items S C → (g k s).1 = false)
    (hg : ∀ k s, Closed pos s.items S C → ∀ i, S i → (g k s).2.items.getD i 0 = s.items.getD i 0) : ∀ (r : List Nat) (s : Mt), Closed pos s.items S C → ∀ i, S i → (tryL g k r s).2.items.getD i 0 = s.items.getD i 0
  | [], s, _, _, _ => rfl
  | x :: r, s, hc, i, hi => by
    have ih := fun s hc => tryL_same hin hg (k := k) r s hc i hi
    unfold tryL
    split
    · exact ih s hc
    · split
      · rename_i h0
        have hne : x ≠ i := fun e => by
          subst e
          have := (hc.2 x hi).1
          omega
        simp only [Mt.set, Mt.see, List.getD_eq_getElem?_getD, List.getElem?_set_ne hne]
      · have hq := hg (s.items.getD x 0).toNat (s.see x) hc
        split
        · rename_i h1
          have hne : x ≠ i := fun e => by
            subst e
            have := hin _ (s.see x) (hc.2 x hi).2 hc
            rw [this] at h1
            cases h1
          have := hq i hi
          simp only [Mt.set, List.getD_eq_getElem?_getD, List.getElem?_set_ne hne] at this ⊢
          exact this
        · rw [ih _ (hc.same fun j hj => hq j hj)]
          exact hq i hi
theorem giveF_same {pos : List (List Nat)} {S C : Nat → Prop} : ∀ (f k : Nat) (s : Mt), Closed pos s.items S C → ∀ i, S i → (giveF pos f k s).2.items.getD i 0 = s.items.getD i 0
  | 0, _, _, _, _, _ => rfl
  | f + 1, _k, s, hc, i, hi => tryL_same (fun k s => giveF_in f k s) (fun k s => giveF_same f k s) _ s hc i hi
/-- The claim k finds no item: a closed set. -/
theorem giveF_closed {pos : List (List Nat)} {n m : Nat} (hp : ∀ r ∈ pos, ∀ i ∈ r, i < n) {f k : Nat} {s : Mt} (hk : k < m) (hs : s.OK n m) (he : s.seen = []) (hf : n < f) (h : (giveF pos f k s).1 = false) :
    ∃ S C : Nat → Prop, Closed pos (giveF pos f k s).2.items S C ∧ C k := by
  obtain ⟨h1, h2, _⟩ := giveF_dn hp f k s hk hs (by omega) h
  obtain ⟨e1, _⟩ := giveF_no f k s h
  refine ⟨fun i => i ∈ (giveF pos f k s).2.seen, fun c => c = k ∨ ∃ i, i ∈ (giveF pos f k s).2.seen ∧ 0 ≤ s.items.getD i 0 ∧ (s.items.getD i 0).toNat = c, ⟨fun c hc j hj => ?_, fun i hi => ?_⟩, .inl rfl⟩
  · rcases hc with rfl | ⟨i, hi, _, rfl⟩
    · exact h2 j hj
    · exact (h1 i hi (by rw [he]; simp)).2 j hj
  · rw [e1]
    have := (h1 i hi (by rw [he]; simp)).1
    exact ⟨this, .inr ⟨i, hi, this, rfl⟩⟩
end Go.Proofs.Ythbgghmjbaldlaa

/-! QMoQ: The plain law of pairs as many as can be: items and claims are a matching; no condition. -/
namespace Go.Proofs.Ythbgghmjbaldlaa
open Go.RowKit
theorem tryL_mono {g : Nat → Mt → Bool × Mt} {k : Nat} (hg : ∀ k s, ∀ j ∈ s.seen, j ∈ (g k s).2.seen) : ∀ (r : List Nat) (s : Mt), ∀ j ∈ s.seen, j ∈ (tryL g k r s).2.seen
  | [], s, j, hj => hj
  | i :: r, s, j, hj => by
    have ih := fun s => tryL_mono hg (k := k) r s j
    have hs : j ∈ (s.see i).seen := by simp [Mt.see, hj]
    unfold tryL
    split
    · exact ih s hj
    · split
      · exact hs
      · split
        · exact hg _ (s.see i) j hs
        · exact ih _ (hg _ (s.see i) j hs)
theorem giveF_mono {pos : List (List Nat)} : ∀ (f k : Nat) (s : Mt), ∀ j ∈ s.seen, j ∈ (giveF pos f k s).2.seen
  | 0, _, _, _, hj => hj
  | f + 1, _k, s, j, hj => tryL_mono (fun k s => giveF_mono f k s) _ s j hj
/-- A matching, but for the claims X that are on their way. -/
structure MI (pos : List (List Nat)) (X : Nat → Prop) (s : Mt) : Prop where
  a : ∀ i c : Nat, s.items[i]? = some (c : Int) → ¬ X c → s.claims[c]? = some (i : Int)
  b : ∀ c i : Nat, s.claims[c]? = some (i : Int) → ¬ X c → s.items[i]? = some (c : Int)
  c : ∀ i c : Nat, s.items[i]? = some (c : Int) → X c → i ∈ s.seen
  d : ∀ i c : Nat, s.items[i]? = some (c : Int) → i ∈ pos.getD c []
/-- .. and behind a claim that found its item. -/
structure MP (pos : List (List Nat)) (X : Nat → Prop) (k : Nat) (s s' : Mt) : Prop where
  a : ∀ i c : Nat, s'.items[i]? = some (c : Int) → (X c → c = k) → (c = k → i ∉ s.seen) → s'.claims[c]? = some (i : Int)
  b : ∀ c i : Nat, s'.claims[c]? = some (i : Int) → (X c → c = k) → s'.items[i]? = some (c : Int)
  c : ∀ i, i ∈ s.seen → s'.items[i]? = s.items[i]?
  x : ∀ i c : Nat, s'.items[i]? = some (c : Int) → X c → c ≠ k → i ∈ s.seen
  d : ∀ i c : Nat, s'.items[i]? = some (c : Int) → i ∈ pos.getD c []
  e : ∀ i : Nat, s'.claims[k]? = some (i : Int) → i ∉ s.seen
theorem tryL_mp {pos : List (List Nat)} {n m k : Nat} {X : Nat → Prop} {g : Nat → Mt → Bool × Mt} (hk : k < m) (hX : X k) (hno : ∀ k s, (g k s).1 = false → (g k s).2.items = s.items ∧ (g k s).2.claims = s.claims)
    (hmo : ∀ k s, ∀ j ∈ s.seen, j ∈ (g k s).2.seen) (hok : ∀ k s, k < m → s.OK n m → (g k s).2.OK n m)
    (hg : ∀ (X : Nat → Prop) k s, k < m → X k → s.OK n m → MI pos X s → (g k s).1 = true → MP pos X k s (g k s).2) :
    ∀ (r : List Nat) (s : Mt), (∀ i ∈ r, i < n ∧ i ∈ pos.getD k []) → s.OK n m → MI pos X s → (tryL g k r s).1 = true → MP pos X k s (tryL g k r s).2
  | [], s, _, _, _, h => by cases h
  | i :: r, s, hr, hs, hI, h => by
    have ih := fun s => tryL_mp hk hX hno hmo hok hg r s fun j hj => hr j (List.mem_cons_of_mem _ hj)
    obtain ⟨hi, hip⟩ := hr i (by simp)
    unfold tryL at h ⊢
    split
    · rename_i hse
      rw [if_pos hse] at h
      exact ih s hs hI h
    · rename_i hse
      rw [if_neg hse] at h
      obtain ⟨hs1, _⟩ := hs.see_ok hi hse
      have hil : i < s.items.length := by rw [hs.items]; exact hi
      have hkl : k < s.claims.length := by rw [hs.claims]; exact hk
      have hgd : s.items[i]? = some (s.items.getD i 0) := by simp [List.getD, hil]
      split
      · rename_i h0
        refine ⟨fun x c hx hc hcx => ?_, fun c x hx hc => ?_, fun x hx => ?_, fun x c hx hXc hck => ?_, fun x c hx => ?_, fun x hx => ?_⟩ <;> simp only [Mt.set, Mt.see] at hx ⊢
        · by_cases hxi : i = x
          · subst hxi
            rw [List.getElem?_set_self hil] at hx
            have : k = c := by have := Option.some.inj hx; omega
            subst this
            exact List.getElem?_set_self hkl
          · rw [List.getElem?_set_ne hxi] at hx
            by_cases hck : c = k
            · exact absurd (hI.c x c hx (hck ▸ hX)) (hcx hck)
            · rw [List.getElem?_set_ne (Ne.symm hck)]
              exact hI.a x c hx fun h => hck (hc h)
        · by_cases hck : k = c
          · subst hck
            rw [List.getElem?_set_self hkl] at hx
            have : i = x := by have := Option.some.inj hx; omega
            subst this
            exact List.getElem?_set_self hil
          · rw [List.getElem?_set_ne hck] at hx
            have hb := hI.b c x hx fun h => hck (hc h).symm
            have hxi : i ≠ x := fun e => by
              subst e
              rw [hgd] at hb
              have : s.items.getD i 0 = (c : Int) := by simpa using hb
              omega
            rw [List.getElem?_set_ne hxi]
            exact hb
        · rw [List.getElem?_set_ne (show i ≠ x from fun e => hse (by rw [e]; exact hx))]
        · by_cases hxi : i = x
          · subst hxi
            rw [List.getElem?_set_self hil] at hx
            have : k = c := by have := Option.some.inj hx; omega
            exact absurd this.symm hck
          · rw [List.getElem?_set_ne hxi] at hx
            exact hI.c x c hx hXc
        · by_cases hxi : i = x
          · subst hxi
            rw [List.getElem?_set_self hil] at hx
            have : k = c := by have := Option.some.inj hx; omega
            subst this
            exact hip
          · rw [List.getElem?_set_ne hxi] at hx
            exact hI.d x c hx
        · rw [List.getElem?_set_self hkl] at hx
          have : i = x := by have := Option.some.inj hx; omega
          subst this
          exact hse
      · rename_i h0
        rw [if_neg h0] at h
        have hvm := hs.val hi (by omega)
        obtain ⟨v, hv⟩ : ∃ v : Nat, s.items.getD i 0 = (v : Int) := ⟨(s.items.getD i 0).toNat, by omega⟩
        rw [hv, Int.toNat_natCast] at h hvm ⊢
        rw [hv] at hgd
        have hXv : ¬ X v := fun h => hse (hI.c i v hgd h)
        have hcv := hI.a i v hgd hXv
        split
        · rename_i h1
          have hI' : MI pos (fun c => X c ∨ c = v) (s.see i) := ⟨fun x c hx hc => hI.a x c hx fun h => hc (.inl h), fun c x hx hc => hI.b c x hx fun h => hc (.inl h), fun x c hx hc => by
            rcases hc with hc | rfl
            · simp [Mt.see, hI.c x c hx hc]
            · have := hI.a x c hx hXv
              rw [hcv] at this
              have : i = x := by have := Option.some.inj this; omega
              simp [Mt.see, this], hI.d⟩
          have Q := hg _ v (s.see i) hvm (.inr rfl) hs1 hI' h1
          have hqo := hok v (s.see i) hvm hs1
          generalize (g v (s.see i)).2 = q at Q hqo ⊢
          have hqi : i < q.items.length := by rw [hqo.items]; exact hi
          have hqk : k < q.claims.length := by rw [hqo.claims]; exact hk
          have hsee : ∀ x, x ∈ (s.see i).seen → i ≠ x → x ∈ s.seen := fun x hx hne => by
            simp only [Mt.see, List.mem_append, List.mem_singleton] at hx
            exact hx.resolve_right fun e => hne e.symm
          have hkv : k ≠ v := fun e => hXv (e ▸ hX)
          have hqit : q.items[i]? = some (v : Int) := by rw [Q.c i (by simp [Mt.see])]; exact hgd
          refine ⟨fun x c hx hc hcx => ?_, fun c x hx hc => ?_, fun x hx => ?_, fun x c hx hXc hck => ?_, fun x c hx => ?_, fun x hx => ?_⟩ <;> simp only [Mt.set] at hx ⊢
          · by_cases hxi : i = x
            · subst hxi
              rw [List.getElem?_set_self hqi] at hx
              have : k = c := by have := Option.some.inj hx; omega
              subst this
              exact List.getElem?_set_self hqk
            · rw [List.getElem?_set_ne hxi] at hx
              by_cases hck : c = k
              · exact absurd (hsee x (Q.x x c hx (.inl (hck ▸ hX)) fun e => hkv (hck.symm.trans e)) hxi) (hcx hck)
              · rw [List.getElem?_set_ne (Ne.symm hck)]
                refine Q.a x c hx (fun h => h.resolve_left fun h => hck (hc h)) fun hcv' hxs => ?_
                subst hcv'
                have h2 := Q.c x hxs
                rw [hx] at h2
                have h3 := hI.a x c h2.symm hXv
                rw [hcv] at h3
                exact hxi (by have := Option.some.inj h3; omega)
          · by_cases hck : k = c
            · subst hck
              rw [List.getElem?_set_self hqk] at hx
              have : i = x := by have := Option.some.inj hx; omega
              subst this
              exact List.getElem?_set_self hqi
            · rw [List.getElem?_set_ne hck] at hx
              have hb := Q.b c x hx fun h => h.resolve_left fun h => hck (hc h).symm
              have hxi : i ≠ x := fun e => by
                subst e
                rw [hqit] at hb
                have : v = c := by have := Option.some.inj hb; omega
                subst this
                exact Q.e i hx (by simp [Mt.see])
              rw [List.getElem?_set_ne hxi]
              exact hb
          · rw [List.getElem?_set_ne (show i ≠ x from fun e => hse (by rw [e]; exact hx))]
            exact Q.c x (by simp [Mt.see, hx])
          · by_cases hxi : i = x
            · subst hxi
              rw [List.getElem?_set_self hqi] at hx
              have : k = c := by have := Option.some.inj hx; omega
              exact absurd this.symm hck
            · rw [List.getElem?_set_ne hxi] at hx
              exact hsee x (Q.x x c hx (.inl hXc) fun e => hXv (e ▸ hXc)) hxi
          · by_cases hxi : i = x
            · subst hxi
              rw [List.getElem?_set_self hqi] at hx
              have : k = c := by have := Option.some.inj hx; omega
              subst this
              exact hip
            · rw [List.getElem?_set_ne hxi] at hx
              exact Q.d x c hx
          · rw [List.getElem?_set_self hqk] at hx
            have : i = x := by have := Option.some.inj hx; omega
            subst this
            exact hse
        · rename_i h1
          rw [if_neg h1] at h
          have hf1 : (g v (s.see i)).1 = false := by simpa using h1
          obtain ⟨e1, e2⟩ := hno _ _ hf1
          have hm := fun j hj => hmo v (s.see i) j hj
          have hqo := hok v (s.see i) hvm hs1
          generalize (g v (s.see i)).2 = q at e1 e2 hm hqo h ⊢
          have hmm : ∀ j, j ∈ s.seen → j ∈ q.seen := fun j hj => hm j (by simp [Mt.see, hj])
          have e1 : q.items = s.items := e1
          have e2 : q.claims = s.claims := e2
          have Q := ih q hqo ⟨fun x c hx => by rw [e1] at hx; rw [e2]; exact hI.a x c hx, fun c x hx => by rw [e2] at hx; rw [e1]; exact hI.b c x hx, fun x c hx hc => by rw [e1] at hx; exact hmm x (hI.c x c hx hc), fun x c hx => by rw [e1] at hx; exact hI.d x c hx⟩ h
          have back : ∀ x c : Nat, x ∈ q.seen → (tryL g k r q).2.items[x]? = some (c : Int) → X c → x ∈ s.seen := fun x c hx hxc hc => by
            rw [Q.c x hx, e1] at hxc
            exact hI.c x c hxc hc
          refine ⟨fun x c hx hc hcx => Q.a x c hx hc fun hck hxq => ?_, Q.b, fun x hx => by rw [Q.c x (hmm x hx), e1], fun x c hx hXc hck => back x c (Q.x x c hx hXc hck) hx hXc, Q.d, fun x hx hxs => Q.e x hx (hmm x hxs)⟩
          exact hcx hck (back x c hxq hx (hck ▸ hX))
theorem giveF_mp {pos : List (List Nat)} {n m : Nat} (hp : ∀ r ∈ pos, ∀ i ∈ r, i < n) : ∀ (f : Nat) (X : Nat → Prop) (k : Nat) (s : Mt), k < m → X k → s.OK n m → MI pos X s → (giveF pos f k s).1 = true → MP pos X k s (giveF pos f k s).2
  | 0, _, _, _, _, _, _, _, h => by cases h
  | f + 1, X, k, s, hk, hX, hs, hI, h => by
    refine tryL_mp hk hX (fun k s => giveF_no f k s) (fun k s => giveF_mono f k s) (fun k s hk hs => (giveF_ok hp f k s hk hs).1) (fun X k s => giveF_mp hp f X k s) _ s (fun i hi => ⟨?_, hi⟩) hs hI h
    by_cases hl : k < pos.length
    · have : pos.getD k [] = pos[k] := by simp [List.getD, hl]
      rw [this] at hi
      exact hp _ (List.getElem_mem hl) i hi
    · have : pos.getD k [] = [] := by simp [List.getD, hl]
      rw [this] at hi
      cases hi
end Go.Proofs.Ythbgghmjbaldlaa

/-! QMoR: The plain law of pairs as many as can be: all claims, one behind the other; no condition. -/
namespace Go.Proofs.Ythbgghmjbaldlaa
open Go.RowKit
theorem set_ge {l : List Int} {k i c : Nat} (h : 0 ≤ l.getD c (-1)) : 0 ≤ (l.set k (i : Int)).getD c (-1) := by
  simp only [List.getD_eq_getElem?_getD, List.getElem?_set] at h ⊢
  split
  · split
    · simp only [Option.getD_some]; omega
    · rename_i h1 h2
      subst h1
      rw [List.getElem?_eq_none (by omega)] at h
      simp at h
  · exact h
theorem tryL_cl {g : Nat → Mt → Bool × Mt} {k c : Nat} (hg : ∀ k s, 0 ≤ s.claims.getD c (-1) → 0 ≤ (g k s).2.claims.getD c (-1)) : ∀ (r : List Nat) (s : Mt), 0 ≤ s.claims.getD c (-1) → 0 ≤ (tryL g k r s).2.claims.getD c (-1)
  | [], s, h => h
  | i :: r, s, h => by
    have ih := fun s => tryL_cl hg (k := k) r s
    unfold tryL
    split
    · exact ih s h
    · split
      · exact set_ge h
      · split
        · exact set_ge (hg _ (s.see i) h)
        · exact ih _ (hg _ (s.see i) h)
theorem giveF_cl {pos : List (List Nat)} {c : Nat} : ∀ (f k : Nat) (s : Mt), 0 ≤ s.claims.getD c (-1) → 0 ≤ (giveF pos f k s).2.claims.getD c (-1)
  | 0, _, _, h => h
  | f + 1, _k, s, h => tryL_cl (fun k s => giveF_cl f k s) _ s h
theorem tryL_got {n m k : Nat} {g : Nat → Mt → Bool × Mt} (hk : k < m) (hok : ∀ k s, k < m → s.OK n m → (g k s).2.OK n m) : ∀ (r : List Nat) (s : Mt), (∀ i ∈ r, i < n) → s.OK n m → (tryL g k r s).1 = true → 0 ≤ (tryL g k r s).2.claims.getD k (-1)
  | [], s, _, _, h => by cases h
  | i :: r, s, hr, hs, h => by
    have ih := fun s => tryL_got hk hok (g := g) r s fun j hj => hr j (List.mem_cons_of_mem _ hj)
    have hi := hr i (by simp)
    have key : ∀ q : Mt, q.OK n m → 0 ≤ (q.claims.set k (i : Int)).getD k (-1) := fun q hq => by
      have : k < q.claims.length := by rw [hq.claims]; exact hk
      simp [List.getD_eq_getElem?_getD, List.getElem?_set_self this]
    unfold tryL at h ⊢
    split
    · rename_i hse
      rw [if_pos hse] at h
      exact ih s hs h
    · rename_i hse
      rw [if_neg hse] at h
      obtain ⟨hs1, _⟩ := hs.see_ok hi hse
      split
      · exact key _ hs1
      · rename_i h0
        rw [if_neg h0] at h
        have hvm := hs.val hi (by omega)
        split
        · exact key _ (hok _ _ hvm hs1)
        · rename_i h1
          rw [if_neg h1] at h
          exact ih _ (hok _ _ hvm hs1) h
theorem giveF_got {pos : List (List Nat)} {n m : Nat} (hp : ∀ r ∈ pos, ∀ i ∈ r, i < n) : ∀ (f k : Nat) (s : Mt), k < m → s.OK n m → (giveF pos f k s).1 = true → 0 ≤ (giveF pos f k s).2.claims.getD k (-1)
  | 0, _, _, _, _, h => by cases h
  | f + 1, k, s, hk, hs, h => by
    refine tryL_got hk (fun k s hk hs => (giveF_ok hp f k s hk hs).1) _ s (fun i hi => ?_) hs h
    by_cases hl : k < pos.length
    · have : pos.getD k [] = pos[k] := by simp [List.getD, hl]
      rw [this] at hi
      exact hp _ (List.getElem_mem hl) i hi
    · have : pos.getD k [] = [] := by simp [List.getD, hl]
      rw [this] at hi
      cases hi
/-- Each claim of a list is given an item, if one can be found. -/
def runG (pos : List (List Nat)) (n : Nat) : List Nat → Mt → Mt
  | [], s => s
  | k :: r, s => runG pos n r ⟨(giveF pos (n + 1) k s).2.items, (giveF pos (n + 1) k s).2.claims, []⟩
theorem set_un {l : List Int} {i k c : Nat} (hck : k ≠ c) (h : ∀ x : Nat, l[x]? ≠ some (c : Int)) : ∀ x : Nat, (l.set i (k : Int))[x]? ≠ some (c : Int) := fun x hx => by
  rw [List.getElem?_set] at hx
  split at hx
  · split at hx
    · have := Option.some.inj hx
      omega
    · cases hx
  · exact h x hx
theorem tryL_un {n : Nat} {g : Nat → Mt → Bool × Mt} {k c : Nat} (hck : k ≠ c) (hg : ∀ k s, s.items.length = n → k ≠ c → (∀ x : Nat, s.items[x]? ≠ some (c : Int)) → (∀ x : Nat, (g k s).2.items[x]? ≠ some (c : Int)) ∧ (g k s).2.claims[c]? = s.claims[c]?) :
    ∀ (r : List Nat) (s : Mt), (∀ i ∈ r, i < n) → s.items.length = n → (∀ k s, (g k s).2.items.length = s.items.length) → (∀ x : Nat, s.items[x]? ≠ some (c : Int)) → (∀ x : Nat, (tryL g k r s).2.items[x]? ≠ some (c : Int)) ∧ (tryL g k r s).2.claims[c]? = s.claims[c]?
  | [], s, _, _, _, h => ⟨h, rfl⟩
  | i :: r, s, hr, hn, hl, h => by
    have ih := fun s hr hn => tryL_un hck hg (g := g) r s hr hn hl
    have hi : i < s.items.length := by rw [hn]; exact hr i (by simp)
    have hr' := fun j hj => hr j (List.mem_cons_of_mem i hj)
    unfold tryL
    split
    · exact ih s hr' hn h
    · split
      · exact ⟨set_un hck h, by simp only [Mt.set, Mt.see]; rw [List.getElem?_set_ne hck]⟩
      · rename_i h0
        have hv : (s.items.getD i 0).toNat ≠ c := fun e => h i (by
          have : s.items.getD i 0 = s.items[i] := by simp [List.getD, hi]
          rw [List.getElem?_eq_getElem hi, ← this]
          congr 1
          omega)
        obtain ⟨q1, q2⟩ := hg _ (s.see i) hn hv h
        split
        · exact ⟨set_un hck q1, by simp only [Mt.set]; rw [List.getElem?_set_ne hck]; exact q2⟩
        · obtain ⟨a1, a2⟩ := ih (g (s.items.getD i 0).toNat (s.see i)).2 hr' ((hl _ (s.see i)).trans hn) q1
          exact ⟨a1, a2.trans q2⟩
theorem tryL_len {g : Nat → Mt → Bool × Mt} {k : Nat} (hl : ∀ k s, (g k s).2.items.length = s.items.length) : ∀ (r : List Nat) (s : Mt), (tryL g k r s).2.items.length = s.items.length
  | [], s => rfl
  | i :: r, s => by
    have ih := fun s => tryL_len hl (k := k) r s
    unfold tryL
    split
    · exact ih s
    · split
      · simp [Mt.set, Mt.see]
      · split
        · simp only [Mt.set, List.length_set]; exact hl _ _
        · rw [ih]; exact hl _ _
theorem giveF_len {pos : List (List Nat)} : ∀ (f k : Nat) (s : Mt), (giveF pos f k s).2.items.length = s.items.length
  | 0, _, _ => rfl
  | f + 1, _k, s => tryL_len (fun k s => giveF_len f k s) _ s
theorem giveF_un {pos : List (List Nat)} {n c : Nat} (hp : ∀ r ∈ pos, ∀ i ∈ r, i < n) : ∀ (f k : Nat) (s : Mt), s.items.length = n → k ≠ c → (∀ x : Nat, s.items[x]? ≠ some (c : Int)) → (∀ x : Nat, (giveF pos f k s).2.items[x]? ≠ some (c : Int)) ∧ (giveF pos f k s).2.claims[c]? = s.claims[c]? := by
  intro f
  induction f with
  | zero => exact fun _ _ _ _ h => ⟨h, rfl⟩
  | succ f ih =>
    intro k s hn hk h
    refine tryL_un hk ih _ s (fun i hi => ?_) hn (fun k s => giveF_len f k s) h
    by_cases hl : k < pos.length
    · have : pos.getD k [] = pos[k] := by simp [List.getD, hl]
      rw [this] at hi
      exact hp _ (List.getElem_mem hl) i hi
    · have : pos.getD k [] = [] := by simp [List.getD, hl]
      rw [this] at hi
      cases hi
end Go.Proofs.Ythbgghmjbaldlaa

/-! QMoT: The plain law of pairs as many as can be: one claim more; no condition. -/
namespace Go.Proofs.Ythbgghmjbaldlaa
open Go.RowKit
def Mt.new (s : Mt) : Mt := ⟨s.items, s.claims, []⟩
/-- A claim is dealt with. -/
def Fin1 (pos : List (List Nat)) (s : Mt) (k : Nat) : Prop := 0 ≤ s.claims.getD k (-1) ∨ ∃ S C : Nat → Prop, Closed pos s.items S C ∧ C k
theorem give_step {pos : List (List Nat)} {n m k : Nat} {s : Mt} (hp : ∀ r ∈ pos, ∀ i ∈ r, i < n) (hk : k < m) (hs : s.OK n m) (he : s.seen = []) (hI : MI pos (fun _ => False) s) (hu : ∀ x : Nat, s.items[x]? ≠ some (k : Int)) :
    (giveF pos (n + 1) k s).2.new.OK n m ∧ MI pos (fun _ => False) (giveF pos (n + 1) k s).2.new ∧ Fin1 pos (giveF pos (n + 1) k s).2.new k ∧
    (∀ c, Fin1 pos s c → Fin1 pos (giveF pos (n + 1) k s).2.new c) ∧ ∀ c, k ≠ c → (∀ x : Nat, s.items[x]? ≠ some (c : Int)) → ∀ x : Nat, (giveF pos (n + 1) k s).2.new.items[x]? ≠ some (c : Int) := by
  have hok := (giveF_ok hp (n + 1) k s hk hs).1
  have hfin : Fin1 pos (giveF pos (n + 1) k s).2.new k := by
    by_cases h : (giveF pos (n + 1) k s).1 = true
    · exact .inl (giveF_got hp _ k s hk hs h)
    · exact .inr (giveF_closed hp hk hs he (by omega) (by simpa using h))
  have hmi : MI pos (fun _ => False) (giveF pos (n + 1) k s).2.new := by
    by_cases h : (giveF pos (n + 1) k s).1 = true
    · have Q := giveF_mp hp (n + 1) (fun c => c = k) k s hk rfl hs ⟨fun i c hx _ => hI.a i c hx fun h => h, fun c i hx _ => hI.b c i hx fun h => h, fun i c hx hc => absurd (hc ▸ hx) (hu i), hI.d⟩ h
      exact ⟨fun i c hx _ => Q.a i c hx (fun h => h) fun _ => by rw [he]; simp, fun c i hx _ => Q.b c i hx fun h => h, fun i c _ h => h.elim, Q.d⟩
    · obtain ⟨e1, e2⟩ := giveF_no (n + 1) k s (by simpa using h)
      refine ⟨fun i c hx hf => ?_, fun c i hx hf => ?_, fun i c _ h => h.elim, fun i c hx => ?_⟩ <;> simp only [Mt.new, e1, e2] at hx ⊢
      · exact hI.a i c hx hf
      · exact hI.b c i hx hf
      · exact hI.d i c hx
  refine ⟨⟨hok.items, hok.claims, hok.vals, List.nodup_nil, fun i hi => by cases hi⟩, hmi, hfin, fun c hc => ?_, fun c hc hx => (giveF_un hp _ k s hs.items hc hx).1⟩
  rcases hc with hc | ⟨S, C, hc, hC⟩
  · exact .inl (giveF_cl _ k s hc)
  · exact .inr ⟨S, C, hc.same fun i hi => giveF_same _ k s hc i hi, hC⟩
theorem runG_ok {pos : List (List Nat)} {n m : Nat} (hp : ∀ r ∈ pos, ∀ i ∈ r, i < n) : ∀ (ks : List Nat) (D : Nat → Prop) (s : Mt), (∀ k ∈ ks, k < m) → ks.Nodup → s.OK n m → s.seen = [] → MI pos (fun _ => False) s → (∀ c, D c → Fin1 pos s c) → (∀ k ∈ ks, ∀ x : Nat, s.items[x]? ≠ some (k : Int)) →
    (runG pos n ks s).OK n m ∧ MI pos (fun _ => False) (runG pos n ks s) ∧ ∀ c, D c ∨ c ∈ ks → Fin1 pos (runG pos n ks s) c
  | [], D, s, _, _, hs, _, hI, hD, _ => ⟨hs, hI, fun c hc => hD c (hc.resolve_right (by simp))⟩
  | k :: r, D, s, hk, hn, hs, he, hI, hD, hu => by
    obtain ⟨a1, a2, a3, a4, a5⟩ := give_step hp (hk k (by simp)) hs he hI (hu k (by simp))
    have hnk := (List.nodup_cons.1 hn)
    obtain ⟨b1, b2, b3⟩ := runG_ok hp r (fun c => D c ∨ c = k) _ (fun j hj => hk j (List.mem_cons_of_mem _ hj)) hnk.2 a1 rfl a2 (fun c hc => by
      rcases hc with hc | rfl
      · exact a4 c (hD c hc)
      · exact a3) (fun j hj => a5 j (fun e => hnk.1 (e ▸ hj)) (hu j (List.mem_cons_of_mem _ hj)))
    refine ⟨b1, b2, fun c hc => b3 c ?_⟩
    rcases hc with hc | hc
    · exact .inl (.inl hc)
    · rcases List.mem_cons.1 hc with rfl | hc
      · exact .inl (.inr rfl)
      · exact .inr hc
end Go.Proofs.Ythbgghmjbaldlaa

/-! QMoU: The plain law of pairs as many as can be: what is reached lies in closed sets; no condition. -/
namespace Go.Proofs.Ythbgghmjbaldlaa
open Go.RowKit
/-- Marks are old ones, or in S and C. -/
def InM (S C : Nat → Prop) (s s' : Rc) : Prop := (∀ i, s'.it.getD i false = true → s.it.getD i false = true ∨ S i) ∧ ∀ c, s'.cl.getD c false = true → s.cl.getD c false = true ∨ C c
theorem InM.refl (S C : Nat → Prop) (s : Rc) : InM S C s s := ⟨fun _ h => .inl h, fun _ h => .inl h⟩
theorem InM.trans {S C : Nat → Prop} {a b c : Rc} (h : InM S C a b) (k : InM S C b c) : InM S C a c :=
  ⟨fun i hi => (k.1 i hi).elim (h.1 i) .inr, fun i hi => (k.2 i hi).elim (h.2 i) .inr⟩
theorem mark_in {l : List Bool} {k i : Nat} (h : (l.set k true).getD i false = true) : l.getD i false = true ∨ i = k := by
  simp only [List.getD_eq_getElem?_getD, List.getElem?_set] at h ⊢
  split at h
  · rename_i he
    exact .inr he.symm
  · exact .inl h
theorem goL_in {pos : List (List Nat)} {items : List Int} {S C : Nat → Prop} {g : Nat → Rc → Rc} (hc : Closed pos items S C) (hg : ∀ k s, C k → InM S C s (g k s)) : ∀ (r : List Nat) (s : Rc), (∀ i ∈ r, S i) → InM S C s (goL items g r s)
  | [], s, _ => .refl S C s
  | i :: r, s, hr => by
    have ih := fun s => goL_in hc hg r s fun j hj => hr j (List.mem_cons_of_mem _ hj)
    have hi := hr i (by simp)
    have h1 : InM S C s ⟨s.cl, s.it.set i true⟩ := ⟨fun x hx => (mark_in hx).elim .inl fun e => .inr (by rw [e]; exact hi), fun _ h => .inl h⟩
    unfold goL
    split
    · exact ih s
    · split
      · exact (h1.trans (hg _ _ (hc.2 i hi).2)).trans (ih _)
      · exact h1.trans (ih _)
theorem reachF_in {pos : List (List Nat)} {items : List Int} {S C : Nat → Prop} (hc : Closed pos items S C) : ∀ (f k : Nat) (s : Rc), C k → InM S C s (reachF pos items f k s)
  | 0, _, s, _ => .refl S C s
  | f + 1, k, s, hk => InM.trans (b := ⟨s.cl.set k true, s.it⟩) ⟨fun _ h => .inl h, fun c hx => (mark_in hx).elim .inl fun e => .inr (by rw [e]; exact hk)⟩ (goL_in hc (fun k s => reachF_in hc f k s) _ _ (hc.1 k hk))
end Go.Proofs.Ythbgghmjbaldlaa

/-! QMoV: The plain law of pairs as many as can be: what is reached is closed; no condition. -/
namespace Go.Proofs.Ythbgghmjbaldlaa
open Go.RowKit
theorem mark_keep {l : List Bool} {k i : Nat} (h : l.getD i false = true) : (l.set k true).getD i false = true := by
  simp only [List.getD_eq_getElem?_getD, List.getElem?_set] at h ⊢
  split
  · rename_i he
    subst he
    split
    · rfl
    · rename_i hl
      rw [List.getElem?_eq_none (by omega)] at h
      cases h
  · exact h
theorem mark_set {l : List Bool} {i : Nat} (h : i < l.length) : (l.set i true).getD i false = true := by
  simp [List.getD_eq_getElem?_getD, List.getElem?_set_self h]
/-- What is new between s and s' is dealt with in s'. -/
structure RDn (pos : List (List Nat)) (items : List Int) (s s' : Rc) : Prop where
  mi : ∀ i, s.it.getD i false = true → s'.it.getD i false = true
  mc : ∀ c, s.cl.getD c false = true → s'.cl.getD c false = true
  c : ∀ c, s'.cl.getD c false = true → s.cl.getD c false = true ∨ ∀ j ∈ pos.getD c [], s'.it.getD j false = true
  i : ∀ i, s'.it.getD i false = true → s.it.getD i false = true ∨ items.getD i 0 < 0 ∨ s'.cl.getD (items.getD i 0).toNat false = true
theorem RDn.refl (pos : List (List Nat)) (items : List Int) (s : Rc) : RDn pos items s s := ⟨fun _ h => h, fun _ h => h, fun _ h => .inl h, fun _ h => .inl h⟩
theorem RDn.trans {pos : List (List Nat)} {items : List Int} {a b c : Rc} (h : RDn pos items a b) (k : RDn pos items b c) : RDn pos items a c :=
  ⟨fun i hi => k.mi i (h.mi i hi), fun x hx => k.mc x (h.mc x hx), fun x hx => by
    rcases k.c x hx with h1 | h1
    · rcases h.c x h1 with h2 | h2
      · exact .inl h2
      · exact .inr fun j hj => k.mi j (h2 j hj)
    · exact .inr h1, fun i hi => by
    rcases k.i i hi with h1 | h1
    · rcases h.i i h1 with h2 | h2 | h2
      · exact .inl h2
      · exact .inr (.inl h2)
      · exact .inr (.inr (k.mc _ h2))
    · exact .inr h1⟩
theorem goL_dn {pos : List (List Nat)} {items : List Int} {n m f : Nat} {g : Nat → Rc → Rc} (hi : items.length = n) (hv : ∀ v ∈ items, v < (m : Int))
    (hok : ∀ k s, k < m → s.OK n m → (g k s).OK n m ∧ nof (g k s).it ≤ nof s.it) (hg : ∀ k s, k < m → s.OK n m → nof s.it < f → RDn pos items s (g k s) ∧ (g k s).cl.getD k false = true) :
    ∀ (r : List Nat) (s : Rc), (∀ i ∈ r, i < n) → s.OK n m → nof s.it < f + 1 → RDn pos items s (goL items g r s) ∧ ∀ j ∈ r, (goL items g r s).it.getD j false = true
  | [], s, _, _, _ => ⟨.refl _ _ s, by simp⟩
  | i :: r, s, hr, hs, hf => by
    have ih := fun s => goL_dn hi hv hok hg r s fun j hj => hr j (List.mem_cons_of_mem _ hj)
    have hin := hr i (by simp)
    unfold goL
    split
    · rename_i hm
      obtain ⟨a1, a2⟩ := ih s hs hf
      refine ⟨a1, fun j hj => ?_⟩
      rcases List.mem_cons.1 hj with rfl | hj
      · exact a1.mi _ hm
      · exact a2 j hj
    · rename_i hni
      have hil : i < s.it.length := by rw [hs.it]; exact hin
      have hf' : s.it[i]? = some false := by
        rw [List.getElem?_eq_getElem hil]
        have : s.it.getD i false = s.it[i] := by simp [List.getD, hil]
        rw [this] at hni
        simpa using hni
      have hn := nof_set hf'
      have h1 : Rc.OK n m ⟨s.cl, s.it.set i true⟩ := ⟨hs.cl, by simpa using hs.it⟩
      have hset := mark_set hil
      have key : ∀ T : Rc, RDn pos items ⟨s.cl, s.it.set i true⟩ T → (items.getD i 0 < 0 ∨ T.cl.getD (items.getD i 0).toNat false = true) → RDn pos items s T := fun T hT hi' =>
        ⟨fun x hx => hT.mi x (mark_keep hx), hT.mc, hT.c, fun x hx => by
          rcases hT.i x hx with h2 | h2
          · rcases mark_in h2 with h3 | rfl
            · exact .inl h3
            · exact .inr hi'
          · exact .inr h2⟩
      split
      · rename_i hc
        have hl : i < items.length := by rw [hi]; exact hin
        have hgd : items.getD i 0 = items[i] := by simp [List.getD, hl]
        have := hv _ (List.getElem_mem hl)
        obtain ⟨b1, b2⟩ := hok (items.getD i 0).toNat ⟨s.cl, s.it.set i true⟩ (by omega) h1
        obtain ⟨c1, c2⟩ := hg (items.getD i 0).toNat ⟨s.cl, s.it.set i true⟩ (by omega) h1 (by simp only; omega)
        simp only at b2
        obtain ⟨a1, a2⟩ := ih _ b1 (by omega)
        have hT := c1.trans a1
        refine ⟨key _ hT (.inr (a1.mc _ c2)), fun j hj => ?_⟩
        rcases List.mem_cons.1 hj with rfl | hj
        · exact hT.mi _ hset
        · exact a2 j hj
      · rename_i hc
        obtain ⟨a1, a2⟩ := ih _ h1 (by simp only; omega)
        refine ⟨key _ a1 ?_, fun j hj => ?_⟩
        · by_cases h0 : items.getD i 0 < 0
          · exact .inl h0
          · refine .inr (a1.mc _ ?_)
            cases hb : s.cl.getD (items.getD i 0).toNat false
            · exact absurd ⟨by omega, hb⟩ hc
            · rfl
        · rcases List.mem_cons.1 hj with rfl | hj
          · exact a1.mi _ hset
          · exact a2 j hj
theorem pos_lt {pos : List (List Nat)} {n k : Nat} (hp : ∀ r ∈ pos, ∀ i ∈ r, i < n) {i : Nat} (hi : i ∈ pos.getD k []) : i < n := by
  by_cases hl : k < pos.length
  · have : pos.getD k [] = pos[k] := by simp [List.getD, hl]
    rw [this] at hi
    exact hp _ (List.getElem_mem hl) i hi
  · have : pos.getD k [] = [] := by simp [List.getD, hl]
    rw [this] at hi
    cases hi
theorem reachF_dn {pos : List (List Nat)} {items : List Int} {n m : Nat} (hp : ∀ r ∈ pos, ∀ i ∈ r, i < n) (hi : items.length = n) (hv : ∀ v ∈ items, v < (m : Int)) :
    ∀ (f k : Nat) (s : Rc), k < m → s.OK n m → nof s.it < f → RDn pos items s (reachF pos items f k s) ∧ (reachF pos items f k s).cl.getD k false = true
  | 0, _, _, _, _, hf => by omega
  | f + 1, k, s, hk, hs, hf => by
    have hs' : Rc.OK n m ⟨s.cl.set k true, s.it⟩ := ⟨by simpa using hs.cl, hs.it⟩
    obtain ⟨a1, a2⟩ := goL_dn hi hv (fun k s => reachF_ok hp hi hv f k s) (fun k s => reachF_dn hp hi hv f k s) (pos.getD k []) ⟨s.cl.set k true, s.it⟩ (fun i hi => pos_lt hp hi) hs' hf
    refine ⟨⟨a1.mi, fun c hc => a1.mc c (mark_keep hc), fun c hc => ?_, a1.i⟩, a1.mc k (mark_set (by rw [hs.cl]; exact hk))⟩
    rcases a1.c c hc with h1 | h1
    · rcases mark_in h1 with h2 | rfl
      · exact .inl h2
      · exact .inr a2
    · exact .inr h1
/-- From each claim without item. -/
def rcR (pos : List (List Nat)) (items claims : List Int) (f : Nat) : List Nat → Rc → Rc
  | [], s => s
  | k :: r, s => rcR pos items claims f r (if claims.getD k 0 < 0 then reachF pos items f k s else s)
theorem nof_le : ∀ l : List Bool, nof l ≤ l.length
  | [] => Nat.le_refl _
  | b :: r => by
    have := nof_le r
    simp only [nof, List.length_cons]
    split <;> omega
theorem rcR_ok {pos : List (List Nat)} {items claims : List Int} {n m : Nat} (hp : ∀ r ∈ pos, ∀ i ∈ r, i < n) (hi : items.length = n) (hv : ∀ v ∈ items, v < (m : Int)) {S C : Nat → Prop} (hc : Closed pos items S C) :
    ∀ (r : List Nat) (s : Rc), (∀ k ∈ r, k < m ∧ (claims.getD k 0 < 0 → C k)) → s.OK n m →
      (rcR pos items claims (n + 1) r s).OK n m ∧ RDn pos items s (rcR pos items claims (n + 1) r s) ∧ InM S C s (rcR pos items claims (n + 1) r s) ∧ ∀ k ∈ r, claims.getD k 0 < 0 → (rcR pos items claims (n + 1) r s).cl.getD k false = true
  | [], s, _, hs => ⟨hs, .refl _ _ s, .refl _ _ s, by simp⟩
  | k :: r, s, hr, hs => by
    have hr' := fun j hj => hr j (List.mem_cons_of_mem k hj)
    obtain ⟨hk, hkC⟩ := hr k (by simp)
    unfold rcR
    split
    · rename_i h0
      have hn := nof_le s.it
      rw [hs.it] at hn
      obtain ⟨a1, a2⟩ := reachF_ok hp hi hv (n + 1) k s hk hs
      obtain ⟨b1, b2⟩ := reachF_dn hp hi hv (n + 1) k s hk hs (by omega)
      have b3 := reachF_in hc (n + 1) k s (hkC h0)
      obtain ⟨c1, c2, c3, c4⟩ := rcR_ok hp hi hv hc r _ hr' a1
      refine ⟨c1, b1.trans c2, b3.trans c3, fun j hj h => ?_⟩
      rcases List.mem_cons.1 hj with rfl | hj
      · exact c2.mc _ b2
      · exact c4 j hj h
    · rename_i h0
      obtain ⟨c1, c2, c3, c4⟩ := rcR_ok hp hi hv hc r s hr' hs
      refine ⟨c1, c2, c3, fun j hj h => ?_⟩
      rcases List.mem_cons.1 hj with rfl | hj
      · exact absurd h h0
      · exact c4 j hj h
/-- The matching and the marks behind all. -/
structure Fin2 (pos : List (List Nat)) (n m : Nat) (s : Mt) (t : Rc) : Prop where
  ok : s.OK n m
  rok : t.OK n m
  mi : MI pos (fun _ => False) s
  h1 : ∀ i, t.it.getD i false = true → 0 ≤ s.items.getD i 0
  h2 : ∀ c, t.cl.getD c false = true → ∀ j ∈ pos.getD c [], t.it.getD j false = true
  h3 : ∀ c, c < m → t.cl.getD c false = false → 0 ≤ s.claims.getD c 0
  h4 : ∀ i, t.it.getD i false = true → t.cl.getD (s.items.getD i 0).toNat false = true
def matchF (pos : List (List Nat)) (n m : Nat) : Mt := runG pos n (List.range m) ⟨List.replicate n (-1), List.replicate m (-1), []⟩
def markF (pos : List (List Nat)) (n m : Nat) (s : Mt) : Rc := rcR pos s.items s.claims (n + 1) (List.range m) ⟨List.replicate m false, List.replicate n false⟩
theorem fin2 {pos : List (List Nat)} {n m : Nat} (hp : ∀ r ∈ pos, ∀ i ∈ r, i < n) : Fin2 pos n m (matchF pos n m) (markF pos n m (matchF pos n m)) := by
  have hrep : ∀ (a i : Nat) (c : Nat), (List.replicate a (-1 : Int))[i]? ≠ some (c : Int) := fun a i c h => by
    rw [List.getElem?_replicate] at h
    split at h
    · have := Option.some.inj h; omega
    · cases h
  obtain ⟨a1, a2, a3⟩ := runG_ok hp (List.range m) (fun _ => False) ⟨List.replicate n (-1), List.replicate m (-1), []⟩ (fun k hk => List.mem_range.1 hk) List.nodup_range
    ⟨by simp, by simp, fun v hv => by have := List.eq_of_mem_replicate hv; omega, List.nodup_nil, by simp⟩ rfl
    ⟨fun i c h => absurd h (hrep _ _ _), fun c i h => absurd h (hrep _ _ _), fun i c h => absurd h (hrep _ _ _), fun i c h => absurd h (hrep _ _ _)⟩ (fun _ h => h.elim) (fun k _ x => hrep _ _ _)
  have a3' : ∀ c, c < m → Fin1 pos (matchF pos n m) c := fun c hc => a3 c (.inr (List.mem_range.2 hc))
  change (matchF pos n m).OK n m at a1
  change MI pos _ (matchF pos n m) at a2
  clear a3
  generalize matchF pos n m = s at a1 a2 a3' ⊢
  have hcl : Closed pos s.items (fun i => ∃ S C : Nat → Prop, Closed pos s.items S C ∧ S i) (fun c => ∃ S C : Nat → Prop, Closed pos s.items S C ∧ C c) :=
    ⟨fun c ⟨S, C, h, hc⟩ j hj => ⟨S, C, h, h.1 c hc j hj⟩, fun i ⟨S, C, h, hi⟩ => ⟨(h.2 i hi).1, S, C, h, (h.2 i hi).2⟩⟩
  have hgd : ∀ k, k < m → s.claims.getD k 0 = s.claims.getD k (-1) := fun k hk => by
    have : k < s.claims.length := by rw [a1.claims]; exact hk
    simp [List.getD, this]
  obtain ⟨b1, b2, b3, b4⟩ := rcR_ok (claims := s.claims) hp a1.items a1.vals hcl (List.range m) ⟨List.replicate m false, List.replicate n false⟩ (fun k hk => by
    have hk := List.mem_range.1 hk
    refine ⟨hk, fun h => ?_⟩
    rw [hgd k hk] at h
    rcases a3' k hk with h1 | h1
    · omega
    · exact h1) ⟨by simp, by simp⟩
  have hno : ∀ a i : Nat, (List.replicate a false).getD i false = true → False := fun a i h => by
    rw [List.getD_eq_getElem?_getD, List.getElem?_replicate] at h
    split at h <;> cases h
  change (markF pos n m s).OK n m at b1
  change RDn pos s.items _ (markF pos n m s) at b2
  change InM _ _ _ (markF pos n m s) at b3
  change ∀ k ∈ List.range m, _ → (markF pos n m s).cl.getD k false = true at b4
  generalize markF pos n m s = t at b1 b2 b3 b4 ⊢
  have q1 : ∀ i, t.it.getD i false = true → 0 ≤ s.items.getD i 0 := fun i hi => by
    rcases b3.1 i hi with h | h
    · exact (hno _ _ h).elim
    · exact (hcl.2 i h).1
  refine ⟨a1, b1, a2, q1, fun c hc => ?_, fun c hc hf => ?_, fun i hi => ?_⟩
  · exact (b2.c c hc).resolve_left fun h => hno _ _ h
  · have := b4 c (List.mem_range.2 hc)
    rw [hf] at this
    by_cases h : s.claims.getD c 0 < 0
    · cases this h
    · omega
  · have := q1 i hi
    rcases b2.i i hi with h | h | h
    · exact (hno _ _ h).elim
    · omega
    · exact h
end Go.Proofs.Ythbgghmjbaldlaa
