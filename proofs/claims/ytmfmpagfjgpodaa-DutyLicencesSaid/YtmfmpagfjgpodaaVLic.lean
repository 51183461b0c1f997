/- Walks on plain values: the law of licences; texts of at most 1000 bytes. -/
import Derived.Test.YtmfmpagfjgpodaaVKinds
namespace Go.Proofs.Ytmfmpagfjgpodaa
open Go.RowKit
set_option maxRecDepth 100000
def licErr (l : List Rec) (kind : ByteArray) (date : Int) : Int := if (lics l).2 ≠ 0 then (lics l).2 else if nameErr kind ≠ 0 then nameErr kind else dateErr date
theorem v48 (l : List Rec) (kind : ByteArray) (date : Int) (hl : l.length ≤ 1000) (hd : Small l) (hk : kind.size ≤ 1000) :
    VC Try.prog 48 [recsA l, S kind, I date] (.tup [B (if licErr l kind date ≠ 0 then false else holdsP l kind date), I (licErr l kind date)]) := by
  unfold licErr
  refine VC_of Try.func48 rfl (by kernel_rfl) (by kernel_rfl) rfl fun M0 w0 => ?_
  simp only [Try.ntmps48, Try.results48, enumA]
  by_cases h1 : (lics l).2 = 0
  · by_cases h2 : nameErr kind = 0
    · by_cases h3 : dateErr date = 0
      · repeat (first | (with_reducible refine vseq ?_) | (with_reducible refine vthenN ?_) | (with_reducible refine vthenE ?_) | (with_reducible refine vthenR ?_) | (with_reducible refine vret ?_) | (with_reducible refine vskip ?_) | (with_reducible refine vexit ?_) | (with_reducible refine vblock ?_) | (with_reducible refine vblockN ?_) | (with_reducible refine vblockR ?_) | (with_reducible refine vblockH ?_) | (with_reducible refine vrun_nil ?_) | (with_reducible refine vblockE rfl ?_) | (with_reducible refine vregion [] ?_) | (with_reducible refine vhrun_nil ?_) | ((with_reducible refine vcondT ?_ ?_); (focus (go_simp; done))) | ((with_reducible refine vcondF ?_ ?_); (focus (go_simp; done))) | ((with_reducible refine vrun_cons fun KK hKK => ?_); go_simp; (first | (with_reducible refine ⟨_, v96 l hl hd, ?_⟩) | (with_reducible refine ⟨_, v99 _ hk, ?_⟩) | (with_reducible refine ⟨_, v100 _, ?_⟩) | (refine ⟨_, v75 [_, _, _] rfl, ?_⟩) | (with_reducible refine ⟨_, v101 l _ _ hl, ?_⟩) | skip); refine hKK _ ?_; clear hKK KK) | ((with_reducible refine vhrun_cons fun KK hKK => ?_); go_simp; (first | (with_reducible refine ⟨_, v96 l hl hd, ?_⟩) | (with_reducible refine ⟨_, v99 _ hk, ?_⟩) | (with_reducible refine ⟨_, v100 _, ?_⟩) | (refine ⟨_, v75 [_, _, _] rfl, ?_⟩) | (with_reducible refine ⟨_, v101 l _ _ hl, ?_⟩) | skip); refine hKK _ ?_; clear hKK KK))
        go_simp
      · repeat (first | (with_reducible refine vseq ?_) | (with_reducible refine vthenN ?_) | (with_reducible refine vthenE ?_) | (with_reducible refine vthenR ?_) | (with_reducible refine vret ?_) | (with_reducible refine vskip ?_) | (with_reducible refine vexit ?_) | (with_reducible refine vblock ?_) | (with_reducible refine vblockN ?_) | (with_reducible refine vblockR ?_) | (with_reducible refine vblockH ?_) | (with_reducible refine vrun_nil ?_) | (with_reducible refine vblockE rfl ?_) | (with_reducible refine vregion [] ?_) | (with_reducible refine vhrun_nil ?_) | ((with_reducible refine vcondT ?_ ?_); (focus (go_simp; done))) | ((with_reducible refine vcondF ?_ ?_); (focus (go_simp; done))) | ((with_reducible refine vrun_cons fun KK hKK => ?_); go_simp; (first | (with_reducible refine ⟨_, v96 l hl hd, ?_⟩) | (with_reducible refine ⟨_, v99 _ hk, ?_⟩) | (with_reducible refine ⟨_, v100 _, ?_⟩) | (refine ⟨_, v75 [_, _, _] rfl, ?_⟩) | (with_reducible refine ⟨_, v101 l _ _ hl, ?_⟩) | skip); refine hKK _ ?_; clear hKK KK) | ((with_reducible refine vhrun_cons fun KK hKK => ?_); go_simp; (first | (with_reducible refine ⟨_, v96 l hl hd, ?_⟩) | (with_reducible refine ⟨_, v99 _ hk, ?_⟩) | (with_reducible refine ⟨_, v100 _, ?_⟩) | (refine ⟨_, v75 [_, _, _] rfl, ?_⟩) | (with_reducible refine ⟨_, v101 l _ _ hl, ?_⟩) | skip); refine hKK _ ?_; clear hKK KK))
        go_simp
    · repeat (first | (with_reducible refine vseq ?_) | (with_reducible refine vthenN ?_) | (with_reducible refine vthenE ?_) | (with_reducible refine vthenR ?_) | (with_reducible refine vret ?_) | (with_reducible refine vskip ?_) | (with_reducible refine vexit ?_) | (with_reducible refine vblock ?_) | (with_reducible refine vblockN ?_) | (with_reducible refine vblockR ?_) | (with_reducible refine vblockH ?_) | (with_reducible refine vrun_nil ?_) | (with_reducible refine vblockE rfl ?_) | (with_reducible refine vregion [] ?_) | (with_reducible refine vhrun_nil ?_) | ((with_reducible refine vcondT ?_ ?_); (focus (go_simp; done))) | ((with_reducible refine vcondF ?_ ?_); (focus (go_simp; done))) | ((with_reducible refine vrun_cons fun KK hKK => ?_); go_simp; (first | (with_reducible refine ⟨_, v96 l hl hd, ?_⟩) | (with_reducible refine ⟨_, v99 _ hk, ?_⟩) | (with_reducible refine ⟨_, v100 _, ?_⟩) | (refine ⟨_, v75 [_, _, _] rfl, ?_⟩) | (with_reducible refine ⟨_, v101 l _ _ hl, ?_⟩) | skip); refine hKK _ ?_; clear hKK KK) | ((with_reducible refine vhrun_cons fun KK hKK => ?_); go_simp; (first | (with_reducible refine ⟨_, v96 l hl hd, ?_⟩) | (with_reducible refine ⟨_, v99 _ hk, ?_⟩) | (with_reducible refine ⟨_, v100 _, ?_⟩) | (refine ⟨_, v75 [_, _, _] rfl, ?_⟩) | (with_reducible refine ⟨_, v101 l _ _ hl, ?_⟩) | skip); refine hKK _ ?_; clear hKK KK))
      go_simp
  · repeat (first | (with_reducible refine vseq ?_) | (with_reducible refine vthenN ?_) | (with_reducible refine vthenE ?_) | (with_reducible refine vthenR ?_) | (with_reducible refine vret ?_) | (with_reducible refine vskip ?_) | (with_reducible refine vexit ?_) | (with_reducible refine vblock ?_) | (with_reducible refine vblockN ?_) | (with_reducible refine vblockR ?_) | (with_reducible refine vblockH ?_) | (with_reducible refine vrun_nil ?_) | (with_reducible refine vblockE rfl ?_) | (with_reducible refine vregion [] ?_) | (with_reducible refine vhrun_nil ?_) | ((with_reducible refine vcondT ?_ ?_); (focus (go_simp; done))) | ((with_reducible refine vcondF ?_ ?_); (focus (go_simp; done))) | ((with_reducible refine vrun_cons fun KK hKK => ?_); go_simp; (first | (with_reducible refine ⟨_, v96 l hl hd, ?_⟩) | (with_reducible refine ⟨_, v99 _ hk, ?_⟩) | (with_reducible refine ⟨_, v100 _, ?_⟩) | (refine ⟨_, v75 [_, _, _] rfl, ?_⟩) | (with_reducible refine ⟨_, v101 l _ _ hl, ?_⟩) | skip); refine hKK _ ?_; clear hKK KK) | ((with_reducible refine vhrun_cons fun KK hKK => ?_); go_simp; (first | (with_reducible refine ⟨_, v96 l hl hd, ?_⟩) | (with_reducible refine ⟨_, v99 _ hk, ?_⟩) | (with_reducible refine ⟨_, v100 _, ?_⟩) | (refine ⟨_, v75 [_, _, _] rfl, ?_⟩) | (with_reducible refine ⟨_, v101 l _ _ hl, ?_⟩) | skip); refine hKK _ ?_; clear hKK KK))
    go_simp
theorem v50 (l : List Rec) (kind : ByteArray) (date : Int) (hl : l.length ≤ 1000) (hd : Small l) (hk : kind.size ≤ 1000) : VC Try.prog 50 [recsA l, S kind, I date] (I (licErr l kind date)) := by
  have hn := nameErr_or kind
  generalize hR0 : licErr l kind date = R
  unfold licErr at hR0
  rw [hn] at hR0
  clear hn
  have HR := Lib.hid hR0
  clear hR0
  refine VC_of Try.func50 rfl (by kernel_rfl) (by kernel_rfl) rfl fun M0 w0 => ?_
  simp only [Try.ntmps50, Try.results50, enumA]
  by_cases h1 : (lics l).2 = 0
  · cases h2 : isName kind
    · repeat (first | (with_reducible refine vseq ?_) | (with_reducible refine vthenN ?_) | (with_reducible refine vthenE ?_) | (with_reducible refine vthenR ?_) | (with_reducible refine vret ?_) | (with_reducible refine vskip ?_) | (with_reducible refine vexit ?_) | (with_reducible refine vblock ?_) | (with_reducible refine vblockN ?_) | (with_reducible refine vblockR ?_) | (with_reducible refine vblockH ?_) | (with_reducible refine vrun_nil ?_) | (with_reducible refine vblockE rfl ?_) | (with_reducible refine vregion [] ?_) | (with_reducible refine vhrun_nil ?_) | ((with_reducible refine vcondT ?_ ?_); (focus (go_simp; done))) | ((with_reducible refine vcondF ?_ ?_); (focus (go_simp; done))) | ((with_reducible refine vrun_cons fun KK hKK => ?_); go_simp; (first | (with_reducible refine ⟨_, v47 l hl hd, ?_⟩) | (with_reducible refine ⟨_, v102 _ hk, ?_⟩) | skip); refine hKK _ ?_; clear hKK KK) | ((with_reducible refine vhrun_cons fun KK hKK => ?_); go_simp; (first | (with_reducible refine ⟨_, v47 l hl hd, ?_⟩) | (with_reducible refine ⟨_, v102 _ hk, ?_⟩) | skip); refine hKK _ ?_; clear hKK KK))
      have e := HR.out
      rw [h1, h2] at e
      clear h1 h2
      simp at e
      subst e
      go_simp
    · repeat (first | (with_reducible refine vseq ?_) | (with_reducible refine vthenN ?_) | (with_reducible refine vthenE ?_) | (with_reducible refine vthenR ?_) | (with_reducible refine vret ?_) | (with_reducible refine vskip ?_) | (with_reducible refine vexit ?_) | (with_reducible refine vblock ?_) | (with_reducible refine vblockN ?_) | (with_reducible refine vblockR ?_) | (with_reducible refine vblockH ?_) | (with_reducible refine vrun_nil ?_) | (with_reducible refine vblockE rfl ?_) | (with_reducible refine vregion [] ?_) | (with_reducible refine vhrun_nil ?_) | ((with_reducible refine vcondT ?_ ?_); (focus (go_simp; done))) | ((with_reducible refine vcondF ?_ ?_); (focus (go_simp; done))) | ((with_reducible refine vrun_cons fun KK hKK => ?_); go_simp; (first | (with_reducible refine ⟨_, v47 l hl hd, ?_⟩) | (with_reducible refine ⟨_, v102 _ hk, ?_⟩) | (with_reducible refine ⟨_, v103 _, ?_⟩) | skip); refine hKK _ ?_; clear hKK KK) | ((with_reducible refine vhrun_cons fun KK hKK => ?_); go_simp; (first | (with_reducible refine ⟨_, v47 l hl hd, ?_⟩) | (with_reducible refine ⟨_, v102 _ hk, ?_⟩) | (with_reducible refine ⟨_, v103 _, ?_⟩) | skip); refine hKK _ ?_; clear hKK KK))
      have e := HR.out
      rw [h1, h2] at e
      clear h1 h2
      simp at e
      subst e
      go_simp
  · repeat (first | (with_reducible refine vseq ?_) | (with_reducible refine vthenN ?_) | (with_reducible refine vthenE ?_) | (with_reducible refine vthenR ?_) | (with_reducible refine vret ?_) | (with_reducible refine vskip ?_) | (with_reducible refine vexit ?_) | (with_reducible refine vblock ?_) | (with_reducible refine vblockN ?_) | (with_reducible refine vblockR ?_) | (with_reducible refine vblockH ?_) | (with_reducible refine vrun_nil ?_) | (with_reducible refine vblockE rfl ?_) | (with_reducible refine vregion [] ?_) | (with_reducible refine vhrun_nil ?_) | ((with_reducible refine vcondT ?_ ?_); (focus (go_simp; done))) | ((with_reducible refine vcondF ?_ ?_); (focus (go_simp; done))) | ((with_reducible refine vrun_cons fun KK hKK => ?_); go_simp; (first | (with_reducible refine ⟨_, v47 l hl hd, ?_⟩) | (with_reducible refine ⟨_, v102 _ hk, ?_⟩) | skip); refine hKK _ ?_; clear hKK KK) | ((with_reducible refine vhrun_cons fun KK hKK => ?_); go_simp; (first | (with_reducible refine ⟨_, v47 l hl hd, ?_⟩) | (with_reducible refine ⟨_, v102 _ hk, ?_⟩) | skip); refine hKK _ ?_; clear hKK KK))
    have e := HR.out
    rw [if_pos h1] at e
    subst e
    go_simp

/-! ### Up to when -/
/-- From date c on, n dates at most: as far as p holds without a gap. -/
def runEnd (p : Int → Bool) : Nat → Int → Int
  | 0, c => c
  | n + 1, c => if p (c + 1) then runEnd p n (c + 1) else c
theorem runEnd_eq {p : Int → Bool} {c : Int} (hc : p (c + 1) = false) : ∀ (n : Nat) (d : Int), d ≤ c → c - d < n → (∀ x, d < x → x ≤ c → p x = true) → runEnd p n d = c
  | 0, d, h1, h2, _ => by omega
  | n + 1, d, h1, h2, h3 => by
    rw [runEnd]
    by_cases hd : d = c
    · subst hd
      rw [hc]
      rfl
    · rw [h3 (d + 1) (by omega) (by omega), if_pos rfl]
      exact runEnd_eq hc n (d + 1) (by omega) (by omega) fun x hx1 hx2 => h3 x (by omega) hx2
/-- Up to which date a licence holds from a date on; the date before, if none does. -/
def lapse (l : List Rec) (kind : ByteArray) (date : Int) : Int := runEnd (holdsP l kind) 100002 (date - 1)
/-- No gap from a date on to c. -/
def goodTo (l : List Rec) (kind : ByteArray) (date c : Int) : Prop := date - 1 ≤ c ∧ c ≤ 100000 ∧ ∀ x, date ≤ x → x ≤ c → holdsP l kind x = true
theorem goodTo.lapse {l : List Rec} {kind : ByteArray} {date c : Int} (h0 : 0 ≤ date) (h : goodTo l kind date c) (hc : holdsP l kind (c + 1) = false) : lapse l kind date = c :=
  runEnd_eq hc _ _ h.1 (by have := h.2.1; omega) fun x h1 h2 => h.2.2 x (by omega) h2
theorem holds_of {l : List Rec} {kind : ByteArray} {d : Int} {k : Nat} (hk : k < l.length) (h : l[k].driver = kind) (h1 : inR d l[k].lo l[k].hi = true) : holdsP l kind d = true := by
  unfold holdsP
  rw [anyP_iff]
  exact ⟨k, Nat.zero_le _, by omega, by rw [rat_get hk]; simp [hp, h, h1]⟩
theorem holds_not {l : List Rec} {kind : ByteArray} {d : Int} (h : ∀ j (hj : j < l.length), l[j].driver = kind → inR d l[j].lo l[j].hi = false) : holdsP l kind d = false := by
  cases hc : holdsP l kind d
  · rfl
  · unfold holdsP at hc
    rw [anyP_iff] at hc
    obtain ⟨j, _, hj, hp'⟩ := hc
    have hj' : j < l.length := by omega
    rw [rat_get hj'] at hp'
    simp only [hp, Bool.and_eq_true, decide_eq_true_eq] at hp'
    have := h j hj' hp'.1
    rw [hp'.2] at this
    cases this
/-- Right licences. -/
theorem lics_zero {l : List Rec} (h : (lics l).2 = 0) : l.length ≤ 20 ∧ ∀ k (hk : k < l.length), licE l[k] = 0 := by
  unfold lics checkL at h
  split at h
  · cases h
  · rename_i hlen
    refine ⟨by omega, fun k hk => ?_⟩
    have := firstErr_zero (E := fun k => licE (rat l k)) _ _ h k (Nat.zero_le _) (by omega)
    rwa [rat_get hk] at this
theorem lic_zero {r : Rec} (h : licE r = 0) : isName r.driver = true ∧ 0 ≤ r.lo ∧ r.lo ≤ r.hi ∧ r.hi ≤ 100000 := by
  unfold licE at h
  split at h
  · rename_i h1
    split at h
    · rename_i h2
      split at h
      · cases h
      · rename_i h3
        have e1 := h2.1
        have e2 := h2.2
        unfold dateErr unl at e1 e2
        split at e1
        · split at e2
          · rename_i d1 d2
            unfold isDate at d1 d2
            rw [inR_iff] at d1 d2
            exact ⟨h1, d1.1, by omega, d2.2⟩
          · cases e2
        · cases e1
    · cases h
  · cases h
/-- Nothing to the right of c: whoever holds at c ends there. -/
theorem ends_at {l : List Rec} {kind : ByteArray} {c : Int} (hc : holdsP l kind (c + 1) = false) {k : Nat} (hk : k < l.length) (h : l[k].driver = kind) (h1 : inR c l[k].lo l[k].hi = true) : l[k].hi = c := by
  rw [inR_iff] at h1
  by_cases h2 : l[k].hi = c
  · exact h2
  · have := holds_of (d := c + 1) hk h (inR_iff.2 ⟨by omega, by omega⟩)
    rw [hc] at this
    cases this
theorem goodTo.step {l : List Rec} {kind : ByteArray} {date c : Int} (h : goodTo l kind date c) (hz : ∀ k (hk : k < l.length), licE l[k] = 0) {k : Nat} (hk : k < l.length) (hd : l[k].driver = kind) (h1 : inR (c + 1) l[k].lo l[k].hi = true) : goodTo l kind date l[k].hi ∧ c < l[k].hi := by
  rw [inR_iff] at h1
  obtain ⟨_, h0, h2, h3⟩ := lic_zero (hz k hk)
  refine ⟨⟨by have := h.1; omega, h3, fun x hx1 hx2 => ?_⟩, by omega⟩
  by_cases hx : x ≤ c
  · exact h.2.2 x hx1 hx
  · exact holds_of hk hd (inR_iff.2 ⟨by omega, by omega⟩)
/-- One pass over the licences, from c0 on: the first k are done. -/
def passTo (l : List Rec) (kind : ByteArray) (date c0 c : Int) (k : Nat) : Prop := goodTo l kind date c ∧ c0 ≤ c ∧ (c = c0 → ∀ j (hj : j < l.length), j < k → l[j].driver = kind → inR (c0 + 1) l[j].lo l[j].hi = false)
theorem passTo.start {l : List Rec} {kind : ByteArray} {date c0 : Int} (h : goodTo l kind date c0) : passTo l kind date c0 c0 0 := ⟨h, by omega, fun _ j _ hj => by omega⟩
theorem passTo.hit {l : List Rec} {kind : ByteArray} {date c0 c : Int} {k : Nat} (h : passTo l kind date c0 c k) (hz : ∀ k (hk : k < l.length), licE l[k] = 0) (hk : k < l.length) (hd : l[k].driver = kind) (h1 : inR (c + 1) l[k].lo l[k].hi = true) : passTo l kind date c0 l[k].hi (k + 1) := by
  obtain ⟨h2, h3⟩ := h.1.step hz hk hd h1
  have := h.2.1
  exact ⟨h2, by omega, fun he => by omega⟩
theorem passTo.miss {l : List Rec} {kind : ByteArray} {date c0 c : Int} {k : Nat} (h : passTo l kind date c0 c k) (hk : k < l.length) (h1 : l[k].driver = kind → inR (c + 1) l[k].lo l[k].hi = false) : passTo l kind date c0 c (k + 1) := by
  refine ⟨h.1, h.2.1, fun he j hj hjk hd => ?_⟩
  subst he
  by_cases hj' : j = k
  · subst hj'
    exact h1 hd
  · exact h.2.2 rfl j hj (by omega) hd
theorem passTo.fin {l : List Rec} {kind : ByteArray} {date c0 c : Int} {k : Nat} (h : passTo l kind date c0 c k) (hk : l.length ≤ k) (hc : holdsP l kind (c0 + 1) = true) : goodTo l kind date c ∧ c0 < c := by
  refine ⟨h.1, ?_⟩
  by_cases he : c = c0
  · have := holds_not (l := l) (kind := kind) (d := c0 + 1) fun j hj hd => h.2.2 he j hj (by omega) hd
    rw [hc] at this
    cases this
  · have := h.2.1
    omega
theorem v52 (l : List Rec) (kind : ByteArray) (date : Int) (hl : l.length ≤ 1000) (hz : (lics l).2 = 0) (h0 : dateErr date = 0) : VC Try.prog 52 [recsA l, S kind, I date] (I (if lapse l kind date < date then -1 else lapse l kind date)) := by
  have hd : 0 ≤ date ∧ date ≤ 100000 := by
    unfold dateErr unl at h0
    split at h0
    · rename_i h
      unfold isDate at h
      rwa [inR_iff] at h
    · cases h0
  have HZ := Lib.hid (lics_zero hz).2
  clear hz h0
  generalize hR0 : lapse l kind date = R
  have HR := Lib.hid hR0
  clear hR0
  have hw0 := wrap_eq (x := date - 1) (by omega) (by omega)
  refine VC_of Try.func52 rfl (by kernel_rfl) (by kernel_rfl) rfl fun M0 w0 => ?_
  simp only [Try.ntmps52, Try.results52, enumA]
  repeat (first | (with_reducible refine vseq ?_) | (with_reducible refine vthenN ?_) | (with_reducible refine vthenE ?_) | (with_reducible refine vthenR ?_) | (with_reducible refine vret ?_) | (with_reducible refine vskip ?_) | (with_reducible refine vexit ?_) | (with_reducible refine vblock ?_) | (with_reducible refine vblockN ?_) | (with_reducible refine vblockR ?_) | (with_reducible refine vblockH ?_) | (with_reducible refine vrun_nil ?_) | (with_reducible refine vblockE rfl ?_) | (with_reducible refine vregion [] ?_) | (with_reducible refine vhrun_nil ?_) | ((with_reducible refine vcondT ?_ ?_); (focus (go_simp; done))) | ((with_reducible refine vcondF ?_ ?_); (focus (go_simp; done))) | ((with_reducible refine vrun_cons fun KK hKK => ?_); go_simp; refine hKK _ ?_; clear hKK KK) | ((with_reducible refine vhrun_cons fun KK hKK => ?_); go_simp; refine hKK _ ?_; clear hKK KK))
  refine vloop (α := Int) (fun c => ⟨[(0, recsA l), (1, S kind), (2, I date), (7, I c)], []⟩) (fun c => goodTo l kind date c) (fun c => (100001 - c).toNat) (date - 1) ⟨by omega, by omega, fun x h1 h2 => by omega⟩ (by go_simp) ?_
  rintro c hc K hR
  have hb1 := hc.1
  have hb2 := hc.2.1
  have HC := Lib.hid hc
  clear hc
  have hwc := wrap_eq (x := c + 1) (by omega) (by omega)
  cases h : holdsP l kind (c + 1)
  · have e := HC.out.lapse hd.1 h
    have HH := Lib.hid h
    have e2 := HR.out
    rw [e] at e2
    subst e2
    by_cases hlt : c < date
    · repeat (first | (with_reducible refine vseq ?_) | (with_reducible refine vthenN ?_) | (with_reducible refine vthenE ?_) | (with_reducible refine vthenR ?_) | (with_reducible refine vret ?_) | (with_reducible refine vskip ?_) | (with_reducible refine vexit ?_) | (with_reducible refine vblock ?_) | (with_reducible refine vblockN ?_) | (with_reducible refine vblockR ?_) | (with_reducible refine vblockH ?_) | (with_reducible refine vrun_nil ?_) | (with_reducible refine vblockE rfl ?_) | (with_reducible refine vregion [] ?_) | (with_reducible refine vhrun_nil ?_) | ((with_reducible refine vcondT ?_ ?_); (focus (go_simp; done))) | ((with_reducible refine vcondF ?_ ?_); (focus (go_simp; done))) | ((with_reducible refine vrun_cons fun KK hKK => ?_); go_simp; (first | (with_reducible refine ⟨_, v51 l _ _ hl, ?_⟩) | skip); refine hKK _ ?_; clear hKK KK) | ((with_reducible refine vhrun_cons fun KK hKK => ?_); go_simp; (first | (with_reducible refine ⟨_, v51 l _ _ hl, ?_⟩) | skip); refine hKK _ ?_; clear hKK KK))
      go_simp
    · repeat (first | (with_reducible refine vseq ?_) | (with_reducible refine vthenN ?_) | (with_reducible refine vthenE ?_) | (with_reducible refine vthenR ?_) | (with_reducible refine vret ?_) | (with_reducible refine vskip ?_) | (with_reducible refine vexit ?_) | (with_reducible refine vblock ?_) | (with_reducible refine vblockN ?_) | (with_reducible refine vblockR ?_) | (with_reducible refine vblockH ?_) | (with_reducible refine vrun_nil ?_) | (with_reducible refine vblockE rfl ?_) | (with_reducible refine vregion [] ?_) | (with_reducible refine vhrun_nil ?_) | ((with_reducible refine vcondT ?_ ?_); (focus (go_simp; done))) | ((with_reducible refine vcondF ?_ ?_); (focus (go_simp; done))) | ((with_reducible refine vrun_cons fun KK hKK => ?_); go_simp; (first | (with_reducible refine ⟨_, v51 l _ _ hl, ?_⟩) | skip); refine hKK _ ?_; clear hKK KK) | ((with_reducible refine vhrun_cons fun KK hKK => ?_); go_simp; (first | (with_reducible refine ⟨_, v51 l _ _ hl, ?_⟩) | skip); refine hKK _ ?_; clear hKK KK))
      go_simp
  · have HH := Lib.hid h
    repeat (first | (with_reducible refine vseq ?_) | (with_reducible refine vthenN ?_) | (with_reducible refine vthenE ?_) | (with_reducible refine vthenR ?_) | (with_reducible refine vret ?_) | (with_reducible refine vskip ?_) | (with_reducible refine vexit ?_) | (with_reducible refine vblock ?_) | (with_reducible refine vblockN ?_) | (with_reducible refine vblockR ?_) | (with_reducible refine vblockH ?_) | (with_reducible refine vrun_nil ?_) | (with_reducible refine vblockE rfl ?_) | (with_reducible refine vregion [] ?_) | (with_reducible refine vhrun_nil ?_) | ((with_reducible refine vcondT ?_ ?_); (focus (go_simp; done))) | ((with_reducible refine vcondF ?_ ?_); (focus (go_simp; done))) | ((with_reducible refine vrun_cons fun KK hKK => ?_); go_simp; (first | (with_reducible refine ⟨_, v51 l _ _ hl, ?_⟩) | skip); refine hKK _ ?_; clear hKK KK) | ((with_reducible refine vhrun_cons fun KK hKK => ?_); go_simp; (first | (with_reducible refine ⟨_, v51 l _ _ hl, ?_⟩) | skip); refine hKK _ ?_; clear hKK KK))
    clear h
    refine vloop (α := Nat × Int) (fun q => ⟨[(0, recsA l), (1, S kind), (2, I date), (7, I q.2), (8, I q.1)], []⟩) (fun q => q.1 ≤ l.length ∧ passTo l kind date c q.2 q.1) (fun q => l.length - q.1) (0, c) ⟨by simp, .start HC.out⟩ (by go_simp) ?_
    rintro ⟨k, c2⟩ ⟨hk, hp⟩ K2 hR2
    simp only at hk hp hR2 ⊢
    have hb3 := hp.1.1
    have hb4 := hp.1.2.1
    have HP := Lib.hid hp
    clear hp
    have hwc2 := wrap_eq (x := c2 + 1) (by omega) (by omega)
    by_cases hlt : k < l.length
    · have hw := wrap_eq (x := (k : Int) + 1) (by omega) (by omega)
      by_cases h1 : l[k].driver = kind
      · cases h2 : inR (c2 + 1) l[k].lo l[k].hi
        · repeat (first | (with_reducible refine vseq ?_) | (with_reducible refine vthenN ?_) | (with_reducible refine vthenE ?_) | (with_reducible refine vthenR ?_) | (with_reducible refine vret ?_) | (with_reducible refine vskip ?_) | (with_reducible refine vexit ?_) | (with_reducible refine vblock ?_) | (with_reducible refine vblockN ?_) | (with_reducible refine vblockR ?_) | (with_reducible refine vblockH ?_) | (with_reducible refine vrun_nil ?_) | (with_reducible refine vblockE rfl ?_) | (with_reducible refine vregion [] ?_) | (with_reducible refine vhrun_nil ?_) | ((with_reducible refine vcondT ?_ ?_); (focus (go_simp; done))) | ((with_reducible refine vcondF ?_ ?_); (focus (go_simp; done))) | ((with_reducible refine vrun_cons fun KK hKK => ?_); go_simp; refine hKK _ ?_; clear hKK KK) | ((with_reducible refine vhrun_cons fun KK hKK => ?_); go_simp; refine hKK _ ?_; clear hKK KK))
          refine vdraw 22 [] (by kernel_rfl) (by kernel_rfl) ?_
          simp only [List.take, List.drop]
          repeat (first | (with_reducible refine vseq ?_) | (with_reducible refine vthenN ?_) | (with_reducible refine vthenE ?_) | (with_reducible refine vthenR ?_) | (with_reducible refine vret ?_) | (with_reducible refine vskip ?_) | (with_reducible refine vexit ?_) | (with_reducible refine vblock ?_) | (with_reducible refine vblockN ?_) | (with_reducible refine vblockR ?_) | (with_reducible refine vblockH ?_) | (with_reducible refine vrun_nil ?_) | (with_reducible refine vblockE rfl ?_) | (with_reducible refine vregion [] ?_) | (with_reducible refine vhrun_nil ?_) | ((with_reducible refine vcondT ?_ ?_); (focus (go_simp; done))) | ((with_reducible refine vcondF ?_ ?_); (focus (go_simp; done))) | ((with_reducible refine vrun_cons fun KK hKK => ?_); go_simp; (first | (with_reducible refine ⟨_, v36 _ _ _, ?_⟩) | skip); refine hKK _ ?_; clear hKK KK) | ((with_reducible refine vhrun_cons fun KK hKK => ?_); go_simp; (first | (with_reducible refine ⟨_, v36 _ _ _, ?_⟩) | skip); refine hKK _ ?_; clear hKK KK))
          refine hR2 _ (k + 1, c2) ⟨hlt, HP.out.miss hlt fun _ => h2⟩ (by simp only; omega) ?_
          go_simp
        · repeat (first | (with_reducible refine vseq ?_) | (with_reducible refine vthenN ?_) | (with_reducible refine vthenE ?_) | (with_reducible refine vthenR ?_) | (with_reducible refine vret ?_) | (with_reducible refine vskip ?_) | (with_reducible refine vexit ?_) | (with_reducible refine vblock ?_) | (with_reducible refine vblockN ?_) | (with_reducible refine vblockR ?_) | (with_reducible refine vblockH ?_) | (with_reducible refine vrun_nil ?_) | (with_reducible refine vblockE rfl ?_) | (with_reducible refine vregion [] ?_) | (with_reducible refine vhrun_nil ?_) | ((with_reducible refine vcondT ?_ ?_); (focus (go_simp; done))) | ((with_reducible refine vcondF ?_ ?_); (focus (go_simp; done))) | ((with_reducible refine vrun_cons fun KK hKK => ?_); go_simp; refine hKK _ ?_; clear hKK KK) | ((with_reducible refine vhrun_cons fun KK hKK => ?_); go_simp; refine hKK _ ?_; clear hKK KK))
          refine vdraw 22 [] (by kernel_rfl) (by kernel_rfl) ?_
          simp only [List.take, List.drop]
          repeat (first | (with_reducible refine vseq ?_) | (with_reducible refine vthenN ?_) | (with_reducible refine vthenE ?_) | (with_reducible refine vthenR ?_) | (with_reducible refine vret ?_) | (with_reducible refine vskip ?_) | (with_reducible refine vexit ?_) | (with_reducible refine vblock ?_) | (with_reducible refine vblockN ?_) | (with_reducible refine vblockR ?_) | (with_reducible refine vblockH ?_) | (with_reducible refine vrun_nil ?_) | (with_reducible refine vblockE rfl ?_) | (with_reducible refine vregion [] ?_) | (with_reducible refine vhrun_nil ?_) | ((with_reducible refine vcondT ?_ ?_); (focus (go_simp; done))) | ((with_reducible refine vcondF ?_ ?_); (focus (go_simp; done))) | ((with_reducible refine vrun_cons fun KK hKK => ?_); go_simp; (first | (with_reducible refine ⟨_, v36 _ _ _, ?_⟩) | skip); refine hKK _ ?_; clear hKK KK) | ((with_reducible refine vhrun_cons fun KK hKK => ?_); go_simp; (first | (with_reducible refine ⟨_, v36 _ _ _, ?_⟩) | skip); refine hKK _ ?_; clear hKK KK))
          refine hR2 _ (k + 1, l[k].hi) ⟨hlt, HP.out.hit HZ.out hlt h1 h2⟩ (by simp only; omega) ?_
          go_simp
      · repeat (first | (with_reducible refine vseq ?_) | (with_reducible refine vthenN ?_) | (with_reducible refine vthenE ?_) | (with_reducible refine vthenR ?_) | (with_reducible refine vret ?_) | (with_reducible refine vskip ?_) | (with_reducible refine vexit ?_) | (with_reducible refine vblock ?_) | (with_reducible refine vblockN ?_) | (with_reducible refine vblockR ?_) | (with_reducible refine vblockH ?_) | (with_reducible refine vrun_nil ?_) | (with_reducible refine vblockE rfl ?_) | (with_reducible refine vregion [] ?_) | (with_reducible refine vhrun_nil ?_) | ((with_reducible refine vcondT ?_ ?_); (focus (go_simp; done))) | ((with_reducible refine vcondF ?_ ?_); (focus (go_simp; done))) | ((with_reducible refine vrun_cons fun KK hKK => ?_); go_simp; refine hKK _ ?_; clear hKK KK) | ((with_reducible refine vhrun_cons fun KK hKK => ?_); go_simp; refine hKK _ ?_; clear hKK KK))
        refine vdraw 22 [] (by kernel_rfl) (by kernel_rfl) ?_
        simp only [List.take, List.drop]
        repeat (first | (with_reducible refine vseq ?_) | (with_reducible refine vthenN ?_) | (with_reducible refine vthenE ?_) | (with_reducible refine vthenR ?_) | (with_reducible refine vret ?_) | (with_reducible refine vskip ?_) | (with_reducible refine vexit ?_) | (with_reducible refine vblock ?_) | (with_reducible refine vblockN ?_) | (with_reducible refine vblockR ?_) | (with_reducible refine vblockH ?_) | (with_reducible refine vrun_nil ?_) | (with_reducible refine vblockE rfl ?_) | (with_reducible refine vregion [] ?_) | (with_reducible refine vhrun_nil ?_) | ((with_reducible refine vcondT ?_ ?_); (focus (go_simp; done))) | ((with_reducible refine vcondF ?_ ?_); (focus (go_simp; done))) | ((with_reducible refine vrun_cons fun KK hKK => ?_); go_simp; (first | (with_reducible refine ⟨_, v36 _ _ _, ?_⟩) | skip); refine hKK _ ?_; clear hKK KK) | ((with_reducible refine vhrun_cons fun KK hKK => ?_); go_simp; (first | (with_reducible refine ⟨_, v36 _ _ _, ?_⟩) | skip); refine hKK _ ?_; clear hKK KK))
        refine hR2 _ (k + 1, c2) ⟨hlt, HP.out.miss hlt fun h => absurd h h1⟩ (by simp only; omega) ?_
        go_simp
    · repeat (first | (with_reducible refine vseq ?_) | (with_reducible refine vthenN ?_) | (with_reducible refine vthenE ?_) | (with_reducible refine vthenR ?_) | (with_reducible refine vret ?_) | (with_reducible refine vskip ?_) | (with_reducible refine vexit ?_) | (with_reducible refine vblock ?_) | (with_reducible refine vblockN ?_) | (with_reducible refine vblockR ?_) | (with_reducible refine vblockH ?_) | (with_reducible refine vrun_nil ?_) | (with_reducible refine vblockE rfl ?_) | (with_reducible refine vregion [] ?_) | (with_reducible refine vhrun_nil ?_) | ((with_reducible refine vcondT ?_ ?_); (focus (go_simp; done))) | ((with_reducible refine vcondF ?_ ?_); (focus (go_simp; done))) | ((with_reducible refine vrun_cons fun KK hKK => ?_); go_simp; refine hKK _ ?_; clear hKK KK) | ((with_reducible refine vhrun_cons fun KK hKK => ?_); go_simp; refine hKK _ ?_; clear hKK KK))
      have hf := HP.out.fin (by omega) HH.out
      refine hR _ c2 hf.1 (by have := hf.2; omega) ?_
      go_simp
theorem date_bounds {d : Int} (h0 : dateErr d = 0) : 0 ≤ d ∧ d ≤ 100000 := by
  unfold dateErr unl at h0
  split at h0
  · rename_i h
    unfold isDate at h
    rwa [inR_iff] at h
  · cases h0
theorem date_of {d : Int} (h0 : 0 ≤ d) (h1 : d ≤ 100000) : dateErr d = 0 := by
  unfold dateErr unl isDate
  rw [inR_iff.2 ⟨h0, h1⟩]
  rfl
theorem v49 (l : List Rec) (kind : ByteArray) (date : Int) (hl : l.length ≤ 1000) (hd : Small l) (hk : kind.size ≤ 1000) (hz : (lics l).2 = 0) (hn : nameErr kind = 0) (h0 : dateErr date = 0) (hh : holdsP l kind date = true) :
    VC Try.prog 49 [recsA l, S kind, I date] (.tup [I (lapse l kind date), I 0]) := by
  have hdb := date_bounds h0
  have HZ := Lib.hid (lics_zero hz).2
  generalize hR0 : lapse l kind date = R
  have HR := Lib.hid hR0
  clear hR0
  have HG : Hid (goodTo l kind date date) := Lib.hid ⟨by omega, hdb.2, fun x h1 h2 => by
    have : x = date := by omega
    subst this
    exact hh⟩
  refine VC_of Try.func49 rfl (by kernel_rfl) (by kernel_rfl) rfl fun M0 w0 => ?_
  simp only [Try.ntmps49, Try.results49, enumA]
  repeat (first | (with_reducible refine vseq ?_) | (with_reducible refine vthenN ?_) | (with_reducible refine vthenE ?_) | (with_reducible refine vthenR ?_) | (with_reducible refine vret ?_) | (with_reducible refine vskip ?_) | (with_reducible refine vexit ?_) | (with_reducible refine vblock ?_) | (with_reducible refine vblockN ?_) | (with_reducible refine vblockR ?_) | (with_reducible refine vblockH ?_) | (with_reducible refine vrun_nil ?_) | (with_reducible refine vblockE rfl ?_) | (with_reducible refine vregion [] ?_) | (with_reducible refine vhrun_nil ?_) | ((with_reducible refine vcondT ?_ ?_); (focus (go_simp; done))) | ((with_reducible refine vcondF ?_ ?_); (focus (go_simp; done))) | ((with_reducible refine vrun_cons fun KK hKK => ?_); go_simp; (first | (with_reducible refine ⟨_, v96 l hl hd, ?_⟩) | (with_reducible refine ⟨_, v99 _ hk, ?_⟩) | (with_reducible refine ⟨_, v100 _, ?_⟩) | (refine ⟨_, v75 [_, _, _] rfl, ?_⟩) | (with_reducible refine ⟨_, v101 l _ _ hl, ?_⟩) | skip); refine hKK _ ?_; clear hKK KK) | ((with_reducible refine vhrun_cons fun KK hKK => ?_); go_simp; (first | (with_reducible refine ⟨_, v96 l hl hd, ?_⟩) | (with_reducible refine ⟨_, v99 _ hk, ?_⟩) | (with_reducible refine ⟨_, v100 _, ?_⟩) | (refine ⟨_, v75 [_, _, _] rfl, ?_⟩) | (with_reducible refine ⟨_, v101 l _ _ hl, ?_⟩) | skip); refine hKK _ ?_; clear hKK KK))
  clear hz hn h0 hh
  refine vloop (α := Int) (fun c => ⟨[(8, recsA l), (1, S kind), (2, I c)], []⟩) (fun c => goodTo l kind date c) (fun c => (100001 - c).toNat) date HG.out (by go_simp) ?_
  rintro c hc K hR
  have hb1 := hc.1
  have hb2 := hc.2.1
  have HC := Lib.hid hc
  clear hc
  have hwc := wrap_eq (x := c + 1) (by omega) (by omega)
  cases h : holdsP l kind (c + 1)
  · have e := HC.out.lapse hdb.1 h
    have HH := Lib.hid h
    have e2 := HR.out
    rw [e] at e2
    subst e2
    clear e
    repeat (first | (with_reducible refine vseq ?_) | (with_reducible refine vthenN ?_) | (with_reducible refine vthenE ?_) | (with_reducible refine vthenR ?_) | (with_reducible refine vret ?_) | (with_reducible refine vskip ?_) | (with_reducible refine vexit ?_) | (with_reducible refine vblock ?_) | (with_reducible refine vblockN ?_) | (with_reducible refine vblockR ?_) | (with_reducible refine vblockH ?_) | (with_reducible refine vrun_nil ?_) | (with_reducible refine vblockE rfl ?_) | (with_reducible refine vregion [] ?_) | (with_reducible refine vhrun_nil ?_) | ((with_reducible refine vcondT ?_ ?_); (focus (go_simp; done))) | ((with_reducible refine vcondF ?_ ?_); (focus (go_simp; done))) | ((with_reducible refine vrun_cons fun KK hKK => ?_); go_simp; (first | (with_reducible refine ⟨_, v101 l _ _ hl, ?_⟩) | skip); refine hKK _ ?_; clear hKK KK) | ((with_reducible refine vhrun_cons fun KK hKK => ?_); go_simp; (first | (with_reducible refine ⟨_, v101 l _ _ hl, ?_⟩) | skip); refine hKK _ ?_; clear hKK KK))
    refine vloop (α := Nat) (fun k => ⟨[(63, I k), (62, I l.length), (61, recsA l), (1, S kind), (2, I c)], []⟩) (fun k => k ≤ l.length) (fun k => l.length - k) 0 (Nat.zero_le _) (by go_simp) ?_
    rintro k hk2 K2 hR2
    by_cases hlt : k < l.length
    · have hw := wrap_eq (x := (k : Int) + 1) (by omega) (by omega)
      by_cases h1 : l[k].driver = kind
      · cases h2 : inR c l[k].lo l[k].hi
        · repeat (first | (with_reducible refine vseq ?_) | (with_reducible refine vthenN ?_) | (with_reducible refine vthenE ?_) | (with_reducible refine vthenR ?_) | (with_reducible refine vret ?_) | (with_reducible refine vskip ?_) | (with_reducible refine vexit ?_) | (with_reducible refine vblock ?_) | (with_reducible refine vblockN ?_) | (with_reducible refine vblockR ?_) | (with_reducible refine vblockH ?_) | (with_reducible refine vrun_nil ?_) | (with_reducible refine vblockE rfl ?_) | (with_reducible refine vregion [] ?_) | (with_reducible refine vhrun_nil ?_) | ((with_reducible refine vcondT ?_ ?_); (focus (go_simp; done))) | ((with_reducible refine vcondF ?_ ?_); (focus (go_simp; done))) | ((with_reducible refine vrun_cons fun KK hKK => ?_); go_simp; (first | (with_reducible refine ⟨_, v106 _ _ _, ?_⟩) | skip); refine hKK _ ?_; clear hKK KK) | ((with_reducible refine vhrun_cons fun KK hKK => ?_); go_simp; (first | (with_reducible refine ⟨_, v106 _ _ _, ?_⟩) | skip); refine hKK _ ?_; clear hKK KK))
          refine hR2 _ (k + 1) hlt (by omega) ?_
          go_simp
        · have hends := Lib.hid (ends_at HH.out hlt h1 h2)
          repeat (first | (with_reducible refine vseq ?_) | (with_reducible refine vthenN ?_) | (with_reducible refine vthenE ?_) | (with_reducible refine vthenR ?_) | (with_reducible refine vret ?_) | (with_reducible refine vskip ?_) | (with_reducible refine vexit ?_) | (with_reducible refine vblock ?_) | (with_reducible refine vblockN ?_) | (with_reducible refine vblockR ?_) | (with_reducible refine vblockH ?_) | (with_reducible refine vrun_nil ?_) | (with_reducible refine vblockE rfl ?_) | (with_reducible refine vregion [] ?_) | (with_reducible refine vhrun_nil ?_) | ((with_reducible refine vcondT ?_ ?_); (focus (go_simp; done))) | ((with_reducible refine vcondF ?_ ?_); (focus (go_simp; done))) | ((with_reducible refine vrun_cons fun KK hKK => ?_); go_simp; (first | (with_reducible refine ⟨_, v106 _ _ _, ?_⟩) | skip); refine hKK _ ?_; clear hKK KK) | ((with_reducible refine vhrun_cons fun KK hKK => ?_); go_simp; (first | (with_reducible refine ⟨_, v106 _ _ _, ?_⟩) | skip); refine hKK _ ?_; clear hKK KK))
          refine hR2 _ (k + 1) hlt (by omega) ?_
          have he := hends.out
          go_simp
      · repeat (first | (with_reducible refine vseq ?_) | (with_reducible refine vthenN ?_) | (with_reducible refine vthenE ?_) | (with_reducible refine vthenR ?_) | (with_reducible refine vret ?_) | (with_reducible refine vskip ?_) | (with_reducible refine vexit ?_) | (with_reducible refine vblock ?_) | (with_reducible refine vblockN ?_) | (with_reducible refine vblockR ?_) | (with_reducible refine vblockH ?_) | (with_reducible refine vrun_nil ?_) | (with_reducible refine vblockE rfl ?_) | (with_reducible refine vregion [] ?_) | (with_reducible refine vhrun_nil ?_) | ((with_reducible refine vcondT ?_ ?_); (focus (go_simp; done))) | ((with_reducible refine vcondF ?_ ?_); (focus (go_simp; done))) | ((with_reducible refine vrun_cons fun KK hKK => ?_); go_simp; (first | (with_reducible refine ⟨_, v106 _ _ _, ?_⟩) | skip); refine hKK _ ?_; clear hKK KK) | ((with_reducible refine vhrun_cons fun KK hKK => ?_); go_simp; (first | (with_reducible refine ⟨_, v106 _ _ _, ?_⟩) | skip); refine hKK _ ?_; clear hKK KK))
        refine hR2 _ (k + 1) hlt (by omega) ?_
        go_simp
    · repeat (first | (with_reducible refine vseq ?_) | (with_reducible refine vthenN ?_) | (with_reducible refine vthenE ?_) | (with_reducible refine vthenR ?_) | (with_reducible refine vret ?_) | (with_reducible refine vskip ?_) | (with_reducible refine vexit ?_) | (with_reducible refine vblock ?_) | (with_reducible refine vblockN ?_) | (with_reducible refine vblockR ?_) | (with_reducible refine vblockH ?_) | (with_reducible refine vrun_nil ?_) | (with_reducible refine vblockE rfl ?_) | (with_reducible refine vregion [] ?_) | (with_reducible refine vhrun_nil ?_) | ((with_reducible refine vcondT ?_ ?_); (focus (go_simp; done))) | ((with_reducible refine vcondF ?_ ?_); (focus (go_simp; done))) | ((with_reducible refine vrun_cons fun KK hKK => ?_); go_simp; refine hKK _ ?_; clear hKK KK) | ((with_reducible refine vhrun_cons fun KK hKK => ?_); go_simp; refine hKK _ ?_; clear hKK KK))
      go_simp
  · have HH := Lib.hid h
    repeat (first | (with_reducible refine vseq ?_) | (with_reducible refine vthenN ?_) | (with_reducible refine vthenE ?_) | (with_reducible refine vthenR ?_) | (with_reducible refine vret ?_) | (with_reducible refine vskip ?_) | (with_reducible refine vexit ?_) | (with_reducible refine vblock ?_) | (with_reducible refine vblockN ?_) | (with_reducible refine vblockR ?_) | (with_reducible refine vblockH ?_) | (with_reducible refine vrun_nil ?_) | (with_reducible refine vblockE rfl ?_) | (with_reducible refine vregion [] ?_) | (with_reducible refine vhrun_nil ?_) | ((with_reducible refine vcondT ?_ ?_); (focus (go_simp; done))) | ((with_reducible refine vcondF ?_ ?_); (focus (go_simp; done))) | ((with_reducible refine vrun_cons fun KK hKK => ?_); go_simp; (first | (with_reducible refine ⟨_, v101 l _ _ hl, ?_⟩) | skip); refine hKK _ ?_; clear hKK KK) | ((with_reducible refine vhrun_cons fun KK hKK => ?_); go_simp; (first | (with_reducible refine ⟨_, v101 l _ _ hl, ?_⟩) | skip); refine hKK _ ?_; clear hKK KK))
    clear h
    refine vloop (α := Nat × Int) (fun q => ⟨[(39, recsA l), (40, I l.length), (8, recsA l), (1, S kind), (2, I q.2), (41, I q.1)], []⟩) (fun q => q.1 ≤ l.length ∧ passTo l kind date c q.2 q.1) (fun q => l.length - q.1) (0, c) ⟨by simp, .start HC.out⟩ (by go_simp) ?_
    rintro ⟨k, c2⟩ ⟨hk2, hp⟩ K2 hR2
    simp only at hk2 hp hR2 ⊢
    have hb3 := hp.1.1
    have hb4 := hp.1.2.1
    have HP := Lib.hid hp
    clear hp
    have hwc2 := wrap_eq (x := c2 + 1) (by omega) (by omega)
    by_cases hlt : k < l.length
    · have hw := wrap_eq (x := (k : Int) + 1) (by omega) (by omega)
      by_cases h1 : l[k].driver = kind
      · cases h2 : inR (c2 + 1) l[k].lo l[k].hi
        · repeat (first | (with_reducible refine vseq ?_) | (with_reducible refine vthenN ?_) | (with_reducible refine vthenE ?_) | (with_reducible refine vthenR ?_) | (with_reducible refine vret ?_) | (with_reducible refine vskip ?_) | (with_reducible refine vexit ?_) | (with_reducible refine vblock ?_) | (with_reducible refine vblockN ?_) | (with_reducible refine vblockR ?_) | (with_reducible refine vblockH ?_) | (with_reducible refine vrun_nil ?_) | (with_reducible refine vblockE rfl ?_) | (with_reducible refine vregion [] ?_) | (with_reducible refine vhrun_nil ?_) | ((with_reducible refine vcondT ?_ ?_); (focus (go_simp; done))) | ((with_reducible refine vcondF ?_ ?_); (focus (go_simp; done))) | ((with_reducible refine vrun_cons fun KK hKK => ?_); go_simp; (first | (with_reducible refine ⟨_, v106 _ _ _, ?_⟩) | skip); refine hKK _ ?_; clear hKK KK) | ((with_reducible refine vhrun_cons fun KK hKK => ?_); go_simp; (first | (with_reducible refine ⟨_, v106 _ _ _, ?_⟩) | skip); refine hKK _ ?_; clear hKK KK))
          refine hR2 _ (k + 1, c2) ⟨hlt, HP.out.miss hlt fun _ => h2⟩ (by simp only; omega) ?_
          go_simp
        · repeat (first | (with_reducible refine vseq ?_) | (with_reducible refine vthenN ?_) | (with_reducible refine vthenE ?_) | (with_reducible refine vthenR ?_) | (with_reducible refine vret ?_) | (with_reducible refine vskip ?_) | (with_reducible refine vexit ?_) | (with_reducible refine vblock ?_) | (with_reducible refine vblockN ?_) | (with_reducible refine vblockR ?_) | (with_reducible refine vblockH ?_) | (with_reducible refine vrun_nil ?_) | (with_reducible refine vblockE rfl ?_) | (with_reducible refine vregion [] ?_) | (with_reducible refine vhrun_nil ?_) | ((with_reducible refine vcondT ?_ ?_); (focus (go_simp; done))) | ((with_reducible refine vcondF ?_ ?_); (focus (go_simp; done))) | ((with_reducible refine vrun_cons fun KK hKK => ?_); go_simp; (first | (with_reducible refine ⟨_, v106 _ _ _, ?_⟩) | skip); refine hKK _ ?_; clear hKK KK) | ((with_reducible refine vhrun_cons fun KK hKK => ?_); go_simp; (first | (with_reducible refine ⟨_, v106 _ _ _, ?_⟩) | skip); refine hKK _ ?_; clear hKK KK))
          refine hR2 _ (k + 1, l[k].hi) ⟨hlt, HP.out.hit HZ.out hlt h1 h2⟩ (by simp only; omega) ?_
          go_simp
      · repeat (first | (with_reducible refine vseq ?_) | (with_reducible refine vthenN ?_) | (with_reducible refine vthenE ?_) | (with_reducible refine vthenR ?_) | (with_reducible refine vret ?_) | (with_reducible refine vskip ?_) | (with_reducible refine vexit ?_) | (with_reducible refine vblock ?_) | (with_reducible refine vblockN ?_) | (with_reducible refine vblockR ?_) | (with_reducible refine vblockH ?_) | (with_reducible refine vrun_nil ?_) | (with_reducible refine vblockE rfl ?_) | (with_reducible refine vregion [] ?_) | (with_reducible refine vhrun_nil ?_) | ((with_reducible refine vcondT ?_ ?_); (focus (go_simp; done))) | ((with_reducible refine vcondF ?_ ?_); (focus (go_simp; done))) | ((with_reducible refine vrun_cons fun KK hKK => ?_); go_simp; (first | (with_reducible refine ⟨_, v106 _ _ _, ?_⟩) | skip); refine hKK _ ?_; clear hKK KK) | ((with_reducible refine vhrun_cons fun KK hKK => ?_); go_simp; (first | (with_reducible refine ⟨_, v106 _ _ _, ?_⟩) | skip); refine hKK _ ?_; clear hKK KK))
        refine hR2 _ (k + 1, c2) ⟨hlt, HP.out.miss hlt fun h => absurd h h1⟩ (by simp only; omega) ?_
        go_simp
    · repeat (first | (with_reducible refine vseq ?_) | (with_reducible refine vthenN ?_) | (with_reducible refine vthenE ?_) | (with_reducible refine vthenR ?_) | (with_reducible refine vret ?_) | (with_reducible refine vskip ?_) | (with_reducible refine vexit ?_) | (with_reducible refine vblock ?_) | (with_reducible refine vblockN ?_) | (with_reducible refine vblockR ?_) | (with_reducible refine vblockH ?_) | (with_reducible refine vrun_nil ?_) | (with_reducible refine vblockE rfl ?_) | (with_reducible refine vregion [] ?_) | (with_reducible refine vhrun_nil ?_) | ((with_reducible refine vcondT ?_ ?_); (focus (go_simp; done))) | ((with_reducible refine vcondF ?_ ?_); (focus (go_simp; done))) | ((with_reducible refine vrun_cons fun KK hKK => ?_); go_simp; refine hKK _ ?_; clear hKK KK) | ((with_reducible refine vhrun_cons fun KK hKK => ?_); go_simp; refine hKK _ ?_; clear hKK KK))
      have hf := HP.out.fin (by omega) HH.out
      refine hR _ c2 hf.1 (by have := hf.2; omega) ?_
      go_simp
theorem v49e (l : List Rec) (kind : ByteArray) (date : Int) (hl : l.length ≤ 1000) (hd : Small l) (hk : kind.size ≤ 1000) (he : licErr l kind date ≠ 0) :
    VC Try.prog 49 [recsA l, S kind, I date] (.tup [I 0, I (licErr l kind date)]) := by
  revert he
  unfold licErr
  intro he
  refine VC_of Try.func49 rfl (by kernel_rfl) (by kernel_rfl) rfl fun M0 w0 => ?_
  simp only [Try.ntmps49, Try.results49, enumA]
  by_cases h1 : (lics l).2 = 0
  · by_cases h2 : nameErr kind = 0
    · by_cases h3 : dateErr date = 0
      · rw [h1, h2, h3] at he
        simp at he
      · clear he
        repeat (first | (with_reducible refine vseq ?_) | (with_reducible refine vthenN ?_) | (with_reducible refine vthenE ?_) | (with_reducible refine vthenR ?_) | (with_reducible refine vret ?_) | (with_reducible refine vskip ?_) | (with_reducible refine vexit ?_) | (with_reducible refine vblock ?_) | (with_reducible refine vblockN ?_) | (with_reducible refine vblockR ?_) | (with_reducible refine vblockH ?_) | (with_reducible refine vrun_nil ?_) | (with_reducible refine vblockE rfl ?_) | (with_reducible refine vregion [] ?_) | (with_reducible refine vhrun_nil ?_) | ((with_reducible refine vcondT ?_ ?_); (focus (go_simp; done))) | ((with_reducible refine vcondF ?_ ?_); (focus (go_simp; done))) | ((with_reducible refine vrun_cons fun KK hKK => ?_); go_simp; (first | (with_reducible refine ⟨_, v96 l hl hd, ?_⟩) | (with_reducible refine ⟨_, v99 _ hk, ?_⟩) | (with_reducible refine ⟨_, v100 _, ?_⟩) | (refine ⟨_, v75 [_, _, _] rfl, ?_⟩) | (with_reducible refine ⟨_, v101 l _ _ hl, ?_⟩) | skip); refine hKK _ ?_; clear hKK KK) | ((with_reducible refine vhrun_cons fun KK hKK => ?_); go_simp; (first | (with_reducible refine ⟨_, v96 l hl hd, ?_⟩) | (with_reducible refine ⟨_, v99 _ hk, ?_⟩) | (with_reducible refine ⟨_, v100 _, ?_⟩) | (refine ⟨_, v75 [_, _, _] rfl, ?_⟩) | (with_reducible refine ⟨_, v101 l _ _ hl, ?_⟩) | skip); refine hKK _ ?_; clear hKK KK))
        go_simp
    · clear he
      repeat (first | (with_reducible refine vseq ?_) | (with_reducible refine vthenN ?_) | (with_reducible refine vthenE ?_) | (with_reducible refine vthenR ?_) | (with_reducible refine vret ?_) | (with_reducible refine vskip ?_) | (with_reducible refine vexit ?_) | (with_reducible refine vblock ?_) | (with_reducible refine vblockN ?_) | (with_reducible refine vblockR ?_) | (with_reducible refine vblockH ?_) | (with_reducible refine vrun_nil ?_) | (with_reducible refine vblockE rfl ?_) | (with_reducible refine vregion [] ?_) | (with_reducible refine vhrun_nil ?_) | ((with_reducible refine vcondT ?_ ?_); (focus (go_simp; done))) | ((with_reducible refine vcondF ?_ ?_); (focus (go_simp; done))) | ((with_reducible refine vrun_cons fun KK hKK => ?_); go_simp; (first | (with_reducible refine ⟨_, v96 l hl hd, ?_⟩) | (with_reducible refine ⟨_, v99 _ hk, ?_⟩) | (with_reducible refine ⟨_, v100 _, ?_⟩) | (refine ⟨_, v75 [_, _, _] rfl, ?_⟩) | (with_reducible refine ⟨_, v101 l _ _ hl, ?_⟩) | skip); refine hKK _ ?_; clear hKK KK) | ((with_reducible refine vhrun_cons fun KK hKK => ?_); go_simp; (first | (with_reducible refine ⟨_, v96 l hl hd, ?_⟩) | (with_reducible refine ⟨_, v99 _ hk, ?_⟩) | (with_reducible refine ⟨_, v100 _, ?_⟩) | (refine ⟨_, v75 [_, _, _] rfl, ?_⟩) | (with_reducible refine ⟨_, v101 l _ _ hl, ?_⟩) | skip); refine hKK _ ?_; clear hKK KK))
      go_simp
  · clear he
    repeat (first | (with_reducible refine vseq ?_) | (with_reducible refine vthenN ?_) | (with_reducible refine vthenE ?_) | (with_reducible refine vthenR ?_) | (with_reducible refine vret ?_) | (with_reducible refine vskip ?_) | (with_reducible refine vexit ?_) | (with_reducible refine vblock ?_) | (with_reducible refine vblockN ?_) | (with_reducible refine vblockR ?_) | (with_reducible refine vblockH ?_) | (with_reducible refine vrun_nil ?_) | (with_reducible refine vblockE rfl ?_) | (with_reducible refine vregion [] ?_) | (with_reducible refine vhrun_nil ?_) | ((with_reducible refine vcondT ?_ ?_); (focus (go_simp; done))) | ((with_reducible refine vcondF ?_ ?_); (focus (go_simp; done))) | ((with_reducible refine vrun_cons fun KK hKK => ?_); go_simp; (first | (with_reducible refine ⟨_, v96 l hl hd, ?_⟩) | (with_reducible refine ⟨_, v99 _ hk, ?_⟩) | (with_reducible refine ⟨_, v100 _, ?_⟩) | (refine ⟨_, v75 [_, _, _] rfl, ?_⟩) | (with_reducible refine ⟨_, v101 l _ _ hl, ?_⟩) | skip); refine hKK _ ?_; clear hKK KK) | ((with_reducible refine vhrun_cons fun KK hKK => ?_); go_simp; (first | (with_reducible refine ⟨_, v96 l hl hd, ?_⟩) | (with_reducible refine ⟨_, v99 _ hk, ?_⟩) | (with_reducible refine ⟨_, v100 _, ?_⟩) | (refine ⟨_, v75 [_, _, _] rfl, ?_⟩) | (with_reducible refine ⟨_, v101 l _ _ hl, ?_⟩) | skip); refine hKK _ ?_; clear hKK KK))
    go_simp
theorem v49n (l : List Rec) (kind : ByteArray) (date : Int) (hl : l.length ≤ 1000) (hd : Small l) (hk : kind.size ≤ 1000) (hz : (lics l).2 = 0) (hn : nameErr kind = 0) (h0 : dateErr date = 0) (hh : holdsP l kind date = false) :
    VC Try.prog 49 [recsA l, S kind, I date] (.tup [I 0, I 12]) := by
  refine VC_of Try.func49 rfl (by kernel_rfl) (by kernel_rfl) rfl fun M0 w0 => ?_
  simp only [Try.ntmps49, Try.results49, enumA]
  repeat (first | (with_reducible refine vseq ?_) | (with_reducible refine vthenN ?_) | (with_reducible refine vthenE ?_) | (with_reducible refine vthenR ?_) | (with_reducible refine vret ?_) | (with_reducible refine vskip ?_) | (with_reducible refine vexit ?_) | (with_reducible refine vblock ?_) | (with_reducible refine vblockN ?_) | (with_reducible refine vblockR ?_) | (with_reducible refine vblockH ?_) | (with_reducible refine vrun_nil ?_) | (with_reducible refine vblockE rfl ?_) | (with_reducible refine vregion [] ?_) | (with_reducible refine vhrun_nil ?_) | ((with_reducible refine vcondT ?_ ?_); (focus (go_simp; done))) | ((with_reducible refine vcondF ?_ ?_); (focus (go_simp; done))) | ((with_reducible refine vrun_cons fun KK hKK => ?_); go_simp; (first | (with_reducible refine ⟨_, v96 l hl hd, ?_⟩) | (with_reducible refine ⟨_, v99 _ hk, ?_⟩) | (with_reducible refine ⟨_, v100 _, ?_⟩) | (refine ⟨_, v75 [_, _, _] rfl, ?_⟩) | (with_reducible refine ⟨_, v101 l _ _ hl, ?_⟩) | skip); refine hKK _ ?_; clear hKK KK) | ((with_reducible refine vhrun_cons fun KK hKK => ?_); go_simp; (first | (with_reducible refine ⟨_, v96 l hl hd, ?_⟩) | (with_reducible refine ⟨_, v99 _ hk, ?_⟩) | (with_reducible refine ⟨_, v100 _, ?_⟩) | (refine ⟨_, v75 [_, _, _] rfl, ?_⟩) | (with_reducible refine ⟨_, v101 l _ _ hl, ?_⟩) | skip); refine hKK _ ?_; clear hKK KK))
  go_simp

theorem runEnd_spec {p : Int → Bool} (hp : ∀ x, p x = true → x ≤ 100000) : ∀ (n : Nat) (d : Int), 100000 - d < n → d ≤ runEnd p n d ∧ p (runEnd p n d + 1) = false ∧ (runEnd p n d = d ∨ runEnd p n d ≤ 100000)
  | 0, d, h => by
    refine ⟨Int.le_refl _, ?_, .inl rfl⟩
    cases hc : p (runEnd p 0 d + 1)
    · rfl
    · have := hp _ hc
      simp only [runEnd] at this
      omega
  | n + 1, d, h => by
    rw [runEnd]
    by_cases hc : p (d + 1) = true
    · rw [if_pos hc]
      have := hp _ hc
      obtain ⟨h1, h2, h3⟩ := runEnd_spec hp n (d + 1) (by omega)
      exact ⟨by omega, h2, .inr (by omega)⟩
    · rw [if_neg hc]
      exact ⟨Int.le_refl _, by simpa using hc, .inl rfl⟩
theorem holds_bound {l : List Rec} {kind : ByteArray} (hz : ∀ k (hk : k < l.length), licE l[k] = 0) (x : Int) (h : holdsP l kind x = true) : x ≤ 100000 := by
  unfold holdsP at h
  rw [anyP_iff] at h
  obtain ⟨j, _, hj, hp'⟩ := h
  have hj' : j < l.length := by omega
  rw [rat_get hj'] at hp'
  simp only [hp, Bool.and_eq_true] at hp'
  have h1 := inR_iff.1 hp'.2
  have := (lic_zero (hz j hj')).2.2.2
  omega
theorem lapse_none {l : List Rec} {kind : ByteArray} {date : Int} (h : holdsP l kind date = false) : lapse l kind date = date - 1 := by
  refine runEnd_eq (by rw [show date - 1 + 1 = date by omega]; exact h) _ _ (Int.le_refl _) (by omega) fun x h1 h2 => by omega
theorem lapse_some {l : List Rec} {kind : ByteArray} {date : Int} (hz : ∀ k (hk : k < l.length), licE l[k] = 0) (h0 : 0 ≤ date) (h : holdsP l kind date = true) : date ≤ lapse l kind date ∧ lapse l kind date ≤ 100000 ∧ holdsP l kind (lapse l kind date + 1) = false := by
  have hb := holds_bound hz (kind := kind)
  obtain ⟨h1, h2, h3⟩ := runEnd_spec hb 100002 (date - 1) (by omega)
  have hne : runEnd (holdsP l kind) 100002 (date - 1) ≠ date - 1 := fun he => by
    rw [he, show date - 1 + 1 = date by omega, h] at h2
    cases h2
  unfold lapse
  exact ⟨by omega, by omega, h2⟩
theorem licErr_zero {l : List Rec} {kind : ByteArray} {date : Int} (h : licErr l kind date = 0) : (lics l).2 = 0 ∧ nameErr kind = 0 ∧ dateErr date = 0 := by
  unfold licErr at h
  by_cases h1 : (lics l).2 = 0
  · rw [if_neg (by simpa using h1)] at h
    by_cases h2 : nameErr kind = 0
    · rw [if_neg (by simpa using h2)] at h
      exact ⟨h1, h2, h⟩
    · rw [if_pos h2] at h
      exact absurd h h2
  · rw [if_pos h1] at h
    exact absurd h h1
theorem licErr_of {l : List Rec} {kind : ByteArray} {date : Int} (h1 : (lics l).2 = 0) (h2 : nameErr kind = 0) (h3 : dateErr date = 0) : licErr l kind date = 0 := by
  unfold licErr
  rw [h1, h2, h3]
  rfl
theorem v11 (l : List Rec) (kind : ByteArray) (date : Int) (hl : l.length ≤ 9223372036854775807) (hd : ∀ x ∈ l, x.driver.size ≤ 9223372036854775807) :
    VC Try.prog 11 [recsA l, S kind, I date] (B true) := by
  refine VC_of Try.func11 rfl (by kernel_rfl) (by kernel_rfl) rfl fun M0 w0 => ?_
  simp only [Try.ntmps11, Try.results11, enumA]
  cases hfew : fewL l
  · repeat (first | (with_reducible refine vseq ?_) | (with_reducible refine vthenN ?_) | (with_reducible refine vthenE ?_) | (with_reducible refine vthenR ?_) | (with_reducible refine vret ?_) | (with_reducible refine vskip ?_) | (with_reducible refine vexit ?_) | (with_reducible refine vblock ?_) | (with_reducible refine vblockN ?_) | (with_reducible refine vblockR ?_) | (with_reducible refine vblockH ?_) | (with_reducible refine vrun_nil ?_) | (with_reducible refine vblockE rfl ?_) | (with_reducible refine vregion [] ?_) | (with_reducible refine vhrun_nil ?_) | ((with_reducible refine vcondT ?_ ?_); (focus (go_simp; done))) | ((with_reducible refine vcondF ?_ ?_); (focus (go_simp; done))) | ((with_reducible refine vrun_cons fun KK hKK => ?_); go_simp; (first | (with_reducible refine ⟨_, v17, ?_⟩) | (with_reducible refine ⟨_, v40 l hl hd, ?_⟩) | skip); refine hKK _ ?_; clear hKK KK) | ((with_reducible refine vhrun_cons fun KK hKK => ?_); go_simp; (first | (with_reducible refine ⟨_, v17, ?_⟩) | (with_reducible refine ⟨_, v40 l hl hd, ?_⟩) | skip); refine hKK _ ?_; clear hKK KK))
    go_simp
  · obtain ⟨hl3, hsm⟩ := fewL_true hfew
    have HS := Lib.hid hsm
    clear hsm
    by_cases hlen : (20 : Int) < kind.size
    · repeat (first | (with_reducible refine vseq ?_) | (with_reducible refine vthenN ?_) | (with_reducible refine vthenE ?_) | (with_reducible refine vthenR ?_) | (with_reducible refine vret ?_) | (with_reducible refine vskip ?_) | (with_reducible refine vexit ?_) | (with_reducible refine vblock ?_) | (with_reducible refine vblockN ?_) | (with_reducible refine vblockR ?_) | (with_reducible refine vblockH ?_) | (with_reducible refine vrun_nil ?_) | (with_reducible refine vblockE rfl ?_) | (with_reducible refine vregion [] ?_) | (with_reducible refine vhrun_nil ?_) | ((with_reducible refine vcondT ?_ ?_); (focus (go_simp; done))) | ((with_reducible refine vcondF ?_ ?_); (focus (go_simp; done))) | ((with_reducible refine vrun_cons fun KK hKK => ?_); go_simp; (first | (with_reducible refine ⟨_, v17, ?_⟩) | (with_reducible refine ⟨_, v40 l hl hd, ?_⟩) | skip); refine hKK _ ?_; clear hKK KK) | ((with_reducible refine vhrun_cons fun KK hKK => ?_); go_simp; (first | (with_reducible refine ⟨_, v17, ?_⟩) | (with_reducible refine ⟨_, v40 l hl hd, ?_⟩) | skip); refine hKK _ ?_; clear hKK KK))
      go_simp
    · have hk : kind.size ≤ 1000 := by omega
      have h48 := Lib.hid (v48 l kind date (by omega) HS.out hk)
      have h50 := Lib.hid (v50 l kind date (by omega) HS.out hk)
      by_cases hE : licErr l kind date = 0
      · obtain ⟨e1, e2, e3⟩ := licErr_zero hE
        have HB := Lib.hid (date_bounds e3)
        have h48' := h48.out
        have h50' := h50.out
        rw [hE] at h48' h50'
        simp only [ne_eq, not_true_eq_false, if_false] at h48'
        have K48 := Lib.hid h48'
        have K50 := Lib.hid h50'
        clear h48 h50 h48' h50' hE
        have HZ := Lib.hid (lics_zero e1).2
        have h52 := v52 l kind date (by omega) e1 e3
        have E1 := Lib.hid e1
        have E2 := Lib.hid e2
        have E3 := Lib.hid e3
        clear e1 e2 e3
        cases hh : holdsP l kind date
        · rw [lapse_none hh, if_pos (by omega)] at h52
          have h49 := v49n l kind date (by omega) HS.out hk E1.out E2.out E3.out hh
          have K49 := Lib.hid h49
          have K52 := Lib.hid h52
          have h51 := Lib.hid (v51 l kind date (by omega))
          have K48' := K48.out
          rw [hh] at K48'
          have L48 := Lib.hid K48'
          clear h49 h52 K48 K48'
          repeat (first | (with_reducible refine vseq ?_) | (with_reducible refine vthenN ?_) | (with_reducible refine vthenE ?_) | (with_reducible refine vthenR ?_) | (with_reducible refine vret ?_) | (with_reducible refine vskip ?_) | (with_reducible refine vexit ?_) | (with_reducible refine vblock ?_) | (with_reducible refine vblockN ?_) | (with_reducible refine vblockR ?_) | (with_reducible refine vblockH ?_) | (with_reducible refine vrun_nil ?_) | (with_reducible refine vblockE rfl ?_) | (with_reducible refine vregion [] ?_) | (with_reducible refine vhrun_nil ?_) | ((with_reducible refine vcondT ?_ ?_); (focus (go_simp; done))) | ((with_reducible refine vcondF ?_ ?_); (focus (go_simp; done))) | ((with_reducible refine vrun_cons fun KK hKK => ?_); go_simp; (first | (with_reducible refine ⟨_, v17, ?_⟩) | (with_reducible refine ⟨_, v40 l hl hd, ?_⟩) | (refine ⟨_, VC_of_own (o42 l (by omega)), ?_⟩) | (with_reducible refine ⟨_, v46 l (by omega) HS.out, ?_⟩) | (with_reducible refine ⟨_, v47 l (by omega) HS.out, ?_⟩) | (with_reducible refine ⟨_, L48.out, ?_⟩) | (with_reducible refine ⟨_, K49.out, ?_⟩) | (with_reducible refine ⟨_, K50.out, ?_⟩) | (with_reducible refine ⟨_, K52.out, ?_⟩) | (with_reducible refine ⟨_, h51.out, ?_⟩) | skip); refine hKK _ ?_; clear hKK KK) | ((with_reducible refine vhrun_cons fun KK hKK => ?_); go_simp; (first | (with_reducible refine ⟨_, v17, ?_⟩) | (with_reducible refine ⟨_, v40 l hl hd, ?_⟩) | (refine ⟨_, VC_of_own (o42 l (by omega)), ?_⟩) | (with_reducible refine ⟨_, v46 l (by omega) HS.out, ?_⟩) | (with_reducible refine ⟨_, v47 l (by omega) HS.out, ?_⟩) | (with_reducible refine ⟨_, L48.out, ?_⟩) | (with_reducible refine ⟨_, K49.out, ?_⟩) | (with_reducible refine ⟨_, K50.out, ?_⟩) | (with_reducible refine ⟨_, K52.out, ?_⟩) | (with_reducible refine ⟨_, h51.out, ?_⟩) | skip); refine hKK _ ?_; clear hKK KK))
          go_simp
        · obtain ⟨g1, g2, g3⟩ := lapse_some HZ.out HB.out.1 hh
          have h49 := v49 l kind date (by omega) HS.out hk E1.out E2.out E3.out hh
          generalize lapse l kind date = R at *
          rw [if_neg (by omega)] at h52
          have K49 := Lib.hid h49
          have K52 := Lib.hid h52
          have h51 := Lib.hid (v51 l kind date (by omega))
          have K48' := K48.out
          rw [hh] at K48'
          have L48 := Lib.hid K48'
          have G3 := Lib.hid g3
          have hneg : ¬ R < 0 := by have := HB.out.1; omega
          clear h49 h52 K48 K48' g3
          by_cases hR : R = 100000
          · repeat (first | (with_reducible refine vseq ?_) | (with_reducible refine vthenN ?_) | (with_reducible refine vthenE ?_) | (with_reducible refine vthenR ?_) | (with_reducible refine vret ?_) | (with_reducible refine vskip ?_) | (with_reducible refine vexit ?_) | (with_reducible refine vblock ?_) | (with_reducible refine vblockN ?_) | (with_reducible refine vblockR ?_) | (with_reducible refine vblockH ?_) | (with_reducible refine vrun_nil ?_) | (with_reducible refine vblockE rfl ?_) | (with_reducible refine vregion [] ?_) | (with_reducible refine vhrun_nil ?_) | ((with_reducible refine vcondT ?_ ?_); (focus (go_simp; done))) | ((with_reducible refine vcondF ?_ ?_); (focus (go_simp; done))) | ((with_reducible refine vrun_cons fun KK hKK => ?_); go_simp; (first | (with_reducible refine ⟨_, v17, ?_⟩) | (with_reducible refine ⟨_, v40 l hl hd, ?_⟩) | (refine ⟨_, VC_of_own (o42 l (by omega)), ?_⟩) | (with_reducible refine ⟨_, v46 l (by omega) HS.out, ?_⟩) | (with_reducible refine ⟨_, v47 l (by omega) HS.out, ?_⟩) | (with_reducible refine ⟨_, L48.out, ?_⟩) | (with_reducible refine ⟨_, K49.out, ?_⟩) | (with_reducible refine ⟨_, K50.out, ?_⟩) | (with_reducible refine ⟨_, K52.out, ?_⟩) | (with_reducible refine ⟨_, h51.out, ?_⟩) | skip); refine hKK _ ?_; clear hKK KK) | ((with_reducible refine vhrun_cons fun KK hKK => ?_); go_simp; (first | (with_reducible refine ⟨_, v17, ?_⟩) | (with_reducible refine ⟨_, v40 l hl hd, ?_⟩) | (refine ⟨_, VC_of_own (o42 l (by omega)), ?_⟩) | (with_reducible refine ⟨_, v46 l (by omega) HS.out, ?_⟩) | (with_reducible refine ⟨_, v47 l (by omega) HS.out, ?_⟩) | (with_reducible refine ⟨_, L48.out, ?_⟩) | (with_reducible refine ⟨_, K49.out, ?_⟩) | (with_reducible refine ⟨_, K50.out, ?_⟩) | (with_reducible refine ⟨_, K52.out, ?_⟩) | (with_reducible refine ⟨_, h51.out, ?_⟩) | skip); refine hKK _ ?_; clear hKK KK))
            go_simp
          · have hb0 := HB.out.1
            have hw := wrap_eq (x := R + 1) (by omega) (by omega)
            have hz2 := licErr_of (l := l) (kind := kind) (date := R + 1) E1.out E2.out (date_of (by omega) (by omega))
            have h48 := v48 l kind (R + 1) (by omega) HS.out hk
            rw [hz2, G3.out] at h48
            simp only [ne_eq, not_true_eq_false, if_false] at h48
            have M48 := Lib.hid h48
            clear h48 hz2
            repeat (first | (with_reducible refine vseq ?_) | (with_reducible refine vthenN ?_) | (with_reducible refine vthenE ?_) | (with_reducible refine vthenR ?_) | (with_reducible refine vret ?_) | (with_reducible refine vskip ?_) | (with_reducible refine vexit ?_) | (with_reducible refine vblock ?_) | (with_reducible refine vblockN ?_) | (with_reducible refine vblockR ?_) | (with_reducible refine vblockH ?_) | (with_reducible refine vrun_nil ?_) | (with_reducible refine vblockE rfl ?_) | (with_reducible refine vregion [] ?_) | (with_reducible refine vhrun_nil ?_) | ((with_reducible refine vcondT ?_ ?_); (focus (go_simp; done))) | ((with_reducible refine vcondF ?_ ?_); (focus (go_simp; done))) | ((with_reducible refine vrun_cons fun KK hKK => ?_); go_simp; (first | (with_reducible refine ⟨_, v17, ?_⟩) | (with_reducible refine ⟨_, v40 l hl hd, ?_⟩) | (refine ⟨_, VC_of_own (o42 l (by omega)), ?_⟩) | (with_reducible refine ⟨_, v46 l (by omega) HS.out, ?_⟩) | (with_reducible refine ⟨_, v47 l (by omega) HS.out, ?_⟩) | (with_reducible refine ⟨_, L48.out, ?_⟩) | (with_reducible refine ⟨_, M48.out, ?_⟩) | (with_reducible refine ⟨_, K49.out, ?_⟩) | (with_reducible refine ⟨_, K50.out, ?_⟩) | (with_reducible refine ⟨_, K52.out, ?_⟩) | (with_reducible refine ⟨_, h51.out, ?_⟩) | skip); refine hKK _ ?_; clear hKK KK) | ((with_reducible refine vhrun_cons fun KK hKK => ?_); go_simp; (first | (with_reducible refine ⟨_, v17, ?_⟩) | (with_reducible refine ⟨_, v40 l hl hd, ?_⟩) | (refine ⟨_, VC_of_own (o42 l (by omega)), ?_⟩) | (with_reducible refine ⟨_, v46 l (by omega) HS.out, ?_⟩) | (with_reducible refine ⟨_, v47 l (by omega) HS.out, ?_⟩) | (with_reducible refine ⟨_, L48.out, ?_⟩) | (with_reducible refine ⟨_, M48.out, ?_⟩) | (with_reducible refine ⟨_, K49.out, ?_⟩) | (with_reducible refine ⟨_, K50.out, ?_⟩) | (with_reducible refine ⟨_, K52.out, ?_⟩) | (with_reducible refine ⟨_, h51.out, ?_⟩) | skip); refine hKK _ ?_; clear hKK KK))
            go_simp
      · have h49 := Lib.hid (v49e l kind date (by omega) HS.out hk hE)
        repeat (first | (with_reducible refine vseq ?_) | (with_reducible refine vthenN ?_) | (with_reducible refine vthenE ?_) | (with_reducible refine vthenR ?_) | (with_reducible refine vret ?_) | (with_reducible refine vskip ?_) | (with_reducible refine vexit ?_) | (with_reducible refine vblock ?_) | (with_reducible refine vblockN ?_) | (with_reducible refine vblockR ?_) | (with_reducible refine vblockH ?_) | (with_reducible refine vrun_nil ?_) | (with_reducible refine vblockE rfl ?_) | (with_reducible refine vregion [] ?_) | (with_reducible refine vhrun_nil ?_) | ((with_reducible refine vcondT ?_ ?_); (focus (go_simp; done))) | ((with_reducible refine vcondF ?_ ?_); (focus (go_simp; done))) | ((with_reducible refine vrun_cons fun KK hKK => ?_); go_simp; (first | (with_reducible refine ⟨_, v17, ?_⟩) | (with_reducible refine ⟨_, v40 l hl hd, ?_⟩) | (refine ⟨_, VC_of_own (o42 l (by omega)), ?_⟩) | (with_reducible refine ⟨_, v46 l (by omega) HS.out, ?_⟩) | (with_reducible refine ⟨_, v47 l (by omega) HS.out, ?_⟩) | (with_reducible refine ⟨_, h48.out, ?_⟩) | (with_reducible refine ⟨_, h49.out, ?_⟩) | (with_reducible refine ⟨_, h50.out, ?_⟩) | skip); refine hKK _ ?_; clear hKK KK) | ((with_reducible refine vhrun_cons fun KK hKK => ?_); go_simp; (first | (with_reducible refine ⟨_, v17, ?_⟩) | (with_reducible refine ⟨_, v40 l hl hd, ?_⟩) | (refine ⟨_, VC_of_own (o42 l (by omega)), ?_⟩) | (with_reducible refine ⟨_, v46 l (by omega) HS.out, ?_⟩) | (with_reducible refine ⟨_, v47 l (by omega) HS.out, ?_⟩) | (with_reducible refine ⟨_, h48.out, ?_⟩) | (with_reducible refine ⟨_, h49.out, ?_⟩) | (with_reducible refine ⟨_, h50.out, ?_⟩) | skip); refine hKK _ ?_; clear hKK KK))
        go_simp
end Go.Proofs.Ytmfmpagfjgpodaa
