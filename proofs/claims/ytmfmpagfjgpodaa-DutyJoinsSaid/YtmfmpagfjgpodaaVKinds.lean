/- Walks on plain values: copies, kinds of licences; texts of at most 1000 bytes. -/
import Derived.Test.YtmfmpagfjgpodaaVZ
namespace Go.Proofs.Ytmfmpagfjgpodaa
open Go.RowKit
set_option maxRecDepth 100000
theorem recs_one (l : List Rec) : ∀ (k : Nat) (x : List AV), (l.map Rec.av)[k]? = some x → x.length = 3 ∧ ∀ c ∈ x, oneAV c = true := by
  intro k x hk
  obtain ⟨r, _, rfl⟩ := map_at hk
  refine ⟨rfl, fun c hc => ?_⟩
  simp only [Rec.av, List.mem_cons, List.not_mem_nil, or_false] at hc
  rcases hc with rfl | rfl | rfl <;> rfl
theorem txts_one (l : List ByteArray) : ∀ (k : Nat) (x : List AV), (l.map txtA)[k]? = some x → x.length = 1 ∧ ∀ c ∈ x, oneAV c = true := by
  intro k x hk
  obtain ⟨r, _, rfl⟩ := map_at hk
  refine ⟨rfl, fun c hc => ?_⟩
  simp only [txtA, List.mem_cons, List.not_mem_nil, or_false] at hc
  rcases hc with rfl
  rfl
theorem o42 (l : List Rec) (hl : l.length ≤ 1000000) : VCo Try.prog 42 [recsA l] 143 3 false (l.map Rec.av) := by
  refine VCo_of Try.func42 rfl (by kernel_rfl) (by kernel_rfl) rfl Try.results42 (by decide) (recs_one l) fun M0 w0 => ?_
  simp only [Try.ntmps42, enumA]
  have hl2 : l.length ≤ 1000000000 := by omega
  repeat (first | (with_reducible refine vseq ?_) | (with_reducible refine vthenN ?_) | (with_reducible refine vthenE ?_) | (with_reducible refine vthenR ?_) | (with_reducible refine vret ?_) | (with_reducible refine vskip ?_) | (with_reducible refine vexit ?_) | (with_reducible refine vblock ?_) | (with_reducible refine vblockN ?_) | (with_reducible refine vblockR ?_) | (with_reducible refine vblockH ?_) | (with_reducible refine vrun_nil ?_) | (with_reducible refine vblockE rfl ?_) | (with_reducible refine vregion [3] ?_) | (with_reducible refine vhrun_nil ?_) | ((with_reducible refine vcondT ?_ ?_); (focus (go_simp; done))) | ((with_reducible refine vcondF ?_ ?_); (focus (go_simp; done))) | ((with_reducible refine vrun_cons fun KK hKK => ?_); go_simp; refine hKK _ ?_; clear hKK KK) | ((with_reducible refine vhrun_cons fun KK hKK => ?_); go_simp; refine hKK _ ?_; clear hKK KK))
  exact ⟨0, rfl, rfl⟩
theorem o20 (l : List Rec) (hl : l.length ≤ 1000000) : VCo Try.prog 20 [recsA l] 57 3 false (l.map Rec.av) := by
  refine VCo_of Try.func20 rfl (by kernel_rfl) (by kernel_rfl) rfl Try.results20 (by decide) (recs_one l) fun M0 w0 => ?_
  simp only [Try.ntmps20, enumA]
  have hl2 : l.length ≤ 1000000000 := by omega
  repeat (first | (with_reducible refine vseq ?_) | (with_reducible refine vthenN ?_) | (with_reducible refine vthenE ?_) | (with_reducible refine vthenR ?_) | (with_reducible refine vret ?_) | (with_reducible refine vskip ?_) | (with_reducible refine vexit ?_) | (with_reducible refine vblock ?_) | (with_reducible refine vblockN ?_) | (with_reducible refine vblockR ?_) | (with_reducible refine vblockH ?_) | (with_reducible refine vrun_nil ?_) | (with_reducible refine vblockE rfl ?_) | (with_reducible refine vregion [3] ?_) | (with_reducible refine vhrun_nil ?_) | ((with_reducible refine vcondT ?_ ?_); (focus (go_simp; done))) | ((with_reducible refine vcondF ?_ ?_); (focus (go_simp; done))) | ((with_reducible refine vrun_cons fun KK hKK => ?_); go_simp; refine hKK _ ?_; clear hKK KK) | ((with_reducible refine vhrun_cons fun KK hKK => ?_); go_simp; refine hKK _ ?_; clear hKK KK))
  exact ⟨0, rfl, rfl⟩
theorem o43 (l : List ByteArray) (hl : l.length ≤ 1000000) : VCo Try.prog 43 [.sl 1 (l.map txtA)] 9 1 false (l.map txtA) := by
  refine VCo_of Try.func43 rfl (by kernel_rfl) (by kernel_rfl) rfl Try.results43 (by decide) (txts_one l) fun M0 w0 => ?_
  simp only [Try.ntmps43, enumA]
  have hl2 : l.length ≤ 1000000000 := by omega
  repeat (first | (with_reducible refine vseq ?_) | (with_reducible refine vthenN ?_) | (with_reducible refine vthenE ?_) | (with_reducible refine vthenR ?_) | (with_reducible refine vret ?_) | (with_reducible refine vskip ?_) | (with_reducible refine vexit ?_) | (with_reducible refine vblock ?_) | (with_reducible refine vblockN ?_) | (with_reducible refine vblockR ?_) | (with_reducible refine vblockH ?_) | (with_reducible refine vrun_nil ?_) | (with_reducible refine vblockE rfl ?_) | (with_reducible refine vregion [3] ?_) | (with_reducible refine vhrun_nil ?_) | ((with_reducible refine vcondT ?_ ?_); (focus (go_simp; done))) | ((with_reducible refine vcondF ?_ ?_); (focus (go_simp; done))) | ((with_reducible refine vrun_cons fun KK hKK => ?_); go_simp; refine hKK _ ?_; clear hKK KK) | ((with_reducible refine vhrun_cons fun KK hKK => ?_); go_simp; refine hKK _ ?_; clear hKK KK))
  exact ⟨0, rfl, rfl⟩
/-- Text number k. -/
def tat (l : List ByteArray) (k : Nat) : ByteArray := l.getD k ByteArray.empty
theorem tat_get {l : List ByteArray} {k : Nat} (h : k < l.length) : tat l k = l[k] := by simp [tat, h]
abbrev txtsA (l : List ByteArray) : AV := .sl 1 (l.map txtA)
def SmallT (l : List ByteArray) : Prop := ∀ x ∈ l, x.size ≤ 1000
theorem SmallT.at_ {l : List ByteArray} (h : SmallT l) {k : Nat} (hk : k < l.length) : l[k].size ≤ 1000 := h _ (List.getElem_mem hk)
theorem v98 (k : Int) (s : ByteArray) (hs : s.size ≤ 1000) : VC Try.prog 98 [I k, S s] (I (nameErr s)) := by
  refine VC_of Try.func98 rfl (by kernel_rfl) (by kernel_rfl) rfl fun M0 w0 => ?_
  simp only [Try.ntmps98, Try.results98, enumA]
  repeat (first | (with_reducible refine vseq ?_) | (with_reducible refine vthenN ?_) | (with_reducible refine vthenE ?_) | (with_reducible refine vthenR ?_) | (with_reducible refine vret ?_) | (with_reducible refine vskip ?_) | (with_reducible refine vexit ?_) | (with_reducible refine vblock ?_) | (with_reducible refine vblockN ?_) | (with_reducible refine vblockR ?_) | (with_reducible refine vblockH ?_) | (with_reducible refine vrun_nil ?_) | (with_reducible refine vblockE rfl ?_) | (with_reducible refine vregion [] ?_) | (with_reducible refine vhrun_nil ?_) | ((with_reducible refine vcondT ?_ ?_); (focus (go_simp; done))) | ((with_reducible refine vcondF ?_ ?_); (focus (go_simp; done))) | ((with_reducible refine vrun_cons fun KK hKK => ?_); go_simp; (first | (with_reducible refine ⟨_, v99 _ hs, ?_⟩) | skip); refine hKK _ ?_; clear hKK KK) | ((with_reducible refine vhrun_cons fun KK hKK => ?_); go_simp; (first | (with_reducible refine ⟨_, v99 _ hs, ?_⟩) | skip); refine hKK _ ?_; clear hKK KK))
  go_simp
theorem v97 (l : List ByteArray) (hl : l.length ≤ 1000) (hd : SmallT l) : VC Try.prog 97 [txtsA l, I 20, .lit (.func (.func 98) #[] #[])] (.tup [I (checkL l.length 20 fun k => nameErr (tat l k)).1, I (checkL l.length 20 fun k => nameErr (tat l k)).2]) := by
  generalize hR0 : checkL l.length 20 (fun k => nameErr (tat l k)) = R
  unfold checkL at hR0
  have HR := Lib.hid hR0
  clear hR0
  refine VC_of Try.func97 rfl (by kernel_rfl) (by kernel_rfl) rfl fun M0 w0 => ?_
  simp only [Try.ntmps97, Try.results97, enumA]
  by_cases hlen : (20 : Int) < l.length
  · repeat (first | (with_reducible refine vseq ?_) | (with_reducible refine vthenN ?_) | (with_reducible refine vthenE ?_) | (with_reducible refine vthenR ?_) | (with_reducible refine vret ?_) | (with_reducible refine vskip ?_) | (with_reducible refine vexit ?_) | (with_reducible refine vblock ?_) | (with_reducible refine vblockN ?_) | (with_reducible refine vblockR ?_) | (with_reducible refine vblockH ?_) | (with_reducible refine vrun_nil ?_) | (with_reducible refine vblockE rfl ?_) | (with_reducible refine vregion [] ?_) | (with_reducible refine vhrun_nil ?_) | ((with_reducible refine vcondT ?_ ?_); (focus (go_simp; done))) | ((with_reducible refine vcondF ?_ ?_); (focus (go_simp; done))) | ((with_reducible refine vrun_cons fun KK hKK => ?_); go_simp; refine hKK _ ?_; clear hKK KK) | ((with_reducible refine vhrun_cons fun KK hKK => ?_); go_simp; refine hKK _ ?_; clear hKK KK))
    have e := HR.out
    rw [if_pos hlen] at e
    subst e
    go_simp
  · repeat (first | (with_reducible refine vseq ?_) | (with_reducible refine vthenN ?_) | (with_reducible refine vthenE ?_) | (with_reducible refine vthenR ?_) | (with_reducible refine vret ?_) | (with_reducible refine vskip ?_) | (with_reducible refine vexit ?_) | (with_reducible refine vblock ?_) | (with_reducible refine vblockN ?_) | (with_reducible refine vblockR ?_) | (with_reducible refine vblockH ?_) | (with_reducible refine vrun_nil ?_) | (with_reducible refine vblockE rfl ?_) | (with_reducible refine vregion [] ?_) | (with_reducible refine vhrun_nil ?_) | ((with_reducible refine vcondT ?_ ?_); (focus (go_simp; done))) | ((with_reducible refine vcondF ?_ ?_); (focus (go_simp; done))) | ((with_reducible refine vrun_cons fun KK hKK => ?_); go_simp; refine hKK _ ?_; clear hKK KK) | ((with_reducible refine vhrun_cons fun KK hKK => ?_); go_simp; refine hKK _ ?_; clear hKK KK))
    have e := HR.out
    rw [if_neg hlen] at e
    refine vloop (α := Nat) (fun k => ⟨[(2, .lit (.func (.func 98) #[] #[])), (17, I k), (16, I l.length), (15, txtsA l)], []⟩) (fun k => k ≤ l.length ∧ firstErr (fun k => nameErr (tat l k)) k (l.length - k) = R) (fun k => l.length - k) 0 ⟨by omega, e⟩ (by clear e; go_simp) ?_
    clear e
    rintro k ⟨hk, hf⟩ K hR
    have HF := Lib.hid hf
    clear hf
    by_cases hlt : k < l.length
    · have hf := HF.out
      rw [firstErr_at hlt, tat_get hlt] at hf
      have HE := Lib.hid hf
      clear hf
      by_cases h0 : nameErr l[k] = 0
      · have hw := wrap_eq (x := (k : Int) + 1) (by omega) (by omega)
        repeat (first | (with_reducible refine vseq ?_) | (with_reducible refine vthenN ?_) | (with_reducible refine vthenE ?_) | (with_reducible refine vthenR ?_) | (with_reducible refine vret ?_) | (with_reducible refine vskip ?_) | (with_reducible refine vexit ?_) | (with_reducible refine vblock ?_) | (with_reducible refine vblockN ?_) | (with_reducible refine vblockR ?_) | (with_reducible refine vblockH ?_) | (with_reducible refine vrun_nil ?_) | (with_reducible refine vblockE rfl ?_) | (with_reducible refine vregion [] ?_) | (with_reducible refine vhrun_nil ?_) | ((with_reducible refine vcondT ?_ ?_); (focus (go_simp; done))) | ((with_reducible refine vcondF ?_ ?_); (focus (go_simp; done))) | ((with_reducible refine vrun_cons fun KK hKK => ?_); go_simp; (first | (with_reducible refine ⟨_, v98 _ l[k] (hd.at_ hlt), ?_⟩) | skip); refine hKK _ ?_; clear hKK KK) | ((with_reducible refine vhrun_cons fun KK hKK => ?_); go_simp; (first | (with_reducible refine ⟨_, v98 _ l[k] (hd.at_ hlt), ?_⟩) | skip); refine hKK _ ?_; clear hKK KK))
        refine hR _ (k + 1) ⟨hlt, ?_⟩ (by omega) ?_
        · have := HE.out
          rwa [if_neg (by simpa using h0)] at this
        · go_simp
      · repeat (first | (with_reducible refine vseq ?_) | (with_reducible refine vthenN ?_) | (with_reducible refine vthenE ?_) | (with_reducible refine vthenR ?_) | (with_reducible refine vret ?_) | (with_reducible refine vskip ?_) | (with_reducible refine vexit ?_) | (with_reducible refine vblock ?_) | (with_reducible refine vblockN ?_) | (with_reducible refine vblockR ?_) | (with_reducible refine vblockH ?_) | (with_reducible refine vrun_nil ?_) | (with_reducible refine vblockE rfl ?_) | (with_reducible refine vregion [] ?_) | (with_reducible refine vhrun_nil ?_) | ((with_reducible refine vcondT ?_ ?_); (focus (go_simp; done))) | ((with_reducible refine vcondF ?_ ?_); (focus (go_simp; done))) | ((with_reducible refine vrun_cons fun KK hKK => ?_); go_simp; (first | (with_reducible refine ⟨_, v98 _ l[k] (hd.at_ hlt), ?_⟩) | skip); refine hKK _ ?_; clear hKK KK) | ((with_reducible refine vhrun_cons fun KK hKK => ?_); go_simp; (first | (with_reducible refine ⟨_, v98 _ l[k] (hd.at_ hlt), ?_⟩) | skip); refine hKK _ ?_; clear hKK KK))
        have e := HE.out
        rw [if_pos h0] at e
        subst e
        go_simp
    · repeat (first | (with_reducible refine vseq ?_) | (with_reducible refine vthenN ?_) | (with_reducible refine vthenE ?_) | (with_reducible refine vthenR ?_) | (with_reducible refine vret ?_) | (with_reducible refine vskip ?_) | (with_reducible refine vexit ?_) | (with_reducible refine vblock ?_) | (with_reducible refine vblockN ?_) | (with_reducible refine vblockR ?_) | (with_reducible refine vblockH ?_) | (with_reducible refine vrun_nil ?_) | (with_reducible refine vblockE rfl ?_) | (with_reducible refine vregion [] ?_) | (with_reducible refine vhrun_nil ?_) | ((with_reducible refine vcondT ?_ ?_); (focus (go_simp; done))) | ((with_reducible refine vcondF ?_ ?_); (focus (go_simp; done))) | ((with_reducible refine vrun_cons fun KK hKK => ?_); go_simp; refine hKK _ ?_; clear hKK KK) | ((with_reducible refine vhrun_cons fun KK hKK => ?_); go_simp; refine hKK _ ?_; clear hKK KK))
      have e := HF.out
      rw [show l.length - k = 0 by omega, firstErr] at e
      subst e
      go_simp
/-- The first kind that no licence holds for, and the empty text if there is none. -/
def driveP (l : List Rec) (ks : List ByteArray) (date : Int) : Nat → Nat → ByteArray
  | _, 0 => ⟨#[]⟩
  | k, n + 1 => if holdsP l (tat ks k) date then driveP l ks date (k + 1) n else tat ks k
theorem driveP_at {l : List Rec} {ks : List ByteArray} {date : Int} {k n : Nat} (h : k < n) : driveP l ks date k (n - k) = if holdsP l (tat ks k) date then driveP l ks date (k + 1) (n - (k + 1)) else tat ks k := by
  rw [show n - k = (n - (k + 1)) + 1 by omega, driveP]
def kindsE (ks : List ByteArray) : Int := (checkL ks.length 20 fun k => nameErr (tat ks k)).2
def driveE (l : List Rec) (ks : List ByteArray) (date : Int) : Int := if (lics l).2 ≠ 0 then (lics l).2 else if kindsE ks ≠ 0 then kindsE ks else dateErr date
attribute [go_sem] fst
theorem v41 (l : List Rec) (ks : List ByteArray) (date : Int) (hl : l.length ≤ 1000) (hd : Small l) (hl2 : ks.length ≤ 1000) (hd2 : SmallT ks) :
    VC Try.prog 41 [recsA l, txtsA ks, I date] (.tup [S (if driveE l ks date ≠ 0 then ⟨#[]⟩ else driveP l ks date 0 ks.length), I (driveE l ks date)]) := by
  have h97 := Lib.hid (v97 ks hl2 hd2)
  generalize hR0 : driveP l ks date 0 ks.length = R
  have HR := Lib.hid hR0
  clear hR0
  unfold driveE kindsE
  generalize (checkL ks.length 20 fun k => nameErr (tat ks k)) = E at h97
  refine VC_of Try.func41 rfl (by kernel_rfl) (by kernel_rfl) rfl fun M0 w0 => ?_
  simp only [Try.ntmps41, Try.results41, enumA]
  by_cases h1 : (lics l).2 = 0
  · by_cases h2 : E.2 = 0
    · by_cases h3 : dateErr date = 0
      · repeat (first | (with_reducible refine vseq ?_) | (with_reducible refine vthenN ?_) | (with_reducible refine vthenE ?_) | (with_reducible refine vthenR ?_) | (with_reducible refine vret ?_) | (with_reducible refine vskip ?_) | (with_reducible refine vexit ?_) | (with_reducible refine vblock ?_) | (with_reducible refine vblockN ?_) | (with_reducible refine vblockR ?_) | (with_reducible refine vblockH ?_) | (with_reducible refine vrun_nil ?_) | (with_reducible refine vblockE rfl ?_) | (with_reducible refine vregion [] ?_) | (with_reducible refine vhrun_nil ?_) | ((with_reducible refine vcondT ?_ ?_); (focus (go_simp; done))) | ((with_reducible refine vcondF ?_ ?_); (focus (go_simp; done))) | ((with_reducible refine vrun_cons fun KK hKK => ?_); go_simp; (first | (with_reducible refine ⟨_, v96 l hl hd, ?_⟩) | (refine ⟨_, h97.out, ?_⟩) | (with_reducible refine ⟨_, v100 _, ?_⟩) | (refine ⟨_, v75 [_, _] rfl, ?_⟩) | skip); refine hKK _ ?_; clear hKK KK) | ((with_reducible refine vhrun_cons fun KK hKK => ?_); go_simp; (first | (with_reducible refine ⟨_, v96 l hl hd, ?_⟩) | (refine ⟨_, h97.out, ?_⟩) | (with_reducible refine ⟨_, v100 _, ?_⟩) | (refine ⟨_, v75 [_, _] rfl, ?_⟩) | skip); refine hKK _ ?_; clear hKK KK))
        refine vloop (α := Nat) (fun k => ⟨[(35, I k), (34, I ks.length), (33, txtsA ks), (8, recsA l), (2, I date)], []⟩) (fun k => k ≤ ks.length ∧ driveP l ks date k (ks.length - k) = R) (fun k => ks.length - k) 0 ⟨by omega, HR.out⟩ (by go_simp) ?_
        rintro k ⟨hk, hf⟩ K hR
        have HF := Lib.hid hf
        clear hf
        by_cases hlt : k < ks.length
        · have hf := HF.out
          rw [driveP_at hlt, tat_get hlt] at hf
          have HE := Lib.hid hf
          clear hf
          have hw := wrap_eq (x := (k : Int) + 1) (by omega) (by omega)
          cases h : holdsP l ks[k] date
          · repeat (first | (with_reducible refine vseq ?_) | (with_reducible refine vthenN ?_) | (with_reducible refine vthenE ?_) | (with_reducible refine vthenR ?_) | (with_reducible refine vret ?_) | (with_reducible refine vskip ?_) | (with_reducible refine vexit ?_) | (with_reducible refine vblock ?_) | (with_reducible refine vblockN ?_) | (with_reducible refine vblockR ?_) | (with_reducible refine vblockH ?_) | (with_reducible refine vrun_nil ?_) | (with_reducible refine vblockE rfl ?_) | (with_reducible refine vregion [] ?_) | (with_reducible refine vhrun_nil ?_) | ((with_reducible refine vcondT ?_ ?_); (focus (go_simp; done))) | ((with_reducible refine vcondF ?_ ?_); (focus (go_simp; done))) | ((with_reducible refine vrun_cons fun KK hKK => ?_); go_simp; (first | (with_reducible refine ⟨_, v101 l _ _ hl, ?_⟩) | skip); refine hKK _ ?_; clear hKK KK) | ((with_reducible refine vhrun_cons fun KK hKK => ?_); go_simp; (first | (with_reducible refine ⟨_, v101 l _ _ hl, ?_⟩) | skip); refine hKK _ ?_; clear hKK KK))
            have e := HE.out
            rw [h] at e
            clear h
            simp only [Bool.false_eq_true, if_false] at e
            subst e
            go_simp
          · repeat (first | (with_reducible refine vseq ?_) | (with_reducible refine vthenN ?_) | (with_reducible refine vthenE ?_) | (with_reducible refine vthenR ?_) | (with_reducible refine vret ?_) | (with_reducible refine vskip ?_) | (with_reducible refine vexit ?_) | (with_reducible refine vblock ?_) | (with_reducible refine vblockN ?_) | (with_reducible refine vblockR ?_) | (with_reducible refine vblockH ?_) | (with_reducible refine vrun_nil ?_) | (with_reducible refine vblockE rfl ?_) | (with_reducible refine vregion [] ?_) | (with_reducible refine vhrun_nil ?_) | ((with_reducible refine vcondT ?_ ?_); (focus (go_simp; done))) | ((with_reducible refine vcondF ?_ ?_); (focus (go_simp; done))) | ((with_reducible refine vrun_cons fun KK hKK => ?_); go_simp; (first | (with_reducible refine ⟨_, v101 l _ _ hl, ?_⟩) | skip); refine hKK _ ?_; clear hKK KK) | ((with_reducible refine vhrun_cons fun KK hKK => ?_); go_simp; (first | (with_reducible refine ⟨_, v101 l _ _ hl, ?_⟩) | skip); refine hKK _ ?_; clear hKK KK))
            refine hR _ (k + 1) ⟨hlt, ?_⟩ (by omega) ?_
            · have := HE.out
              rwa [h, if_pos rfl] at this
            · go_simp
        · repeat (first | (with_reducible refine vseq ?_) | (with_reducible refine vthenN ?_) | (with_reducible refine vthenE ?_) | (with_reducible refine vthenR ?_) | (with_reducible refine vret ?_) | (with_reducible refine vskip ?_) | (with_reducible refine vexit ?_) | (with_reducible refine vblock ?_) | (with_reducible refine vblockN ?_) | (with_reducible refine vblockR ?_) | (with_reducible refine vblockH ?_) | (with_reducible refine vrun_nil ?_) | (with_reducible refine vblockE rfl ?_) | (with_reducible refine vregion [] ?_) | (with_reducible refine vhrun_nil ?_) | ((with_reducible refine vcondT ?_ ?_); (focus (go_simp; done))) | ((with_reducible refine vcondF ?_ ?_); (focus (go_simp; done))) | ((with_reducible refine vrun_cons fun KK hKK => ?_); go_simp; refine hKK _ ?_; clear hKK KK) | ((with_reducible refine vhrun_cons fun KK hKK => ?_); go_simp; refine hKK _ ?_; clear hKK KK))
          have e := HF.out
          rw [show ks.length - k = 0 by omega, driveP] at e
          subst e
          go_simp
      · repeat (first | (with_reducible refine vseq ?_) | (with_reducible refine vthenN ?_) | (with_reducible refine vthenE ?_) | (with_reducible refine vthenR ?_) | (with_reducible refine vret ?_) | (with_reducible refine vskip ?_) | (with_reducible refine vexit ?_) | (with_reducible refine vblock ?_) | (with_reducible refine vblockN ?_) | (with_reducible refine vblockR ?_) | (with_reducible refine vblockH ?_) | (with_reducible refine vrun_nil ?_) | (with_reducible refine vblockE rfl ?_) | (with_reducible refine vregion [] ?_) | (with_reducible refine vhrun_nil ?_) | ((with_reducible refine vcondT ?_ ?_); (focus (go_simp; done))) | ((with_reducible refine vcondF ?_ ?_); (focus (go_simp; done))) | ((with_reducible refine vrun_cons fun KK hKK => ?_); go_simp; (first | (with_reducible refine ⟨_, v96 l hl hd, ?_⟩) | (refine ⟨_, h97.out, ?_⟩) | (with_reducible refine ⟨_, v100 _, ?_⟩) | (refine ⟨_, v75 [_, _] rfl, ?_⟩) | skip); refine hKK _ ?_; clear hKK KK) | ((with_reducible refine vhrun_cons fun KK hKK => ?_); go_simp; (first | (with_reducible refine ⟨_, v96 l hl hd, ?_⟩) | (refine ⟨_, h97.out, ?_⟩) | (with_reducible refine ⟨_, v100 _, ?_⟩) | (refine ⟨_, v75 [_, _] rfl, ?_⟩) | skip); refine hKK _ ?_; clear hKK KK))
        go_simp
    · repeat (first | (with_reducible refine vseq ?_) | (with_reducible refine vthenN ?_) | (with_reducible refine vthenE ?_) | (with_reducible refine vthenR ?_) | (with_reducible refine vret ?_) | (with_reducible refine vskip ?_) | (with_reducible refine vexit ?_) | (with_reducible refine vblock ?_) | (with_reducible refine vblockN ?_) | (with_reducible refine vblockR ?_) | (with_reducible refine vblockH ?_) | (with_reducible refine vrun_nil ?_) | (with_reducible refine vblockE rfl ?_) | (with_reducible refine vregion [] ?_) | (with_reducible refine vhrun_nil ?_) | ((with_reducible refine vcondT ?_ ?_); (focus (go_simp; done))) | ((with_reducible refine vcondF ?_ ?_); (focus (go_simp; done))) | ((with_reducible refine vrun_cons fun KK hKK => ?_); go_simp; (first | (with_reducible refine ⟨_, v96 l hl hd, ?_⟩) | (refine ⟨_, h97.out, ?_⟩) | (with_reducible refine ⟨_, v100 _, ?_⟩) | (refine ⟨_, v75 [_, _] rfl, ?_⟩) | skip); refine hKK _ ?_; clear hKK KK) | ((with_reducible refine vhrun_cons fun KK hKK => ?_); go_simp; (first | (with_reducible refine ⟨_, v96 l hl hd, ?_⟩) | (refine ⟨_, h97.out, ?_⟩) | (with_reducible refine ⟨_, v100 _, ?_⟩) | (refine ⟨_, v75 [_, _] rfl, ?_⟩) | skip); refine hKK _ ?_; clear hKK KK))
      go_simp
  · repeat (first | (with_reducible refine vseq ?_) | (with_reducible refine vthenN ?_) | (with_reducible refine vthenE ?_) | (with_reducible refine vthenR ?_) | (with_reducible refine vret ?_) | (with_reducible refine vskip ?_) | (with_reducible refine vexit ?_) | (with_reducible refine vblock ?_) | (with_reducible refine vblockN ?_) | (with_reducible refine vblockR ?_) | (with_reducible refine vblockH ?_) | (with_reducible refine vrun_nil ?_) | (with_reducible refine vblockE rfl ?_) | (with_reducible refine vregion [] ?_) | (with_reducible refine vhrun_nil ?_) | ((with_reducible refine vcondT ?_ ?_); (focus (go_simp; done))) | ((with_reducible refine vcondF ?_ ?_); (focus (go_simp; done))) | ((with_reducible refine vrun_cons fun KK hKK => ?_); go_simp; (first | (with_reducible refine ⟨_, v96 l hl hd, ?_⟩) | (refine ⟨_, h97.out, ?_⟩) | (with_reducible refine ⟨_, v100 _, ?_⟩) | (refine ⟨_, v75 [_, _] rfl, ?_⟩) | skip); refine hKK _ ?_; clear hKK KK) | ((with_reducible refine vhrun_cons fun KK hKK => ?_); go_simp; (first | (with_reducible refine ⟨_, v96 l hl hd, ?_⟩) | (refine ⟨_, h97.out, ?_⟩) | (with_reducible refine ⟨_, v100 _, ?_⟩) | (refine ⟨_, v75 [_, _] rfl, ?_⟩) | skip); refine hKK _ ?_; clear hKK KK))
    go_simp
theorem nameErr_or (s : ByteArray) : nameErr s = if isName s then 0 else 4 := by
  unfold nameErr unl
  rfl
theorem v44 (l : List Rec) (ks : List ByteArray) (date : Int) (hl : l.length ≤ 1000) (hd : Small l) (hl2 : ks.length ≤ 1000) (hd2 : SmallT ks) : VC Try.prog 44 [recsA l, txtsA ks, I date] (I (driveE l ks date)) := by
  generalize hR0 : driveE l ks date = R
  unfold driveE kindsE checkL at hR0
  have HR := Lib.hid hR0
  clear hR0
  refine VC_of Try.func44 rfl (by kernel_rfl) (by kernel_rfl) rfl fun M0 w0 => ?_
  simp only [Try.ntmps44, Try.results44, enumA]
  by_cases h1 : (lics l).2 = 0
  · by_cases h2 : (20 : Int) < ks.length
    · repeat (first | (with_reducible refine vseq ?_) | (with_reducible refine vthenN ?_) | (with_reducible refine vthenE ?_) | (with_reducible refine vthenR ?_) | (with_reducible refine vret ?_) | (with_reducible refine vskip ?_) | (with_reducible refine vexit ?_) | (with_reducible refine vblock ?_) | (with_reducible refine vblockN ?_) | (with_reducible refine vblockR ?_) | (with_reducible refine vblockH ?_) | (with_reducible refine vrun_nil ?_) | (with_reducible refine vblockE rfl ?_) | (with_reducible refine vregion [] ?_) | (with_reducible refine vhrun_nil ?_) | ((with_reducible refine vcondT ?_ ?_); (focus (go_simp; done))) | ((with_reducible refine vcondF ?_ ?_); (focus (go_simp; done))) | ((with_reducible refine vrun_cons fun KK hKK => ?_); go_simp; (first | (with_reducible refine ⟨_, v47 l hl hd, ?_⟩) | skip); refine hKK _ ?_; clear hKK KK) | ((with_reducible refine vhrun_cons fun KK hKK => ?_); go_simp; (first | (with_reducible refine ⟨_, v47 l hl hd, ?_⟩) | skip); refine hKK _ ?_; clear hKK KK))
      have e := HR.out
      rw [if_neg (by simpa using h1), if_pos h2, if_pos (by simp)] at e
      subst e
      go_simp
    · have e := HR.out
      rw [if_neg (by simpa using h1), if_neg h2] at e
      have HE := Lib.hid e
      clear e
      repeat (first | (with_reducible refine vseq ?_) | (with_reducible refine vthenN ?_) | (with_reducible refine vthenE ?_) | (with_reducible refine vthenR ?_) | (with_reducible refine vret ?_) | (with_reducible refine vskip ?_) | (with_reducible refine vexit ?_) | (with_reducible refine vblock ?_) | (with_reducible refine vblockN ?_) | (with_reducible refine vblockR ?_) | (with_reducible refine vblockH ?_) | (with_reducible refine vrun_nil ?_) | (with_reducible refine vblockE rfl ?_) | (with_reducible refine vregion [] ?_) | (with_reducible refine vhrun_nil ?_) | ((with_reducible refine vcondT ?_ ?_); (focus (go_simp; done))) | ((with_reducible refine vcondF ?_ ?_); (focus (go_simp; done))) | ((with_reducible refine vrun_cons fun KK hKK => ?_); go_simp; (first | (with_reducible refine ⟨_, v47 l hl hd, ?_⟩) | skip); refine hKK _ ?_; clear hKK KK) | ((with_reducible refine vhrun_cons fun KK hKK => ?_); go_simp; (first | (with_reducible refine ⟨_, v47 l hl hd, ?_⟩) | skip); refine hKK _ ?_; clear hKK KK))
      refine vloop (α := Nat) (fun k => ⟨[(9, I k), (1, txtsA ks), (2, I date)], []⟩) (fun k => k ≤ ks.length ∧ (if (firstErr (fun k => nameErr (tat ks k)) k (ks.length - k)).2 ≠ 0 then (firstErr (fun k => nameErr (tat ks k)) k (ks.length - k)).2 else dateErr date) = R) (fun k => ks.length - k) 0 ⟨by omega, HE.out⟩ (by go_simp) ?_
      rintro k ⟨hk, hf⟩ K hR
      have HF := Lib.hid hf
      clear hf
      by_cases hlt : k < ks.length
      · have hf := HF.out
        rw [firstErr_at hlt, tat_get hlt, nameErr_or] at hf
        have HE := Lib.hid hf
        clear hf
        have hw := wrap_eq (x := (k : Int) + 1) (by omega) (by omega)
        have hs := hd2.at_ hlt
        cases h : isName ks[k]
        · repeat (first | (with_reducible refine vseq ?_) | (with_reducible refine vthenN ?_) | (with_reducible refine vthenE ?_) | (with_reducible refine vthenR ?_) | (with_reducible refine vret ?_) | (with_reducible refine vskip ?_) | (with_reducible refine vexit ?_) | (with_reducible refine vblock ?_) | (with_reducible refine vblockN ?_) | (with_reducible refine vblockR ?_) | (with_reducible refine vblockH ?_) | (with_reducible refine vrun_nil ?_) | (with_reducible refine vblockE rfl ?_) | (with_reducible refine vregion [] ?_) | (with_reducible refine vhrun_nil ?_) | ((with_reducible refine vcondT ?_ ?_); (focus (go_simp; done))) | ((with_reducible refine vcondF ?_ ?_); (focus (go_simp; done))) | ((with_reducible refine vrun_cons fun KK hKK => ?_); go_simp; (first | (with_reducible refine ⟨_, v102 _ hs, ?_⟩) | skip); refine hKK _ ?_; clear hKK KK) | ((with_reducible refine vhrun_cons fun KK hKK => ?_); go_simp; (first | (with_reducible refine ⟨_, v102 _ hs, ?_⟩) | skip); refine hKK _ ?_; clear hKK KK))
          have e := HE.out
          rw [h] at e
          clear h
          simp at e
          subst e
          go_simp
        · repeat (first | (with_reducible refine vseq ?_) | (with_reducible refine vthenN ?_) | (with_reducible refine vthenE ?_) | (with_reducible refine vthenR ?_) | (with_reducible refine vret ?_) | (with_reducible refine vskip ?_) | (with_reducible refine vexit ?_) | (with_reducible refine vblock ?_) | (with_reducible refine vblockN ?_) | (with_reducible refine vblockR ?_) | (with_reducible refine vblockH ?_) | (with_reducible refine vrun_nil ?_) | (with_reducible refine vblockE rfl ?_) | (with_reducible refine vregion [] ?_) | (with_reducible refine vhrun_nil ?_) | ((with_reducible refine vcondT ?_ ?_); (focus (go_simp; done))) | ((with_reducible refine vcondF ?_ ?_); (focus (go_simp; done))) | ((with_reducible refine vrun_cons fun KK hKK => ?_); go_simp; (first | (with_reducible refine ⟨_, v102 _ hs, ?_⟩) | skip); refine hKK _ ?_; clear hKK KK) | ((with_reducible refine vhrun_cons fun KK hKK => ?_); go_simp; (first | (with_reducible refine ⟨_, v102 _ hs, ?_⟩) | skip); refine hKK _ ?_; clear hKK KK))
          refine hR _ (k + 1) ⟨hlt, ?_⟩ (by omega) ?_
          · have := HE.out
            rw [h] at this
            simpa using this
          · go_simp
      · repeat (first | (with_reducible refine vseq ?_) | (with_reducible refine vthenN ?_) | (with_reducible refine vthenE ?_) | (with_reducible refine vthenR ?_) | (with_reducible refine vret ?_) | (with_reducible refine vskip ?_) | (with_reducible refine vexit ?_) | (with_reducible refine vblock ?_) | (with_reducible refine vblockN ?_) | (with_reducible refine vblockR ?_) | (with_reducible refine vblockH ?_) | (with_reducible refine vrun_nil ?_) | (with_reducible refine vblockE rfl ?_) | (with_reducible refine vregion [] ?_) | (with_reducible refine vhrun_nil ?_) | ((with_reducible refine vcondT ?_ ?_); (focus (go_simp; done))) | ((with_reducible refine vcondF ?_ ?_); (focus (go_simp; done))) | ((with_reducible refine vrun_cons fun KK hKK => ?_); go_simp; (first | (with_reducible refine ⟨_, v103 _, ?_⟩) | skip); refine hKK _ ?_; clear hKK KK) | ((with_reducible refine vhrun_cons fun KK hKK => ?_); go_simp; (first | (with_reducible refine ⟨_, v103 _, ?_⟩) | skip); refine hKK _ ?_; clear hKK KK))
        have e := HF.out
        rw [show ks.length - k = 0 by omega, firstErr] at e
        simp at e
        subst e
        go_simp
  · repeat (first | (with_reducible refine vseq ?_) | (with_reducible refine vthenN ?_) | (with_reducible refine vthenE ?_) | (with_reducible refine vthenR ?_) | (with_reducible refine vret ?_) | (with_reducible refine vskip ?_) | (with_reducible refine vexit ?_) | (with_reducible refine vblock ?_) | (with_reducible refine vblockN ?_) | (with_reducible refine vblockR ?_) | (with_reducible refine vblockH ?_) | (with_reducible refine vrun_nil ?_) | (with_reducible refine vblockE rfl ?_) | (with_reducible refine vregion [] ?_) | (with_reducible refine vhrun_nil ?_) | ((with_reducible refine vcondT ?_ ?_); (focus (go_simp; done))) | ((with_reducible refine vcondF ?_ ?_); (focus (go_simp; done))) | ((with_reducible refine vrun_cons fun KK hKK => ?_); go_simp; (first | (with_reducible refine ⟨_, v47 l hl hd, ?_⟩) | skip); refine hKK _ ?_; clear hKK KK) | ((with_reducible refine vhrun_cons fun KK hKK => ?_); go_simp; (first | (with_reducible refine ⟨_, v47 l hl hd, ?_⟩) | skip); refine hKK _ ?_; clear hKK KK))
    have e := HR.out
    rw [if_pos h1] at e
    subst e
    go_simp
theorem v45 (l : List Rec) (ks : List ByteArray) (date : Int) (hl : l.length ≤ 1000) (hl2 : ks.length ≤ 1000) : VC Try.prog 45 [recsA l, txtsA ks, I date] (S (driveP l ks date 0 ks.length)) := by
  generalize hR0 : driveP l ks date 0 ks.length = R
  have HR := Lib.hid hR0
  clear hR0
  refine VC_of Try.func45 rfl (by kernel_rfl) (by kernel_rfl) rfl fun M0 w0 => ?_
  simp only [Try.ntmps45, Try.results45, enumA]
  repeat (first | (with_reducible refine vseq ?_) | (with_reducible refine vthenN ?_) | (with_reducible refine vthenE ?_) | (with_reducible refine vthenR ?_) | (with_reducible refine vret ?_) | (with_reducible refine vskip ?_) | (with_reducible refine vexit ?_) | (with_reducible refine vblock ?_) | (with_reducible refine vblockN ?_) | (with_reducible refine vblockR ?_) | (with_reducible refine vblockH ?_) | (with_reducible refine vrun_nil ?_) | (with_reducible refine vblockE rfl ?_) | (with_reducible refine vregion [] ?_) | (with_reducible refine vhrun_nil ?_) | ((with_reducible refine vcondT ?_ ?_); (focus (go_simp; done))) | ((with_reducible refine vcondF ?_ ?_); (focus (go_simp; done))) | ((with_reducible refine vrun_cons fun KK hKK => ?_); go_simp; refine hKK _ ?_; clear hKK KK) | ((with_reducible refine vhrun_cons fun KK hKK => ?_); go_simp; refine hKK _ ?_; clear hKK KK))
  refine vloop (α := Nat) (fun k => ⟨[(7, I k), (1, txtsA ks), (0, recsA l), (2, I date)], []⟩) (fun k => k ≤ ks.length ∧ driveP l ks date k (ks.length - k) = R) (fun k => ks.length - k) 0 ⟨by omega, HR.out⟩ (by go_simp) ?_
  rintro k ⟨hk, hf⟩ K hR
  have HF := Lib.hid hf
  clear hf
  by_cases hlt : k < ks.length
  · have hf := HF.out
    rw [driveP_at hlt, tat_get hlt] at hf
    have HE := Lib.hid hf
    clear hf
    have hw := wrap_eq (x := (k : Int) + 1) (by omega) (by omega)
    cases h : holdsP l ks[k] date
    · repeat (first | (with_reducible refine vseq ?_) | (with_reducible refine vthenN ?_) | (with_reducible refine vthenE ?_) | (with_reducible refine vthenR ?_) | (with_reducible refine vret ?_) | (with_reducible refine vskip ?_) | (with_reducible refine vexit ?_) | (with_reducible refine vblock ?_) | (with_reducible refine vblockN ?_) | (with_reducible refine vblockR ?_) | (with_reducible refine vblockH ?_) | (with_reducible refine vrun_nil ?_) | (with_reducible refine vblockE rfl ?_) | (with_reducible refine vregion [] ?_) | (with_reducible refine vhrun_nil ?_) | ((with_reducible refine vcondT ?_ ?_); (focus (go_simp; done))) | ((with_reducible refine vcondF ?_ ?_); (focus (go_simp; done))) | ((with_reducible refine vrun_cons fun KK hKK => ?_); go_simp; (first | (with_reducible refine ⟨_, v51 l _ _ hl, ?_⟩) | skip); refine hKK _ ?_; clear hKK KK) | ((with_reducible refine vhrun_cons fun KK hKK => ?_); go_simp; (first | (with_reducible refine ⟨_, v51 l _ _ hl, ?_⟩) | skip); refine hKK _ ?_; clear hKK KK))
      have e := HE.out
      rw [h] at e
      clear h
      simp only [Bool.false_eq_true, if_false] at e
      subst e
      go_simp
    · repeat (first | (with_reducible refine vseq ?_) | (with_reducible refine vthenN ?_) | (with_reducible refine vthenE ?_) | (with_reducible refine vthenR ?_) | (with_reducible refine vret ?_) | (with_reducible refine vskip ?_) | (with_reducible refine vexit ?_) | (with_reducible refine vblock ?_) | (with_reducible refine vblockN ?_) | (with_reducible refine vblockR ?_) | (with_reducible refine vblockH ?_) | (with_reducible refine vrun_nil ?_) | (with_reducible refine vblockE rfl ?_) | (with_reducible refine vregion [] ?_) | (with_reducible refine vhrun_nil ?_) | ((with_reducible refine vcondT ?_ ?_); (focus (go_simp; done))) | ((with_reducible refine vcondF ?_ ?_); (focus (go_simp; done))) | ((with_reducible refine vrun_cons fun KK hKK => ?_); go_simp; (first | (with_reducible refine ⟨_, v51 l _ _ hl, ?_⟩) | skip); refine hKK _ ?_; clear hKK KK) | ((with_reducible refine vhrun_cons fun KK hKK => ?_); go_simp; (first | (with_reducible refine ⟨_, v51 l _ _ hl, ?_⟩) | skip); refine hKK _ ?_; clear hKK KK))
      refine hR _ (k + 1) ⟨hlt, ?_⟩ (by omega) ?_
      · have := HE.out
        rwa [h, if_pos rfl] at this
      · go_simp
  · repeat (first | (with_reducible refine vseq ?_) | (with_reducible refine vthenN ?_) | (with_reducible refine vthenE ?_) | (with_reducible refine vthenR ?_) | (with_reducible refine vret ?_) | (with_reducible refine vskip ?_) | (with_reducible refine vexit ?_) | (with_reducible refine vblock ?_) | (with_reducible refine vblockN ?_) | (with_reducible refine vblockR ?_) | (with_reducible refine vblockH ?_) | (with_reducible refine vrun_nil ?_) | (with_reducible refine vblockE rfl ?_) | (with_reducible refine vregion [] ?_) | (with_reducible refine vhrun_nil ?_) | ((with_reducible refine vcondT ?_ ?_); (focus (go_simp; done))) | ((with_reducible refine vcondF ?_ ?_); (focus (go_simp; done))) | ((with_reducible refine vrun_cons fun KK hKK => ?_); go_simp; refine hKK _ ?_; clear hKK KK) | ((with_reducible refine vhrun_cons fun KK hKK => ?_); go_simp; refine hKK _ ?_; clear hKK KK))
    have e := HF.out
    rw [show ks.length - k = 0 by omega, driveP] at e
    subst e
    go_simp
/-- Few licences with short names. -/
def fewL (l : List Rec) : Bool := if (22 : Int) < l.length then false else !anyP (fun k => decide (20 < (rat l k).driver.size)) 0 l.length
theorem v40 (l : List Rec) (hl : l.length ≤ 9223372036854775807) (_hd : ∀ x ∈ l, x.driver.size ≤ 9223372036854775807) : VC Try.prog 40 [recsA l] (B (fewL l)) := by
  generalize hR0 : fewL l = R
  unfold fewL at hR0
  have HR := Lib.hid hR0
  clear hR0
  refine VC_of Try.func40 rfl (by kernel_rfl) (by kernel_rfl) rfl fun M0 w0 => ?_
  simp only [Try.ntmps40, Try.results40, enumA]
  by_cases hlen : (22 : Int) < l.length
  · repeat (first | (with_reducible refine vseq ?_) | (with_reducible refine vthenN ?_) | (with_reducible refine vthenE ?_) | (with_reducible refine vthenR ?_) | (with_reducible refine vret ?_) | (with_reducible refine vskip ?_) | (with_reducible refine vexit ?_) | (with_reducible refine vblock ?_) | (with_reducible refine vblockN ?_) | (with_reducible refine vblockR ?_) | (with_reducible refine vblockH ?_) | (with_reducible refine vrun_nil ?_) | (with_reducible refine vblockE rfl ?_) | (with_reducible refine vregion [] ?_) | (with_reducible refine vhrun_nil ?_) | ((with_reducible refine vcondT ?_ ?_); (focus (go_simp; done))) | ((with_reducible refine vcondF ?_ ?_); (focus (go_simp; done))) | ((with_reducible refine vrun_cons fun KK hKK => ?_); go_simp; refine hKK _ ?_; clear hKK KK) | ((with_reducible refine vhrun_cons fun KK hKK => ?_); go_simp; refine hKK _ ?_; clear hKK KK))
    have e := HR.out
    rw [if_pos hlen] at e
    subst e
    go_simp
  · have e := HR.out
    rw [if_neg hlen] at e
    have HE := Lib.hid e
    clear e
    repeat (first | (with_reducible refine vseq ?_) | (with_reducible refine vthenN ?_) | (with_reducible refine vthenE ?_) | (with_reducible refine vthenR ?_) | (with_reducible refine vret ?_) | (with_reducible refine vskip ?_) | (with_reducible refine vexit ?_) | (with_reducible refine vblock ?_) | (with_reducible refine vblockN ?_) | (with_reducible refine vblockR ?_) | (with_reducible refine vblockH ?_) | (with_reducible refine vrun_nil ?_) | (with_reducible refine vblockE rfl ?_) | (with_reducible refine vregion [] ?_) | (with_reducible refine vhrun_nil ?_) | ((with_reducible refine vcondT ?_ ?_); (focus (go_simp; done))) | ((with_reducible refine vcondF ?_ ?_); (focus (go_simp; done))) | ((with_reducible refine vrun_cons fun KK hKK => ?_); go_simp; refine hKK _ ?_; clear hKK KK) | ((with_reducible refine vhrun_cons fun KK hKK => ?_); go_simp; refine hKK _ ?_; clear hKK KK))
    refine vloop (α := Nat) (fun k => ⟨[(3, I k), (0, recsA l)], []⟩) (fun k => k ≤ l.length ∧ (!anyP (fun k => decide (20 < (rat l k).driver.size)) k (l.length - k)) = R) (fun k => l.length - k) 0 ⟨by omega, HE.out⟩ (by go_simp) ?_
    rintro k ⟨hk, hf⟩ K hR
    have HF := Lib.hid hf
    clear hf
    by_cases hlt : k < l.length
    · have hf := HF.out
      rw [anyP_at hlt, rat_get hlt] at hf
      have HE := Lib.hid hf
      clear hf
      have hw := wrap_eq (x := (k : Int) + 1) (by omega) (by omega)
      by_cases h : 20 < l[k].driver.size
      · have h' : (20 : Int) < l[k].driver.size := by omega
        repeat (first | (with_reducible refine vseq ?_) | (with_reducible refine vthenN ?_) | (with_reducible refine vthenE ?_) | (with_reducible refine vthenR ?_) | (with_reducible refine vret ?_) | (with_reducible refine vskip ?_) | (with_reducible refine vexit ?_) | (with_reducible refine vblock ?_) | (with_reducible refine vblockN ?_) | (with_reducible refine vblockR ?_) | (with_reducible refine vblockH ?_) | (with_reducible refine vrun_nil ?_) | (with_reducible refine vblockE rfl ?_) | (with_reducible refine vregion [] ?_) | (with_reducible refine vhrun_nil ?_) | ((with_reducible refine vcondT ?_ ?_); (focus (go_simp; done))) | ((with_reducible refine vcondF ?_ ?_); (focus (go_simp; done))) | ((with_reducible refine vrun_cons fun KK hKK => ?_); go_simp; refine hKK _ ?_; clear hKK KK) | ((with_reducible refine vhrun_cons fun KK hKK => ?_); go_simp; refine hKK _ ?_; clear hKK KK))
        have e := HE.out
        rw [decide_eq_true h] at e
        simp at e
        subst e
        go_simp
      · have h' : ¬ (20 : Int) < l[k].driver.size := by omega
        repeat (first | (with_reducible refine vseq ?_) | (with_reducible refine vthenN ?_) | (with_reducible refine vthenE ?_) | (with_reducible refine vthenR ?_) | (with_reducible refine vret ?_) | (with_reducible refine vskip ?_) | (with_reducible refine vexit ?_) | (with_reducible refine vblock ?_) | (with_reducible refine vblockN ?_) | (with_reducible refine vblockR ?_) | (with_reducible refine vblockH ?_) | (with_reducible refine vrun_nil ?_) | (with_reducible refine vblockE rfl ?_) | (with_reducible refine vregion [] ?_) | (with_reducible refine vhrun_nil ?_) | ((with_reducible refine vcondT ?_ ?_); (focus (go_simp; done))) | ((with_reducible refine vcondF ?_ ?_); (focus (go_simp; done))) | ((with_reducible refine vrun_cons fun KK hKK => ?_); go_simp; refine hKK _ ?_; clear hKK KK) | ((with_reducible refine vhrun_cons fun KK hKK => ?_); go_simp; refine hKK _ ?_; clear hKK KK))
        refine hR _ (k + 1) ⟨hlt, ?_⟩ (by omega) ?_
        · have := HE.out
          rwa [decide_eq_false h, Bool.false_or] at this
        · go_simp
    · repeat (first | (with_reducible refine vseq ?_) | (with_reducible refine vthenN ?_) | (with_reducible refine vthenE ?_) | (with_reducible refine vthenR ?_) | (with_reducible refine vret ?_) | (with_reducible refine vskip ?_) | (with_reducible refine vexit ?_) | (with_reducible refine vblock ?_) | (with_reducible refine vblockN ?_) | (with_reducible refine vblockR ?_) | (with_reducible refine vblockH ?_) | (with_reducible refine vrun_nil ?_) | (with_reducible refine vblockE rfl ?_) | (with_reducible refine vregion [] ?_) | (with_reducible refine vhrun_nil ?_) | ((with_reducible refine vcondT ?_ ?_); (focus (go_simp; done))) | ((with_reducible refine vcondF ?_ ?_); (focus (go_simp; done))) | ((with_reducible refine vrun_cons fun KK hKK => ?_); go_simp; refine hKK _ ?_; clear hKK KK) | ((with_reducible refine vhrun_cons fun KK hKK => ?_); go_simp; refine hKK _ ?_; clear hKK KK))
      have e := HF.out
      rw [show l.length - k = 0 by omega, anyP] at e
      subst e
      go_simp
theorem fewL_true {l : List Rec} (h : fewL l = true) : l.length ≤ 22 ∧ Small l := by
  unfold fewL at h
  split at h
  · cases h
  · refine ⟨by omega, fun x hx => ?_⟩
    obtain ⟨k, hk, rfl⟩ := List.getElem_of_mem hx
    simp only [Bool.not_eq_true'] at h
    rcases Nat.lt_or_ge 20 l[k].driver.size with h1 | h1
    · have : anyP (fun k => decide (20 < (rat l k).driver.size)) 0 l.length = true := (anyP_iff _ _).2 ⟨k, Nat.zero_le _, by omega, by rw [rat_get hk]; exact decide_eq_true h1⟩
      rw [this] at h
      cases h
    · omega
theorem v10 (l : List Rec) (ks : List ByteArray) (date : Int) (hl : l.length ≤ 9223372036854775807) (hd : ∀ x ∈ l, x.driver.size ≤ 9223372036854775807) (hl2 : ks.length ≤ 9223372036854775807) (_hd2 : ∀ x ∈ ks, x.size ≤ 9223372036854775807) :
    VC Try.prog 10 [recsA l, txtsA ks, I date] (B true) := by
  refine VC_of Try.func10 rfl (by kernel_rfl) (by kernel_rfl) rfl fun M0 w0 => ?_
  simp only [Try.ntmps10, Try.results10, enumA]
  cases hfew : fewL l
  · repeat (first | (with_reducible refine vseq ?_) | (with_reducible refine vthenN ?_) | (with_reducible refine vthenE ?_) | (with_reducible refine vthenR ?_) | (with_reducible refine vret ?_) | (with_reducible refine vskip ?_) | (with_reducible refine vexit ?_) | (with_reducible refine vblock ?_) | (with_reducible refine vblockN ?_) | (with_reducible refine vblockR ?_) | (with_reducible refine vblockH ?_) | (with_reducible refine vrun_nil ?_) | (with_reducible refine vblockE rfl ?_) | (with_reducible refine vregion [] ?_) | (with_reducible refine vhrun_nil ?_) | ((with_reducible refine vcondT ?_ ?_); (focus (go_simp; done))) | ((with_reducible refine vcondF ?_ ?_); (focus (go_simp; done))) | ((with_reducible refine vrun_cons fun KK hKK => ?_); go_simp; (first | (with_reducible refine ⟨_, v17, ?_⟩) | (with_reducible refine ⟨_, v40 l hl hd, ?_⟩) | skip); refine hKK _ ?_; clear hKK KK) | ((with_reducible refine vhrun_cons fun KK hKK => ?_); go_simp; (first | (with_reducible refine ⟨_, v17, ?_⟩) | (with_reducible refine ⟨_, v40 l hl hd, ?_⟩) | skip); refine hKK _ ?_; clear hKK KK))
    go_simp
  · obtain ⟨hl3, hsm⟩ := fewL_true hfew
    have HS := Lib.hid hsm
    clear hsm
    by_cases hlen : (22 : Int) < ks.length
    · repeat (first | (with_reducible refine vseq ?_) | (with_reducible refine vthenN ?_) | (with_reducible refine vthenE ?_) | (with_reducible refine vthenR ?_) | (with_reducible refine vret ?_) | (with_reducible refine vskip ?_) | (with_reducible refine vexit ?_) | (with_reducible refine vblock ?_) | (with_reducible refine vblockN ?_) | (with_reducible refine vblockR ?_) | (with_reducible refine vblockH ?_) | (with_reducible refine vrun_nil ?_) | (with_reducible refine vblockE rfl ?_) | (with_reducible refine vregion [] ?_) | (with_reducible refine vhrun_nil ?_) | ((with_reducible refine vcondT ?_ ?_); (focus (go_simp; done))) | ((with_reducible refine vcondF ?_ ?_); (focus (go_simp; done))) | ((with_reducible refine vrun_cons fun KK hKK => ?_); go_simp; (first | (with_reducible refine ⟨_, v17, ?_⟩) | (with_reducible refine ⟨_, v40 l hl hd, ?_⟩) | skip); refine hKK _ ?_; clear hKK KK) | ((with_reducible refine vhrun_cons fun KK hKK => ?_); go_simp; (first | (with_reducible refine ⟨_, v17, ?_⟩) | (with_reducible refine ⟨_, v40 l hl hd, ?_⟩) | skip); refine hKK _ ?_; clear hKK KK))
      go_simp
    · repeat (first | (with_reducible refine vseq ?_) | (with_reducible refine vthenN ?_) | (with_reducible refine vthenE ?_) | (with_reducible refine vthenR ?_) | (with_reducible refine vret ?_) | (with_reducible refine vskip ?_) | (with_reducible refine vexit ?_) | (with_reducible refine vblock ?_) | (with_reducible refine vblockN ?_) | (with_reducible refine vblockR ?_) | (with_reducible refine vblockH ?_) | (with_reducible refine vrun_nil ?_) | (with_reducible refine vblockE rfl ?_) | (with_reducible refine vregion [] ?_) | (with_reducible refine vhrun_nil ?_) | ((with_reducible refine vcondT ?_ ?_); (focus (go_simp; done))) | ((with_reducible refine vcondF ?_ ?_); (focus (go_simp; done))) | ((with_reducible refine vrun_cons fun KK hKK => ?_); go_simp; (first | (with_reducible refine ⟨_, v17, ?_⟩) | (with_reducible refine ⟨_, v40 l hl hd, ?_⟩) | skip); refine hKK _ ?_; clear hKK KK) | ((with_reducible refine vhrun_cons fun KK hKK => ?_); go_simp; (first | (with_reducible refine ⟨_, v17, ?_⟩) | (with_reducible refine ⟨_, v40 l hl hd, ?_⟩) | skip); refine hKK _ ?_; clear hKK KK))
      refine vloop (α := Nat) (fun k => ⟨[(7, I k), (1, txtsA ks), (0, recsA l), (2, I date)], []⟩) (fun k => k ≤ ks.length ∧ Hid (∀ j, j < k → (tat ks j).size ≤ 20)) (fun k => ks.length - k) 0 ⟨by omega, Lib.hid (fun j hj => absurd hj (Nat.not_lt_zero j))⟩ (by go_simp) ?_
      rintro k ⟨hk, HF⟩ K hR
      by_cases hlt : k < ks.length
      · have hw := wrap_eq (x := (k : Int) + 1) (by omega) (by omega)
        by_cases h : 20 < ks[k].size
        · have h' : (20 : Int) < ks[k].size := by omega
          repeat (first | (with_reducible refine vseq ?_) | (with_reducible refine vthenN ?_) | (with_reducible refine vthenE ?_) | (with_reducible refine vthenR ?_) | (with_reducible refine vret ?_) | (with_reducible refine vskip ?_) | (with_reducible refine vexit ?_) | (with_reducible refine vblock ?_) | (with_reducible refine vblockN ?_) | (with_reducible refine vblockR ?_) | (with_reducible refine vblockH ?_) | (with_reducible refine vrun_nil ?_) | (with_reducible refine vblockE rfl ?_) | (with_reducible refine vregion [] ?_) | (with_reducible refine vhrun_nil ?_) | ((with_reducible refine vcondT ?_ ?_); (focus (go_simp; done))) | ((with_reducible refine vcondF ?_ ?_); (focus (go_simp; done))) | ((with_reducible refine vrun_cons fun KK hKK => ?_); go_simp; refine hKK _ ?_; clear hKK KK) | ((with_reducible refine vhrun_cons fun KK hKK => ?_); go_simp; refine hKK _ ?_; clear hKK KK))
          go_simp
        · have h' : ¬ (20 : Int) < ks[k].size := by omega
          repeat (first | (with_reducible refine vseq ?_) | (with_reducible refine vthenN ?_) | (with_reducible refine vthenE ?_) | (with_reducible refine vthenR ?_) | (with_reducible refine vret ?_) | (with_reducible refine vskip ?_) | (with_reducible refine vexit ?_) | (with_reducible refine vblock ?_) | (with_reducible refine vblockN ?_) | (with_reducible refine vblockR ?_) | (with_reducible refine vblockH ?_) | (with_reducible refine vrun_nil ?_) | (with_reducible refine vblockE rfl ?_) | (with_reducible refine vregion [] ?_) | (with_reducible refine vhrun_nil ?_) | ((with_reducible refine vcondT ?_ ?_); (focus (go_simp; done))) | ((with_reducible refine vcondF ?_ ?_); (focus (go_simp; done))) | ((with_reducible refine vrun_cons fun KK hKK => ?_); go_simp; refine hKK _ ?_; clear hKK KK) | ((with_reducible refine vhrun_cons fun KK hKK => ?_); go_simp; refine hKK _ ?_; clear hKK KK))
          refine hR _ (k + 1) ⟨hlt, Lib.hid fun j hj => ?_⟩ (by omega) ?_
          · by_cases hjk : j = k
            · subst hjk
              rw [tat_get hlt]
              omega
            · exact HF.out j (by omega)
          · go_simp
      · have hs2 : SmallT ks := fun x hx => by
          obtain ⟨j, hj, rfl⟩ := List.getElem_of_mem hx
          have := HF.out j (by omega)
          rw [tat_get hj] at this
          omega
        have HT := Lib.hid hs2
        clear hs2
        have h41 := Lib.hid (v41 l ks date (by omega) HS.out (by omega) HT.out)
        by_cases h0 : driveE l ks date = 0
        · have hc := VC_of_own (o42 l (by omega))
          repeat (first | (with_reducible refine vseq ?_) | (with_reducible refine vthenN ?_) | (with_reducible refine vthenE ?_) | (with_reducible refine vthenR ?_) | (with_reducible refine vret ?_) | (with_reducible refine vskip ?_) | (with_reducible refine vexit ?_) | (with_reducible refine vblock ?_) | (with_reducible refine vblockN ?_) | (with_reducible refine vblockR ?_) | (with_reducible refine vblockH ?_) | (with_reducible refine vrun_nil ?_) | (with_reducible refine vblockE rfl ?_) | (with_reducible refine vregion [] ?_) | (with_reducible refine vhrun_nil ?_) | ((with_reducible refine vcondT ?_ ?_); (focus (go_simp; done))) | ((with_reducible refine vcondF ?_ ?_); (focus (go_simp; done))) | ((with_reducible refine vrun_cons fun KK hKK => ?_); go_simp; (first | (refine ⟨_, VC_of_own (o42 l (by omega)), ?_⟩) | (refine ⟨_, VC_of_own (o43 ks (by omega)), ?_⟩) | (refine ⟨_, h41.out, ?_⟩) | (with_reducible refine ⟨_, v44 l ks date (by omega) HS.out (by omega) HT.out, ?_⟩) | (with_reducible refine ⟨_, v45 l ks date (by omega) (by omega), ?_⟩) | skip); refine hKK _ ?_; clear hKK KK) | ((with_reducible refine vhrun_cons fun KK hKK => ?_); go_simp; (first | (refine ⟨_, VC_of_own (o42 l (by omega)), ?_⟩) | (refine ⟨_, VC_of_own (o43 ks (by omega)), ?_⟩) | (refine ⟨_, h41.out, ?_⟩) | (with_reducible refine ⟨_, v44 l ks date (by omega) HS.out (by omega) HT.out, ?_⟩) | (with_reducible refine ⟨_, v45 l ks date (by omega) (by omega), ?_⟩) | skip); refine hKK _ ?_; clear hKK KK))
          go_simp
        · repeat (first | (with_reducible refine vseq ?_) | (with_reducible refine vthenN ?_) | (with_reducible refine vthenE ?_) | (with_reducible refine vthenR ?_) | (with_reducible refine vret ?_) | (with_reducible refine vskip ?_) | (with_reducible refine vexit ?_) | (with_reducible refine vblock ?_) | (with_reducible refine vblockN ?_) | (with_reducible refine vblockR ?_) | (with_reducible refine vblockH ?_) | (with_reducible refine vrun_nil ?_) | (with_reducible refine vblockE rfl ?_) | (with_reducible refine vregion [] ?_) | (with_reducible refine vhrun_nil ?_) | ((with_reducible refine vcondT ?_ ?_); (focus (go_simp; done))) | ((with_reducible refine vcondF ?_ ?_); (focus (go_simp; done))) | ((with_reducible refine vrun_cons fun KK hKK => ?_); go_simp; (first | (refine ⟨_, VC_of_own (o42 l (by omega)), ?_⟩) | (refine ⟨_, VC_of_own (o43 ks (by omega)), ?_⟩) | (refine ⟨_, h41.out, ?_⟩) | (with_reducible refine ⟨_, v44 l ks date (by omega) HS.out (by omega) HT.out, ?_⟩) | (with_reducible refine ⟨_, v45 l ks date (by omega) (by omega), ?_⟩) | skip); refine hKK _ ?_; clear hKK KK) | ((with_reducible refine vhrun_cons fun KK hKK => ?_); go_simp; (first | (refine ⟨_, VC_of_own (o42 l (by omega)), ?_⟩) | (refine ⟨_, VC_of_own (o43 ks (by omega)), ?_⟩) | (refine ⟨_, h41.out, ?_⟩) | (with_reducible refine ⟨_, v44 l ks date (by omega) HS.out (by omega) HT.out, ?_⟩) | (with_reducible refine ⟨_, v45 l ks date (by omega) (by omega), ?_⟩) | skip); refine hKK _ ?_; clear hKK KK))
          go_simp
end Go.Proofs.Ytmfmpagfjgpodaa
