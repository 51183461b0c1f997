/- Texts in one: Walks: the text of an event. -/
import Derived.Test.YtoibondihdhnoaaGreatDoorFR41
import Derived.Test.YtoibondihdhnoaaGreatDoorFR46
/-! R19: Walks: the text of an event. -/
namespace Go.Proofs.YtoibondihdhnoaaGreatDoor
open Go.RowKit Go.Shelf
set_option maxRecDepth 100000
set_option maxHeartbeats 2000000
theorem bl_len2 (a : ByteArray) : (bl a).length = a.size := size_L a
theorem join_four (a b c d s : ByteArray) : joinB [a, b, c, d] s = a ++ s ++ b ++ s ++ c ++ s ++ d := by
  apply bl_inj
  simp only [bl_app]
  show (Lib.join ([a, b, c, d].map bl) (bl s)) = _
  rw [List.map_cons, Lib.join_cons]
  simp [Lib.joinTail, List.append_assoc]
theorem joinlen_four (a b c d s : ByteArray) : (Lib.join ([a, b, c, d].map bl) (bl s)).length = a.size + s.size + b.size + s.size + c.size + s.size + d.size := by
  simp only [← bl_len2]
  rw [List.map_cons, Lib.join_cons]
  simp [Lib.joinTail]
  omega
theorem kindT_size (k : Int) : (kindT k).size ≤ 8 := by
  unfold kindT
  generalize k.toNat = n
  rcases n with _ | _ | _ | _ | _ | _ | n
  all_goals first | decide | simp [kdat, kdL]
def wordsL : List ByteArray := [⟨#[97, 114, 114, 105, 118, 101]⟩, ⟨#[115, 101, 114, 118, 101]⟩, ⟨#[100, 101, 99, 108, 105, 110, 101]⟩, ⟨#[108, 101, 97, 118, 101]⟩, ⟨#[99, 97, 108, 108]⟩, ⟨#[114, 101, 116, 117, 114, 110]⟩]
theorem v_words : VC Tryz.prog 111 [] (txtsA wordsL) := by
  unfold wordsL
  refine VC_of Tryz.func111 rfl (by kernel_rfl) (by kernel_rfl) rfl fun M0 w0 => ?_
  simp only [Tryz.ntmps111, Tryz.results111, enumA]
  repeat' (first | (with_reducible first | refine vseq ?_ | refine vthenN ?_ | refine vret ?_ | refine vrun_nil ?_ | refine vregion [] ?_) | ((with_reducible refine vrun_cons fun KK hKK => ?_); go_simp; refine hKK _ ?_; clear hKK KK))
  go_simp
theorem word_at {k : Nat} (h : k < 6) : kindT (k : Int) = tat wordsL k := by
  rcases k with _ | _ | _ | _ | _ | _ | k
  all_goals first | rfl | omega
theorem r_FormatEvent (x : Ev) (hc : x.car.size ≤ 1000) (ht : i64 x.time) (hr : i64 x.rank) : VC Tryz.prog 48 [evA x] (S (evText x)) := by
  have i1 := b_within x.kind 0 5
  have g1 := b_Decimal x.time ht
  have g2 := b_Decimal x.rank hr
  have s1 := dec_le ht
  have s2 := dec_le hr
  have gw := v_words
  obtain ⟨kd, tm, rk, car⟩ := x
  simp only [evA] at *
  unfold evText
  cases hD : inR kd 0 5
  · rw [hD] at i1
    clear hD
    refine VC_of Tryz.func48 rfl (by kernel_rfl) (by kernel_rfl) rfl fun M0 w0 => ?_
    simp only [Tryz.ntmps48, Tryz.results48, enumA]
    repeat' (first | (with_reducible first | refine vseq ?_ | refine vthenN ?_ | refine vthenR ?_ | refine vret ?_ | refine vrun_nil ?_ | refine vregion [] ?_) | ((with_reducible refine vcondT ?_ ?_); (focus (go_simp; done))) | ((with_reducible refine vrun_cons fun KK hKK => ?_); go_simp; (first | (with_reducible refine ⟨_, i1, ?_⟩) | skip); refine hKK _ ?_; clear hKK KK))
    go_simp
  · rw [hD] at i1
    have hk := inR_iff.1 hD
    simp only
    rw [join_four]
    obtain ⟨k, rfl⟩ : ∃ k : Nat, kd = k := ⟨kd.toNat, by omega⟩
    have hk6 : k < 6 := by omega
    have s3 := kindT_size (k : Int)
    rw [word_at hk6] at s3 ⊢
    have hl6 : wordsL.length = 6 := rfl
    have hkl : k < wordsL.length := by omega
    have hs1 : (⟨#[32]⟩ : ByteArray).size = 1 := rfl
    have hs2 : (⟨#[45]⟩ : ByteArray).size = 1 := rfl
    have hat := (tat_get hkl).symm
    unfold dashT
    clear hD hk ht hr hk6 hl6
    generalize decT tm = D1 at *
    generalize decT rk = D2 at *
    generalize wordsL = WL at *
    generalize tat WL k = W at *
    have z1 : W.size + 1 ≤ 9223372036854775807 := by omega
    have z2 : W.size + 1 + D1.size ≤ 9223372036854775807 := by omega
    have z3 : W.size + 1 + D1.size + 1 ≤ 9223372036854775807 := by omega
    have z4 : W.size + 1 + D1.size + 1 + D2.size ≤ 9223372036854775807 := by omega
    have z5 : W.size + 1 + D1.size + 1 + D2.size + 1 ≤ 9223372036854775807 := by omega
    have z6 : W.size + 1 + D1.size + 1 + D2.size + 1 + 1 ≤ 9223372036854775807 := by omega
    have z7 : W.size + 1 + D1.size + 1 + D2.size + 1 + car.size ≤ 9223372036854775807 := by omega
    clear s1 s2 s3 hc
    by_cases hcar : car = ⟨#[]⟩
    · subst hcar
      refine VC_of Tryz.func48 rfl (by kernel_rfl) (by kernel_rfl) rfl fun M0 w0 => ?_
      simp only [Tryz.ntmps48, Tryz.results48, enumA]
      repeat' (first | (with_reducible first | refine vseq ?_ | refine vthenN ?_ | refine vret ?_ | refine vskip ?_ | refine vrun_nil ?_ | refine vregion [] ?_ | refine vhrun_nil ?_) | ((with_reducible refine vcondT ?_ ?_); (focus (go_simp; done))) | ((with_reducible refine vcondF ?_ ?_); (focus (go_simp; done))) | ((with_reducible first | refine vrun_cons fun KK hKK => ?_ | refine vhrun_cons fun KK hKK => ?_); go_simp; (first | (with_reducible refine ⟨_, i1, ?_⟩) | (with_reducible refine ⟨_, gw, ?_⟩) | (with_reducible refine ⟨_, g1, ?_⟩) | (with_reducible refine ⟨_, g2, ?_⟩) | skip); refine hKK _ ?_; clear hKK KK) | ((refine vdrawL 19 19 [] rfl (by kernel_rfl) (by kernel_rfl) ?_); simp only [List.take, List.drop]))
      go_simp
    · have hcar2 : ¬ car = ByteArray.empty := hcar
      refine VC_of Tryz.func48 rfl (by kernel_rfl) (by kernel_rfl) rfl fun M0 w0 => ?_
      simp only [Tryz.ntmps48, Tryz.results48, enumA]
      repeat' (first | (with_reducible first | refine vseq ?_ | refine vthenN ?_ | refine vret ?_ | refine vskip ?_ | refine vrun_nil ?_ | refine vregion [] ?_ | refine vhrun_nil ?_) | ((with_reducible refine vcondF ?_ ?_); (focus (go_simp; done))) | ((with_reducible first | refine vrun_cons fun KK hKK => ?_ | refine vhrun_cons fun KK hKK => ?_); go_simp; (first | (with_reducible refine ⟨_, i1, ?_⟩) | (with_reducible refine ⟨_, gw, ?_⟩) | (with_reducible refine ⟨_, g1, ?_⟩) | (with_reducible refine ⟨_, g2, ?_⟩) | skip); refine hKK _ ?_; clear hKK KK) | ((refine vdrawL 19 19 [] rfl (by kernel_rfl) (by kernel_rfl) ?_); simp only [List.take, List.drop]))
      go_simp
def fullT (l : List ByteArray) (j : Nat) : Bool := !decide (tat l j = ⟨#[]⟩)
def orT (l : List ByteArray) : ByteArray := if ixP (fullT l) 0 l.length < 0 then ⟨#[]⟩ else tat l (ixP (fullT l) 0 l.length).toNat
theorem v_OrL (l : List ByteArray) (hl : l.length ≤ 1000) : VC Tryz.prog 104 [txtsA l] (S (orT l)) := by
  obtain ⟨R, hR⟩ : ∃ R, orT l = R := ⟨_, rfl⟩
  rw [hR]
  unfold orT at hR
  have HR := Lib.hid hR
  clear hR
  refine VC_of Tryz.func104 rfl (by kernel_rfl) (by kernel_rfl) rfl fun M0 w0 => ?_
  simp only [Tryz.ntmps104, Tryz.results104, enumA]
  repeat' (first | (with_reducible first | refine vseq ?_ | refine vthenN ?_ | refine vblock ?_ | refine vrun_nil ?_ | refine vregion [] ?_) | ((with_reducible refine vrun_cons fun KK hKK => ?_); go_simp; refine hKK _ ?_; clear hKK KK))
  apply vfor [3, 6, 7] (fun k => [(8, I k)]) (fun k => ([] : Hp)) (fullT l) (l.length)
  · go_simp <;> exact rfl
  · go_simp
  · intro k hk HB HP K hK
    obtain ⟨w1, w2, w3, w4, w5, w6⟩ := ixs (m := k) (by omega)
    have hp : l[k] = ⟨#[]⟩ := by
      have := HP.out
      simpa [fullT, tat_get hk] using this
    repeat' (first | (with_reducible first | refine vseq ?_ | refine vthenN ?_ | refine vskip ?_ | refine vblock ?_ | refine vblockN ?_ | refine vrun_nil ?_ | refine vregion [] ?_) | ((with_reducible refine vcondT ?_ ?_); (focus (go_simp; done))) | ((with_reducible refine vcondF ?_ ?_); (focus (go_simp; done))) | ((with_reducible refine vrun_cons fun KK hKK => ?_); go_simp; refine hKK _ ?_; clear hKK KK))
    refine hK _ ?_
    go_simp
  · intro k hk HB HP K
    have hp : ¬ l[k] = ⟨#[]⟩ := by
      have := HP.out
      simpa [fullT, tat_get hk] using this
    have hp2 : ¬ l[k] = ByteArray.empty := hp
    have e := HR.out
    rw [ixP_hit hk HB.out HP.out, if_neg (by omega), Int.toNat_natCast, tat_get hk] at e
    subst e
    repeat' (first | (with_reducible first | refine vseq ?_ | refine vthenN ?_ | refine vthenR ?_ | refine vret ?_ | refine vskip ?_ | refine vblock ?_ | refine vblockR ?_ | refine vrun_nil ?_ | refine vregion [] ?_) | ((with_reducible refine vcondT ?_ ?_); (focus (go_simp; done))) | ((with_reducible refine vrun_cons fun KK hKK => ?_); go_simp; refine hKK _ ?_; clear hKK KK))
    go_simp
  · intro HB K
    have e := HR.out
    rw [ixP_out HB.out, if_pos (by decide)] at e
    subst e
    repeat' (first | (with_reducible first | refine vseq ?_ | refine vthenN ?_ | refine vthenE ?_ | refine vret ?_ | refine vexit ?_ | refine vblockH ?_ | refine vrun_nil ?_ | refine vregion [] ?_) | ((with_reducible refine vcondF ?_ ?_); (focus (go_simp; done))) | ((with_reducible refine vrun_cons fun KK hKK => ?_); go_simp; refine hKK _ ?_; clear hKK KK))
    go_simp
theorem v_Or (c : ByteArray) : VC Tryz.prog 104 [txtsA [c, ⟨#[45]⟩]] (S (dashT c)) := by
  have g := v_OrL [c, ⟨#[45]⟩] (by simp)
  have e : orT [c, ⟨#[45]⟩] = dashT c := by
    unfold orT dashT
    by_cases hc : c = ⟨#[]⟩
    · subst hc
      rfl
    · have : ixP (fullT [c, ⟨#[45]⟩]) 0 [c, ⟨#[45]⟩].length = 0 := by simp [ixP, fullT, tat, hc]
      rw [this, if_neg (by decide), if_neg hc]
      rfl
  rw [e] at g
  exact g
theorem p_FormatEvent (x : Ev) (hc : x.car.size ≤ 1000) (ht : i64 x.time) (hr : i64 x.rank) : VC Tryz.prog 45 [evA x] (S (evText x)) := by
  have i1 := p_within x.kind 0 5
  have g1 := v_ItoaM x.time ht
  have g2 := v_ItoaM x.rank hr
  have g3 := v_Or x.car
  have s1 := dec_le ht
  have s2 := dec_le hr
  have s3 := kindT_size x.kind
  have s4 : (dashT x.car).size ≤ 1000 := by
    unfold dashT
    split
    · decide
    · exact hc
  have g4 := v_Join [kindT x.kind, decT x.time, decT x.rank, dashT x.car] ⟨#[32]⟩ (by
    rw [joinlen_four]
    have : (⟨#[32]⟩ : ByteArray).size = 1 := rfl
    omega) (by simp)
  obtain ⟨kd, tm, rk, car⟩ := x
  simp only [evA] at *
  unfold evText
  clear s1 s2 s3 s4 hc ht hr
  cases hD : inR kd 0 5
  · rw [hD] at i1
    clear hD g4
    refine VC_of Tryz.func45 rfl (by kernel_rfl) (by kernel_rfl) rfl fun M0 w0 => ?_
    simp only [Tryz.ntmps45, Tryz.results45, enumA]
    repeat' (first | (with_reducible first | refine vseq ?_ | refine vthenN ?_ | refine vthenR ?_ | refine vret ?_ | refine vrun_nil ?_ | refine vregion [] ?_) | ((with_reducible refine vcondT ?_ ?_); (focus (go_simp; done))) | ((with_reducible refine vrun_cons fun KK hKK => ?_); go_simp; (first | (with_reducible refine ⟨_, i1, ?_⟩) | skip); refine hKK _ ?_; clear hKK KK))
    go_simp
  · rw [hD] at i1
    have hk := inR_iff.1 hD
    have hk6 : kd = 0 ∨ kd = 1 ∨ kd = 2 ∨ kd = 3 ∨ kd = 4 ∨ kd = 5 := by omega
    simp only
    clear hD hk
    generalize dashT car = C at *
    generalize decT tm = D1 at *
    generalize decT rk = D2 at *
    have e0 : kindT 0 = ⟨#[97, 114, 114, 105, 118, 101]⟩ := rfl
    have e1 : kindT 1 = ⟨#[115, 101, 114, 118, 101]⟩ := rfl
    have e2 : kindT 2 = ⟨#[100, 101, 99, 108, 105, 110, 101]⟩ := rfl
    have e3 : kindT 3 = ⟨#[108, 101, 97, 118, 101]⟩ := rfl
    have e4 : kindT 4 = ⟨#[99, 97, 108, 108]⟩ := rfl
    have e5 : kindT 5 = ⟨#[114, 101, 116, 117, 114, 110]⟩ := rfl
    rcases hk6 with rfl | rfl | rfl | rfl | rfl | rfl
    all_goals
      first
        | rw [e0] at g4 ⊢
        | rw [e1] at g4 ⊢
        | rw [e2] at g4 ⊢
        | rw [e3] at g4 ⊢
        | rw [e4] at g4 ⊢
        | rw [e5] at g4 ⊢
      clear e0 e1 e2 e3 e4 e5
      generalize joinB _ ⟨#[32]⟩ = T at *
      refine VC_of Tryz.func45 rfl (by kernel_rfl) (by kernel_rfl) rfl fun M0 w0 => ?_
      simp only [Tryz.ntmps45, Tryz.results45, enumA]
      repeat' (first | (with_reducible first | refine vseq ?_ | refine vthenN ?_ | refine vret ?_ | refine vskip ?_ | refine vrun_nil ?_ | refine vregion [] ?_ | refine vhrun_nil ?_) | ((with_reducible refine vcondF ?_ ?_); (focus (go_simp; done))) | ((with_reducible first | refine vrun_cons fun KK hKK => ?_ | refine vhrun_cons fun KK hKK => ?_); go_simp; (first | (with_reducible refine ⟨_, i1, ?_⟩) | (with_reducible refine ⟨_, g1, ?_⟩) | (with_reducible refine ⟨_, g2, ?_⟩) | (refine ⟨_, g3, ?_⟩) | (refine ⟨_, g4, ?_⟩) | skip); refine hKK _ ?_; clear hKK KK) | ((refine vdrawL 18 18 [] rfl (by kernel_rfl) (by kernel_rfl) ?_); simp only [List.take, List.drop]))
      go_simp
end Go.Proofs.YtoibondihdhnoaaGreatDoor

/-! R20: Walks: an event is read, as the reference has it. -/
namespace Go.Proofs.YtoibondihdhnoaaGreatDoor
open Go.RowKit Go.Shelf
set_option maxRecDepth 100000
set_option maxHeartbeats 2000000
def kindTo (a : ByteArray) : Nat → Int
  | 0 => -1
  | k + 1 => if tat wordsL k = a then (k : Int) else kindTo a k
@[go_sem] theorem kindTo_0 (a : ByteArray) : kindTo a 0 = -1 := rfl
theorem kindTo_is (a : ByteArray) : kindTo a 6 = kindOf a := by
  have e0 : (kdat kdL 0).1 = tat wordsL 0 := rfl
  have e1 : (kdat kdL 1).1 = tat wordsL 1 := rfl
  have e2 : (kdat kdL 2).1 = tat wordsL 2 := rfl
  have e3 : (kdat kdL 3).1 = tat wordsL 3 := rfl
  have e4 : (kdat kdL 4).1 = tat wordsL 4 := rfl
  have e5 : (kdat kdL 5).1 = tat wordsL 5 := rfl
  unfold kindOf
  simp only [ixP, kindTo, Nat.zero_add, Nat.reduceAdd, e0, e1, e2, e3, e4, e5]
  by_cases h0 : tat wordsL 0 = a
  · subst h0
    decide
  by_cases h1 : tat wordsL 1 = a
  · subst h1
    decide
  by_cases h2 : tat wordsL 2 = a
  · subst h2
    decide
  by_cases h3 : tat wordsL 3 = a
  · subst h3
    decide
  by_cases h4 : tat wordsL 4 = a
  · subst h4
    decide
  by_cases h5 : tat wordsL 5 = a
  · subst h5
    decide
  simp [h0, h1, h2, h3, h4, h5]
theorem kindTo_le (a : ByteArray) : ∀ k, kindTo a k < k ∧ -1 ≤ kindTo a k
  | 0 => by simp [kindTo]
  | k + 1 => by
    have := kindTo_le a k
    rw [kindTo]
    split <;> omega
def evR (K : Int) (N1 N2 : Option Int) (c : ByteArray) : Ev × Int :=
  if K < 0 ∨ N1 = none ∨ N2 = none then (zeroEv, 7) else if K = 4 then (if c = ⟨#[45]⟩ then (⟨4, N1.getD 0, N2.getD 0, ⟨#[]⟩⟩, 0) else (zeroEv, 3)) else if isName c = true then (⟨K, N1.getD 0, N2.getD 0, c⟩, 0) else (zeroEv, 4)
theorem evP_eq {w : List ByteArray} (hb : badW w = false) : evP w = evR (kindOf (tat w 0)) (numT (tat w 1).data.toList) (numT (tat w 2).data.toList) (tat w 3) := by
  unfold evP
  rw [hb, if_neg (by decide)]
  unfold evPE evR
  rw [progOK_eq, progOK_eq]
  generalize kindOf (tat w 0) = K
  cases h1 : numT (tat w 1).data.toList with
  | none => simp [fst, unl]
  | some a =>
    cases h2 : numT (tat w 2).data.toList with
    | none => simp [fst, unl]
    | some b =>
      rw [progN_num h1, progN_num h2]
      by_cases hK : K < 0
      · have : decide (0 ≤ K) = false := decide_eq_false (by omega)
        simp [fst, unl, this, hK]
      · have : decide (0 ≤ K) = true := decide_eq_true (by omega)
        by_cases h4 : K = 4
        · subst h4
          by_cases hc : tat w 3 = ⟨#[45]⟩ <;> simp [fst, unl, hc]
        · by_cases hn : isName (tat w 3) = true <;> simp [fst, unl, this, hK, h4, hn]
theorem r_ParseEventB (s : ByteArray) (hs : s.size ≤ 1000) (hb : badW (pieces 32 s) = true) : VC Tryz.prog 47 [S s] (.tup [evA zeroEv, I 7]) := by
  have g1 := b_Cut32 s (by omega)
  have hpl := pieces_len 32 s
  have g2 := b_HasText (pieces 32 s) ⟨#[]⟩ (by omega)
  unfold badW at hb
  unfold zeroEv
  generalize pieces 32 s = w at *
  by_cases h4 : w.length = 4
  · rw [decide_eq_true h4, Bool.not_true, Bool.false_or] at hb
    rw [hb] at g2
    have h5 : (w.length : Int) = 4 := by omega
    clear hb hpl
    refine VC_of Tryz.func47 rfl (by kernel_rfl) (by kernel_rfl) rfl fun M0 w0 => ?_
    simp only [Tryz.ntmps47, Tryz.results47, enumA]
    repeat' (first | (with_reducible first | refine vseq ?_ | refine vthenN ?_ | refine vthenR ?_ | refine vret ?_ | refine vrun_nil ?_ | refine vregion [] ?_) | ((with_reducible refine vcondT ?_ ?_); (focus (go_simp; done))) | ((with_reducible refine vrun_cons fun KK hKK => ?_); go_simp; (first | (with_reducible refine ⟨_, g1, ?_⟩) | (refine ⟨_, g2, ?_⟩) | skip); refine hKK _ ?_; clear hKK KK))
    all_goals go_simp
  · have h5 : ¬ (w.length : Int) = 4 := by omega
    clear hb hpl
    refine VC_of Tryz.func47 rfl (by kernel_rfl) (by kernel_rfl) rfl fun M0 w0 => ?_
    simp only [Tryz.ntmps47, Tryz.results47, enumA]
    repeat' (first | (with_reducible first | refine vseq ?_ | refine vthenN ?_ | refine vthenR ?_ | refine vret ?_ | refine vrun_nil ?_ | refine vregion [] ?_) | ((with_reducible refine vcondT ?_ ?_); (focus (go_simp; done))) | ((with_reducible refine vrun_cons fun KK hKK => ?_); go_simp; (first | (with_reducible refine ⟨_, g1, ?_⟩) | skip); refine hKK _ ?_; clear hKK KK))
    all_goals go_simp
theorem r_ParseEvent (s : ByteArray) (hs : s.size ≤ 1000) : VC Tryz.prog 47 [S s] (.tup [evA (evP (pieces 32 s)).1, I (evP (pieces 32 s)).2]) := by
  by_cases hb : badW (pieces 32 s) = true
  · have h := r_ParseEventB s hs hb
    unfold evP
    rw [if_pos hb]
    exact h
  have hb2 : badW (pieces 32 s) = false := by simpa using hb
  rw [evP_eq hb2]
  clear hb2
  have g1 := b_Cut32 s (by omega)
  have hpl := pieces_len 32 s
  have g2 := b_HasText (pieces 32 s) ⟨#[]⟩ (by omega)
  have hps : ∀ p ∈ pieces 32 s, p.size ≤ 1000 := fun p hp => Nat.le_trans (pieces_size hp) hs
  unfold badW at hb
  generalize pieces 32 s = w at *
  have h4 : w.length = 4 := by
    by_cases h : w.length = 4
    · exact h
    · rw [decide_eq_false h] at hb
      simp at hb
  have hany : anyP (isT w ⟨#[]⟩) 0 w.length = false := by
    rw [decide_eq_true h4] at hb
    simpa using hb
  rw [hany] at g2
  have h5 : (w.length : Int) = 4 := by omega
  have a0 : w[0] = tat w 0 := (tat_get (by omega)).symm
  have a1 : w[1] = tat w 1 := (tat_get (by omega)).symm
  have a2 : w[2] = tat w 2 := (tat_get (by omega)).symm
  have a3 : w[3] = tat w 3 := (tat_get (by omega)).symm
  have z1 : (tat w 1).size ≤ 1000 := by rw [← a1]; exact hps _ (List.getElem_mem _)
  have z2 : (tat w 2).size ≤ 1000 := by rw [← a2]; exact hps _ (List.getElem_mem _)
  have z3 : (tat w 3).size ≤ 1000 := by rw [← a3]; exact hps _ (List.getElem_mem _)
  have g4 := b_Number (tat w 1) z1
  have g5 := b_Number (tat w 2) z2
  have g6 := b_isName (tat w 3) (by omega)
  have gw := v_words
  have hk1 := kindTo_is (tat w 0)
  have hkl := kindTo_le (tat w 0)
  have HK := Lib.hid hkl
  rw [← hk1]
  obtain ⟨RR, hRR⟩ : ∃ RR, evR (kindTo (tat w 0) 6) (numT (tat w 1).data.toList) (numT (tat w 2).data.toList) (tat w 3) = RR := ⟨_, rfl⟩
  rw [hRR]
  unfold evR zeroEv at hRR
  have HR := Lib.hid hRR
  have hl6 : wordsL.length = 6 := rfl
  clear hany hb hps hpl z1 z2 z3 hk1 hRR hkl
  generalize tat w 0 = W0 at *
  generalize tat w 3 = W3 at *
  generalize numT (tat w 1).data.toList = N1 at *
  generalize numT (tat w 2).data.toList = N2 at *
  refine VC_of Tryz.func47 rfl (by kernel_rfl) (by kernel_rfl) rfl fun M0 w0 => ?_
  simp only [Tryz.ntmps47, Tryz.results47, enumA]
  repeat' (first | (with_reducible first | refine vseq ?_ | refine vthenN ?_ | refine vskip ?_ | refine vblock ?_ | refine vrun_nil ?_ | refine vregion [] ?_) | ((with_reducible refine vcondF ?_ ?_); (focus (go_simp; done))) | ((with_reducible refine vrun_cons fun KK hKK => ?_); go_simp; (first | (with_reducible refine ⟨_, g1, ?_⟩) | (refine ⟨_, g2, ?_⟩) | skip); refine hKK _ ?_; clear hKK KK))
  apply vcnt [2, 4, 5] (fun k => [(6, I k)]) (fun k => ([some (.box [I 0, I 0, I 0, S ⟨#[]⟩]), some (.box [I (kindTo W0 k), I 0, I 0, S W3])] : Hp))  (6)
  · go_simp <;> exact rfl
  · go_simp
  · intro k hk K hK
    obtain ⟨w1, w2, w3, w4, w5, w6⟩ := ixs (m := k) (by omega)
    have hkw : k < wordsL.length := by omega
    have hkl6 : (k : Int) < 6 := by omega
    have hat := (tat_get hkw).symm
    by_cases he : tat wordsL k = W0
    · have e : kindTo W0 (k + 1) = k := by rw [kindTo, if_pos he]
      rw [e] at hK
      generalize kindTo W0 k = KK at *
      repeat' (first | (with_reducible first | refine vseq ?_ | refine vthenN ?_ | refine vskip ?_ | refine vblock ?_ | refine vblockN ?_ | refine vrun_nil ?_ | refine vregion [] ?_ | refine vhrun_nil ?_) | ((with_reducible refine vcondT ?_ ?_); (focus (go_simp; done))) | ((with_reducible first | refine vrun_cons fun KK hKK => ?_ | refine vhrun_cons fun KK hKK => ?_); go_simp; (first | (with_reducible refine ⟨_, gw, ?_⟩) | skip); refine hKK _ ?_; clear hKK KK) | ((refine vdrawL 8 8 [] rfl (by kernel_rfl) (by kernel_rfl) ?_); simp only [List.take, List.drop]))
      refine hK _ ?_
      go_simp
    · have e : kindTo W0 (k + 1) = kindTo W0 k := by rw [kindTo, if_neg he]
      rw [e] at hK
      generalize kindTo W0 k = KK at *
      repeat' (first | (with_reducible first | refine vseq ?_ | refine vthenN ?_ | refine vskip ?_ | refine vblock ?_ | refine vblockN ?_ | refine vrun_nil ?_ | refine vregion [] ?_ | refine vhrun_nil ?_) | ((with_reducible refine vcondT ?_ ?_); (focus (go_simp; done))) | ((with_reducible refine vcondF ?_ ?_); (focus (go_simp; done))) | ((with_reducible first | refine vrun_cons fun KK hKK => ?_ | refine vhrun_cons fun KK hKK => ?_); go_simp; (first | (with_reducible refine ⟨_, gw, ?_⟩) | skip); refine hKK _ ?_; clear hKK KK) | ((refine vdrawL 8 8 [] rfl (by kernel_rfl) (by kernel_rfl) ?_); simp only [List.take, List.drop]))
      refine hK _ ?_
      go_simp
  · intro K
    have hkk := HK.out 6
    generalize kindTo W0 6 = KK at *
    have hr := HR.out
    by_cases hK0 : KK < 0
    · rw [if_pos (.inl hK0)] at hr
      subst hr
      repeat' (first | (with_reducible first | refine vseq ?_ | refine vthenN ?_ | refine vthenE ?_ | refine vthenR ?_ | refine vret ?_ | refine vexit ?_ | refine vblockH ?_ | refine vrun_nil ?_ | refine vregion [] ?_) | ((with_reducible refine vcondT ?_ ?_); (focus (go_simp; done))) | ((with_reducible refine vcondF ?_ ?_); (focus (go_simp; done))) | ((with_reducible refine vrun_cons fun KK hKK => ?_); go_simp; (first | (with_reducible refine ⟨_, gw, ?_⟩) | (with_reducible refine ⟨_, g4, ?_⟩) | (with_reducible refine ⟨_, g5, ?_⟩) | skip); refine hKK _ ?_; clear hKK KK))
      go_simp
    cases N1 with
    | none =>
      rw [if_pos (.inr (.inl rfl))] at hr
      subst hr
      simp only [numR] at g4
      repeat' (first | (with_reducible first | refine vseq ?_ | refine vthenN ?_ | refine vthenE ?_ | refine vthenR ?_ | refine vret ?_ | refine vexit ?_ | refine vblockH ?_ | refine vrun_nil ?_ | refine vregion [] ?_) | ((with_reducible refine vcondT ?_ ?_); (focus (go_simp; done))) | ((with_reducible refine vcondF ?_ ?_); (focus (go_simp; done))) | ((with_reducible refine vrun_cons fun KK hKK => ?_); go_simp; (first | (with_reducible refine ⟨_, gw, ?_⟩) | (with_reducible refine ⟨_, g4, ?_⟩) | (with_reducible refine ⟨_, g5, ?_⟩) | skip); refine hKK _ ?_; clear hKK KK))
      go_simp
    | some n1 =>
      simp only [numR] at g4
      cases N2 with
      | none =>
        rw [if_pos (.inr (.inr rfl))] at hr
        subst hr
        simp only [numR] at g5
        repeat' (first | (with_reducible first | refine vseq ?_ | refine vthenN ?_ | refine vthenE ?_ | refine vthenR ?_ | refine vret ?_ | refine vexit ?_ | refine vblockH ?_ | refine vrun_nil ?_ | refine vregion [] ?_) | ((with_reducible refine vcondT ?_ ?_); (focus (go_simp; done))) | ((with_reducible refine vcondF ?_ ?_); (focus (go_simp; done))) | ((with_reducible refine vrun_cons fun KK hKK => ?_); go_simp; (first | (with_reducible refine ⟨_, gw, ?_⟩) | (with_reducible refine ⟨_, g4, ?_⟩) | (with_reducible refine ⟨_, g5, ?_⟩) | skip); refine hKK _ ?_; clear hKK KK))
        go_simp
      | some n2 =>
        simp only [numR] at g5
        rw [if_neg (by simp; omega)] at hr
        simp only [Option.getD_some] at hr
        by_cases h44 : KK = 4
        · subst h44
          rw [if_pos rfl] at hr
          by_cases hc : W3 = ⟨#[45]⟩
          · rw [if_pos hc] at hr
            subst hr
            subst hc
            repeat' (first | (with_reducible first | refine vseq ?_ | refine vthenN ?_ | refine vthenE ?_ | refine vthenR ?_ | refine vret ?_ | refine vskip ?_ | refine vexit ?_ | refine vblockH ?_ | refine vrun_nil ?_ | refine vregion [] ?_) | ((with_reducible refine vcondT ?_ ?_); (focus (go_simp; done))) | ((with_reducible refine vcondF ?_ ?_); (focus (go_simp; done))) | ((with_reducible refine vrun_cons fun KK hKK => ?_); go_simp; (first | (with_reducible refine ⟨_, gw, ?_⟩) | (with_reducible refine ⟨_, g4, ?_⟩) | (with_reducible refine ⟨_, g5, ?_⟩) | skip); refine hKK _ ?_; clear hKK KK))
            go_simp
          · rw [if_neg hc] at hr
            subst hr
            repeat' (first | (with_reducible first | refine vseq ?_ | refine vthenN ?_ | refine vthenE ?_ | refine vthenR ?_ | refine vret ?_ | refine vskip ?_ | refine vexit ?_ | refine vblockH ?_ | refine vrun_nil ?_ | refine vregion [] ?_) | ((with_reducible refine vcondT ?_ ?_); (focus (go_simp; done))) | ((with_reducible refine vcondF ?_ ?_); (focus (go_simp; done))) | ((with_reducible refine vrun_cons fun KK hKK => ?_); go_simp; (first | (with_reducible refine ⟨_, gw, ?_⟩) | (with_reducible refine ⟨_, g4, ?_⟩) | (with_reducible refine ⟨_, g5, ?_⟩) | skip); refine hKK _ ?_; clear hKK KK))
            go_simp
        · rw [if_neg h44] at hr
          cases hn : isName W3
          · rw [hn] at g6 hr
            rw [if_neg (by decide)] at hr
            subst hr
            repeat' (first | (with_reducible first | refine vseq ?_ | refine vthenN ?_ | refine vthenE ?_ | refine vthenR ?_ | refine vret ?_ | refine vskip ?_ | refine vexit ?_ | refine vblockH ?_ | refine vrun_nil ?_ | refine vregion [] ?_) | ((with_reducible refine vcondT ?_ ?_); (focus (go_simp; done))) | ((with_reducible refine vcondF ?_ ?_); (focus (go_simp; done))) | ((with_reducible refine vrun_cons fun KK hKK => ?_); go_simp; (first | (with_reducible refine ⟨_, gw, ?_⟩) | (with_reducible refine ⟨_, g4, ?_⟩) | (with_reducible refine ⟨_, g5, ?_⟩) | (with_reducible refine ⟨_, g6, ?_⟩) | skip); refine hKK _ ?_; clear hKK KK))
            go_simp
          · rw [hn] at g6 hr
            rw [if_pos rfl] at hr
            subst hr
            repeat' (first | (with_reducible first | refine vseq ?_ | refine vthenN ?_ | refine vthenE ?_ | refine vret ?_ | refine vskip ?_ | refine vexit ?_ | refine vblockH ?_ | refine vrun_nil ?_ | refine vregion [] ?_) | ((with_reducible refine vcondF ?_ ?_); (focus (go_simp; done))) | ((with_reducible refine vrun_cons fun KK hKK => ?_); go_simp; (first | (with_reducible refine ⟨_, gw, ?_⟩) | (with_reducible refine ⟨_, g4, ?_⟩) | (with_reducible refine ⟨_, g5, ?_⟩) | (with_reducible refine ⟨_, g6, ?_⟩) | skip); refine hKK _ ?_; clear hKK KK))
            go_simp
end Go.Proofs.YtoibondihdhnoaaGreatDoor

/-! SR3: The law of texts of events: true whatever the input is. -/
namespace Go.Proofs.YtoibondihdhnoaaGreatDoor
open Go.RowKit Go.Shelf
set_option maxRecDepth 100000
set_option maxHeartbeats 2000000
theorem evText_le {x : Ev} (hc : x.car.size ≤ 20) (ht : i64 x.time) (hr : i64 x.rank) : (evText x).size ≤ 1000 := by
  unfold evText
  split
  · rw [joinB_size, joinlen_four]
    have s1 := dec_le ht
    have s2 := dec_le hr
    have s3 := kindT_size x.kind
    have s4 : (dashT x.car).size ≤ 20 := by
      unfold dashT
      split
      · decide
      · exact hc
    have : (⟨#[32]⟩ : ByteArray).size = 1 := rfl
    omega
  · decide
theorem l_EventTexts (x : Ev) (s : ByteArray) (hc : x.car.size ≤ 9223372036854775807) (hs : s.size ≤ 9223372036854775807) (ht : i64 x.time) (hr : i64 x.rank) : VC Tryz.prog 9 [evA x, S s] (B true) := by
  have ha := l_awake
  by_cases h1 : x.car.size ≤ 20 ∧ s.size ≤ 100
  · obtain ⟨h2, h3⟩ := h1
    have g1 := p_FormatEvent x (by omega) ht hr
    have g2 := r_FormatEvent x (by omega) ht hr
    have g3 := p_ParseEvent s (by omega)
    have g4 := r_ParseEvent s (by omega)
    have g5 := p_ParseEvent (evText x) (evText_le h2 ht hr)
    have i1 := b_within x.kind 0 5
    have i2 := b_within x.time (-999999999) 999999999
    have i3 := b_within x.rank (-999999999) 999999999
    have i4 := b_isName x.car (by omega)
    have HB : Hid (inR x.kind 0 5 = true → inR x.time (-999999999) 999999999 = true → inR x.rank (-999999999) 999999999 = true → (x.kind = 4 ↔ x.car = ⟨#[]⟩) → (x.car = ⟨#[]⟩ ∨ isName x.car = true) → evP (pieces 32 (evText x)) = (x, 0)) :=
      Lib.hid fun q1 q2 q3 q4 q5 => ev_back (inR_iff.1 q1) (inR_iff.1 q2) (inR_iff.1 q3) q4 q5
    obtain ⟨kd, tm, rk, car⟩ := x
    simp only [evA] at *
    have k1 : ¬ (20 : Int) < (car.size : Int) := by omega
    have k2 : ¬ (100 : Int) < (s.size : Int) := by omega
    clear h2 h3 hc hs ht hr
    obtain ⟨y, hy⟩ : ∃ y, evP (pieces 32 s) = y := ⟨_, rfl⟩
    rw [hy] at g3 g4
    clear hy
    obtain ⟨⟨yk, yt, yr, yc⟩, ye⟩ := y
    simp only [] at g3 g4
    obtain ⟨z, hz⟩ : ∃ z, evP (pieces 32 (evText ⟨kd, tm, rk, car⟩)) = z := ⟨_, rfl⟩
    rw [hz] at g5 HB
    clear hz
    generalize evText ⟨kd, tm, rk, car⟩ = T at *
    by_cases hok : inR kd 0 5 = true ∧ inR tm (-999999999) 999999999 = true ∧ inR rk (-999999999) 999999999 = true ∧ (kd = 4 ↔ car = ⟨#[]⟩) ∧ (car = ⟨#[]⟩ ∨ isName car = true)
    · obtain ⟨q1, q2, q3, q4, q5⟩ := hok
      have e := HB.out q1 q2 q3 q4 q5
      subst e
      simp only [] at g5
      rw [q1] at i1
      rw [q2] at i2
      rw [q3] at i3
      clear q1 q2 q3 HB
      by_cases h4 : kd = 4
      · have hcar := q4.1 h4
        subst h4
        subst hcar
        clear q4 q5
        refine VC_of Tryz.func9 rfl (by kernel_rfl) (by kernel_rfl) rfl fun M0 w0 => ?_
        simp only [Tryz.ntmps9, Tryz.results9, enumA]
        repeat' (first | (with_reducible first | refine vseq ?_ | refine vthenN ?_ | refine vret ?_ | refine vskip ?_ | refine vrun_nil ?_ | refine vregion [] ?_) | ((with_reducible refine vcondF ?_ ?_); (focus (go_simp; done))) | ((with_reducible refine vrun_cons fun KK hKK => ?_); go_simp; (first | (with_reducible refine ⟨_, ha, ?_⟩) | (refine ⟨_, g1, ?_⟩) | (refine ⟨_, g3, ?_⟩) | (refine ⟨_, g4, ?_⟩) | (refine ⟨_, g2, ?_⟩) | (with_reducible refine ⟨_, i1, ?_⟩) | (with_reducible refine ⟨_, i2, ?_⟩) | (with_reducible refine ⟨_, i3, ?_⟩) | (refine ⟨_, g5, ?_⟩) | skip); refine hKK _ ?_; clear hKK KK))
        go_simp
      · have hcar : ¬ car = ⟨#[]⟩ := fun h => h4 (q4.2 h)
        have hcar2 : ¬ car = ByteArray.empty := hcar
        have hn := q5.resolve_left hcar
        rw [hn] at i4
        clear q4 q5 hn
        refine VC_of Tryz.func9 rfl (by kernel_rfl) (by kernel_rfl) rfl fun M0 w0 => ?_
        simp only [Tryz.ntmps9, Tryz.results9, enumA]
        repeat' (first | (with_reducible first | refine vseq ?_ | refine vthenN ?_ | refine vret ?_ | refine vskip ?_ | refine vrun_nil ?_ | refine vregion [] ?_) | ((with_reducible refine vcondF ?_ ?_); (focus (go_simp; done))) | ((with_reducible refine vrun_cons fun KK hKK => ?_); go_simp; (first | (with_reducible refine ⟨_, ha, ?_⟩) | (refine ⟨_, g1, ?_⟩) | (refine ⟨_, g3, ?_⟩) | (refine ⟨_, g4, ?_⟩) | (refine ⟨_, g2, ?_⟩) | (with_reducible refine ⟨_, i1, ?_⟩) | (with_reducible refine ⟨_, i2, ?_⟩) | (with_reducible refine ⟨_, i3, ?_⟩) | (with_reducible refine ⟨_, i4, ?_⟩) | (refine ⟨_, g5, ?_⟩) | skip); refine hKK _ ?_; clear hKK KK))
        go_simp
    · clear HB
      obtain ⟨⟨zk, zt, zr, zc⟩, ze⟩ := z
      simp only [] at g5
      generalize hE1 : inR kd 0 5 = E1 at *
      generalize hE2 : inR tm (-999999999) 999999999 = E2 at *
      generalize hE3 : inR rk (-999999999) 999999999 = E3 at *
      generalize hE4 : isName car = E4 at *
      clear hE1 hE2 hE3 hE4
      cases E1
      · clear hok
        refine VC_of Tryz.func9 rfl (by kernel_rfl) (by kernel_rfl) rfl fun M0 w0 => ?_
        simp only [Tryz.ntmps9, Tryz.results9, enumA]
        repeat' (first | (with_reducible first | refine vseq ?_ | refine vthenN ?_ | refine vthenR ?_ | refine vret ?_ | refine vskip ?_ | refine vrun_nil ?_ | refine vregion [] ?_) | ((with_reducible refine vcondT ?_ ?_); (focus (go_simp; done))) | ((with_reducible refine vcondF ?_ ?_); (focus (go_simp; done))) | ((with_reducible refine vrun_cons fun KK hKK => ?_); go_simp; (first | (with_reducible refine ⟨_, ha, ?_⟩) | (refine ⟨_, g1, ?_⟩) | (refine ⟨_, g3, ?_⟩) | (refine ⟨_, g4, ?_⟩) | (refine ⟨_, g2, ?_⟩) | (with_reducible refine ⟨_, i1, ?_⟩) | skip); refine hKK _ ?_; clear hKK KK))
        go_simp
      cases E2
      · clear hok
        refine VC_of Tryz.func9 rfl (by kernel_rfl) (by kernel_rfl) rfl fun M0 w0 => ?_
        simp only [Tryz.ntmps9, Tryz.results9, enumA]
        repeat' (first | (with_reducible first | refine vseq ?_ | refine vthenN ?_ | refine vthenR ?_ | refine vret ?_ | refine vskip ?_ | refine vrun_nil ?_ | refine vregion [] ?_) | ((with_reducible refine vcondT ?_ ?_); (focus (go_simp; done))) | ((with_reducible refine vcondF ?_ ?_); (focus (go_simp; done))) | ((with_reducible refine vrun_cons fun KK hKK => ?_); go_simp; (first | (with_reducible refine ⟨_, ha, ?_⟩) | (refine ⟨_, g1, ?_⟩) | (refine ⟨_, g3, ?_⟩) | (refine ⟨_, g4, ?_⟩) | (refine ⟨_, g2, ?_⟩) | (with_reducible refine ⟨_, i1, ?_⟩) | (with_reducible refine ⟨_, i2, ?_⟩) | skip); refine hKK _ ?_; clear hKK KK))
        go_simp
      cases E3
      · clear hok
        refine VC_of Tryz.func9 rfl (by kernel_rfl) (by kernel_rfl) rfl fun M0 w0 => ?_
        simp only [Tryz.ntmps9, Tryz.results9, enumA]
        repeat' (first | (with_reducible first | refine vseq ?_ | refine vthenN ?_ | refine vthenR ?_ | refine vret ?_ | refine vskip ?_ | refine vrun_nil ?_ | refine vregion [] ?_) | ((with_reducible refine vcondT ?_ ?_); (focus (go_simp; done))) | ((with_reducible refine vcondF ?_ ?_); (focus (go_simp; done))) | ((with_reducible refine vrun_cons fun KK hKK => ?_); go_simp; (first | (with_reducible refine ⟨_, ha, ?_⟩) | (refine ⟨_, g1, ?_⟩) | (refine ⟨_, g3, ?_⟩) | (refine ⟨_, g4, ?_⟩) | (refine ⟨_, g2, ?_⟩) | (with_reducible refine ⟨_, i1, ?_⟩) | (with_reducible refine ⟨_, i2, ?_⟩) | (with_reducible refine ⟨_, i3, ?_⟩) | skip); refine hKK _ ?_; clear hKK KK))
        go_simp
      by_cases h4 : kd = 4
      · by_cases hcar : car = ⟨#[]⟩
        · exact absurd ⟨rfl, rfl, rfl, ⟨fun _ => hcar, fun _ => h4⟩, .inl hcar⟩ hok
        · have hcar2 : ¬ car = ByteArray.empty := hcar
          subst h4
          clear hok
          refine VC_of Tryz.func9 rfl (by kernel_rfl) (by kernel_rfl) rfl fun M0 w0 => ?_
          simp only [Tryz.ntmps9, Tryz.results9, enumA]
          repeat' (first | (with_reducible first | refine vseq ?_ | refine vthenN ?_ | refine vthenR ?_ | refine vret ?_ | refine vskip ?_ | refine vrun_nil ?_ | refine vregion [] ?_) | ((with_reducible refine vcondT ?_ ?_); (focus (go_simp; done))) | ((with_reducible refine vcondF ?_ ?_); (focus (go_simp; done))) | ((with_reducible refine vrun_cons fun KK hKK => ?_); go_simp; (first | (with_reducible refine ⟨_, ha, ?_⟩) | (refine ⟨_, g1, ?_⟩) | (refine ⟨_, g3, ?_⟩) | (refine ⟨_, g4, ?_⟩) | (refine ⟨_, g2, ?_⟩) | (with_reducible refine ⟨_, i1, ?_⟩) | (with_reducible refine ⟨_, i2, ?_⟩) | (with_reducible refine ⟨_, i3, ?_⟩) | skip); refine hKK _ ?_; clear hKK KK))
          go_simp
      · by_cases hcar : car = ⟨#[]⟩
        · subst hcar
          clear hok
          refine VC_of Tryz.func9 rfl (by kernel_rfl) (by kernel_rfl) rfl fun M0 w0 => ?_
          simp only [Tryz.ntmps9, Tryz.results9, enumA]
          repeat' (first | (with_reducible first | refine vseq ?_ | refine vthenN ?_ | refine vthenR ?_ | refine vret ?_ | refine vskip ?_ | refine vrun_nil ?_ | refine vregion [] ?_) | ((with_reducible refine vcondT ?_ ?_); (focus (go_simp; done))) | ((with_reducible refine vcondF ?_ ?_); (focus (go_simp; done))) | ((with_reducible refine vrun_cons fun KK hKK => ?_); go_simp; (first | (with_reducible refine ⟨_, ha, ?_⟩) | (refine ⟨_, g1, ?_⟩) | (refine ⟨_, g3, ?_⟩) | (refine ⟨_, g4, ?_⟩) | (refine ⟨_, g2, ?_⟩) | (with_reducible refine ⟨_, i1, ?_⟩) | (with_reducible refine ⟨_, i2, ?_⟩) | (with_reducible refine ⟨_, i3, ?_⟩) | skip); refine hKK _ ?_; clear hKK KK))
          go_simp
        · have hcar2 : ¬ car = ByteArray.empty := hcar
          cases E4
          · clear hok
            refine VC_of Tryz.func9 rfl (by kernel_rfl) (by kernel_rfl) rfl fun M0 w0 => ?_
            simp only [Tryz.ntmps9, Tryz.results9, enumA]
            repeat' (first | (with_reducible first | refine vseq ?_ | refine vthenN ?_ | refine vthenR ?_ | refine vret ?_ | refine vskip ?_ | refine vrun_nil ?_ | refine vregion [] ?_) | ((with_reducible refine vcondT ?_ ?_); (focus (go_simp; done))) | ((with_reducible refine vcondF ?_ ?_); (focus (go_simp; done))) | ((with_reducible refine vrun_cons fun KK hKK => ?_); go_simp; (first | (with_reducible refine ⟨_, ha, ?_⟩) | (refine ⟨_, g1, ?_⟩) | (refine ⟨_, g3, ?_⟩) | (refine ⟨_, g4, ?_⟩) | (refine ⟨_, g2, ?_⟩) | (with_reducible refine ⟨_, i1, ?_⟩) | (with_reducible refine ⟨_, i2, ?_⟩) | (with_reducible refine ⟨_, i3, ?_⟩) | (with_reducible refine ⟨_, i4, ?_⟩) | skip); refine hKK _ ?_; clear hKK KK))
            go_simp
          · exact absurd ⟨rfl, rfl, rfl, ⟨fun h => absurd h h4, fun h => absurd h hcar⟩, .inr rfl⟩ hok
  · by_cases h2 : (20 : Int) < (x.car.size : Int)
    · obtain ⟨kd, tm, rk, car⟩ := x
      simp only [evA] at *
      clear h1 hc hs
      refine VC_of Tryz.func9 rfl (by kernel_rfl) (by kernel_rfl) rfl fun M0 w0 => ?_
      simp only [Tryz.ntmps9, Tryz.results9, enumA]
      repeat' (first | (with_reducible first | refine vseq ?_ | refine vthenN ?_ | refine vthenR ?_ | refine vret ?_ | refine vskip ?_ | refine vrun_nil ?_ | refine vregion [] ?_) | ((with_reducible refine vcondT ?_ ?_); (focus (go_simp; done))) | ((with_reducible refine vcondF ?_ ?_); (focus (go_simp; done))) | ((with_reducible refine vrun_cons fun KK hKK => ?_); go_simp; (first | (with_reducible refine ⟨_, ha, ?_⟩) | skip); refine hKK _ ?_; clear hKK KK))
      go_simp
    · have h3 : (100 : Int) < (s.size : Int) := by omega
      obtain ⟨kd, tm, rk, car⟩ := x
      simp only [evA] at *
      clear h1 hc hs
      refine VC_of Tryz.func9 rfl (by kernel_rfl) (by kernel_rfl) rfl fun M0 w0 => ?_
      simp only [Tryz.ntmps9, Tryz.results9, enumA]
      repeat' (first | (with_reducible first | refine vseq ?_ | refine vthenN ?_ | refine vthenR ?_ | refine vret ?_ | refine vskip ?_ | refine vrun_nil ?_ | refine vregion [] ?_) | ((with_reducible refine vcondT ?_ ?_); (focus (go_simp; done))) | ((with_reducible refine vcondF ?_ ?_); (focus (go_simp; done))) | ((with_reducible refine vrun_cons fun KK hKK => ?_); go_simp; (first | (with_reducible refine ⟨_, ha, ?_⟩) | skip); refine hKK _ ?_; clear hKK KK))
      go_simp
end Go.Proofs.YtoibondihdhnoaaGreatDoor
