/- Texts in one: Walks on plain values: texts that are cut, decimal numerals, numbers that are read; texts of at most 1000 bytes. -/
import Derived.Test.YtoibondihdhnoaaGreatDoorFR35
import Derived.Test.YtoibondihdhnoaaGreatDoorFR36
/-! RV1: Walks on plain values: texts that are cut, decimal numerals, numbers that are read; texts of at most 1000 bytes. -/
namespace Go.Proofs.YtoibondihdhnoaaGreatDoor
open Go.RowKit
set_option maxRecDepth 100000
set_option maxHeartbeats 1000000
def txL (l : List UInt8) : List AV := [S (mkB l)]
attribute [go_sem] txL
theorem size_L (s : ByteArray) : s.data.toList.length = s.size := (Lib.size_eq s).symm
theorem at_L {s : ByteArray} {k : Nat} (h : k < s.size) : s.data.toList[k]? = some (byteAt s k) := by
  have h' : k < s.data.toList.length := by rw [size_L]; exact h
  rw [List.getElem?_eq_getElem h']
  simp only [byteAt, List.getD, List.getElem?_eq_getElem h', Option.getD_some]
@[go_sem] theorem valF0 : valF 0 [] = 0 := valF_nil 0
@[go_sem] theorem fromTo_0 (c : UInt8) (l : List UInt8) : fromTo c l 0 = 0 := rfl
@[go_sem] theorem outTo_0 (c : UInt8) (l : List UInt8) : outTo c l 0 = [] := rfl
theorem nat_inj8 {a b : UInt8} : ((a.toNat : Int) = (b.toNat : Int)) ↔ a = b := by
  rw [Int.ofNat_inj, UInt8.toNat_inj]
theorem ex_L {s : ByteArray} {i j : Nat} : s.extract i j = mkB ((s.data.toList.drop i).take (j - i)) := extract_L s i j
theorem b_Cut (s : ByteArray) (c : UInt8) (hs : s.size ≤ 1000000) : VC Tryz.prog 110 [S s, .lit (.int .u8 c.toNat)] (.sl 1 ((cutL c s.data.toList).map txL)) := by
  have hall := cut_all c s.data.toList
  rw [size_L] at hall
  have HALL := Lib.hid hall
  clear hall
  refine VC_of Tryz.func110 rfl (by kernel_rfl) (by kernel_rfl) rfl fun M0 w0 => ?_
  simp only [Tryz.ntmps110, Tryz.results110, enumA]
  repeat' (first | (with_reducible first | refine vseq ?_ | refine vthenN ?_ | refine vblock ?_ | refine vrun_nil ?_ | refine vregion [5] ?_) | ((with_reducible refine vrun_cons fun KK hKK => ?_); go_simp; refine hKK _ ?_; clear hKK KK))
  apply vcnt [0, 1] (fun k => [(7, I (k : Int)), (6, I (fromTo c s.data.toList k : Nat)), (5, .osl 0)]) (fun k => ([some (.arr 9 1 (decide (outTo c s.data.toList k = [])) ((outTo c s.data.toList k).map txL))] : Hp))  (s.size)
  · go_simp <;> exact rfl
  · go_simp
  · intro k hk K hK
    obtain ⟨w1, w2, w3, w4, w5, w6⟩ := ixs (m := k) (by omega)
    have hf := fromTo_le c s.data.toList k
    have ho := outTo_len c s.data.toList k
    have n1 : fromTo c s.data.toList (k + 1) = if byteAt s k = c then k + 1 else fromTo c s.data.toList k := by rw [fromTo, at_L hk]; simp
    have n2 : outTo c s.data.toList (k + 1) = if byteAt s k = c then outTo c s.data.toList k ++ [(s.data.toList.drop (fromTo c s.data.toList k)).take (k - fromTo c s.data.toList k)] else outTo c s.data.toList k := by rw [outTo, at_L hk]; simp
    have hb : (outTo c s.data.toList k).length + 1 ≤ 1000000000 := by omega
    have he : s.extract (fromTo c s.data.toList k) k = mkB ((s.data.toList.drop (fromTo c s.data.toList k)).take (k - fromTo c s.data.toList k)) := ex_L
    have hki : (k : Int) < s.size := by omega
    have hkn : k ≤ s.size := by omega
    generalize outTo c s.data.toList k = O at *
    generalize fromTo c s.data.toList k = F at *
    generalize (s.data.toList.drop F).take (k - F) = X at *
    have hfi : (F : Int) ≤ k := by omega
    by_cases hc : byteAt s k = c
    · rw [if_pos hc] at n1 n2
      have hci : ((byteAt s k).toNat : Int) = c.toNat := by rw [hc]
      have N1 := Lib.hid n1
      have N2 := Lib.hid n2
      clear n1 n2 ho hc
      repeat' (first | (with_reducible first | refine vseq ?_ | refine vthenN ?_ | refine vskip ?_ | refine vblock ?_ | refine vblockN ?_ | refine vrun_nil ?_ | refine vregion [] ?_) | ((with_reducible refine vcondT ?_ ?_); (focus (go_simp; done))) | ((with_reducible refine vrun_cons fun KK hKK => ?_); go_simp; refine hKK _ ?_; clear hKK KK))
      refine hK _ ?_
      rw [N1.out, N2.out]
      go_simp
    · rw [if_neg hc] at n1 n2
      have hci : ¬ ((byteAt s k).toNat : Int) = c.toNat := fun e => hc (nat_inj8.1 e)
      have N1 := Lib.hid n1
      have N2 := Lib.hid n2
      clear n1 n2 ho hc
      repeat' (first | (with_reducible first | refine vseq ?_ | refine vthenN ?_ | refine vskip ?_ | refine vblock ?_ | refine vblockN ?_ | refine vrun_nil ?_ | refine vregion [] ?_) | ((with_reducible refine vcondT ?_ ?_); (focus (go_simp; done))) | ((with_reducible refine vcondF ?_ ?_); (focus (go_simp; done))) | ((with_reducible refine vrun_cons fun KK hKK => ?_); go_simp; refine hKK _ ?_; clear hKK KK))
      refine hK _ ?_
      rw [N1.out, N2.out]
      go_simp
  · intro K
    have hf := fromTo_le c s.data.toList s.size
    have ho := outTo_len c s.data.toList s.size
    have hb : (outTo c s.data.toList s.size).length + 1 ≤ 1000000000 := by omega
    have he : s.extract (fromTo c s.data.toList s.size) s.size = mkB (s.data.toList.drop (fromTo c s.data.toList s.size)) := by
      rw [ex_L, List.take_of_length_le (by rw [List.length_drop, size_L]; exact Nat.le_refl _)]
    rw [HALL.out]
    generalize outTo c s.data.toList s.size = O at *
    generalize fromTo c s.data.toList s.size = F at *
    have hfi : (F : Int) ≤ s.size := by omega
    clear HALL ho
    repeat' (first | (with_reducible first | refine vseq ?_ | refine vthenN ?_ | refine vthenE ?_ | refine vret ?_ | refine vexit ?_ | refine vblockH ?_ | refine vrun_nil ?_ | refine vregion [] ?_) | ((with_reducible refine vcondF ?_ ?_); (focus (go_simp; done))) | ((with_reducible refine vrun_cons fun KK hKK => ?_); go_simp; refine hKK _ ?_; clear hKK KK))
    go_simp
theorem b_SizeN (n : Int) (h : -1000000000 ≤ n ∧ n ≤ 1000000000) : VC Tryz.prog 152 [I n] (I (n.natAbs : Int)) := by
  have w1 := wrap_eq (x := -n) (by omega) (by omega)
  refine VC_of Tryz.func152 rfl (by kernel_rfl) (by kernel_rfl) rfl fun M0 w0 => ?_
  simp only [Tryz.ntmps152, Tryz.results152, enumA]
  by_cases hn : n < 0
  · have e : (n.natAbs : Int) = -n := by omega
    have e2 : max n (-n) = -n := by omega
    repeat' (first | (with_reducible first | refine vseq ?_ | refine vthenN ?_ | refine vret ?_ | refine vrun_nil ?_ | refine vregion [] ?_) | ((with_reducible refine vrun_cons fun KK hKK => ?_); go_simp; refine hKK _ ?_; clear hKK KK))
    all_goals (go_simp; first | done | (simp_all []; done) | (simp only []; (try intros); (repeat' split) <;> (first | rfl | omega | (simp_all; done) | (simp_all; omega))) | ((try intros); (repeat' split) <;> (first | rfl | omega | (simp_all; done) | (simp_all; omega))))
  · have e : (n.natAbs : Int) = n := by omega
    have e2 : max n (-n) = n := by omega
    repeat' (first | (with_reducible first | refine vseq ?_ | refine vthenN ?_ | refine vret ?_ | refine vrun_nil ?_ | refine vregion [] ?_) | ((with_reducible refine vrun_cons fun KK hKK => ?_); go_simp; refine hKK _ ?_; clear hKK KK))
    all_goals (go_simp; first | done | (simp_all []; done) | (simp only []; (try intros); (repeat' split) <;> (first | rfl | omega | (simp_all; done) | (simp_all; omega))) | ((try intros); (repeat' split) <;> (first | rfl | omega | (simp_all; done) | (simp_all; omega))))
@[go_sem] theorem mkB_nil : mkB [] = ⟨#[]⟩ := rfl
theorem mkB_cons (x : UInt8) (l : List UInt8) : (⟨#[x]⟩ : ByteArray) ++ mkB l = mkB (x :: l) := by
  apply ByteArray.ext
  simp [mkB, ByteArray.data_append]
def decT (n : Int) : ByteArray := mkB (Lib.itoa n)
theorem b_Decimal (n : Int) (h : -9223372036854775808 ≤ n ∧ n ≤ 9223372036854775807) : VC Tryz.prog 113 [I n] (S (decT n)) := by
  by_cases h0 : n = 0
  · subst h0
    have e : decT 0 = ⟨#[48]⟩ := by unfold decT Lib.itoa; rw [if_neg (by decide)]; show mkB (Lib.decDigits 0) = _; rw [digits_zero]; rfl
    rw [e]
    refine VC_of Tryz.func113 rfl (by kernel_rfl) (by kernel_rfl) rfl fun M0 w0 => ?_
    simp only [Tryz.ntmps113, Tryz.results113, enumA]
    repeat' (first | (with_reducible first | refine vseq ?_ | refine vthenN ?_ | refine vthenR ?_ | refine vret ?_ | refine vrun_nil ?_ | refine vregion [] ?_) | ((with_reducible refine vcondT ?_ ?_); (focus (go_simp; done))) | ((with_reducible refine vrun_cons fun KK hKK => ?_); go_simp; refine hKK _ ?_; clear hKK KK))
    go_simp
  · obtain ⟨T, hT⟩ : ∃ T, decF n.natAbs = T := ⟨_, rfl⟩
    have HT := Lib.hid hT
    have hd : decT n = (if n < 0 then (⟨#[45]⟩ : ByteArray) else ⟨#[]⟩) ++ mkB T := by
      rw [← hT, decF_pos (by omega)]
      unfold decT Lib.itoa
      split
      · rw [mkB_cons]
      · have : n.toNat = n.natAbs := by omega
        rw [this]
        apply ByteArray.ext
        simp [mkB, ByteArray.data_append]
    rw [hd]
    have hTl : T.length ≤ 20 := by
      rw [← hT, decF_pos (by omega)]
      exact digits_len 19 _ (by omega)
    have HTL := Lib.hid hTl
    clear hd hT hTl
    refine VC_of Tryz.func113 rfl (by kernel_rfl) (by kernel_rfl) rfl fun M0 w0 => ?_
    simp only [Tryz.ntmps113, Tryz.results113, enumA]
    by_cases hn : n < 0
    · rw [if_pos hn]
      repeat' (first | (with_reducible first | refine vseq ?_ | refine vthenN ?_ | refine vskip ?_ | refine vblock ?_ | refine vrun_nil ?_ | refine vregion [] ?_) | ((with_reducible refine vcondT ?_ ?_); (focus (go_simp; done))) | ((with_reducible refine vcondF ?_ ?_); (focus (go_simp; done))) | ((with_reducible refine vrun_cons fun KK hKK => ?_); go_simp; refine hKK _ ?_; clear hKK KK))
      apply vloopK (α := Int × List UInt8) [4] (fun (q : Int × List UInt8) => [(0, I q.1), (3, S (mkB q.2))]) (fun (q : Int × List UInt8) => ([] : Hp)) (fun (q : Int × List UInt8) => Hid (decF q.1.natAbs ++ q.2 = T) ∧ -9223372036854775808 ≤ q.1 ∧ q.1 ≤ 9223372036854775807) (fun (q : Int × List UInt8) => q.1.natAbs) ((n, [])) ⟨Lib.hid (by rw [List.append_nil]; exact HT.out), h.1, h.2⟩
      · (go_simp <;> exact rfl)
      · go_simp
      rintro ⟨m, acc⟩ ⟨hf, b1, b2⟩ K hK
      simp only at hf b1 b2
      by_cases hm : m = 0
      · subst hm
        have e : T = acc := by rw [← hf.out]; rfl
        have hsz := HTL.out
        rw [e] at hsz ⊢
        rw [← mkB_size] at hsz
        have z1 : 1 + (mkB acc).size ≤ 9223372036854775807 := by omega
        have z2 : (mkB acc).size ≤ 9223372036854775806 := by omega
        have z3 : (mkB acc).size ≤ 9223372036854775807 := by omega
        clear hf HT HTL e hsz
        repeat' (first | (with_reducible first | refine vseq ?_ | refine vthenN ?_ | refine vthenE ?_ | refine vret ?_ | refine vexit ?_ | refine vblockH ?_ | refine vrun_nil ?_ | refine vregion [] ?_) | ((with_reducible refine vcondF ?_ ?_); (focus (go_simp; done))) | ((with_reducible refine vrun_cons fun KK hKK => ?_); go_simp; refine hKK _ ?_; clear hKK KK))
        go_simp
      · have hst := decF_step (m := m.natAbs) (by omega)
        have hr : (m.tmod 10).natAbs = m.natAbs % 10 := by rw [Int.natAbs_tmod]; rfl
        have hq : (m.tdiv 10).natAbs = m.natAbs / 10 := by rw [Int.natAbs_tdiv]; rfl
        have hr1 : -9 ≤ m.tmod 10 ∧ m.tmod 10 ≤ 9 := by omega
        have hq1 : -9223372036854775808 ≤ m.tdiv 10 ∧ m.tdiv 10 ≤ 9223372036854775807 := by omega
        have g := b_SizeN (m.tmod 10) (by omega)
        rw [hr] at g
        have hd9 : m.natAbs % 10 < 10 := Nat.mod_lt _ (by decide)
        have hnat := digit_nat hd9
        rw [← hq] at hst
        have HF := Lib.hid (show decF (m.tdiv 10).natAbs ++ (UInt8.ofNat (48 + m.natAbs % 10) :: acc) = T by rw [← hf.out, hst, List.append_assoc]; rfl)
        have hlt : (m.tdiv 10).natAbs < m.natAbs := by omega
        have u1 := wrap_eq (x := m.tmod 10) (by omega) (by omega)
        have u2 := wrap_eq (x := m.tdiv 10) (by omega) (by omega)
        have HLT := Lib.hid hlt
        have hsz : acc.length ≤ 20 := by
          have h1 := HTL.out
          rw [← hf.out, List.length_append] at h1
          omega
        rw [← mkB_size] at hsz
        have z1 : 1 + (mkB acc).size ≤ 9223372036854775807 := by omega
        have z2 : (mkB acc).size ≤ 9223372036854775806 := by omega
        clear hst hr hq hf HT hlt hsz HTL
        obtain ⟨r, er⟩ : ∃ r, m.tmod 10 = r := ⟨_, rfl⟩
        obtain ⟨q, eq⟩ : ∃ q, m.tdiv 10 = q := ⟨_, rfl⟩
        rw [er] at g u1 hr1
        rw [eq] at HF HLT hq1 u2
        generalize m.natAbs % 10 = d at *
        have u3 := wrap_eq (x := 48 + (d : Int)) (by omega) (by omega)
        have u4 : IntKind.u8.wrap (48 + (d : Int)) = 48 + d := by simp [IntKind.wrap, IntKind.bits, IntKind.signed]; omega
        have u5 : (48 + (d : Int)).toNat = 48 + d := by omega
        have u6 : (0 : Int) ≤ 48 + (d : Int) := by omega
        have u7 : 48 + (d : Int) < 256 := by omega
        have hcat := mkB_cons (UInt8.ofNat (48 + d)) acc
        clear hnat
        repeat' (first | (with_reducible first | refine vseq ?_ | refine vthenN ?_ | refine vskip ?_ | refine vblock ?_ | refine vblockN ?_ | refine vrun_nil ?_ | refine vregion [] ?_) | ((with_reducible refine vcondT ?_ ?_); (focus (go_simp; done))) | ((with_reducible refine vrun_cons fun KK hKK => ?_); go_simp; (first | (with_reducible refine ⟨_, g, ?_⟩) | skip); refine hKK _ ?_; clear hKK KK))
        refine hK _ (q, UInt8.ofNat (48 + d) :: acc) ⟨HF, hq1.1, hq1.2⟩ HLT.out ?_
        go_simp
        exact mkB_cons _ _
    · rw [if_neg hn]
      repeat' (first | (with_reducible first | refine vseq ?_ | refine vthenN ?_ | refine vskip ?_ | refine vblock ?_ | refine vrun_nil ?_ | refine vregion [] ?_) | ((with_reducible refine vcondF ?_ ?_); (focus (go_simp; done))) | ((with_reducible refine vrun_cons fun KK hKK => ?_); go_simp; refine hKK _ ?_; clear hKK KK))
      apply vloopK (α := Int × List UInt8) [4] (fun (q : Int × List UInt8) => [(0, I q.1), (3, S (mkB q.2))]) (fun (q : Int × List UInt8) => ([] : Hp)) (fun (q : Int × List UInt8) => Hid (decF q.1.natAbs ++ q.2 = T) ∧ -9223372036854775808 ≤ q.1 ∧ q.1 ≤ 9223372036854775807) (fun (q : Int × List UInt8) => q.1.natAbs) ((n, [])) ⟨Lib.hid (by rw [List.append_nil]; exact HT.out), h.1, h.2⟩
      · (go_simp <;> exact rfl)
      · go_simp
      rintro ⟨m, acc⟩ ⟨hf, b1, b2⟩ K hK
      simp only at hf b1 b2
      by_cases hm : m = 0
      · subst hm
        have e : T = acc := by rw [← hf.out]; rfl
        have hsz := HTL.out
        rw [e] at hsz ⊢
        rw [← mkB_size] at hsz
        have z1 : 1 + (mkB acc).size ≤ 9223372036854775807 := by omega
        have z2 : (mkB acc).size ≤ 9223372036854775806 := by omega
        have z3 : (mkB acc).size ≤ 9223372036854775807 := by omega
        clear hf HT HTL e hsz
        repeat' (first | (with_reducible first | refine vseq ?_ | refine vthenN ?_ | refine vthenE ?_ | refine vret ?_ | refine vexit ?_ | refine vblockH ?_ | refine vrun_nil ?_ | refine vregion [] ?_) | ((with_reducible refine vcondF ?_ ?_); (focus (go_simp; done))) | ((with_reducible refine vrun_cons fun KK hKK => ?_); go_simp; refine hKK _ ?_; clear hKK KK))
        go_simp
      · have hst := decF_step (m := m.natAbs) (by omega)
        have hr : (m.tmod 10).natAbs = m.natAbs % 10 := by rw [Int.natAbs_tmod]; rfl
        have hq : (m.tdiv 10).natAbs = m.natAbs / 10 := by rw [Int.natAbs_tdiv]; rfl
        have hr1 : -9 ≤ m.tmod 10 ∧ m.tmod 10 ≤ 9 := by omega
        have hq1 : -9223372036854775808 ≤ m.tdiv 10 ∧ m.tdiv 10 ≤ 9223372036854775807 := by omega
        have g := b_SizeN (m.tmod 10) (by omega)
        rw [hr] at g
        have hd9 : m.natAbs % 10 < 10 := Nat.mod_lt _ (by decide)
        have hnat := digit_nat hd9
        rw [← hq] at hst
        have HF := Lib.hid (show decF (m.tdiv 10).natAbs ++ (UInt8.ofNat (48 + m.natAbs % 10) :: acc) = T by rw [← hf.out, hst, List.append_assoc]; rfl)
        have hlt : (m.tdiv 10).natAbs < m.natAbs := by omega
        have u1 := wrap_eq (x := m.tmod 10) (by omega) (by omega)
        have u2 := wrap_eq (x := m.tdiv 10) (by omega) (by omega)
        have HLT := Lib.hid hlt
        have hsz : acc.length ≤ 20 := by
          have h1 := HTL.out
          rw [← hf.out, List.length_append] at h1
          omega
        rw [← mkB_size] at hsz
        have z1 : 1 + (mkB acc).size ≤ 9223372036854775807 := by omega
        have z2 : (mkB acc).size ≤ 9223372036854775806 := by omega
        clear hst hr hq hf HT hlt hsz HTL
        obtain ⟨r, er⟩ : ∃ r, m.tmod 10 = r := ⟨_, rfl⟩
        obtain ⟨q, eq⟩ : ∃ q, m.tdiv 10 = q := ⟨_, rfl⟩
        rw [er] at g u1 hr1
        rw [eq] at HF HLT hq1 u2
        generalize m.natAbs % 10 = d at *
        have u3 := wrap_eq (x := 48 + (d : Int)) (by omega) (by omega)
        have u4 : IntKind.u8.wrap (48 + (d : Int)) = 48 + d := by simp [IntKind.wrap, IntKind.bits, IntKind.signed]; omega
        have u5 : (48 + (d : Int)).toNat = 48 + d := by omega
        have u6 : (0 : Int) ≤ 48 + (d : Int) := by omega
        have u7 : 48 + (d : Int) < 256 := by omega
        have hcat := mkB_cons (UInt8.ofNat (48 + d)) acc
        clear hnat
        repeat' (first | (with_reducible first | refine vseq ?_ | refine vthenN ?_ | refine vskip ?_ | refine vblock ?_ | refine vblockN ?_ | refine vrun_nil ?_ | refine vregion [] ?_) | ((with_reducible refine vcondT ?_ ?_); (focus (go_simp; done))) | ((with_reducible refine vrun_cons fun KK hKK => ?_); go_simp; (first | (with_reducible refine ⟨_, g, ?_⟩) | skip); refine hKK _ ?_; clear hKK KK))
        refine hK _ (q, UInt8.ofNat (48 + d) :: acc) ⟨HF, hq1.1, hq1.2⟩ HLT.out ?_
        go_simp
        exact mkB_cons _ _
@[go_sem] def numR : Option Int → Int × Bool
  | some v => (v, true)
  | none => (0, false)
theorem b_Number (s : ByteArray) (hs : s.size ≤ 1000) : VC Tryz.prog 112 [S s, I 9] (.tup [I (numR (numT s.data.toList)).1, B (numR (numT s.data.toList)).2]) := by
  obtain ⟨R, hR⟩ : ∃ R, numT s.data.toList = R := ⟨_, rfl⟩
  rw [hR]
  cases hL : s.data.toList with
  | nil =>
    have h0 : s.size = 0 := by rw [← size_L, hL]; rfl
    rw [hL] at hR
    have e : R = none := hR.symm
    subst e
    have hb : ¬ (0 : Int) < s.size := by omega
    refine VC_of Tryz.func112 rfl (by kernel_rfl) (by kernel_rfl) rfl fun M0 w0 => ?_
    simp only [Tryz.ntmps112, Tryz.results112, enumA]
    repeat' (first | (with_reducible first | refine vseq ?_ | refine vthenN ?_ | refine vthenR ?_ | refine vret ?_ | refine vskip ?_ | refine vrun_nil ?_ | refine vregion [] ?_) | ((with_reducible refine vcondT ?_ ?_); (focus (go_simp; done))) | ((with_reducible refine vcondF ?_ ?_); (focus (go_simp; done))) | ((with_reducible refine vrun_cons fun KK hKK => ?_); go_simp; refine hKK _ ?_; clear hKK KK))
    go_simp
  | cons c r =>
    have hsz : s.size = r.length + 1 := by rw [← size_L, hL]; rfl
    have hc0 : byteAt s 0 = c := by simp [byteAt, hL]
    have hpos : (0 : Int) < s.size := by omega
    have hposn : 0 < s.size := by omega
    have HGE : Hid (∀ k, byteAt s (k + 1) = r.getD k 0) := Lib.hid fun k => by simp [byteAt, hL]
    rw [hL, numT] at hR
    by_cases hc : c = 45
    · rw [if_pos hc] at hR
      have HR := Lib.hid hR
      clear hR
      have hc1 : ((byteAt s 0).toNat : Int) = 45 := by rw [hc0, hc]; rfl
      have HGET : Hid (∀ k, (hk : k < r.length) → r[k] = byteAt s (k + 1)) := Lib.hid fun k hk => by rw [HGE.out k]; simp [List.getD, hk]
      clear hc0 hL
      by_cases hr0 : r = []
      · have h1 : s.size = 1 := by rw [hsz, hr0]; rfl
        have e := HR.out
        rw [hr0] at e
        have hR1 : R = none := e.symm
        subst hR1
        clear e HR HGET HGE
        refine VC_of Tryz.func112 rfl (by kernel_rfl) (by kernel_rfl) rfl fun M0 w0 => ?_
        simp only [Tryz.ntmps112, Tryz.results112, enumA]
        repeat' (first | (with_reducible first | refine vseq ?_ | refine vthenN ?_ | refine vthenR ?_ | refine vret ?_ | refine vrun_nil ?_ | refine vregion [] ?_) | ((with_reducible refine vcondT ?_ ?_); (focus (go_simp; done))) | ((with_reducible refine vrun_cons fun KK hKK => ?_); go_simp; refine hKK _ ?_; clear hKK KK))
        go_simp
      have hrl : 0 < r.length := List.length_pos_iff.2 hr0
      have h1i : ¬ (s.size : Int) = 1 := by omega
      have v1 := wrap_eq (x := (s.size : Int) - 1) (by omega) (by omega)
      have hgt1 : (1 : Int) < s.size := by omega
      have hgt1n : 1 < s.size := by omega
      have hsz' := Lib.hid hsz
      clear hsz
      by_cases hlen : r.length ≤ 9
      · have h9 : ¬ (9 : Int) < (s.size : Int) - 1 := by have := hsz'.out; omega
        by_cases hh : r.head? = some 48
        · have hb48 : ((byteAt s 1).toNat : Int) = 48 := by
            rw [HGE.out 0]
            cases r with
            | nil => exact absurd rfl hr0
            | cons b t => simp at hh; subst hh; rfl
          have e := HR.out
          rw [mag_none (.inr (.inr (.inl ⟨hh, rfl⟩)))] at e
          have hR1 : R = none := e.symm
          subst hR1
          clear e HR HGET HGE
          refine VC_of Tryz.func112 rfl (by kernel_rfl) (by kernel_rfl) rfl fun M0 w0 => ?_
          simp only [Tryz.ntmps112, Tryz.results112, enumA]
          repeat' (first | (with_reducible first | refine vseq ?_ | refine vthenN ?_ | refine vthenR ?_ | refine vret ?_ | refine vrun_nil ?_ | refine vregion [] ?_) | ((with_reducible refine vcondT ?_ ?_); (focus (go_simp; done))) | ((with_reducible refine vrun_cons fun KK hKK => ?_); go_simp; refine hKK _ ?_; clear hKK KK))
          go_simp
        · have hb48 : ¬ ((byteAt s 1).toNat : Int) = 48 := by
            rw [HGE.out 0]
            cases r with
            | nil => exact absurd rfl hr0
            | cons b t =>
              intro h
              have h2 : (b.toNat : Int) = 48 := by simpa using h
              have : b = 48 := UInt8.toNat_inj.1 (show b.toNat = 48 by omega)
              exact hh (by rw [this]; rfl)
          refine VC_of Tryz.func112 rfl (by kernel_rfl) (by kernel_rfl) rfl fun M0 w0 => ?_
          simp only [Tryz.ntmps112, Tryz.results112, enumA]
          repeat' (first | (with_reducible first | refine vseq ?_ | refine vthenN ?_ | refine vskip ?_ | refine vblock ?_ | refine vrun_nil ?_ | refine vregion [] ?_) | ((with_reducible refine vcondT ?_ ?_); (focus (go_simp; done))) | ((with_reducible refine vcondF ?_ ?_); (focus (go_simp; done))) | ((with_reducible refine vrun_cons fun KK hKK => ?_); go_simp; refine hKK _ ?_; clear hKK KK))
          apply vfor [0, 6] (fun k => [(8, I ((k : Int) + 1)), (7, I (valF 0 ((r).take k) : Nat))]) (fun k => ([] : Hp)) ((fun k => !isD (byteAt s (k + 1)))) ((r).length)
          · go_simp <;> exact rfl
          · go_simp
          · intro k hk HB HP K hK
            obtain ⟨w1, w2, w3, w4, w5, w6⟩ := ixs (m := k) (by omega)
            have hks : k + 1 < s.size := by have := hsz'.out; omega
            have hp := HP.out
            simp only [Bool.not_eq_false'] at hp
            have hd := isD_nat hp
            have hbk := HGET.out k hk
            have hst := valF_take hk
            rw [hbk] at hst
            have hall : ((r).take k).all isD = true := List.all_eq_true.2 fun x hx => by
              obtain ⟨j, hj, rfl⟩ := List.getElem_of_mem hx
              rw [List.length_take] at hj
              rw [List.getElem_take, HGET.out j (by omega)]
              have := HB.out j (by omega)
              simpa using this
            have hv := val_nine hall (by rw [List.length_take]; omega)
            have HST := Lib.hid hst
            have hki : ((k : Int) + 1) < s.size := by have := hsz'.out; omega
            clear hall hp hst
            generalize valF 0 ((r).take k) = V at *
            generalize hbb : byteAt s (k + 1) = b at *
            obtain ⟨n, hn⟩ : ∃ n, b.toNat = n := ⟨_, rfl⟩
            rw [hn] at hd HST
            have c1 : ¬ (n : Int) < 48 := by omega
            have c2 : ¬ (57 : Int) < n := by omega
            have u1 := wrap_eq (x := 10 * (V : Int)) (by omega) (by omega)
            have u2 : IntKind.u8.wrap ((n : Int) - 48) = (n : Int) - 48 := by simp [IntKind.wrap, IntKind.bits, IntKind.signed]; omega
            have u3 := wrap_eq (x := (n : Int) - 48) (by omega) (by omega)
            have u4 := wrap_eq (x := 10 * (V : Int) + ((n : Int) - 48)) (by omega) (by omega)
            clear hd
            repeat' (first | (with_reducible first | refine vseq ?_ | refine vthenN ?_ | refine vskip ?_ | refine vblock ?_ | refine vblockN ?_ | refine vrun_nil ?_ | refine vregion [] ?_) | ((with_reducible refine vcondT ?_ ?_); (focus (go_simp; done))) | ((with_reducible refine vcondF ?_ ?_); (focus (go_simp; done))) | ((with_reducible refine vrun_cons fun KK hKK => ?_); go_simp; refine hKK _ ?_; clear hKK KK))
            refine hK _ ?_
            rw [HST.out]
            go_simp
            omega
          · intro k hk HB HP K
            have hks : k + 1 < s.size := by have := hsz'.out; omega
            have hp := HP.out
            simp only [Bool.not_eq_true'] at hp
            have hki : ((k : Int) + 1) < s.size := by have := hsz'.out; omega
            have hno : magT (r) false = none := mag_none (.inr (.inr (.inr (by
              rw [List.all_eq_false]
              exact ⟨(r)[k], List.getElem_mem hk, by rw [HGET.out k hk, hp]; decide⟩))))
            have e := HR.out
            rw [hno] at e
            have hR1 : R = none := by rw [← e]; rfl
            subst hR1
            clear hno e HR
            generalize hbb : byteAt s (k + 1) = b at *
            obtain ⟨n, hn⟩ : ∃ n, b.toNat = n := ⟨_, rfl⟩
            simp only [isD, hn, Bool.and_eq_false_iff, decide_eq_false_iff_not] at hp
            obtain ⟨w1, w2, w3, w4, w5, w6⟩ := ixs (m := k) (by omega)
            by_cases c1 : (n : Int) < 48
            · clear hp
              repeat' (first | (with_reducible first | refine vseq ?_ | refine vthenN ?_ | refine vthenR ?_ | refine vret ?_ | refine vskip ?_ | refine vblock ?_ | refine vblockR ?_ | refine vrun_nil ?_ | refine vregion [] ?_) | ((with_reducible refine vcondT ?_ ?_); (focus (go_simp; done))) | ((with_reducible refine vrun_cons fun KK hKK => ?_); go_simp; refine hKK _ ?_; clear hKK KK))
              go_simp
            · have c2 : (57 : Int) < n := by omega
              clear hp
              repeat' (first | (with_reducible first | refine vseq ?_ | refine vthenN ?_ | refine vthenR ?_ | refine vret ?_ | refine vskip ?_ | refine vblock ?_ | refine vblockR ?_ | refine vrun_nil ?_ | refine vregion [] ?_) | ((with_reducible refine vcondT ?_ ?_); (focus (go_simp; done))) | ((with_reducible refine vrun_cons fun KK hKK => ?_); go_simp; refine hKK _ ?_; clear hKK KK))
              go_simp
          · intro HB K
            have hall : (r).all isD = true := List.all_eq_true.2 fun x hx => by
              obtain ⟨j, hj, rfl⟩ := List.getElem_of_mem hx
              rw [HGET.out j hj]
              have := HB.out j hj
              simpa using this
            have hv := val_nine hall (by omega)
            have e := HR.out
            rw [some_mag hr0 hlen (fun h => absurd h hh) hall] at e
            rw [List.take_length]
            have hR1 : R = some (-(valF 0 (r) : Int)) := e.symm
            subst hR1
            clear e hall HR
            generalize valF 0 (r) = V at *
            have u1 := wrap_eq (x := -(V : Int)) (by omega) (by omega)
            have u2 := wrap_eq (x := 0 - (V : Int)) (by omega) (by omega)
            have u3 : (0 : Int) - V = -V := by omega
            have hki : ¬ ((((r).length : Nat) : Int) + 1) < s.size := by have := hsz'.out; omega
            repeat' (first | (with_reducible first | refine vseq ?_ | refine vthenN ?_ | refine vthenE ?_ | refine vret ?_ | refine vexit ?_ | refine vblockH ?_ | refine vrun_nil ?_ | refine vregion [] ?_) | ((with_reducible refine vcondT ?_ ?_); (focus (go_simp; done))) | ((with_reducible refine vcondF ?_ ?_); (focus (go_simp; done))) | ((with_reducible refine vrun_cons fun KK hKK => ?_); go_simp; refine hKK _ ?_; clear hKK KK))
            go_simp
      · have h9 : (9 : Int) < (s.size : Int) - 1 := by have := hsz'.out; omega
        have e := HR.out
        rw [mag_none (.inr (.inl (by omega)))] at e
        have hR1 : R = none := e.symm
        subst hR1
        clear e HR HGET HGE
        refine VC_of Tryz.func112 rfl (by kernel_rfl) (by kernel_rfl) rfl fun M0 w0 => ?_
        simp only [Tryz.ntmps112, Tryz.results112, enumA]
        repeat' (first | (with_reducible first | refine vseq ?_ | refine vthenN ?_ | refine vthenR ?_ | refine vret ?_ | refine vrun_nil ?_ | refine vregion [] ?_) | ((with_reducible refine vcondT ?_ ?_); (focus (go_simp; done))) | ((with_reducible refine vrun_cons fun KK hKK => ?_); go_simp; refine hKK _ ?_; clear hKK KK))
        go_simp
    · rw [if_neg hc] at hR
      have hc1 : ¬ ((byteAt s 0).toNat : Int) = 45 := by
        rw [hc0]
        intro h
        exact hc (UInt8.toNat_inj.1 (show c.toNat = 45 by omega))
      have hone0 : r.isEmpty = decide (s.size = 1) := by
        rw [hsz]
        cases r <;> simp
      have HGET : Hid (∀ k, (hk : k < (c :: r).length) → (c :: r)[k] = byteAt s k) := Lib.hid fun k hk => by
        have : byteAt s k = (c :: r).getD k 0 := by simp [byteAt, hL]
        rw [this]
        simp only [List.getD, List.getElem?_eq_getElem hk, Option.getD_some]
      have hlen0 : s.size = (c :: r).length := hsz
      have hhd : (c :: r).head? = some 48 ↔ ((byteAt s 0).toNat : Int) = 48 := by
        rw [hc0]
        simp only [List.head?_cons, Option.some.injEq]
        exact ⟨fun h => by rw [h]; rfl, fun h => UInt8.toNat_inj.1 (show c.toNat = 48 by omega)⟩
      have hD0 : c :: r ≠ [] := by simp
      rw [hone0] at hR
      clear hone0 hsz hc0 HGE hL
      generalize c :: r = D at *
      have HR := Lib.hid hR
      have hsz' := Lib.hid hlen0
      have hlen' := Lib.hid hlen0
      have HHD := Lib.hid hhd
      clear hR hlen0 hhd
      have h0i : ¬ (s.size : Int) = 0 := by omega
      have h0e : ¬ s = ByteArray.empty := fun h => by rw [h] at hposn; exact absurd hposn (by decide)
      have h0f : ¬ s = { data := #[] } := h0e
      have v1 := wrap_eq (x := (s.size : Int) - 0) (by omega) (by omega)
      have v2 := wrap_eq (x := (s.size : Int)) (by omega) (by omega)
      by_cases hlen : D.length ≤ 9
      · have h9 : ¬ (9 : Int) < (s.size : Int) := by have := hsz'.out; omega
        by_cases hh : D.head? = some 48 ∧ ¬ s.size = 1
        · have hb48 : ((byteAt s 0).toNat : Int) = 48 := HHD.out.1 hh.1
          have hgt1 : (1 : Int) < s.size := by omega
          have e := HR.out
          rw [mag_none (.inr (.inr (.inl ⟨hh.1, by simp [hh.2]⟩)))] at e
          have hR1 : R = none := e.symm
          subst hR1
          clear e HR HGET hh
          refine VC_of Tryz.func112 rfl (by kernel_rfl) (by kernel_rfl) rfl fun M0 w0 => ?_
          simp only [Tryz.ntmps112, Tryz.results112, enumA]
          repeat' (first | (with_reducible first | refine vseq ?_ | refine vthenN ?_ | refine vthenR ?_ | refine vret ?_ | refine vskip ?_ | refine vrun_nil ?_ | refine vregion [] ?_) | ((with_reducible refine vcondT ?_ ?_); (focus (go_simp; done))) | ((with_reducible refine vcondF ?_ ?_); (focus (go_simp; done))) | ((with_reducible refine vrun_cons fun KK hKK => ?_); go_simp; refine hKK _ ?_; clear hKK KK))
          go_simp
        · have hone : D.head? = some 48 → decide (s.size = 1) = true := fun h => by
            rw [decide_eq_true_eq]
            exact Classical.byContradiction fun hn => hh ⟨h, hn⟩
          by_cases hb48 : ((byteAt s 0).toNat : Int) = 48
          · have hgt1 : ¬ (1 : Int) < s.size := by
              have := hone (HHD.out.2 hb48)
              rw [decide_eq_true_eq] at this
              omega
            have HONE := Lib.hid hone
            clear hone hh
            refine VC_of Tryz.func112 rfl (by kernel_rfl) (by kernel_rfl) rfl fun M0 w0 => ?_
            simp only [Tryz.ntmps112, Tryz.results112, enumA]
            repeat' (first | (with_reducible first | refine vseq ?_ | refine vthenN ?_ | refine vskip ?_ | refine vblock ?_ | refine vrun_nil ?_ | refine vregion [] ?_) | ((with_reducible refine vcondF ?_ ?_); (focus (go_simp; done))) | ((with_reducible refine vrun_cons fun KK hKK => ?_); go_simp; refine hKK _ ?_; clear hKK KK))
            apply vfor [0, 6] (fun k => [(8, I (k : Int)), (7, I (valF 0 (D.take k) : Nat))]) (fun k => ([] : Hp)) ((fun k => !isD (byteAt s (k)))) (D.length)
            · go_simp <;> exact rfl
            · go_simp
            · intro k hk HB HP K hK
              obtain ⟨w1, w2, w3, w4, w5, w6⟩ := ixs (m := k) (by omega)
              have hks : k < s.size := by have := hsz'.out; have := hlen'.out; omega
              have hp := HP.out
              simp only [Bool.not_eq_false'] at hp
              have hd := isD_nat hp
              have hbk := HGET.out k hk
              have hst := valF_take hk
              rw [hbk] at hst
              have hall : (D.take k).all isD = true := List.all_eq_true.2 fun x hx => by
                obtain ⟨j, hj, rfl⟩ := List.getElem_of_mem hx
                rw [List.length_take] at hj
                rw [List.getElem_take, HGET.out j (by omega)]
                have := HB.out j (by omega)
                simpa using this
              have hv := val_nine hall (by rw [List.length_take]; omega)
              have HST := Lib.hid hst
              have hki : ((k : Int)) < s.size := by have := hsz'.out; have := hlen'.out; omega
              clear hall hp hst
              generalize valF 0 (D.take k) = V at *
              generalize hbb : byteAt s (k) = b at *
              obtain ⟨n, hn⟩ : ∃ n, b.toNat = n := ⟨_, rfl⟩
              rw [hn] at hd HST
              have c1 : ¬ (n : Int) < 48 := by omega
              have c2 : ¬ (57 : Int) < n := by omega
              have u1 := wrap_eq (x := 10 * (V : Int)) (by omega) (by omega)
              have u2 : IntKind.u8.wrap ((n : Int) - 48) = (n : Int) - 48 := by simp [IntKind.wrap, IntKind.bits, IntKind.signed]; omega
              have u3 := wrap_eq (x := (n : Int) - 48) (by omega) (by omega)
              have u4 := wrap_eq (x := 10 * (V : Int) + ((n : Int) - 48)) (by omega) (by omega)
              clear hd
              repeat' (first | (with_reducible first | refine vseq ?_ | refine vthenN ?_ | refine vskip ?_ | refine vblock ?_ | refine vblockN ?_ | refine vrun_nil ?_ | refine vregion [] ?_) | ((with_reducible refine vcondT ?_ ?_); (focus (go_simp; done))) | ((with_reducible refine vcondF ?_ ?_); (focus (go_simp; done))) | ((with_reducible refine vrun_cons fun KK hKK => ?_); go_simp; refine hKK _ ?_; clear hKK KK))
              refine hK _ ?_
              rw [HST.out]
              go_simp
              omega
            · intro k hk HB HP K
              have hks : k < s.size := by have := hsz'.out; have := hlen'.out; omega
              have hp := HP.out
              simp only [Bool.not_eq_true'] at hp
              have hki : ((k : Int)) < s.size := by have := hsz'.out; have := hlen'.out; omega
              have hno : magT D (decide (s.size = 1)) = none := mag_none (.inr (.inr (.inr (by
                rw [List.all_eq_false]
                exact ⟨D[k], List.getElem_mem hk, by rw [HGET.out k hk, hp]; decide⟩))))
              have e := HR.out
              rw [hno] at e
              have hR1 : R = none := by rw [← e]; rfl
              subst hR1
              clear hno e HR
              generalize hbb : byteAt s (k) = b at *
              obtain ⟨n, hn⟩ : ∃ n, b.toNat = n := ⟨_, rfl⟩
              simp only [isD, hn, Bool.and_eq_false_iff, decide_eq_false_iff_not] at hp
              obtain ⟨w1, w2, w3, w4, w5, w6⟩ := ixs (m := k) (by omega)
              by_cases c1 : (n : Int) < 48
              · clear hp
                repeat' (first | (with_reducible first | refine vseq ?_ | refine vthenN ?_ | refine vthenR ?_ | refine vret ?_ | refine vskip ?_ | refine vblock ?_ | refine vblockR ?_ | refine vrun_nil ?_ | refine vregion [] ?_) | ((with_reducible refine vcondT ?_ ?_); (focus (go_simp; done))) | ((with_reducible refine vrun_cons fun KK hKK => ?_); go_simp; refine hKK _ ?_; clear hKK KK))
                go_simp
              · have c2 : (57 : Int) < n := by omega
                clear hp
                repeat' (first | (with_reducible first | refine vseq ?_ | refine vthenN ?_ | refine vthenR ?_ | refine vret ?_ | refine vskip ?_ | refine vblock ?_ | refine vblockR ?_ | refine vrun_nil ?_ | refine vregion [] ?_) | ((with_reducible refine vcondT ?_ ?_); (focus (go_simp; done))) | ((with_reducible refine vrun_cons fun KK hKK => ?_); go_simp; refine hKK _ ?_; clear hKK KK))
                go_simp
            · intro HB K
              have hall : D.all isD = true := List.all_eq_true.2 fun x hx => by
                obtain ⟨j, hj, rfl⟩ := List.getElem_of_mem hx
                rw [HGET.out j hj]
                have := HB.out j hj
                simpa using this
              have hv := val_nine hall (by omega)
              have e := HR.out
              rw [some_mag hD0 hlen HONE.out hall] at e
              rw [List.take_length]
              have hR1 : R = some ((valF 0 D : Int)) := e.symm
              subst hR1
              clear e hall HR
              generalize valF 0 D = V at *
              have u1 := wrap_eq (x := -(V : Int)) (by omega) (by omega)
              have u2 := wrap_eq (x := 0 - (V : Int)) (by omega) (by omega)
              have u3 : (0 : Int) - V = -V := by omega
              have hki : ¬ (((D.length : Nat) : Int)) < s.size := by have := hsz'.out; have := hlen'.out; omega
              repeat' (first | (with_reducible first | refine vseq ?_ | refine vthenN ?_ | refine vthenE ?_ | refine vret ?_ | refine vskip ?_ | refine vexit ?_ | refine vblockH ?_ | refine vrun_nil ?_ | refine vregion [] ?_) | ((with_reducible refine vcondF ?_ ?_); (focus (go_simp; done))) | ((with_reducible refine vrun_cons fun KK hKK => ?_); go_simp; refine hKK _ ?_; clear hKK KK))
              go_simp
          · have HONE := Lib.hid hone
            clear hone hh
            refine VC_of Tryz.func112 rfl (by kernel_rfl) (by kernel_rfl) rfl fun M0 w0 => ?_
            simp only [Tryz.ntmps112, Tryz.results112, enumA]
            repeat' (first | (with_reducible first | refine vseq ?_ | refine vthenN ?_ | refine vskip ?_ | refine vblock ?_ | refine vrun_nil ?_ | refine vregion [] ?_) | ((with_reducible refine vcondF ?_ ?_); (focus (go_simp; done))) | ((with_reducible refine vrun_cons fun KK hKK => ?_); go_simp; refine hKK _ ?_; clear hKK KK))
            apply vfor [0, 6] (fun k => [(8, I (k : Int)), (7, I (valF 0 (D.take k) : Nat))]) (fun k => ([] : Hp)) ((fun k => !isD (byteAt s (k)))) (D.length)
            · go_simp <;> exact rfl
            · go_simp
            · intro k hk HB HP K hK
              obtain ⟨w1, w2, w3, w4, w5, w6⟩ := ixs (m := k) (by omega)
              have hks : k < s.size := by have := hsz'.out; have := hlen'.out; omega
              have hp := HP.out
              simp only [Bool.not_eq_false'] at hp
              have hd := isD_nat hp
              have hbk := HGET.out k hk
              have hst := valF_take hk
              rw [hbk] at hst
              have hall : (D.take k).all isD = true := List.all_eq_true.2 fun x hx => by
                obtain ⟨j, hj, rfl⟩ := List.getElem_of_mem hx
                rw [List.length_take] at hj
                rw [List.getElem_take, HGET.out j (by omega)]
                have := HB.out j (by omega)
                simpa using this
              have hv := val_nine hall (by rw [List.length_take]; omega)
              have HST := Lib.hid hst
              have hki : ((k : Int)) < s.size := by have := hsz'.out; have := hlen'.out; omega
              clear hall hp hst
              generalize valF 0 (D.take k) = V at *
              generalize hbb : byteAt s (k) = b at *
              obtain ⟨n, hn⟩ : ∃ n, b.toNat = n := ⟨_, rfl⟩
              rw [hn] at hd HST
              have c1 : ¬ (n : Int) < 48 := by omega
              have c2 : ¬ (57 : Int) < n := by omega
              have u1 := wrap_eq (x := 10 * (V : Int)) (by omega) (by omega)
              have u2 : IntKind.u8.wrap ((n : Int) - 48) = (n : Int) - 48 := by simp [IntKind.wrap, IntKind.bits, IntKind.signed]; omega
              have u3 := wrap_eq (x := (n : Int) - 48) (by omega) (by omega)
              have u4 := wrap_eq (x := 10 * (V : Int) + ((n : Int) - 48)) (by omega) (by omega)
              clear hd
              repeat' (first | (with_reducible first | refine vseq ?_ | refine vthenN ?_ | refine vskip ?_ | refine vblock ?_ | refine vblockN ?_ | refine vrun_nil ?_ | refine vregion [] ?_) | ((with_reducible refine vcondT ?_ ?_); (focus (go_simp; done))) | ((with_reducible refine vcondF ?_ ?_); (focus (go_simp; done))) | ((with_reducible refine vrun_cons fun KK hKK => ?_); go_simp; refine hKK _ ?_; clear hKK KK))
              refine hK _ ?_
              rw [HST.out]
              go_simp
              omega
            · intro k hk HB HP K
              have hks : k < s.size := by have := hsz'.out; have := hlen'.out; omega
              have hp := HP.out
              simp only [Bool.not_eq_true'] at hp
              have hki : ((k : Int)) < s.size := by have := hsz'.out; have := hlen'.out; omega
              have hno : magT D (decide (s.size = 1)) = none := mag_none (.inr (.inr (.inr (by
                rw [List.all_eq_false]
                exact ⟨D[k], List.getElem_mem hk, by rw [HGET.out k hk, hp]; decide⟩))))
              have e := HR.out
              rw [hno] at e
              have hR1 : R = none := by rw [← e]; rfl
              subst hR1
              clear hno e HR
              generalize hbb : byteAt s (k) = b at *
              obtain ⟨n, hn⟩ : ∃ n, b.toNat = n := ⟨_, rfl⟩
              simp only [isD, hn, Bool.and_eq_false_iff, decide_eq_false_iff_not] at hp
              obtain ⟨w1, w2, w3, w4, w5, w6⟩ := ixs (m := k) (by omega)
              by_cases c1 : (n : Int) < 48
              · clear hp
                repeat' (first | (with_reducible first | refine vseq ?_ | refine vthenN ?_ | refine vthenR ?_ | refine vret ?_ | refine vskip ?_ | refine vblock ?_ | refine vblockR ?_ | refine vrun_nil ?_ | refine vregion [] ?_) | ((with_reducible refine vcondT ?_ ?_); (focus (go_simp; done))) | ((with_reducible refine vrun_cons fun KK hKK => ?_); go_simp; refine hKK _ ?_; clear hKK KK))
                go_simp
              · have c2 : (57 : Int) < n := by omega
                clear hp
                repeat' (first | (with_reducible first | refine vseq ?_ | refine vthenN ?_ | refine vthenR ?_ | refine vret ?_ | refine vskip ?_ | refine vblock ?_ | refine vblockR ?_ | refine vrun_nil ?_ | refine vregion [] ?_) | ((with_reducible refine vcondT ?_ ?_); (focus (go_simp; done))) | ((with_reducible refine vrun_cons fun KK hKK => ?_); go_simp; refine hKK _ ?_; clear hKK KK))
                go_simp
            · intro HB K
              have hall : D.all isD = true := List.all_eq_true.2 fun x hx => by
                obtain ⟨j, hj, rfl⟩ := List.getElem_of_mem hx
                rw [HGET.out j hj]
                have := HB.out j hj
                simpa using this
              have hv := val_nine hall (by omega)
              have e := HR.out
              rw [some_mag hD0 hlen HONE.out hall] at e
              rw [List.take_length]
              have hR1 : R = some ((valF 0 D : Int)) := e.symm
              subst hR1
              clear e hall HR
              generalize valF 0 D = V at *
              have u1 := wrap_eq (x := -(V : Int)) (by omega) (by omega)
              have u2 := wrap_eq (x := 0 - (V : Int)) (by omega) (by omega)
              have u3 : (0 : Int) - V = -V := by omega
              have hki : ¬ (((D.length : Nat) : Int)) < s.size := by have := hsz'.out; have := hlen'.out; omega
              repeat' (first | (with_reducible first | refine vseq ?_ | refine vthenN ?_ | refine vthenE ?_ | refine vret ?_ | refine vskip ?_ | refine vexit ?_ | refine vblockH ?_ | refine vrun_nil ?_ | refine vregion [] ?_) | ((with_reducible refine vcondF ?_ ?_); (focus (go_simp; done))) | ((with_reducible refine vrun_cons fun KK hKK => ?_); go_simp; refine hKK _ ?_; clear hKK KK))
              go_simp
      · have h9 : (9 : Int) < (s.size : Int) := by have := hsz'.out; omega
        have e := HR.out
        rw [mag_none (.inr (.inl (by omega)))] at e
        have hR1 : R = none := e.symm
        subst hR1
        clear e HR HGET
        refine VC_of Tryz.func112 rfl (by kernel_rfl) (by kernel_rfl) rfl fun M0 w0 => ?_
        simp only [Tryz.ntmps112, Tryz.results112, enumA]
        repeat' (first | (with_reducible first | refine vseq ?_ | refine vthenN ?_ | refine vthenR ?_ | refine vret ?_ | refine vskip ?_ | refine vrun_nil ?_ | refine vregion [] ?_) | ((with_reducible refine vcondT ?_ ?_); (focus (go_simp; done))) | ((with_reducible refine vcondF ?_ ?_); (focus (go_simp; done))) | ((with_reducible refine vrun_cons fun KK hKK => ?_); go_simp; refine hKK _ ?_; clear hKK KK))
        go_simp
end Go.Proofs.YtoibondihdhnoaaGreatDoor
