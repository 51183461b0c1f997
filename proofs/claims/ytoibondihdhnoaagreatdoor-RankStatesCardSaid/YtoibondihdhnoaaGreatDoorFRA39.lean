/- Texts in one: Walks: the text of a state. -/
import Derived.Test.YtoibondihdhnoaaGreatDoorFRA38
import Derived.Lib.ItoaLen
namespace Go.Proofs.YtoibondihdhnoaaGreatDoor
open Go.RowKit Go.Shelf
set_option maxRecDepth 100000
set_option maxHeartbeats 1000000
def i64 (n : Int) : Prop := -9223372036854775808 ≤ n ∧ n ≤ 9223372036854775807
structure SmallS (s : St) : Prop where
 nq : s.q.length ≤ 300
 q1 : ∀ l ∈ s.q, l.length ≤ 300 ∧ ∀ c ∈ l, c.size ≤ 1000
 nt : s.tk.length ≤ 300
 t1 : ∀ t ∈ s.tk, t.car.size ≤ 1000 ∧ i64 t.rank ∧ i64 t.time
 tm : i64 s.time
def tkText (t : Tk) : ByteArray := joinB [t.car, decT t.rank, decT t.time] ⟨#[58]⟩
def tksText (s : St) : ByteArray := joinB (s.tk.map tkText) ⟨#[32]⟩
def stPieces (s : St) (k : Nat) : List ByteArray := decT s.time :: (s.q.take k).map fun l => joinB l ⟨#[32]⟩
def stText (s : St) : ByteArray := joinB (stPieces s s.q.length ++ [tksText s]) ⟨#[124]⟩
theorem joinB_le {l : List ByteArray} {s : ByteArray} {B : Nat} (h : ∀ x ∈ l, x.size ≤ B) : (Lib.join (l.map bl) (bl s)).length ≤ l.length * (B + s.size) := by
 have := join_le (bl s) B (l.map bl) fun x hx => by
  obtain ⟨y, hy, rfl⟩ := List.mem_map.1 hx
  have h1 := h y hy
  have h2 : (bl y).length = y.size := size_L y
  omega
 rw [List.length_map, show (bl s).length = s.size from size_L s] at this
 exact this
theorem joinB_size (l : List ByteArray) (s : ByteArray) : (joinB l s).size = (Lib.join (l.map bl) (bl s)).length := by
 unfold joinB
 rw [← size_L]
theorem dec_le {n : Int} (h : i64 n) : (decT n).size ≤ 21 := by
 have := Lib.itoa_length_le n h.1 h.2
 rw [← size_L]
 exact this
theorem stP_len {s : St} {k : Nat} (h : k ≤ s.q.length) : (stPieces s k).length = k + 1 := by simp [stPieces, List.length_take]; omega
theorem stP_succ {s : St} {k : Nat} (h : k < s.q.length) : stPieces s (k + 1) = stPieces s k ++ [joinB (qat s.q k) ⟨#[32]⟩] := by
 rw [stPieces, stPieces, takeS_at h, List.map_append, List.cons_append, qat_get h]
 rfl
def tkPieces (s : St) (k : Nat) : List ByteArray := (s.tk.take k).map tkText
theorem tkP_len {s : St} {k : Nat} (h : k ≤ s.tk.length) : (tkPieces s k).length = k := by simp [tkPieces, List.length_take]; omega
theorem tkP_succ {s : St} {k : Nat} (h : k < s.tk.length) : tkPieces s (k + 1) = tkPieces s k ++ [tkText (tkat s.tk k)] := by
 rw [tkPieces, tkPieces, takeS_at h, List.map_append, tkat_get h]
 rfl
theorem p_FormatState (s : St) (h : SmallS s) : VC Tryz.prog 61 [stateA s] (S (stText s)) := by
 have hq := h.q1
 have ht := h.t1
 have hnq := h.nq
 have hnt := h.nt
 have bq : ∀ k, k < s.q.length → (joinB (qat s.q k) ⟨#[32]⟩).size ≤ 301000 := fun k hk => by
  obtain ⟨h1, h2⟩ := hq _ (List.getElem_mem hk)
  rw [joinB_size, qat_get hk]
  refine Nat.le_trans (joinB_le h2) ?_
  have : s.q[k].length * (1000 + (⟨#[32]⟩ : ByteArray).size) ≤ 300 * 1001 := Nat.mul_le_mul h1 (Nat.le_refl _)
  omega
 have bt : ∀ k, k < s.tk.length → (tkText (tkat s.tk k)).size ≤ 3003 := fun k hk => by
  obtain ⟨h1, h2, h3⟩ := ht _ (List.getElem_mem hk)
  unfold tkText
  rw [joinB_size, tkat_get hk]
  refine Nat.le_trans (joinB_le (B := 1000) fun x hx => ?_) (Nat.le_refl _)
  simp only [List.mem_cons, List.not_mem_nil, or_false] at hx
  rcases hx with rfl | rfl | rfl
  ·exact h1
  ·exact Nat.le_trans (dec_le h2) (by omega)
  ·exact Nat.le_trans (dec_le h3) (by omega)
 have etk : tkPieces s s.tk.length = s.tk.map tkText := by rw [tkPieces, List.take_length]
 have hts : ∀ x ∈ tkPieces s s.tk.length, x.size ≤ 3003 := fun x hx => by
  rw [etk] at hx
  obtain ⟨y, hy, rfl⟩ := List.mem_map.1 hx
  obtain ⟨k, hk, rfl⟩ := List.getElem_of_mem hy
  rw [← tkat_get hk]
  exact bt k hk
 have lts : (Lib.join ((tkPieces s s.tk.length).map bl) (bl ⟨#[32]⟩)).length ≤ 901200 := by
  refine Nat.le_trans (joinB_le hts) ?_
  rw [tkP_len (Nat.le_refl _)]
  exact Nat.mul_le_mul hnt (Nat.le_refl _)
 have bts : (tksText s).size ≤ 901200 := by
  unfold tksText
  rw [joinB_size, ← etk]
  exact lts
 have hall : ∀ x ∈ stPieces s s.q.length ++ [tksText s], x.size ≤ 1000000 := fun x hx => by
  rcases List.mem_append.1 hx with hx | hx
  ·rw [stPieces, List.take_length] at hx
   rcases List.mem_cons.1 hx with rfl | hx
   ·exact Nat.le_trans (dec_le h.tm) (by omega)
   ·obtain ⟨y, hy, rfl⟩ := List.mem_map.1 hx
    obtain ⟨k, hk, rfl⟩ := List.getElem_of_mem hy
    have := bq k hk
    rw [qat_get hk] at this
    omega
  ·simp at hx
   rw [hx]
   omega
 have lall : (Lib.join ((stPieces s s.q.length ++ [tksText s]).map bl) (bl ⟨#[124]⟩)).length ≤ 1000000000 := by
  refine Nat.le_trans (joinB_le hall) ?_
  rw [List.length_append, stP_len (Nat.le_refl _)]
  have : (s.q.length + 1 + 1) * (1000000 + 1) ≤ 302 * 1000001 := Nat.mul_le_mul (by omega) (Nat.le_refl _)
  simp only [List.length_cons, List.length_nil]
  have e : (⟨#[124]⟩ : ByteArray).size = 1 := rfl
  rw [e]
  omega
 have g0 := v_ItoaM s.time h.tm
 have HJ1 := Lib.hid (v_Join (tkPieces s s.tk.length) ⟨#[32]⟩ (by omega) (by rw [tkP_len (Nat.le_refl _)]; omega))
 have HJ2 := Lib.hid (v_Join (stPieces s s.q.length ++ [tksText s]) ⟨#[124]⟩ lall (by rw [List.length_append, stP_len (Nat.le_refl _)]; simp; omega))
 have HQ : Hid (∀ k, k < s.q.length → VC Tryz.prog 102 [txtsA (qat s.q k), S ⟨#[32]⟩] (S (joinB (qat s.q k) ⟨#[32]⟩))) := Lib.hid fun k hk => by
  obtain ⟨h1, h2⟩ := hq _ (List.getElem_mem hk)
  rw [← qat_get hk] at h1 h2
  have := bq k hk
  rw [joinB_size] at this
  exact v_Join (qat s.q k) ⟨#[32]⟩ (Nat.le_trans this (by omega)) (by omega)
 have HT : Hid (∀ k, k < s.tk.length → VC Tryz.prog 103 [I (tkat s.tk k).rank] (S (decT (tkat s.tk k).rank)) ∧ VC Tryz.prog 103 [I (tkat s.tk k).time] (S (decT (tkat s.tk k).time)) ∧ VC Tryz.prog 102 [txtsA [(tkat s.tk k).car, decT (tkat s.tk k).rank, decT (tkat s.tk k).time], S ⟨#[58]⟩] (S (tkText (tkat s.tk k)))) := Lib.hid fun k hk => by
  obtain ⟨h1, h2, h3⟩ := ht _ (List.getElem_mem hk)
  rw [← tkat_get hk] at h2 h3
  have := bt k hk
  unfold tkText at this
  rw [joinB_size] at this
  exact ⟨v_ItoaM _ h2, v_ItoaM _ h3, v_Join [(tkat s.tk k).car, decT (tkat s.tk k).rank, decT (tkat s.tk k).time] ⟨#[58]⟩ (Nat.le_trans this (by omega)) (by simp)⟩
 have HE := Lib.hid etk
 unfold stText
 unfold tksText at *
 clear hq ht bq bt hts lts bts hall lall etk h
 generalize hR : joinB (stPieces s s.q.length ++ [joinB (s.tk.map tkText) ⟨#[32]⟩]) ⟨#[124]⟩ = R at *
 clear hR
 refine VC_of Tryz.func61 rfl (by kernel_rfl) (by kernel_rfl) rfl fun M0 w0 => ?_
 simp only [Tryz.ntmps61, Tryz.results61, enumA]
 have e0 : stPieces s 0 = [decT s.time] := rfl
 have e1 : tkPieces s 0 = [] := rfl
 repeat' (first | (with_reducible first | refine vseq ?_ | refine vthenN ?_ | refine vblock ?_ | refine vrun_nil ?_ | refine vregion [12] ?_) | ((with_reducible refine vrun_cons fun KK hKK => ?_); go_simp; (first | (with_reducible refine ⟨_, g0, ?_⟩) | skip); refine hKK _ ?_; clear hKK KK))
 apply vcnt [1, 14, 15] (fun k => [(16, I k), (3, .osl 0)]) (fun k => ([some (.arr 9 1 false ((stPieces s k).map txtA))] : Hp))  (s.q.length)
 ·go_simp <;> exact rfl
 ·go_simp
 ·intro k hk K hK
  obtain ⟨w1, w2, w3, w4, w5, w6⟩ := ixs (m := k) (by omega)
  have HS := Lib.hid (stP_succ hk)
  have hnl := stP_len (s := s) (k := k) (by omega)
  have hb : (stPieces s k).length + 1 ≤ 1000000000 := by omega
  clear hnl
  have gj := HQ.out k hk
  generalize joinB (qat s.q k) ⟨#[32]⟩ = J at *
  repeat' (first | (with_reducible first | refine vseq ?_ | refine vthenN ?_ | refine vskip ?_ | refine vblock ?_ | refine vblockN ?_ | refine vrun_nil ?_ | refine vregion [] ?_) | ((with_reducible refine vcondT ?_ ?_); (focus (go_simp; done))) | ((with_reducible refine vrun_cons fun KK hKK => ?_); go_simp; (first | (with_reducible refine ⟨_, gj, ?_⟩) | skip); refine hKK _ ?_; clear hKK KK))
  refine hK _ ?_
  rw [HS.out]
  go_simp
 ·intro K
  repeat' (first | (with_reducible first | refine vseq ?_ | refine vthenN ?_ | refine vthenE ?_ | refine vexit ?_ | refine vblock ?_ | refine vblockH ?_ | refine vrun_nil ?_ | refine vregion [6] ?_) | ((with_reducible refine vcondF ?_ ?_); (focus (go_simp; done))) | ((with_reducible refine vrun_cons fun KK hKK => ?_); go_simp; refine hKK _ ?_; clear hKK KK))
  apply vcnt [3, 27, 28] (fun k => [(29, I k), (6, .osl 1)]) (fun k => ([some (.arr 9 1 false ((stPieces s s.q.length).map txtA)), some (.arr 9 1 (decide (tkPieces s k = [])) ((tkPieces s k).map txtA))] : Hp))  (s.tk.length)
  ·go_simp <;> exact rfl
  ·go_simp
  ·intro k hk K hK
   obtain ⟨w1, w2, w3, w4, w5, w6⟩ := ixs (m := k) (by omega)
   have HS := Lib.hid (tkP_succ hk)
   have hnl := tkP_len (s := s) (k := k) (by omega)
   have hb : (tkPieces s k).length + 1 ≤ 1000000000 := by omega
   clear hnl
   obtain ⟨g1, g2, g3⟩ := HT.out k hk
   generalize tkText (tkat s.tk k) = J at *
   generalize decT (tkat s.tk k).rank = D1 at *
   generalize decT (tkat s.tk k).time = D2 at *
   repeat' (with_reducible refine vseq ?_)
   refine vregion [] ?_
   repeat' (first | (with_reducible first | refine vseq ?_ | refine vthenN ?_ | refine vskip ?_ | refine vblock ?_ | refine vrun_nil ?_) | ((with_reducible refine vcondT ?_ ?_); (focus (go_simp; done))) | ((with_reducible refine vrun_cons fun KK hKK => ?_); go_simp; refine hKK _ ?_; clear hKK KK))
   refine vregion [] ?_
   repeat' (first | (with_reducible first | refine vthenN ?_ | refine vrun_nil ?_) | ((with_reducible refine vrun_cons fun KK hKK => ?_); go_simp; refine hKK _ ?_; clear hKK KK))
   refine vdrawE 12 [45] 1 [] (by kernel_rfl) (by kernel_rfl) (by kernel_rfl) (by kernel_rfl) rfl ⟨rfl, rfl⟩ rfl ?_
   simp only [List.take, List.drop]
   repeat' (first | (with_reducible refine vhrun_nil ?_) | ((with_reducible refine vhrun_cons fun KK hKK => ?_); go_simp; (first | (with_reducible refine ⟨_, g1, ?_⟩) | (with_reducible refine ⟨_, g2, ?_⟩) | (refine ⟨_, g3, ?_⟩) | skip); refine hKK _ ?_; clear hKK KK))
   refine ⟨_, by go_simp, by go_simp; exact rfl, ?_, ?_⟩
   ·intro t ht
    simp at ht
   go_simp
   repeat' (first | (with_reducible first | refine vthenN ?_ | refine vblockN ?_ | refine vrun_nil ?_ | refine vregion [] ?_) | ((with_reducible refine vrun_cons fun KK hKK => ?_); go_simp; refine hKK _ ?_; clear hKK KK))
   refine hK _ ?_
   rw [HS.out]
   go_simp
  ·intro K
   have hj := HJ1.out
   rw [HE.out] at hj ⊢
   have hj2 := HJ2.out
   generalize joinB (s.tk.map tkText) ⟨#[32]⟩ = J at *
   generalize s.tk.map tkText = TT at *
   have hb : (stPieces s s.q.length).length + 1 ≤ 1000000000 := by rw [stP_len (Nat.le_refl _)]; omega
   generalize stPieces s s.q.length = SP at *
   have e2 : (SP ++ [J]).map txtA = SP.map txtA ++ [[S J]] := by simp [txtA]
   unfold txtsA at hj2
   rw [e2] at hj2
   repeat' (first | (with_reducible first | refine vseq ?_ | refine vthenN ?_ | refine vthenE ?_ | refine vret ?_ | refine vexit ?_ | refine vblockH ?_ | refine vrun_nil ?_ | refine vregion [] ?_) | ((with_reducible refine vcondF ?_ ?_); (focus (go_simp; done))) | ((with_reducible refine vrun_cons fun KK hKK => ?_); go_simp; (first | (refine ⟨_, ⟨hj, rfl⟩, ?_⟩) | (refine ⟨_, ⟨hj2, rfl⟩, ?_⟩) | skip); refine hKK _ ?_; clear hKK KK))
   go_simp
end Go.Proofs.YtoibondihdhnoaaGreatDoor
