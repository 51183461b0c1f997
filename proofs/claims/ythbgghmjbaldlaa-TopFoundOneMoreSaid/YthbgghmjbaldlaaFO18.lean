/- Texts in one: Walks on plain values: in how many keys marks agree, and candidates; texts of at most 1000 bytes. -/
import Derived.Test.YthbgghmjbaldlaaFO17
import Derived.Test.YthbgghmjbaldlaaFO6
/-! QK: Walks on plain values: in how many keys marks agree, and candidates; texts of at most 1000 bytes. -/
namespace Go.Proofs.Ythbgghmjbaldlaa
open Go.RowKit
set_option maxRecDepth 100000
set_option maxHeartbeats 1000000
theorem p_compared (a b : List Mark) (ha : a.length ≤ 1000) (hb : b.length ≤ 1000) : VC Try.prog 36 [marksA a, marksA b] (.agg [I (agr a b).1, I (agr a b).2]) := by
  refine VC_of Try.func36 rfl (by kernel_rfl) (by kernel_rfl) rfl fun M0 w0 => ?_
  simp only [Try.ntmps36, Try.results36, enumA]
  repeat' (first | (with_reducible first | refine vseq ?_ | refine vthenN ?_ | refine vthenE ?_ | refine vthenR ?_ | refine vret ?_ | refine vskip ?_ | refine vexit ?_ | refine vblock ?_ | refine vblockN ?_ | refine vblockR ?_ | refine vblockH ?_ | refine vrun_nil ?_ | refine vblockE rfl ?_ | refine vregion [] ?_ | refine vhrun_nil ?_) | ((with_reducible refine vcondT ?_ ?_); (focus (go_simp; done))) | ((with_reducible refine vcondF ?_ ?_); (focus (go_simp; done))) | ((with_reducible first | refine vrun_cons fun KK hKK => ?_ | refine vhrun_cons fun KK hKK => ?_); go_simp; refine hKK _ ?_; clear hKK KK) | ((with_reducible refine vcondS ?_ (fun ht => ?_) (fun ht => ?_)); (focus (go_simp; done)); (all_goals (simp [go_sem] at ht; replace ht := ht.out))) | ((apply vrun_consG0 rfl); (focus (go_simp <;> exact rfl)); (focus (go_simp; done)); (focus (intro hb0; replace hb0 := hb0.out; go_simp <;> (first | exact rfl))); intro KK hKK; go_simp; refine hKK _ ?_; clear hKK KK))
  apply vcnt [1, 4, 5, 14, 15] (fun k => [(16, I k)]) (fun k => ([some (.box [I 0, I 0]), some (.mpo (4, .i64) (mapTo a k))] : Hp))  (a.length)
  · go_simp <;> exact rfl
  · go_simp
  · intro k hk K hK
    obtain ⟨w1, w2, w3, w4, w5, w6⟩ := ixs (m := k) (by omega)
    have hm : mapTo a (k + 1) = updK (.string a[k].key) (.string a[k].value) (mapTo a k) := by rw [mapTo, mat_get hk]
    repeat' (first | (with_reducible first | refine vseq ?_ | refine vthenN ?_ | refine vthenE ?_ | refine vthenR ?_ | refine vret ?_ | refine vskip ?_ | refine vexit ?_ | refine vblock ?_ | refine vblockN ?_ | refine vblockR ?_ | refine vblockH ?_ | refine vrun_nil ?_ | refine vblockE rfl ?_ | refine vregion [] ?_ | refine vhrun_nil ?_) | ((with_reducible refine vcondT ?_ ?_); (focus (go_simp; done))) | ((with_reducible refine vcondF ?_ ?_); (focus (go_simp; done))) | ((with_reducible first | refine vrun_cons fun KK hKK => ?_ | refine vhrun_cons fun KK hKK => ?_); go_simp; refine hKK _ ?_; clear hKK KK) | ((with_reducible refine vcondS ?_ (fun ht => ?_) (fun ht => ?_)); (focus (go_simp; done)); (all_goals (simp [go_sem] at ht; replace ht := ht.out))) | ((apply vrun_consG0 rfl); (focus (go_simp <;> exact rfl)); (focus (go_simp; done)); (focus (intro hb0; replace hb0 := hb0.out; go_simp <;> (first | exact rfl))); intro KK hKK; go_simp; refine hKK _ ?_; clear hKK KK))
    refine hK _ ?_
    rw [hm]
    go_simp
  · intro K
    repeat' (first | (with_reducible first | refine vseq ?_ | refine vthenN ?_ | refine vthenE ?_ | refine vthenR ?_ | refine vret ?_ | refine vskip ?_ | refine vexit ?_ | refine vblock ?_ | refine vblockN ?_ | refine vblockR ?_ | refine vblockH ?_ | refine vrun_nil ?_ | refine vblockE rfl ?_ | refine vregion [] ?_ | refine vhrun_nil ?_) | ((with_reducible refine vcondT ?_ ?_); (focus (go_simp; done))) | ((with_reducible refine vcondF ?_ ?_); (focus (go_simp; done))) | ((with_reducible first | refine vrun_cons fun KK hKK => ?_ | refine vhrun_cons fun KK hKK => ?_); go_simp; refine hKK _ ?_; clear hKK KK) | ((with_reducible refine vcondS ?_ (fun ht => ?_) (fun ht => ?_)); (focus (go_simp; done)); (all_goals (simp [go_sem] at ht; replace ht := ht.out))) | ((apply vrun_consG0 rfl); (focus (go_simp <;> exact rfl)); (focus (go_simp; done)); (focus (intro hb0; replace hb0 := hb0.out; go_simp <;> (first | exact rfl))); intro KK hKK; go_simp; refine hKK _ ?_; clear hKK KK))
    apply vcnt [4, 5, 8, 26, 27] (fun k => [(28, I k)]) (fun k => ([some (.box [I 0, I 0]), some (.mpo (4, .i64) (mapTo a a.length)), some (.box [I (agrTo a b k).1, I (agrTo a b k).2])] : Hp))  (b.length)
    · go_simp <;> exact rfl
    · go_simp
    · intro k hk K hK
      obtain ⟨w1, w2, w3, w4, w5, w6⟩ := ixs (m := k) (by omega)
      have hf := find_map a b[k].key a.length
      have hle := agrTo_le a b k
      have hvo : valTo a b[k].key a.length = valOf a b[k].key := rfl
      rw [hvo] at hf
      clear hvo
      have hb2 := mat_get hk
      cases hvv : valOf a b[k].key with
      | none =>
        have hn := agrTo_none (a := a) (b := b) (n := k) (by rw [hb2]; exact hvv)
        rw [hvv] at hf
        simp only [Option.map] at hf
        clear hvv hb2
        generalize agrTo a b k = pq at *
        repeat' (first | (with_reducible first | refine vseq ?_ | refine vthenN ?_ | refine vthenE ?_ | refine vthenR ?_ | refine vret ?_ | refine vskip ?_ | refine vexit ?_ | refine vblock ?_ | refine vblockN ?_ | refine vblockR ?_ | refine vblockH ?_ | refine vrun_nil ?_ | refine vblockE rfl ?_ | refine vregion [] ?_ | refine vhrun_nil ?_) | ((with_reducible refine vcondT ?_ ?_); (focus (go_simp; done))) | ((with_reducible refine vcondF ?_ ?_); (focus (go_simp; done))) | ((with_reducible first | refine vrun_cons fun KK hKK => ?_ | refine vhrun_cons fun KK hKK => ?_); go_simp; refine hKK _ ?_; clear hKK KK) | ((with_reducible refine vcondS ?_ (fun ht => ?_) (fun ht => ?_)); (focus (go_simp; done)); (all_goals (simp [go_sem] at ht; replace ht := ht.out))) | ((apply vrun_consG0 rfl); (focus (go_simp <;> exact rfl)); (focus (go_simp; done)); (focus (intro hb0; replace hb0 := hb0.out; go_simp <;> (first | exact rfl))); intro KK hKK; go_simp; refine hKK _ ?_; clear hKK KK))
        refine hK _ ?_
        rw [hn]
        go_simp
      | some v =>
        rw [hvv] at hf
        simp only [Option.map] at hf
        by_cases hv : v = b[k].value
        · have hn := agrTo_eq (a := a) (b := b) (n := k) (by rw [hb2]; exact hvv) (by rw [hb2]; exact hv)
          clear hvv hb2
          generalize agrTo a b k = pq at *
          have y1 := wrap_eq (x := pq.1 + 1) (by omega) (by omega)
          repeat' (first | (with_reducible first | refine vseq ?_ | refine vthenN ?_ | refine vthenE ?_ | refine vthenR ?_ | refine vret ?_ | refine vskip ?_ | refine vexit ?_ | refine vblock ?_ | refine vblockN ?_ | refine vblockR ?_ | refine vblockH ?_ | refine vrun_nil ?_ | refine vblockE rfl ?_ | refine vregion [] ?_ | refine vhrun_nil ?_) | ((with_reducible refine vcondT ?_ ?_); (focus (go_simp; done))) | ((with_reducible refine vcondF ?_ ?_); (focus (go_simp; done))) | ((with_reducible first | refine vrun_cons fun KK hKK => ?_ | refine vhrun_cons fun KK hKK => ?_); go_simp; refine hKK _ ?_; clear hKK KK) | ((with_reducible refine vcondS ?_ (fun ht => ?_) (fun ht => ?_)); (focus (go_simp; done)); (all_goals (simp [go_sem] at ht; replace ht := ht.out))) | ((apply vrun_consG0 rfl); (focus (go_simp <;> exact rfl)); (focus (go_simp; done)); (focus (intro hb0; replace hb0 := hb0.out; go_simp <;> (first | exact rfl))); intro KK hKK; go_simp; refine hKK _ ?_; clear hKK KK))
          refine hK _ ?_
          rw [hn]
          go_simp
        · have hn := agrTo_ne (a := a) (b := b) (n := k) (by rw [hb2]; exact hvv) (by rw [hb2]; exact hv)
          clear hvv hb2
          generalize agrTo a b k = pq at *
          have y2 := wrap_eq (x := pq.2 + 1) (by omega) (by omega)
          repeat' (first | (with_reducible first | refine vseq ?_ | refine vthenN ?_ | refine vthenE ?_ | refine vthenR ?_ | refine vret ?_ | refine vskip ?_ | refine vexit ?_ | refine vblock ?_ | refine vblockN ?_ | refine vblockR ?_ | refine vblockH ?_ | refine vrun_nil ?_ | refine vblockE rfl ?_ | refine vregion [] ?_ | refine vhrun_nil ?_) | ((with_reducible refine vcondT ?_ ?_); (focus (go_simp; done))) | ((with_reducible refine vcondF ?_ ?_); (focus (go_simp; done))) | ((with_reducible first | refine vrun_cons fun KK hKK => ?_ | refine vhrun_cons fun KK hKK => ?_); go_simp; refine hKK _ ?_; clear hKK KK) | ((with_reducible refine vcondS ?_ (fun ht => ?_) (fun ht => ?_)); (focus (go_simp; done)); (all_goals (simp [go_sem] at ht; replace ht := ht.out))) | ((apply vrun_consG0 rfl); (focus (go_simp <;> exact rfl)); (focus (go_simp; done)); (focus (intro hb0; replace hb0 := hb0.out; go_simp <;> (first | exact rfl))); intro KK hKK; go_simp; refine hKK _ ?_; clear hKK KK))
          refine hK _ ?_
          rw [hn]
          go_simp
    · intro K
      repeat' (first | (with_reducible first | refine vseq ?_ | refine vthenN ?_ | refine vthenE ?_ | refine vthenR ?_ | refine vret ?_ | refine vskip ?_ | refine vexit ?_ | refine vblock ?_ | refine vblockN ?_ | refine vblockR ?_ | refine vblockH ?_ | refine vrun_nil ?_ | refine vblockE rfl ?_ | refine vregion [] ?_ | refine vhrun_nil ?_) | ((with_reducible refine vcondT ?_ ?_); (focus (go_simp; done))) | ((with_reducible refine vcondF ?_ ?_); (focus (go_simp; done))) | ((with_reducible first | refine vrun_cons fun KK hKK => ?_ | refine vhrun_cons fun KK hKK => ?_); go_simp; refine hKK _ ?_; clear hKK KK) | ((with_reducible refine vcondS ?_ (fun ht => ?_) (fun ht => ?_)); (focus (go_simp; done)); (all_goals (simp [go_sem] at ht; replace ht := ht.out))) | ((apply vrun_consG0 rfl); (focus (go_simp <;> exact rfl)); (focus (go_simp; done)); (focus (intro hb0; replace hb0 := hb0.out; go_simp <;> (first | exact rfl))); intro KK hKK; go_simp; refine hKK _ ?_; clear hKK KK))
      have e : agrTo a b b.length = agr a b := rfl
      rw [e]
      go_simp
end Go.Proofs.Ythbgghmjbaldlaa
