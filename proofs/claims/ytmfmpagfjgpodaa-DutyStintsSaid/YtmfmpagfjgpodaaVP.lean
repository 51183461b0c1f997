/- Operations that make or write to memory of the call's own: of every program; no condition. -/
import Derived.Test.YtmfmpagfjgpodaaVO
namespace Go.Proofs.Ytmfmpagfjgpodaa
open Go.RowKit
section
variable {P : Program} {M0 : Nat → Prop} {w0 : World} {N : Nat} {p : Nat → Nat} {st : VS} {a : Act} {w : World}
theorem box_new {us : List Value} {cs : List AV} {d : Nat} (R : Rel M0 w0 N p st a w) (hd : d < N) (hc : Cells w (Mof M0 st.h p) st.h p cs us) (t : TypeId) :
    Rel M0 w0 N (pNew p st.h.length w.heap.size) ⟨(d, .ref st.h.length 0) :: st.s, st.h ++ [some (.box cs)]⟩ (a.put (some d) (.pointer (some ⟨w.heap.size, 0, none⟩))) { w with heap := w.heap.push (.cells us.toArray t) } := by
  have hb := below_push w (.cells us.toArray t)
  have hpn : pNew p st.h.length w.heap.size st.h.length = w.heap.size := by simp [pNew]
  refine R.grow hb hd (fun _ => Nat.le_refl _) ⟨by rw [hpn]; exact R.below.size, us.toArray, t, by rw [hpn]; simp [-World.alloc_eq], by simp [hc.1], hc.2.1, fun j c hj => ?_⟩ ?_
  · have hj' : j < us.length := by rw [hc.1]; exact (List.getElem?_eq_some_iff.1 hj).1
    refine ⟨us[j], by simp [hj'], ?_⟩
    refine (hc.2.2 j c us[j] hj (List.getElem?_eq_getElem hj')).keep (.of_below hb) (fun b hbl hn hm => ?_) (by simp) (fun i hi => by simp [pNew, Nat.ne_of_lt hi]) fun i e sz nl es v hi he hv => ?_
    · rcases hm with hm | ⟨i, o, hi, hl, hp⟩
      · exact hn (.inl hm)
      · rcases get_new hi with ⟨hlt, hi'⟩ | ⟨rfl, hx⟩
        · exact hn (.inr ⟨i, o, hi', hl, by rw [← hp]; simp [pNew, Nat.ne_of_lt hlt]⟩)
        · rw [hpn] at hp
          omega
    · rw [get_old hi] at he
      exact (hv e sz nl es he).below hb
  · have := V1.ref (w := { w with heap := w.heap.push (.cells us.toArray t) }) (M := Mof M0 (st.h ++ [some (.box cs)]) (pNew p st.h.length w.heap.size)) (h := st.h ++ [some (.box cs)]) (p := pNew p st.h.length w.heap.size) st.h.length 0 (by simp)
    rwa [hpn] at this
theorem arr_new {us : List Value} {es : List (List AV)} {d e sz : Nat} (R : Rel M0 w0 N p st a w) (hd : d < N) (hsz : 0 < sz) (hlen : us.length = es.length * sz) (hmax : es.length ≤ maxLen) (hes : ∀ (k : Nat) (x : List AV), es[k]? = some x → x.length = sz ∧ ∀ c ∈ x, oneAV c = true)
    (hv : ∀ (k : Nat) (x : List AV) (j : Nat) (c : AV) (u : Value), es[k]? = some x → x[j]? = some c → us[k * sz + j]? = some u → V0 w (Mof M0 st.h p) c u) :
    Rel M0 w0 N (pNew p st.h.length w.heap.size) ⟨(d, .osl st.h.length) :: st.s, st.h ++ [some (.arr e sz false es)]⟩ (a.put (some d) (.slice (some ⟨w.heap.size, 0, none⟩) es.length es.length)) { w with heap := w.heap.push (.cells us.toArray e) } := by
  have hb := below_push w (.cells us.toArray e)
  have hpn : pNew p st.h.length w.heap.size st.h.length = w.heap.size := by simp [pNew]
  have hg : ({ w with heap := w.heap.push (.cells us.toArray e) } : World).heap[w.heap.size]? = some (.cells us.toArray e (0, 0)) := by simp [-World.alloc_eq]
  have hM : ∀ b, b < w.heap.size → ¬ Mof M0 st.h p b → ¬ Mof M0 (st.h ++ [some (.arr e sz false es)]) (pNew p st.h.length w.heap.size) b := by
    intro b hbl hn hm
    rcases hm with hm | ⟨i, o, hi, hl, hp⟩
    · exact hn (.inl hm)
    · rcases get_new hi with ⟨hlt, hi'⟩ | ⟨rfl, hx⟩
      · exact hn (.inr ⟨i, o, hi', hl, by rw [← hp]; simp [pNew, Nat.ne_of_lt hlt]⟩)
      · rw [hpn] at hp
        omega
  refine R.grow hb hd (fun _ => Nat.le_refl _) ⟨hsz, hes, ?_⟩ ?_
  · rw [if_neg (by simp), hpn]
    refine ⟨R.below.size, us.toArray, hg, by simp [hlen], fun k x j c hk hj => ?_⟩
    have hkl := (List.getElem?_eq_some_iff.1 hk).1
    have hjl := (List.getElem?_eq_some_iff.1 hj).1
    have hxl := (hes k x hk).1
    have h1 : (k + 1) * sz ≤ es.length * sz := Nat.mul_le_mul_right _ hkl
    rw [Nat.add_mul] at h1
    have hlt : k * sz + j < us.length := by omega
    exact ⟨us[k * sz + j], by simp [hlt], (hv k x j c _ hk hj (List.getElem?_eq_getElem hlt)).keep (.of_below hb) hM⟩
  · refine .osl _ _ _ _ (by simp) fun e' sz' nl' es' he => ?_
    rw [List.getElem?_append_right (Nat.le_refl _)] at he
    simp only [Nat.sub_self, List.getElem?_cons_zero, Option.some.injEq] at he
    injection he with h1 h2 h3 h4
    subst h1 h2 h3 h4
    unfold Osl
    rw [if_neg (by simp), hpn]
    exact ⟨es.length, us.toArray, rfl, hg, by simp [hlen], Nat.le_refl _, hmax⟩
theorem nil_new {d e sz : Nat} (R : Rel M0 w0 N p st a w) (hd : d < N) (hsz : 0 < sz) :
    Rel M0 w0 N (pNew p st.h.length 0) ⟨(d, .osl st.h.length) :: st.s, st.h ++ [some (.arr e sz true [])]⟩ (a.put (some d) (.slice none 0 0)) w := by
  refine R.grow (Below.refl _ _) hd (fun h => by cases h) ⟨hsz, by simp, by simp⟩ (.osl _ _ _ _ (by simp) fun e' sz' nl' es' he => ?_)
  rw [List.getElem?_append_right (Nat.le_refl _)] at he
  simp only [Nat.sub_self, List.getElem?_cons_zero, Option.some.injEq] at he
  injection he with h1 h2 h3 h4
  subst h1 h2 h3 h4
  simp [Osl]
theorem spl_at {cs vs : List AV} {off : Nat} (hfit : off + vs.length ≤ cs.length) (j : Nat) : (splA cs off vs)[j]? = if j < off then cs[j]? else if j < off + vs.length then vs[j - off]? else cs[j]? := by
  unfold splA
  by_cases h1 : j < off
  · rw [if_pos h1, List.append_assoc, List.getElem?_append_left (by simp; omega), List.getElem?_take_of_lt h1]
  · rw [if_neg h1, List.append_assoc, List.getElem?_append_right (by simp; omega)]
    have e1 : (cs.take off).length = off := by simp; omega
    rw [e1]
    by_cases h2 : j < off + vs.length
    · rw [if_pos h2, List.getElem?_append_left (by omega)]
    · rw [if_neg h2, List.getElem?_append_right (by omega), List.getElem?_drop]
      congr 1
      omega
theorem splV_at {cs vs : List Value} {off : Nat} (hfit : off + vs.length ≤ cs.length) (j : Nat) : (cs.take off ++ vs ++ cs.drop (off + vs.length))[j]? = if j < off then cs[j]? else if j < off + vs.length then vs[j - off]? else cs[j]? := by
  by_cases h1 : j < off
  · rw [if_pos h1, List.append_assoc, List.getElem?_append_left (by simp; omega), List.getElem?_take_of_lt h1]
  · rw [if_neg h1, List.append_assoc, List.getElem?_append_right (by simp; omega)]
    have e1 : (cs.take off).length = off := by simp; omega
    rw [e1]
    by_cases h2 : j < off + vs.length
    · rw [if_pos h2, List.getElem?_append_left (by omega)]
    · rw [if_neg h2, List.getElem?_append_right (by omega), List.getElem?_drop]
      congr 1
      omega
theorem spl_one {cs vs : List AV} {off : Nat} (h1 : ∀ c ∈ cs, oneAV c = true) (h2 : ∀ c ∈ vs, oneAV c = true) : ∀ c ∈ splA cs off vs, oneAV c = true := by
  intro c hc
  unfold splA at hc
  rcases List.mem_append.1 hc with hc | hc
  · rcases List.mem_append.1 hc with hc | hc
    · exact h1 c (List.mem_of_mem_take hc)
    · exact h2 c hc
  · exact h1 c (List.mem_of_mem_drop hc)
theorem spl_len {cs vs : List AV} {off : Nat} (hfit : off + vs.length ≤ cs.length) : (splA cs off vs).length = cs.length := by
  unfold splA
  simp
  omega
theorem setRow_block (w : World) (g : Nat) (cs : Array Value) (b : Nat) (h : b ≠ g) : (w.setRow g cs).heap[b]? = w.heap[b]? := by
  simp only [World.setRow, Array.getElem?_modify]
  rw [if_neg (by omega)]
theorem setRow_size (w : World) (g : Nat) (cs : Array Value) : (w.setRow g cs).heap.size = w.heap.size := by simp [World.setRow]
theorem run_store_cells {t : TypeId} {ti : TI} {g o : Nat} {cur : Array Value} {e : TypeId} {v : Value} (hti : tinfo P t = some ti) (hsz : v.cells.size = ti.size) (hg : w.heap[g]? = some (.cells cur e (0, 0))) (hfit : o + ti.size ≤ cur.size) (h1 : ∀ x ∈ v.cells.toList, x.oneCell' = true) :
    (Instr.storeAt t (.pointer (some ⟨g, o, none⟩)) v).run P w = .ok () (w.setRow g (cur.toList.take o ++ v.cells.toList ++ cur.toList.drop (o + v.cells.toList.length)).toArray) := by
  have := run_storeCells_at P g o e v.cells.toList 0 cur w hg (by simp; omega) h1
  simp only [Nat.add_zero] at this
  simp only [Instr.storeAt, Instr.sureAddr, Sem.run_bind, Sem.run_pure, Result.andThen_ok, storeVar, ti_size hti, Sem.run_ite, hsz, ne_eq, not_true_eq_false, if_false]
  exact this
theorem cells_one {cs : List AV} {us : List Value} {M : Nat → Prop} {h : Hp} (hc : Cells w M h p cs us) : ∀ x ∈ us, x.oneCell' = true := by
  intro x hx
  obtain ⟨i, hi⟩ := List.mem_iff_getElem?.1 hx
  have hl : i < cs.length := by rw [← hc.1]; exact (List.getElem?_eq_some_iff.1 hi).1
  exact (hc.2.2 i cs[i] x (List.getElem?_eq_getElem hl) hi).one (hc.2.1 _ (List.getElem_mem hl))
theorem tail_store {t : TypeId} {x y : Operand} {ti : TI} {id off : Nat} {cs : List AV} (R : Rel M0 w0 N p st a w) (hti : tinfo P t = some ti) (hx : ev st x = .ref id off) (hid : st.h[id]? = some (some (.box cs))) (h1 : oneOk (ev st y) = true) (h2 : (avCells (ev st y)).length = ti.size) (h3 : off + ti.size ≤ cs.length) :
    ∃ w', (Instr.storeAt t (a.eval x) (a.eval y)).run P w = .ok () w' ∧ Rel M0 w0 N p ⟨st.s, st.h.set id (some (.box (splA cs off (avCells (ev st y)))))⟩ a w' := by
  have hxv := R.eval x
  rw [hx] at hxv
  obtain ⟨hq, _⟩ := hxv.ref_inv
  have hcell := (R.eval y).cells h1
  obtain ⟨hge, cur, e, hg, hcs, hone, hv⟩ := R.objs id _ hid
  have hvs : (a.eval y).cells.size = ti.size := by rw [← Array.length_toList, hcell.1, h2]
  refine ⟨_, by rw [hq]; exact run_store_cells hti hvs hg (by omega) (cells_one hcell), ?_⟩
  have hfit : off + (a.eval y).cells.toList.length ≤ cur.toList.length := by simp; omega
  have hfit2 : off + (avCells (ev st y)).length ≤ cs.length := by omega
  have hlen : (a.eval y).cells.toList.length = (avCells (ev st y)).length := hcell.1
  have hlt := (Array.getElem?_eq_some_iff.1 hg).1
  refine R.write hid rfl rfl (setRow_size w _ _).symm rfl rfl rfl (fun b hb => setRow_block w _ _ b hb) rfl (fun e sz nl es v he => by cases he) fun hV _ => ?_
  refine ⟨hge, _, e, setRow_heap w (p id) cur _ e _ hg, ?_, spl_one hone hcell.2.1, fun j c hj => ?_⟩
  · rw [spl_len hfit2]
    simp
    omega
  · rw [spl_at hfit2] at hj
    have hat := splV_at hfit j
    rw [hlen] at hat
    split at hj
    · rename_i hlt
      rw [if_pos hlt] at hat
      obtain ⟨u, hu, hvu⟩ := hv j c hj
      exact ⟨u, by rw [List.getElem?_toArray, hlen, hat]; simpa using hu, hV hvu⟩
    · rename_i hlt
      rw [if_neg hlt] at hat
      split at hj
      · rename_i hlt2
        rw [if_pos hlt2] at hat
        have hjl : j - off < (a.eval y).cells.toList.length := by rw [hlen]; exact (List.getElem?_eq_some_iff.1 hj).1
        exact ⟨_, by rw [List.getElem?_toArray, hlen, hat]; exact List.getElem?_eq_getElem hjl, hV (hcell.2.2 _ c _ hj (List.getElem?_eq_getElem hjl))⟩
      · rename_i hlt2
        rw [if_neg hlt2] at hat
        obtain ⟨u, hu, hvu⟩ := hv j c hj
        exact ⟨u, by rw [List.getElem?_toArray, hlen, hat]; simpa using hu, hV hvu⟩
theorem tail_storeE {t : TypeId} {x y : Operand} {ti : TI} {id sz i off e : Nat} {nl : Bool} {es : List (List AV)} (R : Rel M0 w0 N p st a w) (hti : tinfo P t = some ti) (hx : ev st x = .aref id sz i off) (hid : st.h[id]? = some (some (.arr e sz nl es))) (hi : i < es.length) (h1 : oneOk (ev st y) = true)
    (hp : (avCells (ev st y)).all (pureA 5) = true) (h2 : (avCells (ev st y)).length = ti.size) (h3 : off + ti.size ≤ sz) :
    ∃ w', (Instr.storeAt t (a.eval x) (a.eval y)).run P w = .ok () w' ∧ Rel M0 w0 N p ⟨st.s, st.h.set id (some (.arr e sz nl (es.set i (splA (es.getD i []) off (avCells (ev st y))))))⟩ a w' := by
  have hxv := R.eval x
  rw [hx] at hxv
  obtain ⟨hq, _⟩ := hxv.aref_inv
  have hcell := (R.eval y).cells h1
  obtain ⟨hsz, hes, hr⟩ := R.objs id _ hid
  have hnl : nl = false := by cases nl; rfl; simp only [if_true] at hr; subst hr; simp at hi
  subst hnl
  simp only [Bool.false_eq_true, if_false] at hr
  obtain ⟨hge, cur, hg, hcs, hv⟩ := hr
  have hvs : (a.eval y).cells.size = ti.size := by rw [← Array.length_toList, hcell.1, h2]
  have hlen : (a.eval y).cells.toList.length = (avCells (ev st y)).length := hcell.1
  have hxi : es[i]? = some (es.getD i []) := by simp [List.getD, hi]
  obtain ⟨hxl, hxone⟩ := hes i _ hxi
  have hrow : (i + 1) * sz ≤ es.length * sz := Nat.mul_le_mul_right _ hi
  rw [Nat.add_mul] at hrow
  refine ⟨_, by rw [hq]; exact run_store_cells hti hvs hg (by omega) (cells_one hcell), ?_⟩
  have hfit : i * sz + off + (a.eval y).cells.toList.length ≤ cur.toList.length := by simp; omega
  have hfit2 : off + (avCells (ev st y)).length ≤ (es.getD i []).length := by omega
  have hpure : ∀ (j : Nat) (c : AV) (u : Value), (avCells (ev st y))[j]? = some c → (a.eval y).cells.toList[j]? = some u → V0 w (Mof M0 st.h p) c u := fun j c u hc hu => (hcell.2.2 j c u hc hu).pure 5 (List.all_eq_true.1 hp c (List.mem_of_getElem? hc))
  refine R.write hid rfl rfl (setRow_size w _ _).symm rfl rfl rfl (fun b hb => setRow_block w _ _ b hb) rfl (fun e' sz' nl' es' v he ho => ?_) fun _ hV0 => ⟨hsz, fun k z hk => ?_, ?_⟩
  · injection he with q1 q2 q3 q4
    subst q1 q2 q3 q4
    have := ho _ _ _ _ rfl
    unfold Osl at this ⊢
    simp only [Bool.false_eq_true, if_false, List.length_set] at this ⊢
    obtain ⟨cap, cur', b1, b2, b3, b4⟩ := this
    obtain rfl : cur' = cur := by rw [hg] at b2; injection b2 with b2; injection b2 with b2; exact b2.symm
    refine ⟨cap, _, b1, setRow_heap w (p id) cur' _ e _ hg, ?_, b4⟩
    rw [← b3]
    simp
    simp at hfit
    omega
  · rw [List.getElem?_set] at hk
    split at hk
    · first | rw [if_pos hi] at hk | skip
      simp only [Option.some.injEq] at hk
      subst hk
      exact ⟨by rw [spl_len hfit2, hxl], spl_one hxone hcell.2.1⟩
    · exact hes k z hk
  · simp only [Bool.false_eq_true, if_false]
    refine ⟨hge, _, setRow_heap w (p id) cur _ e _ hg, ?_, fun k z j c hk hj => ?_⟩
    · simp
      simp at hfit
      omega
    · have hat := splV_at hfit (k * sz + j)
      rw [hlen] at hat
      rw [List.getElem?_set] at hk
      split at hk
      · rename_i hki
        subst hki
        first | rw [if_pos hi] at hk | skip
        simp only [Option.some.injEq] at hk
        subst hk
        rw [spl_at hfit2] at hj
        split at hj
        · rename_i hlt
          rw [if_pos (by omega)] at hat
          obtain ⟨u, hu, hvu⟩ := hv i _ j c hxi hj
          exact ⟨u, by rw [List.getElem?_toArray, hlen, hat]; simpa using hu, hV0 hvu⟩
        · rename_i hlt
          rw [if_neg (by omega)] at hat
          split at hj
          · rename_i hlt2
            rw [if_pos (by omega)] at hat
            have hjl : j - off < (a.eval y).cells.toList.length := by rw [hlen]; exact (List.getElem?_eq_some_iff.1 hj).1
            refine ⟨(a.eval y).cells.toList[j - off], ?_, hV0 (hpure _ c _ hj (List.getElem?_eq_getElem hjl))⟩
            rw [List.getElem?_toArray, hlen, hat, show i * sz + j - (i * sz + off) = j - off by omega]
            exact List.getElem?_eq_getElem hjl
          · rename_i hlt2
            rw [if_neg (by omega)] at hat
            obtain ⟨u, hu, hvu⟩ := hv i _ j c hxi hj
            exact ⟨u, by rw [List.getElem?_toArray, hlen, hat]; simpa using hu, hV0 hvu⟩
      · rename_i hki
        obtain ⟨u, hu, hvu⟩ := hv k z j c hk hj
        have hzl := (hes k z hk).1
        have hjl := (List.getElem?_eq_some_iff.1 hj).1
        have hout : k * sz + j < i * sz + off ∨ i * sz + off + (avCells (ev st y)).length ≤ k * sz + j := by
          rcases Nat.lt_or_ge k i with hlt | hge'
          · left
            have : (k + 1) * sz ≤ i * sz := Nat.mul_le_mul_right _ hlt
            rw [Nat.add_mul] at this
            omega
          · right
            have : (i + 1) * sz ≤ k * sz := Nat.mul_le_mul_right _ (by omega)
            rw [Nat.add_mul] at this
            omega
        refine ⟨u, ?_, hV0 hvu⟩
        rw [List.getElem?_toArray, hlen, hat]
        rcases hout with h | h
        · rw [if_pos h]
          simpa using hu
        · rw [if_neg (by omega), if_neg (by omega)]
          simpa using hu
end
end Go.Proofs.Ytmfmpagfjgpodaa
