/- Texts in one: A drawing region that appends to a row of the call's own and gives it to a variable, with operations that may come behind both: of every program; no condition. Printed by mkpart.py. -/
import Derived.Test.YtcndlalhkkjocaaFYStreetExamined8
import Derived.Test.YtcndlalhkkjocaaFYStreetExamined12
/-! VPart: A drawing region that appends to a row of the call's own and gives it to a variable, with operations that may come behind both: of every program; no condition. Printed by mkpart.py. -/
namespace Go.Proofs.Ytcndlalhkkjocaa
open Go.RowKit
def specQ (ops : Array Oper) (n : Nat) : Bool :=
  Region.noSelect ops && decide (n < ops.size) && Region.sinkB .any ops n && Region.chainB .any ops n &&
  (List.range n).all (fun i => match ops[i]? with
    | some o => o.after.all (fun e => !Region.binds .any e || decide (e.on < i))
    | none => false) &&
  Region.seqB .any ops (ops.size - n) n (Array.replicate n true ++ Array.replicate (ops.size - n) false)
section
variable {P : Program} {ops : Array Oper}
theorem wpAny_skel2 {Q : Exit → Act → World → Prop} {n : Nat} {Inv : Array Bool → Act → World → Prop} (hB : specQ ops n = true)
    (hhead : ∀ listed a w, Inv listed a w → HeadInv .any ops n listed)
    (hstep : ∀ listed a w i o, Inv listed a w → i ∈ Region.ready .any ops listed → i < n → ops[i]? = some o → listed.getD i true = false → wpOp P ops Q i (fun a' w' => Inv (listed.setIfInBounds i true) a' w') a w)
    (htail : ∀ listed a w, Inv listed a w → (∀ i, i < n → listed.getD i false = true) → wpList P ops Q (ops.toList.drop n) a w) :
    ∀ (F : Nat) (listed : Array Bool) (a : Act) (w : World), Inv listed a w → listed.toList.count false = F → wpAny P .any ops Q F listed a w := by
  simp only [specQ, Bool.and_eq_true, decide_eq_true_eq] at hB
  obtain ⟨⟨⟨⟨⟨hsel, hn⟩, hs⟩, hc⟩, hlook⟩, hseq⟩ := hB
  have haft : ∀ i, i < n → ∀ o, ops[i]? = some o → ∀ e ∈ o.after, Region.binds .any e = true → e.on < i := by
    intro i hi o ho e he hb
    have h := List.all_eq_true.1 hlook i (List.mem_range.2 hi)
    simp only [ho] at h
    have h1 := Array.all_eq_true'.1 h e he
    simp only [hb, Bool.not_true, Bool.false_or, decide_eq_true_eq] at h1
    exact h1
  intro F
  induction F with
  | zero =>
    intro listed a w inv hcount
    have head := hhead _ _ _ inv
    have hnot : ∀ i, i < ops.size → listed.getD i false = true := by
      intro i hi
      have hi' : i < listed.toList.length := by rw [Array.length_toList, head.size]; exact hi
      have hm : listed.toList[i] ≠ false := fun h => by
        have : false ∈ listed.toList := by rw [← h]; exact List.getElem_mem hi'
        exact absurd (List.count_pos_iff.2 this) (by omega)
      simp only [Array.getElem_toList] at hm
      simp [head.size, hi, hm]
    have hu := head.tail n (Nat.le_refl _) hn
    have h1 := hnot n hn
    rw [getD_both hu] at h1
    cases h1
  | succ F ih =>
    intro listed a w inv hcount
    have head := hhead _ _ _ inv
    by_cases hall : ∀ i, i < n → listed.getD i true = true
    · have hlist : listed = Array.replicate n true ++ Array.replicate (ops.size - n) false := by
        apply Array.ext
        · simp [head.size]; omega
        · intro i h1 h2
          have hs1 := head.size
          by_cases hin : i < n
          · have := hall i hin
            rw [Array.getElem_append_left (by simpa using hin)]
            simp [h1] at this ⊢
            exact this
          · have := head.tail i (by omega) (by omega)
            rw [Array.getElem_append_right (by simp; omega)]
            simp [h1] at this ⊢
            exact this
      have hF : F + 1 = (ops.toList.drop n).length := by
        rw [← hcount, hlist]
        simp [List.count_replicate]
      rw [hF]
      refine wpAny_of_seq _ n listed a w (fun j => by simp) ?_ (htail _ _ _ inv ?_)
      · rw [List.length_drop, Array.length_toList, hlist]
        exact hseq
      · intro i hin
        have := hall i hin
        have hsz : i < listed.size := by rw [head.size]; omega
        simp [hsz] at this ⊢
        exact this
    · have hex : ∃ i, i < n ∧ listed.getD i true = false := by
        simpa using hall
      have hmin : ∃ i, (i < n ∧ listed.getD i true = false) ∧ ∀ j, j < i → ¬ (j < n ∧ listed.getD j true = false) := by
        obtain ⟨i, hi⟩ := hex
        induction i using Nat.strongRecOn with
        | _ i ih2 =>
          by_cases h : ∃ j, j < i ∧ j < n ∧ listed.getD j true = false
          · obtain ⟨j, hj, hj2⟩ := h
            exact ih2 j hj hj2
          · exact ⟨i, hi, fun j hj hh => h ⟨j, hj, hh⟩⟩
      obtain ⟨m, ⟨hmn, hmu⟩, hmm⟩ := hmin
      have hready : m ∈ Region.ready .any ops listed := by
        obtain ⟨o, ho⟩ : ∃ o, ops[m]? = some o := ⟨ops[m]'(by omega), by simp⟩
        refine mem_ready.2 ⟨hmu, o, ho, fun e he hb => ?_⟩
        have hlt := haft m hmn o ho e he hb
        have hl := hmm e.on hlt
        have hsz : e.on < listed.size := by rw [head.size]; omega
        cases hv : listed.getD e.on false with
        | true => rfl
        | false => exact absurd ⟨by omega, getD_in hsz hv⟩ hl
      refine ⟨fun h => (by rw [h] at hready; cases hready), fun i hi => ?_⟩
      have hin : i < n := by
        rcases Nat.lt_or_ge i n with h | h
        · exact h
        · exact absurd hi (tail_waits hs hc hn head _ m rfl hmn hmu i h)
      obtain ⟨hiu, o, ho, _⟩ := mem_ready.1 hi
      have hisz : i < listed.size := by rw [head.size]; omega
      refine wpOp_mono (fun a' w' h' => ih _ a' w' h' ?_) (hstep listed a w i o inv hi hin ho hiu)
      have h1 : listed.toList[i]? = some false := by
        have : listed[i] = false := by simpa [hisz] using hiu
        simp [hisz, this]
      have h2 := count_set_true h1
      rw [Array.toList_setIfInBounds]
      omega
end
/-- Which of the first i operations gives t. -/
def lastPr (l : List Oper) (t : Nat) : Nat → Option Nat
  | 0 => none
  | i + 1 => match l[i]? with
    | some o => if o.dst = some t then some i else lastPr l t i
    | none => lastPr l t i
theorem lastPr_none {l : List Oper} {t : Nat} : ∀ {i : Nat}, (∀ j q, j < i → l[j]? = some q → q.dst ≠ some t) → lastPr l t i = none
  | 0, _ => rfl
  | i + 1, h => by
    have ih := lastPr_none (l := l) (t := t) (i := i) fun j q hj => h j q (by omega)
    rw [lastPr]
    cases ho : l[i]? with
    | none => exact ih
    | some o => simp only; rw [if_neg (h i o (by omega) ho), ih]
theorem lastPr_some {l : List Oper} {t n : Nat} (hd : distB (l.take n) = true) {j : Nat} {q : Oper} (hq : l[j]? = some q) (hqd : q.dst = some t) : ∀ {i : Nat}, j < i → i ≤ n → lastPr l t i = some j
  | i + 1, hj, hi => by
    have hat : ∀ {i : Nat} {o : Oper}, i < n → l[i]? = some o → (l.take n)[i]? = some o := fun {i o} hi ho => by rw [List.getElem?_take_of_lt hi]; exact ho
    rw [lastPr]
    by_cases he : j = i
    · subst he
      rw [hq]
      simp only
      rw [if_pos hqd]
    · have ih := lastPr_some hd hq hqd (i := i) (by omega) (by omega)
      cases ho : l[i]? with
      | none => exact ih
      | some o =>
        simp only
        rw [if_neg fun e => he (distB_inj hd (hat (by omega) hq) (hat (by omega) ho) hqd e), ih]
def lookQ (l : List Oper) (val : Nat → AV) (st : VS) (i t : Nat) : AV := match lastPr l t i with | some j => val j | none => lkp st.s t
def pgQ (g : Nat) (b : Bool) (v : AV) : AV := if b then purge g v else v
def chkQ (l : List Oper) (n c m : Nat) : Bool :=
  decide (c < n) && decide (m < n) && decide (c ≠ m) && distB (l.take n) && Region.waitsFor .any l.toArray m c && (List.range n).all fun i => match l[i]? with
    | some o => o.guard.isNone && o.dst.isSome && (o.op.operands.toList.all fun z => match z with
      | .tmp t => (List.range n).all fun j => (match l[j]? with
        | some q => q.dst != some t || (Region.waitsFor .any l.toArray i j && decide (j < i) && (decide (j ≠ c) || decide (i = m)) && decide (j ≠ m)) || (decide (j = m) && Region.waitsFor .any l.toArray m i && decide (i < m))
        | none => true)
      | _ => true)
    | none => false
theorem lkp_filter (f : Nat → Bool) : ∀ (s : List (Nat × AV)) (t : Nat), lkp (s.filter fun q => f q.1) t = if f t = true then lkp s t else .any
  | [], t => by simp [lkp]
  | q :: s, t => by
    obtain ⟨k, v⟩ := q
    have ih := lkp_filter f s t
    rw [List.filter_cons]
    simp only
    by_cases hk : f k = true
    · rw [if_pos hk, lkp, lkp]
      by_cases he : k = t
      · subst he
        rw [if_pos rfl, if_pos hk, if_pos rfl]
      · rw [if_neg he, if_neg he, ih]
    · rw [if_neg hk, ih, lkp]
      by_cases he : k = t
      · subst he
        rw [if_neg hk, if_neg hk]
      · rw [if_neg he]
/-- What stands in the slots behind the region. -/
def endQ (g : Nat) (l : List Oper) (val : Nat → AV) (c m : Nat) : List Nat → List (Nat × AV)
  | [] => []
  | j :: r => (match l[j]? with | some q => (match q.dst with | some d => if j = c ∨ j = m then [] else [(d, purge g (val j))] | none => []) | none => []) ++ endQ g l val c m r
theorem endQ_at {g : Nat} {l : List Oper} {val : Nat → AV} {c m t : Nat} : ∀ {js : List Nat}, lkp (endQ g l val c m js) t = .any ∨ ∃ j ∈ js, ∃ q, l[j]? = some q ∧ q.dst = some t ∧ j ≠ c ∧ j ≠ m ∧ lkp (endQ g l val c m js) t = purge g (val j)
  | [] => .inl rfl
  | j :: r => by
    have ih := endQ_at (g := g) (l := l) (val := val) (c := c) (m := m) (t := t) (js := r)
    have up : (lkp (endQ g l val c m r) t = .any ∨ ∃ j' ∈ j :: r, ∃ q, l[j']? = some q ∧ q.dst = some t ∧ j' ≠ c ∧ j' ≠ m ∧ lkp (endQ g l val c m r) t = purge g (val j')) := by
      rcases ih with h | ⟨j', h1, h2⟩
      · exact .inl h
      · exact .inr ⟨j', List.mem_cons_of_mem _ h1, h2⟩
    rw [endQ]
    cases hq : l[j]? with
    | none => exact up
    | some q =>
      simp only
      cases hd : q.dst with
      | none => exact up
      | some d =>
        simp only
        split
        · exact up
        · rename_i hcm
          simp only [List.cons_append, List.nil_append, lkp]
          by_cases he : d = t
          · subst he
            rw [if_pos rfl]
            exact .inr ⟨j, List.mem_cons_self, q, hq, hd, fun e => hcm (.inl e), fun e => hcm (.inr e), rfl⟩
          · rw [if_neg he]
            exact up
section
variable {P : Program} {M0 : Nat → Nat → Prop} {w0 : Bas} {N : Nm} {p : Pl} {st : VS} {a : Act} {w : World} {Q : Exit → VS → Prop}
theorem vdrawQ {id : Nat} {l : List Oper} (n c m g : Nat) (val : Nat → AV) (h1 : Hp) (hm : P.follows .mixedOrders = true) (hB : specQ l.toArray n = true) (hC : chkQ l n c m = true)
    {so mo : Oper} {dc dm : Nat} (hso : l[c]? = some so) (hsd : so.dst = some dc) (hmo : l[m]? = some mo) (hmd : mo.dst = some dm ∧ mo.op = .assign (.tmp dc))
    (hsp : ∀ s : List (Nat × AV), (∀ t, .tmp t ∈ so.op.operands.toList → lkp s t = lookQ l val st c t) → tailOp P [dc] ⟨s, st.h⟩ so = some ⟨(dc, .osl g) :: s.map (fun q => (q.1, purge g q.2)), h1⟩)
    (hop : ∀ i, i < n → i ≠ c → i ≠ m → ∀ o, l[i]? = some o → ∀ b : Bool, (b = true → needB l n c i = false) → ∀ E : Operand → AV, (∀ t, .tmp t ∈ o.op.operands.toList → E (.tmp t) = pgQ g b (lookQ l val st i t)) → (∀ v, E (.const v) = .lit v) → Gives P (if b then h1 else st.h) E o.op (pgQ g b (val i)))
    (h : VRun P [] l (l.drop n) ⟨(dm, .osl g) :: (dc, .osl g) :: (endQ g l val c m (List.range n) ++ (st.s.filter fun q => (l.take n).all fun o => o.dst != some q.1).map fun q => (q.1, purge g q.2)), h1⟩ (Q .normal)) : VWp P M0 w0 N (.region id l.toArray true) Q st := fun hCd p0 a0 wst R0 => by
  have hN : l.all (dstB N) = true := by simpa [codeB] using hCd
  have hB' := hB
  simp only [specQ, Bool.and_eq_true, decide_eq_true_eq] at hB'
  have hnl : n < l.length := by simpa using hB'.1.1.1.1.2
  have hC' := hC
  simp only [chkQ, Bool.and_eq_true, decide_eq_true_eq] at hC'
  obtain ⟨⟨⟨⟨⟨hcn, hmn⟩, hcm⟩, hdist⟩, hmc⟩, hall⟩ := hC'
  have hat : ∀ {i : Nat} {o : Oper}, i < n → l[i]? = some o → (l.take n)[i]? = some o := fun {i o} hi ho => by rw [List.getElem?_take_of_lt hi]; exact ho
  have huniq : ∀ {i j : Nat} {o q : Oper} {d : Nat}, i < n → j < n → l[i]? = some o → l[j]? = some q → o.dst = some d → q.dst = some d → i = j := fun h1 h2 h3 h4 h5 h6 => distB_inj hdist (hat h1 h3) (hat h2 h4) h5 h6
  have hchk : ∀ {i : Nat} {o : Oper}, i < n → l[i]? = some o → (o.guard = none ∧ ∃ d, o.dst = some d) ∧ ∀ t, .tmp t ∈ o.op.operands.toList → ∀ j q, j < n → l[j]? = some q → q.dst = some t → (Region.waitsFor .any l.toArray i j = true ∧ j < i ∧ (j ≠ c ∨ i = m) ∧ j ≠ m) ∨ (j = m ∧ Region.waitsFor .any l.toArray m i = true ∧ i < m) := fun {i o} hi ho => by
    have h2 := List.all_eq_true.1 hall i (List.mem_range.2 hi)
    rw [ho] at h2
    simp only [Bool.and_eq_true, Option.isNone_iff_eq_none, Option.isSome_iff_exists] at h2
    refine ⟨h2.1, fun t ht j q hj hq hqd => ?_⟩
    have h3 := List.all_eq_true.1 (List.all_eq_true.1 h2.2 _ ht) j (List.mem_range.2 hj)
    rw [hq] at h3
    simpa [hqd, and_assoc] using h3
  refine wp_region_any hm ?_
  refine wpAny_skel2 (Inv := fun listed a w => HeadInv .any l.toArray n listed ∧ ∃ (p : Pl) (s : List (Nat × AV)), Rel M0 w0 N p ⟨s, if listed.getD c false = true then h1 else st.h⟩ a w ∧
      (∀ (j : Nat) (q : Oper) (d : Nat), j < n → listed.getD j false = true → l[j]? = some q → q.dst = some d → lkp s d = if j = c ∨ j = m then .osl g else pgQ g (listed.getD c false) (val j)) ∧
      (∀ t, (∀ j q, j < n → listed.getD j false = true → l[j]? = some q → q.dst ≠ some t) → lkp s t = pgQ g (listed.getD c false) (lkp st.s t))) hB (fun _ _ _ inv => inv.1) ?_ ?_ _ _ _ _ ?_ (by simp)
  · rintro listed a w i o ⟨head, p, s, R, S1, S2⟩ hi hin ho hiu
    have ho' : l[i]? = some o := by simpa using ho
    obtain ⟨_, o2, ho2, hdone⟩ := mem_ready.1 hi
    have : o2 = o := Option.some.inj (ho2.symm.trans ho)
    subst this
    have hisz : i < listed.size := by rw [head.size]; simpa using (by omega : i < l.length)
    have hself : (listed.setIfInBounds i true).getD i false = true := by simp [hisz]
    have hoth : ∀ {j : Nat}, i ≠ j → (listed.setIfInBounds i true).getD j false = listed.getD j false := fun hne => getD_set_ne false hne
    have hiu' := getD_both hiu
    have hwait : ∀ j, Region.waitsFor .any l.toArray i j = true → listed.getD j false = true := by
      intro j hj
      obtain ⟨o3, ho3, e, he, hb, hon⟩ := Region.waitsFor_spec hj
      have : o3 = o2 := Option.some.inj (ho3.symm.trans ho)
      subst this
      rw [← hon]
      exact hdone e he hb
    have hback : ∀ {k j : Nat}, Region.waitsFor .any l.toArray k j = true → listed.getD k false = true → listed.getD j false = true := fun {k j} hj hk => by
      obtain ⟨o3, ho3, e, he, hb, hon⟩ := Region.waitsFor_spec hj
      have := head.closed k o3 ho3 hk e he hb
      rwa [hon] at this
    obtain ⟨⟨hg0, d0, hd0⟩, hops⟩ := hchk hin ho'
    have hlook : i ≠ m → ∀ t, .tmp t ∈ o2.op.operands.toList → lkp s t = pgQ g (listed.getD c false) (lookQ l val st i t) := fun him t ht => by
      by_cases hex : ∃ (j : Nat) (q : Oper), j < n ∧ l[j]? = some q ∧ q.dst = some t
      · obtain ⟨j, q, hj, hq, hqd⟩ := hex
        rcases hops t ht j q hj hq hqd with ⟨h2, h3, h4, h5⟩ | ⟨h2, h3, h4⟩
        · rw [S1 j q t hj (hwait j h2) hq hqd, if_neg (by rintro (e | e); exact (h4.resolve_right him) e; exact h5 e), lookQ, lastPr_some hdist hq hqd h3 (by omega)]
        · have hmu : listed.getD m false = false := by
            cases hmu : listed.getD m false
            · rfl
            · have := hback h3 hmu
              rw [hiu'] at this
              cases this
          subst h2
          rw [S2 t fun j' q' hj' hl' hq' hqd' => ?_, lookQ, lastPr_none fun j' q' hj' hq' hqd' => ?_]
          · have := huniq hj (by omega) hq hq' hqd hqd'
            omega
          · have := huniq hj hj' hq hq' hqd hqd'
            subst this
            rw [hmu] at hl'
            cases hl'
      · have hno : ∀ j q, j < n → l[j]? = some q → q.dst ≠ some t := fun j q hj hq he => hex ⟨j, q, hj, hq, he⟩
        rw [S2 t fun j q hj _ hq => hno j q hj hq, lookQ, lastPr_none fun j q hj hq => hno j q (by omega) hq]
    have hdl := List.all_eq_true.1 hN o2 (List.mem_of_getElem? ho')
    unfold wpOp
    simp only [ho]
    rw [if_pos (by simp [Region.wanted, hg0])]
    refine Or.inl ?_
    by_cases hic : i = c
    · subst hic
      have : o2 = so := Option.some.inj (ho'.symm.trans hso)
      subst this
      rw [hiu'] at R S1 S2 hlook
      simp only [Bool.false_eq_true, if_false] at R
      have hcon := hsp s fun t ht => hlook hcm t ht
      obtain ⟨v, w', p', hh⟩ := tail_ok (P := P) R hdl hcon
      have fin : ∀ v p', Rel M0 w0 N p' ⟨(dc, .osl g) :: s.map (fun q => (q.1, purge g q.2)), h1⟩ (a.put o2.dst v) w' → (fun listed a w => HeadInv .any l.toArray n listed ∧ ∃ (p : Pl) (s : List (Nat × AV)), Rel M0 w0 N p ⟨s, if listed.getD i false = true then h1 else st.h⟩ a w ∧
          (∀ (j : Nat) (q : Oper) (d : Nat), j < n → listed.getD j false = true → l[j]? = some q → q.dst = some d → lkp s d = if j = i ∨ j = m then .osl g else pgQ g (listed.getD i false) (val j)) ∧
          (∀ t, (∀ j q, j < n → listed.getD j false = true → l[j]? = some q → q.dst ≠ some t) → lkp s t = pgQ g (listed.getD i false) (lkp st.s t))) (listed.setIfInBounds i true) (a.put o2.dst v) w' := fun v p' R' => by
        refine ⟨head.set hi hin, p', _, by rw [hself]; exact R', fun j q d hj hl hq hqd => ?_, fun t ht => ?_⟩
        · rw [hself, lkp]
          by_cases hji : j = i
          · subst hji
            rw [hso] at hq
            obtain rfl := Option.some.inj hq
            rw [if_pos (Option.some.inj (hsd.symm.trans hqd)), if_pos (.inl rfl)]
          · rw [hoth (Ne.symm hji)] at hl
            have hjm : j ≠ m := fun e => by
              subst e
              have := hback hmc hl
              rw [hiu'] at this
              cases this
            rw [if_neg fun e => hji (huniq hj hin hq ho' (by rw [hqd, ← e]) hsd), lkp_purge, S1 j q d hj hl hq hqd, if_neg (by rintro (e | e); exact hji e; exact hjm e), if_neg (by rintro (e | e); exact hji e; exact hjm e)]
            rfl
        · rw [hself, lkp, if_neg fun e => ht i o2 hin hself ho' (by rw [hsd, e]), lkp_purge, S2 t fun j q hj hl hq => ?_]
          · rfl
          · by_cases hji : i = j
            · subst hji
              rw [hiu'] at hl
              cases hl
            · exact ht j q hj (by rw [hoth hji]; exact hl) hq
      unfold Oper.wp
      rcases hh with ⟨h2, h3⟩ | ⟨h2, _, h3⟩
      · rw [h2]; exact fin _ _ h3
      · rw [h2]; exact fin _ _ h3
    have hheap : (listed.setIfInBounds i true).getD c false = listed.getD c false := hoth hic
    have fin : ∀ (r : AV) v w' d, o2.dst = some d → (r = if i = c ∨ i = m then .osl g else pgQ g (listed.getD c false) (val i)) → V1 w' (Mof M0 (if listed.getD c false = true then h1 else st.h) p) (if listed.getD c false = true then h1 else st.h) p r v → Below w.heap.size w w' → (fun listed a w => HeadInv .any l.toArray n listed ∧ ∃ (p : Pl) (s : List (Nat × AV)), Rel M0 w0 N p ⟨s, if listed.getD c false = true then h1 else st.h⟩ a w ∧
          (∀ (j : Nat) (q : Oper) (d : Nat), j < n → listed.getD j false = true → l[j]? = some q → q.dst = some d → lkp s d = if j = c ∨ j = m then .osl g else pgQ g (listed.getD c false) (val j)) ∧
          (∀ t, (∀ j q, j < n → listed.getD j false = true → l[j]? = some q → q.dst ≠ some t) → lkp s t = pgQ g (listed.getD c false) (lkp st.s t))) (listed.setIfInBounds i true) (a.put o2.dst v) w' := fun r v w' d0 hd0 hr hv hb => by
      have R' := (R.later hb).put (d := o2.dst) (dstB_lt hdl) hv
      rw [hd0] at R' ⊢
      refine ⟨head.set hi hin, p, _, by rw [hheap]; exact R', fun j q d hj hl hq hqd => ?_, fun t ht => ?_⟩
      · rw [hheap, lkp]
        by_cases hji : j = i
        · subst hji
          rw [ho'] at hq
          obtain rfl := Option.some.inj hq
          rw [if_pos (Option.some.inj (hd0.symm.trans hqd))]
          exact hr
        · rw [if_neg fun e => hji (huniq hj hin hq ho' (by rw [hqd, ← e]) hd0)]
          rw [hoth (Ne.symm hji)] at hl
          exact S1 j q d hj hl hq hqd
      · rw [hheap, lkp, if_neg fun e => ht i o2 hin hself ho' (by rw [hd0, e])]
        refine S2 t fun j q hj hl hq => ?_
        by_cases hji : i = j
        · subst hji
          rw [hiu'] at hl
          cases hl
        · exact ht j q hj (by rw [hoth hji]; exact hl) hq
    by_cases him : i = m
    · subst him
      have : o2 = mo := Option.some.inj (ho'.symm.trans hmo)
      subst this
      have hg : Gives P (if listed.getD c false = true then h1 else st.h) (ev ⟨s, if listed.getD c false = true then h1 else st.h⟩) o2.op (.osl g) := by
        rw [hmd.2]
        show lkp s dc = _
        have := S1 c so dc hcn (hwait c hmc) hso hsd
        rw [if_pos (.inl rfl)] at this
        exact this
      exact wp_of_gives (R.gives hg) rfl fun v w' hv => fin (.osl g) v w' dm hmd.1 (by rw [if_pos (.inr rfl)]) hv.1 hv.2
    · have hnb : listed.getD c false = true → needB l n c i = false := fun hb => by
        cases hc : needB l n c i
        · rfl
        · have := needB_listed head n c i (fun j hj => hback hj hb) hc
          rw [hiu'] at this
          cases this
      have hg := hop i hin hic him o2 ho' (listed.getD c false) hnb (ev ⟨s, if listed.getD c false = true then h1 else st.h⟩) (fun t ht => hlook him t ht) (fun v => rfl)
      exact wp_of_gives (R.gives hg) rfl fun v w' hv => fin _ v w' d0 hd0 (by rw [if_neg (by rintro (e | e); exact hic e; exact him e)]) hv.1 hv.2
  · rintro listed a w ⟨head, p, s, R, S1, S2⟩ hall2
    rw [hall2 c hcn] at R S1 S2
    simp only [if_true] at R
    have R' := R.weak (s' := (dm, .osl g) :: (dc, .osl g) :: (endQ g l val c m (List.range n) ++ (st.s.filter fun q => (l.take n).all fun o => o.dst != some q.1).map fun q => (q.1, purge g q.2))) fun t => by
      simp only [lkp]
      by_cases e1 : dm = t
      · rw [if_pos e1, ← e1, S1 m mo dm hmn (hall2 m hmn) hmo hmd.1, if_pos (.inr rfl)]
        exact .inl rfl
      · rw [if_neg e1]
        by_cases e2 : dc = t
        · rw [if_pos e2, ← e2, S1 c so dc hcn (hall2 c hcn) hso hsd, if_pos (.inl rfl)]
          exact .inl rfl
        · rw [if_neg e2]
          rcases lkp_app (endQ g l val c m (List.range n)) ((st.s.filter fun q => (l.take n).all fun o => o.dst != some q.1).map fun q => (q.1, purge g q.2)) t with h5 | h5
          · rw [h5]
            rcases endQ_at (g := g) (l := l) (val := val) (c := c) (m := m) (t := t) (js := List.range n) with h6 | ⟨j, hj, q, hq, hqd, h7, h8, h9⟩
            · exact .inr h6
            · rw [h9, S1 j q t (List.mem_range.1 hj) (hall2 j (List.mem_range.1 hj)) hq hqd, if_neg (by rintro (e | e); exact h7 e; exact h8 e)]
              exact .inl rfl
          · rw [h5, lkp_purge, lkp_filter (fun x => (l.take n).all fun o => o.dst != some x)]
            split
            · rename_i hf
              rw [S2 t fun j q hj _ hq hqd => ?_]
              · exact .inl rfl
              · have := List.all_eq_true.1 hf q (List.mem_of_getElem? (hat hj hq))
                simp [hqd] at this
            · exact .inr rfl
    have hNd : (l.drop n).all (dstB N) = true := List.all_eq_true.2 fun q hq => List.all_eq_true.1 hN q (List.mem_of_mem_drop hq)
    exact VRun_ok (ow := []) hN (fun p st a w R h => ⟨st, p, R, h⟩) (l.drop n) p _ _ w hNd R' h
  · refine ⟨⟨by simp, fun j oj _ hl => (by rw [getD_replicate_false] at hl; cases hl), fun t _ ht => getD_in (by simpa using ht) (getD_replicate_false _ _)⟩, p0, st.s, ?_, fun j q d _ hl => (by rw [getD_replicate_false] at hl; cases hl), fun _ _ => by rw [getD_replicate_false]; rfl⟩
    rw [getD_replicate_false]
    exact R0.later (Below.refl _ _).drew
end
end Go.Proofs.Ytcndlalhkkjocaa
