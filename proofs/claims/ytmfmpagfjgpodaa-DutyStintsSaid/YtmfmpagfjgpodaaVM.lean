/- Statements whose order of operations is left open, on plain values: of every program; no condition. -/
import Derived.Test.YtmfmpagfjgpodaaVK
namespace Go.Proofs.Ytmfmpagfjgpodaa
open Go.RowKit
section
variable (P : Program)
def VHDo (o : Oper) (st : VS) (K : VS → Prop) : Prop := ∃ r, Gives P st.h (ev st) o.op r ∧ K (st.put o.dst r)
def VHOp (ops : List Oper) (o : Oper) (st : VS) (K : VS → Prop) : Prop :=
  match o.guard with
  | none => VHDo P o st K
  | some (j, want) => match guardA ops st j with
    | .lit (.bool b) => if b = want then VHDo P o st K else K (st.put o.dst (.lit undef))
    | .lit (.tuple _) => K (st.put o.dst (.lit undef))
    | _ => False
def VHRun (ops : List Oper) : List Oper → VS → (VS → Prop) → Prop
  | [], st, K => K st
  | o :: l, st, K => VHOp P ops o st fun st' => VHRun ops l st' K
/-- What one operation gives. -/
def StepOK (ops : List Oper) (o : Oper) (st : VS) (r : AV) : Prop :=
  match o.guard with
  | none => Gives P st.h (ev st) o.op r
  | some (j, want) => match guardA ops st j with
    | .lit (.bool b) => if b = want then Gives P st.h (ev st) o.op r else r = .lit undef
    | .lit (.tuple _) => r = .lit undef
    | _ => False
end
def puts : VS → List Oper → List AV → VS
  | st, o :: l, r :: rs => puts (st.put o.dst r) l rs
  | st, _, _ => st
section
variable {P : Program} {M0 : Nat → Prop} {w0 : World} {N : Nat} {p : Nat → Nat} {st : VS} {a : Act} {w : World} {Q : Exit → VS → Prop}
theorem VHOp_step {ops : List Oper} {o : Oper} {K : VS → Prop} (h : VHOp P ops o st K) : ∃ r, StepOK P ops o st r ∧ K (st.put o.dst r) := by
  obtain ⟨dst, op, ty, pos, after, guard⟩ := o
  cases guard with
  | none => exact h
  | some g =>
    obtain ⟨j, want⟩ := g
    simp only [VHOp] at h
    simp only [StepOK]
    split at h
    · split at h
      · rename_i b hb hw
        obtain ⟨r, h1, h2⟩ := h
        exact ⟨r, by simp only [hw, if_true]; exact h1, h2⟩
      · rename_i b hb hw
        exact ⟨_, by simp only [hw, if_false], h⟩
    · rename_i vs hb
      exact ⟨_, by simp only [], h⟩
    · exact h.elim
theorem VHRun_steps {ops : List Oper} {K : VS → Prop} : ∀ (l : List Oper) (st : VS), VHRun P ops l st K → ∃ rs : List AV, rs.length = l.length ∧ K (puts st l rs) ∧ ∀ (i : Nat) (o : Oper) (r : AV), l[i]? = some o → rs[i]? = some r → StepOK P ops o (puts st (l.take i) (rs.take i)) r
  | [], st, h => ⟨[], rfl, h, by simp⟩
  | o :: l, st, h => by
    obtain ⟨r, h1, h2⟩ := VHOp_step h
    obtain ⟨rs, hl, hK, hs⟩ := VHRun_steps l _ h2
    refine ⟨r :: rs, by simp [hl], hK, fun i o' r' ho hr => ?_⟩
    cases i with
    | zero => simp at ho hr; subst ho; subst hr; exact h1
    | succ i => exact hs i o' r' (by simpa using ho) (by simpa using hr)
theorem puts_h : ∀ (l : List Oper) (rs : List AV) (st : VS), (puts st l rs).h = st.h
  | [], rs, st => by simp [puts]
  | o :: l, [], st => by simp [puts]
  | o :: l, r :: rs, st => by
    rw [puts, puts_h l rs]
    cases o.dst <;> rfl
theorem lkp_put (st : VS) (d : Option Tmp) (r : AV) (t : Nat) : lkp (st.put d r).s t = if d = some t then r else lkp st.s t := by
  cases d with
  | none => simp [VS.put]
  | some d => simp [VS.put, lkp]
theorem puts_no : ∀ (l : List Oper) (rs : List AV) (st : VS) (t : Nat), (∀ o ∈ l, o.dst ≠ some t) → lkp (puts st l rs).s t = lkp st.s t
  | [], rs, st, t, _ => by simp [puts]
  | o :: l, [], st, t, _ => by simp [puts]
  | o :: l, r :: rs, st, t, h => by
    rw [puts, puts_no l rs _ t fun o ho => h o (List.mem_cons_of_mem _ ho), lkp_put, if_neg (h o (List.mem_cons_self ..))]
theorem puts_at : ∀ (l : List Oper) (rs : List AV) (st : VS) (t j : Nat) (o : Oper) (r : AV), distB l = true → l[j]? = some o → rs[j]? = some r → o.dst = some t → lkp (puts st l rs).s t = r
  | [], _, _, _, _, _, _, _, h, _, _ => by simp at h
  | o :: l, [], _, _, _, _, _, _, _, h, _ => by simp at h
  | q :: l, s :: rs, st, t, j, o, r, hd, ho, hr, ht => by
    obtain ⟨h1, h2⟩ := distB_spec hd
    cases j with
    | zero =>
      simp at ho hr
      subst ho
      subst hr
      rw [puts, puts_no l rs _ t fun o ho => h1 o ho t ht, lkp_put, if_pos ht]
    | succ j => exact puts_at l rs _ t j o r h2 (by simpa using ho) (by simpa using hr) ht
theorem fill_no {vs : Nat → Value} : ∀ (l : List Oper) (k : Nat) (a : Act) (t : Nat), (∀ o ∈ l, o.dst ≠ some t) → (∀ o ∈ l, ∀ d, o.dst = some d → d < a.tmps.size) → (fill (fun _ => true) vs l k a).tmps.getD t undef = a.tmps.getD t undef
  | [], _, _, _, _, _ => rfl
  | o :: l, k, a, t, h, hb => by
    rw [fill, if_pos rfl]
    have hsz : (a.put o.dst (vs k)).tmps.size = a.tmps.size := by cases o.dst <;> simp [Act.put]
    rw [fill_no l (k + 1) _ t (fun o ho => h o (List.mem_cons_of_mem _ ho)) (fun o ho d hd => by rw [hsz]; exact hb o (List.mem_cons_of_mem _ ho) d hd)]
    cases ho : o.dst with
    | none => rfl
    | some d =>
      rw [getD_put a d _ t (hb o (List.mem_cons_self ..) d ho), if_neg]
      intro hdt
      exact h o (List.mem_cons_self ..) (by rw [ho, hdt])
theorem fill_at {vs : Nat → Value} : ∀ (l : List Oper) (k : Nat) (a : Act) (t j : Nat) (o : Oper), distB l = true → (∀ o ∈ l, ∀ d, o.dst = some d → d < a.tmps.size) → l[j]? = some o → o.dst = some t → (fill (fun _ => true) vs l k a).tmps.getD t undef = vs (k + j)
  | [], _, _, _, _, _, _, _, h, _ => by simp at h
  | q :: l, k, a, t, j, o, hd, hb, ho, ht => by
    obtain ⟨h1, h2⟩ := distB_spec hd
    rw [fill, if_pos rfl]
    have hsz : (a.put q.dst (vs k)).tmps.size = a.tmps.size := by cases q.dst <;> simp [Act.put]
    cases j with
    | zero =>
      simp at ho
      subst ho
      rw [fill_no l (k + 1) _ t (fun o ho => h1 o ho t ht) (fun o ho d hd => by rw [hsz]; exact hb o (List.mem_cons_of_mem _ ho) d hd), ht, getD_put a t _ t (hb q (List.mem_cons_self ..) t ht), if_pos rfl, Nat.add_zero]
    | succ j =>
      rw [fill_at l (k + 1) _ t j o h2 (fun o ho d hd => by rw [hsz]; exact hb o (List.mem_cons_of_mem _ ho) d hd) (by simpa using ho) ht]
      congr 1
      omega
theorem fill_size {vs : Nat → Value} {g : Nat → Bool} : ∀ (l : List Oper) (k : Nat) (a : Act), (fill g vs l k a).tmps.size = a.tmps.size ∧ (fill g vs l k a).defers = a.defers
  | [], _, _ => ⟨rfl, rfl⟩
  | o :: l, k, a => by
    rw [fill]
    obtain ⟨h1, h2⟩ := fill_size (vs := vs) (g := g) l (k + 1) (if g k = true then a.put o.dst (vs k) else a)
    rw [h1, h2]
    split
    · cases o.dst <;> simp [Act.put]
    · exact ⟨rfl, rfl⟩
/-- What is looked at is what the plain walk has there. -/
theorem look_ok {M : Nat → Prop} {h : Hp} {hd : List Oper} {rs : List AV} {vs : Nat → Value} {i t : Nat} {w' : World} (hdist : distB hd = true) (hrs : rs.length = hd.length) (hb : ∀ o ∈ hd, ∀ d, o.dst = some d → d < a.tmps.size)
    (hsl : V1 w' M h p (lkp st.s t) (a.tmps.getD t undef)) (_hi : i ≤ hd.length) (hw : ∀ (j : Nat) (o : Oper), hd[j]? = some o → o.dst = some t → j < i ∧ V1 w' M h p (rs.getD j .any) (vs j)) :
    V1 w' M h p (lkp (puts st (hd.take i) (rs.take i)).s t) ((fill (fun _ => true) vs hd 0 a).tmps.getD t undef) := by
  by_cases hex : ∃ (j : Nat) (o : Oper), hd[j]? = some o ∧ o.dst = some t
  · obtain ⟨j, o, hj, ho⟩ := hex
    obtain ⟨hlt, hv⟩ := hw j o hj ho
    have hjl := (List.getElem?_eq_some_iff.1 hj).1
    have hdt : distB (hd.take i) = true := by
      clear hw hsl hb hj _hi hv hlt hrs hjl
      induction hd generalizing i with
      | nil => simp [distB]
      | cons x l ih =>
        cases i with
        | zero => rfl
        | succ i =>
          simp only [distB, Bool.and_eq_true] at hdist
          simp only [List.take_succ_cons, distB, Bool.and_eq_true]
          refine ⟨?_, ih hdist.2⟩
          have h1 := hdist.1
          cases hd' : x.dst with
          | none => rfl
          | some d =>
            simp only [hd'] at h1
            exact List.all_eq_true.2 fun q hq => List.all_eq_true.1 h1 q (List.mem_of_mem_take hq)
    rw [fill_at hd 0 a t j o hdist hb hj ho, Nat.zero_add, puts_at (hd.take i) (rs.take i) st t j o (rs.getD j .any) hdt (by rw [List.getElem?_take_of_lt hlt]; exact hj) (by rw [List.getElem?_take_of_lt hlt]; simp [List.getD, show j < rs.length by omega]) ho]
    exact hv
  · have hno : ∀ o ∈ hd, o.dst ≠ some t := fun o ho he => by
      obtain ⟨j, hj⟩ := List.mem_iff_getElem?.1 ho
      exact hex ⟨j, o, hj, he⟩
    rw [fill_no hd 0 a t hno hb, puts_no _ _ _ _ fun o ho => hno o (List.mem_of_mem_take ho)]
    exact hsl
theorem spec_of_steps {l : List Oper} {n : Nat} {rs : List AV} (R : Rel M0 w0 N p st a w) (hn : n ≤ l.length) (hd : distB (l.take n) = true) (hN : l.all (dstB N) = true)
    (hlook : ∀ i, i < n → ∀ o, l[i]? = some o → ∀ t ∈ o.looksAt l.toArray, ∀ j, j < n → ∀ q, l[j]? = some q → q.dst = some t → Region.waitsFor .any l.toArray i j = true)
    (hlt : ∀ i j, i < n → Region.waitsFor .any l.toArray i j = true → j < i) (hrs : rs.length = n)
    (hst : ∀ (i : Nat) (o : Oper) (r : AV), (l.take n)[i]? = some o → rs[i]? = some r → StepOK P l o (puts st ((l.take n).take i) (rs.take i)) r) (i : Nat) (hi : i < n) :
    specOp P l.toArray w a n (fun i v w' => V1 w' (Mof M0 st.h p) st.h p (rs.getD i .any) v) i := by
  intro o ho vs w' hbel hS
  have ho' : l[i]? = some o := by simpa using ho
  have hti : (l.take n)[i]? = some o := by rw [List.getElem?_take_of_lt hi]; exact ho'
  have R' := R.later hbel
  have hbnd : ∀ q ∈ l.take n, ∀ d, q.dst = some d → d < a.tmps.size := fun q hq d hdd => by rw [R.size]; exact dstB_lt (List.all_eq_true.1 hN q (List.mem_of_mem_take hq)) d hdd
  have hlen : (l.take n).length = n := by simp; omega
  have hlk : ∀ t ∈ o.looksAt l.toArray, V1 w' (Mof M0 st.h p) st.h p (lkp (puts st ((l.take n).take i) (rs.take i)).s t) ((fill (fun _ => true) vs (l.take n) 0 a).tmps.getD t undef) := fun t ht =>
    look_ok hd (by rw [hrs, hlen]) hbnd (R'.slots t) (by rw [hlen]; omega) fun j q hj hq => by
      have hjn : j < n := by have := (List.getElem?_eq_some_iff.1 hj).1; omega
      have hj' : l[j]? = some q := by rw [List.getElem?_take_of_lt hjn] at hj; exact hj
      have hw := hlook i hi o ho' t ht j hjn q hj' hq
      exact ⟨hlt i j hi hw, hS j hjn hw⟩
  have hr : rs[i]? = some (rs.getD i .any) := by simp [List.getD, show i < rs.length by omega]
  have hstep := hst i o _ hti hr
  simp only []
  have hgive : Gives P st.h (ev (puts st ((l.take n).take i) (rs.take i))) o.op (rs.getD i .any) → gives P o (fill (fun _ => true) vs (l.take n) 0 a) w' fun v w'' => V1 w'' (Mof M0 st.h p) st.h p (rs.getD i .any) v ∧ Below w'.heap.size w' w'' := by
    intro hg
    refine gives_ok R'.objs R'.lt R'.m0 R'.below.size (fun _ hb => .inl hb) (fun x hx => ?_) hg
    cases x with
    | tmp t => exact hlk t (List.mem_append_left _ (List.mem_filterMap.2 ⟨.tmp t, by simpa using hx, rfl⟩))
    | const v => exact .base _ _ (.lit v)
    | global g => exact .base _ _ (.lit _)
    | func f => exact .base _ _ (.lit _)
  unfold StepOK at hstep
  split at hstep
  · rename_i hg
    simp only [Region.wanted, hg, if_true]
    rw [puts_h] at hstep
    exact hgive hstep
  · rename_i j want hg
    simp only [Region.wanted, hg]
    have hy : (∀ b, guardA l (puts st ((l.take n).take i) (rs.take i)) j = .lit (.bool b) → yielded l.toArray (fill (fun _ => true) vs (l.take n) 0 a).tmps j = some b) ∧ (∀ us, guardA l (puts st ((l.take n).take i) (rs.take i)) j = .lit (.tuple us) → yielded l.toArray (fill (fun _ => true) vs (l.take n) 0 a).tmps j = none) := by
      unfold guardA yielded
      cases hj : l[j]? with
      | none => simp [hj, undef]
      | some q =>
        cases hq : q.dst with
        | none => simp [hj, hq, undef]
        | some d =>
          have hmem : d ∈ o.looksAt l.toArray := by
            unfold Oper.looksAt
            refine List.mem_append_right _ ?_
            simp [hg, hj, hq]
          have hs := hlk d hmem
          have hltd : d < (fill (fun _ => true) vs (l.take n) 0 a).tmps.size := by
            rw [(fill_size _ _ _).1, R.size]
            exact dstB_lt (List.all_eq_true.1 hN q (List.mem_of_getElem? hj)) d hq
          have hget : (fill (fun _ => true) vs (l.take n) 0 a).tmps.getD d undef = (fill (fun _ => true) vs (l.take n) 0 a).tmps[d] := by simp [hltd]
          rw [hget] at hs
          simp only [List.getElem?_toArray, hj, Option.bind_some, hq]
          refine ⟨fun b hb => ?_, fun us hb => ?_⟩
          · rw [hb] at hs
            have := hs.lit_inv
            simp [hltd, this]
          · rw [hb] at hs
            have := hs.lit_inv
            simp [hltd, this]
    split at hstep
    · rename_i b hb
      rw [hy.1 b hb]
      split at hstep
      · rename_i hw
        subst hw
        rw [if_pos (by simp)]
        rw [puts_h] at hstep
        exact hgive hstep
      · rename_i hw
        rw [if_neg (by simpa using hw), hstep]
        exact .base _ _ (.lit _)
    · rename_i us hb
      rw [hy.2 us hb, if_neg (by simp), hstep]
      exact .base _ _ (.lit _)
    · exact hstep.elim
theorem rel_of_steps {l : List Oper} {rs : List AV} {vs : Nat → Value} {w' : World} (R : Rel M0 w0 N p st a w) (hd : distB l = true) (hN : l.all (dstB N) = true) (hrs : rs.length = l.length) (hb : Below w.heap.size w w')
    (hv : ∀ i, i < l.length → V1 w' (Mof M0 st.h p) st.h p (rs.getD i .any) (vs i)) : Rel M0 w0 N p (puts st l rs) (fill (fun _ => true) vs l 0 a) w' := by
  have R' := R.later hb
  have hbnd : ∀ q ∈ l, ∀ d, q.dst = some d → d < a.tmps.size := fun q hq d hdd => by rw [R.size]; exact dstB_lt (List.all_eq_true.1 hN q hq) d hdd
  obtain ⟨hs1, hs2⟩ := fill_size (vs := vs) (g := fun _ => true) l 0 a
  have hh := puts_h l rs st
  refine ⟨by rw [hs2]; exact R.defers, by rw [hs1]; exact R.size, R'.below, R.m0, fun t => ?_, ?_, ?_⟩
  · rw [hh]
    have := look_ok (i := l.length) (vs := vs) hd hrs hbnd (R'.slots t) (Nat.le_refl _) fun j o hj ho => ⟨(List.getElem?_eq_some_iff.1 hj).1, hv j (List.getElem?_eq_some_iff.1 hj).1⟩
    rwa [List.take_length, List.take_of_length_le (by omega)] at this
  · rw [hh]; exact R'.objs
  · rw [hh]; exact R.inj
/-- May operations 0 to n - 1 be told in their text's order, the others behind them? -/
def drawB (l : List Oper) (n : Nat) : Bool := if n = l.length then Region.allB l.toArray else Region.specB l.toArray n
theorem vdraw {id : Nat} {l : List Oper} (n : Nat) (ow : List Nat) (hm : P.follows .mixedOrders = true) (hB : drawB l n = true) (h : VHRun P l (l.take n) st fun st' => VRun P ow l (l.drop n) st' (Q .normal)) :
    VWp P M0 w0 N (.region id l.toArray true) Q st := fun hC p a w R => by
  have hN : l.all (dstB N) = true := by simpa [codeB] using hC
  obtain ⟨rs, hrl, hK, hst⟩ := VHRun_steps _ _ h
  unfold drawB at hB
  split at hB
  · rename_i hn
    subst hn
    rw [List.take_length] at hrl hK hst
    rw [List.drop_length] at hK
    have hB' := hB
    simp only [Region.allB, Bool.and_eq_true] at hB
    obtain ⟨⟨hsel, hd⟩, hlook⟩ := hB
    have hd' : distB l = true := by simpa using hd
    have hlk : ∀ i, i < l.length → ∀ o, l[i]? = some o → (∀ t ∈ o.looksAt l.toArray, ∀ j, j < l.length → ∀ q, l[j]? = some q → q.dst = some t → Region.waitsFor .any l.toArray i j = true) ∧ (∀ e ∈ o.after, Region.binds .any e = true → e.on < i) := by
      intro i hi o ho
      have h := List.all_eq_true.1 hlook i (List.mem_range.2 (by simpa using hi))
      simp only [List.getElem?_toArray, ho, Bool.and_eq_true] at h
      refine ⟨fun t ht j hj q hq hqd => ?_, fun e he hb => ?_⟩
      · have h1 := List.all_eq_true.1 (List.all_eq_true.1 h.1 t ht) j (List.mem_range.2 (by simpa using hj))
        simp only [hq, Option.bind_some, hqd, bne_self_eq_false, Bool.false_or] at h1
        exact h1
      · have h1 := Array.all_eq_true'.1 h.2 e he
        simp only [hb, Bool.not_true, Bool.false_or, decide_eq_true_eq] at h1
        exact h1
    have hlt : ∀ i j, i < l.length → Region.waitsFor .any l.toArray i j = true → j < i := by
      intro i j hi hw
      obtain ⟨o, ho, e, he, hb, hon⟩ := Region.waitsFor_spec hw
      rw [← hon]
      exact (hlk i hi o (by simpa using ho)).2 e he hb
    refine wp_region_all (S := fun i v w' => V1 w' (Mof M0 st.h p) st.h p (rs.getD i .any) v) hm hB' (fun i _ v w1 w2 hv hb => hv.later hb) (fun i hi => ?_) fun vs w' hb hv => ?_
    · exact spec_of_steps R (Nat.le_refl _) (by rw [List.take_length]; exact hd') hN (fun i hi o ho t ht j hj q hq hqd => (hlk i hi o ho).1 t ht j hj q hq hqd) hlt hrl (by rw [List.take_length]; exact hst) i hi
    · exact ⟨_, p, rel_of_steps R hd' hN hrl hb hv, hK⟩
  · rename_i hn
    have hB' := hB
    simp only [Region.specB, Bool.and_eq_true, decide_eq_true_eq] at hB
    obtain ⟨⟨⟨⟨⟨⟨hsel, hnl⟩, hs⟩, hc⟩, hd⟩, hlook⟩, hseq⟩ := hB
    have hnl' : n < l.length := by simpa using hnl
    have hd' : distB (l.take n) = true := by simpa using hd
    have hlen : (l.take n).length = n := by simp; omega
    have hlk : ∀ i, i < n → ∀ o, l[i]? = some o → (∀ t ∈ o.looksAt l.toArray, ∀ j, j < n → ∀ q, l[j]? = some q → q.dst = some t → Region.waitsFor .any l.toArray i j = true) ∧ (∀ e ∈ o.after, Region.binds .any e = true → e.on < i) := by
      intro i hi o ho
      have h := List.all_eq_true.1 hlook i (List.mem_range.2 hi)
      simp only [List.getElem?_toArray, ho, Bool.and_eq_true] at h
      refine ⟨fun t ht j hj q hq hqd => ?_, fun e he hb => ?_⟩
      · have h1 := List.all_eq_true.1 (List.all_eq_true.1 h.1 t ht) j (List.mem_range.2 hj)
        simp only [hq, Option.bind_some, hqd, bne_self_eq_false, Bool.false_or] at h1
        exact h1
      · have h1 := Array.all_eq_true'.1 h.2 e he
        simp only [hb, Bool.not_true, Bool.false_or, decide_eq_true_eq] at h1
        exact h1
    have hlt : ∀ i j, i < n → Region.waitsFor .any l.toArray i j = true → j < i := by
      intro i j hi hw
      obtain ⟨o, ho, e, he, hb, hon⟩ := Region.waitsFor_spec hw
      rw [← hon]
      exact (hlk i hi o (by simpa using ho)).2 e he hb
    refine wp_region_spec n (fun i v w' => V1 w' (Mof M0 st.h p) st.h p (rs.getD i .any) v) hm hB' (fun i _ v w1 w2 hv hb => hv.later hb) (fun i hi => ?_) fun vs w' hb hv => ?_
    · exact spec_of_steps R (Nat.le_of_lt hnl') hd' hN (fun i hi o ho t ht j hj q hq hqd => (hlk i hi o ho).1 t ht j hj q hq hqd) hlt (by rw [hrl, hlen]) hst i hi
    · have hNt : (l.take n).all (dstB N) = true := List.all_eq_true.2 fun q hq => List.all_eq_true.1 hN q (List.mem_of_mem_take hq)
      have hNd : (l.drop n).all (dstB N) = true := List.all_eq_true.2 fun q hq => List.all_eq_true.1 hN q (List.mem_of_mem_drop hq)
      exact VRun_ok (ow := ow) hN (fun p st a w R h => ⟨st, p, R, h⟩) (l.drop n) p _ _ w' hNd (rel_of_steps R hd' hNt hrl hb (by rw [hlen]; exact hv)) hK

end
end Go.Proofs.Ytmfmpagfjgpodaa
