/- Every operation that makes or writes to memory of the call's own does as the plain walk tells: of every program; no condition. -/
import Derived.Test.YtmfmpagfjgpodaaVP
import Derived.IntWalk
namespace Go.Proofs.Ytmfmpagfjgpodaa
open Go.RowKit
section
variable {P : Program} {M0 : Nat → Prop} {w0 : World} {N : Nat} {p : Nat → Nat} {st : VS} {a : Act} {w : World}
theorem newH_some {d : Option Tmp} {av : AV} {ob : Ob} {st' : VS} (h : newH st d av ob = some st') : ∃ t, d = some t ∧ st' = ⟨(t, av) :: st.s, st.h ++ [some ob]⟩ := by
  unfold newH at h
  cases d with
  | none => cases h
  | some t => exact ⟨t, rfl, (Option.some.inj h).symm⟩
theorem run_make {t : TypeId} {ti te : TI} {n : Nat} (hti : tinfo P t = some ti) (hte : tinfo P ti.elem = some te) (hk : ti.kind = 1) (h1 : te.size = ti.esz) (h2 : te.zero.length = ti.esz) (h3 : ti.esz ≠ 0) (hn : n ≤ 1000000000) (hby : te.bytes ≤ 100000) :
    (Instr.makeSlice t (.int .i64 n) (.int .i64 n)).run P w = .ok (.slice (some ⟨w.heap.size, 0, none⟩) n n) { w with heap := w.heap.push (.cells (zrow te.zero n).toArray ti.elem) } := by
  obtain ⟨z, hz, hz1, hzr⟩ := ti_zero hte
  have hu := ti_slice hti hk
  have hez' : ti.esz = tsize P ti.elem := by obtain ⟨d, i, z, hd, hi, hz, h1z, rfl⟩ := tinfo_spec hti; rfl
  have hpos : 0 < tsize P ti.elem := by omega
  have hinfo : ∃ i : TypeInfo, (typeInfo ti.elem).run P w = .ok i w ∧ i.bytes = te.bytes := by
    obtain ⟨d, i, z, hd, hi, hz, h1z, rfl⟩ := tinfo_spec hte
    exact ⟨i, by simp [typeInfo, hi], rfl⟩
  obtain ⟨inf, hinf, hb⟩ := hinfo
  have hw : IntKind.i64.wrap (n : Int) = n := IntWalk.i64_in _ (by omega)
  have hmul : inf.bytes * n ≤ 100000 * 1000000000 := Nat.mul_le_mul (by omega) hn
  have hmul' : (inf.bytes : Int) * (n : Int) ≤ 100000000000000 := by
    have : ((inf.bytes * n : Nat) : Int) ≤ ((100000 * 1000000000 : Nat) : Int) := Int.ofNat_le.2 hmul
    simpa using this
  have hneg : ¬ ((n : Int) < 0) := by omega
  have hbig : ¬ ((inf.bytes : Int) * (n : Int) > 2 ^ 48) := by omega
  have hzs : z.cells.size = tsize P ti.elem := by rw [← Array.length_toList, hz, h2, hez']
  have hrow := zrow_row z.cells n (by omega)
  rw [hz] at hrow
  have harr : (Array.range (n * z.cells.size)).map (z.cells[· % z.cells.size]!) = (zrow te.zero n).toArray := by rw [← hrow]
  have hdec : decide ((inf.bytes : Int) * (n : Int) > 2 ^ 48) = false := by simp; omega
  have hnn : ¬ ((n : Int) > (n : Int)) := by omega
  simp only [Instr.makeSlice, Sem.run_bind, run_underlying hu, Result.andThen_ok, asInt, asIntOf, Sem.run_pure, hinf, hw, hdec, Sem.run_ite, hneg, hnn, decide_false, Bool.or_false, Bool.false_or, Bool.false_eq_true, if_false, run_askRoom, Int.toNat_natCast, run_size hpos]
  by_cases h0 : n * tsize P ti.elem = 0
  · have hn0 : n = 0 := by
      rcases Nat.mul_eq_zero.1 h0 with h | h
      · exact h
      · omega
    subst hn0
    have e0 : ∀ f : Nat → Value, (Array.range 0).map f = #[] := fun f => by simp
    simp [newRow, zrow, e0]
  · simp only [Sem.run_bind, hzr, Result.andThen_ok, Sem.run_pure, ← hzs, harr, newRow, run_newObj]
    rw [if_neg (by rw [hzs]; exact h0)]
theorem zrow_cells {z : List Value} {n : Nat} : ∀ (k j : Nat) (c : AV) (u : Value), k < n → (z.map AV.lit)[j]? = some c → (zrow z n)[k * z.length + j]? = some u → c = .lit u := by
  intro k j c u hk hj hu
  have hjl : j < z.length := by simpa using (List.getElem?_eq_some_iff.1 hj).1
  have hlt : k * z.length + j < n * z.length := by
    have : (k + 1) * z.length ≤ n * z.length := Nat.mul_le_mul_right _ hk
    rw [Nat.add_mul] at this
    omega
  rw [zrow_at z n _ hlt, Nat.mul_comm, Nat.mul_add_mod, Nat.mod_eq_of_lt hjl] at hu
  rw [List.getElem?_map, hu] at hj
  simpa using hj.symm
theorem tail_append {t ty e id sz d : Nat} {x y : Operand} {ti te : TI} {nl : Bool} {es' es : List (List AV)} {ats : Array TypeId} (R : Rel M0 w0 N p st a w) (hd : d < N) (hti : tinfo P t = some ti) (hx : ev st x = .osl id) (hy : ev st y = .sl sz es) (hid : st.h[id]? = some (some (.arr e sz nl es'))) (hte : tinfo P ti.elem = some te)
    (hk : ti.kind = 1) (he : ti.elem = e) (_hez : ti.esz = sz) (h1 : te.size = sz) (h2 : te.zero.length = sz) (hnil : nl = true → 0 < es.length) (hmax : es'.length + es.length ≤ 1000000000) (hby : te.bytes ≤ 100000) (hats : ats = #[t, t]) :
    ∃ v w' p', (Builtin.append_ ats ty #[a.eval x, a.eval y]).run P w = .ok v w' ∧ Rel M0 w0 N p' ⟨(d, .osl id) :: st.s.map (fun q => (q.1, purge id q.2)), (st.h.set id (some (.arr e sz false (es' ++ es)))).map (purgeO id)⟩ (a.put (some d) v) w' := by
  subst hats
  subst he
  have hxv := R.eval x
  rw [hx] at hxv
  have hyv := R.eval y
  rw [hy] at hyv
  obtain ⟨A0, n0, c0, hq, hidl, hosl⟩ := hxv.osl_inv
  have hosl := hosl _ _ _ _ hid
  obtain ⟨hsz, hes', hr⟩ := R.objs id _ hid
  obtain ⟨dd, inf, z, hdd, hi, hz, hz1, hteq⟩ := tinfo_spec hte
  have hisz : inf.size = sz := by rw [← h1, hteq]
  have hzs : z.cells.size = sz := by rw [← h2, hteq, Array.length_toList]
  have hby' : inf.bytes ≤ 100000 := by rw [hteq] at hby; exact hby
  have hu := ti_slice hti hk
  have hown : ∃ xs, w.ownsRow w0.heap.size ti.elem sz (a.eval x) es'.length xs ∧ (nl = true → xs = [] ∧ es' = []) ∧ (nl = false → ∃ cap cur, a.eval x = .slice (some ⟨p id, 0, none⟩) es'.length cap ∧ w.heap[p id]? = some (.cells cur ti.elem (0, 0)) ∧ xs = cur.toList.take (es'.length * sz) ∧ es'.length * sz ≤ cur.size) := by
    cases nl
    · simp only [Bool.false_eq_true, if_false] at hr
      unfold Osl at hosl
      simp only [Bool.false_eq_true, if_false] at hosl
      obtain ⟨cap, cur, b1, b2, b3, b4, b5⟩ := hosl
      obtain ⟨hge, cur', hg, hle, hv⟩ := hr
      obtain rfl : cur' = cur := by rw [hg] at b2; injection b2 with b2; injection b2
      refine ⟨cur'.toList.take (es'.length * sz), ⟨by simp; omega, .inr ⟨p id, cap, cur', b1, hge, hg, b4, b5, b3, rfl⟩⟩, (fun h => by cases h), fun _ => ⟨cap, cur', b1, hg, rfl, hle⟩⟩
    · simp only [if_true] at hr
      subst hr
      unfold Osl at hosl
      simp only [if_true] at hosl
      exact ⟨[], ⟨by simp, .inl ⟨hosl.1, rfl⟩⟩, fun _ => ⟨rfl, rfl⟩, fun h => by cases h⟩
  obtain ⟨xs, hown, hxnil, hxrow⟩ := hown
  obtain ⟨A1, m, c1, u, hq1, hm, hS, hu1, huv⟩ : ∃ (A1 : Option Addr) (m c1 : Nat) (u : Nat → Nat → Value), a.eval y = .slice A1 m c1 ∧ m = es.length ∧ Sl (fun k => (List.range sz).map fun j => if k < es.length then u k j else .bool false) sz w A1 (List.range es.length) ∧
      (∀ k j, k < es.length → j < sz → (u k j).oneCell' = true) ∧ ∀ (k : Nat) (x : List AV) (j : Nat) (c : AV), es[k]? = some x → x[j]? = some c → x.length = sz ∧ oneAV c = true ∧ V0 w (Mof M0 st.h p) c (u k j) := by
    have hv0 := hyv.sl_inv
    generalize a.eval y = yv at hv0
    cases hv0 with
    | slNil _ A cap => exact ⟨A, 0, cap, fun _ _ => undef, rfl, rfl, fun h => absurd rfl h, by simp, by simp⟩
    | sl _ _ cap b o u hne hb hM hcap hsz' hone hcell hvv =>
      refine ⟨_, _, _, u, rfl, rfl, fun _ => ⟨b, o, rfl, fun k q hk j v hj => ?_⟩, fun k j hk hj => ?_, fun k x j c hk hj => ⟨hsz' k x hk, hone k x j c hk hj, hvv k x j c hk hj⟩⟩
      · have hkl : k < es.length := by simpa using (List.getElem?_eq_some_iff.1 hk).1
        have hqk : k = q := by simpa using (List.getElem?_eq_some_iff.1 hk).2
        subst hqk
        have hjl : j < sz := by simpa using (List.getElem?_eq_some_iff.1 hj).1
        have : v = u k j := by
          have := (List.getElem?_eq_some_iff.1 hj).2
          simp [hkl] at this
          exact this.symm
        rw [this]
        exact hcell k j hkl hjl
      · have hx := List.getElem?_eq_getElem hk
        have hjl : j < es[k].length := by rw [hsz' k _ hx]; exact hj
        exact (hvv k _ j _ hx (List.getElem?_eq_getElem hjl)).one (hone k _ j _ hx (List.getElem?_eq_getElem hjl))
  subst hm
  rw [hq1]
  have hform := own_form _ hown
  obtain ⟨A, c, hqx⟩ := hform
  rw [hqx] at hown ⊢
  have hbytes : (es'.length + es.length) * inf.bytes ≤ 140737488355328 := by
    have : (es'.length + es.length) * inf.bytes ≤ 1000000000 * 100000 := Nat.mul_le_mul hmax hby'
    omega
  obtain ⟨A2, c2, w', hrun, hown2, hgrow, hblk⟩ := run_append_sl (P := P) w w0.heap.size t ty ti.elem inf z sz inf.bytes hu hi hz hisz rfl hzs hsz (C := fun k => (List.range sz).map fun j => if k < es.length then u k j else .bool false) (fun x => by simp) (fun x v hv => by
    obtain ⟨j, hj, rfl⟩ := List.mem_map.1 hv
    split
    · rename_i hx
      exact hu1 x j hx (by simpa using hj)
    · rfl) A es'.length c xs hown A1 es.length c1 (List.range es.length) (by simp) hS (by simp only [maxLen]; omega) hbytes R.below.size
  have hnotnil : (Value.slice A2 (es'.length + es.length) c2) ≠ .slice none 0 0 := by
    intro hh
    injection hh with q1 q2 q3
    subst q1
    rcases hblk with hb | hb
    · cases nl
      · obtain ⟨cap, cur, b1, _⟩ := hxrow rfl
        rw [hqx] at b1
        injection b1 with b1
        subst b1
        simp [Value.ownBlock] at hb
      · have := hnil rfl
        omega
    · simp [Value.ownBlock] at hb
  rcases hown2.2 with ⟨h, _⟩ | ⟨g, cap2, cur2, hv2, hge2, hg2, hn2, hc2, hs2, ht2⟩
  · exact absurd h hnotnil
  · injection hv2 with q1 q2 q3
    subst q1
    subst q3
    have hgcase : g = w.heap.size ∨ (nl = false ∧ g = p id) := by
      rcases hblk with hb | hb
      · right
        cases nl
        · obtain ⟨cap, cur, b1, _⟩ := hxrow rfl
          rw [hqx] at b1
          injection b1 with b1
          subst b1
          simp [Value.ownBlock] at hb
          exact ⟨rfl, hb⟩
        · rcases hown.2 with ⟨h, _⟩ | ⟨g', cap', cur', h, _⟩
          · injection h with h1
            subst h1
            simp [Value.ownBlock] at hb
          · have := (hxnil rfl)
            unfold Osl at hosl
            simp only [if_true] at hosl
            rw [hqx, h] at hosl
            have := hosl.1
            injection this with h1
            cases h1
      · left
        simpa [Value.ownBlock] using hb
    have hrow : ∀ b, b < w.heap.size → ¬ (nl = false ∧ b = p id) → w'.heap[b]? = w.heap[b]? := by
      intro b hb hn
      refine hgrow.block b hb fun hs => ?_
      cases nl
      · obtain ⟨cap, cur, b1, _⟩ := hxrow rfl
        rw [hqx] at b1
        injection b1 with b1
        subst b1
        simp [Value.ownBlock] at hs
        exact hn ⟨rfl, hs⟩
      · unfold Osl at hosl
        simp only [if_true] at hosl
        rw [hqx] at hosl
        have := hosl.1
        injection this with h1
        subst h1
        simp [Value.ownBlock] at hs
    have hge0 : nl = false → w0.heap.size ≤ p id := fun h => by subst h; exact hr.1
    refine ⟨_, w', (fun i => if i = id then g else p i), hrun, ?_⟩
    refine R.append hd hid hge2 hgcase ⟨hgrow.os, hgrow.tape, hgrow.output, hgrow.size, fun k hk => hrow k (Nat.lt_of_lt_of_le hk R.below.size) fun ⟨hnl, he⟩ => by have := hge0 hnl; omega⟩ hrow (fun hV0 => ⟨hsz, fun k x hk => ?_, ?_⟩) ?_
    · rcases Nat.lt_or_ge k es'.length with hlt | hge
      · rw [List.getElem?_append_left hlt] at hk
        exact hes' k x hk
      · rw [List.getElem?_append_right hge] at hk
        have hx0 : 0 < x.length ∨ x = [] := by cases x; right; rfl; left; simp
        refine ⟨?_, fun c hc => ?_⟩
        · rcases hx0 with hx0 | hx0
          · exact (huv _ x 0 x[0] hk (List.getElem?_eq_getElem hx0)).1
          · exfalso
            have hv0 := hyv.sl_inv
            generalize a.eval y = yv at hv0
            cases hv0 with
            | slNil => simp at hk
            | sl _ _ _ _ _ _ _ _ _ _ hsz' => have := hsz' _ x hk; subst hx0; simp at this; omega
        · obtain ⟨j, hj⟩ := List.mem_iff_getElem?.1 hc
          exact (huv _ x j c hk hj).2.1
    · simp only [Bool.false_eq_true, if_false, if_true]
      refine ⟨hge2, cur2, hg2, by rw [hs2, List.length_append]; exact Nat.mul_le_mul_right _ hn2, fun k x j c hk hj => ?_⟩
      have hread : ∀ i v, i < (es'.length + es.length) * sz → (xs ++ (List.range es.length).flatMap fun k => (List.range sz).map fun j => if k < es.length then u k j else .bool false)[i]? = some v → cur2[i]? = some v := by
        intro i v hi hh
        rw [← ht2, List.getElem?_take_of_lt hi] at hh
        simpa using hh
      have hxl : xs.length = es'.length * sz := hown.1
      have hjl := (List.getElem?_eq_some_iff.1 hj).1
      rcases Nat.lt_or_ge k es'.length with hlt | hge
      · rw [List.getElem?_append_left hlt] at hk
        have hnl : nl = false := by cases nl; rfl; have := (hxnil rfl).2; subst this; simp at hlt
        subst hnl
        simp only [Bool.false_eq_true, if_false] at hr
        obtain ⟨_, cur', hg', hle', hvv⟩ := hr
        obtain ⟨cap, cur, b1, b2, b3, b4⟩ := hxrow rfl
        obtain rfl : cur' = cur := by rw [hg'] at b2; injection b2 with b2; injection b2
        obtain ⟨v, hv, hv0⟩ := hvv k x j c hk hj
        have hxl' := (hes' k x hk).1
        have h3 : (k + 1) * sz ≤ es'.length * sz := Nat.mul_le_mul_right _ hlt
        rw [Nat.add_mul] at h3
        refine ⟨v, hread _ v ?_ ?_, hV0 hv0⟩
        · rw [Nat.add_mul]; omega
        · rw [List.getElem?_append_left (by omega), b3, List.getElem?_take_of_lt (by omega)]
          simpa using hv
      · rw [List.getElem?_append_right hge] at hk
        obtain ⟨hxsz, _, hv0⟩ := huv _ x j c hk hj
        have hkl := (List.getElem?_eq_some_iff.1 hk).1
        refine ⟨u (k - es'.length) j, hread _ _ ?_ ?_, hV0 hv0⟩
        · have h3 : (k - es'.length + 1) * sz ≤ es.length * sz := Nat.mul_le_mul_right _ hkl
          have h4 : k * sz = es'.length * sz + (k - es'.length) * sz := by rw [← Nat.add_mul]; congr 1; omega
          rw [Nat.add_mul] at h3
          rw [Nat.add_mul]
          omega
        · have h4 : k * sz = es'.length * sz + (k - es'.length) * sz := by rw [← Nat.add_mul]; congr 1; omega
          rw [List.getElem?_append_right (by omega), hxl, show k * sz + j - es'.length * sz = (k - es'.length) * sz + j by omega]
          exact rows_at hk hj hxsz
    · unfold Osl
      simp only [Bool.false_eq_true, if_false, List.length_append]
      exact ⟨_, cur2, rfl, hg2, hs2, hn2, hc2⟩
def dstB (N : Nat) (o : Oper) : Bool := match o.dst with | some d => decide (d < N) | none => true
theorem dstB_lt {o : Oper} (hd : dstB N o = true) : ∀ t, o.dst = some t → t < N := by
  intro t ht
  unfold dstB at hd
  rw [ht] at hd
  simpa using hd
theorem tail_ok (R : Rel M0 w0 N p st a w) {ow : List Nat} {o : Oper} {st' : VS} (hd : dstB N o = true) (ht : tailOp P ow st o = some st') :
    ∃ v w' p', (execOp a.eval o).run P w = .ok (.value v) w' ∧ Rel M0 w0 N p' st' (a.put o.dst v) w' ∨ (execOp a.eval o).run P w = .ok .skip w' ∧ v = undef ∧ Rel M0 w0 N p' st' (a.put o.dst undef) w' := by
  have hlt := dstB_lt hd
  obtain ⟨dst, op, ty, pos, after, guard⟩ := o
  simp only at hlt
  unfold tailOp at ht
  simp only at ht
  split at ht
  · rename_i t
    split at ht
    · rename_i ti hti
      obtain ⟨d, hdd, rfl⟩ := newH_some ht
      subst hdd
      obtain ⟨z, hz, hz1, hzr⟩ := ti_zero hti
      have hc : Cells w (Mof M0 st.h p) st.h p (ti.zero.map .lit) z.cells.toList := by rw [hz]; exact Cells.of_lits _ hz1
      refine ⟨.pointer (some ⟨w.heap.size, 0, none⟩), _, _, .inl ⟨?_, box_new R (hlt d rfl) hc t⟩⟩
      simp [execOp, Instr.alloc, hzr, newVar, newRow]
    · cases ht
  · rename_i t x
    split at ht
    · rename_i hc
      simp only [Bool.and_eq_true] at hc
      obtain ⟨d, hdd, rfl⟩ := newH_some ht
      subst hdd
      refine ⟨.pointer (some ⟨w.heap.size, 0, none⟩), _, _, .inl ⟨?_, box_new R (hlt d rfl) ((R.eval x).cells hc.2) t⟩⟩
      simp [execOp, Instr.box, newVar, newRow]
    · cases ht
  · rename_i t n parts
    split at ht
    · split at ht
      · rename_i cs ti hrow
        split at ht
        · rename_i hp
          obtain ⟨d, hdd, rfl⟩ := newH_some ht
          subst hdd
          obtain ⟨us, hrun, hc, hlen, hti, hk, hpos⟩ := row_ok (P := P) (w := w) (M := Mof M0 st.h p) (h := st.h) (p := p) (vals := parts.map fun (i, x) => (i, a.eval x)) (by simp) (fun i b v hb hv => by
            obtain ⟨x, hx, rfl⟩ := map_at hb
            simp only [Array.toList_map] at hv
            obtain ⟨y, hy, rfl⟩ := map_at hv
            rw [hx] at hy
            obtain rfl := Option.some.inj hy
            exact R.eval x.2) hrow
          have hcl := chunkA_len ti.esz n cs
          have hat := fun k e => chunkA_at ti.esz n cs k e (by omega)
          have hbig : n ≤ maxLen := by
            unfold rowA at hrow
            rw [hti] at hrow
            simp only at hrow
            split at hrow
            · cases hrow
            · split at hrow
              · rename_i hcond
                have := hcond.2.2.2.2
                have h2 : n * 1 ≤ n * ti.esz := Nat.mul_le_mul_left _ hpos
                simp only [maxLen]
                omega
              · cases hrow
          have hrel := arr_new (es := chunkA ti.esz n cs) (e := ti.elem) (sz := ti.esz) R (hlt d rfl) hpos (us := us) (by rw [hc.1, hlen, hcl]) (by rw [hcl]; exact hbig) (fun k x hk => ⟨(hat k x hk).1, fun c hcm => by
            obtain ⟨j, hj⟩ := List.mem_iff_getElem?.1 hcm
            exact hc.2.1 c (List.mem_of_getElem? ((hat k x hk).2 j c hj))⟩) (fun k x j c u hk hj hu => by
            have h1 := (hat k x hk).2 j c hj
            exact (hc.2.2 _ c u h1 hu).pure 5 (List.all_eq_true.1 hp c (List.mem_of_getElem? h1)))
          rw [hcl] at hrel
          refine ⟨_, _, _, .inl ⟨?_, hrel⟩⟩
          simp only [execOp, Sem.run_bind, hrun]
          rfl
        · cases ht
      · cases ht
    · cases ht
  · split at ht
    · split at ht
      · rename_i ti hti
        split at ht
        · rename_i hc
          obtain ⟨d, hdd, rfl⟩ := newH_some ht
          subst hdd
          exact ⟨.slice none 0 0, w, _, .inl ⟨rfl, nil_new R (hlt d rfl) (Nat.pos_of_ne_zero hc.2)⟩⟩
        · cases ht
      · cases ht
    · cases ht
  · rename_i t l c
    split at ht
    · rename_i ti n m hti hl hcc
      split at ht
      · rename_i te hte
        split at ht
        · rename_i hc
          obtain ⟨hk, h1, h2, h3, hnm, h0, hn, hby⟩ := hc
          subst hnm
          obtain ⟨d, hdd, rfl⟩ := newH_some ht
          subst hdd
          have e1 : a.eval l = .int .i64 n := by have := R.eval l; rw [hl] at this; exact this.lit_inv
          have e2 : a.eval c = .int .i64 n := by have := R.eval c; rw [hcc] at this; exact this.lit_inv
          obtain ⟨k, rfl⟩ := Int.eq_ofNat_of_zero_le h0
          have hrun := run_make (P := P) (w := w) hti hte hk h1 h2 h3 (n := k) (by omega) hby
          obtain ⟨z, hz, hz1, hzr⟩ := ti_zero hte
          have hrel := arr_new (es := List.replicate k (te.zero.map .lit)) (e := ti.elem) (sz := ti.esz) (us := zrow te.zero k) R (hlt d rfl) (Nat.pos_of_ne_zero h3) (by rw [zrow_len, h2, List.length_replicate]) (by rw [List.length_replicate]; simp only [maxLen]; omega) (fun i x hx => by
            obtain ⟨_, rfl⟩ := List.mem_replicate.1 (List.mem_of_getElem? hx)
            refine ⟨by simp [h2], fun c hc => ?_⟩
            obtain ⟨z', hz', rfl⟩ := List.mem_map.1 hc
            exact List.all_eq_true.1 hz1 z' hz') (fun i x j c u hx hj hu => by
            obtain ⟨_, rfl⟩ := List.mem_replicate.1 (List.mem_of_getElem? hx)
            have hik : i < k := by simpa using (List.getElem?_eq_some_iff.1 hx).1
            rw [← h2] at hu
            rw [zrow_cells i j c u hik hj hu]
            exact .lit u)
          rw [List.length_replicate] at hrel
          refine ⟨_, _, _, .inl ⟨?_, by simpa using hrel⟩⟩
          simp only [execOp, e1, e2, Sem.run_bind]
          rw [show ((k : Int)) = ((k : Nat) : Int) from rfl, hrun]
          rfl
        · cases ht
      · cases ht
    · cases ht
  · rename_i t x y
    split at ht
    · rename_i ti id off hti hx
      split at ht
      · rename_i cs hid
        split at ht
        · rename_i hc
          simp only [Option.some.injEq] at ht
          subst ht
          obtain ⟨w', hrun, hrel⟩ := tail_store (P := P) (y := y) R hti hx hid hc.1 hc.2.1 hc.2.2
          exact ⟨undef, w', p, .inr ⟨by simp only [execOp, Sem.run_bind, hrun]; rfl, rfl, hrel⟩⟩
        · cases ht
      · cases ht
    · rename_i ti id sz i off hti hx
      split at ht
      · rename_i e sz' nl es hid
        split at ht
        · rename_i hc
          obtain ⟨rfl, hi, h1, h2, h3, h4⟩ := hc
          simp only [Option.some.injEq] at ht
          subst ht
          obtain ⟨w', hrun, hrel⟩ := tail_storeE (P := P) (y := y) R hti hx hid hi h1 h2 h3 h4
          exact ⟨undef, w', p, .inr ⟨by simp only [execOp, Sem.run_bind, hrun]; rfl, rfl, hrel⟩⟩
        · cases ht
      · cases ht
    · cases ht
  · rename_i xs ts
    split at ht
    · rename_i x y t t' d hxs hts
      split at ht
      · rename_i ti id sz es hti hx hy
        split at ht
        · rename_i e sz' nl es' hid
          split at ht
          · rename_i te hte
            split at ht
            · rename_i hc
              obtain ⟨rfl, hk, he, rfl, hez, h1, h2, hnil, hmax, hby⟩ := hc
              simp only [Option.some.injEq] at ht
              subst ht
              have e1 : xs = #[x, y] := by apply Array.ext'; rw [hxs]
              have e2 : ts = #[t, t] := by apply Array.ext'; rw [hts]
              subst e1
              obtain ⟨v, w', p', hrun, hrel⟩ := tail_append (P := P) (ty := ty) R (hlt d rfl) hti hx hy hid hte hk he hez h1 h2 hnil hmax hby e2
              refine ⟨v, w', p', .inl ⟨?_, hrel⟩⟩
              simp only [execOp, resolve, invoke, builtin, Sem.run_bind, Sem.run_pure, Result.andThen_ok, List.map_toArray, List.map_cons, List.map_nil, hrun]
            · cases ht
          · cases ht
        · cases ht
      · cases ht
    · cases ht
  · cases ht
end
end Go.Proofs.Ytmfmpagfjgpodaa
