/- Texts in one: A call that writes to its caller's variables, rows and maps, in a walk: of every program; no condition. -/
import Derived.Test.YtoibondihdhnoaaGreatDoorFRA11
import Derived.Test.YtoibondihdhnoaaGreatDoorFRA12
namespace Go.Proofs.YtoibondihdhnoaaGreatDoor
open Go.RowKit
def fitH (τ : Nat → Nat) (H : Hp) : Nat → Hp → Prop
 | _, [] => True
 | k, o :: r => H[τ k]? = some (o.map (renO τ)) ∧ fitH τ H (k + 1) r
def idsH (n : Nat) (h : Hp) : Bool := h.all fun o => match o with | some ob => idsO n ob | none => true
theorem fitH_at {τ : Nat → Nat} {H : Hp} : ∀ {h : Hp} {i k : Nat}, fitH τ H i h → k < h.length → H[τ (i + k)]? = (h[k]?).map (Option.map (renO τ))
 | [], i, k, _, hk => by simp at hk
 | o :: r, i, 0, hf, _ => by simpa using hf.1
 | o :: r, i, k + 1, hf, hk => by
  have := fitH_at (i := i + 1) (k := k) hf.2 (by simpa using hk)
  rw [show i + (k + 1) = i + 1 + k by omega, this]
  simp
theorem idsH_at {n : Nat} {h : Hp} (hi : idsH n h = true) (k : Nat) (ob : Ob) (hk : h[k]? = some (some ob)) : idsO n ob = true := by
 have := List.all_eq_true.1 hi (some ob) (List.mem_of_getElem? hk)
 simpa using this
def sigB (σ : List Nat) (L : Nat) : Bool := decide σ.Nodup && σ.all fun i => Nat.blt i L
section
variable (P : Program)
def HCall (st : VS) (c : Call) (σ Kr Ko : List Nat) (h' : Hp) (r : AV) : Prop :=
 match calleeA P (ev st) c with
 | none => False
 | some (k, xs) => ∃ h args ks, VH P k h args ks h' r ∧ xs = args.map (renA (tau σ st.h.length) 5) ∧ args.all (idsB h.length 5) = true ∧ idsH h.length h = true ∧ idsH h'.length h' = true ∧ idsB h'.length 5 r = true ∧ h.length = σ.length ∧ Nat.ble h.length h'.length = true ∧
   sigB σ st.h.length = true ∧ fitH (tau σ st.h.length) st.h 0 h ∧ keepB σ h args ks Kr Ko = true
end
def hafter (st : VS) (d : Option Tmp) (σ Kr Ko : List Nat) (h' : Hp) (r : AV) : VS :=
 VS.put ⟨retS (okB σ Kr Ko) st.s, retH σ st.h.length (okB σ Kr Ko) st.h h'⟩ d (renA (tau σ st.h.length) 5 r)
section
variable {P : Program} {M0 : Nat → Nat → Prop} {w0 : Bas} {N : Nm} {p : Pl} {st : VS} {a : Act} {w w' : World}
theorem hcall_ok (R : Rel M0 w0 N p st a w) {o : Oper} {c : Call} {σ Kr Ko : List Nat} {h' : Hp} {r : AV} {K' : Act → World → Prop} {Q : Exit → Act → World → Prop} (hop : o.op = .call c) (hd : dstB N o = true) (hc : HCall P st c σ Kr Ko h' r)
  (hk : ∀ p a w, Rel M0 w0 N p (hafter st o.dst σ Kr Ko h' r) a w → K' a w) : o.wp P a w K' Q := by
 obtain ⟨dst, op, ty, pos, after, guard⟩ := o
 simp only at hop
 subst hop
 obtain ⟨callee, cargs, cts⟩ := c
 have hlt := dstB_lt hd
 unfold HCall at hc
 split at hc
 ·exact hc.elim
 ·rename_i k xs hcal
  obtain ⟨h, args, ks, hv, hxs, hidA, hidH, hidH', hidR, hlen, hle, hsig, hfit, hkeep⟩ := hc
  obtain ⟨hgo, hcalls⟩ := hv
  obtain ⟨vs, hrun, hvl, hvs⟩ := call_enter (P := P) (dst := dst) (ty := ty) (pos := pos) (after := after) (guard := guard) (fun x _ => R.eval x) hcal hgo
  have hle' : σ.length ≤ h'.length := by rw [← hlen]; exact Nat.le_of_ble_eq_true hle
  simp only [sigB, Bool.and_eq_true, decide_eq_true_eq] at hsig
  have hn := hsig.1
  have hL : ∀ i ∈ σ, i < st.h.length := fun i hi => by simpa using List.all_eq_true.1 hsig.2 i hi
  have htau : ∀ k, k < h.length → ∃ i, σ[k]? = some i ∧ tau σ st.h.length k = i := fun k hk => by
   have hk' : k < σ.length := by omega
   exact ⟨σ[k], List.getElem?_eq_getElem hk', by unfold tau; rw [List.getElem?_eq_getElem hk']⟩
  have E : Emb h ⟨fun k => p (tau σ st.h.length k), fun k => p.S (tau σ st.h.length k)⟩ st.h p (tau σ st.h.length) := by
   refine ⟨fun k hk => ?_, fun k hk => ?_, fun _ _ => rfl, fun _ _ => rfl⟩
   ·obtain ⟨i, hi, ht⟩ := htau k hk
    rw [ht]
    exact hL i (List.mem_of_getElem? hi)
   ·have := fitH_at hfit hk
    rwa [Nat.zero_add] at this
  generalize hpc : (⟨fun k => p (tau σ st.h.length k), fun k => p.S (tau σ st.h.length k)⟩ : Pl) = pc at E
  have hcell : ∀ k ob, h[k]? = some (some ob) → live ob = true → ∀ b j, pc.O k b j → ownX σ st.h p b j := fun k ob hk hl b j hO => by
   have hkl := (List.getElem?_eq_some_iff.1 hk).1
   obtain ⟨i, hi, ht⟩ := htau k hkl
   refine ⟨tau σ st.h.length k, _, by rw [ht]; exact List.mem_of_getElem? hi, emb_some E hk, by rw [renO_live]; exact hl, (emb_O E hkl).2 hO⟩
  have hXM : ∀ b j, ownX σ st.h p b j → Mof M0 st.h p b j := fun b j ⟨i, ob, _, hi, hl, hO⟩ => .inr ⟨i, ob, hi, hl, hO⟩
  have hMM : ∀ b j, ¬ Mof M0 st.h p b j → ¬ Mof (oth M0 σ st.h p) h pc b j := fun b j hn1 hm => by
   rcases hm with (hm | ⟨i, ob, _, hi, hl, hO⟩) | ⟨k, ob, hk, hl, hO⟩
   ·exact hn1 (.inl hm)
   ·exact hn1 (.inr ⟨i, ob, hi, hl, hO⟩)
   ·exact hn1 (hXM b j (hcell k ob hk hl b j hO))
  have hoM : ∀ b j, oth M0 σ st.h p b j → Mof M0 st.h p b j := fun b j hm => by
   rcases hm with hm | ⟨i, ob, _, hi, hl, hO⟩
   ·exact .inl hm
   ·exact .inr ⟨i, ob, hi, hl, hO⟩
  have hdis : ∀ b j, oth M0 σ st.h p b j → ¬ ownX σ st.h p b j := fun b j hm ⟨i', ob', hs', hi', hl', hO'⟩ => by
   rcases hm with hm | ⟨i, ob, hs, hi, hl, hO⟩
   ·exact R.h0 b j hm ((R.objs i' ob' hi').own hl' b j hO').1
   ·exact hs (by rw [R.inj i i' ob ob' hi hi' hl hl' b j j hO hO']; exact hs')
  have hargs : ∀ (i : Nat) (x : AV) (v : Value), args[i]? = some x → vs[i]? = some v → V1 w (Mof (oth M0 σ st.h p) h pc) h pc x v := fun i x v hx hv => by
   refine V1.back E hMM 5 x v (hvs i _ v (by rw [hxs, List.getElem?_map, hx]; rfl) hv) (List.all_eq_true.1 hidA x (List.mem_of_getElem? hx))
  unfold Oper.wp
  rw [hrun]
  simp only [Oper.upon]
  refine (hcalls w (oth M0 σ st.h p) (ownX σ st.h p) pc vs (R.mok.sub hoM) (R.mok.sub hXM) hdis (by rw [hvl, hxs, List.length_map]) hargs (fun k ob hk => ?_) (fun k k' ob ob' hk hk' hl hl' b j j' hO hO' => ?_)).mono ?_
  ·exact ObOK.back (w0' := w0) E hMM (List.getElem?_eq_some_iff.1 hk).1 (fun hl b j hO => .inr (hcell k ob hk hl b j hO)) (idsH_at hidH k ob hk) (R.objs _ _ (emb_some E hk))
  ·have hkl := (List.getElem?_eq_some_iff.1 hk).1
   have hkl' := (List.getElem?_eq_some_iff.1 hk').1
   exact tau_inj hn hL (R.inj _ _ _ _ (emb_some E hk) (emb_some E hk') (by rw [renO_live]; exact hl) (by rw [renO_live]; exact hl') b j j' ((emb_O E hkl).2 hO) ((emb_O E hkl').2 hO'))
  ·rintro en w' ⟨v, q, rfl, hB, hr, hO, hI, hks⟩
   simp only [keepB, Bool.and_eq_true] at hkeep
   obtain ⟨R2, hres⟩ := R.ret (Kr := Kr) (Ko := Ko) hn hL hle' hB hO hI (idsH_at hidH') (fun i hi k hk => by
     have h1 := List.all_eq_true.1 hkeep.1 i hi
     simp only [idxOf_at hn hk] at h1
     obtain ⟨m, hm, hm2⟩ := List.any_eq_true.1 h1
     have ha : ∃ x, args[m]? = some x := by
      cases hx : args[m]? with
      | some x => exact ⟨x, rfl⟩
      | none => simp [List.getD, hx, tellsR] at hm2
     obtain ⟨x, hx⟩ := ha
     have hxl : m < vs.length := by rw [hvl, hxs, List.length_map]; exact (List.getElem?_eq_some_iff.1 hx).1
     have hge : args.getD m .any = x := by simp [List.getD, hx]
     rw [hge] at hm2
     rw [tellsR_ok hm2 (hargs m x _ hx (List.getElem?_eq_getElem hxl)) (hks m x _ hm hx (List.getElem?_eq_getElem hxl)), ← hpc]
     show p (tau σ st.h.length k) = p i
     unfold tau
     rw [hk]) (fun i hi k hk v hv => by
     have h1 := List.all_eq_true.1 hkeep.2 i hi
     simp only [idxOf_at hn hk, Bool.and_eq_true] at h1
     obtain ⟨hrow, h1⟩ := h1
     obtain ⟨m, hm, hm2⟩ := List.any_eq_true.1 h1
     have ha : ∃ x, args[m]? = some x := by
      cases hx : args[m]? with
      | some x => exact ⟨x, rfl⟩
      | none => simp [List.getD, hx, tellsO] at hm2
     obtain ⟨x, hx⟩ := ha
     have hxl : m < vs.length := by rw [hvl, hxs, List.length_map]; exact (List.getElem?_eq_some_iff.1 hx).1
     have hge : args.getD m .any = x := by simp [List.getD, hx]
     rw [hge] at hm2
     have hxo : x = .osl k := by
      cases x <;> simp_all [tellsO]
     subst hxo
     have b1 := hargs m _ _ hx (List.getElem?_eq_getElem hxl)
     have b2 := hks m _ _ hm hx (List.getElem?_eq_getElem hxl)
     have hkl : k < h.length := by rw [hlen]; exact (List.getElem?_eq_some_iff.1 hk).1
     have ht : tau σ st.h.length k = i := by unfold tau; rw [hk]
     have hpi : pc k = p i := by rw [← hpc]; show p (tau σ st.h.length k) = p i; rw [ht]
     have hvv : v = vs[m] := by
      obtain ⟨A, n1, c1, e1, _, f1⟩ := hv.osl_inv
      obtain ⟨_, _, _, _, _, f2⟩ := hv.bag_inv
      obtain ⟨A', n1', c1', e1', _, f1'⟩ := b1.osl_inv
      obtain ⟨_, _, _, _, _, f2'⟩ := b1.bag_inv
      unfold rowO at hrow
      split at hrow
      ·rename_i e sz nl es he
       have hH := emb_some E he
       rw [ht] at hH
       have g1 := f1 _ _ _ _ hH
       have g2 := f1' _ _ _ _ he
       rw [hpi] at g2
       exact g1.uniq (by simpa using hrow) (R.objs _ _ hH).1 g2
      ·rename_i e sz nl pe qs he
       have hH := emb_some E he
       rw [ht] at hH
       have g1 := f2 _ _ _ _ _ hH
       have g2 := f2' _ _ _ _ _ he
       rw [hpi] at g2
       exact g1.uniq (by simpa using hrow) Nat.one_pos g2
      ·cases hrow
     rw [hvv]
     exact b2)
   have hr2 := hres r v hr hidR
   refine hk (backP σ st.h.length p q) _ _ ?_
   unfold hafter
   cases dst with
   | none => exact R2
   | some d => exact R2.putS (hlt d rfl) hr2
def VL (P : Program) (M0 : Nat → Nat → Prop) (w0 : Bas) (N : Nm) (ops : List Oper) (Q : Exit → VS → Prop) (l : List Oper) (st : VS) : Prop :=
 ops.all (dstB N) = true → l.all (dstB N) = true → ∀ p a w, Rel M0 w0 N p st a w → wpList P ops.toArray (fun e a' w' => ∃ st' p', Rel M0 w0 N p' st' a' w' ∧ Q e st') l a w
variable {ops l : List Oper} {Q : Exit → VS → Prop}
theorem vl_nil (h : Q .normal st) : VL P M0 w0 N ops Q [] st := fun _ _ p _a _w R => wpList_nil ⟨st, p, R, h⟩
theorem vl_run (ow : List Nat) (n : Nat) {l1 l2 : List Oper} (hl : l.take n = l1 ∧ l.drop n = l2) (h : VRun P ow ops l1 st fun st' => VL P M0 w0 N ops Q l2 st') : VL P M0 w0 N ops Q l st := fun hops hB p a w R => by
 have hsplit : l = l1 ++ l2 := by rw [← hl.1, ← hl.2, List.take_append_drop]
 rw [hsplit, List.all_append, Bool.and_eq_true] at hB
 have := VRunW_ok (P := P) (M0 := M0) (w0 := w0) (N := N) (ow := ow) (ops := ops) (Q := fun e a' w' => ∃ st' p', Rel M0 w0 N p' st' a' w' ∧ Q e st') (l2 := l2) hops (fun p st a w R h => h hops hB.2 p a w R) l1 p st a w hB.1 R h
 rw [hsplit]
 exact this
theorem vl_conv {st2 : VS} (h : ∀ p a w, Rel M0 w0 N p st a w → ∃ p2, Rel M0 w0 N p2 st2 a w) (k : VL P M0 w0 N ops Q l st2) : VL P M0 w0 N ops Q l st := fun h1 h2 p a w R =>
 let ⟨p2, R2⟩ := h p a w R
 k h1 h2 p2 a w R2
def GoesOn (ops : List Oper) (st : VS) (o : Oper) : Prop := match o.guard with
 | none => True
 | some (j, want) => guardA ops st j = .lit (.bool want)
theorem vl_call {o : Oper} {c : Call} (σ Kr Ko : List Nat) (h' : Hp) (r : AV) (hop : o.op = .call c) (hg : GoesOn ops st o) (hc : HCall P st c σ Kr Ko h' r) (k : VL P M0 w0 N ops Q l (hafter st o.dst σ Kr Ko h' r)) : VL P M0 w0 N ops Q (o :: l) st := fun hops hB p a w R => by
 simp only [List.all_cons, Bool.and_eq_true] at hB
 refine wpList_step fun KK hKK => ?_
 have hdo : o.wp P a w KK (fun e a' w' => ∃ st' p', Rel M0 w0 N p' st' a' w' ∧ Q e st') := hcall_ok R hop hB.1 hc fun p a w R => hKK _ _ (k hops hB.2 p a w R)
 unfold GoesOn at hg
 split at hg
 ·rename_i hgd
  simp only [Region.wanted, hgd, if_true]
  exact hdo
 ·rename_i j want hgd
  obtain ⟨hy1, _⟩ := yielded_lit (j := j) R hops
  simp only [Region.wanted, hgd, hy1 want hg]
  rw [if_pos (by simp)]
  exact hdo
theorem vregionL {id : Nat} (h : VL P M0 w0 N l Q l st) : VWp P M0 w0 N (.region id l.toArray false) Q st := fun hB p a w R => by
 have hB' : l.all (dstB N) = true := by simpa [codeB] using hB
 exact wp_region_lit (h hB' hB' p a w R)
end
end Go.Proofs.YtoibondihdhnoaaGreatDoor
namespace Go.Proofs.YtoibondihdhnoaaGreatDoor
attribute [go_sem] retS okB okA backO backH newsH retH hafter renA renO tau idxOf fitH idsH keepB tellsR tellsO rowO GoesOn keptS resH VEndH VRetH
end Go.Proofs.YtoibondihdhnoaaGreatDoor
