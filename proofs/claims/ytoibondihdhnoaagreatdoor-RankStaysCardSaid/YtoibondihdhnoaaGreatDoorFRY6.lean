/- Texts in one: Loops: of every program; no condition. -/
import Derived.Test.YtoibondihdhnoaaGreatDoorFRY5
namespace Go.Proofs.YtoibondihdhnoaaGreatDoor
open Go.RowKit
section
variable {P:Program} {M0:Nat→Nat→Prop} {w0:Bas} {N:Nm} {st:VS} {Q:Exit→VS→Prop}
theorem mg {id:Nat} {l:List Oper} (len n:Nat) (ow:List Nat) (_hl:l.length=len) (hm:P.follows .mixedOrders=true) (hB:zv l n=true) (h:jt P l (l.take n) st fun aK=>dP P ow l (l.drop n) aK (Q .normal)) :
  VWp P M0 w0 N (.region id l.toArray true) Q st:=na n ow hm hB h
def IsL (x y:List AV) : Prop:=x=y
theorem lr {c:Code} {α:Type} (keep:List Nat) (F:α→List (Nat×AV)) (H:α→Hp) (Inv:α→Prop) (μ:α→Nat) (x0:α) (hI:Inv x0) {vals:List AV} (_hv:IsL (keep.map (lkp st.s)) vals) (h0:Le st ⟨F x0++keep.zip vals,H x0⟩)
  (round:∀ x,Inv x→∀ K:VS→Prop,(∀ aK y,Inv y→μ y < μ x→Le aK ⟨F y++keep.zip vals,H y⟩→K aK)→VWp P M0 w0 N c (k7 K Q) ⟨F x++keep.zip vals,H x⟩) : VWp P M0 w0 N (.loop c) Q st:=
 zt (fun x=>⟨F x++keep.zip vals,H x⟩) Inv μ x0 hI h0 round
theorem ef {c:Code} (keep:List Nat) (F:Nat→List (Nat×AV)) (H:Nat→Hp) (p:Nat→Bool) (n:Nat) {vals:List AV} (hv:IsL (keep.map (lkp st.s)) vals) (h0:Le st ⟨F 0++keep.zip vals,H 0⟩)
  (go:∀ k,k < n→Hid (∀ j,j < k→p j=false)→Hid (p k=false)→∀ K:VS→Prop,(∀ aK,Le aK ⟨F (k+1)++keep.zip vals,H (k+1)⟩→K aK)→VWp P M0 w0 N c (k7 K Q) ⟨F k++keep.zip vals,H k⟩)
  (hit:∀ k,k < n→Hid (∀ j,j < k→p j=false)→Hid (p k=true)→∀ K:VS→Prop,VWp P M0 w0 N c (k7 K Q) ⟨F k++keep.zip vals,H k⟩)
  (out:Hid (∀ j,j < n→p j=false)→∀ K:VS→Prop,VWp P M0 w0 N c (k7 K Q) ⟨F n++keep.zip vals,H n⟩) : VWp P M0 w0 N (.loop c) Q st:=by
 refine lr keep F H (fun k=>k≤n∧∀ j,j < k→p j=false) (fun k=>n - k) 0 ⟨Nat.zero_le _,fun j h=>by omega⟩ hv h0 ?_;rintro k ⟨hk,hb⟩ K hK;by_cases aq:k < n
 ·cases hp:p k
  ·refine go k aq (Lib.hid hb) (Lib.hid hp) K fun aK hle=>hK aK (k+1) ⟨aq,fun j hj=>?_⟩ (by omega) hle;by_cases he:j=k
   ·rw [he];exact hp
   ·exact hb j (by omega)
  ·exact hit k aq (Lib.hid hb) (Lib.hid hp) K
 ·obtain rfl:k=n:=by omega
  exact out (Lib.hid hb) K
end
section
variable {P:Program} {M0:Nat→Nat→Prop} {w0:Bas} {N:Nm} {st:VS} {Q:Exit→VS→Prop}
theorem k8 {c:Code} (keep:List Nat) (F:Nat→List (Nat×AV)) (H:Nat→Hp) (n:Nat) {vals:List AV} (hv:IsL (keep.map (lkp st.s)) vals) (h0:Le st ⟨F 0++keep.zip vals,H 0⟩)
  (go:∀ k,k < n→∀ K:VS→Prop,(∀ aK,Le aK ⟨F (k+1)++keep.zip vals,H (k+1)⟩→K aK)→VWp P M0 w0 N c (k7 K Q) ⟨F k++keep.zip vals,H k⟩)
  (out:∀ K:VS→Prop,VWp P M0 w0 N c (k7 K Q) ⟨F n++keep.zip vals,H n⟩) : VWp P M0 w0 N (.loop c) Q st:=
 ef keep F H (fun _=>false) n hv h0 (fun k hk _ _=>go k hk) (fun _ _ _ h=>by cases h.out) fun _=>out
end
end Go.Proofs.YtoibondihdhnoaaGreatDoor
