/- Texts in one: A row of the call's own that lies in a variable of the call's own becomes an ordinary slice there: of every program; no condition. -/
import Derived.Test.YtoibondihdhnoaaGreatDoorFRY5
namespace Go.Proofs.YtoibondihdhnoaaGreatDoor
open Go.RowKit
section
variable {P:Program} {M0:Nat→Nat→Prop} {w0:Bas} {N:Nm} {p:Pl} {st:VS} {a:Act} {w:World} {Q:Exit→VS→Prop}
theorem x8 {h:Hp} {b i:Nat} {cs dI:List AV} {ob:Ob} (hb:h[b]? = some (some (.box cs))) (hi:(h.set b (some (.box dI)))[i]? = some (some ob)) :
  (i=b∧ob = .box dI)∨(i≠b∧h[i]? = some (some ob)):=by
 by_cases ax:i=b
 ·subst ax;have hl:=(List.getElem?_eq_some_iff.1 hb).1;rw [List.getElem?_set_self hl] at hi;simp only [Option.some.injEq] at hi;exact .inl ⟨rfl,hi.symm⟩
 ·rw [List.getElem?_set_ne (fun h=>ax h.symm)] at hi;exact .inr ⟨ax,hi⟩
theorem Rel.rebox (R:Rel M0 w0 N p st a w) {b:Nat} {cs dI:List AV} (hb:st.h[b]? = some (some (.box cs))) (hl:dI.length=cs.length) (h1:∀ c∈dI,cQ c=true)
  (hv:∀ (j:Nat) (c:AV) (cur:Array Value) (e:TypeId) (u:Value),dI[j]? = some c→w.heap[p b]? = some (.cells cur e (0,0))→cur[j]? = some u→V1 w (Mof M0 st.h p) st.h p c u) : Rel M0 w0 N p ⟨st.s,st.h.set b (some (.box dI))⟩ a w:=by
 refine (R.reheap _ (by simp) (fun i ob hi jv=>?_) (fun i e sz nl es _ he=>?_) (fun i e sz nl pe qs _ he=>?_) fun i ob hi ax keep=>?_).1
 ·rcases x8 hb hi with ⟨rfl,rfl⟩|⟨_,h2⟩
  ·exact ⟨_,hb,rfl⟩
  ·exact ⟨_,h2,jv⟩
 ·rcases x8 hb he with ⟨_,h2⟩|⟨_,h2⟩
  ·cases h2
  ·exact h2
 ·rcases x8 hb he with ⟨_,h2⟩|⟨_,h2⟩
  ·cases h2
  ·exact h2
 ·rcases x8 hb hi with ⟨rfl,rfl⟩|⟨_,h2⟩
  ·obtain ⟨g1,cur,e,g2,g3,g4,g5⟩:=R.objs i _ hb;refine ⟨g1,cur,e,g2,by rw [hl];exact g3,h1,fun j c hj=>?_⟩;have bB:j < cur.size:=by rw [g3,←hl];exact (List.getElem?_eq_some_iff.1 hj).1
   exact ⟨_,Array.getElem?_eq_getElem bB,keep (hv j c cur e _ hj g2 (Array.getElem?_eq_getElem bB))⟩
  ·exact absurd h2 ax
theorem Rel.freezeIn (R:Rel M0 w0 N p st a w) {b j id e sz:Nat} {nl:Bool} {es:List (List AV)} {cs:List AV} (hb:st.h[b]? = some (some (.box cs))) (hj:cs[j]? = some (.osl id)) (hi:st.h[id]? = some (some (.arr e sz nl es))) :
  Rel M0 w0 N p ⟨st.s,(st.h.set id none).set b (some (.box (cs.set j (.sl sz es))))⟩ a w:=by
 obtain ⟨g1,cur,e',g2,g3,g4,g5⟩:=R.objs b _ hb;obtain ⟨u,hu,hv⟩:=g5 j _ hj;have ax:b≠id:=by
  rintro rfl;rw [hb] at hi;cases hi
 have R2:Rel M0 w0 (n0 (N.n+1)) p ⟨[(0,.osl id)],st.h⟩ { tmps:=Array.replicate (N.n+1) u,defers:=[] } w:=by
  refine ⟨rfl,⟨by simp [n0],fun i hi=>absurd hi (Nat.not_lt_zero i)⟩,R.below,R.m0,R.x0,fun i=>?_,R.objs,R.inj⟩;simp only [lkp];by_cases h0:0=i
  ·subst h0;rw [if_pos rfl];simpa using hv
  ·rw [if_neg h0];exact .base _ _ (.any _)
 have F:=R2.freeze (t:=0) (id:=id) (by simp [lkp]) hi;have cR:V1 w (Mof M0 (st.h.set id none) p) (st.h.set id none) p (.sl sz es) u:=by
  have:=F.slots 0;simpa [lkp] using this
 have D:=R.drop id;have fC:(st.h.set id none)[b]? = some (some (.box cs)):=by
  rw [List.getElem?_set_ne (fun h=>ax h.symm)];exact hb
 refine D.rebox fC (by simp) (fun c hc=>?_) fun k c cur' J0 u' hk bK lT=>?_
 ·rcases List.mem_or_eq_of_mem_set hc with hc|rfl
  ·exact g4 c hc
  ·rfl
 ·obtain ⟨_,c2,e2,k2,_,_,k5⟩:=D.objs b _ fC;have cG:c2=cur':=by
   rw [bK] at k2;injection k2 with k2
   injection k2 with k2
   exact k2.symm
  subst cG;have cG:c2=cur:=by
   rw [g2] at bK;injection bK with bK
   injection bK with bK
   exact bK.symm
  subst cG;by_cases kE:k=j
  ·subst kE;rw [List.getElem?_set_self (List.getElem?_eq_some_iff.1 hj).1] at hk;simp only [Option.some.injEq] at hk;subst hk;rw [hu] at lT;simp only [Option.some.injEq] at lT;subst lT;exact cR
  ·rw [List.getElem?_set_ne (fun h=>kE h.symm)] at hk;obtain ⟨u3,Bn,J1⟩:=k5 k c hk;rw [lT] at Bn;simp only [Option.some.injEq] at Bn;subst Bn;exact J1
theorem gN {c:Code} (b j id:Nat) {e sz:Nat} {nl:Bool} {es:List (List AV)} {cs:List AV} (hb:st.h[b]? = some (some (.box cs))) (hj:cs[j]? = some (.osl id)) (hi:st.h[id]? = some (some (.arr e sz nl es)))
  (h:VWp P M0 w0 N c Q ⟨st.s,(st.h.set id none).set b (some (.box (cs.set j (.sl sz es))))⟩) : VWp P M0 w0 N c Q st:=
 fun hB p a w R=>h hB p a w (R.freezeIn hb hj hi)
end
end Go.Proofs.YtoibondihdhnoaaGreatDoor
