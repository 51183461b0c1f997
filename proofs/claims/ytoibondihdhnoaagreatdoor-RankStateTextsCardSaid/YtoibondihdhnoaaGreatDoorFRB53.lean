/- Texts in one: Walks: a state is read, as the reference has it: the cars that were taken. -/
import Derived.Test.YtoibondihdhnoaaGreatDoorFRB51
import Derived.Test.YtoibondihdhnoaaGreatDoorFRB52
namespace Go.Proofs.YtoibondihdhnoaaGreatDoor
open Go.RowKit Go.Shelf
set_option maxRecDepth 100000
set_option maxHeartbeats 2000000
def tkN (w:List ByteArray) : Tk:=⟨tat w 0,(b8v (a1t (tat w 1).data.toList)).1,(b8v (a1t (tat w 2).data.toList)).1⟩
def tkR (w:List ByteArray) : Tk×Bool:=
 if w.length≠3 then (⟨⟨#[]⟩,0,0⟩,false) else if tat w 0=⟨#[]⟩ then (⟨⟨#[]⟩,0,0⟩,false) else
 (tkN w,(b8v (a1t (tat w 1).data.toList)).2&&(b8v (a1t (tat w 2).data.toList)).2)
theorem c2r (l:List UInt8) : (b8v (a1t l)).2=l6_ l:=by
 rw [q0_]
 cases a1t l<;>rfl
theorem b4a (w:ByteArray) : (tkR (b2_ 58 w)).2 = !a3o w:=by
 unfold tkR a3o
 rw [c2r,c2r]
 by_cases h:(b2_ 58 w).length=3
 ·rw [if_neg (by simpa using h),decide_eq_true h]
  by_cases h0:tat (b2_ 58 w) 0=⟨#[]⟩
  ·rw [if_pos h0,decide_eq_true h0]
   simp
  ·rw [if_neg h0,decide_eq_false h0]
   simp
 ·rw [if_pos h,decide_eq_false h]
  simp
theorem c2s {w:ByteArray} (h:a3o w=false) : (tkR (b2_ 58 w)).1=tkW w:=by
 unfold a3o at h
 simp only [Bool.or_eq_false_iff,Bool.not_eq_false',decide_eq_false_iff_not,decide_eq_true_eq] at h
 obtain ⟨⟨⟨h1,h2⟩,h3⟩,h4⟩:=h
 unfold tkR tkW tkN
 rw [if_neg (by simpa using h1),if_neg h2]
 rw [q0_] at h3 h4
 cases e1:a1t (tat (b2_ 58 w) 1).data.toList with
 | none=>rw [e1] at h3;cases h3
 | some a=>
  cases e2:a1t (tat (b2_ 58 w) 2).data.toList with
  | none=>rw [e2] at h4;cases h4
  | some b=>
   rw [t3_ e1,t3_ e2]
   rfl
theorem a5r (s:ByteArray) (hs:s.size≤1000) : VC Tryz.prog 125 [S s] (.tup [.agg (Tk.av (tkR (b2_ 58 s)).1),B (tkR (b2_ 58 s)).2]):=by
 have g1:=a3f s 58 (by omega)
 have e58:((58:UInt8).toNat:Int)=58:=rfl
 rw [e58] at g1
 have hpl:=i5_ 58 s
 have hps:∀ p∈b2_ 58 s,p.size≤1000:=fun p hp=>Nat.le_trans (g2_ hp) hs
 obtain ⟨RR,hRR⟩ : ∃ RR,tkR (b2_ 58 s)=RR:=⟨_,rfl⟩
 rw [hRR]
 unfold tkR tkN at hRR
 generalize b2_ 58 s=w at *
 by_cases h3:w.length=3
 ·have h5:(w.length:Int)=3:=by omega
  rw [if_neg (by simpa using h3)] at hRR
  have a0:w[0]=tat w 0:=(b8_ (by omega)).symm
  have a1:w[1]=tat w 1:=(b8_ (by omega)).symm
  have a2:w[2]=tat w 2:=(b8_ (by omega)).symm
  have z1:(tat w 1).size≤1000:=by rw [←a1];exact hps _ (List.getElem_mem _)
  have z2:(tat w 2).size≤1000:=by rw [←a2];exact hps _ (List.getElem_mem _)
  have g4:=a3x (tat w 1) z1
  have g5:=a3x (tat w 2) z2
  by_cases h0:tat w 0=⟨#[]⟩
  ·rw [if_pos h0] at hRR
   subst hRR
   have h02:tat w 0=ByteArray.empty:=h0
   clear hps hpl z1 z2
   refine c0_ Tryz.func125 rfl (by kernel_rfl) (by kernel_rfl) rfl fun M0 w0=>?_
   simp only [Tryz.ntmps125,Tryz.results125,b4_]
   repeat' (first|(with_reducible first|apply a9_|apply a3_|apply b1_|apply c4_|apply a1_|refine a2_ [] ?_)|((with_reducible refine a7_ ?_ ?_);(focus (go_simp;done)))|((with_reducible refine a0_ fun X Y=>?_);go_simp;(first|(with_reducible refine ⟨_,g1,?_⟩)|skip);refine Y _ ?_;clear Y X))
   all_goals go_simp
  ·rw [if_neg h0] at hRR
   subst hRR
   have h02:¬tat w 0=ByteArray.empty:=h0
   clear hps hpl z1 z2
   generalize tat w 0=W0 at *
   generalize b8v (a1t (tat w 1).data.toList)=N1 at *
   generalize b8v (a1t (tat w 2).data.toList)=N2 at *
   obtain ⟨v1,o1⟩:=N1
   obtain ⟨v2,o2⟩:=N2
   simp only at g4 g5 ⊢
   cases o1
   ·refine c0_ Tryz.func125 rfl (by kernel_rfl) (by kernel_rfl) rfl fun M0 w0=>?_
    simp only [Tryz.ntmps125,Tryz.results125,b4_]
    repeat' (first|(with_reducible first|apply a9_|apply a3_|apply c4_|apply b0_|apply a1_|refine a2_ [] ?_)|((with_reducible refine a5_ ?_ ?_);(focus (go_simp;done)))|((with_reducible refine a0_ fun X Y=>?_);go_simp;(first|(with_reducible refine ⟨_,g1,?_⟩)|(with_reducible refine ⟨_,g4,?_⟩)|(with_reducible refine ⟨_,g5,?_⟩)|skip);refine Y _ ?_;clear Y X))
    all_goals go_simp
   ·refine c0_ Tryz.func125 rfl (by kernel_rfl) (by kernel_rfl) rfl fun M0 w0=>?_
    simp only [Tryz.ntmps125,Tryz.results125,b4_]
    repeat' (first|(with_reducible first|apply a9_|apply a3_|apply c4_|apply b0_|apply a1_|refine a2_ [] ?_)|((with_reducible refine a5_ ?_ ?_);(focus (go_simp;done)))|((with_reducible refine a0_ fun X Y=>?_);go_simp;(first|(with_reducible refine ⟨_,g1,?_⟩)|(with_reducible refine ⟨_,g4,?_⟩)|(with_reducible refine ⟨_,g5,?_⟩)|skip);refine Y _ ?_;clear Y X))
    all_goals go_simp
 ·have h5:¬(w.length:Int)=3:=by omega
  rw [if_pos h3] at hRR
  subst hRR
  clear hpl hps
  refine c0_ Tryz.func125 rfl (by kernel_rfl) (by kernel_rfl) rfl fun M0 w0=>?_
  simp only [Tryz.ntmps125,Tryz.results125,b4_]
  repeat' (first|(with_reducible first|apply a9_|apply a3_|apply b1_|apply c4_|apply a1_|refine a2_ [] ?_)|((with_reducible refine a7_ ?_ ?_);(focus (go_simp;done)))|((with_reducible refine a0_ fun X Y=>?_);go_simp;(first|(with_reducible refine ⟨_,g1,?_⟩)|skip);refine Y _ ?_;clear Y X))
  all_goals go_simp
end Go.Proofs.YtoibondihdhnoaaGreatDoor
