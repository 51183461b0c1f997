/- Texts in one: Chapter 4: which states are right; no condition. -/
import Derived.Test.YtoibondihdhnoaaGreatDoorFRF20
namespace Go.Proofs.YtoibondihdhnoaaGreatDoor
open Go.RowKit
theorem z4_ {α:Type} {l:List α} {k:Nat} (h:k < l.length) : l.take (k+1)=l.take k++[l[k]]:=by simp
def x2_ (r:Ru) (i:Nat) : Bool:=a4x (fun k=>decide ((rat r.ranks k).name=(rat r.ranks i).name)) 0 i
def t6_ (r:Ru) (i:Nat) : Bool:=a4x (fun k=>decide ((rat r.ranks k).feeder=(rat r.ranks i).feeder)) 0 i
def g9_ (r:Ru) (i:Nat) : Bool:=!decide ((rat r.ranks i).feeder = -1)
def rkE (r:Ru) (i:Nat) : Int:=
 fst [unl (e2_ (rat r.ranks i).name) 4,unl (!x2_ r i) 5,unl (inR (rat r.ranks i).places 1 12) 2,unl (!g9_ r i || inR (rat r.ranks i).feeder 0 ((r.ranks.length:Int) - 1)) 6,
  unl (!g9_ r i || decide ((i:Int) < (rat r.ranks i).feeder)) 9,unl (!g9_ r i || !t6_ r i) 26,unl (g9_ r i || !(rat r.ranks i).called) 3]
def c6k (r:Ru) : Int:=unl ((decide (r.back = -1) || inR r.back 0 12)&&inR r.ret 0 3600) 2
def e9_ (r:Ru) : Nat×Int:=
 if r.ranks.length=0 then (0,10) else if 6 < r.ranks.length then (0,8) else if (h3_ (rkE r) 0 r.ranks.length).2≠0 then h3_ (rkE r) 0 r.ranks.length else (0,c6k r)
theorem a1g {E:Nat→Int} : ∀ (n k:Nat),(h3_ E k n).2=0↔∀ j,k≤j→j < k+n→E j=0
 | 0,k=>⟨fun _ j h1 h2=>by omega,fun _=>rfl⟩
 | n+1,k=>by
  rw [h3_];by_cases h:E k=0
  ·rw [if_neg (by simp [h]),a1g n (k+1)];constructor
   ·intro hh j h1 h2;by_cases he:j=k
    ·rw [he];exact h
    ·exact hh j (by omega) (by omega)
   ·exact fun hh j h1 h2=>hh j (by omega) (by omega)
  ·rw [if_pos h];exact ⟨fun hh=>absurd hh h,fun hh=>absurd (hh k (Nat.le_refl k) (by omega)) h⟩
theorem a3t {r:Ru} (h:(e9_ r).2=0) : RuOK r∧(∀ k,k < r.ranks.length→e2_ (rat r.ranks k).name=true)∧∀ k,k < r.ranks.length→(rat r.ranks k).feeder≠-1→∀ j,j < k→(rat r.ranks j).feeder≠(rat r.ranks k).feeder:=by
 unfold e9_ at h;split at h
 ·simp at h
 ·rename_i h0;split at h
  ·simp at h
  ·rename_i h6;split at h
   ·rename_i hne;exact absurd h hne
   ·rename_i hz;have hz:(h3_ (rkE r) 0 r.ranks.length).2=0:=Classical.byContradiction hz;rw [a1g] at hz;simp only at h;unfold c6k at h;have he:=d4_ (by decide) h;simp only [Bool.and_eq_true,Bool.or_eq_true,decide_eq_true_eq,v7_] at he;have hk:∀ k,k < r.ranks.length→e2_ (rat r.ranks k).name=true∧(1≤(rat r.ranks k).places∧(rat r.ranks k).places≤12)∧((rat r.ranks k).feeder≠-1→((k:Int) < (rat r.ranks k).feeder∧(rat r.ranks k).feeder < r.ranks.length)∧t6_ r k=false):=fun k hk=>by
     have:=hz k (Nat.zero_le k) (by omega);unfold rkE at this;rw [b8_,b8_,b8_,b8_,b8_,b8_] at this;obtain ⟨a1,_,a3,a4,a5,a6,_⟩:=this;replace a1:=d4_ (by decide) a1
     replace a3:=d4_ (by decide) a3
     replace a4:=d4_ (by decide) a4
     replace a5:=d4_ (by decide) a5
     replace a6:=d4_ (by decide) a6
     rw [v7_] at a3;refine ⟨a1,a3,fun hf=>?_⟩;have hfb:g9_ r k=true:=by simp [g9_,hf]
     rw [hfb] at a4 a5 a6;simp only [Bool.not_true,Bool.false_or,v7_,decide_eq_true_eq,Bool.not_eq_true'] at a4 a5 a6;exact ⟨⟨a5,by omega⟩,a6⟩
    refine ⟨⟨by omega,by omega,fun k h=>(hk k h).2.1,fun k h hf=>((hk k h).2.2 hf).1,he.1,he.2⟩,fun k h=>(hk k h).1,fun k h hf j hj heq=>?_⟩;have:=((hk k h).2.2 hf).2;unfold t6_ a4x at this;rw [List.any_eq_false] at this;have:=this j (List.mem_range.2 hj);simp [heq] at this
end Go.Proofs.YtoibondihdhnoaaGreatDoor
