/- Texts in one: Chapter 4: which states are right; no condition. -/
import Derived.Test.YtoibondihdhnoaaGreatDoorFRC20
namespace Go.Proofs.YtoibondihdhnoaaGreatDoor
open Go.RowKit
theorem a1b {α:Type} {l:List α} {k:Nat} (h:k < l.length) : l.take (k+1)=l.take k++[l[k]]:=by simp
def w9_ (r:Ru) (i:Nat) : Bool:=a4z (fun k=>decide ((rat r.ranks k).name=(rat r.ranks i).name)) 0 i
def t2_ (r:Ru) (i:Nat) : Bool:=a4z (fun k=>decide ((rat r.ranks k).feeder=(rat r.ranks i).feeder)) 0 i
def h1_ (r:Ru) (i:Nat) : Bool:=!decide ((rat r.ranks i).feeder = -1)
def rkE (r:Ru) (i:Nat) : Int:=
 fst [unl (e2_ (rat r.ranks i).name) 4,unl (!w9_ r i) 5,unl (inR (rat r.ranks i).places 1 12) 2,unl (!h1_ r i || inR (rat r.ranks i).feeder 0 ((r.ranks.length:Int) - 1)) 6,
  unl (!h1_ r i || decide ((i:Int) < (rat r.ranks i).feeder)) 9,unl (!h1_ r i || !t2_ r i) 26,unl (h1_ r i || !(rat r.ranks i).called) 3]
def c5m (r:Ru) : Int:=unl ((decide (r.back = -1) || inR r.back 0 12)&&inR r.ret 0 3600) 2
def f2_ (r:Ru) : Nat×Int:=
 if r.ranks.length=0 then (0,10) else if 6 < r.ranks.length then (0,8) else if (h4_ (rkE r) 0 r.ranks.length).2≠0 then h4_ (rkE r) 0 r.ranks.length else (0,c5m r)
theorem a1c {E:Nat→Int} : ∀ (n k:Nat),(h4_ E k n).2=0↔∀ j,k≤j→j < k+n→E j=0
 | 0,k=>⟨fun _ j h1 h2=>by omega,fun _=>rfl⟩
 | n+1,k=>by
  rw [h4_];by_cases h:E k=0
  ·rw [if_neg (by simp [h]),a1c n (k+1)];constructor
   ·intro hh j h1 h2;by_cases he:j=k
    ·rw [he];exact h
    ·exact hh j (by omega) (by omega)
   ·exact fun hh j h1 h2=>hh j (by omega) (by omega)
  ·rw [if_pos h];exact ⟨fun hh=>absurd hh h,fun hh=>absurd (hh k (Nat.le_refl k) (by omega)) h⟩
theorem a3n {r:Ru} (h:(f2_ r).2=0) : RuOK r∧(∀ k,k < r.ranks.length→e2_ (rat r.ranks k).name=true)∧∀ k,k < r.ranks.length→(rat r.ranks k).feeder≠-1→∀ j,j < k→(rat r.ranks j).feeder≠(rat r.ranks k).feeder:=by
 unfold f2_ at h;split at h
 ·simp at h
 ·rename_i h0;split at h
  ·simp at h
  ·rename_i h6;split at h
   ·rename_i hne;exact absurd h hne
   ·rename_i hz;have hz:(h4_ (rkE r) 0 r.ranks.length).2=0:=Classical.byContradiction hz;rw [a1c] at hz;simp only at h;unfold c5m at h;have he:=d4_ (by decide) h;simp only [Bool.and_eq_true,Bool.or_eq_true,decide_eq_true_eq,v4_] at he;have hk:∀ k,k < r.ranks.length→e2_ (rat r.ranks k).name=true∧(1≤(rat r.ranks k).places∧(rat r.ranks k).places≤12)∧((rat r.ranks k).feeder≠-1→((k:Int) < (rat r.ranks k).feeder∧(rat r.ranks k).feeder < r.ranks.length)∧t2_ r k=false):=fun k hk=>by
     have:=hz k (Nat.zero_le k) (by omega);unfold rkE at this;rw [b8_,b8_,b8_,b8_,b8_,b8_] at this;obtain ⟨a1,_,a3,a4,a5,a6,_⟩:=this;replace a1:=d4_ (by decide) a1
     replace a3:=d4_ (by decide) a3
     replace a4:=d4_ (by decide) a4
     replace a5:=d4_ (by decide) a5
     replace a6:=d4_ (by decide) a6
     rw [v4_] at a3;refine ⟨a1,a3,fun hf=>?_⟩;have hfb:h1_ r k=true:=by simp [h1_,hf]
     rw [hfb] at a4 a5 a6;simp only [Bool.not_true,Bool.false_or,v4_,decide_eq_true_eq,Bool.not_eq_true'] at a4 a5 a6;exact ⟨⟨a5,by omega⟩,a6⟩
    refine ⟨⟨by omega,by omega,fun k h=>(hk k h).2.1,fun k h hf=>((hk k h).2.2 hf).1,he.1,he.2⟩,fun k h=>(hk k h).1,fun k h hf j hj heq=>?_⟩;have:=((hk k h).2.2 hf).2;unfold t2_ a4z at this;rw [List.any_eq_false] at this;have:=this j (List.mem_range.2 hj);simp [heq] at this
end Go.Proofs.YtoibondihdhnoaaGreatDoor
