/- Texts in one: Chapter 4: which states are right; no condition. -/
import Derived.Test.YtoibondihdhnoaaDoorFRX23
namespace Go.Proofs.YtoibondihdhnoaaDoor
open Go.RowKit
def inL (c:ByteArray) (l:List ByteArray) : Bool:=decide (0 < cnt c l)
theorem z1_ {c:ByteArray} {l:List ByteArray} : inL c l=true↔c∈l:=by
 unfold inL;rw [decide_eq_true_eq,e9_]
def a6v (c:ByteArray) (seen:List ByteArray) : Int:=fst [unl (c8_ c) 4,unl (!inL c seen) 5]
def b6j (E:Nat→Int) (n:Nat) : Int:=fst ((List.range n).map E)
def u2_ (seen l:List ByteArray) (j:Nat) : Int:=a6v (tat l j) (seen++l.take j)
def n3_ (r:Ru) (s:St) (k:Nat) : Int:=if ((qat s.q k).length:Int) > (rat r.ranks k).places then 8 else b6j (u2_ (s.q.take k).flatten (qat s.q k)) (qat s.q k).length
def v5_ (r:Ru) (s:St) (k:Nat) : Int:=
 fst [a6v (d8_ s.tk k).car (s.q.flatten++(s.tk.take k).map (·.car)),unl (inR (d8_ s.tk k).rank 0 ((r.ranks.length:Int) - 1)) 6,unl (inR (d8_ s.tk k).time 0 s.time) 2,unl (decide (k=0) || decide ((d8_ s.tk (k - 1)).time≤(d8_ s.tk k).time)) 9]
def n4_ (r:Ru) (s:St) : Int:=
 fst [unl (decide (s.q.length=r.ranks.length)) 10,b6j (n3_ r s) s.q.length,unl (decide ((s.tk.length:Int)≤40)) 8,b6j (v5_ r s) s.tk.length,unl (inR s.time 0 604800) 2,unl (decide (f9_ r s < 0)) 22]
theorem w9_ {c:Bool} {e:Int} (he:e≠0) : unl c e=0↔c=true:=⟨c7_ he,fun h=>by rw [h];rfl⟩
theorem a0p {E:Nat→Int} {n:Nat} : b6j E n=0↔∀ k,k < n→E k=0:=by
 have h:∀ l:List Int,fst l=0↔∀ x∈l,x=0:=fun l=>by
  induction l with
  | nil=>simp [fst]
  | cons x l ih=>rw [b2_,ih];simp
 unfold b6j;rw [h];simp
theorem a0q {c:ByteArray} {seen:List ByteArray} : a6v c seen=0↔c8_ c=true∧c∉seen:=by
 unfold a6v;rw [b2_,b2_,w9_ (by decide),w9_ (by decide),Bool.not_eq_true',←Bool.not_eq_true,z1_];simp [fst]
theorem b9n {l:List ByteArray} {c:ByteArray} : Once (l++[c])↔Once l∧c∉l:=by
 constructor
 ·refine fun h=>⟨h.left,fun hm=>?_⟩
  have:=h c;rw [h1_,e4_,if_pos rfl] at this;have:=e9_.2 hm;omega
 ·rintro ⟨h1,h2⟩ d;rw [h1_,e4_,j0_];have:=h1 d;by_cases he:c=d
  ·subst he;have:cnt c l=0:=Nat.eq_zero_of_not_pos fun hp=>h2 (e9_.1 hp);rw [if_pos rfl];omega
  ·rw [if_neg he];omega
theorem l0_ {α:Type} {l:List α} {k:Nat} (h:k < l.length) : l.take (k+1)=l.take k++[l[k]]:=by simp
theorem a2d {seen:List ByteArray} (hs:Once seen) (l:List ByteArray) : (∀ j,j < l.length→tat l j∉seen++l.take j)↔Once (seen++l):=by
 have h:∀ n,n≤l.length→((∀ j,j < n→tat l j∉seen++l.take j)↔Once (seen++l.take n)):=fun n=>by
  induction n with
  | zero=>intro _;simpa using hs
  | succ n ih=>
   intro hn;have hl:n < l.length:=by omega
   rw [l0_ hl,←List.append_assoc,b9n,←ih (by omega),←e7_ hl];constructor
   ·exact fun h=>⟨fun j hj=>h j (by omega),h n (by omega)⟩
   ·rintro ⟨h1,h2⟩ j hj;by_cases he:j=n
    ·rw [he];exact h2
    ·exact h1 j (by omega)
 have:=h l.length (Nat.le_refl _);rwa [List.take_length] at this
theorem a2e {q:List (List ByteArray)} {k:Nat} (h:k < q.length) : (q.take (k+1)).flatten=(q.take k).flatten++qat q k:=by
 rw [l0_ h,List.flatten_append,f3_ h];simp
theorem a6w (q:List (List ByteArray)) : (∀ k,k < q.length→∀ j,j < (qat q k).length→tat (qat q k) j∉(q.take k).flatten++(qat q k).take j)↔Once q.flatten:=by
 have h:∀ n,n≤q.length→((∀ k,k < n→∀ j,j < (qat q k).length→tat (qat q k) j∉(q.take k).flatten++(qat q k).take j)↔Once (q.take n).flatten):=fun n=>by
  induction n with
  | zero=>
   intro _;refine ⟨fun _ c=>?_,fun _ k hk=>by omega⟩;simp [j0_]
  | succ n ih=>
   intro hn;have hl:n < q.length:=by omega
   rw [a2e hl];constructor
   ·intro h;exact (a2d ((ih (by omega)).1 fun k hk=>h k (by omega)) _).1 (h n (by omega))
   ·intro h k hk;by_cases he:k=n
    ·rw [he];exact (a2d h.left _).2 h
    ·exact (ih (by omega)).2 h.left k (by omega)
 have:=h q.length (Nat.le_refl _);rwa [List.take_length] at this
theorem b9o {q:List (List ByteArray)} {c:ByteArray} : c∈q.flatten↔∃ k,k < q.length∧∃ j,j < (qat q k).length∧tat (qat q k) j=c:=by
 rw [List.mem_flatten];constructor
 ·rintro ⟨l,hl,hc⟩;obtain ⟨k,hk,rfl⟩:=List.getElem_of_mem hl;obtain ⟨j,hj,rfl⟩:=List.getElem_of_mem hc;exact ⟨k,hk,j,by rw [f3_ hk];exact hj,by rw [f3_ hk,e7_ hj]⟩
 ·rintro ⟨k,hk,j,hj,rfl⟩;refine ⟨qat q k,by rw [f3_ hk];exact List.getElem_mem hk,?_⟩;rw [e7_ hj];exact List.getElem_mem hj
theorem b9p (l:List Tk) (k:Nat) (h:k < l.length) : tat (l.map (·.car)) k=(d8_ l k).car:=by
 rw [e7_ (by simpa using h),f5_ h];simp
theorem b9q (l:List Tk) : (∀ k,k < l.length→k=0∨(d8_ l (k - 1)).time≤(d8_ l k).time)↔l.Pairwise fun a b=>a.time≤b.time:=by
 constructor
 ·intro h;have h2:∀ n j,j+n < l.length→(d8_ l j).time≤(d8_ l (j+n)).time:=fun n=>by
   induction n with
   | zero=>intro j _;exact Int.le_refl _
   | succ n ih=>
    intro j hj;have h1:=ih j (by omega);have h3:=(h (j+(n+1)) hj).resolve_left (by omega);rw [show j+(n+1) - 1=j+n by omega] at h3;omega
  rw [List.pairwise_iff_getElem];intro i j hi hj hij;have:=h2 (j - i) i (by omega);rw [show i+(j - i)=j by omega,f5_ hi,f5_ hj] at this;exact this
 ·intro h k hk;by_cases h0:k=0
  ·exact .inl h0
  ·refine .inr ?_;rw [f5_ hk,f5_ (by omega)];exact List.pairwise_iff_getElem.1 h (k - 1) k (by omega) hk (by omega)
theorem b6k {r:Ru} {s:St} : n4_ r s=0↔Inv r s∧f9_ r s < 0:=by
 unfold n4_;rw [b2_,b2_,b2_,b2_,b2_,b2_,w9_ (by decide),w9_ (by decide),w9_ (by decide),w9_ (by decide),a0p,a0p,decide_eq_true_eq,decide_eq_true_eq,decide_eq_true_eq,m0_];have hq:∀ k,n3_ r s k=0↔((qat s.q k).length:Int)≤(rat r.ranks k).places∧∀ j,j < (qat s.q k).length→c8_ (tat (qat s.q k) j)=true∧tat (qat s.q k) j∉(s.q.take k).flatten++(qat s.q k).take j:=fun k=>by
  unfold n3_;split
  ·exact ⟨fun h=>by simp at h,fun h=>by omega⟩
  ·rw [a0p];constructor
   ·exact fun h=>⟨by omega,fun j hj=>a0q.1 (h j hj)⟩
   ·exact fun h j hj=>a0q.2 (h.2 j hj)
 have ht:∀ k,v5_ r s k=0↔(c8_ (d8_ s.tk k).car=true∧(d8_ s.tk k).car∉s.q.flatten++(s.tk.take k).map (·.car))∧(0≤(d8_ s.tk k).rank∧(d8_ s.tk k).rank≤(r.ranks.length:Int) - 1)∧(0≤(d8_ s.tk k).time∧(d8_ s.tk k).time≤s.time)∧(k=0∨(d8_ s.tk (k - 1)).time≤(d8_ s.tk k).time):=fun k=>by
  unfold v5_;rw [b2_,b2_,b2_,b2_,a0q,w9_ (by decide),w9_ (by decide),w9_ (by decide),m0_,m0_];simp [fst]
 have htm:∀ (Q:Tk→Prop),(∀ t∈s.tk,Q t)↔∀ k,k < s.tk.length→Q (d8_ s.tk k):=fun Q=>by
  constructor
  ·exact fun h k hk=>h _ (by rw [f5_ hk];exact List.getElem_mem hk)
  ·intro h t ht';obtain ⟨k,hk,rfl⟩:=List.getElem_of_mem ht';rw [←f5_ hk];exact h k hk
 constructor
 ·rintro ⟨h1,h2,h3,h4,h5,h6,_⟩;replace h2:=fun k hk=>(hq k).1 (h2 k hk)
  replace h4:=fun k hk=>(ht k).1 (h4 k hk)
  have ho:=(a6w s.q).1 fun k hk j hj=>((h2 k hk).2 j hj).2;refine ⟨⟨h1,?_,?_,fun k hk=>(h2 k hk).1,by omega,(htm _).2 fun k hk=>?_,(htm _).2 fun k hk=>(h4 k hk).2.2.1,(b9q _).1 fun k hk=>(h4 k hk).2.2.2,h5⟩,h6⟩
  ·unfold a2w;refine (a2d ho _).1 fun j hj=>?_;rw [List.length_map] at hj;rw [b9p _ _ hj,←List.map_take];exact (h4 j hj).1.2
  ·intro c hc;rcases List.mem_append.1 hc with hc|hc
   ·obtain ⟨k,hk,j,hj,rfl⟩:=b9o.1 hc;exact ((h2 k hk).2 j hj).1
   ·obtain ⟨t,htt,rfl⟩:=List.mem_map.1 hc;exact (htm fun t=>c8_ t.car=true).2 (fun k hk=>(h4 k hk).1.1) t htt
  ·have:=(h4 k hk).2.1;omega
 ·rintro ⟨h,hn⟩;refine ⟨h.len,fun k hk=>(hq k).2 ⟨h.fit k hk,fun j hj=>⟨?_,?_⟩⟩,by have:=h.tkl;omega,fun k hk=>(ht k).2 ⟨⟨?_,?_⟩,?_,?_,?_⟩,h.t0,hn,rfl⟩
  ·exact h.name _ (List.mem_append_left _ (b9o.2 ⟨k,hk,j,hj,rfl⟩))
  ·exact (a6w s.q).2 h.once.q k hk j hj
  ·refine h.name _ (List.mem_append_right _ ?_);rw [f5_ hk];exact List.mem_map_of_mem (List.getElem_mem hk)
  ·have:=(a2d h.once.q (s.tk.map (·.car))).2 (show Once (s.q.flatten++s.tk.map (·.car)) from h.once) k (by simpa using hk);rwa [b9p _ _ hk,←List.map_take] at this
  ·have:=(htm _).1 h.tkr k hk;omega
  ·exact (htm _).1 h.tkt k hk
  ·exact (b9q _).2 h.ord k hk
def z2_ (r:Ru) (i:Nat) : Bool:=a5w (fun k=>decide ((rat r.ranks k).name=(rat r.ranks i).name)) 0 i
def v6_ (r:Ru) (i:Nat) : Bool:=a5w (fun k=>decide ((rat r.ranks k).feeder=(rat r.ranks i).feeder)) 0 i
def i7_ (r:Ru) (i:Nat) : Bool:=!decide ((rat r.ranks i).feeder = -1)
def rkE (r:Ru) (i:Nat) : Int:=
 fst [unl (c8_ (rat r.ranks i).name) 4,unl (!z2_ r i) 5,unl (inR (rat r.ranks i).places 1 12) 2,unl (!i7_ r i || inR (rat r.ranks i).feeder 0 ((r.ranks.length:Int) - 1)) 6,
  unl (!i7_ r i || decide ((i:Int) < (rat r.ranks i).feeder)) 9,unl (!i7_ r i || !v6_ r i) 26,unl (i7_ r i || !(rat r.ranks i).called) 3]
def c7p (r:Ru) : Int:=unl ((decide (r.back = -1) || inR r.back 0 12)&&inR r.ret 0 3600) 2
def d6_ (r:Ru) : Nat×Int:=
 if r.ranks.length=0 then (0,10) else if 6 < r.ranks.length then (0,8) else if (i9_ (rkE r) 0 r.ranks.length).2≠0 then i9_ (rkE r) 0 r.ranks.length else (0,c7p r)
theorem a2f {E:Nat→Int} : ∀ (n k:Nat),(i9_ E k n).2=0↔∀ j,k≤j→j < k+n→E j=0
 | 0,k=>⟨fun _ j h1 h2=>by omega,fun _=>rfl⟩
 | n+1,k=>by
  rw [i9_];by_cases h:E k=0
  ·rw [if_neg (by simp [h]),a2f n (k+1)];constructor
   ·intro hh j h1 h2;by_cases he:j=k
    ·rw [he];exact h
    ·exact hh j (by omega) (by omega)
   ·exact fun hh j h1 h2=>hh j (by omega) (by omega)
  ·rw [if_pos h];exact ⟨fun hh=>absurd hh h,fun hh=>absurd (hh k (Nat.le_refl k) (by omega)) h⟩
theorem a2g {r:Ru} (h:(d6_ r).2=0) : RuOK r∧(∀ k,k < r.ranks.length→c8_ (rat r.ranks k).name=true)∧∀ k,k < r.ranks.length→(rat r.ranks k).feeder≠-1→∀ j,j < k→(rat r.ranks j).feeder≠(rat r.ranks k).feeder:=by
 unfold d6_ at h;split at h
 ·simp at h
 ·rename_i h0;split at h
  ·simp at h
  ·rename_i h6;split at h
   ·rename_i hne;exact absurd h hne
   ·rename_i hz;have hz:(i9_ (rkE r) 0 r.ranks.length).2=0:=Classical.byContradiction hz;rw [a2f] at hz;simp only at h;unfold c7p at h;have he:=c7_ (by decide) h;simp only [Bool.and_eq_true,Bool.or_eq_true,decide_eq_true_eq,m0_] at he;have hk:∀ k,k < r.ranks.length→c8_ (rat r.ranks k).name=true∧(1≤(rat r.ranks k).places∧(rat r.ranks k).places≤12)∧((rat r.ranks k).feeder≠-1→((k:Int) < (rat r.ranks k).feeder∧(rat r.ranks k).feeder < r.ranks.length)∧v6_ r k=false):=fun k hk=>by
     have:=hz k (Nat.zero_le k) (by omega);unfold rkE at this;rw [b2_,b2_,b2_,b2_,b2_,b2_] at this;obtain ⟨a1,_,a3,a4,a5,a6,_⟩:=this;replace a1:=c7_ (by decide) a1
     replace a3:=c7_ (by decide) a3
     replace a4:=c7_ (by decide) a4
     replace a5:=c7_ (by decide) a5
     replace a6:=c7_ (by decide) a6
     rw [m0_] at a3;refine ⟨a1,a3,fun hf=>?_⟩;have hfb:i7_ r k=true:=by simp [i7_,hf]
     rw [hfb] at a4 a5 a6;simp only [Bool.not_true,Bool.false_or,m0_,decide_eq_true_eq,Bool.not_eq_true'] at a4 a5 a6;exact ⟨⟨a5,by omega⟩,a6⟩
    refine ⟨⟨by omega,by omega,fun k h=>(hk k h).2.1,fun k h hf=>((hk k h).2.2 hf).1,he.1,he.2⟩,fun k h=>(hk k h).1,fun k h hf j hj heq=>?_⟩;have:=((hk k h).2.2 hf).2;unfold v6_ a5w at this;rw [List.any_eq_false] at this;have:=this j (List.mem_range.2 hj);simp [heq] at this
end Go.Proofs.YtoibondihdhnoaaDoor
