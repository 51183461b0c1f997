/- Texts in one: Chapter 4: which states are right; no condition. -/
import Derived.Test.YtoibondihdhnoaaGreatDoorFRZ20
namespace Go.Proofs.YtoibondihdhnoaaGreatDoor
open Go.RowKit
def inL (c:ByteArray) (l:List ByteArray) : Bool:=decide (0 < cnt c l)
theorem ql {c:ByteArray} {l:List ByteArray} : inL c l=true↔c∈l:=by
 unfold inL;rw [decide_eq_true_eq,jQ]
def iA (c:ByteArray) (seen:List ByteArray) : Int:=fst [unl (bP c) 4,unl (!inL c seen) 5]
def lD (E:Nat→Int) (n:Nat) : Int:=fst ((List.range n).map E)
def h_ (seen l:List ByteArray) (j:Nat) : Int:=iA (tat l j) (seen++l.take j)
def iB (r:Ru) (s:St) (k:Nat) : Int:=if ((qat s.q k).length:Int) > (rat r.ranks k).places then 8 else lD (h_ (s.q.take k).flatten (qat s.q k)) (qat s.q k).length
def iC (r:Ru) (s:St) (k:Nat) : Int:=
 fst [iA (aH s.tk k).car (s.q.flatten++(s.tk.take k).map (·.car)),unl (inR (aH s.tk k).rank 0 ((r.ranks.length:Int) - 1)) 6,unl (inR (aH s.tk k).time 0 s.time) 2,unl (decide (k=0) || decide ((aH s.tk (k - 1)).time≤(aH s.tk k).time)) 9]
def ia (r:Ru) (s:St) : Int:=
 fst [unl (decide (s.q.length=r.ranks.length)) 10,lD (iB r s) s.q.length,unl (decide ((s.tk.length:Int)≤40)) 8,lD (iC r s) s.tk.length,unl (inR s.time 0 604800) 2,unl (decide (dI r s < 0)) 22]
theorem oT {c:Bool} {e:Int} (he:e≠0) : unl c e=0↔c=true:=⟨ew he,fun h=>by rw [h];rfl⟩
theorem tv {E:Nat→Int} {n:Nat} : lD E n=0↔∀ k,k < n→E k=0:=by
 have h:∀ l:List Int,fst l=0↔∀ x∈l,x=0:=fun l=>by
  induction l with
  | nil=>simp [fst]
  | cons x l ih=>rw [bU,ih];simp
 unfold lD;rw [h];simp
theorem tw {c:ByteArray} {seen:List ByteArray} : iA c seen=0↔bP c=true∧c∉seen:=by
 unfold iA;rw [bU,bU,oT (by decide),oT (by decide),Bool.not_eq_true',←Bool.not_eq_true,ql];simp [fst]
theorem KY {l:List ByteArray} {c:ByteArray} : Once (l++[c])↔Once l∧c∉l:=by
 constructor
 ·refine fun h=>⟨h.left,fun hm=>?_⟩
  have:=h c;rw [gp,ff,if_pos rfl] at this;have:=jQ.2 hm;omega
 ·rintro ⟨h1,h2⟩ d;rw [gp,ff,ja];have:=h1 d;by_cases he:c=d
  ·subst he;have:cnt c l=0:=Nat.eq_zero_of_not_pos fun hp=>h2 (jQ.1 hp);rw [if_pos rfl];omega
  ·rw [if_neg he];omega
theorem nX {α:Type} {l:List α} {k:Nat} (h:k < l.length) : l.take (k+1)=l.take k++[l[k]]:=by simp
theorem yq {seen:List ByteArray} (hs:Once seen) (l:List ByteArray) : (∀ j,j < l.length→tat l j∉seen++l.take j)↔Once (seen++l):=by
 have h:∀ n,n≤l.length→((∀ j,j < n→tat l j∉seen++l.take j)↔Once (seen++l.take n)):=fun n=>by
  induction n with
  | zero=>intro _;simpa using hs
  | succ n ih=>
   intro hn;have hl:n < l.length:=by omega
   rw [nX hl,←List.append_assoc,KY,←ih (by omega),←bc hl];constructor
   ·exact fun h=>⟨fun j hj=>h j (by omega),h n (by omega)⟩
   ·rintro ⟨h1,h2⟩ j hj;by_cases he:j=n
    ·rw [he];exact h2
    ·exact h1 j (by omega)
 have:=h l.length (Nat.le_refl _);rwa [List.take_length] at this
theorem yu {q:List (List ByteArray)} {k:Nat} (h:k < q.length) : (q.take (k+1)).flatten=(q.take k).flatten++qat q k:=by
 rw [nX h,List.flatten_append,fo h];simp
theorem EY (q:List (List ByteArray)) : (∀ k,k < q.length→∀ j,j < (qat q k).length→tat (qat q k) j∉(q.take k).flatten++(qat q k).take j)↔Once q.flatten:=by
 have h:∀ n,n≤q.length→((∀ k,k < n→∀ j,j < (qat q k).length→tat (qat q k) j∉(q.take k).flatten++(qat q k).take j)↔Once (q.take n).flatten):=fun n=>by
  induction n with
  | zero=>
   intro _;refine ⟨fun _ c=>?_,fun _ k hk=>by omega⟩;simp [ja]
  | succ n ih=>
   intro hn;have hl:n < q.length:=by omega
   rw [yu hl];constructor
   ·intro h;exact (yq ((ih (by omega)).1 fun k hk=>h k (by omega)) _).1 (h n (by omega))
   ·intro h k hk;by_cases he:k=n
    ·rw [he];exact (yq h.left _).2 h
    ·exact (ih (by omega)).2 h.left k (by omega)
 have:=h q.length (Nat.le_refl _);rwa [List.take_length] at this
theorem EZ {q:List (List ByteArray)} {c:ByteArray} : c∈q.flatten↔∃ k,k < q.length∧∃ j,j < (qat q k).length∧tat (qat q k) j=c:=by
 rw [List.mem_flatten];constructor
 ·rintro ⟨l,hl,hc⟩;obtain ⟨k,hk,rfl⟩:=List.getElem_of_mem hl;obtain ⟨j,hj,rfl⟩:=List.getElem_of_mem hc;exact ⟨k,hk,j,by rw [fo hk];exact hj,by rw [fo hk,bc hj]⟩
 ·rintro ⟨k,hk,j,hj,rfl⟩;refine ⟨qat q k,by rw [fo hk];exact List.getElem_mem hk,?_⟩;rw [bc hj];exact List.getElem_mem hj
theorem E0 (l:List Tk) (k:Nat) (h:k < l.length) : tat (l.map (·.car)) k=(aH l k).car:=by
 rw [bc (by simpa using h),fe h];simp
theorem E5 (l:List Tk) : (∀ k,k < l.length→k=0∨(aH l (k - 1)).time≤(aH l k).time)↔l.Pairwise fun a b=>a.time≤b.time:=by
 constructor
 ·intro h;have h2:∀ n j,j+n < l.length→(aH l j).time≤(aH l (j+n)).time:=fun n=>by
   induction n with
   | zero=>intro j _;exact Int.le_refl _
   | succ n ih=>
    intro j hj;have h1:=ih j (by omega);have h3:=(h (j+(n+1)) hj).resolve_left (by omega);rw [show j+(n+1) - 1=j+n by omega] at h3;omega
  rw [List.pairwise_iff_getElem];intro i j hi hj qh;have:=h2 (j - i) i (by omega);rw [show i+(j - i)=j by omega,fe hi,fe hj] at this;exact this
 ·intro h k hk;by_cases h0:k=0
  ·exact .inl h0
  ·refine .inr ?_;rw [fe hk,fe (by omega)];exact List.pairwise_iff_getElem.1 h (k - 1) k (by omega) hk (by omega)
theorem KZ {r:Ru} {s:St} : ia r s=0↔Inv r s∧dI r s < 0:=by
 unfold ia;rw [bU,bU,bU,bU,bU,bU,oT (by decide),oT (by decide),oT (by decide),oT (by decide),tv,tv,decide_eq_true_eq,decide_eq_true_eq,decide_eq_true_eq,jt];have hq:∀ k,iB r s k=0↔((qat s.q k).length:Int)≤(rat r.ranks k).places∧∀ j,j < (qat s.q k).length→bP (tat (qat s.q k) j)=true∧tat (qat s.q k) j∉(s.q.take k).flatten++(qat s.q k).take j:=fun k=>by
  unfold iB;split
  ·exact ⟨fun h=>by simp at h,fun h=>by omega⟩
  ·rw [tv];constructor
   ·exact fun h=>⟨by omega,fun j hj=>tw.1 (h j hj)⟩
   ·exact fun h j hj=>tw.2 (h.2 j hj)
 have ht:∀ k,iC r s k=0↔(bP (aH s.tk k).car=true∧(aH s.tk k).car∉s.q.flatten++(s.tk.take k).map (·.car))∧(0≤(aH s.tk k).rank∧(aH s.tk k).rank≤(r.ranks.length:Int) - 1)∧(0≤(aH s.tk k).time∧(aH s.tk k).time≤s.time)∧(k=0∨(aH s.tk (k - 1)).time≤(aH s.tk k).time):=fun k=>by
  unfold iC;rw [bU,bU,bU,bU,tw,oT (by decide),oT (by decide),oT (by decide),jt,jt];simp [fst]
 have gR:∀ (Q:Tk→Prop),(∀ t∈s.tk,Q t)↔∀ k,k < s.tk.length→Q (aH s.tk k):=fun Q=>by
  constructor
  ·exact fun h k hk=>h _ (by rw [fe hk];exact List.getElem_mem hk)
  ·intro h t K1;obtain ⟨k,hk,rfl⟩:=List.getElem_of_mem K1;rw [←fe hk];exact h k hk
 constructor
 ·rintro ⟨h1,h2,h3,h4,h5,h6,_⟩;replace h2:=fun k hk=>(hq k).1 (h2 k hk)
  replace h4:=fun k hk=>(ht k).1 (h4 k hk)
  have ho:=(EY s.q).1 fun k hk j hj=>((h2 k hk).2 j hj).2;refine ⟨⟨h1,?_,?_,fun k hk=>(h2 k hk).1,by omega,(gR _).2 fun k hk=>?_,(gR _).2 fun k hk=>(h4 k hk).2.2.1,(E5 _).1 fun k hk=>(h4 k hk).2.2.2,h5⟩,h6⟩
  ·unfold fE;refine (yq ho _).1 fun j hj=>?_;rw [List.length_map] at hj;rw [E0 _ _ hj,←List.map_take];exact (h4 j hj).1.2
  ·intro c hc;rcases List.mem_append.1 hc with hc|hc
   ·obtain ⟨k,hk,j,hj,rfl⟩:=EZ.1 hc;exact ((h2 k hk).2 j hj).1
   ·obtain ⟨t,K4,rfl⟩:=List.mem_map.1 hc;exact (gR fun t=>bP t.car=true).2 (fun k hk=>(h4 k hk).1.1) t K4
  ·have:=(h4 k hk).2.1;omega
 ·rintro ⟨h,hn⟩;refine ⟨h.len,fun k hk=>(hq k).2 ⟨h.fit k hk,fun j hj=>⟨?_,?_⟩⟩,by have:=h.tkl;omega,fun k hk=>(ht k).2 ⟨⟨?_,?_⟩,?_,?_,?_⟩,h.t0,hn,rfl⟩
  ·exact h.name _ (List.mem_append_left _ (EZ.2 ⟨k,hk,j,hj,rfl⟩))
  ·exact (EY s.q).2 h.once.q k hk j hj
  ·refine h.name _ (List.mem_append_right _ ?_);rw [fe hk];exact List.mem_map_of_mem (List.getElem_mem hk)
  ·have:=(yq h.once.q (s.tk.map (·.car))).2 (show Once (s.q.flatten++s.tk.map (·.car)) from h.once) k (by simpa using hk);rwa [E0 _ _ hk,←List.map_take] at this
  ·have:=(gR _).1 h.tkr k hk;omega
  ·exact (gR _).1 h.tkt k hk
  ·exact (E5 _).2 h.ord k hk
def mT (r:Ru) (i:Nat) : Bool:=cQ (fun k=>decide ((rat r.ranks k).name=(rat r.ranks i).name)) 0 i
def lE (r:Ru) (i:Nat) : Bool:=cQ (fun k=>decide ((rat r.ranks k).feeder=(rat r.ranks i).feeder)) 0 i
def fg (r:Ru) (i:Nat) : Bool:=!decide ((rat r.ranks i).feeder = -1)
def rkE (r:Ru) (i:Nat) : Int:=
 fst [unl (bP (rat r.ranks i).name) 4,unl (!mT r i) 5,unl (inR (rat r.ranks i).places 1 12) 2,unl (!fg r i || inR (rat r.ranks i).feeder 0 ((r.ranks.length:Int) - 1)) 6,
  unl (!fg r i || decide ((i:Int) < (rat r.ranks i).feeder)) 9,unl (!fg r i || !lE r i) 26,unl (fg r i || !(rat r.ranks i).called) 3]
def rM (r:Ru) : Int:=unl ((decide (r.back = -1) || inR r.back 0 12)&&inR r.ret 0 3600) 2
def bY (r:Ru) : Nat×Int:=
 if r.ranks.length=0 then (0,10) else if 6 < r.ranks.length then (0,8) else if (jU (rkE r) 0 r.ranks.length).2≠0 then jU (rkE r) 0 r.ranks.length else (0,rM r)
theorem E6 {E:Nat→Int} : ∀ (n k:Nat),(jU E k n).2=0↔∀ j,k≤j→j < k+n→E j=0
 | 0,k=>⟨fun _ j h1 h2=>by omega,fun _=>rfl⟩
 | n+1,k=>by
  rw [jU];by_cases h:E k=0
  ·rw [if_neg (by simp [h]),E6 n (k+1)];constructor
   ·intro hh j h1 h2;by_cases he:j=k
    ·rw [he];exact h
    ·exact hh j (by omega) (by omega)
   ·exact fun hh j h1 h2=>hh j (by omega) (by omega)
  ·rw [if_pos h];exact ⟨fun hh=>absurd hh h,fun hh=>absurd (hh k (Nat.le_refl k) (by omega)) h⟩
theorem vl {r:Ru} (h:(bY r).2=0) : RuOK r∧(∀ k,k < r.ranks.length→bP (rat r.ranks k).name=true)∧∀ k,k < r.ranks.length→(rat r.ranks k).feeder≠-1→∀ j,j < k→(rat r.ranks j).feeder≠(rat r.ranks k).feeder:=by
 unfold bY at h;split at h
 ·simp at h
 ·rename_i h0;split at h
  ·simp at h
  ·rename_i h6;split at h
   ·rename_i aC;exact absurd h aC
   ·rename_i hz;have hz:(jU (rkE r) 0 r.ranks.length).2=0:=Classical.byContradiction hz;rw [E6] at hz;simp only at h;unfold rM at h;have he:=ew (by decide) h;simp only [Bool.and_eq_true,Bool.or_eq_true,decide_eq_true_eq,jt] at he;have hk:∀ k,k < r.ranks.length→bP (rat r.ranks k).name=true∧(1≤(rat r.ranks k).places∧(rat r.ranks k).places≤12)∧((rat r.ranks k).feeder≠-1→((k:Int) < (rat r.ranks k).feeder∧(rat r.ranks k).feeder < r.ranks.length)∧lE r k=false):=fun k hk=>by
     have:=hz k (Nat.zero_le k) (by omega);unfold rkE at this;rw [bU,bU,bU,bU,bU,bU] at this;obtain ⟨a1,_,a3,a4,a5,a6,_⟩:=this;replace a1:=ew (by decide) a1
     replace a3:=ew (by decide) a3
     replace a4:=ew (by decide) a4
     replace a5:=ew (by decide) a5
     replace a6:=ew (by decide) a6
     rw [jt] at a3;refine ⟨a1,a3,fun hf=>?_⟩;have oU:fg r k=true:=by simp [fg,hf]
     rw [oU] at a4 a5 a6;simp only [Bool.not_true,Bool.false_or,jt,decide_eq_true_eq,Bool.not_eq_true'] at a4 a5 a6;exact ⟨⟨a5,by omega⟩,a6⟩
    refine ⟨⟨by omega,by omega,fun k h=>(hk k h).2.1,fun k h hf=>((hk k h).2.2 hf).1,he.1,he.2⟩,fun k h=>(hk k h).1,fun k h hf j hj heq=>?_⟩;have:=((hk k h).2.2 hf).2;unfold lE cQ at this;rw [List.any_eq_false] at this;have:=this j (List.mem_range.2 hj);simp [heq] at this
end Go.Proofs.YtoibondihdhnoaaGreatDoor
