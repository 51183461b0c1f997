/- Texts in one: Chapter 4: which states are right; no condition. -/
import Derived.Test.YtoibondihdhnoaaGreatDoorFRK21
namespace Go.Proofs.YtoibondihdhnoaaGreatDoor
open Go.RowKit
def inL (c:ByteArray) (l:List ByteArray) : Bool:=decide (0 < cnt c l)
theorem qz {c:ByteArray} {l:List ByteArray} : inL c l=true↔c∈l:=by
 unfold inL;rw [decide_eq_true_eq,j2]
def iV (c:ByteArray) (seen:List ByteArray) : Int:=fst [unl (cI c) 4,unl (!inL c seen) 5]
def lY (E:Nat→Int) (n:Nat) : Int:=fst ((List.range n).map E)
def iL (seen l:List ByteArray) (j:Nat) : Int:=iV (tat l j) (seen++l.take j)
def iW (r:Ru) (s:St) (k:Nat) : Int:=if ((qat s.q k).length:Int) > (rat r.ranks k).places then 8 else lY (iL (s.q.take k).flatten (qat s.q k)) (qat s.q k).length
def iX (r:Ru) (s:St) (k:Nat) : Int:=
 fst [iV (aI s.tk k).car (s.q.flatten++(s.tk.take k).map (·.car)),unl (inR (aI s.tk k).rank 0 ((r.ranks.length:Int) - 1)) 6,unl (inR (aI s.tk k).time 0 s.time) 2,unl (decide (k=0) || decide ((aI s.tk (k - 1)).time≤(aI s.tk k).time)) 9]
def iY (r:Ru) (s:St) : Int:=
 fst [unl (decide (s.q.length=r.ranks.length)) 10,lY (iW r s) s.q.length,unl (decide ((s.tk.length:Int)≤40)) 8,lY (iX r s) s.tk.length,unl (inR s.time 0 604800) 2,unl (decide (cO r s < 0)) 22]
theorem pI {c:Bool} {e:Int} (he:e≠0) : unl c e=0↔c=true:=⟨ft he,fun h=>by rw [h];rfl⟩
theorem tD {E:Nat→Int} {n:Nat} : lY E n=0↔∀ k,k < n→E k=0:=by
 have h:∀ l:List Int,fst l=0↔∀ x∈l,x=0:=fun l=>by
  induction l with
  | nil=>simp [fst]
  | cons x l ih=>rw [cj,ih];simp
 unfold lY;rw [h];simp
theorem tE {c:ByteArray} {seen:List ByteArray} : iV c seen=0↔cI c=true∧c∉seen:=by
 unfold iV;rw [cj,cj,pI (by decide),pI (by decide),Bool.not_eq_true',←Bool.not_eq_true,qz];simp [fst]
theorem J7 {l:List ByteArray} {c:ByteArray} : Once (l++[c])↔Once l∧c∉l:=by
 constructor
 ·refine fun h=>⟨h.left,fun hm=>?_⟩
  have:=h c;rw [gW,fP,if_pos rfl] at this;have:=j2.2 hm;omega
 ·rintro ⟨h1,h2⟩ d;rw [gW,fP,jm];have:=h1 d;by_cases he:c=d
  ·subst he;have:cnt c l=0:=Nat.eq_zero_of_not_pos fun hp=>h2 (j2.1 hp);rw [if_pos rfl];omega
  ·rw [if_neg he];omega
theorem lA {α:Type} {l:List α} {k:Nat} (h:k < l.length) : l.take (k+1)=l.take k++[l[k]]:=by simp
theorem ye {seen:List ByteArray} (hs:Once seen) (l:List ByteArray) : (∀ j,j < l.length→tat l j∉seen++l.take j)↔Once (seen++l):=by
 have h:∀ n,n≤l.length→((∀ j,j < n→tat l j∉seen++l.take j)↔Once (seen++l.take n)):=fun n=>by
  induction n with
  | zero=>intro _;simpa using hs
  | succ n ih=>
   intro hn;have hl:n < l.length:=by omega
   rw [lA hl,←List.append_assoc,J7,←ih (by omega),←dE hl];constructor
   ·exact fun h=>⟨fun j hj=>h j (by omega),h n (by omega)⟩
   ·rintro ⟨h1,h2⟩ j hj;by_cases he:j=n
    ·rw [he];exact h2
    ·exact h1 j (by omega)
 have:=h l.length (Nat.le_refl _);rwa [List.take_length] at this
theorem yf {q:List (List ByteArray)} {k:Nat} (h:k < q.length) : (q.take (k+1)).flatten=(q.take k).flatten++qat q k:=by
 rw [lA h,List.flatten_append,eM h];simp
theorem EP (q:List (List ByteArray)) : (∀ k,k < q.length→∀ j,j < (qat q k).length→tat (qat q k) j∉(q.take k).flatten++(qat q k).take j)↔Once q.flatten:=by
 have h:∀ n,n≤q.length→((∀ k,k < n→∀ j,j < (qat q k).length→tat (qat q k) j∉(q.take k).flatten++(qat q k).take j)↔Once (q.take n).flatten):=fun n=>by
  induction n with
  | zero=>
   intro _;refine ⟨fun _ c=>?_,fun _ k hk=>by omega⟩;simp [jm]
  | succ n ih=>
   intro hn;have hl:n < q.length:=by omega
   rw [yf hl];constructor
   ·intro h;exact (ye ((ih (by omega)).1 fun k hk=>h k (by omega)) _).1 (h n (by omega))
   ·intro h k hk;by_cases he:k=n
    ·rw [he];exact (ye h.left _).2 h
    ·exact (ih (by omega)).2 h.left k (by omega)
 have:=h q.length (Nat.le_refl _);rwa [List.take_length] at this
theorem ER {q:List (List ByteArray)} {c:ByteArray} : c∈q.flatten↔∃ k,k < q.length∧∃ j,j < (qat q k).length∧tat (qat q k) j=c:=by
 rw [List.mem_flatten];constructor
 ·rintro ⟨l,hl,hc⟩;obtain ⟨k,hk,rfl⟩:=List.getElem_of_mem hl;obtain ⟨j,hj,rfl⟩:=List.getElem_of_mem hc;exact ⟨k,hk,j,by rw [eM hk];exact hj,by rw [eM hk,dE hj]⟩
 ·rintro ⟨k,hk,j,hj,rfl⟩;refine ⟨qat q k,by rw [eM hk];exact List.getElem_mem hk,?_⟩;rw [dE hj];exact List.getElem_mem hj
theorem ES (l:List Tk) (k:Nat) (h:k < l.length) : tat (l.map (·.car)) k=(aI l k).car:=by
 rw [dE (by simpa using h),gb h];simp
theorem ET (l:List Tk) : (∀ k,k < l.length→k=0∨(aI l (k - 1)).time≤(aI l k).time)↔l.Pairwise fun a b=>a.time≤b.time:=by
 constructor
 ·intro h;have h2:∀ n j,j+n < l.length→(aI l j).time≤(aI l (j+n)).time:=fun n=>by
   induction n with
   | zero=>intro j _;exact Int.le_refl _
   | succ n ih=>
    intro j hj;have h1:=ih j (by omega);have h3:=(h (j+(n+1)) hj).resolve_left (by omega);rw [show j+(n+1) - 1=j+n by omega] at h3;omega
  rw [List.pairwise_iff_getElem];intro i j hi hj xZ;have:=h2 (j - i) i (by omega);rw [show i+(j - i)=j by omega,gb hi,gb hj] at this;exact this
 ·intro h k hk;by_cases h0:k=0
  ·exact .inl h0
  ·refine .inr ?_;rw [gb hk,gb (by omega)];exact List.pairwise_iff_getElem.1 h (k - 1) k (by omega) hk (by omega)
theorem J8 {r:Ru} {s:St} : iY r s=0↔Inv r s∧cO r s < 0:=by
 unfold iY;rw [cj,cj,cj,cj,cj,cj,pI (by decide),pI (by decide),pI (by decide),pI (by decide),tD,tD,decide_eq_true_eq,decide_eq_true_eq,decide_eq_true_eq,mB];have hq:∀ k,iW r s k=0↔((qat s.q k).length:Int)≤(rat r.ranks k).places∧∀ j,j < (qat s.q k).length→cI (tat (qat s.q k) j)=true∧tat (qat s.q k) j∉(s.q.take k).flatten++(qat s.q k).take j:=fun k=>by
  unfold iW;split
  ·exact ⟨fun h=>by simp at h,fun h=>by omega⟩
  ·rw [tD];constructor
   ·exact fun h=>⟨by omega,fun j hj=>tE.1 (h j hj)⟩
   ·exact fun h j hj=>tE.2 (h.2 j hj)
 have ht:∀ k,iX r s k=0↔(cI (aI s.tk k).car=true∧(aI s.tk k).car∉s.q.flatten++(s.tk.take k).map (·.car))∧(0≤(aI s.tk k).rank∧(aI s.tk k).rank≤(r.ranks.length:Int) - 1)∧(0≤(aI s.tk k).time∧(aI s.tk k).time≤s.time)∧(k=0∨(aI s.tk (k - 1)).time≤(aI s.tk k).time):=fun k=>by
  unfold iX;rw [cj,cj,cj,cj,tE,pI (by decide),pI (by decide),pI (by decide),mB,mB];simp [fst]
 have mC:∀ (Q:Tk→Prop),(∀ t∈s.tk,Q t)↔∀ k,k < s.tk.length→Q (aI s.tk k):=fun Q=>by
  constructor
  ·exact fun h k hk=>h _ (by rw [gb hk];exact List.getElem_mem hk)
  ·intro h t J9;obtain ⟨k,hk,rfl⟩:=List.getElem_of_mem J9;rw [←gb hk];exact h k hk
 constructor
 ·rintro ⟨h1,h2,h3,h4,h5,h6,_⟩;replace h2:=fun k hk=>(hq k).1 (h2 k hk)
  replace h4:=fun k hk=>(ht k).1 (h4 k hk)
  have ho:=(EP s.q).1 fun k hk j hj=>((h2 k hk).2 j hj).2;refine ⟨⟨h1,?_,?_,fun k hk=>(h2 k hk).1,by omega,(mC _).2 fun k hk=>?_,(mC _).2 fun k hk=>(h4 k hk).2.2.1,(ET _).1 fun k hk=>(h4 k hk).2.2.2,h5⟩,h6⟩
  ·unfold fQ;refine (ye ho _).1 fun j hj=>?_;rw [List.length_map] at hj;rw [ES _ _ hj,←List.map_take];exact (h4 j hj).1.2
  ·intro c hc;rcases List.mem_append.1 hc with hc|hc
   ·obtain ⟨k,hk,j,hj,rfl⟩:=ER.1 hc;exact ((h2 k hk).2 j hj).1
   ·obtain ⟨t,J_,rfl⟩:=List.mem_map.1 hc;exact (mC fun t=>cI t.car=true).2 (fun k hk=>(h4 k hk).1.1) t J_
  ·have:=(h4 k hk).2.1;omega
 ·rintro ⟨h,hn⟩;refine ⟨h.len,fun k hk=>(hq k).2 ⟨h.fit k hk,fun j hj=>⟨?_,?_⟩⟩,by have:=h.tkl;omega,fun k hk=>(ht k).2 ⟨⟨?_,?_⟩,?_,?_,?_⟩,h.t0,hn,rfl⟩
  ·exact h.name _ (List.mem_append_left _ (ER.2 ⟨k,hk,j,hj,rfl⟩))
  ·exact (EP s.q).2 h.once.q k hk j hj
  ·refine h.name _ (List.mem_append_right _ ?_);rw [gb hk];exact List.mem_map_of_mem (List.getElem_mem hk)
  ·have:=(ye h.once.q (s.tk.map (·.car))).2 (show Once (s.q.flatten++s.tk.map (·.car)) from h.once) k (by simpa using hk);rwa [ES _ _ hk,←List.map_take] at this
  ·have:=(mC _).1 h.tkr k hk;omega
  ·exact (mC _).1 h.tkt k hk
  ·exact (ET _).2 h.ord k hk
def nC (r:Ru) (i:Nat) : Bool:=gg (fun k=>decide ((rat r.ranks k).name=(rat r.ranks i).name)) 0 i
def lZ (r:Ru) (i:Nat) : Bool:=gg (fun k=>decide ((rat r.ranks k).feeder=(rat r.ranks i).feeder)) 0 i
def fS (r:Ru) (i:Nat) : Bool:=!decide ((rat r.ranks i).feeder = -1)
def rkE (r:Ru) (i:Nat) : Int:=
 fst [unl (cI (rat r.ranks i).name) 4,unl (!nC r i) 5,unl (inR (rat r.ranks i).places 1 12) 2,unl (!fS r i || inR (rat r.ranks i).feeder 0 ((r.ranks.length:Int) - 1)) 6,
  unl (!fS r i || decide ((i:Int) < (rat r.ranks i).feeder)) 9,unl (!fS r i || !lZ r i) 26,unl (fS r i || !(rat r.ranks i).called) 3]
def r9 (r:Ru) : Int:=unl ((decide (r.back = -1) || inR r.back 0 12)&&inR r.ret 0 3600) 2
def di (r:Ru) : Nat×Int:=
 if r.ranks.length=0 then (0,10) else if 6 < r.ranks.length then (0,8) else if (kE (rkE r) 0 r.ranks.length).2≠0 then kE (rkE r) 0 r.ranks.length else (0,r9 r)
theorem EU {E:Nat→Int} : ∀ (n k:Nat),(kE E k n).2=0↔∀ j,k≤j→j < k+n→E j=0
 | 0,k=>⟨fun _ j h1 h2=>by omega,fun _=>rfl⟩
 | n+1,k=>by
  rw [kE];by_cases h:E k=0
  ·rw [if_neg (by simp [h]),EU n (k+1)];constructor
   ·intro hh j h1 h2;by_cases he:j=k
    ·rw [he];exact h
    ·exact hh j (by omega) (by omega)
   ·exact fun hh j h1 h2=>hh j (by omega) (by omega)
  ·rw [if_pos h];exact ⟨fun hh=>absurd hh h,fun hh=>absurd (hh k (Nat.le_refl k) (by omega)) h⟩
theorem yg {r:Ru} (h:(di r).2=0) : RuOK r∧(∀ k,k < r.ranks.length→cI (rat r.ranks k).name=true)∧∀ k,k < r.ranks.length→(rat r.ranks k).feeder≠-1→∀ j,j < k→(rat r.ranks j).feeder≠(rat r.ranks k).feeder:=by
 unfold di at h;split at h
 ·simp at h
 ·rename_i h0;split at h
  ·simp at h
  ·rename_i h6;split at h
   ·rename_i au;exact absurd h au
   ·rename_i hz;have hz:(kE (rkE r) 0 r.ranks.length).2=0:=Classical.byContradiction hz;rw [EU] at hz;simp only at h;unfold r9 at h;have he:=ft (by decide) h;simp only [Bool.and_eq_true,Bool.or_eq_true,decide_eq_true_eq,mB] at he;have hk:∀ k,k < r.ranks.length→cI (rat r.ranks k).name=true∧(1≤(rat r.ranks k).places∧(rat r.ranks k).places≤12)∧((rat r.ranks k).feeder≠-1→((k:Int) < (rat r.ranks k).feeder∧(rat r.ranks k).feeder < r.ranks.length)∧lZ r k=false):=fun k hk=>by
     have:=hz k (Nat.zero_le k) (by omega);unfold rkE at this;rw [cj,cj,cj,cj,cj,cj] at this;obtain ⟨a1,_,a3,a4,a5,a6,_⟩:=this;replace a1:=ft (by decide) a1
     replace a3:=ft (by decide) a3
     replace a4:=ft (by decide) a4
     replace a5:=ft (by decide) a5
     replace a6:=ft (by decide) a6
     rw [mB] at a3;refine ⟨a1,a3,fun hf=>?_⟩;have pJ:fS r k=true:=by simp [fS,hf]
     rw [pJ] at a4 a5 a6;simp only [Bool.not_true,Bool.false_or,mB,decide_eq_true_eq,Bool.not_eq_true'] at a4 a5 a6;exact ⟨⟨a5,by omega⟩,a6⟩
    refine ⟨⟨by omega,by omega,fun k h=>(hk k h).2.1,fun k h hf=>((hk k h).2.2 hf).1,he.1,he.2⟩,fun k h=>(hk k h).1,fun k h hf j hj heq=>?_⟩;have:=((hk k h).2.2 hf).2;unfold lZ gg at this;rw [List.any_eq_false] at this;have:=this j (List.mem_range.2 hj);simp [heq] at this
end Go.Proofs.YtoibondihdhnoaaGreatDoor
