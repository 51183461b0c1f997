/- Texts in one: Walks: stays and waits of a log. -/
import Derived.Test.YtoibondihdhnoaaGreatDoorFRN42
import Derived.Test.YtoibondihdhnoaaGreatDoorFRN31
namespace Go.Proofs.YtoibondihdhnoaaGreatDoor
open Go.RowKit
set_option maxRecDepth 100000
set_option maxHeartbeats 2000000
def c7l (r:Ru) (l:List Ev) : Int:=if a1c r l≠0 then a1c r l else (goP r 0 l (st0 r)).2.2
def c9d (log:List Ev) : Nat→List Ev→Dy→Dy
 | _,[],d=>d
 | k,x::l,d=>c9d log (k+1) l (l2_ log d k x)
theorem b9p (log:List Ev) : ∀ (l:List Ev) (k:Nat) (d:Dy),(c9d log k l d).wt=d.wt++b5j log k l d.st
 | [],_,d=>(List.append_nil _).symm
 | x::l,k,d=>by
  rw [c9d,b9p log l,b5j,b3h,←List.append_assoc];congr 1;unfold l2_;split
  ·rename_i h;unfold o8_;rw [if_neg (by omega),List.append_nil]
  ·split
   ·rename_i h;unfold o8_;rw [if_neg (by omega),List.append_nil]
   ·rfl
theorem a9y {r:Ru} {log:List Ev} : ∀ (l:List Ev) (k:Nat) (t:T3) (y:Dy×Bool×Bool),(goP r k l t.1).2.2=0→(runTD log r k l (t,y)).2.1=c9d log k l y.1
 | [],_,_,y,_=>rfl
 | x::l,k,t,y,h=>by
  obtain ⟨h1,h2⟩:=a3b h;obtain ⟨e1,e2⟩:=b1t (t:=t) h1;rw [runTD,if_neg (by simp [h1]),c9d];rw [←e1] at h2;rw [a9y l (k+1) (stepT r t x) _ h2]
theorem b9q (r:Ru) (l:List Ev) (h:SmallL r l) : (c7l r l≠0∧∃ d a,VH Tryz.prog 95 [] [c3_ r,u9_ l] [] (z4_ d a) (.tup [.ref 2 0,I (c7l r l)])) ∨
  (c7l r l=0∧RuOK r∧(goP r 0 l (st0 r)).2.2=0∧∃ (a:Bool×Bool) (s:St) (mv:List Sg) (b:Bool),VH Tryz.prog 95 [] [c3_ r,u9_ l] [] (z4_ (c9d l 0 l ⟨[],[],[],[]⟩) a++[some (.bag 62 1 false none (f3_ s.q)),some (.box [.osl 6,.osl 8,I s.time,.sl 4 (r.ranks.map Rk.av),I r.back,I r.ret,.sl 3 (mv.map Sg.av)]),some (.arr 148 3 b (s.tk.map Tk.av))]) (.tup [.ref 2 0,I 0])):=by
 unfold c7l;by_cases h0:a1c r l=0
 ·rw [if_neg (by simp [h0])];obtain ⟨hr,_,hl⟩:=b1j h0;obtain ⟨z,hz⟩ : ∃ z,runTD l r 0 l (t0 r,(⟨[],[],[],[]⟩,true,true))=z:=⟨_,rfl⟩
  by_cases h1:(goP r 0 l (st0 r)).2.2=0
  ·have g:=a9x r l _ _ h.nm hr hl h.c h0 z hz (.inr ⟨h1,rfl,rfl⟩);have e:=a9y (log:=l) l 0 (t0 r) (⟨[],[],[],[]⟩,true,true) h1;rw [hz] at e;have:=c7j r l z.2.1 z.2.2 _ _ _ g;rw [e] at this;exact .inr ⟨h1,hr,h1,_,_,_,_,this⟩
  ·have g:=a9x r l _ _ h.nm hr hl h.c h0 z hz (.inl ⟨h1,rfl,rfl⟩);exact .inl ⟨h1,_,_,b4c r l z.2.1 z.2.2 _ _ g⟩
 ·rw [if_pos h0];exact .inl ⟨h0,_,_,b4c r l ⟨[],[],[],[]⟩ (true,true) 0 _ (b5z r l h.n h.nm h0)⟩
theorem c7m (r:Ru) (l:List Ev) (h:SmallL r l) : VC Tryz.prog 35 [c3_ r,u9_ l] (.tup [.sl 3 ((if c7l r l=0 then b5l l 0 l else []).map Wt.av),I (c7l r l)]):=by
 rcases b9q r l h with ⟨he,d,a,g⟩|⟨he,hr,h1,a,s,mv,b,g⟩
 ·rw [if_neg he];exact (c3o r l d a _ he g).weak fun w M v hv=>a1k hv
 ·rw [if_pos he,he];have:=c7k r l _ a s mv b g;rw [b9p,List.nil_append,b8c hr h1] at this;exact this
end Go.Proofs.YtoibondihdhnoaaGreatDoor
