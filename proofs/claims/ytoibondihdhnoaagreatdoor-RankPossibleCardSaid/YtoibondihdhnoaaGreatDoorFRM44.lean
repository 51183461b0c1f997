/- Texts in one: Walks: stays and waits of a log. -/
import Derived.Test.YtoibondihdhnoaaGreatDoorFRM42
import Derived.Test.YtoibondihdhnoaaGreatDoorFRM31
namespace Go.Proofs.YtoibondihdhnoaaGreatDoor
open Go.RowKit
set_option maxRecDepth 100000
set_option maxHeartbeats 2000000
def c7g (r:Ru) (l:List Ev) : Int:=if a1a r l≠0 then a1a r l else (goP r 0 l (st0 r)).2.2
def c9b (log:List Ev) : Nat→List Ev→Dy→Dy
 | _,[],d=>d
 | k,x::l,d=>c9b log (k+1) l (l9_ log d k x)
theorem b9t (log:List Ev) : ∀ (l:List Ev) (k:Nat) (d:Dy),(c9b log k l d).wt=d.wt++b5d log k l d.st
 | [],_,d=>(List.append_nil _).symm
 | x::l,k,d=>by
  rw [c9b,b9t log l,b5d,b3d,←List.append_assoc];congr 1;unfold l9_;split
  ·rename_i h;unfold p6_;rw [if_neg (by omega),List.append_nil]
  ·split
   ·rename_i h;unfold p6_;rw [if_neg (by omega),List.append_nil]
   ·rfl
theorem a9u {r:Ru} {log:List Ev} : ∀ (l:List Ev) (k:Nat) (t:T3) (y:Dy×Bool×Bool),(goP r k l t.1).2.2=0→(runTD log r k l (t,y)).2.1=c9b log k l y.1
 | [],_,_,y,_=>rfl
 | x::l,k,t,y,h=>by
  obtain ⟨h1,h2⟩:=a2x h;obtain ⟨e1,e2⟩:=b1s (t:=t) h1;rw [runTD,if_neg (by simp [h1]),c9b];rw [←e1] at h2;rw [a9u l (k+1) (stepT r t x) _ h2]
theorem b9u (r:Ru) (l:List Ev) (h:SmallL r l) : (c7g r l≠0∧∃ d a,VH Tryz.prog 95 [] [c6_ r,v5_ l] [] (z6_ d a) (.tup [.ref 2 0,I (c7g r l)])) ∨
  (c7g r l=0∧RuOK r∧(goP r 0 l (st0 r)).2.2=0∧∃ (a:Bool×Bool) (s:St) (mv:List Sg) (b:Bool),VH Tryz.prog 95 [] [c6_ r,v5_ l] [] (z6_ (c9b l 0 l ⟨[],[],[],[]⟩) a++[some (.bag 62 1 false none (e9_ s.q)),some (.box [.osl 6,.osl 8,I s.time,.sl 4 (r.ranks.map Rk.av),I r.back,I r.ret,.sl 3 (mv.map Sg.av)]),some (.arr 148 3 b (s.tk.map Tk.av))]) (.tup [.ref 2 0,I 0])):=by
 unfold c7g;by_cases h0:a1a r l=0
 ·rw [if_neg (by simp [h0])];obtain ⟨hr,_,hl⟩:=b1h h0;obtain ⟨z,hz⟩ : ∃ z,runTD l r 0 l (t0 r,(⟨[],[],[],[]⟩,true,true))=z:=⟨_,rfl⟩
  by_cases h1:(goP r 0 l (st0 r)).2.2=0
  ·have g:=a9t r l _ _ h.nm hr hl h.c h0 z hz (.inr ⟨h1,rfl,rfl⟩);have e:=a9u (log:=l) l 0 (t0 r) (⟨[],[],[],[]⟩,true,true) h1;rw [hz] at e;have:=c7e r l z.2.1 z.2.2 _ _ _ g;rw [e] at this;exact .inr ⟨h1,hr,h1,_,_,_,_,this⟩
  ·have g:=a9t r l _ _ h.nm hr hl h.c h0 z hz (.inl ⟨h1,rfl,rfl⟩);exact .inl ⟨h1,_,_,b3y r l z.2.1 z.2.2 _ _ g⟩
 ·rw [if_pos h0];exact .inl ⟨h0,_,_,b3y r l ⟨[],[],[],[]⟩ (true,true) 0 _ (b5t r l h.n h.nm h0)⟩
theorem c7h (r:Ru) (l:List Ev) (h:SmallL r l) : VC Tryz.prog 35 [c6_ r,v5_ l] (.tup [.sl 3 ((if c7g r l=0 then b5f l 0 l else []).map Wt.av),I (c7g r l)]):=by
 rcases b9u r l h with ⟨he,d,a,g⟩|⟨he,hr,h1,a,s,mv,b,g⟩
 ·rw [if_neg he];exact (c3w r l d a _ he g).weak fun w M v hv=>a1i hv
 ·rw [if_pos he,he];have:=c7f r l _ a s mv b g;rw [b9t,List.nil_append,b8g hr h1] at this;exact this
end Go.Proofs.YtoibondihdhnoaaGreatDoor
