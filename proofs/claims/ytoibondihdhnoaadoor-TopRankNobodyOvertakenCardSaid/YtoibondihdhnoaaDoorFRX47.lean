/- Texts in one: Walks: stays and waits of a log. -/
import Derived.Test.YtoibondihdhnoaaDoorFRX45
import Derived.Test.YtoibondihdhnoaaDoorFRX34
namespace Go.Proofs.YtoibondihdhnoaaDoor
open Go.RowKit
set_option maxRecDepth 100000
set_option maxHeartbeats 2000000
def b6x (r:Ru) (l:List Ev) : Int:=if a3h r l≠0 then a3h r l else (goP r 0 l (st0 r)).2.2
def c9z (log:List Ev) : Nat→List Ev→Dy→Dy
 | _,[],d=>d
 | k,x::l,d=>c9z log (k+1) l (o9_ log d k x)
theorem c0l (log:List Ev) : ∀ (l:List Ev) (k:Nat) (d:Dy),(c9z log k l d).st=a1a k l d.st
 | [],_,_=>rfl
 | x::l,k,d=>by
  rw [c9z,c0l log l,a1a,b4o]
theorem b0p {r:Ru} {log:List Ev} : ∀ (l:List Ev) (k:Nat) (t:T3) (y:Dy×Bool×Bool),(goP r k l t.1).2.2=0→(runTD log r k l (t,y)).2.1=c9z log k l y.1
 | [],_,_,y,_=>rfl
 | x::l,k,t,y,h=>by
  obtain ⟨h1,h2⟩:=a4h h;obtain ⟨e1,e2⟩:=c8b (t:=t) h1;rw [runTD,if_neg (by simp [h1]),c9z];rw [←e1] at h2;rw [b0p l (k+1) (stepT r t x) _ h2]
theorem c0m (r:Ru) (l:List Ev) (h:SmallL r l) : (b6x r l≠0∧∃ d a,VH Tryd.prog 23 [] [c4_ r,w2_ l] [] (a1b d a) (.tup [.ref 2 0,I (b6x r l)])) ∨
  (b6x r l=0∧RuOK r∧(goP r 0 l (st0 r)).2.2=0∧∃ (a:Bool×Bool) (s:St) (mv:List Sg) (b:Bool),VH Tryd.prog 23 [] [c4_ r,w2_ l] [] (a1b (c9z l 0 l ⟨[],[],[],[]⟩) a++[some (.bag 81 1 false none (d3_ s.q)),some (.box [.osl 6,.osl 8,I s.time,.sl 4 (r.ranks.map Rk.av),I r.back,I r.ret,.sl 3 (mv.map Sg.av)]),some (.arr 85 3 b (s.tk.map Tk.av))]) (.tup [.ref 2 0,I 0])):=by
 unfold b6x;by_cases h0:a3h r l=0
 ·rw [if_neg (by simp [h0])];obtain ⟨hr,_,hl⟩:=b2k h0;obtain ⟨z,hz⟩ : ∃ z,runTD l r 0 l (t0 r,(⟨[],[],[],[]⟩,true,true))=z:=⟨_,rfl⟩
  by_cases h1:(goP r 0 l (st0 r)).2.2=0
  ·have g:=b0o r l _ _ h.nm hr hl h.c h0 z hz (.inr ⟨h1,rfl,rfl⟩);have e:=b0p (log:=l) l 0 (t0 r) (⟨[],[],[],[]⟩,true,true) h1;rw [hz] at e;have:=c8j r l z.2.1 z.2.2 _ _ _ g;rw [e] at this;exact .inr ⟨h1,hr,h1,_,_,_,_,this⟩
  ·have g:=b0o r l _ _ h.nm hr hl h.c h0 z hz (.inl ⟨h1,rfl,rfl⟩);exact .inl ⟨h1,_,_,b4y r l z.2.1 z.2.2 _ _ g⟩
 ·rw [if_pos h0];exact .inl ⟨h0,_,_,b4y r l ⟨[],[],[],[]⟩ (true,true) 0 _ (b6w r l h.n h.nm h0)⟩
theorem c8l (r:Ru) (l:List Ev) (h:SmallL r l) : VC Tryd.prog 6 [c4_ r,w2_ l] (.tup [.sl 4 ((if b6x r l=0 then f2_ 0 l else []).map Sy.av),I (b6x r l)]):=by
 rcases c0m r l h with ⟨he,d,a,g⟩|⟨he,hr,h1,a,s,mv,b,g⟩
 ·rw [if_neg he];exact (c4m r l d a _ he g).weak fun w M v hv=>c0j hv
 ·rw [if_pos he,he];have:=c8k r l _ a s mv b g;rw [c0l,a5h h1] at this;exact this
end Go.Proofs.YtoibondihdhnoaaDoor
