/- Texts in one: Walks: stays and waits of a log. -/
import Derived.Test.YtoibondihdhnoaaGreatDoorFRL42
import Derived.Test.YtoibondihdhnoaaGreatDoorFRL31
namespace Go.Proofs.YtoibondihdhnoaaGreatDoor
open Go.RowKit
set_option maxRecDepth 100000
set_option maxHeartbeats 2000000
def c7d (r:Ru) (l:List Ev) : Int:=if a0x r l≠0 then a0x r l else (goP r 0 l (st0 r)).2.2
def c8t (log:List Ev) : Nat→List Ev→Dy→Dy
 | _,[],d=>d
 | k,x::l,d=>c8t log (k+1) l (k9_ log d k x)
theorem b9l (log:List Ev) : ∀ (l:List Ev) (k:Nat) (d:Dy),(c8t log k l d).wt=d.wt++b5b log k l d.st
 | [],_,d=>(List.append_nil _).symm
 | x::l,k,d=>by
  rw [c8t,b9l log l,b5b,b2y,←List.append_assoc];congr 1;unfold k9_;split
  ·rename_i h;unfold o5_;rw [if_neg (by omega),List.append_nil]
  ·split
   ·rename_i h;unfold o5_;rw [if_neg (by omega),List.append_nil]
   ·rfl
theorem a9t {r:Ru} {log:List Ev} : ∀ (l:List Ev) (k:Nat) (t:T3) (y:Dy×Bool×Bool),(goP r k l t.1).2.2=0→(runTD log r k l (t,y)).2.1=c8t log k l y.1
 | [],_,_,y,_=>rfl
 | x::l,k,t,y,h=>by
  obtain ⟨h1,h2⟩:=a2t h;obtain ⟨e1,e2⟩:=b1l (t:=t) h1;rw [runTD,if_neg (by simp [h1]),c8t];rw [←e1] at h2;rw [a9t l (k+1) (stepT r t x) _ h2]
theorem b9m (r:Ru) (l:List Ev) (h:SmallL r l) : (c7d r l≠0∧∃ d a,VH Tryz.prog 95 [] [d1_ r,u4_ l] [] (y9_ d a) (.tup [.ref 2 0,I (c7d r l)])) ∨
  (c7d r l=0∧RuOK r∧(goP r 0 l (st0 r)).2.2=0∧∃ (a:Bool×Bool) (s:St) (mv:List Sg) (b:Bool),VH Tryz.prog 95 [] [d1_ r,u4_ l] [] (y9_ (c8t l 0 l ⟨[],[],[],[]⟩) a++[some (.bag 62 1 false none (e7_ s.q)),some (.box [.osl 6,.osl 8,I s.time,.sl 4 (r.ranks.map Rk.av),I r.back,I r.ret,.sl 3 (mv.map Sg.av)]),some (.arr 148 3 b (s.tk.map Tk.av))]) (.tup [.ref 2 0,I 0])):=by
 unfold c7d;by_cases h0:a0x r l=0
 ·rw [if_neg (by simp [h0])];obtain ⟨hr,_,hl⟩:=b1a h0;obtain ⟨z,hz⟩ : ∃ z,runTD l r 0 l (t0 r,(⟨[],[],[],[]⟩,true,true))=z:=⟨_,rfl⟩
  by_cases h1:(goP r 0 l (st0 r)).2.2=0
  ·have g:=a9s r l _ _ h.nm hr hl h.c h0 z hz (.inr ⟨h1,rfl,rfl⟩);have e:=a9t (log:=l) l 0 (t0 r) (⟨[],[],[],[]⟩,true,true) h1;rw [hz] at e;have:=c7b r l z.2.1 z.2.2 _ _ _ g;rw [e] at this;exact .inr ⟨h1,hr,h1,_,_,_,_,this⟩
  ·have g:=a9s r l _ _ h.nm hr hl h.c h0 z hz (.inl ⟨h1,rfl,rfl⟩);exact .inl ⟨h1,_,_,b3t r l z.2.1 z.2.2 _ _ g⟩
 ·rw [if_pos h0];exact .inl ⟨h0,_,_,b3t r l ⟨[],[],[],[]⟩ (true,true) 0 _ (b5r r l h.n h.nm h0)⟩
theorem c7e (r:Ru) (l:List Ev) (h:SmallL r l) : VC Tryz.prog 35 [d1_ r,u4_ l] (.tup [.sl 3 ((if c7d r l=0 then b5d l 0 l else []).map Wt.av),I (c7d r l)]):=by
 rcases b9m r l h with ⟨he,d,a,g⟩|⟨he,hr,h1,a,s,mv,b,g⟩
 ·rw [if_neg he];exact (c3l r l d a _ he g).weak fun w M v hv=>a1f hv
 ·rw [if_pos he,he];have:=c7c r l _ a s mv b g;rw [b9l,List.nil_append,b7y hr h1] at this;exact this
end Go.Proofs.YtoibondihdhnoaaGreatDoor
