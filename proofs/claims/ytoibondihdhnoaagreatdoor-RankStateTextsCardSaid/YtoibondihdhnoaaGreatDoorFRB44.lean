/- Texts in one: Walks: stays and waits of a log. -/
import Derived.Test.YtoibondihdhnoaaGreatDoorFRB42
import Derived.Test.YtoibondihdhnoaaGreatDoorFRB31
namespace Go.Proofs.YtoibondihdhnoaaGreatDoor
open Go.RowKit
set_option maxRecDepth 100000
set_option maxHeartbeats 2000000
def c9s (r:Ru) (l:List Ev) : Int:=if a1r r l≠0 then a1r r l else (goP r 0 l (st0 r)).2.2
def d1h (log:List Ev) : Nat→List Ev→Dy→Dy
 | _,[],d=>d
 | k,x::l,d=>d1h log (k+1) l (l5_ log d k x)
theorem c1t (log:List Ev) : ∀ (l:List Ev) (k:Nat) (d:Dy),(d1h log k l d).wt=d.wt++b7l log k l d.st
 | [],_,d=>(List.append_nil _).symm
 | x::l,k,d=>by
  rw [d1h,c1t log l,b7l,b5g,←List.append_assoc]
  congr 1
  unfold l5_
  split
  ·rename_i h
   unfold p9_
   rw [if_neg (by omega),List.append_nil]
  ·split
   ·rename_i h
    unfold p9_
    rw [if_neg (by omega),List.append_nil]
   ·rfl
theorem b1p {r:Ru} {log:List Ev} : ∀ (l:List Ev) (k:Nat) (t:T3) (y:Dy×Bool×Bool),(goP r k l t.1).2.2=0→(runTD log r k l (t,y)).2.1=d1h log k l y.1
 | [],_,_,y,_=>rfl
 | x::l,k,t,y,h=>by
  obtain ⟨h1,h2⟩:=a3v h
  obtain ⟨e1,e2⟩:=b3o (t:=t) h1
  rw [runTD,if_neg (by simp [h1]),d1h]
  rw [←e1] at h2
  rw [b1p l (k+1) (stepT r t x) _ h2]
theorem c1u (r:Ru) (l:List Ev) (h:SmallL r l) : (c9s r l≠0∧∃ d a,VH Tryz.prog 95 [] [e0_ r,w4_ l] [] (a0l d a) (.tup [.ref 2 0,I (c9s r l)])) ∨
  (c9s r l=0∧RuOK r∧(goP r 0 l (st0 r)).2.2=0∧∃ (a:Bool×Bool) (s:St) (mv:List Sg) (b:Bool),VH Tryz.prog 95 [] [e0_ r,w4_ l] [] (a0l (d1h l 0 l ⟨[],[],[],[]⟩) a++[some (.bag 62 1 false none (f6_ s.q)),some (.box [.osl 6,.osl 8,I s.time,.sl 4 (r.ranks.map Rk.av),I r.back,I r.ret,.sl 3 (mv.map Sg.av)]),some (.arr 148 3 b (s.tk.map Tk.av))]) (.tup [.ref 2 0,I 0])):=by
 unfold c9s
 by_cases h0:a1r r l=0
 ·rw [if_neg (by simp [h0])]
  obtain ⟨hr,_,hl⟩:=b3c h0
  obtain ⟨z,hz⟩ : ∃ z,runTD l r 0 l (t0 r,(⟨[],[],[],[]⟩,true,true))=z:=⟨_,rfl⟩
  by_cases h1:(goP r 0 l (st0 r)).2.2=0
  ·have g:=b1o r l _ _ h.nm hr hl h.c h0 z hz (.inr ⟨h1,rfl,rfl⟩)
   have e:=b1p (log:=l) l 0 (t0 r) (⟨[],[],[],[]⟩,true,true) h1
   rw [hz] at e
   have:=c9q r l z.2.1 z.2.2 _ _ _ g
   rw [e] at this
   exact .inr ⟨h1,hr,h1,_,_,_,_,this⟩
  ·have g:=b1o r l _ _ h.nm hr hl h.c h0 z hz (.inl ⟨h1,rfl,rfl⟩)
   exact .inl ⟨h1,_,_,b6j r l z.2.1 z.2.2 _ _ g⟩
 ·rw [if_pos h0]
  exact .inl ⟨h0,_,_,b6j r l ⟨[],[],[],[]⟩ (true,true) 0 _ (b7z r l h.n h.nm h0)⟩
theorem c9t (r:Ru) (l:List Ev) (h:SmallL r l) : VC Tryz.prog 35 [e0_ r,w4_ l] (.tup [.sl 3 ((if c9s r l=0 then b7n l 0 l else []).map Wt.av),I (c9s r l)]):=by
 rcases c1u r l h with ⟨he,d,a,g⟩|⟨he,hr,h1,a,s,mv,b,g⟩
 ·rw [if_neg he]
  exact (c5t r l d a _ he g).weak fun w M v hv=>a2c hv
 ·rw [if_pos he,he]
  have:=c9r r l _ a s mv b g
  rw [c1t,List.nil_append,c0h hr h1] at this
  exact this
end Go.Proofs.YtoibondihdhnoaaGreatDoor
