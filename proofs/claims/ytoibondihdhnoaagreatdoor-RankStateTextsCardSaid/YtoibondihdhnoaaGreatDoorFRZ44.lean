/- Texts in one: Walks: stays and waits of a log. -/
import Derived.Test.YtoibondihdhnoaaGreatDoorFRZ42
import Derived.Test.YtoibondihdhnoaaGreatDoorFRZ31
namespace Go.Proofs.YtoibondihdhnoaaGreatDoor
open Go.RowKit
set_option maxRecDepth 100000
set_option maxHeartbeats 2000000
def su (r:Ru) (l:List Ev) : Int:=if eY r l≠0 then eY r l else (goP r 0 l (st0 r)).2.2
def t_ (log:List Ev) : Nat→List Ev→Dy→Dy
 | _,[],d=>d
 | k,x::l,d=>t_ log (k+1) l (eZ log d k x)
theorem Ho (log:List Ev) : ∀ (l:List Ev) (k:Nat) (d:Dy),(t_ log k l d).wt=d.wt++tH log k l d.st
 | [],_,d=>(List.append_nil _).symm
 | x::l,k,d=>by
  rw [t_,Ho log l,tH,F3,←List.append_assoc];congr 1;unfold eZ;split
  ·rename_i h;unfold kB;rw [if_neg (by omega),List.append_nil]
  ·split
   ·rename_i h;unfold kB;rw [if_neg (by omega),List.append_nil]
   ·rfl
theorem Hq {r:Ru} {log:List Ev} : ∀ (l:List Ev) (k:Nat) (t:T3) (y:Dy×Bool×Bool),(goP r k l t.1).2.2=0→(runTD log r k l (t,y)).2.1=t_ log k l y.1
 | [],_,_,y,_=>rfl
 | x::l,k,t,y,h=>by
  obtain ⟨h1,h2⟩:=zb h;obtain ⟨e1,e2⟩:=CV (t:=t) h1;rw [runTD,if_neg (by simp [h1]),t_];rw [←e1] at h2;rw [Hq l (k+1) (stepT r t x) _ h2]
theorem NZ (r:Ru) (l:List Ev) (h:SmallL r l) : (su r l≠0∧∃ d a,VH Tryz.prog 95 [] [ct r,dD l] [] (oo d a) (.tup [.ref 2 0,I (su r l)])) ∨
  (su r l=0∧RuOK r∧(goP r 0 l (st0 r)).2.2=0∧∃ (a:Bool×Bool) (s:St) (mv:List Sg) (b:Bool),VH Tryz.prog 95 [] [ct r,dD l] [] (oo (t_ l 0 l ⟨[],[],[],[]⟩) a++[some (.bag 62 1 false none (cA s.q)),some (.box [.osl 6,.osl 8,I s.time,.sl 4 (r.ranks.map Rk.av),I r.back,I r.ret,.sl 3 (mv.map Sg.av)]),some (.arr 148 3 b (s.tk.map Tk.av))]) (.tup [.ref 2 0,I 0])):=by
 unfold su;by_cases h0:eY r l=0
 ·rw [if_neg (by simp [h0])];obtain ⟨hr,_,hl⟩:=Ci h0;obtain ⟨z,hz⟩ : ∃ z,runTD l r 0 l (t0 r,(⟨[],[],[],[]⟩,true,true))=z:=⟨_,rfl⟩
  by_cases h1:(goP r 0 l (st0 r)).2.2=0
  ·have g:=Hm r l _ _ h.nm hr hl h.c h0 z hz (.inr ⟨h1,rfl,rfl⟩);have e:=Hq (log:=l) l 0 (t0 r) (⟨[],[],[],[]⟩,true,true) h1;rw [hz] at e;have:=NV r l z.2.1 z.2.2 _ _ _ g;rw [e] at this;exact .inr ⟨h1,hr,h1,_,_,_,_,this⟩
  ·have g:=Hm r l _ _ h.nm hr hl h.c h0 z hz (.inl ⟨h1,rfl,rfl⟩);exact .inl ⟨h1,_,_,Hn r l z.2.1 z.2.2 _ _ g⟩
 ·rw [if_pos h0];exact .inl ⟨h0,_,_,Hn r l ⟨[],[],[],[]⟩ (true,true) 0 _ (NU r l h.n h.nm h0)⟩
theorem N0 (r:Ru) (l:List Ev) (h:SmallL r l) : VC Tryz.prog 35 [ct r,dD l] (.tup [.sl 3 ((if su r l=0 then tJ l 0 l else []).map Wt.av),I (su r l)]):=by
 rcases NZ r l h with ⟨he,d,a,g⟩|⟨he,hr,h1,a,s,mv,b,g⟩
 ·rw [if_neg he];exact (NW r l d a _ he g).weak fun w M v hv=>zB hv
 ·rw [if_pos he,he];have:=NY r l _ a s mv b g;rw [Ho,List.nil_append,Me hr h1] at this;exact this
end Go.Proofs.YtoibondihdhnoaaGreatDoor
