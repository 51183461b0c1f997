/- Texts in one: Walks: stays and waits of a log. -/
import Derived.Test.YtoibondihdhnoaaGreatDoorFRY42
import Derived.Test.YtoibondihdhnoaaGreatDoorFRY31
namespace Go.Proofs.YtoibondihdhnoaaGreatDoor
open Go.RowKit
set_option maxRecDepth 100000
set_option maxHeartbeats 2000000
def gE (r:Ru) (l:List Ev) : Int:=if dR r l≠0 then dR r l else (goP r 0 l (st0 r)).2.2
def qU (log:List Ev) : Nat→List Ev→Dy→Dy
 | _,[],d=>d
 | k,x::l,d=>qU log (k+1) l (fx log d k x)
theorem GF (log:List Ev) : ∀ (l:List Ev) (k:Nat) (d:Dy),(qU log k l d).st=sq k l d.st
 | [],_,_=>rfl
 | x::l,k,d=>by
  rw [qU,GF log l,sq,B3]
theorem GG (log:List Ev) : ∀ (l:List Ev) (k:Nat) (d:Dy),(qU log k l d).wt=d.wt++ui log k l d.st
 | [],_,d=>(List.append_nil _).symm
 | x::l,k,d=>by
  rw [qU,GG log l,ui,B3,←List.append_assoc];congr 1;unfold fx;split
  ·rename_i h;unfold kR;rw [if_neg (by omega),List.append_nil]
  ·split
   ·rename_i h;unfold kR;rw [if_neg (by omega),List.append_nil]
   ·rfl
theorem GH {r:Ru} {log:List Ev} : ∀ (l:List Ev) (k:Nat) (t:T3) (y:Dy×Bool×Bool),(goP r k l t.1).2.2=0→(runTD log r k l (t,y)).2.1=qU log k l y.1
 | [],_,_,y,_=>rfl
 | x::l,k,t,y,h=>by
  obtain ⟨h1,h2⟩:=uh h;obtain ⟨e1,e2⟩:=Cv (t:=t) h1;rw [runTD,if_neg (by simp [h1]),qU];rw [←e1] at h2;rw [GH l (k+1) (stepT r t x) _ h2]
theorem GI (r:Ru) (l:List Ev) (h:SmallL r l) : (gE r l≠0∧∃ d a,VH Tryz.prog 95 [] [bN r,cF l] [] (lA d a) (.tup [.ref 2 0,I (gE r l)])) ∨
  (gE r l=0∧RuOK r∧(goP r 0 l (st0 r)).2.2=0∧∃ (a:Bool×Bool) (s:St) (mv:List Sg) (b:Bool),VH Tryz.prog 95 [] [bN r,cF l] [] (lA (qU l 0 l ⟨[],[],[],[]⟩) a++[some (.bag 62 1 false none (bx s.q)),some (.box [.osl 6,.osl 8,I s.time,.sl 4 (r.ranks.map Rk.av),I r.back,I r.ret,.sl 3 (mv.map Sg.av)]),some (.arr 148 3 b (s.tk.map Tk.av))]) (.tup [.ref 2 0,I 0])):=by
 unfold gE;by_cases h0:dR r l=0
 ·rw [if_neg (by simp [h0])];obtain ⟨hr,_,hl⟩:=yT h0;obtain ⟨z,hz⟩ : ∃ z,runTD l r 0 l (t0 r,(⟨[],[],[],[]⟩,true,true))=z:=⟨_,rfl⟩
  by_cases h1:(goP r 0 l (st0 r)).2.2=0
  ·have g:=GC r l _ _ h.nm hr hl h.c h0 z hz (.inr ⟨h1,rfl,rfl⟩);have e:=GH (log:=l) l 0 (t0 r) (⟨[],[],[],[]⟩,true,true) h1;rw [hz] at e;have:=MQ r l z.2.1 z.2.2 _ _ _ g;rw [e] at this;exact .inr ⟨h1,hr,h1,_,_,_,_,this⟩
  ·have g:=GC r l _ _ h.nm hr hl h.c h0 z hz (.inl ⟨h1,rfl,rfl⟩);exact .inl ⟨h1,_,_,GD r l z.2.1 z.2.2 _ _ g⟩
 ·rw [if_pos h0];exact .inl ⟨h0,_,_,GD r l ⟨[],[],[],[]⟩ (true,true) 0 _ (MP r l h.n h.nm h0)⟩
theorem MV (r:Ru) (l:List Ev) (h:SmallL r l) : VC Tryz.prog 40 [bN r,cF l] (.tup [.sl 4 ((if gE r l=0 then kt 0 l else []).map Sy.av),I (gE r l)]):=by
 rcases GI r l h with ⟨he,d,a,g⟩|⟨he,hr,h1,a,s,mv,b,g⟩
 ·rw [if_neg he];exact (MR r l d a _ he g).weak fun w M v hv=>wG hv
 ·rw [if_pos he,he];have:=MS r l _ a s mv b g;rw [GF,Lf h1] at this;exact this
theorem Cw (r:Ru) (l:List Ev) (h:SmallL r l) : VC Tryz.prog 35 [bN r,cF l] (.tup [.sl 3 ((if gE r l=0 then fI l 0 l else []).map Wt.av),I (gE r l)]):=by
 rcases GI r l h with ⟨he,d,a,g⟩|⟨he,hr,h1,a,s,mv,b,g⟩
 ·rw [if_neg he];exact (MT r l d a _ he g).weak fun w M v hv=>wG hv
 ·rw [if_pos he,he];have:=MU r l _ a s mv b g;rw [GG,List.nil_append,Lk hr h1] at this;exact this
end Go.Proofs.YtoibondihdhnoaaGreatDoor
