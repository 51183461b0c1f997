/- Texts in one: Walks: stays and waits of a log. -/
import Derived.Test.YtoibondihdhnoaaGreatDoorFRQ43
import Derived.Test.YtoibondihdhnoaaGreatDoorFRQ44
namespace Go.Proofs.YtoibondihdhnoaaGreatDoor
open Go.RowKit
set_option maxRecDepth 100000
set_option maxHeartbeats 2000000
def fP (r:Ru) (l:List Ev) : Int:=if eG r l≠0 then eG r l else (goP r 0 l (st0 r)).2.2
def lB (log:List Ev) : Nat→List Ev→Dy→Dy
 | _,[],d=>d
 | k,x::l,d=>lB log (k+1) l (eQ log d k x)
theorem Gn (log:List Ev) : ∀ (l:List Ev) (k:Nat) (d:Dy),(lB log k l d).wt=d.wt++tG log k l d.st
 | [],_,d=>(List.append_nil _).symm
 | x::l,k,d=>by
  rw [lB,Gn log l,tG,Fb,←List.append_assoc];congr 1;unfold eQ;split
  ·rename_i h;unfold kX;rw [if_neg (by omega),List.append_nil]
  ·split
   ·rename_i h;unfold kX;rw [if_neg (by omega),List.append_nil]
   ·rfl
theorem BY (log:List Ev) (c:ByteArray) (hc:c≠ByteArray.empty) : ∀ (l:List Ev) (k:Nat) (d:Dy),(∀ x∈l,x.kind=4→x.car=ByteArray.empty)→iF (lB log k l d).sv c=iF d.sv c+r9 c l
 | [],_,d,_=>(Int.add_zero _).symm
 | x::l,k,d,h4=>by
  rw [lB,BY log c hc l _ _ fun y hy=>h4 y (List.mem_cons_of_mem _ hy),r9,←Int.add_assoc];congr 1;unfold eQ;by_cases k4:x.kind=4
  ·have:=h4 x (List.mem_cons_self ..) k4;rw [if_pos k4,if_neg (by rw [this];exact Ne.symm hc),Int.add_zero]
  rw [if_neg k4];by_cases k0:x.kind=0
  ·rw [if_pos k0,Bb,if_neg (show ¬x.kind=1 by omega),if_neg (show ¬x.kind=5 by omega)];split<;>split<;>rfl
  rw [if_neg k0];by_cases k1:x.kind=1
  ·simp only;rw [if_pos k1,if_pos k1,Bb];by_cases e:x.car=c
   ·rw [if_pos e.symm,if_pos e]
   ·rw [if_neg (Ne.symm e),if_neg e]
  simp only;rw [if_neg k1,if_neg k1];by_cases k5:x.kind=5
  ·rw [if_pos k5,if_pos k5,Bb];by_cases e:x.car=c
   ·rw [if_pos e.symm,if_pos e]
   ·rw [if_neg (Ne.symm e),if_neg e]
  ·rw [if_neg k5,if_neg k5];split<;>omega
theorem Gp {r:Ru} {log:List Ev} : ∀ (l:List Ev) (k:Nat) (t:T3) (y:Dy×Bool×Bool),(goP r k l t.1).2.2=0→(runTD log r k l (t,y)).2.1=lB log k l y.1
 | [],_,_,y,_=>rfl
 | x::l,k,t,y,h=>by
  obtain ⟨h1,h2⟩:=qx h;obtain ⟨e1,e2⟩:=BW (t:=t) h1;rw [runTD,if_neg (by simp [h1]),lB];rw [←e1] at h2;rw [Gp l (k+1) (stepT r t x) _ h2]
theorem BZ (r:Ru) (l:List Ev) (h:SmallL r l) : (fP r l≠0∧∃ d a,VH Tryz.prog 95 [] [bJ r,cp l] [] (jI d a) (.tup [.ref 2 0,I (fP r l)])) ∨
  (fP r l=0∧RuOK r∧(goP r 0 l (st0 r)).2.2=0∧∃ (a:Bool×Bool) (s:St) (mv:List Sg) (b:Bool),VH Tryz.prog 95 [] [bJ r,cp l] [] (jI (lB l 0 l ⟨[],[],[],[]⟩) a++[some (.bag 62 1 false none (bA s.q)),some (.box [.osl 6,.osl 8,I s.time,.sl 4 (r.ranks.map Rk.av),I r.back,I r.ret,.sl 3 (mv.map Sg.av)]),some (.arr 148 3 b (s.tk.map Tk.av))]) (.tup [.ref 2 0,I 0])):=by
 unfold fP;by_cases h0:eG r l=0
 ·rw [if_neg (by simp [h0])];obtain ⟨hr,_,hl⟩:=x_ h0;obtain ⟨z,hz⟩ : ∃ z,runTD l r 0 l (t0 r,(⟨[],[],[],[]⟩,true,true))=z:=⟨_,rfl⟩
  by_cases h1:(goP r 0 l (st0 r)).2.2=0
  ·have g:=Gf r l _ _ h.nm hr hl h.c h0 z hz (.inr ⟨h1,rfl,rfl⟩);have e:=Gp (log:=l) l 0 (t0 r) (⟨[],[],[],[]⟩,true,true) h1;rw [hz] at e;have:=ME r l z.2.1 z.2.2 _ _ _ g;rw [e] at this;exact .inr ⟨h1,hr,h1,_,_,_,_,this⟩
  ·have g:=Gf r l _ _ h.nm hr hl h.c h0 z hz (.inl ⟨h1,rfl,rfl⟩);exact .inl ⟨h1,_,_,Gg r l z.2.1 z.2.2 _ _ g⟩
 ·rw [if_pos h0];exact .inl ⟨h0,_,_,Gg r l ⟨[],[],[],[]⟩ (true,true) 0 _ (MD r l h.n h.nm h0)⟩
theorem MJ (r:Ru) (l:List Ev) (h:SmallL r l) : VC Tryz.prog 35 [bJ r,cp l] (.tup [.sl 3 ((if fP r l=0 then tI l 0 l else []).map Wt.av),I (fP r l)]):=by
 rcases BZ r l h with ⟨he,d,a,g⟩|⟨he,hr,h1,a,s,mv,b,g⟩
 ·rw [if_neg he];exact (MF r l d a _ he g).weak fun w M v hv=>yU hv
 ·rw [if_pos he,he];have:=MG r l _ a s mv b g;rw [Gn,List.nil_append,Kt hr h1] at this;exact this
end Go.Proofs.YtoibondihdhnoaaGreatDoor
