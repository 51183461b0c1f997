/- Texts in one: Walks: the state behind a log. -/
import Derived.Test.YtoibondihdhnoaaDoorFRX33
import Derived.Test.YtoibondihdhnoaaDoorFRX34
namespace Go.Proofs.YtoibondihdhnoaaDoor
open Go.RowKit
set_option maxRecDepth 100000
set_option maxHeartbeats 2000000
theorem b0j (r:Ru) (l:List Ev) (n e:Int) (he:e≠0) (g:VH Tryd.prog 24 [] [c4_ r,w2_ l,b0g] [] [] (.tup [.lit (.pointer none),I n,I e])) :
  VC Tryd.prog 11 [c4_ r,w2_ l] (.tup [.agg [f0_,f0_,I 0],I n,I e]):=by
 unfold b0g at g;refine c0_ Tryd.func11 rfl (by kernel_rfl) (by kernel_rfl) rfl fun M0 w0=>?_;simp only [Tryd.ntmps11,Tryd.results11,b5_];repeat' with_reducible apply a9_
 refine a2_ [] ?_;repeat' first|(with_reducible first|apply a9_|apply a3_|apply a1_)|((with_reducible refine a0_ fun X Y=>?_);go_simp;refine Y _ ?_;clear Y X)
 refine c6_ (b9_ [] 2 ⟨rfl,rfl⟩ ?_);simp only [List.take,List.drop];repeat' first|with_reducible apply a1_|((with_reducible refine a0_ fun X Y=>?_);go_simp;refine Y _ ?_;clear Y X)
 refine e5_ [] [] [] [] (.tup [.lit (.pointer none),I n,I e]) rfl (by go_simp) ?_ ?_
 ·unfold j7_;go_simp;refine ⟨_,_,⟨_,g⟩,?_⟩;go_simp;kernel_rfl
 go_simp;refine b9_ [] 7 ⟨rfl,rfl⟩ ?_;simp only [List.take,List.drop];repeat' first|with_reducible apply a1_|((with_reducible refine a0_ fun X Y=>?_);go_simp;refine Y _ ?_;clear Y X)
 apply e3_;repeat' first|(with_reducible first|apply a9_|apply a3_|apply b4_|apply c5_|apply a1_|refine a2_ [] ?_)|((with_reducible refine a7_ ?_ ?_);(focus (go_simp;done)))|((with_reducible refine a0_ fun X Y=>?_);go_simp;refine Y _ ?_;clear Y X)
 go_simp
theorem c4c (r:Ru) (l:List Ev) (s:St) (m:List Sg) (a:Bool) (g:VH Tryd.prog 24 [] [c4_ r,w2_ l,b0g] [] [some (.bag 81 1 false none (d3_ s.q)),some (.box [.osl 0,.osl 2,I s.time,.sl 4 (r.ranks.map Rk.av),I r.back,I r.ret,.sl 3 (m.map Sg.av)]),some (.arr 85 3 a (s.tk.map Tk.av))] (.tup [.ref 1 0,I 0,I 0])) :
  VC Tryd.prog 11 [c4_ r,w2_ l] (.tup [c9_ s,I 0,I 0]):=by
 unfold b0g at g;refine c0_ Tryd.func11 rfl (by kernel_rfl) (by kernel_rfl) rfl fun M0 w0=>?_;simp only [Tryd.ntmps11,Tryd.results11,b5_];repeat' with_reducible apply a9_
 refine a2_ [] ?_;repeat' first|(with_reducible first|apply a9_|apply a3_|apply a1_)|((with_reducible refine a0_ fun X Y=>?_);go_simp;refine Y _ ?_;clear Y X)
 refine c6_ (b9_ [] 2 ⟨rfl,rfl⟩ ?_);simp only [List.take,List.drop];repeat' first|with_reducible apply a1_|((with_reducible refine a0_ fun X Y=>?_);go_simp;refine Y _ ?_;clear Y X)
 refine e5_ [] [] [] [some (.bag 81 1 false none (d3_ s.q)),some (.box [.osl 0,.osl 2,I s.time,.sl 4 (r.ranks.map Rk.av),I r.back,I r.ret,.sl 3 (m.map Sg.av)]),some (.arr 85 3 a (s.tk.map Tk.av))] (.tup [.ref 1 0,I 0,I 0]) rfl (by go_simp) ?_ ?_
 ·unfold j7_;go_simp;refine ⟨_,_,⟨_,g⟩,?_⟩;go_simp;kernel_rfl
 go_simp;refine b9_ [] 7 ⟨rfl,rfl⟩ ?_;simp only [List.take,List.drop];repeat' first|with_reducible apply a1_|((with_reducible refine a0_ fun X Y=>?_);go_simp;refine Y _ ?_;clear Y X)
 apply e3_;repeat' with_reducible first|apply a9_|apply a3_
 refine a2_ [] ?_;repeat' first|(with_reducible first|apply a9_|apply a3_|apply b0_|apply a1_)|((with_reducible refine a6_ ?_ ?_);(focus (go_simp;done)))|((with_reducible refine a0_ fun X Y=>?_);go_simp;refine Y _ ?_;clear Y X)
 refine a2_ [] ?_;repeat ((with_reducible refine a0_ fun X Y=>?_);go_simp;refine Y _ ?_;clear Y X)
 apply a1_;apply a3_;refine u0_ (fun p a w R=>R.bagArr (id:=1) rfl (by kernel_rfl)) ?_;go_simp;refine d7_ 0 0 1 rfl rfl rfl ?_;refine d7_ 0 1 3 rfl rfl rfl ?_;repeat' with_reducible apply c5_
 go_simp
def stZ:St:=⟨[],[],0⟩
def c7u (r:Ru) (l:List Ev) : St×Nat×Int:=if a3h r l≠0 then (stZ,0,a3h r l) else if (goP r 0 l (st0 r)).2.2≠0 then (stZ,(goP r 0 l (st0 r)).2.1,(goP r 0 l (st0 r)).2.2) else ((goP r 0 l (st0 r)).1,0,0)
theorem b0k {w:World} {M:Nat→Nat→Prop} {v:Value} {n e:Int} (hv:V0 w M (.tup [.agg [f0_,f0_,I 0],I n,I e]) v) : V0 w M (.tup [c9_ stZ,I n,I e]) v:=by
 cases hv with
 | tup _ us hl hh=>
  refine .tup _ us hl fun i c u hc hu=>?_;rcases i with _|i
  ·simp only [List.getElem?_cons_zero,Option.some.injEq] at hc;subst hc;have h1:=hh 0 _ u rfl hu;cases h1 with
   | agg _ vs hvl h1 h2=>
    refine .agg _ vs hvl (fun c hc=>?_) fun j c2 u2 hc2 hu2=>?_
    ·simp only [List.mem_cons,List.not_mem_nil,or_false] at hc;rcases hc with rfl|rfl|rfl<;>rfl
    ·rcases j with _|_|_|j
     ·simp only [List.getElem?_cons_zero,Option.some.injEq] at hc2;subst hc2;exact (h2 0 _ u2 rfl hu2).nilSl 1
     ·simp only [List.getElem?_cons_zero,List.getElem?_cons_succ,Option.some.injEq] at hc2;subst hc2;exact (h2 1 _ u2 rfl hu2).nilSl 3
     ·simp only [List.getElem?_cons_zero,List.getElem?_cons_succ,Option.some.injEq] at hc2;subst hc2;exact h2 2 _ u2 rfl hu2
     ·simp at hc2
  ·exact hh (i+1) c u hc hu
structure SmallL (r:Ru) (l:List Ev) : Prop where
 n:r.ranks.length≤1000000
 nm:∀ k,k < r.ranks.length→(rat r.ranks k).name.size≤1000
 c:∀ x∈l,x.car.size≤1000
theorem b2k {r:Ru} {l:List Ev} (h:a3h r l=0) : RuOK r∧(d6_ r).2=0∧l.length≤200:=by
 unfold a3h at h;rw [b2_,b2_] at h;exact ⟨(a2g h.1).1,h.1,of_decide_eq_true (c7_ (by decide) h.2.1)⟩
theorem b4q {r:Ru} : ∀ (l:List Ev) (k:Nat) (t:T3),(goP r k l t.1).2.2=0→(runT0 r k l (t,())).1.1=(goP r k l t.1).1
 | [],_,_,_=>rfl
 | x::l,k,t,h=>by
  obtain ⟨h1,h2⟩:=a4h h;rw [runT0,goP,if_neg (by simp [h1]),if_neg (by simp [h1])];have e:(stepT r t x).1=(apU r t.1 x).1:=by simp only [stepT,apR,if_pos h1]
  rw [←e] at h2 ⊢;exact b4q l (k+1) (stepT r t x) h2
theorem b4r (r:Ru) (l:List Ev) (h:SmallL r l) : VC Tryd.prog 11 [c4_ r,w2_ l] (.tup [c9_ (c7u r l).1,I ((c7u r l).2.1:Int),I (c7u r l).2.2]):=by
 unfold c7u;by_cases h0:a3h r l=0
 ·rw [if_neg (by simp [h0])];obtain ⟨hr,_,hl⟩:=b2k h0;by_cases h1:(goP r 0 l (st0 r)).2.2=0
  ·rw [if_neg (by simp [h1])];obtain ⟨z,hz⟩ : ∃ z,runT0 r 0 l (t0 r,())=z:=⟨_,rfl⟩
   have g:=b0h r l _ _ h.nm hr hl h.c h0 z hz (.inr ⟨h1,rfl,rfl⟩);have e:=b4q l 0 (t0 r) h1;rw [hz] at e;have:=c4c r l z.1.1 z.1.2.1 z.1.2.2 g;rw [e] at this;exact this
  ·rw [if_pos h1];obtain ⟨z,hz⟩ : ∃ z,runT0 r 0 l (t0 r,())=z:=⟨_,rfl⟩
   have g:=b0h r l _ _ h.nm hr hl h.c h0 z hz (.inl ⟨h1,rfl,rfl⟩);exact (b0j r l _ _ h1 g).weak fun w M v hv=>b0k hv
 ·rw [if_pos h0];exact (b0j r l 0 _ h0 (b6l r l h.n h.nm h0)).weak fun w M v hv=>b0k hv
end Go.Proofs.YtoibondihdhnoaaDoor
