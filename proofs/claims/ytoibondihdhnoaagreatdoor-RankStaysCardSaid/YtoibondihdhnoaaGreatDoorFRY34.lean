/- Texts in one: Walks: the state behind a log. -/
import Derived.Test.YtoibondihdhnoaaGreatDoorFRY8
import Derived.Test.YtoibondihdhnoaaGreatDoorFRY30
import Derived.Test.YtoibondihdhnoaaGreatDoorFRY31
namespace Go.Proofs.YtoibondihdhnoaaGreatDoor
open Go.RowKit
set_option maxRecDepth 100000
set_option maxHeartbeats 2000000
theorem FK (r:Ru) (l:List Ev) (n e:Int) (he:e≠0) (g:VH Tryz.prog 85 [] [bN r,cF l,qE] [] [] (.tup [.lit (.pointer none),I n,I e])) :
  VC Tryz.prog 21 [bN r,cF l] (.tup [.agg [bz,bz,I 0],I n,I e]):=by
 unfold qE at g;refine aJ Tryz.func21 rfl (by kernel_rfl) rfl fun M0 w0=>?_;simp only [Tryz.ntmps21,Tryz.results21,aC];repeat' with_reducible apply af
 refine ah [] ?_;repeat' with_reducible first|apply af|apply ae|apply aa|(apply ab;intro X Y;go_simp;apply Y;clear Y X)
 refine eC (bM [] 2 ⟨rfl,rfl⟩ ?_);simp only [aA];repeat' with_reducible first|apply aa|(apply ab;intro X Y;go_simp;apply Y;clear Y X)
 refine eI [] [] [] [] (.tup [.lit (.pointer none),I n,I e]) rfl (by go_simp) ?_ ?_
 ·unfold dU;go_simp;refine ⟨_,_,⟨_,g⟩,?_⟩;go_simp;kernel_rfl
 go_simp;refine bM [] 7 ⟨rfl,rfl⟩ ?_;simp only [aA];repeat' with_reducible first|apply aa|(apply ab;intro X Y;go_simp;apply Y;clear Y X)
 apply da;repeat' with_reducible first|apply af|apply ae|apply aR|apply aw|apply aa|refine ah [] ?_|(apply au;·go_simp)|(apply ab;intro X Y;go_simp;apply Y;clear Y X)
 go_simp
theorem Lu (r:Ru) (l:List Ev) (s:St) (m:List Sg) (a:Bool) (g:VH Tryz.prog 85 [] [bN r,cF l,qE] [] [some (.bag 62 1 false none (bx s.q)),some (.box [.osl 0,.osl 2,I s.time,.sl 4 (r.ranks.map Rk.av),I r.back,I r.ret,.sl 3 (m.map Sg.av)]),some (.arr 148 3 a (s.tk.map Tk.av))] (.tup [.ref 1 0,I 0,I 0])) :
  VC Tryz.prog 21 [bN r,cF l] (.tup [dH s,I 0,I 0]):=by
 unfold qE at g;refine aJ Tryz.func21 rfl (by kernel_rfl) rfl fun M0 w0=>?_;simp only [Tryz.ntmps21,Tryz.results21,aC];repeat' with_reducible apply af
 refine ah [] ?_;repeat' with_reducible first|apply af|apply ae|apply aa|(apply ab;intro X Y;go_simp;apply Y;clear Y X)
 refine eC (bM [] 2 ⟨rfl,rfl⟩ ?_);simp only [aA];repeat' with_reducible first|apply aa|(apply ab;intro X Y;go_simp;apply Y;clear Y X)
 refine eI [] [] [] [some (.bag 62 1 false none (bx s.q)),some (.box [.osl 0,.osl 2,I s.time,.sl 4 (r.ranks.map Rk.av),I r.back,I r.ret,.sl 3 (m.map Sg.av)]),some (.arr 148 3 a (s.tk.map Tk.av))] (.tup [.ref 1 0,I 0,I 0]) rfl (by go_simp) ?_ ?_
 ·unfold dU;go_simp;refine ⟨_,_,⟨_,g⟩,?_⟩;go_simp;kernel_rfl
 go_simp;refine bM [] 7 ⟨rfl,rfl⟩ ?_;simp only [aA];repeat' with_reducible first|apply aa|(apply ab;intro X Y;go_simp;apply Y;clear Y X)
 apply da;repeat' with_reducible first|apply af|apply ae
 refine ah [] ?_;repeat' with_reducible first|apply af|apply ae|apply ao|apply aa|(apply aj;·go_simp)|(apply ab;intro X Y;go_simp;apply Y;clear Y X)
 refine ah [] ?_;repeat ((with_reducible refine ab fun X Y=>?_);go_simp;refine Y _ ?_;clear Y X)
 apply aa;apply ae;refine ib (fun p a w R=>R.bagArr (id:=1) rfl (by kernel_rfl)) ?_;go_simp;refine gN 0 0 1 rfl rfl rfl ?_;refine gN 0 1 3 rfl rfl rfl ?_;repeat' with_reducible apply aw
 go_simp
def stZ:St:=⟨[],[],0⟩
def pR (r:Ru) (l:List Ev) : St×Nat×Int:=if dR r l≠0 then (stZ,0,dR r l) else if (goP r 0 l (st0 r)).2.2≠0 then (stZ,(goP r 0 l (st0 r)).2.1,(goP r 0 l (st0 r)).2.2) else ((goP r 0 l (st0 r)).1,0,0)
theorem FL {w:World} {M:Nat→Nat→Prop} {v:Value} {n e:Int} (hv:V0 w M (.tup [.agg [bz,bz,I 0],I n,I e]) v) : V0 w M (.tup [dH stZ,I n,I e]) v:=by
 cases hv with
 | tup _ us hl hh=>
  refine .tup _ us hl fun i c u hc hu=>?_;rcases i with _|i
  ·simp only [List.getElem?_cons_zero,Option.some.injEq] at hc;subst hc;have h1:=hh 0 _ u rfl hu;cases h1 with
   | agg _ vs ix h1 h2=>
    refine .agg _ vs ix (fun c hc=>?_) fun j c2 u2 gr sw=>?_
    ·simp only [List.mem_cons,List.not_mem_nil,or_false] at hc;rcases hc with rfl|rfl|rfl<;>rfl
    ·rcases j with _|_|_|j
     ·simp only [List.getElem?_cons_zero,Option.some.injEq] at gr;subst gr;exact (h2 0 _ u2 rfl sw).nilSl 1
     ·simp only [List.getElem?_cons_zero,List.getElem?_cons_succ,Option.some.injEq] at gr;subst gr;exact (h2 1 _ u2 rfl sw).nilSl 3
     ·simp only [List.getElem?_cons_zero,List.getElem?_cons_succ,Option.some.injEq] at gr;subst gr;exact h2 2 _ u2 rfl sw
     ·simp at gr
  ·exact hh (i+1) c u hc hu
structure SmallL (r:Ru) (l:List Ev) : Prop where
 n:r.ranks.length≤1000000
 nm:∀ k,k < r.ranks.length→(rat r.ranks k).name.size≤1000
 c:∀ x∈l,x.car.size≤1000
theorem yT {r:Ru} {l:List Ev} (h:dR r l=0) : RuOK r∧(dm r).2=0∧l.length≤200:=by
 unfold dR at h;rw [cm,cm] at h;exact ⟨(uc h.1).1,h.1,of_decide_eq_true (eQ (by decide) h.2.1)⟩
theorem FM {r:Ru} : ∀ (l:List Ev) (k:Nat) (t:T3),(goP r k l t.1).2.2=0→(runT0 r k l (t,())).1.1=(goP r k l t.1).1
 | [],_,_,_=>rfl
 | x::l,k,t,h=>by
  obtain ⟨h1,h2⟩:=uh h;rw [runT0,goP,if_neg (by simp [h1]),if_neg (by simp [h1])];have e:(stepT r t x).1=(apU r t.1 x).1:=by simp only [stepT,apR,if_pos h1]
  rw [←e] at h2 ⊢;exact FM l (k+1) (stepT r t x) h2
theorem FN (r:Ru) (l:List Ev) (h:SmallL r l) : VC Tryz.prog 21 [bN r,cF l] (.tup [dH (pR r l).1,I ((pR r l).2.1:Int),I (pR r l).2.2]):=by
 unfold pR;by_cases h0:dR r l=0
 ·rw [if_neg (by simp [h0])];obtain ⟨hr,_,hl⟩:=yT h0;by_cases h1:(goP r 0 l (st0 r)).2.2=0
  ·rw [if_neg (by simp [h1])];obtain ⟨z,hz⟩ : ∃ z,runT0 r 0 l (t0 r,())=z:=⟨_,rfl⟩
   have g:=Fv r l _ _ h.nm hr hl h.c h0 z hz (.inr ⟨h1,rfl,rfl⟩);have e:=FM l 0 (t0 r) h1;rw [hz] at e;have:=Lu r l z.1.1 z.1.2.1 z.1.2.2 g;rw [e] at this;exact this
  ·rw [if_pos h1];obtain ⟨z,hz⟩ : ∃ z,runT0 r 0 l (t0 r,())=z:=⟨_,rfl⟩
   have g:=Fv r l _ _ h.nm hr hl h.c h0 z hz (.inl ⟨h1,rfl,rfl⟩);exact (FK r l _ _ h1 g).weak fun w M v hv=>FL hv
 ·rw [if_pos h0];exact (FK r l 0 _ h0 (K6 r l h.n h.nm h0)).weak fun w M v hv=>FL hv
end Go.Proofs.YtoibondihdhnoaaGreatDoor
