/- Texts in one: Walks: the state behind a log. -/
import Derived.Test.YtoibondihdhnoaaGreatDoorFRZ8
import Derived.Test.YtoibondihdhnoaaGreatDoorFRZ30
import Derived.Test.YtoibondihdhnoaaGreatDoorFRZ31
namespace Go.Proofs.YtoibondihdhnoaaGreatDoor
open Go.RowKit
set_option maxRecDepth 100000
set_option maxHeartbeats 2000000
theorem F8 (r:Ru) (l:List Ev) (n e:Int) (he:e≠0) (g:VH Tryz.prog 85 [] [ct r,dD l,qw] [] [] (.tup [.lit (.pointer none),I n,I e])) :
  VC Tryz.prog 21 [ct r,dD l] (.tup [.agg [aZ,aZ,I 0],I n,I e]):=by
 unfold qw at g;refine aK Tryz.func21 rfl (by kernel_rfl) rfl fun M0 w0=>?_;simp only [Tryz.ntmps21,Tryz.results21,az];repeat' with_reducible apply af
 refine ah [] ?_;repeat' with_reducible first|apply af|apply ae|apply aa|(apply ab;intro X Y;go_simp;apply Y;clear Y X)
 refine ec (bM [] 2 ⟨rfl,rfl⟩ ?_);simp only [aA];repeat' with_reducible first|apply aa|(apply ab;intro X Y;go_simp;apply Y;clear Y X)
 refine eo [] [] [] [] (.tup [.lit (.pointer none),I n,I e]) rfl (by go_simp) ?_ ?_
 ·unfold dM;go_simp;refine ⟨_,_,⟨_,g⟩,?_⟩;go_simp;kernel_rfl
 go_simp;refine bM [] 7 ⟨rfl,rfl⟩ ?_;simp only [aA];repeat' with_reducible first|apply aa|(apply ab;intro X Y;go_simp;apply Y;clear Y X)
 apply c_;repeat' with_reducible first|apply af|apply ae|apply aF|apply aq|apply aa|refine ah [] ?_|(apply ao;·go_simp)|(apply ab;intro X Y;go_simp;apply Y;clear Y X)
 go_simp
theorem Mp (r:Ru) (l:List Ev) (s:St) (m:List Sg) (a:Bool) (g:VH Tryz.prog 85 [] [ct r,dD l,qw] [] [some (.bag 62 1 false none (cA s.q)),some (.box [.osl 0,.osl 2,I s.time,.sl 4 (r.ranks.map Rk.av),I r.back,I r.ret,.sl 3 (m.map Sg.av)]),some (.arr 148 3 a (s.tk.map Tk.av))] (.tup [.ref 1 0,I 0,I 0])) :
  VC Tryz.prog 21 [ct r,dD l] (.tup [ez s,I 0,I 0]):=by
 unfold qw at g;refine aK Tryz.func21 rfl (by kernel_rfl) rfl fun M0 w0=>?_;simp only [Tryz.ntmps21,Tryz.results21,az];repeat' with_reducible apply af
 refine ah [] ?_;repeat' with_reducible first|apply af|apply ae|apply aa|(apply ab;intro X Y;go_simp;apply Y;clear Y X)
 refine ec (bM [] 2 ⟨rfl,rfl⟩ ?_);simp only [aA];repeat' with_reducible first|apply aa|(apply ab;intro X Y;go_simp;apply Y;clear Y X)
 refine eo [] [] [] [some (.bag 62 1 false none (cA s.q)),some (.box [.osl 0,.osl 2,I s.time,.sl 4 (r.ranks.map Rk.av),I r.back,I r.ret,.sl 3 (m.map Sg.av)]),some (.arr 148 3 a (s.tk.map Tk.av))] (.tup [.ref 1 0,I 0,I 0]) rfl (by go_simp) ?_ ?_
 ·unfold dM;go_simp;refine ⟨_,_,⟨_,g⟩,?_⟩;go_simp;kernel_rfl
 go_simp;refine bM [] 7 ⟨rfl,rfl⟩ ?_;simp only [aA];repeat' with_reducible first|apply aa|(apply ab;intro X Y;go_simp;apply Y;clear Y X)
 apply c_;repeat' with_reducible first|apply af|apply ae
 refine ah [] ?_;repeat' with_reducible first|apply af|apply ae|apply aj|apply aa|(apply ak;·go_simp)|(apply ab;intro X Y;go_simp;apply Y;clear Y X)
 refine ah [] ?_;repeat ((with_reducible refine ab fun X Y=>?_);go_simp;refine Y _ ?_;clear Y X)
 apply aa;apply ae;refine fa (fun p a w R=>R.bagArr (id:=1) rfl (by kernel_rfl)) ?_;go_simp;refine hZ 0 0 1 rfl rfl rfl ?_;refine hZ 0 1 3 rfl rfl rfl ?_;repeat' with_reducible apply aq
 go_simp
def stZ:St:=⟨[],[],0⟩
def vO (r:Ru) (l:List Ev) : St×Nat×Int:=if eY r l≠0 then (stZ,0,eY r l) else if (goP r 0 l (st0 r)).2.2≠0 then (stZ,(goP r 0 l (st0 r)).2.1,(goP r 0 l (st0 r)).2.2) else ((goP r 0 l (st0 r)).1,0,0)
theorem F9 {w:World} {M:Nat→Nat→Prop} {v:Value} {n e:Int} (hv:V0 w M (.tup [.agg [aZ,aZ,I 0],I n,I e]) v) : V0 w M (.tup [ez stZ,I n,I e]) v:=by
 cases hv with
 | tup _ us hl hh=>
  refine .tup _ us hl fun i c u hc hu=>?_;rcases i with _|i
  ·simp only [List.getElem?_cons_zero,Option.some.injEq] at hc;subst hc;have h1:=hh 0 _ u rfl hu;cases h1 with
   | agg _ vs iQ h1 h2=>
    refine .agg _ vs iQ (fun c hc=>?_) fun j c2 u2 lK Ch=>?_
    ·simp only [List.mem_cons,List.not_mem_nil,or_false] at hc;rcases hc with rfl|rfl|rfl<;>rfl
    ·rcases j with _|_|_|j
     ·simp only [List.getElem?_cons_zero,Option.some.injEq] at lK;subst lK;exact (h2 0 _ u2 rfl Ch).nilSl 1
     ·simp only [List.getElem?_cons_zero,List.getElem?_cons_succ,Option.some.injEq] at lK;subst lK;exact (h2 1 _ u2 rfl Ch).nilSl 3
     ·simp only [List.getElem?_cons_zero,List.getElem?_cons_succ,Option.some.injEq] at lK;subst lK;exact h2 2 _ u2 rfl Ch
     ·simp at lK
  ·exact hh (i+1) c u hc hu
structure SmallL (r:Ru) (l:List Ev) : Prop where
 n:r.ranks.length≤1000000
 nm:∀ k,k < r.ranks.length→(rat r.ranks k).name.size≤1000
 c:∀ x∈l,x.car.size≤1000
theorem Ci {r:Ru} {l:List Ev} (h:eY r l=0) : RuOK r∧(bY r).2=0∧l.length≤200:=by
 unfold eY at h;rw [bU,bU] at h;exact ⟨(vl h.1).1,h.1,of_decide_eq_true (ew (by decide) h.2.1)⟩
theorem F_ {r:Ru} : ∀ (l:List Ev) (k:Nat) (t:T3),(goP r k l t.1).2.2=0→(runT0 r k l (t,())).1.1=(goP r k l t.1).1
 | [],_,_,_=>rfl
 | x::l,k,t,h=>by
  obtain ⟨h1,h2⟩:=zb h;rw [runT0,goP,if_neg (by simp [h1]),if_neg (by simp [h1])];have e:(stepT r t x).1=(apU r t.1 x).1:=by simp only [stepT,apR,if_pos h1]
  rw [←e] at h2 ⊢;exact F_ l (k+1) (stepT r t x) h2
theorem Mq (r:Ru) (l:List Ev) (h:SmallL r l) : VC Tryz.prog 21 [ct r,dD l] (.tup [ez (vO r l).1,I ((vO r l).2.1:Int),I (vO r l).2.2]):=by
 unfold vO;by_cases h0:eY r l=0
 ·rw [if_neg (by simp [h0])];obtain ⟨hr,_,hl⟩:=Ci h0;by_cases h1:(goP r 0 l (st0 r)).2.2=0
  ·rw [if_neg (by simp [h1])];obtain ⟨z,hz⟩ : ∃ z,runT0 r 0 l (t0 r,())=z:=⟨_,rfl⟩
   have g:=FQ r l _ _ h.nm hr hl h.c h0 z hz (.inr ⟨h1,rfl,rfl⟩);have e:=F_ l 0 (t0 r) h1;rw [hz] at e;have:=Mp r l z.1.1 z.1.2.1 z.1.2.2 g;rw [e] at this;exact this
  ·rw [if_pos h1];obtain ⟨z,hz⟩ : ∃ z,runT0 r 0 l (t0 r,())=z:=⟨_,rfl⟩
   have g:=FQ r l _ _ h.nm hr hl h.c h0 z hz (.inl ⟨h1,rfl,rfl⟩);exact (F8 r l _ _ h1 g).weak fun w M v hv=>F9 hv
 ·rw [if_pos h0];exact (F8 r l 0 _ h0 (L5 r l h.n h.nm h0)).weak fun w M v hv=>F9 hv
end Go.Proofs.YtoibondihdhnoaaGreatDoor
