/- Texts in one: Walks: the state behind a log. -/
import Derived.Test.YtoibondihdhnoaaGreatDoorFRK9
import Derived.Test.YtoibondihdhnoaaGreatDoorFRK31
import Derived.Test.YtoibondihdhnoaaGreatDoorFRK32
namespace Go.Proofs.YtoibondihdhnoaaGreatDoor
open Go.RowKit
set_option maxRecDepth 100000
set_option maxHeartbeats 2000000
theorem Fh (r:Ru) (l:List Ev) (n e:Int) (he:e≠0) (g:VH Tryz.prog 85 [] [b8 r,ee l,qB] [] [] (.tup [.lit (.pointer none),I n,I e])) :
  VC Tryz.prog 21 [b8 r,ee l] (.tup [.agg [aW,aW,I 0],I n,I e]):=by
 unfold qB at g;refine aQ Tryz.func21 rfl (by kernel_rfl) rfl fun M0 w0=>?_;simp only [Tryz.ntmps21,Tryz.results21,aB];repeat' with_reducible apply af
 refine ah [] ?_;repeat' with_reducible first|apply af|apply ae|apply aa|(apply ab;intro X Y;go_simp;apply Y;clear Y X)
 refine dB (bz [] 2 ⟨rfl,rfl⟩ ?_);simp only [ax];repeat' with_reducible first|apply aa|(apply ab;intro X Y;go_simp;apply Y;clear Y X)
 refine dF [] [] [] [] (.tup [.lit (.pointer none),I n,I e]) rfl (by go_simp) ?_ ?_
 ·unfold dx;go_simp;refine ⟨_,_,⟨_,g⟩,?_⟩;go_simp;kernel_rfl
 go_simp;refine bz [] 7 ⟨rfl,rfl⟩ ?_;simp only [ax];repeat' with_reducible first|apply aa|(apply ab;intro X Y;go_simp;apply Y;clear Y X)
 apply cR;repeat' with_reducible first|apply af|apply ae|apply aT|apply az|apply aa|refine ah [] ?_|(apply aw;·go_simp)|(apply ab;intro X Y;go_simp;apply Y;clear Y X)
 go_simp
theorem KC (r:Ru) (l:List Ev) (s:St) (m:List Sg) (a:Bool) (g:VH Tryz.prog 85 [] [b8 r,ee l,qB] [] [some (.bag 62 1 false none (bo s.q)),some (.box [.osl 0,.osl 2,I s.time,.sl 4 (r.ranks.map Rk.av),I r.back,I r.ret,.sl 3 (m.map Sg.av)]),some (.arr 148 3 a (s.tk.map Tk.av))] (.tup [.ref 1 0,I 0,I 0])) :
  VC Tryz.prog 21 [b8 r,ee l] (.tup [da s,I 0,I 0]):=by
 unfold qB at g;refine aQ Tryz.func21 rfl (by kernel_rfl) rfl fun M0 w0=>?_;simp only [Tryz.ntmps21,Tryz.results21,aB];repeat' with_reducible apply af
 refine ah [] ?_;repeat' with_reducible first|apply af|apply ae|apply aa|(apply ab;intro X Y;go_simp;apply Y;clear Y X)
 refine dB (bz [] 2 ⟨rfl,rfl⟩ ?_);simp only [ax];repeat' with_reducible first|apply aa|(apply ab;intro X Y;go_simp;apply Y;clear Y X)
 refine dF [] [] [] [some (.bag 62 1 false none (bo s.q)),some (.box [.osl 0,.osl 2,I s.time,.sl 4 (r.ranks.map Rk.av),I r.back,I r.ret,.sl 3 (m.map Sg.av)]),some (.arr 148 3 a (s.tk.map Tk.av))] (.tup [.ref 1 0,I 0,I 0]) rfl (by go_simp) ?_ ?_
 ·unfold dx;go_simp;refine ⟨_,_,⟨_,g⟩,?_⟩;go_simp;kernel_rfl
 go_simp;refine bz [] 7 ⟨rfl,rfl⟩ ?_;simp only [ax];repeat' with_reducible first|apply aa|(apply ab;intro X Y;go_simp;apply Y;clear Y X)
 apply cR;repeat' with_reducible first|apply af|apply ae
 refine ah [] ?_;repeat' with_reducible first|apply af|apply ae|apply ar|apply aa|(apply ak;·go_simp)|(apply ab;intro X Y;go_simp;apply Y;clear Y X)
 refine ah [] ?_;repeat ((with_reducible refine ab fun X Y=>?_);go_simp;refine Y _ ?_;clear Y X)
 apply aa;apply ae;refine ir (fun p a w R=>R.bagArr (id:=1) rfl (by kernel_rfl)) ?_;go_simp;refine gA 0 0 1 rfl rfl rfl ?_;refine gA 0 1 3 rfl rfl rfl ?_;repeat' with_reducible apply az
 go_simp
def stZ:St:=⟨[],[],0⟩
def vt (r:Ru) (l:List Ev) : St×Nat×Int:=if fE r l≠0 then (stZ,0,fE r l) else if (goP r 0 l (st0 r)).2.2≠0 then (stZ,(goP r 0 l (st0 r)).2.1,(goP r 0 l (st0 r)).2.2) else ((goP r 0 l (st0 r)).1,0,0)
theorem Fi {w:World} {M:Nat→Nat→Prop} {v:Value} {n e:Int} (hv:V0 w M (.tup [.agg [aW,aW,I 0],I n,I e]) v) : V0 w M (.tup [da stZ,I n,I e]) v:=by
 cases hv with
 | tup _ us hl hh=>
  refine .tup _ us hl fun i c u hc hu=>?_;rcases i with _|i
  ·simp only [List.getElem?_cons_zero,Option.some.injEq] at hc;subst hc;have h1:=hh 0 _ u rfl hu;cases h1 with
   | agg _ vs gJ h1 h2=>
    refine .agg _ vs gJ (fun c hc=>?_) fun j c2 u2 gD Bj=>?_
    ·simp only [List.mem_cons,List.not_mem_nil,or_false] at hc;rcases hc with rfl|rfl|rfl<;>rfl
    ·rcases j with _|_|_|j
     ·simp only [List.getElem?_cons_zero,Option.some.injEq] at gD;subst gD;exact (h2 0 _ u2 rfl Bj).nilSl 1
     ·simp only [List.getElem?_cons_zero,List.getElem?_cons_succ,Option.some.injEq] at gD;subst gD;exact (h2 1 _ u2 rfl Bj).nilSl 3
     ·simp only [List.getElem?_cons_zero,List.getElem?_cons_succ,Option.some.injEq] at gD;subst gD;exact h2 2 _ u2 rfl Bj
     ·simp at gD
  ·exact hh (i+1) c u hc hu
structure SmallL (r:Ru) (l:List Ev) : Prop where
 n:r.ranks.length≤1000000
 nm:∀ k,k < r.ranks.length→(rat r.ranks k).name.size≤1000
 c:∀ x∈l,x.car.size≤1000
theorem Bl {r:Ru} {l:List Ev} (h:fE r l=0) : RuOK r∧(di r).2=0∧l.length≤200:=by
 unfold fE at h;rw [cj,cj] at h;exact ⟨(yg h.1).1,h.1,of_decide_eq_true (ft (by decide) h.2.1)⟩
theorem Fj {r:Ru} : ∀ (l:List Ev) (k:Nat) (t:T3),(goP r k l t.1).2.2=0→(runT0 r k l (t,())).1.1=(goP r k l t.1).1
 | [],_,_,_=>rfl
 | x::l,k,t,h=>by
  obtain ⟨h1,h2⟩:=ym h;rw [runT0,goP,if_neg (by simp [h1]),if_neg (by simp [h1])];have e:(stepT r t x).1=(apU r t.1 x).1:=by simp only [stepT,apR,if_pos h1]
  rw [←e] at h2 ⊢;exact Fj l (k+1) (stepT r t x) h2
theorem KD (r:Ru) (l:List Ev) (h:SmallL r l) : VC Tryz.prog 21 [b8 r,ee l] (.tup [da (vt r l).1,I ((vt r l).2.1:Int),I (vt r l).2.2]):=by
 unfold vt;by_cases h0:fE r l=0
 ·rw [if_neg (by simp [h0])];obtain ⟨hr,_,hl⟩:=Bl h0;by_cases h1:(goP r 0 l (st0 r)).2.2=0
  ·rw [if_neg (by simp [h1])];obtain ⟨z,hz⟩ : ∃ z,runT0 r 0 l (t0 r,())=z:=⟨_,rfl⟩
   have g:=E1 r l _ _ h.nm hr hl h.c h0 z hz (.inr ⟨h1,rfl,rfl⟩);have e:=Fj l 0 (t0 r) h1;rw [hz] at e;have:=KC r l z.1.1 z.1.2.1 z.1.2.2 g;rw [e] at this;exact this
  ·rw [if_pos h1];obtain ⟨z,hz⟩ : ∃ z,runT0 r 0 l (t0 r,())=z:=⟨_,rfl⟩
   have g:=E1 r l _ _ h.nm hr hl h.c h0 z hz (.inl ⟨h1,rfl,rfl⟩);exact (Fh r l _ _ h1 g).weak fun w M v hv=>Fi hv
 ·rw [if_pos h0];exact (Fh r l 0 _ h0 (Ki r l h.n h.nm h0)).weak fun w M v hv=>Fi hv
end Go.Proofs.YtoibondihdhnoaaGreatDoor
