/- Texts in one: Walks: the state behind a log. -/
import Derived.Test.YtoibondihdhnoaaGreatDoorFRQ9
import Derived.Test.YtoibondihdhnoaaGreatDoorFRQ31
import Derived.Test.YtoibondihdhnoaaGreatDoorFRQ32
namespace Go.Proofs.YtoibondihdhnoaaGreatDoor
open Go.RowKit
set_option maxRecDepth 100000
set_option maxHeartbeats 2000000
theorem Fj (r:Ru) (l:List Ev) (n e:Int) (he:e≠0) (g:VH Tryz.prog 85 [] [bJ r,cp l,qq] [] [] (.tup [.lit (.pointer none),I n,I e])) :
  VC Tryz.prog 21 [bJ r,cp l] (.tup [.agg [bG,bG,I 0],I n,I e]):=by
 unfold qq at g;refine aL Tryz.func21 rfl (by kernel_rfl) rfl fun M0 w0=>?_;simp only [Tryz.ntmps21,Tryz.results21,aC];repeat' with_reducible apply af
 refine ah [] ?_;repeat' with_reducible first|apply af|apply ae|apply aa|(apply ab;intro X Y;go_simp;apply Y;clear Y X)
 refine dm (bb [] 2 ⟨rfl,rfl⟩ ?_);simp only [au];repeat' with_reducible first|apply aa|(apply ab;intro X Y;go_simp;apply Y;clear Y X)
 refine dI [] [] [] [] (.tup [.lit (.pointer none),I n,I e]) rfl (by go_simp) ?_ ?_
 ·unfold dv;go_simp;refine ⟨_,_,⟨_,g⟩,?_⟩;go_simp;kernel_rfl
 go_simp;refine bb [] 7 ⟨rfl,rfl⟩ ?_;simp only [au];repeat' with_reducible first|apply aa|(apply ab;intro X Y;go_simp;apply Y;clear Y X)
 apply cF;repeat' with_reducible first|apply af|apply ae|apply aW|apply az|apply aa|refine ah [] ?_|(apply ax;·go_simp)|(apply ab;intro X Y;go_simp;apply Y;clear Y X)
 go_simp
theorem KE (r:Ru) (l:List Ev) (s:St) (m:List Sg) (a:Bool) (g:VH Tryz.prog 85 [] [bJ r,cp l,qq] [] [some (.bag 62 1 false none (bA s.q)),some (.box [.osl 0,.osl 2,I s.time,.sl 4 (r.ranks.map Rk.av),I r.back,I r.ret,.sl 3 (m.map Sg.av)]),some (.arr 148 3 a (s.tk.map Tk.av))] (.tup [.ref 1 0,I 0,I 0])) :
  VC Tryz.prog 21 [bJ r,cp l] (.tup [dX s,I 0,I 0]):=by
 unfold qq at g;refine aL Tryz.func21 rfl (by kernel_rfl) rfl fun M0 w0=>?_;simp only [Tryz.ntmps21,Tryz.results21,aC];repeat' with_reducible apply af
 refine ah [] ?_;repeat' with_reducible first|apply af|apply ae|apply aa|(apply ab;intro X Y;go_simp;apply Y;clear Y X)
 refine dm (bb [] 2 ⟨rfl,rfl⟩ ?_);simp only [au];repeat' with_reducible first|apply aa|(apply ab;intro X Y;go_simp;apply Y;clear Y X)
 refine dI [] [] [] [some (.bag 62 1 false none (bA s.q)),some (.box [.osl 0,.osl 2,I s.time,.sl 4 (r.ranks.map Rk.av),I r.back,I r.ret,.sl 3 (m.map Sg.av)]),some (.arr 148 3 a (s.tk.map Tk.av))] (.tup [.ref 1 0,I 0,I 0]) rfl (by go_simp) ?_ ?_
 ·unfold dv;go_simp;refine ⟨_,_,⟨_,g⟩,?_⟩;go_simp;kernel_rfl
 go_simp;refine bb [] 7 ⟨rfl,rfl⟩ ?_;simp only [au];repeat' with_reducible first|apply aa|(apply ab;intro X Y;go_simp;apply Y;clear Y X)
 apply cF;repeat' with_reducible first|apply af|apply ae
 refine ah [] ?_;repeat' with_reducible first|apply af|apply ae|apply aw|apply aa|(apply ar;·go_simp)|(apply ab;intro X Y;go_simp;apply Y;clear Y X)
 refine ah [] ?_;repeat ((with_reducible refine ab fun X Y=>?_);go_simp;refine Y _ ?_;clear Y X)
 apply aa;apply ae;refine hZ (fun p a w R=>R.bagArr (id:=1) rfl (by kernel_rfl)) ?_;go_simp;refine gV 0 0 1 rfl rfl rfl ?_;refine gV 0 1 3 rfl rfl rfl ?_;repeat' with_reducible apply az
 go_simp
def stZ:St:=⟨[],[],0⟩
def vr (r:Ru) (l:List Ev) : St×Nat×Int:=if eG r l≠0 then (stZ,0,eG r l) else if (goP r 0 l (st0 r)).2.2≠0 then (stZ,(goP r 0 l (st0 r)).2.1,(goP r 0 l (st0 r)).2.2) else ((goP r 0 l (st0 r)).1,0,0)
theorem Fk {w:World} {M:Nat→Nat→Prop} {v:Value} {n e:Int} (hv:V0 w M (.tup [.agg [bG,bG,I 0],I n,I e]) v) : V0 w M (.tup [dX stZ,I n,I e]) v:=by
 cases hv with
 | tup _ us hl hh=>
  refine .tup _ us hl fun i c u hc hu=>?_;rcases i with _|i
  ·simp only [List.getElem?_cons_zero,Option.some.injEq] at hc;subst hc;have h1:=hh 0 _ u rfl hu;cases h1 with
   | agg _ vs iw h1 h2=>
    refine .agg _ vs iw (fun c hc=>?_) fun j c2 u2 fO rR=>?_
    ·simp only [List.mem_cons,List.not_mem_nil,or_false] at hc;rcases hc with rfl|rfl|rfl<;>rfl
    ·rcases j with _|_|_|j
     ·simp only [List.getElem?_cons_zero,Option.some.injEq] at fO;subst fO;exact (h2 0 _ u2 rfl rR).nilSl 1
     ·simp only [List.getElem?_cons_zero,List.getElem?_cons_succ,Option.some.injEq] at fO;subst fO;exact (h2 1 _ u2 rfl rR).nilSl 3
     ·simp only [List.getElem?_cons_zero,List.getElem?_cons_succ,Option.some.injEq] at fO;subst fO;exact h2 2 _ u2 rfl rR
     ·simp at fO
  ·exact hh (i+1) c u hc hu
structure SmallL (r:Ru) (l:List Ev) : Prop where
 n:r.ranks.length≤1000000
 nm:∀ k,k < r.ranks.length→(rat r.ranks k).name.size≤1000
 c:∀ x∈l,x.car.size≤1000
theorem x_ {r:Ru} {l:List Ev} (h:eG r l=0) : RuOK r∧(dR r).2=0∧l.length≤200:=by
 unfold eG at h;rw [ch,ch] at h;exact ⟨(AU h.1).1,h.1,of_decide_eq_true (eW (by decide) h.2.1)⟩
theorem Fl {r:Ru} : ∀ (l:List Ev) (k:Nat) (t:T3),(goP r k l t.1).2.2=0→(runT0 r k l (t,())).1.1=(goP r k l t.1).1
 | [],_,_,_=>rfl
 | x::l,k,t,h=>by
  obtain ⟨h1,h2⟩:=qx h;rw [runT0,goP,if_neg (by simp [h1]),if_neg (by simp [h1])];have e:(stepT r t x).1=(apU r t.1 x).1:=by simp only [stepT,apR,if_pos h1]
  rw [←e] at h2 ⊢;exact Fl l (k+1) (stepT r t x) h2
theorem KF (r:Ru) (l:List Ev) (h:SmallL r l) : VC Tryz.prog 21 [bJ r,cp l] (.tup [dX (vr r l).1,I ((vr r l).2.1:Int),I (vr r l).2.2]):=by
 unfold vr;by_cases h0:eG r l=0
 ·rw [if_neg (by simp [h0])];obtain ⟨hr,_,hl⟩:=x_ h0;by_cases h1:(goP r 0 l (st0 r)).2.2=0
  ·rw [if_neg (by simp [h1])];obtain ⟨z,hz⟩ : ∃ z,runT0 r 0 l (t0 r,())=z:=⟨_,rfl⟩
   have g:=E0 r l _ _ h.nm hr hl h.c h0 z hz (.inr ⟨h1,rfl,rfl⟩);have e:=Fl l 0 (t0 r) h1;rw [hz] at e;have:=KE r l z.1.1 z.1.2.1 z.1.2.2 g;rw [e] at this;exact this
  ·rw [if_pos h1];obtain ⟨z,hz⟩ : ∃ z,runT0 r 0 l (t0 r,())=z:=⟨_,rfl⟩
   have g:=E0 r l _ _ h.nm hr hl h.c h0 z hz (.inl ⟨h1,rfl,rfl⟩);exact (Fj r l _ _ h1 g).weak fun w M v hv=>Fk hv
 ·rw [if_pos h0];exact (Fj r l 0 _ h0 (Kk r l h.n h.nm h0)).weak fun w M v hv=>Fk hv
end Go.Proofs.YtoibondihdhnoaaGreatDoor
