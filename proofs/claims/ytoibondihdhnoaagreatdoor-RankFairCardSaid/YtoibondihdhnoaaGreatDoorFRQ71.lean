/- Texts in one: Walks: the least and the greatest of a diary's numbers, in whichever order they come. -/
import Derived.Test.YtoibondihdhnoaaGreatDoorFRQ9
import Derived.Test.YtoibondihdhnoaaGreatDoorFRQ10
import Derived.Test.YtoibondihdhnoaaGreatDoorFRQ70
import Derived.Test.YtoibondihdhnoaaGreatDoorFRQ14
namespace Go.Proofs.YtoibondihdhnoaaGreatDoor
open Go.RowKit
set_option maxRecDepth 100000
set_option maxHeartbeats 4000000
def vlA (q:Value×Value) : List AV:=[.lit q.2]
def zy (done:List (Value×Value)) : VS:=⟨[(4,.ref 0 0),(8,.osl 10)],[some (.box [I 0,I 0]),none,none,none,none,none,none,none,none,none,some (.arr 3 1 (decide (done=[])) (done.map vlA))]⟩
theorem PK (r:Ru) (l:List Ev) (op sv:List (Value×Value)) (S4 W3 TK MV:List (List AV)) (f1 f2 f3:Bool) (Q1:List (List (List AV))) (tm:Int)
  (g:VH Tryz.prog 95 [] [bJ r,cp l] [] [some (.mpo (4,.i64) op),some (.mpo (4,.i64) sv),some (.box [.osl 4,.mp 0,.osl 5,.mp 1]),some (.box [.ref 2 0]),some (.arr 167 4 f1 S4),some (.arr 67 3 f2 W3),some (.bag 62 1 false none Q1),some (.box [.osl 6,.osl 8,I tm,.sl 4 (r.ranks.map Rk.av),I r.back,I r.ret,.sl 3 MV]),some (.arr 148 3 f3 TK)] (.tup [.ref 2 0,I 0]))
  (g3:VC Tryz.prog 89 [B true,I 12] (I 0)) (g4:VC Tryz.prog 88 [.sl 1 [[I 0],[I 0]]] (I 0)) (h0:0 < sv.length) (hl:sv.length≤1000000) (hint:∀ q∈sv,∃ v:Int,q.2 = .int .i64 v) {lo hi:Int}
  (mq:∀ done:List (Value×Value),done.Perm sv→VC Tryz.prog 119 [.sl 1 (done.map vlA)] (I lo)∧VC Tryz.prog 120 [.sl 1 (done.map vlA)] (I hi)) :
  VC Tryz.prog 58 [bJ r,cp l] (.tup [.agg [I lo,I hi],I 0]):=by
 have HI:=Lib.hid hint;have HM:=Lib.hid mq;clear hint mq;refine aL Tryz.func58 rfl (by kernel_rfl) rfl fun M0 w0=>?_;simp only [Tryz.ntmps58,Tryz.results58,aC];repeat' with_reducible apply af
 refine ah [] ?_;repeat' with_reducible first|apply af|apply ae|apply aa|(apply ab;intro X Y;go_simp;apply Y;clear Y X)
 refine dm (bb [] 2 ⟨rfl,rfl⟩ ?_);simp only [au];repeat' with_reducible first|apply aa|(apply ab;intro X Y;go_simp;apply Y;clear Y X)
 refine dI [] [] [] [some (.mpo (4,.i64) op),some (.mpo (4,.i64) sv),some (.box [.osl 4,.mp 0,.osl 5,.mp 1]),some (.box [.ref 2 0]),some (.arr 167 4 f1 S4),some (.arr 67 3 f2 W3),some (.bag 62 1 false none Q1),some (.box [.osl 6,.osl 8,I tm,.sl 4 (r.ranks.map Rk.av),I r.back,I r.ret,.sl 3 MV]),some (.arr 148 3 f3 TK)] (.tup [.ref 2 0,I 0]) rfl (by go_simp) ?_ ?_
 ·unfold dv;go_simp;refine ⟨_,_,⟨_,g⟩,?_⟩;go_simp;kernel_rfl
 go_simp;refine bb [] 5 ⟨rfl,rfl⟩ ?_;simp only [au];repeat' with_reducible first|apply aa|(apply ab;intro X Y;go_simp;apply Y;clear Y X)
 apply cF;have cj:(0:Int) < sv.length:=by omega
 repeat' with_reducible first|apply af|apply ae
 refine dm (bb [] 5 ⟨rfl,rfl⟩ ?_);simp only [au];repeat' with_reducible first|apply aa|(apply ab;intro X Y;go_simp;apply Y;clear Y X)
 refine uF (id:=2) (kf:=(4,.i64)) (kvs:=sv) (kt:=9) (et:=3) ⟨rfl,rfl,rfl⟩ (by kernel_rfl) (by go_simp) (by go_simp) ?_;refine bb [] 5 ⟨rfl,rfl⟩ ?_;simp only [au];repeat' first|with_reducible apply aa|((with_reducible apply ab);intro X Y;go_simp;(first|(refine ⟨_,g3,?_⟩)|(refine ⟨_,g4,?_⟩)|skip);apply Y;clear Y X)
 apply cF;repeat' with_reducible first|apply af|apply ae
 refine ah [] ?_;repeat' with_reducible first|apply af|apply ae|apply aw|apply aa|(apply ar;·go_simp)|(apply ab;intro X Y;go_simp;apply Y;clear Y X)
 refine ah [8] ?_;repeat ((with_reducible refine ab fun X Y=>?_);go_simp;refine Y _ ?_;clear Y X)
 apply aa;apply ae;apply af;refine Pm (n6:=4) (idm:=2) (kf:=(4,.i64)) (kvs:=sv) (ti:=35) (tn:=36) (tb:=37) (te:=38) (tv:=39) (td:=10) (ty:=158) (x:=.tmp 34) (ro:=?ro) zy ⟨9,3,by kernel_rfl⟩ ?h1 ⟨rfl,rfl,rfl⟩ ⟨rfl,rfl,rfl⟩ ⟨rfl,rfl,rfl⟩ ⟨rfl,rfl,rfl⟩ ⟨rfl,rfl,rfl⟩ (by decide) ?hJ ?hl ?h ?hr ?he
 case hl=>rfl
 case h1=>exact ⟨rfl,rfl,rfl⟩
 case hJ=>rintro done t (rfl|rfl|rfl|rfl|rfl|rfl)<;>rfl
 case h=>
  simp only [List.take];repeat ((with_reducible refine ab fun X Y=>?_);go_simp;refine Y _ ?_;clear Y X)
  apply aa;refine ⟨by go_simp,by go_simp,?_⟩;unfold zy;go_simp
 case hr=>
  rintro done q ⟨rest,hp⟩ M1 w1 rr;obtain ⟨v,hv⟩:=HI.out q (hp.subset (by simp));have hlen:(done++q::rest).length=sv.length:=hp.length_eq;have hb:done.length+1≤1000000000:=by
   rw [List.length_append,List.length_cons] at hlen;omega
  rw [hv];unfold zy;skip
  refine ah [] ?_;repeat' with_reducible first|apply aa|(apply ab;intro X Y;go_simp;apply Y;clear Y X)
  have e1:decide (done++[q]=[])=false:=by simp
  have e2:(done++[q]).map vlA=done.map vlA++[[.lit (.int .i64 v)]]:=by
   rw [List.map_append];simp [vlA,hv]
  refine ⟨rfl,?_⟩;simp only [e1,e2];go_simp
 case he=>
  intro done hp;obtain ⟨gm,gx⟩:=HM.out done hp;unfold zy;apply ae;refine oU 8 10 rfl rfl ?_;simp only [List.set];repeat' first|(with_reducible first|apply af|apply ae|apply az|apply aa|refine ah [] ?_)|((with_reducible apply ab);intro X Y;go_simp;(first|(refine ⟨_,gm,?_⟩)|(refine ⟨_,gx,?_⟩)|skip);apply Y;clear Y X)
  go_simp
theorem PL (r:Ru) (l:List Ev) (op sv:List (Value×Value)) (S4 W3:List (List AV)) (f1 f2:Bool) (e U E:Int) (he:E≠0)
  (g:VH Tryz.prog 95 [] [bJ r,cp l] [] [some (.mpo (4,.i64) op),some (.mpo (4,.i64) sv),some (.box [.osl 4,.mp 0,.osl 5,.mp 1]),some (.box [.ref 2 0]),some (.arr 167 4 f1 S4),some (.arr 67 3 f2 W3)] (.tup [.ref 2 0,I e]))
  (g3:VC Tryz.prog 89 [B (decide ((0:Int) < sv.length)),I 12] (I U)) (g4:VC Tryz.prog 88 [.sl 1 [[I e],[I U]]] (I E)) :
  VC Tryz.prog 58 [bJ r,cp l] (.tup [.agg [I 0,I 0],I E]):=by
 by_cases hp:sv=[]
 ·subst hp;have g3:VC Tryz.prog 89 [B false,I 12] (I U):=g3;refine aL Tryz.func58 rfl (by kernel_rfl) rfl fun M0 w0=>?_;simp only [Tryz.ntmps58,Tryz.results58,aC];repeat' with_reducible apply af
  refine ah [] ?_;repeat' with_reducible first|apply af|apply ae|apply aa|(apply ab;intro X Y;go_simp;apply Y;clear Y X)
  refine dm (bb [] 2 ⟨rfl,rfl⟩ ?_);simp only [au];repeat' with_reducible first|apply aa|(apply ab;intro X Y;go_simp;apply Y;clear Y X)
  refine dI [] [] [] [some (.mpo (4,.i64) op),some (.mpo (4,.i64) []),some (.box [.osl 4,.mp 0,.osl 5,.mp 1]),some (.box [.ref 2 0]),some (.arr 167 4 f1 S4),some (.arr 67 3 f2 W3)] (.tup [.ref 2 0,I e]) rfl (by go_simp) ?_ ?_
  ·unfold dv;go_simp;refine ⟨_,_,⟨_,g⟩,?_⟩;go_simp;kernel_rfl
  go_simp;refine bb [] 5 ⟨rfl,rfl⟩ ?_;simp only [au];repeat' with_reducible first|apply aa|(apply ab;intro X Y;go_simp;apply Y;clear Y X)
  apply cF;repeat' with_reducible first|apply af|apply ae
  refine dm (bb [] 5 ⟨rfl,rfl⟩ ?_);simp only [au];repeat' with_reducible first|apply aa|(apply ab;intro X Y;go_simp;apply Y;clear Y X)
  refine uF (id:=2) (kf:=(4,.i64)) (kvs:=[]) (kt:=9) (et:=3) ⟨rfl,rfl,rfl⟩ (by kernel_rfl) (by go_simp) (by go_simp) ?_;refine bb [] 5 ⟨rfl,rfl⟩ ?_;simp only [au];repeat' first|with_reducible apply aa|((with_reducible apply ab);intro X Y;go_simp;(first|(refine ⟨_,g3,?_⟩)|(refine ⟨_,g4,?_⟩)|skip);apply Y;clear Y X)
  apply cF;repeat' with_reducible first|apply af|apply ae|apply aW|apply az|apply aa|refine ah [] ?_|(apply ax;·go_simp)|(apply ab;intro X Y;go_simp;apply Y;clear Y X)
  go_simp
 ·have h0:0 < sv.length:=List.length_pos_iff.2 hp;have cj:(0:Int) < sv.length:=by omega
  rw [decide_eq_true cj] at g3;clear hp;refine aL Tryz.func58 rfl (by kernel_rfl) rfl fun M0 w0=>?_;simp only [Tryz.ntmps58,Tryz.results58,aC];repeat' with_reducible apply af
  refine ah [] ?_;repeat' with_reducible first|apply af|apply ae|apply aa|(apply ab;intro X Y;go_simp;apply Y;clear Y X)
  refine dm (bb [] 2 ⟨rfl,rfl⟩ ?_);simp only [au];repeat' with_reducible first|apply aa|(apply ab;intro X Y;go_simp;apply Y;clear Y X)
  refine dI [] [] [] [some (.mpo (4,.i64) op),some (.mpo (4,.i64) sv),some (.box [.osl 4,.mp 0,.osl 5,.mp 1]),some (.box [.ref 2 0]),some (.arr 167 4 f1 S4),some (.arr 67 3 f2 W3)] (.tup [.ref 2 0,I e]) rfl (by go_simp) ?_ ?_
  ·unfold dv;go_simp;refine ⟨_,_,⟨_,g⟩,?_⟩;go_simp;kernel_rfl
  go_simp;refine bb [] 5 ⟨rfl,rfl⟩ ?_;simp only [au];repeat' with_reducible first|apply aa|(apply ab;intro X Y;go_simp;apply Y;clear Y X)
  apply cF;repeat' with_reducible first|apply af|apply ae
  refine dm (bb [] 5 ⟨rfl,rfl⟩ ?_);simp only [au];repeat' with_reducible first|apply aa|(apply ab;intro X Y;go_simp;apply Y;clear Y X)
  refine uF (id:=2) (kf:=(4,.i64)) (kvs:=sv) (kt:=9) (et:=3) ⟨rfl,rfl,rfl⟩ (by kernel_rfl) (by go_simp) (by go_simp) ?_;refine bb [] 5 ⟨rfl,rfl⟩ ?_;simp only [au];repeat' first|with_reducible apply aa|((with_reducible apply ab);intro X Y;go_simp;(first|(refine ⟨_,g3,?_⟩)|(refine ⟨_,g4,?_⟩)|skip);apply Y;clear Y X)
  apply cF;repeat' with_reducible first|apply af|apply ae|apply aW|apply az|apply aa|refine ah [] ?_|(apply ax;·go_simp)|(apply ab;intro X Y;go_simp;apply Y;clear Y X)
  go_simp
theorem PM (r:Ru) (l:List Ev) (op sv:List (Value×Value)) (S4 W3 TK MV:List (List AV)) (f1 f2 f3:Bool) (Q1:List (List (List AV))) (tm:Int) (e U E:Int) (he:E≠0)
  (g:VH Tryz.prog 95 [] [bJ r,cp l] [] [some (.mpo (4,.i64) op),some (.mpo (4,.i64) sv),some (.box [.osl 4,.mp 0,.osl 5,.mp 1]),some (.box [.ref 2 0]),some (.arr 167 4 f1 S4),some (.arr 67 3 f2 W3),some (.bag 62 1 false none Q1),some (.box [.osl 6,.osl 8,I tm,.sl 4 (r.ranks.map Rk.av),I r.back,I r.ret,.sl 3 MV]),some (.arr 148 3 f3 TK)] (.tup [.ref 2 0,I e]))
  (g3:VC Tryz.prog 89 [B (decide ((0:Int) < sv.length)),I 12] (I U)) (g4:VC Tryz.prog 88 [.sl 1 [[I e],[I U]]] (I E)) :
  VC Tryz.prog 58 [bJ r,cp l] (.tup [.agg [I 0,I 0],I E]):=by
 by_cases hp:sv=[]
 ·subst hp;have g3:VC Tryz.prog 89 [B false,I 12] (I U):=g3;refine aL Tryz.func58 rfl (by kernel_rfl) rfl fun M0 w0=>?_;simp only [Tryz.ntmps58,Tryz.results58,aC];repeat' with_reducible apply af
  refine ah [] ?_;repeat' with_reducible first|apply af|apply ae|apply aa|(apply ab;intro X Y;go_simp;apply Y;clear Y X)
  refine dm (bb [] 2 ⟨rfl,rfl⟩ ?_);simp only [au];repeat' with_reducible first|apply aa|(apply ab;intro X Y;go_simp;apply Y;clear Y X)
  refine dI [] [] [] [some (.mpo (4,.i64) op),some (.mpo (4,.i64) []),some (.box [.osl 4,.mp 0,.osl 5,.mp 1]),some (.box [.ref 2 0]),some (.arr 167 4 f1 S4),some (.arr 67 3 f2 W3),some (.bag 62 1 false none Q1),some (.box [.osl 6,.osl 8,I tm,.sl 4 (r.ranks.map Rk.av),I r.back,I r.ret,.sl 3 MV]),some (.arr 148 3 f3 TK)] (.tup [.ref 2 0,I e]) rfl (by go_simp) ?_ ?_
  ·unfold dv;go_simp;refine ⟨_,_,⟨_,g⟩,?_⟩;go_simp;kernel_rfl
  go_simp;refine bb [] 5 ⟨rfl,rfl⟩ ?_;simp only [au];repeat' with_reducible first|apply aa|(apply ab;intro X Y;go_simp;apply Y;clear Y X)
  apply cF;repeat' with_reducible first|apply af|apply ae
  refine dm (bb [] 5 ⟨rfl,rfl⟩ ?_);simp only [au];repeat' with_reducible first|apply aa|(apply ab;intro X Y;go_simp;apply Y;clear Y X)
  refine uF (id:=2) (kf:=(4,.i64)) (kvs:=[]) (kt:=9) (et:=3) ⟨rfl,rfl,rfl⟩ (by kernel_rfl) (by go_simp) (by go_simp) ?_;refine bb [] 5 ⟨rfl,rfl⟩ ?_;simp only [au];repeat' first|with_reducible apply aa|((with_reducible apply ab);intro X Y;go_simp;(first|(refine ⟨_,g3,?_⟩)|(refine ⟨_,g4,?_⟩)|skip);apply Y;clear Y X)
  apply cF;repeat' with_reducible first|apply af|apply ae|apply aW|apply az|apply aa|refine ah [] ?_|(apply ax;·go_simp)|(apply ab;intro X Y;go_simp;apply Y;clear Y X)
  go_simp
 ·have h0:0 < sv.length:=List.length_pos_iff.2 hp;have cj:(0:Int) < sv.length:=by omega
  rw [decide_eq_true cj] at g3;clear hp;refine aL Tryz.func58 rfl (by kernel_rfl) rfl fun M0 w0=>?_;simp only [Tryz.ntmps58,Tryz.results58,aC];repeat' with_reducible apply af
  refine ah [] ?_;repeat' with_reducible first|apply af|apply ae|apply aa|(apply ab;intro X Y;go_simp;apply Y;clear Y X)
  refine dm (bb [] 2 ⟨rfl,rfl⟩ ?_);simp only [au];repeat' with_reducible first|apply aa|(apply ab;intro X Y;go_simp;apply Y;clear Y X)
  refine dI [] [] [] [some (.mpo (4,.i64) op),some (.mpo (4,.i64) sv),some (.box [.osl 4,.mp 0,.osl 5,.mp 1]),some (.box [.ref 2 0]),some (.arr 167 4 f1 S4),some (.arr 67 3 f2 W3),some (.bag 62 1 false none Q1),some (.box [.osl 6,.osl 8,I tm,.sl 4 (r.ranks.map Rk.av),I r.back,I r.ret,.sl 3 MV]),some (.arr 148 3 f3 TK)] (.tup [.ref 2 0,I e]) rfl (by go_simp) ?_ ?_
  ·unfold dv;go_simp;refine ⟨_,_,⟨_,g⟩,?_⟩;go_simp;kernel_rfl
  go_simp;refine bb [] 5 ⟨rfl,rfl⟩ ?_;simp only [au];repeat' with_reducible first|apply aa|(apply ab;intro X Y;go_simp;apply Y;clear Y X)
  apply cF;repeat' with_reducible first|apply af|apply ae
  refine dm (bb [] 5 ⟨rfl,rfl⟩ ?_);simp only [au];repeat' with_reducible first|apply aa|(apply ab;intro X Y;go_simp;apply Y;clear Y X)
  refine uF (id:=2) (kf:=(4,.i64)) (kvs:=sv) (kt:=9) (et:=3) ⟨rfl,rfl,rfl⟩ (by kernel_rfl) (by go_simp) (by go_simp) ?_;refine bb [] 5 ⟨rfl,rfl⟩ ?_;simp only [au];repeat' first|with_reducible apply aa|((with_reducible apply ab);intro X Y;go_simp;(first|(refine ⟨_,g3,?_⟩)|(refine ⟨_,g4,?_⟩)|skip);apply Y;clear Y X)
  apply cF;repeat' with_reducible first|apply af|apply ae|apply aW|apply az|apply aa|refine ah [] ?_|(apply ax;·go_simp)|(apply ab;intro X Y;go_simp;apply Y;clear Y X)
  go_simp
end Go.Proofs.YtoibondihdhnoaaGreatDoor
