/- Texts in one: Walks: how often a car was served. -/
import Derived.Test.YtoibondihdhnoaaGreatDoorFRQ9
import Derived.Test.YtoibondihdhnoaaGreatDoorFRQ51
import Derived.Test.YtoibondihdhnoaaGreatDoorFRQ58
import Derived.Test.YtoibondihdhnoaaGreatDoorFRQ39
import Derived.Test.YtoibondihdhnoaaGreatDoorFRQ57
import Derived.Test.YtoibondihdhnoaaGreatDoorFRQ46
import Derived.Lib.Bytealg
import Derived.Lib.Strings
import Derived.Lib.Slices
import Derived.Lib.Walk
import Derived.Test.YtoibondihdhnoaaGreatDoorFRQ44
import Derived.Test.YtoibondihdhnoaaGreatDoorFRQ45
namespace Go.Proofs.YtoibondihdhnoaaGreatDoor
open Go.RowKit
set_option maxRecDepth 100000
set_option maxHeartbeats 4000000
structure InS (s:St) : Prop where
 q:s.q.length≤9223372036854775807
 t:s.tk.length≤9223372036854775807
 ti:∀ t∈s.tk,i64 t.rank∧i64 t.time
 tm:i64 s.time
end Go.Proofs.YtoibondihdhnoaaGreatDoor
namespace Go.Proofs.YtoibondihdhnoaaGreatDoor
open Go.RowKit Go.Shelf
set_option maxRecDepth 100000
set_option maxHeartbeats 4000000
theorem Rel.nilSl {N:Nm} {M0:Nat→Nat→Prop} {w0:Bas} {p:Pl} {st:VS} {a:Act} {w:World} (R:Rel M0 w0 N p st a w) {d sz:Nat} (h:lkp st.s d=bG) : Rel M0 w0 N p ⟨(d,.sl sz [])::st.s,st.h⟩ a w:=by
 refine R.know ?_;have hv:=R.slots d;rw [h] at hv;cases hv with
 | base _ _ h0=>
  rw [h0.lit_inv];exact .base _ _ (.slNil _ _ _)
structure GoodL (w:List ByteArray) : Prop where
 n3:3≤w.length
 nn:w.length≤2000
 sz:∀ p∈w,p.size≤1000
end Go.Proofs.YtoibondihdhnoaaGreatDoor
namespace Go.Proofs.YtoibondihdhnoaaGreatDoor
open Go.RowKit
set_option maxRecDepth 100000
set_option maxHeartbeats 2000000
theorem Hj {r:Ru} {l:List Ev} (h:fP r l=0) : (dR r).2=0∧eG r l=0∧l.length≤200∧(goP r 0 l (st0 r)).2.2=0:=by
 unfold fP at h;by_cases h1:eG r l=0
 ·rw [if_neg (by simpa using h1)] at h;obtain ⟨_,h2,h3⟩:=x_ h1;exact ⟨h2,h1,h3,h⟩
 ·rw [if_pos h1] at h;exact absurd h h1
theorem CO {r:Ru} (b:List Ev) : ∀ (a:List Ev) (i:Nat) (s:St),goP r i (a++b) s=if (goP r i a s).2.2≠0 then goP r i a s else goP r (i+a.length) b (goP r i a s).1
 | [],i,s=>by simp [goP]
 | x::a,i,s=>by
  by_cases h:apE r s x=0
  ·rw [List.cons_append,zp h,zp h,CO b a (i+1),List.length_cons];have e:i+1+a.length=i+(a.length+1):=by omega
   rw [e]
  ·rw [List.cons_append,zo h,zo h,if_pos (by exact h)]
def sN (r:Ru) (l:List Ev) (k:Nat) : St:=(goP r 0 (l.take k) (st0 r)).1
theorem zv {r:Ru} {l:List Ev} (h:(goP r 0 l (st0 r)).2.2=0) (k:Nat) : (goP r 0 (l.take k) (st0 r)).2.2=0:=by
 apply Classical.byContradiction;intro hk;have:=CO (r:=r) (l.drop k) (l.take k) 0 (st0 r);rw [List.take_append_drop,if_pos hk] at this;rw [this] at h;exact hk h
theorem Hk {r:Ru} {l:List Ev} (h:(goP r 0 l (st0 r)).2.2=0) {k:Nat} (hk:k < l.length) : apE r (sN r l k) (aA l k)=0∧(apU r (sN r l k) (aA l k)).1=sN r l (k+1):=by
 have h1:=zv h (k+1);have h2:=zv h k;have e:=CO (r:=r) [aA l k] (l.take k) 0 (st0 r);have et:l.take (k+1)=l.take k++[aA l k]:=by rw [jK hk,tB hk]
 rw [if_neg (by simpa using h2)] at e;rw [et,e] at h1;have h3:=qx h1;refine ⟨h3.1,?_⟩;show _=(goP r 0 (l.take (k+1)) (st0 r)).1;rw [et,e,zp h3.1];rfl
def mnN (l:List Int) : Nat→Int
 | 0=>iat l 0
 | k+1=>if iat l (k+1) < mnN l k then iat l (k+1) else mnN l k
def mxN (l:List Int) : Nat→Int
 | 0=>iat l 0
 | k+1=>if mxN l k < iat l (k+1) then iat l (k+1) else mxN l k
theorem Hl (l:List Int) : ∀ (k:Nat),(∃ j,j≤k∧mnN l k=iat l j)∧∀ j,j≤k→mnN l k≤iat l j
 | 0=>⟨⟨0,Nat.le_refl _,rfl⟩,fun j hj=>by
  obtain rfl:j=0:=by omega
  exact Int.le_refl _⟩
 | k+1=>by
  obtain ⟨⟨i,h1,h2⟩,h3⟩:=Hl l k;rw [mnN];split
  ·refine ⟨⟨k+1,Nat.le_refl _,rfl⟩,fun j hj=>?_⟩;by_cases h:j=k+1
   ·subst h;exact Int.le_refl _
   ·have:=h3 j (by omega);omega
  ·refine ⟨⟨i,by omega,h2⟩,fun j hj=>?_⟩;by_cases h:j=k+1
   ·subst h;omega
   ·exact h3 j (by omega)
theorem Hm (l:List Int) : ∀ (k:Nat),(∃ j,j≤k∧mxN l k=iat l j)∧∀ j,j≤k→iat l j≤mxN l k
 | 0=>⟨⟨0,Nat.le_refl _,rfl⟩,fun j hj=>by
  obtain rfl:j=0:=by omega
  exact Int.le_refl _⟩
 | k+1=>by
  obtain ⟨⟨i,h1,h2⟩,h3⟩:=Hm l k;rw [mxN];split
  ·refine ⟨⟨k+1,Nat.le_refl _,rfl⟩,fun j hj=>?_⟩;by_cases h:j=k+1
   ·subst h;exact Int.le_refl _
   ·have:=h3 j (by omega);omega
  ·refine ⟨⟨i,by omega,h2⟩,fun j hj=>?_⟩;by_cases h:j=k+1
   ·subst h;omega
   ·exact h3 j (by omega)
theorem O_ (l:List Int) (h0:0 < l.length) (hl:l.length≤1000000) : VC Tryz.prog 119 [.sl 1 (l.map dt)] (I (mnN l (l.length - 1))):=by
 have e0:mnN l 0=l[0]:=qI h0;have h1:¬(l.length:Int) < 1:=by omega
 have h2:¬l.length=0:=by omega
 refine aL Tryz.func119 rfl (by kernel_rfl) rfl fun M0 w0=>?_;simp only [Tryz.ntmps119,Tryz.results119,aC];repeat' with_reducible first|apply af|apply ae|apply aw|apply aE|apply aa|refine ah [] ?_|(apply ar;·go_simp)|(apply ab;intro X Y;go_simp;apply Y;clear Y X)
 apply jQ [0] (fun k=>[(4,I ((k+1:Nat) : Int)),(3,I (mnN l k))]) (fun k=>([] : Hp))  (l.length - 1)
 ·go_simp<;>exact rfl
 ·go_simp
 ·intro k hk K hK;obtain ⟨w1,w2,w3,w4,w5,w6⟩:=ixs (m:=k+1) (by omega);have ib:k+1 < l.length:=by omega
  have hs:mnN l (k+1)=if l[k+1] < mnN l k then l[k+1] else mnN l k:=by rw [mnN,qI ib]
  clear e0;rw [hs] at hK;clear hs;generalize mnN l k=M at *;obtain ⟨i,hi⟩ : ∃ i,k+1=i:=⟨_,rfl⟩
  have mD:k+1+1=i+1:=by omega
  rw [mD] at hK;simp only [hi] at w1 w2 w3 w4 w5 w6 ib hK ⊢;repeat' with_reducible first|apply af|apply ae|apply aw|apply aE|apply bc|apply aa|refine ah [] ?_|(apply ax;·go_simp)|(apply ab;intro X Y;go_simp;apply Y;clear Y X)
  refine hK _ ?_;go_simp
 ·intro K;have e1:l.length - 1+1=l.length:=by omega
  simp only [e1];clear e0;repeat' with_reducible first|apply af|apply ae|apply bU|apply az|apply bV|apply bW|apply aa|refine ah [] ?_|(apply ar;·go_simp)|(apply ab;intro X Y;go_simp;apply Y;clear Y X)
  go_simp
theorem Pb (l:List Int) (h0:0 < l.length) (hl:l.length≤1000000) : VC Tryz.prog 120 [.sl 1 (l.map dt)] (I (mxN l (l.length - 1))):=by
 have e0:mxN l 0=l[0]:=qI h0;have h1:¬(l.length:Int) < 1:=by omega
 have h2:¬l.length=0:=by omega
 refine aL Tryz.func120 rfl (by kernel_rfl) rfl fun M0 w0=>?_;simp only [Tryz.ntmps120,Tryz.results120,aC];repeat' with_reducible first|apply af|apply ae|apply aw|apply aE|apply aa|refine ah [] ?_|(apply ar;·go_simp)|(apply ab;intro X Y;go_simp;apply Y;clear Y X)
 apply jQ [0] (fun k=>[(4,I ((k+1:Nat) : Int)),(3,I (mxN l k))]) (fun k=>([] : Hp))  (l.length - 1)
 ·go_simp<;>exact rfl
 ·go_simp
 ·intro k hk K hK;obtain ⟨w1,w2,w3,w4,w5,w6⟩:=ixs (m:=k+1) (by omega);have ib:k+1 < l.length:=by omega
  have hs:mxN l (k+1)=if mxN l k < l[k+1] then l[k+1] else mxN l k:=by rw [mxN,qI ib]
  clear e0;rw [hs] at hK;clear hs;generalize mxN l k=M at *;obtain ⟨i,hi⟩ : ∃ i,k+1=i:=⟨_,rfl⟩
  have mD:k+1+1=i+1:=by omega
  rw [mD] at hK;simp only [hi] at w1 w2 w3 w4 w5 w6 ib hK ⊢;repeat' with_reducible first|apply af|apply ae|apply aw|apply aE|apply bc|apply aa|refine ah [] ?_|(apply ax;·go_simp)|(apply ab;intro X Y;go_simp;apply Y;clear Y X)
  refine hK _ ?_;go_simp
 ·intro K;have e1:l.length - 1+1=l.length:=by omega
  simp only [e1];clear e0;repeat' with_reducible first|apply af|apply ae|apply bU|apply az|apply bV|apply bW|apply aa|refine ah [] ?_|(apply ar;·go_simp)|(apply ab;intro X Y;go_simp;apply Y;clear Y X)
  go_simp
set_option maxHeartbeats 4000000
theorem Hn (l:List Ev) (c:ByteArray) (hl:l.length≤1000000) : VC Tryz.prog 60 [cp l,S c] (I (gA c l l.length)):=by
 have e0:gA c l 0=0:=rfl;refine aL Tryz.func60 rfl (by kernel_rfl) rfl fun M0 w0=>?_;simp only [Tryz.ntmps60,Tryz.results60,aC];repeat' with_reducible first|apply af|apply ae|apply aE|apply aa|refine ah [] ?_|(apply ab;intro X Y;go_simp;apply Y;clear Y X)
 apply jQ [0,1] (fun k=>[(6,I k),(5,I (gA c l k))]) (fun k=>([] : Hp))  (l.length)
 ·go_simp<;>exact rfl
 ·go_simp
 ·intro i hk K hK;obtain ⟨w1,w2,w3,w4,w5,w6⟩:=ixs (m:=i) (by omega);have hs:gA c l (i+1)=gA c l i+if (aA l i).car=c∧(aA l i).kind=1∧iH c (l.drop (i+1))≠5 then 1 else 0:=rfl
  obtain ⟨b1,b2⟩:=Gm c l i;rw [hs] at hK;clear hs e0;generalize gA c l i=V at *;have v1:=gG (x:=V+1) (by omega) (by omega);by_cases de:(aA l i).car=c
  ·by_cases je:(aA l i).kind=1
   ·have u1:=gG (x:=(l.length:Int) - 1) (by omega) (by omega);have e1:iH c [] = -1:=rfl;repeat' with_reducible first|apply af|apply ae|apply aw|apply aE|apply aa|refine ah [] ?_|(apply ax;·go_simp)|(apply ar;·go_simp)|(apply ab;intro X Y;go_simp;apply Y;clear Y X)
    apply jQ [0,1,5,6] (fun k=>[(8,I ((l.length:Int) - 1 - (k:Int))),(7,I (iH c (l.drop (l.length - k))))]) (fun k=>([] : Hp))  (l.length - 1 - i)
    ·go_simp<;>exact rfl
    ·go_simp
    ·intro k cI K2 gY;obtain ⟨j,hj⟩ : ∃ j:Nat,l.length - 1 - k=j:=⟨_,rfl⟩
     have f1:(l.length:Int) - 1 - (k:Int)=(j:Int):=by omega
     have f2:(l.length:Int) - 1 - ((k+1:Nat) : Int)=(j:Int) - 1:=by omega
     have f3:l.length - k=j+1:=by omega
     have f4:l.length - (k+1)=j:=by omega
     have bM:j < l.length:=by omega
     have xQ:(i:Int) < (j:Int):=by omega
     rw [f2,f4,MI bM] at gY;rw [f1,f3];have u2:=gG (x:=(j:Int) - 1) (by omega) (by omega);obtain ⟨x1,x2,x3,x4,x5,x6⟩:=ixs (m:=j) (by omega);clear hK f1 f2 f3 f4 hj cI e1 v1;generalize iH c (l.drop (j+1))=NX at *;by_cases fO:(aA l j).car=c
     ·rw [if_pos fO] at gY;repeat' with_reducible first|apply af|apply ae|apply aw|apply aE|apply bc|apply aa|refine ah [] ?_|(apply ax;·go_simp)|(apply ab;intro X Y;go_simp;apply Y;clear Y X)
      refine gY _ ?_;go_simp
     ·rw [if_neg fO] at gY;repeat' with_reducible first|apply af|apply ae|apply aw|apply aE|apply bc|apply aa|refine ah [] ?_|(apply ax;·go_simp)|(apply ar;·go_simp)|(apply ab;intro X Y;go_simp;apply Y;clear Y X)
      refine gY _ ?_;go_simp
    ·intro K2;have f1:(l.length:Int) - 1 - ((l.length - 1 - i:Nat) : Int)=(i:Int):=by omega
     have f2:l.length - (l.length - 1 - i)=i+1:=by omega
     rw [f1,f2];clear e1 f1 f2;generalize iH c (l.drop (i+1))=NX at *;by_cases h5:NX=5
     ·rw [if_neg (fun h=>h.2.2 h5),Int.add_zero] at hK;repeat' with_reducible first|apply af|apply ae|apply bU|apply aw|apply bV|apply bc|apply bW|apply aa|refine ah [] ?_|(apply ar;·go_simp)|(apply ab;intro X Y;go_simp;apply Y;clear Y X)
      refine hK _ ?_;go_simp
     ·rw [if_pos ⟨de,je,h5⟩] at hK;repeat' with_reducible first|apply af|apply ae|apply bU|apply bV|apply bc|apply bW|apply aa|refine ah [] ?_|(apply ax;·go_simp)|(apply ar;·go_simp)|(apply ab;intro X Y;go_simp;apply Y;clear Y X)
      refine hK _ ?_;go_simp
   ·have hn:¬((aA l i).car=c∧(aA l i).kind=1∧iH c (l.drop (i+1))≠5):=fun h=>je h.2.1;rw [if_neg hn] at hK;clear hn;repeat' with_reducible first|apply af|apply ae|apply bU|apply aw|apply bV|apply aE|apply bW|apply aa|refine ah [] ?_|(apply ax;·go_simp)|(apply ab;intro X Y;go_simp;apply Y;clear Y X)
    refine hK _ ?_;go_simp
  ·have hn:¬((aA l i).car=c∧(aA l i).kind=1∧iH c (l.drop (i+1))≠5):=fun h=>de h.1;rw [if_neg hn] at hK;clear hn;repeat' with_reducible first|apply af|apply ae|apply bU|apply aw|apply bV|apply aE|apply bW|apply aa|refine ah [] ?_|(apply ax;·go_simp)|(apply ab;intro X Y;go_simp;apply Y;clear Y X)
   refine hK _ ?_;go_simp
 ·intro K;clear e0;repeat' with_reducible first|apply af|apply ae|apply bU|apply az|apply bV|apply bW|apply aa|refine ah [] ?_|(apply ar;·go_simp)|(apply ab;intro X Y;go_simp;apply Y;clear Y X)
  go_simp
def eZ (l:List Ev) (k:Nat) : Int×Int:=(fr l k).getD (0,0)
theorem Pc (a b:Int) : min a b=if b < a then b else a:=by
 rw [Int.min_def];split<;>split<;>omega
theorem Pd (a b:Int) : max a b=if a < b then b else a:=by
 rw [Int.max_def];split<;>split<;>omega
theorem Pe (l:List Ev) (hl:l.length≤1000000) : VC Tryz.prog 59 [cp l] (.tup [.agg [I (eZ l l.length).1,I (eZ l l.length).2],B (fr l l.length).isSome]):=by
 have e0:fr l 0=none:=rfl;have e1:eZ l 0=(0,0):=rfl;refine aL Tryz.func59 rfl (by kernel_rfl) rfl fun M0 w0=>?_;simp only [Tryz.ntmps59,Tryz.results59,aC];repeat' with_reducible first|apply af|apply ae|apply aE|apply aa|refine ah [] ?_|(apply ab;intro X Y;go_simp;apply Y;clear Y X)
 apply jQ [0,2,4] (fun k=>[(6,I k),(5,B (fr l k).isSome)]) (fun k=>([some (.box [I 0,I 0]),some (.box [I (eZ l k).1,I (eZ l k).2])] : Hp))  (l.length)
 ·go_simp<;>exact rfl
 ·go_simp
 ·intro k hk K hK;obtain ⟨w1,w2,w3,w4,w5,w6⟩:=ixs (m:=k) (by omega);have g:=Hn l (aA l k).car hl;have hv:gA (aA l k).car l l.length=eR l k:=rfl;rw [hv] at g;clear hv e0 e1;by_cases h0:(aA l k).kind=0
  ·have ha:ji l k=true:=decide_eq_true h0;cases hp:fr l k with
   | none=>
    have f1:fr l (k+1)=some (eR l k,eR l k):=by rw [fr,if_pos ha,hp]
    have f2:eZ l (k+1)=(eR l k,eR l k):=by rw [eZ,f1];rfl
    have f3:eZ l k=(0,0):=by rw [eZ,hp];rfl
    rw [f1,f2] at hK;rw [f3];clear f1 f2 f3 hp ha;generalize eR l k=V at *;repeat' first|(with_reducible first|apply af|apply ae|apply aw|apply aE|apply bc|apply aa|refine ah [] ?_|(apply ax;·go_simp)|(apply ar;·go_simp))|((with_reducible apply ab);intro X Y;go_simp;(first|(refine ⟨_,g,?_⟩)|skip);apply Y;clear Y X)
    refine hK _ ?_;go_simp
   | some p=>
    have f1:fr l (k+1)=some (min p.1 (eR l k),max p.2 (eR l k)):=by rw [fr,if_pos ha,hp]
    have f2:eZ l (k+1)=(min p.1 (eR l k),max p.2 (eR l k)):=by rw [eZ,f1];rfl
    have f3:eZ l k=p:=by rw [eZ,hp];rfl
    rw [f1,f2,Pc,Pd] at hK;rw [f3];clear f1 f2 f3 hp ha;generalize eR l k=V at *;obtain ⟨a,b⟩:=p;repeat' first|(with_reducible first|apply af|apply ae|apply aw|apply aE|apply bc|apply aa|refine ah [] ?_|(apply ax;·go_simp)|(apply ar;·go_simp))|((with_reducible apply ab);intro X Y;go_simp;(first|(refine ⟨_,g,?_⟩)|skip);apply Y;clear Y X)
    refine hK _ ?_;go_simp
  ·have ha:¬ji l k=true:=fun h=>h0 (of_decide_eq_true h);have f1:fr l (k+1)=fr l k:=by rw [fr,if_neg ha]
   have f2:eZ l (k+1)=eZ l k:=by rw [eZ,f1,eZ]
   rw [f1,f2] at hK;clear f1 f2 ha g;repeat' with_reducible first|apply af|apply ae|apply bU|apply aw|apply bV|apply aE|apply bW|apply aa|refine ah [] ?_|(apply ax;·go_simp)|(apply ab;intro X Y;go_simp;apply Y;clear Y X)
   refine hK _ ?_;go_simp
 ·intro K;clear e0 e1;repeat' with_reducible first|apply af|apply ae|apply bU|apply az|apply bV|apply bW|apply aa|refine ah [] ?_|(apply ar;·go_simp)|(apply ab;intro X Y;go_simp;apply Y;clear Y X)
  go_simp
def svE (e:Int) (c:ByteArray) : Int:=fst [e,unl (cu c) 4]
theorem Pf (r:Ru) (l:List Ev) (c:ByteArray) (hc:c.size≤1000) (d:Dy) (a:Bool×Bool) (e:Int) (he:svE e c≠0) (g:VH Tryz.prog 95 [] [bJ r,cp l] [] (jI d a) (.tup [.ref 2 0,I e])) :
  VC Tryz.prog 57 [bJ r,cp l,S c] (.tup [I 0,I (svE e c)]):=by
 unfold jI at g;have g2:=oW c hc;have g3:=bN (cu c) 4;have g4:VC Tryz.prog 88 [.sl 1 ([e,unl (cu c) 4].map dt)] (I (svE e c)):=eL _ rfl rfl;generalize svE e c=E at *;generalize unl (cu c) 4=U at *;generalize cu c=NM at *;refine aL Tryz.func57 rfl (by kernel_rfl) rfl fun M0 w0=>?_;simp only [Tryz.ntmps57,Tryz.results57,aC];repeat' with_reducible apply af
 refine ah [] ?_;repeat' with_reducible first|apply af|apply ae|apply aa|(apply ab;intro X Y;go_simp;apply Y;clear Y X)
 refine dm (bb [] 2 ⟨rfl,rfl⟩ ?_);simp only [au];repeat' with_reducible first|apply aa|(apply ab;intro X Y;go_simp;apply Y;clear Y X)
 refine dI [] [] [] [some (.mpo (4,.i64) d.op),some (.mpo (4,.i64) d.sv),some (.box [.osl 4,.mp 0,.osl 5,.mp 1]),some (.box [.ref 2 0]),some (.arr 167 4 a.1 (d.st.map Sy.av)),some (.arr 67 3 a.2 (d.wt.map Wt.av))] (.tup [.ref 2 0,I e]) rfl (by go_simp) ?_ ?_
 ·unfold dv;go_simp;refine ⟨_,_,⟨_,g⟩,?_⟩;go_simp;kernel_rfl
 go_simp;refine bb [] 5 ⟨rfl,rfl⟩ ?_;simp only [au];repeat' with_reducible first|apply aa|(apply ab;intro X Y;go_simp;apply Y;clear Y X)
 apply cF;repeat' first|(with_reducible first|apply af|apply ae|apply aW|apply az|apply aa|refine ah [] ?_|(apply ax;·go_simp))|((with_reducible apply ab);intro X Y;go_simp;(first|(refine ⟨_,g2,?_⟩)|(refine ⟨_,g3,?_⟩)|(refine ⟨_,g4,?_⟩)|skip);apply Y;clear Y X)
 go_simp
theorem Pg (r:Ru) (l:List Ev) (c:ByteArray) (hc:c.size≤1000) (fq:cu c=false) (d:Dy) (a:Bool×Bool) (s:St) (mv:List Sg) (b:Bool) (g:VH Tryz.prog 95 [] [bJ r,cp l] [] (jI d a++[some (.bag 62 1 false none (bA s.q)),some (.box [.osl 6,.osl 8,I s.time,.sl 4 (r.ranks.map Rk.av),I r.back,I r.ret,.sl 3 (mv.map Sg.av)]),some (.arr 148 3 b (s.tk.map Tk.av))]) (.tup [.ref 2 0,I 0])) :
  VC Tryz.prog 57 [bJ r,cp l,S c] (.tup [I 0,I 4]):=by
 unfold jI at g;simp only [List.cons_append,List.nil_append] at g;have g2:=oW c hc;have g3:=bN (cu c) 4;have g4:VC Tryz.prog 88 [.sl 1 ([0,unl (cu c) 4].map dt)] (I 4):=by
  rw [fq];exact eL _ rfl rfl
 rw [fq] at g2 g3 g4;generalize unl false 4=U at *;clear fq;refine aL Tryz.func57 rfl (by kernel_rfl) rfl fun M0 w0=>?_;simp only [Tryz.ntmps57,Tryz.results57,aC];repeat' with_reducible apply af
 refine ah [] ?_;repeat' with_reducible first|apply af|apply ae|apply aa|(apply ab;intro X Y;go_simp;apply Y;clear Y X)
 refine dm (bb [] 2 ⟨rfl,rfl⟩ ?_);simp only [au];repeat' with_reducible first|apply aa|(apply ab;intro X Y;go_simp;apply Y;clear Y X)
 refine dI [] [] [] [some (.mpo (4,.i64) d.op),some (.mpo (4,.i64) d.sv),some (.box [.osl 4,.mp 0,.osl 5,.mp 1]),some (.box [.ref 2 0]),some (.arr 167 4 a.1 (d.st.map Sy.av)),some (.arr 67 3 a.2 (d.wt.map Wt.av)),some (.bag 62 1 false none (bA s.q)),some (.box [.osl 6,.osl 8,I s.time,.sl 4 (r.ranks.map Rk.av),I r.back,I r.ret,.sl 3 (mv.map Sg.av)]),some (.arr 148 3 b (s.tk.map Tk.av))] (.tup [.ref 2 0,I 0]) rfl (by go_simp) ?_ ?_
 ·unfold dv;go_simp;refine ⟨_,_,⟨_,g⟩,?_⟩;go_simp;kernel_rfl
 go_simp;refine bb [] 5 ⟨rfl,rfl⟩ ?_;simp only [au];repeat' with_reducible first|apply aa|(apply ab;intro X Y;go_simp;apply Y;clear Y X)
 apply cF;repeat' first|(with_reducible first|apply af|apply ae|apply aW|apply az|apply aa|refine ah [] ?_|(apply ax;·go_simp))|((with_reducible apply ab);intro X Y;go_simp;(first|(refine ⟨_,g2,?_⟩)|(refine ⟨_,g3,?_⟩)|(refine ⟨_,g4,?_⟩)|skip);apply Y;clear Y X)
 go_simp
theorem Ph (r:Ru) (l:List Ev) (c:ByteArray) (hc:c.size≤1000) (fq:cu c=true) (d:Dy) (v:Int) (hv:(gW (.string c) d.sv).getD (.int .i64 0) = .int .i64 v) (a:Bool×Bool) (s:St) (mv:List Sg) (b:Bool) (g:VH Tryz.prog 95 [] [bJ r,cp l] [] (jI d a++[some (.bag 62 1 false none (bA s.q)),some (.box [.osl 6,.osl 8,I s.time,.sl 4 (r.ranks.map Rk.av),I r.back,I r.ret,.sl 3 (mv.map Sg.av)]),some (.arr 148 3 b (s.tk.map Tk.av))]) (.tup [.ref 2 0,I 0])) :
  VC Tryz.prog 57 [bJ r,cp l,S c] (.tup [I v,I 0]):=by
 unfold jI at g;simp only [List.cons_append,List.nil_append] at g;have g2:=oW c hc;have g3:=bN (cu c) 4;have g4:VC Tryz.prog 88 [.sl 1 ([0,unl (cu c) 4].map dt)] (I 0):=by
  rw [fq];exact eL _ rfl rfl
 rw [fq] at g2 g3 g4;generalize unl true 4=U at *;clear fq;refine aL Tryz.func57 rfl (by kernel_rfl) rfl fun M0 w0=>?_;simp only [Tryz.ntmps57,Tryz.results57,aC];repeat' with_reducible apply af
 refine ah [] ?_;repeat' with_reducible first|apply af|apply ae|apply aa|(apply ab;intro X Y;go_simp;apply Y;clear Y X)
 refine dm (bb [] 2 ⟨rfl,rfl⟩ ?_);simp only [au];repeat' with_reducible first|apply aa|(apply ab;intro X Y;go_simp;apply Y;clear Y X)
 refine dI [] [] [] [some (.mpo (4,.i64) d.op),some (.mpo (4,.i64) d.sv),some (.box [.osl 4,.mp 0,.osl 5,.mp 1]),some (.box [.ref 2 0]),some (.arr 167 4 a.1 (d.st.map Sy.av)),some (.arr 67 3 a.2 (d.wt.map Wt.av)),some (.bag 62 1 false none (bA s.q)),some (.box [.osl 6,.osl 8,I s.time,.sl 4 (r.ranks.map Rk.av),I r.back,I r.ret,.sl 3 (mv.map Sg.av)]),some (.arr 148 3 b (s.tk.map Tk.av))] (.tup [.ref 2 0,I 0]) rfl (by go_simp) ?_ ?_
 ·unfold dv;go_simp;refine ⟨_,_,⟨_,g⟩,?_⟩;go_simp;kernel_rfl
 go_simp;refine bb [] 5 ⟨rfl,rfl⟩ ?_;simp only [au];repeat' with_reducible first|apply aa|(apply ab;intro X Y;go_simp;apply Y;clear Y X)
 apply cF;repeat' first|(with_reducible first|apply af|apply ae|apply az|apply aw|apply aa|refine ah [] ?_|(apply ar;·go_simp))|((with_reducible apply ab);intro X Y;go_simp;(first|(refine ⟨_,g2,?_⟩)|(refine ⟨_,g3,?_⟩)|(refine ⟨_,g4,?_⟩)|skip);apply Y;clear Y X)
 go_simp
theorem CP (log:List Ev) (ht:∀ k,k < log.length→0≤(aA log k).time∧(aA log k).time≤604800) : ∀ (l:List Ev) (k:Nat) (d:Dy),log.drop k=l→k≤log.length→DyOK log k d→DyOK log log.length (lB log k l d)
 | [],k,d,he,hk,h=>by
  have:log.length≤k:=List.drop_eq_nil_iff.1 he;obtain rfl:k=log.length:=by omega
  exact h
 | x::l,k,d,he,hk,h=>by
  have cB:k < log.length:=by
   apply Classical.byContradiction;intro hh;rw [List.drop_of_length_le (by omega)] at he;cases he
  rw [yV cB] at he;injection he with e1 e2
  rw [lB];exact CP log ht l (k+1) _ e2 (by omega) (h.step e1.symm (by rw [←e1];exact ht k cB))
theorem Pj (r:Ru) (l:List Ev) (c:ByteArray) (h:SmallL r l) (hc:c.size≤1000) : VC Tryz.prog 57 [bJ r,cp l,S c] (.tup [I (if svE (fP r l) c=0 then gA c l l.length else 0),I (svE (fP r l) c)]):=by
 rcases BZ r l h with ⟨he,d,a,g⟩|⟨he,hr,h1,a,s,mv,b,g⟩
 ·have hs:svE (fP r l) c≠0:=by
   unfold svE;simp [fst,he]
  rw [if_neg hs];exact Pf r l c hc d a _ hs g
 ·rw [he];cases fq:cu c
  ·have hs:svE 0 c=4:=by
    unfold svE;rw [fq];rfl
   rw [hs];exact Pg r l c hc fq _ a s mv b g
  ·have hs:svE 0 c=0:=by
    unfold svE;rw [fq];rfl
   rw [hs];have ky:=x8 l 0 (st0 r) h1;have od:=CP l (fun k hk=>by
    rw [jK hk];exact tt (ky _ (List.getElem_mem hk))) l 0 ⟨[],[],[],[]⟩ rfl (Nat.zero_le _) (DyOK.zero l)
   have aq:c≠ByteArray.empty:=fun h=>BU fq h;have h4:∀ x∈l,x.kind=4→x.car=ByteArray.empty:=fun x hx hk=>by
    have hh:=ky x hx;unfold evE at hh;rw [ch,ch,ch,ch] at hh;have e4:=eW (by decide) hh.2.2.2.1;rw [Bool.or_eq_true,Bool.not_eq_true',decide_eq_false_iff_not,decide_eq_true_eq] at e4;exact e4.resolve_left fun hh=>hh hk
   have hn:=BY l c aq l 0 ⟨[],[],[],[]⟩ h4;have hz:iF (⟨[],[],[],[]⟩ : Dy).sv c=0:=rfl;rw [hz,Int.zero_add,Gj hr aq h1,←Gl] at hn;have hv:=(od.sv.at_ c).1;rw [hn] at hv;rw [if_pos rfl];exact Ph r l c hc fq _ _ hv a s mv b g
end Go.Proofs.YtoibondihdhnoaaGreatDoor
