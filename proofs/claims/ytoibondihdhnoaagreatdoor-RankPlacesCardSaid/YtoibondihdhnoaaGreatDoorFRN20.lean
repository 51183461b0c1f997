/- Texts in one: Walks on a town that changes: cars that are served. -/
import Derived.Test.YtoibondihdhnoaaGreatDoorFRN17
import Derived.Test.YtoibondihdhnoaaGreatDoorFRN18
import Derived.Test.YtoibondihdhnoaaGreatDoorFRN9
import Derived.Test.YtoibondihdhnoaaGreatDoorFRN13
namespace Go.Proofs.YtoibondihdhnoaaGreatDoor
open Go.RowKit
set_option maxRecDepth 100000
set_option maxHeartbeats 2000000
def b4z:List (List AV)→List Int
 | [.lit (.int _ n)]::r=>n::b4z r
 | _=>[]
attribute [go_sem] b4z
theorem c6_ (es:List (List AV)) (h:es=(b4z es).map p9_) (hl:Nat.ble (b4z es).length 1000=true) : VC Tryz.prog 88 [.sl 1 es] (I (fst (b4z es))):=by
 have:=c8n (b4z es) (Nat.le_of_ble_eq_true hl);rwa [←h] at this
def a8l (s:St) (x:Ev) (k:Nat) : St:=⟨s.q.set k (qat s.q k).tail,s.tk++[⟨x.car,x.rank,x.time⟩],s.time⟩
def v2_ (s:St) (x:Ev) (k:Nat) : Int:=fst [y8_ (qat s.q k) x.car,unl (decide ((s.tk.length:Int) < 40)) 8]
theorem c2e (r:Ru) (s:St) (mv:List Sg) (n1 n2:Bool) (x:Ev) (k:Nat) (hx:x.rank=k) (hk:k < s.q.length) (_hr:r.ranks.length=s.q.length) (_hl:s.tk.length≤1000000) (h0:¬v2_ s x k=0) :
  VH Tryz.prog 225 (e4_ r s mv n1 n2) [.ref 0 0,evA x] [0] (e4_ r s mv n1 n2) (I (v2_ s x k)):=by
 have g1:=a1r r s mv x k hx hk;have g2:=b0_ (decide ((s.tk.length:Int) < 40)) 8;have g3:VC Tryz.prog 88 [.sl 1 ([y8_ (qat s.q k) x.car,unl (decide ((s.tk.length:Int) < 40)) 8].map p9_)] (I (v2_ s x k)):=c6_ _ rfl rfl;generalize v2_ s x k=E at *;generalize y8_ (qat s.q k) x.car=A at *;generalize unl (decide ((s.tk.length:Int) < 40)) 8=B' at *;obtain ⟨kd,tm,rk,car⟩:=x;simp only at hx;subst hx;simp only [evA] at g1 ⊢;refine g4_ Tryz.func225 rfl (by kernel_rfl) rfl (fun _=>by kernel_rfl) fun M0 w0 vs=>?_;simp only [Tryz.ntmps225,Tryz.results225,b4_];unfold e4_;repeat' first|(with_reducible first|apply a8_|apply a3_|apply b5_|apply c4_|apply a1_|refine a2_ [] ?_|apply a5_)|((with_reducible refine a7_ ?_ ?_);(focus (go_simp;done)))|((with_reducible first|refine a0_ fun X Y=>?_|refine a4_ fun X Y=>?_);go_simp;(first|(refine ⟨_,⟨g1,rfl⟩,?_⟩)|(with_reducible refine ⟨_,g2,?_⟩)|(refine ⟨_,g3,?_⟩)|skip);refine Y _ ?_;clear Y X)|((refine b2_ 14 14 [] rfl (by kernel_rfl) (by kernel_rfl) ?_);simp only [List.take,List.drop])
 go_simp
theorem c6a (r:Ru) (s:St) (mv:List Sg) (n1 n2:Bool) (x:Ev) (k:Nat) (hx:x.rank=k) (hk:k < s.q.length) (_hr:r.ranks.length=s.q.length) (hl:s.tk.length≤1000000) (h0:v2_ s x k=0) :
  VH Tryz.prog 225 (e4_ r s mv n1 n2) [.ref 0 0,evA x] [0] (e4_ r (a8l s x k) mv false n2) (I 0):=by
 have g1:=a1r r s mv x k hx hk;have g2:=b0_ (decide ((s.tk.length:Int) < 40)) 8;have g3:VC Tryz.prog 88 [.sl 1 ([y8_ (qat s.q k) x.car,unl (decide ((s.tk.length:Int) < 40)) 8].map p9_)] (I (v2_ s x k)):=c6_ _ rfl rfl;rw [h0] at g3;have hp1:1≤(qat s.q k).length:=by
  unfold v2_ y8_ at h0;by_cases h:(qat s.q k).length=0
  ·rw [if_pos h] at h0;exact absurd h0 (by simp [fst])
  ·omega
 generalize y8_ (qat s.q k) x.car=A at *;generalize unl (decide ((s.tk.length:Int) < 40)) 8=B' at *;obtain ⟨kd,tm,rk,car⟩:=x;simp only at hx;subst hx;unfold a8l;simp only [evA] at g1 ⊢;have HH:=Lib.hid h0;clear h0;refine g4_ Tryz.func225 rfl (by kernel_rfl) rfl (fun _=>by kernel_rfl) fun M0 w0 vs=>?_;simp only [Tryz.ntmps225,Tryz.results225,b4_];unfold e4_;have hb:s.tk.length+1≤1000000000:=by omega
 repeat' first|(with_reducible first|apply a8_|apply a3_|apply a1_|refine a2_ [] ?_)|((with_reducible refine a0_ fun X Y=>?_);go_simp;refine Y _ ?_;clear Y X)
 refine b2_ 14 14 [] rfl (by kernel_rfl) (by kernel_rfl) ?_;simp only [List.take,List.drop];repeat' first|(with_reducible first|apply a8_|apply a3_|apply b1_|apply a1_|refine a2_ [] ?_|apply a5_)|((with_reducible refine a6_ ?_ ?_);(focus (go_simp;done)))|((with_reducible first|refine a0_ fun X Y=>?_|refine a4_ fun X Y=>?_);go_simp;(first|(refine ⟨_,⟨g1,rfl⟩,?_⟩)|(with_reducible refine ⟨_,g2,?_⟩)|(refine ⟨_,g3,?_⟩)|skip);refine Y _ ?_;clear Y X)
 refine b2_ 19 18 [] rfl (by kernel_rfl) (by kernel_rfl) ?_;simp only [List.take,List.drop];repeat' first|(with_reducible first|apply a8_|apply a3_|apply a1_|apply a5_)|((with_reducible first|refine a0_ fun X Y=>?_|refine a4_ fun X Y=>?_);go_simp;refine Y _ ?_;clear Y X)
 refine a2o 14 [54] 2 [0,40] (by kernel_rfl) (by kernel_rfl) (by kernel_rfl) (by kernel_rfl) rfl ⟨rfl,rfl⟩ rfl ?_;simp only [List.take,List.drop];repeat' first|with_reducible apply a5_|((with_reducible refine a4_ fun X Y=>?_);go_simp;refine Y _ ?_;clear Y X)
 refine ⟨_,by go_simp,by go_simp;exact rfl,?_,?_⟩
 ·intro t ht;simp only [List.mem_cons,List.not_mem_nil,or_false] at ht;rcases ht with rfl|rfl<;>rfl
 go_simp;repeat' first|(with_reducible first|apply a8_|apply a3_|apply c4_|apply a1_|refine a2_ [] ?_)|((with_reducible refine a0_ fun X Y=>?_);go_simp;refine Y _ ?_;clear Y X)
 go_simp;rw [a2y,i2_]
def TxO (A:List (List AV)) : Prop:=∀ x∈A,x.length=1∧∀ c∈x,f7_ c=true
theorem TxO.map (l:List ByteArray) : TxO (l.map n5_):=fun x hx=>by
 obtain ⟨y,_,rfl⟩:=List.mem_map.1 hx;exact ⟨rfl,by simp [n5_,f7_,Value.oneCell']⟩
theorem TxO.take {A:List (List AV)} {n:Nat} (h:TxO A) : TxO (A.take n):=fun x hx=>h x (List.mem_of_mem_take hx)
theorem TxO.drop {A:List (List AV)} {n:Nat} (h:TxO A) : TxO (A.drop n):=fun x hx=>h x (List.mem_of_mem_drop hx)
theorem TxO.tail {A:List (List AV)} (h:TxO A) : TxO A.tail:=fun x hx=>h x (List.mem_of_mem_tail hx)
theorem TxO.one (c:ByteArray) : TxO [[S c]]:=TxO.map [c]
theorem TxO.app {A B:List (List AV)} (h:TxO A) (h2:TxO B) : TxO (A++B):=fun x hx=>(List.mem_append.1 hx).elim (h x) (h2 x)
theorem a8m (A B:List (List AV)) (c:ByteArray) (hA:TxO A) (hB:TxO B) (hn:A.length+B.length≤90000) : VCo Tryz.prog 233 [.sl 1 [[.sl 1 A],[.sl 1 [[S c]]],[.sl 1 B]]] 9 1 false (A++([[S c]]++B)):=by
 have e : [A,[[S c]],B].flatten=A++([[S c]]++B):=by simp
 have h:=b2t [A,[[S c]],B] (by rw [e];exact hA.app ((TxO.one c).app hB)) (by rw [e];simp;omega) (by simp);rw [e,decide_eq_false (by simp)] at h;exact h
theorem a8n (A B:List (List AV)) (hA:TxO A) (hB:TxO B) (hn:A.length+B.length≤90000) : VCo Tryz.prog 233 [.sl 1 [[.sl 1 A],[.sl 1 B]]] 9 1 (decide ((A++B).length=0)) (A++B):=by
 have e : [A,B].flatten=A++B:=by simp
 have h:=b2t [A,B] (by rw [e];exact hA.app hB) (by rw [e];simp;omega) (by simp);rw [e] at h;exact h
theorem b7i (B:List (List AV)) (c:ByteArray) (hB:TxO B) (hn:B.length+1≤90000) : VCo Tryz.prog 233 [.sl 1 [[.sl 1 [[S c]]],[.sl 1 B]]] 9 1 false ([[S c]]++B):=by
 have h:=a8n [[S c]] B (TxO.one c) hB (by rw [List.length_singleton];omega);rwa [decide_eq_false (by simp)] at h
def a2p (r:Ru) (m:Nat) : Nat:=if r.back≠-1 then (min (m:Int) r.back).toNat else m
def q0_ (r:Ru) (q:List ByteArray) (car:ByteArray) : List ByteArray:=q.tail.take (a2p r q.tail.length)++[car]++q.tail.drop (a2p r q.tail.length)
theorem b5a (r:Ru) (s:St) (mv:List Sg) (n1 n2:Bool) (x:Ev) (k:Nat) (hx:x.rank=k) (hk:k < s.q.length) (_hr:r.ranks.length=s.q.length) (h0:¬y8_ (qat s.q k) x.car=0) :
  VH Tryz.prog 226 (e4_ r s mv n1 n2) [.ref 0 0,evA x] [0] (e4_ r s mv n1 n2) (I (y8_ (qat s.q k) x.car)):=by
 have g1:=a1r r s mv x k hx hk;generalize y8_ (qat s.q k) x.car=A at *;obtain ⟨kd,tm,rk,car⟩:=x;simp only at hx;subst hx;simp only [evA] at g1 ⊢;refine g4_ Tryz.func226 rfl (by kernel_rfl) rfl (fun _=>by kernel_rfl) fun M0 w0 vs=>?_;simp only [Tryz.ntmps226,Tryz.results226,b4_];unfold e4_;repeat' first|(with_reducible first|apply a8_|apply a3_|apply b5_|apply c4_|apply a1_|refine a2_ [] ?_)|((with_reducible refine a7_ ?_ ?_);(focus (go_simp;done)))|((with_reducible refine a0_ fun X Y=>?_);go_simp;(first|(refine ⟨_,⟨g1,rfl⟩,?_⟩)|skip);refine Y _ ?_;clear Y X)
 go_simp
def b2y (s:St) (x:Ev) (k:Nat) : Int:=if a2n (qat s.q k) x.car < 0 then 6 else 0
def a8o (s:St) (x:Ev) (k:Nat) : St:=⟨s.q.set k ((qat s.q k).eraseIdx (a2n (qat s.q k) x.car).toNat),s.tk,s.time⟩
def feedN (r:Ru) (k:Nat) : Nat:=(rat r.ranks k).feeder.toNat
def a6n (r:Ru) (s:St) (k:Nat) : Int:=
 if (rat r.ranks k).feeder = -1 then 6 else fst [unl (rat r.ranks k).called 22,unl (decide (0 < (qat s.q (feedN r k)).length)) 12,unl (f0_ r s k) 16]
def upS (r:Ru) (s:St) (k:Nat) : St:=⟨upQ s.q k (feedN r k),s.tk,s.time⟩
def d1f (s:St) (x:Ev) : Tk:=d5_ s.tk (a0o s.tk x.car).toNat
def b5b (r:Ru) (s:St) (x:Ev) (k:Nat) : Int:=
 if a0o s.tk x.car < 0∨(d1f s x).rank≠x.rank then 6 else fst [unl (decide (x.time - (d1f s x).time≤r.ret)) 25,unl (f0_ r s k) 16]
def b1e (s:St) (x:Ev) : List Tk:=s.tk.eraseIdx (a0o s.tk x.car).toNat
def c2f (s:St) (x:Ev) (k:Nat) : St:=⟨s.q.set k ([x.car]++qat s.q k),b1e s x,s.time⟩
def n9_ (r:Ru) (s:St) (k:Nat) : Bool:=decide ((rat r.ranks k).feeder≠-1)&&decide (0 < (qat s.q (feedN r k)).length)
def l0_ (r:Ru) (s:St) (x:Ev) (k:Nat) : Int:=fst [unl (!decide (0≤f8_ s.q x.car)) 5,unl (!n9_ r s k) 13,unl (f0_ r s k) 16]
def a6o (s:St) (x:Ev) (k:Nat) : St:=⟨s.q.set k (qat s.q k++[x.car]),if 0≤a0o s.tk x.car then b1e s x else s.tk,s.time⟩
def a6p (r:Ru) (s:St) (x:Ev) (k:Nat) : St:=⟨s.q.set k (q0_ r (qat s.q k) x.car),s.tk,s.time⟩
def doE (r:Ru) (s:St) (x:Ev) (k:Nat) : Int:=
 if x.kind=0 then l0_ r s x k else if x.kind=1 then v2_ s x k else if x.kind=2 then y8_ (qat s.q k) x.car else if x.kind=3 then b2y s x k else if x.kind=4 then a6n r s k else b5b r s x k
def doS (r:Ru) (s:St) (x:Ev) (k:Nat) : St:=
 if x.kind=0 then a6o s x k else if x.kind=1 then a8l s x k else if x.kind=2 then a6p r s x k else if x.kind=3 then a8o s x k else if x.kind=4 then upS r s k else c2f s x k
def doM (r:Ru) (s:St) (x:Ev) (k:Nat) : List Sg:=if x.kind=4 then upM s.q k (feedN r k) else []
def a4t (r:Ru) : Nat→St→List Sg→St×List Sg
 | 0,s,m=>(s,m)
 | n+1,s,m=>if i8_ r s < 0 then (s,m) else a4t r n (upS r s (i8_ r s).toNat) (m++upM s.q (i8_ r s).toNat (feedN r (i8_ r s).toNat))
def o7_:Nat→List (List ByteArray)→Nat
 | _,[]=>0
 | i,l::r=>i*l.length+o7_ (i+1) r
def evE (r:Ru) (x:Ev) : Int:=
 fst [unl (inR x.kind 0 5) 15,unl (inR x.time 0 604800) 2,unl (inR x.rank 0 ((r.ranks.length:Int) - 1)) 6,unl (!decide (x.kind=4) || decide (x.car=ByteArray.empty)) 3,unl (decide (x.kind=4) || c5_ x.car) 4]
def apE (r:Ru) (s:St) (x:Ev) : Int:=fst [evE r x,unl (decide (s.time≤x.time)) 9,doE r s x x.rank.toNat]
def atS (s:St) (t:Int) : St:=⟨s.q,s.tk,t⟩
def apU (r:Ru) (s:St) (x:Ev) : St×List Sg:=a4t r (o7_ 0 (doS r s x x.rank.toNat).q) (atS (doS r s x x.rank.toNat) x.time) (doM r s x x.rank.toNat)
theorem a2z {l:List ByteArray} {c:ByteArray} : a2n l c < 0↔c∉l:=by
 unfold a2n;rcases m8_ (isT l c) l.length with ⟨h,hn⟩|⟨k,hk,h,hp,_⟩
 ·rw [h];refine ⟨fun _ hm=>?_,fun _=>by decide⟩;obtain ⟨j,hj,rfl⟩:=List.getElem_of_mem hm;have:=hn j hj;simp [isT,c9_ hj] at this
 ·rw [h];refine ⟨fun hh=>by omega,fun hm=>absurd ?_ hm⟩;unfold isT at hp;rw [c9_ hk] at hp;rw [←of_decide_eq_true hp];exact List.getElem_mem hk
theorem c6b {l:List ByteArray} {c:ByteArray} (h:c∈l) : ∃ k:Nat,a2n l c=(k:Int)∧∃ hk:k < l.length,l[k]=c:=by
 rcases m8_ (isT l c) l.length with ⟨h1,hn⟩|⟨k,hk,h1,hp,_⟩
 ·obtain ⟨j,hj,rfl⟩:=List.getElem_of_mem h;have:=hn j hj;simp [isT,c9_ hj] at this
 ·unfold isT at hp;rw [c9_ hk] at hp;exact ⟨k,h1,hk,of_decide_eq_true hp⟩
theorem q1_ {l:List Tk} {c:ByteArray} : a0o l c < 0↔c∉l.map (·.car):=by
 unfold a0o;rcases m8_ (c1r l c) l.length with ⟨h,hn⟩|⟨k,hk,h,hp,_⟩
 ·rw [h];refine ⟨fun _ hm=>?_,fun _=>by decide⟩;obtain ⟨x,hx,rfl⟩:=List.mem_map.1 hm;obtain ⟨j,hj,rfl⟩:=List.getElem_of_mem hx;have:=hn j hj;simp [c1r,e8_ hj] at this
 ·rw [h];refine ⟨fun hh=>by omega,fun hm=>absurd ?_ hm⟩;unfold c1r at hp;rw [e8_ hk] at hp;rw [←of_decide_eq_true hp];exact List.mem_map_of_mem (List.getElem_mem hk)
theorem a3n {l:List Tk} {c:ByteArray} (h:c∈l.map (·.car)) : ∃ k:Nat,a0o l c=(k:Int)∧∃ hk:k < l.length,l[k].car=c∧∀ j (hj:j < k),l[j].car≠c:=by
 rcases m8_ (c1r l c) l.length with ⟨h1,hn⟩|⟨k,hk,h1,hp,hb⟩
 ·obtain ⟨x,hx,rfl⟩:=List.mem_map.1 h;obtain ⟨j,hj,rfl⟩:=List.getElem_of_mem hx;have:=hn j hj;simp [c1r,e8_ hj] at this
 ·unfold c1r at hp hb;rw [e8_ hk] at hp;refine ⟨k,h1,hk,of_decide_eq_true hp,fun j hj=>?_⟩;have:=hb j hj;rw [e8_ (by omega)] at this;exact of_decide_eq_false this
theorem b7j {q:List (List ByteArray)} {c:ByteArray} : f8_ q c < 0↔c∉q.flatten:=by
 unfold f8_;rcases m8_ (inQ q c) q.length with ⟨h,hn⟩|⟨k,hk,h,hp,_⟩
 ·rw [h];refine ⟨fun _ hm=>?_,fun _=>by decide⟩;obtain ⟨l,hl,hc⟩:=List.mem_flatten.1 hm;obtain ⟨j,hj,rfl⟩:=List.getElem_of_mem hl;have:=of_decide_eq_false (hn j hj);rw [d8_ hj] at this;exact a2z.1 (by omega) hc
 ·rw [h];refine ⟨fun hh=>by omega,fun hm=>absurd ?_ hm⟩;have hp:=of_decide_eq_true hp;rw [d8_ hk] at hp;have:c∈q[k]:=Classical.byContradiction fun hc=>by
   have:=a2z.2 hc;omega
  exact List.mem_flatten.2 ⟨_,List.getElem_mem hk,this⟩
def cnt (c:ByteArray) (l:List ByteArray) : Nat:=l.countP fun x=>decide (x=c)
theorem d4_ (c d:ByteArray) (l:List ByteArray) : cnt c (d::l)=cnt c l+if d=c then 1 else 0:=by
 unfold cnt;rw [List.countP_cons];by_cases h:d=c<;>simp [h]
theorem f9_ (c:ByteArray) (a b:List ByteArray) : cnt c (a++b)=cnt c a+cnt c b:=List.countP_append
theorem h7_ (c:ByteArray) : cnt c []=0:=rfl
theorem j0_ {c:ByteArray} {l:List ByteArray} : 0 < cnt c l↔c∈l:=by
 unfold cnt;rw [List.countP_pos_iff];exact ⟨fun ⟨a,ha,h⟩=>of_decide_eq_true h▸ha,fun h=>⟨c,h,by simp⟩⟩
def Once (l:List ByteArray) : Prop:=∀ c,cnt c l≤1
def a2e (s:St) : List ByteArray:=s.q.flatten++s.tk.map (·.car)
theorem Once.tail {c:ByteArray} {l:List ByteArray} (h:Once (c::l)) : Once l:=fun d=>by
 have:=h d;rw [d4_] at this;omega
theorem Once.not {c:ByteArray} {l:List ByteArray} (h:Once (c::l)) : c∉l:=fun hm=>by
 have:=h c;rw [d4_,if_pos rfl] at this;have:=j0_.2 hm;omega
theorem a2f {α:Type} (f:α→ByteArray) {c:ByteArray} : ∀ (l:List α) (k:Nat) (hk:k < l.length),Once (l.map f)→f l[k]=c→l.eraseIdx k=l.filter (fun x=>decide (f x≠c))
 | [],k,hk,_,_=>by simp at hk
 | x::l,0,_,h,e=>by
  simp at e;rw [List.map_cons] at h;have hn:=h.not;rw [e] at hn;rw [List.eraseIdx_zero,List.tail_cons,List.filter_cons,if_neg (by simp [e])];refine (List.filter_eq_self.2 fun y hy=>?_).symm;refine decide_eq_true fun he=>hn ?_;rw [←he];exact List.mem_map_of_mem hy
 | x::l,k+1,hk,h,e=>by
  rw [List.map_cons] at h;simp at hk e;have hx:f x≠c:=fun he=>h.not (by rw [he,←e];exact List.mem_map_of_mem (List.getElem_mem hk));rw [List.eraseIdx_cons_succ,List.filter_cons,if_pos (by simp [hx]),a2f f l k hk h.tail e]
theorem e6_ {q:List (List ByteArray)} : ∀ {k:Nat},k < q.length→∀ (l:List ByteArray) (c:ByteArray),cnt c (q.set k l).flatten+cnt c (qat q k)=cnt c q.flatten+cnt c l:=by
 induction q with
 | nil=>intro k hk;simp at hk
 | cons x q ih=>
  intro k hk l c;cases k with
  | zero=>
   simp [qat,f9_];omega
  | succ k=>
   have:=ih (k:=k) (by simpa using hk) l c;simp [qat,f9_] at this ⊢;omega
theorem Once.row {q:List (List ByteArray)} {k:Nat} (hk:k < q.length) (h:Once q.flatten) : Once (qat q k):=fun c=>by
 have h1:=e6_ hk [] c;have:=h c;rw [h7_] at h1;omega
theorem Once.left {a b:List ByteArray} (h:Once (a++b)) : Once a:=fun c=>by
 have:=h c;rw [f9_] at this;omega
theorem Once.right {a b:List ByteArray} (h:Once (a++b)) : Once b:=fun c=>by
 have:=h c;rw [f9_] at this;omega
structure RuOK (r:Ru) : Prop where
 n0:0 < r.ranks.length
 n6:r.ranks.length≤6
 pl:∀ k,k < r.ranks.length→1≤(rat r.ranks k).places∧(rat r.ranks k).places≤12
 fd:∀ k,k < r.ranks.length→(rat r.ranks k).feeder≠-1→(k:Int) < (rat r.ranks k).feeder∧(rat r.ranks k).feeder < r.ranks.length
 bk:r.back = -1∨0≤r.back∧r.back≤12
 rt:0≤r.ret∧r.ret≤3600
structure Inv (r:Ru) (s:St) : Prop where
 len:s.q.length=r.ranks.length
 once:Once (a2e s)
 name:∀ c∈a2e s,c5_ c=true
 fit:∀ k,k < s.q.length→((qat s.q k).length:Int)≤(rat r.ranks k).places
 tkl:s.tk.length≤40
 tkr:∀ t∈s.tk,0≤t.rank∧t.rank < r.ranks.length
 tkt:∀ t∈s.tk,0≤t.time∧t.time≤s.time
 ord:s.tk.Pairwise fun a b=>a.time≤b.time
 t0:0≤s.time∧s.time≤604800
theorem RuOK.feedN {r:Ru} (h:RuOK r) {k:Nat} (hk:k < r.ranks.length) (hf:(rat r.ranks k).feeder≠-1) : (rat r.ranks k).feeder=(feedN r k:Int)∧k < feedN r k∧feedN r k < r.ranks.length:=by
 obtain ⟨h1,h2⟩:=h.fd k hk hf;unfold Go.Proofs.YtoibondihdhnoaaGreatDoor.feedN;omega
theorem RuOK.feed {r:Ru} (h:RuOK r) : z7_ r r.ranks.length:=fun k hk hf=>by
 obtain ⟨h1,h2⟩:=h.fd k hk hf;omega
theorem a0a {q:List (List ByteArray)} {k j:Nat} {l:List ByteArray} (hk:k < q.length) : qat (q.set k l) j=if j=k then l else qat q j:=by
 unfold qat;rw [List.getD_eq_getElem?_getD,List.getElem?_set];split
 ·rename_i h;subst h;simp
 ·rename_i h;rw [if_neg (fun he=>h he.symm),List.getD_eq_getElem?_getD]
theorem g9_ (c:ByteArray) (s:St) : cnt c (a2e s)=cnt c s.q.flatten+cnt c (s.tk.map (·.car)):=f9_ _ _ _
theorem Inv.cars {r:Ru} {s s':St} {x:ByteArray} (h:Inv r s) (hc:∀ c,cnt c (a2e s')≤cnt c (a2e s)∨c=x∧c5_ x=true∧cnt c (a2e s')≤1) : Once (a2e s')∧∀ c∈a2e s',c5_ c=true:=by
 refine ⟨fun c=>?_,fun c hm=>?_⟩
 ·rcases hc c with h1|⟨_,_,h1⟩
  ·have:=h.once c;omega
  ·exact h1
 ·rcases hc c with h1|⟨rfl,h1,_⟩
  ·exact h.name c (j0_.1 (by have:=j0_.2 hm;omega))
  ·exact h1
theorem x7_ (c d:ByteArray) (l:List Tk) : cnt c ((l.filter fun t=>decide (t.car≠d)).map (·.car))=if c=d then 0 else cnt c (l.map (·.car)):=by
 induction l with
 | nil=>simp [h7_]
 | cons t l ih=>
  rw [List.filter_cons];by_cases ht:t.car=d
  ·rw [if_neg (by simp [ht]),ih,List.map_cons,d4_,ht];by_cases hc:c=d
   ·simp [hc]
   ·rw [if_neg hc,if_neg hc,if_neg (Ne.symm hc)];rfl
  ·rw [if_pos (by simp [ht]),List.map_cons,List.map_cons,d4_,d4_,ih];by_cases hc:c=d
   ·rw [if_pos hc,if_pos hc,hc,if_neg ht]
   ·rw [if_neg hc,if_neg hc]
theorem Once.tk {s:St} (h:Once (a2e s)) : Once (s.tk.map (·.car)):=h.right
theorem Once.q {s:St} (h:Once (a2e s)) : Once s.q.flatten:=h.left
theorem b1f {s:St} (h:Once (a2e s)) (x:Ev) : (if 0≤a0o s.tk x.car then b1e s x else s.tk)=s.tk.filter fun t=>decide (t.car≠x.car):=by
 by_cases hc:x.car∈s.tk.map (·.car)
 ·obtain ⟨k,e,hk,he,_⟩:=a3n hc;rw [if_pos (by omega)];unfold b1e;rw [e,Int.toNat_natCast];exact a2f (·.car) s.tk k hk h.tk he
 ·have:=q1_.2 hc;rw [if_neg (by omega)];refine (List.filter_eq_self.2 fun t ht=>decide_eq_true (p:=t.car≠x.car) fun he=>hc ?_).symm;rw [←he];exact List.mem_map_of_mem ht
theorem a5g {s:St} (h:Once (a2e s)) (x:Ev) (hx:¬a0o s.tk x.car < 0) : b1e s x=s.tk.filter fun t=>decide (t.car≠x.car):=by
 rw [←b1f h x,if_pos (by omega)]
theorem o4_ {l:List ByteArray} {c:ByteArray} (h:y8_ l c=0) : ∃ t,l=c::t:=by
 unfold y8_ at h;cases l with
 | nil=>simp at h
 | cons a t=>
  rw [if_neg (by simp)] at h;have:tat (a::t) 0=a:=rfl;rw [this] at h;unfold unl at h;split at h
  ·rename_i he;exact ⟨t,by rw [of_decide_eq_true he]⟩
  ·cases h
theorem a3o (c:ByteArray) : ∀ (l:List ByteArray) (k:Nat),cnt c (l.eraseIdx k)≤cnt c l
 | [],_=>by simp
 | d::l,0=>by rw [List.eraseIdx_zero,List.tail_cons,d4_];omega
 | d::l,k+1=>by
  rw [List.eraseIdx_cons_succ,d4_,d4_];have:=a3o c l k;omega
theorem d1_ {c:Bool} {e:Int} (he:e≠0) (h:unl c e=0) : c=true:=by
 unfold unl at h;split at h
 ·assumption
 ·exact absurd h he
theorem b6_ {x:Int} {l:List Int} : fst (x::l)=0↔x=0∧fst l=0:=by
 rw [fst];by_cases h:x=0
 ·simp [h]
 ·simp [h]
theorem a3p {r:Ru} {s:St} {k:Nat} (h:f0_ r s k=true) : ((qat s.q k).length:Int)+1≤(rat r.ranks k).places:=by
 have:=of_decide_eq_true h;omega
theorem b7k (q:List (List ByteArray)) (k f:Nat) : (upQ q k f).length=q.length:=by simp [upQ]
theorem c2g {l:List ByteArray} (h:0 < l.length) (c:ByteArray) : cnt c l.tail+(if tat l 0=c then 1 else 0)=cnt c l:=by
 cases l with
 | nil=>simp at h
 | cons a l=>rw [List.tail_cons,d4_];rfl
theorem b1g {q:List (List ByteArray)} {k f:Nat} (hk:k < q.length) (hf:f < q.length) (hne:k≠f) (hp:0 < (qat q f).length) (c:ByteArray) : cnt c (upQ q k f).flatten=cnt c q.flatten:=by
 have h1:=e6_ hf (qat q f).tail c;have h2:=e6_ (q:=q.set f (qat q f).tail) (k:=k) (by simpa using hk) (qat q k++[tat (qat q f) 0]) c;have h3:=c2g hp c;rw [a0a hf,if_neg hne,f9_,d4_,h7_] at h2;unfold upQ;omega
theorem Inv.up {r:Ru} {s:St} (hr:RuOK r) (h:Inv r s) {k:Nat} (hk:k < s.q.length) (hf:(rat r.ranks k).feeder≠-1) (hp:0 < (qat s.q (feedN r k)).length) (hfr:f0_ r s k=true) : Inv r (upS r s k):=by
 have hkr:k < r.ranks.length:=by rw [←h.len];exact hk
 obtain ⟨h1,h2,h3⟩:=hr.feedN hkr hf;have hfl:feedN r k < s.q.length:=by rw [h.len];exact h3
 have hc:=h.cars (s':=upS r s k) (x:=ByteArray.empty) fun c=>.inl (by
  rw [g9_,g9_];show cnt c (upQ s.q k (feedN r k)).flatten+_≤_;rw [b1g hk hfl (by omega) hp];exact Nat.le_refl _)
 refine ⟨?_,hc.1,hc.2,fun j hj=>?_,h.tkl,h.tkr,h.tkt,h.ord,h.t0⟩
 ·show (upQ _ _ _).length=_;rw [b7k,h.len]
 ·have hj':j < s.q.length:=by
   have:j < (upQ s.q k (feedN r k)).length:=hj;rwa [b7k] at this
  have:=h.fit j hj';have hf1:=a3p hfr;show ((qat (upQ s.q k (feedN r k)) j).length:Int)≤_;unfold upQ;rw [a0a (by simpa using hk)];split
  ·rename_i he;subst he;rw [List.length_append];simp;exact hf1
  ·rw [a0a hfl];split
   ·rename_i he;subst he;rw [List.length_tail];omega
   ·exact this
theorem v3_ {r:Ru} {s:St} {k:Nat} (h:x2_ r s k=true) : (rat r.ranks k).feeder≠-1∧0 < (qat s.q (feedN r k)).length∧f0_ r s k=true:=by
 unfold x2_ at h;simp only [Bool.and_eq_true,decide_eq_true_eq] at h;exact ⟨h.1.1.1,h.2,h.1.2⟩
theorem a0r {r:Ru} {s:St} (h:¬i8_ r s < 0) : ∃ k:Nat,i8_ r s=k∧k < r.ranks.length∧x2_ r s k=true:=by
 rcases m8_ (x2_ r s) r.ranks.length with ⟨h1,_⟩|⟨k,hk,h1,hp,_⟩
 ·exact absurd (show i8_ r s < 0 by unfold i8_;rw [h1];decide) h
 ·exact ⟨k,h1,hk,hp⟩
theorem a8p {q:List (List ByteArray)} : ∀ {k i:Nat},k < q.length→∀ (l:List ByteArray),o7_ i (q.set k l)+(i+k)*(qat q k).length=o7_ i q+(i+k)*l.length:=by
 induction q with
 | nil=>intro k i hk;simp at hk
 | cons x q ih=>
  intro k i hk l;cases k with
  | zero=>
   simp [qat,o7_];omega
  | succ k=>
   have:=ih (k:=k) (i:=i+1) (by simpa using hk) l;rw [show i+1+k=i+(k+1) by omega] at this;simp [qat,o7_] at this ⊢;omega
theorem a6q {r:Ru} {s:St} (hr:RuOK r) (hl:s.q.length=r.ranks.length) {k:Nat} (hk:k < s.q.length) (hf:(rat r.ranks k).feeder≠-1) (hp:0 < (qat s.q (feedN r k)).length) : o7_ 0 (upS r s k).q+1≤o7_ 0 s.q:=by
 have hkr:k < r.ranks.length:=by rw [←hl];exact hk
 obtain ⟨h1,h2,h3⟩:=hr.feedN hkr hf;have hfl:feedN r k < s.q.length:=by rw [hl];exact h3
 have e1:=a8p (i:=0) hfl (qat s.q (feedN r k)).tail;have e2:=a8p (q:=s.q.set (feedN r k) (qat s.q (feedN r k)).tail) (k:=k) (i:=0) (by simpa using hk) (qat s.q k++[tat (qat s.q (feedN r k)) 0]);rw [a0a hfl,if_neg (by omega),List.length_append] at e2;rw [List.length_tail] at e1;show o7_ 0 (upQ s.q k (feedN r k))+1≤_;unfold upQ;generalize (qat s.q (feedN r k)).length=m at *;obtain ⟨m',rfl⟩ : ∃ m',m=m'+1:=⟨m - 1,by omega⟩
 simp only [Nat.add_sub_cancel,Nat.zero_add,Nat.mul_add,Nat.mul_one,List.length_cons,List.length_nil] at e1 e2;omega
theorem b2z {r:Ru} (hr:RuOK r) : ∀ (n:Nat) (s:St) (m:List Sg),Inv r s→Inv r (a4t r n s m).1
 | 0,_,_,h=>h
 | n+1,s,m,h=>by
  rw [a4t];split
  ·exact h
  ·rename_i hn;obtain ⟨k,e,hk,hp⟩:=a0r hn;rw [e,Int.toNat_natCast];obtain ⟨h1,h2,h3⟩:=v3_ hp;exact b2z hr n _ _ (h.up hr (by rw [h.len];exact hk) h1 h2 h3)
theorem a8q {r:Ru} (hr:RuOK r) : ∀ (n:Nat) (s:St) (m:List Sg),Inv r s→o7_ 0 s.q≤n→i8_ r (a4t r n s m).1 < 0
 | 0,s,m,h,hn=>by
  rw [a4t];refine Classical.byContradiction fun hx=>?_;obtain ⟨k,e,hk,hp⟩:=a0r hx;obtain ⟨h1,h2,h3⟩:=v3_ hp;have:=a6q hr h.len (by rw [h.len];exact hk) h1 h2;omega
 | n+1,s,m,h,hn=>by
  rw [a4t];split
  ·assumption
  ·rename_i hx;obtain ⟨k,e,hk,hp⟩:=a0r hx;rw [e,Int.toNat_natCast];obtain ⟨h1,h2,h3⟩:=v3_ hp;have hkl:k < s.q.length:=by rw [h.len];exact hk
   have:=a6q hr h.len hkl h1 h2;exact a8q hr n _ _ (h.up hr hkl h1 h2 h3) (by omega)
theorem a8r {r:Ru} : ∀ (n:Nat) (s:St) (m:List Sg),(a4t r n s m).1.time=s.time∧(a4t r n s m).1.tk=s.tk
 | 0,_,_=>⟨rfl,rfl⟩
 | n+1,s,m=>by
  rw [a4t];split
  ·exact ⟨rfl,rfl⟩
  ·exact a8r n _ _
theorem Inv.doS {r:Ru} {s:St} (hr:RuOK r) (h:Inv r s) {x:Ev} (he:evE r x=0) (ht:s.time≤x.time) {k:Nat} (hx:x.rank=k) (hd:doE r s x k=0) : Inv r (atS (doS r s x k) x.time):=by
 unfold evE at he;rw [b6_,b6_,b6_,b6_,b6_] at he;obtain ⟨e1,e2,e3,e4,e5,_⟩:=he;replace e1:=d1_ (by decide) e1
 replace e2:=d1_ (by decide) e2
 replace e3:=d1_ (by decide) e3
 replace e5:=d1_ (by decide) e5
 rw [n7_] at e1 e2 e3;have hkr:k < r.ranks.length:=by omega
 have hk:k < s.q.length:=by rw [h.len];exact hkr
 have hfit:=h.fit k hk;have hT:0≤x.time∧x.time≤604800:=e2;have hnm:x.kind≠4→c5_ x.car=true:=fun h4=>by
  rw [decide_eq_false h4] at e5;simpa using e5
 have hset:∀ (l:List ByteArray) (tk:List Tk),(l.length:Int)≤(rat r.ranks k).places→tk.length≤40→(∀ t∈tk,0≤t.rank∧t.rank < r.ranks.length)→(∀ t∈tk,0≤t.time∧t.time≤x.time)→tk.Pairwise (fun a b=>a.time≤b.time) →
   (∀ c,cnt c (a2e ⟨s.q.set k l,tk,x.time⟩)≤cnt c (a2e s)∨c=x.car∧c5_ x.car=true∧cnt c (a2e ⟨s.q.set k l,tk,x.time⟩)≤1)→Inv r ⟨s.q.set k l,tk,x.time⟩:=fun l tk hl h40 hrk htm hor hc=>by
  have hcc:=h.cars hc;refine ⟨by simp [h.len],hcc.1,hcc.2,fun j hj=>?_,h40,hrk,htm,hor,hT⟩;have hj':j < s.q.length:=by simpa using hj
  show ((qat (s.q.set k l) j).length:Int)≤_;rw [a0a hk];split
  ·rename_i he;rw [he];exact hl
  ·exact h.fit j hj'
 have htk:∀ t∈s.tk,0≤t.time∧t.time≤x.time:=fun t hm=>by
  have:=h.tkt t hm;omega
 have hfm:∀ {t:Tk},t∈s.tk.filter (fun t=>decide (t.car≠x.car))→t∈s.tk:=fun hm=>(List.mem_filter.1 hm).1;have hfl:(s.tk.filter fun t=>decide (t.car≠x.car)).length≤40:=Nat.le_trans (List.length_filter_le _ _) h.tkl;have hfo:(s.tk.filter fun t=>decide (t.car≠x.car)).Pairwise fun a b=>a.time≤b.time:=h.ord.sublist List.filter_sublist;unfold Go.Proofs.YtoibondihdhnoaaGreatDoor.doS;unfold doE at hd;by_cases k0:x.kind=0
 ·rw [if_pos k0] at hd ⊢;have hn:=hnm (by omega);unfold l0_ at hd;rw [b6_,b6_,b6_] at hd;have f1:=d1_ (by decide) hd.1;have f3:=a3p (d1_ (by decide) hd.2.2.1);have hq:x.car∉s.q.flatten:=b7j.1 (by simpa using f1);have hq0:cnt x.car s.q.flatten=0:=Nat.eq_zero_of_not_pos fun hp=>hq (j0_.1 hp);unfold a6o atS;simp only;rw [b1f h.once];refine hset _ _ (by simp;exact f3) hfl (fun t hm=>h.tkr t (hfm hm)) (fun t hm=>htk t (hfm hm)) hfo fun c=>?_;have h1:=e6_ hk (qat s.q k++[x.car]) c;rw [f9_,d4_,h7_] at h1;rw [g9_,g9_];simp only;rw [x7_];by_cases hc:c=x.car
  ·subst hc;refine .inr ⟨rfl,hn,?_⟩;rw [if_pos rfl] at h1 ⊢;omega
  ·rw [if_neg hc];rw [if_neg (Ne.symm hc)] at h1;exact .inl (by omega)
 rw [if_neg k0] at hd ⊢;by_cases k1:x.kind=1
 ·rw [if_pos k1] at hd ⊢;unfold v2_ at hd;rw [b6_,b6_] at hd;obtain ⟨t,et⟩:=o4_ hd.1;have f2:=of_decide_eq_true (d1_ (by decide) hd.2.1);unfold a8l atS;simp only;refine hset _ _ (by rw [List.length_tail];omega) (by simp;omega) (fun t hm=>?_) (fun t hm=>?_) ?_ fun c=>.inl ?_
  ·rcases List.mem_append.1 hm with hm|hm
   ·exact h.tkr t hm
   ·simp at hm;subst hm;exact ⟨by simp only;omega,by simp only;omega⟩
  ·rcases List.mem_append.1 hm with hm|hm
   ·exact htk t hm
   ·simp at hm;subst hm;exact ⟨hT.1,Int.le_refl _⟩
  ·rw [List.pairwise_append];refine ⟨h.ord,by simp,fun a ha b hb=>?_⟩;simp at hb;subst hb;exact (htk a ha).2
  ·have h1:=e6_ hk (qat s.q k).tail c;rw [g9_,g9_];simp only [List.map_append,List.map_cons,List.map_nil];rw [f9_,d4_,h7_];rw [et] at h1 ⊢;rw [List.tail_cons,d4_] at h1;rw [List.tail_cons];omega
 rw [if_neg k1] at hd ⊢;by_cases k2:x.kind=2
 ·rw [if_pos k2] at hd ⊢;obtain ⟨t,et⟩:=o4_ hd;unfold a6p atS;simp only;refine hset _ _ ?_ h.tkl h.tkr htk h.ord fun c=>.inl ?_
  ·unfold q0_;rw [et] at hfit ⊢;simp only [List.tail_cons,List.length_append,List.length_take,List.length_drop,List.length_cons,List.length_nil] at hfit ⊢;omega
  ·have h1:=e6_ hk (q0_ r (qat s.q k) x.car) c;rw [g9_,g9_];simp only;have h2:cnt c (q0_ r (qat s.q k) x.car)=cnt c (qat s.q k):=by
    unfold q0_;have h3:=f9_ c ((qat s.q k).tail.take (a2p r (qat s.q k).tail.length)) ((qat s.q k).tail.drop (a2p r (qat s.q k).tail.length));rw [List.take_append_drop] at h3;rw [f9_,f9_,d4_,h7_];have h4:cnt c (qat s.q k)=cnt c (qat s.q k).tail+if x.car=c then 1 else 0:=by rw [et,List.tail_cons,d4_]
    omega
   omega
 rw [if_neg k2] at hd ⊢;by_cases k3:x.kind=3
 ·rw [if_pos k3] at hd ⊢;unfold a8o atS;simp only;refine hset _ _ ?_ h.tkl h.tkr htk h.ord fun c=>.inl ?_
  ·have:=List.length_eraseIdx_le (qat s.q k) (a2n (qat s.q k) x.car).toNat;omega
  ·have h1:=e6_ hk ((qat s.q k).eraseIdx (a2n (qat s.q k) x.car).toNat) c;have h2:=a3o c (qat s.q k) (a2n (qat s.q k) x.car).toNat;rw [g9_,g9_];simp only;omega
 rw [if_neg k3] at hd ⊢;by_cases k4:x.kind=4
 ·rw [if_pos k4] at hd ⊢;unfold a6n at hd;by_cases hf:(rat r.ranks k).feeder = -1
  ·rw [if_pos hf] at hd;cases hd
  ·rw [if_neg hf,b6_,b6_,b6_] at hd;have f2:=of_decide_eq_true (d1_ (by decide) hd.2.1);have f3:=d1_ (by decide) hd.2.2.1;have hu:=h.up hr hk hf f2 f3;exact ⟨hu.len,hu.once,hu.name,hu.fit,hu.tkl,hu.tkr,htk,hu.ord,hT⟩
 rw [if_neg k4] at hd ⊢;unfold b5b at hd;split at hd
 ·cases hd
 ·rename_i hor;have hor1:¬a0o s.tk x.car < 0:=fun hh=>hor (.inl hh);rw [b6_,b6_] at hd;have f3:=a3p (d1_ (by decide) hd.2.1);have hn:=hnm k4;unfold c2f atS;simp only;rw [a5g h.once x hor1];refine hset _ _ (by simp;omega) hfl (fun t hm=>h.tkr t (hfm hm)) (fun t hm=>htk t (hfm hm)) hfo fun c=>?_;have h1:=e6_ hk ([x.car]++qat s.q k) c;rw [f9_,d4_,h7_] at h1;rw [g9_,g9_];simp only;rw [x7_];have hin:x.car∈s.tk.map (·.car):=Classical.byContradiction fun hc=>hor1 (q1_.2 hc);have h2:=j0_.2 hin;have h3:=h.once x.car;rw [g9_] at h3;by_cases hc:c=x.car
  ·subst hc;refine .inr ⟨rfl,hn,?_⟩;rw [if_pos rfl] at h1 ⊢;omega
  ·rw [if_neg hc];rw [if_neg (Ne.symm hc)] at h1;exact .inl (by omega)
def woT (l:List ByteArray) (c:ByteArray) : List ByteArray:=l.filter fun d=>decide (d≠c)
theorem c6c {r:Ru} {x:Ev} (h:evE r x=0) : 0≤x.kind∧x.kind≤5:=by
 unfold evE at h;rw [b6_] at h;exact n7_.1 (d1_ (by decide) h.1)
theorem c2h {r:Ru} {x:Ev} (h:evE r x=0) : 0≤x.rank∧x.rank < r.ranks.length:=by
 unfold evE at h;rw [b6_,b6_,b6_] at h;have:=n7_.1 (d1_ (by decide) h.2.2.1);omega
theorem c6d {r:Ru} {x:Ev} (h:evE r x=0) : 0≤x.time∧x.time≤604800:=by
 unfold evE at h;rw [b6_,b6_] at h;exact n7_.1 (d1_ (by decide) h.2.1)
def b5c (x:Ev) : List Sg:=if x.kind=4 then [] else if x.kind=5 then [⟨0,x.rank,x.car⟩] else [⟨x.kind,x.rank,x.car⟩]
def goP (r:Ru) : Nat→List Ev→St→St×Nat×Int
 | _,[],s=>(s,0,0)
 | i,x::l,s=>if apE r s x≠0 then (s,i,apE r s x) else goP r (i+1) l (apU r s x).1
def z0_ (r:Ru) : List Ev→St→List Sg
 | [],_=>[]
 | x::l,s=>if apE r s x≠0 then [] else b5c x++(apU r s x).2++z0_ r l (apU r s x).1
def st0 (r:Ru) : St:=⟨List.replicate r.ranks.length [],[],0⟩
theorem Inv.ap {r:Ru} {s:St} (hr:RuOK r) (h:Inv r s) {x:Ev} (he:apE r s x=0) : Inv r (apU r s x).1∧i8_ r (apU r s x).1 < 0∧(apU r s x).1.time=x.time:=by
 unfold apE at he;rw [b6_,b6_,b6_] at he;obtain ⟨h1,h2,h3,_⟩:=he;have ht:s.time≤x.time:=of_decide_eq_true (d1_ (by decide) h2);have hx:x.rank=(x.rank.toNat:Int):=by
  have:=c2h h1;omega
 have hi:=h.doS hr h1 ht hx h3;exact ⟨b2z hr _ _ _ hi,a8q hr _ _ _ hi (Nat.le_refl _),(a8r _ _ _).1⟩
theorem a0s:∀ n:Nat,(List.replicate n ([] : List ByteArray)).flatten=[]
 | 0=>rfl
 | n+1=>by rw [List.replicate_succ,List.flatten_cons,a0s n];rfl
theorem c6e (n k:Nat) : qat (List.replicate n []) k=[]:=by
 unfold qat;rw [List.getD_eq_getElem?_getD,List.getElem?_replicate];split<;>rfl
theorem Inv.st0 {r:Ru} (hr:RuOK r) : Inv r (st0 r):=by
 refine ⟨by simp [Go.Proofs.YtoibondihdhnoaaGreatDoor.st0],fun c=>?_,fun c hc=>?_,fun k hk=>?_,by simp [Go.Proofs.YtoibondihdhnoaaGreatDoor.st0],fun t ht=>?_,fun t ht=>?_,.nil,by simp [Go.Proofs.YtoibondihdhnoaaGreatDoor.st0]⟩
 ·rw [g9_];show cnt c (List.replicate _ []).flatten+cnt c []≤1;rw [a0s,h7_];omega
 ·have h:=j0_.2 hc;rw [g9_] at h;change 0 < cnt c (List.replicate _ []).flatten+cnt c [] at h;rw [a0s,h7_] at h;omega
 ·show ((qat (List.replicate _ []) k).length:Int)≤_;rw [c6e];have:=hr.pl k (by simpa [Go.Proofs.YtoibondihdhnoaaGreatDoor.st0] using hk);simp;omega
 ·simp [Go.Proofs.YtoibondihdhnoaaGreatDoor.st0] at ht
 ·simp [Go.Proofs.YtoibondihdhnoaaGreatDoor.st0] at ht
inductive Mv (q:List (List ByteArray)) : Sg→List (List ByteArray)→Prop
 | arrive (R:Nat) (c:ByteArray) (hR:R < q.length) (hc:c∉q.flatten) : Mv q ⟨0,R,c⟩ (q.set R (qat q R++[c]))
 | serve (R:Nat) (c:ByteArray) (t:List ByteArray) (hR:R < q.length) (e:qat q R=c::t) : Mv q ⟨1,R,c⟩ (q.set R t)
 | decline (R:Nat) (c:ByteArray) (t:List ByteArray) (m:Nat) (hR:R < q.length) (e:qat q R=c::t) : Mv q ⟨2,R,c⟩ (q.set R (t.take m++[c]++t.drop m))
 | leave (R:Nat) (c:ByteArray) (hR:R < q.length) (hc:c∈qat q R) : Mv q ⟨3,R,c⟩ (q.set R (woT (qat q R) c))
def sAt (x:Sg) (R:Nat) (c:ByteArray) : Prop:=x.rank=R∧x.car=c
def LastAt (L:List Sg) (R:Nat) (c:ByteArray) (j:Nat) : Prop:=j < L.length∧sAt (e2_ L j) R c∧∀ n,j < n→n < L.length→¬sAt (e2_ L n) R c
def Bef (L:List Sg) (R:Nat) (a b:ByteArray) : Prop:=∀ i j,LastAt L R a i→(e2_ L i).kind=0→LastAt L R b j→(e2_ L j).kind=0→i < j
structure Jn (L:List Sg) (q:List (List ByteArray)) : Prop where
 here:∀ R c j,LastAt L R c j→(e2_ L j).kind=0→c∈qat q R
 ord:∀ R,(qat q R).Pairwise (Bef L R)
 once:Once q.flatten
theorem k2_ {L:List Sg} {x:Sg} {j:Nat} (h:j < L.length) : e2_ (L++[x]) j=e2_ L j:=by
 unfold e2_;rw [List.getD_eq_getElem?_getD,List.getD_eq_getElem?_getD,List.getElem?_append_left h]
theorem a0t {L:List Sg} {x:Sg} : e2_ (L++[x]) L.length=x:=by simp [e2_]
theorem LastAt.snoc {L:List Sg} {x:Sg} {R:Nat} {c:ByteArray} {j:Nat} (h:LastAt (L++[x]) R c j) : (sAt x R c∧j=L.length)∨(¬sAt x R c∧LastAt L R c j):=by
 obtain ⟨h1,h2,h3⟩:=h;rw [List.length_append,List.length_singleton] at h1 h3;by_cases he:j=L.length
 ·subst he;rw [a0t] at h2;exact .inl ⟨h2,rfl⟩
 ·refine .inr ⟨?_,by omega,?_,fun n hn hl=>?_⟩
  ·have:=h3 L.length (by omega) (by omega);rwa [a0t] at this
  ·rwa [k2_ (by omega)] at h2
  ·have:=h3 n hn (by omega);rwa [k2_ hl] at this
theorem a3q {L:List Sg} {x:Sg} {R:Nat} {c:ByteArray} {j:Nat} (h:LastAt L R c j) : (e2_ (L++[x]) j).kind=(e2_ L j).kind:=by rw [k2_ h.1]
theorem Bef.snoc {L:List Sg} {x:Sg} {R:Nat} {a b:ByteArray} (h:¬sAt x R a→¬sAt x R b→Bef L R a b) (ha:sAt x R a→x.kind≠0) : Bef (L++[x]) R a b:=fun i j hi ki hj kj=>by
 rcases hi.snoc with ⟨h1,rfl⟩|⟨h1,hi'⟩
 ·rw [a0t] at ki;exact absurd ki (ha h1)
 ·rcases hj.snoc with ⟨_,rfl⟩|⟨h2,hj'⟩
  ·exact hi'.1
  ·rw [a3q hi'] at ki;rw [a3q hj'] at kj;exact h h1 h2 i j hi' ki hj' kj
theorem b7l {α:Type} {P:α→α→Prop} {t:List α} {c:α} (m:Nat) (h:t.Pairwise P) (hc:∀ a∈t,P a c∧P c a) : (t.take m++[c]++t.drop m).Pairwise P:=by
 rw [←List.take_append_drop m t] at h;rw [List.pairwise_append] at h;obtain ⟨h1,h2,h3⟩:=h;have ht:∀ a∈t.take m,a∈t:=fun a ha=>List.mem_of_mem_take ha;have hd:∀ a∈t.drop m,a∈t:=fun a ha=>List.mem_of_mem_drop ha;rw [List.pairwise_append,List.pairwise_append];refine ⟨⟨h1,by simp,fun a ha b hb=>?_⟩,h2,fun a ha b hb=>?_⟩
 ·simp at hb;subst hb;exact (hc a (ht a ha)).1
 ·rcases List.mem_append.1 ha with ha|ha
  ·exact h3 a ha b hb
  ·simp at ha;subst ha;exact (hc b (hd b hb)).2
theorem b7m {x:Sg} {R R':Nat} {c a:ByteArray} (hx:sAt x R c) (h:R'≠R∨a≠c) : ¬sAt x R' a:=fun h2=>by
 obtain ⟨h3,h4⟩:=hx;obtain ⟨h5,h6⟩:=h2;rcases h with h|h
 ·omega
 ·exact h (h6.symm.trans h4)
theorem Jn.set {L:List Sg} {q:List (List ByteArray)} (J:Jn L q) {x:Sg} {R:Nat} {c:ByteArray} (hR:R < q.length) (hx:sAt x R c) {l:List ByteArray} (hon:Once (q.set R l).flatten)
  (hm:∀ a∈qat q R,a≠c→a∈l) (hc:x.kind=0→c∈l) (ho:l.Pairwise (Bef (L++[x]) R)) : Jn (L++[x]) (q.set R l):=by
 refine ⟨fun R' a j hj kj=>?_,fun R'=>?_,hon⟩
 ·rw [a0a hR];rcases hj.snoc with ⟨h1,rfl⟩|⟨h1,hj'⟩
  ·rw [a0t] at kj;obtain ⟨h2,h3⟩:=h1;obtain ⟨h4,h5⟩:=hx;rw [if_pos (by omega),←h3,h5];exact hc kj
  ·rw [a3q hj'] at kj;have:=J.here R' a j hj' kj;split
   ·rename_i he;subst he;exact hm a this fun h=>h1 ⟨hx.1,by rw [h];exact hx.2⟩
   ·exact this
 ·rw [a0a hR];split
  ·rename_i he;subst he;exact ho
  ·rename_i he;refine (J.ord R').imp fun {a b} h=>Bef.snoc (fun _ _=>h) fun h2=>absurd h2 (b7m hx (.inl he))
theorem Jn.step {L:List Sg} {q q':List (List ByteArray)} {x:Sg} (J:Jn L q) (h:Mv q x q') : Jn (L++[x]) q':=by
 cases h with
 | arrive R c hR hc=>
  have hcn:cnt c q.flatten=0:=Nat.eq_zero_of_not_pos fun hp=>hc (j0_.1 hp);have hnr:∀ a∈qat q R,a≠c:=fun a ha he=>hc (List.mem_flatten.2 ⟨qat q R,by rw [d8_ hR];exact List.getElem_mem hR,he▸ha⟩);refine J.set hR ⟨rfl,rfl⟩ (fun a=>?_) (fun a ha _=>List.mem_append_left _ ha) (fun _=>List.mem_append_right _ (by simp)) ?_
  ·have h1:=e6_ hR (qat q R++[c]) a;rw [f9_,d4_,h7_] at h1;have h2:=J.once a;by_cases he:c=a
   ·subst he;rw [if_pos rfl] at h1;omega
   ·rw [if_neg he] at h1;omega
  ·rw [List.pairwise_append];refine ⟨?_,by simp,fun a ha b hb=>?_⟩
   ·refine List.Pairwise.imp_of_mem (fun {a b} ha hb h=>Bef.snoc (fun _ _=>h) fun h2=>absurd h2 (b7m ⟨rfl,rfl⟩ (.inr (hnr a ha)))) (J.ord R)
   ·simp at hb;subst hb;refine Bef.snoc (fun _ h2=>absurd ⟨rfl,rfl⟩ h2) fun h2=>absurd h2 (b7m ⟨rfl,rfl⟩ (.inr (hnr a ha)))
 | serve R c t hR e=>
  have hr:=Once.row hR J.once;rw [e] at hr;refine J.set hR ⟨rfl,rfl⟩ (fun a=>?_) (fun a ha hn=>?_) (fun hk=>by cases hk) ?_
  ·have h1:=e6_ hR t a;have h2:=J.once a;rw [e,d4_] at h1;omega
  ·rw [e] at ha;exact (List.mem_cons.1 ha).resolve_left hn
  ·have:=J.ord R;rw [e] at this;exact (List.pairwise_cons.1 this).2.imp fun {a b} h=>Bef.snoc (fun _ _=>h) fun _=>by simp only;decide
 | decline R c t m hR e=>
  refine J.set hR ⟨rfl,rfl⟩ (fun a=>?_) (fun a ha hn=>?_) (fun hk=>by cases hk) ?_
  ·have h1:=e6_ hR (t.take m++[c]++t.drop m) a;have h2:=J.once a;have h3:=f9_ a (t.take m) (t.drop m);rw [List.take_append_drop] at h3;rw [e,d4_,f9_,f9_,d4_,h7_] at h1;omega
  ·rw [e] at ha;have ht:=(List.mem_cons.1 ha).resolve_left hn;rw [←List.take_append_drop m t] at ht;rcases List.mem_append.1 ht with ht|ht
   ·exact List.mem_append_left _ (List.mem_append_left _ ht)
   ·exact List.mem_append_right _ ht
  ·have:=J.ord R;rw [e] at this;refine b7l m ((List.pairwise_cons.1 this).2.imp fun {a b} h=>Bef.snoc (fun _ _=>h) fun _=>by simp only;decide) fun a ha=>⟨?_,?_⟩
   ·exact Bef.snoc (fun _ h2=>absurd ⟨rfl,rfl⟩ h2) fun _=>by simp only;decide
   ·exact Bef.snoc (fun h2 _=>absurd ⟨rfl,rfl⟩ h2) fun _=>by simp only;decide
 | leave R c hR hc=>
  refine J.set hR ⟨rfl,rfl⟩ (fun a=>?_) (fun a ha hn=>List.mem_filter.2 ⟨ha,by simpa using hn⟩) (fun hk=>by cases hk) ?_
  ·have h1:=e6_ hR (woT (qat q R) c) a;have h2:=J.once a;have h3:cnt a (woT (qat q R) c)≤cnt a (qat q R):=List.filter_sublist.countP_le;omega
  ·exact ((J.ord R).sublist List.filter_sublist).imp fun {a b} h=>Bef.snoc (fun _ _=>h) fun _=>by simp only;decide
inductive Mvs:List (List ByteArray)→List Sg→List (List ByteArray)→Prop
 | nil (q:List (List ByteArray)) : Mvs q [] q
 | cons {q q' q2:List (List ByteArray)} {x:Sg} {L:List Sg} (h:Mv q x q') (hs:Mvs q' L q2) : Mvs q (x::L) q2
theorem Mvs.app {q q' q2:List (List ByteArray)} {L L':List Sg} (h:Mvs q L q') (h2:Mvs q' L' q2) : Mvs q (L++L') q2:=by
 induction h with
 | nil=>exact h2
 | cons h _ ih=>exact .cons h (ih h2)
def a8s (L:List Sg) (i k:Nat) : Prop:=∃ n,i < n∧n < k∧(e2_ L n).rank=(e2_ L i).rank∧(e2_ L n).car=(e2_ L i).car
def OverP (L:List Sg) (i j k:Nat) : Prop:=
 i < j∧j < k∧k < L.length∧(e2_ L k).kind=1∧(e2_ L i).kind=0∧(e2_ L i).rank=(e2_ L k).rank∧(e2_ L i).car≠(e2_ L k).car∧¬a8s L i k ∧
  (e2_ L j).kind=0∧(e2_ L j).rank=(e2_ L k).rank∧(e2_ L j).car=(e2_ L k).car∧¬a8s L j k
theorem b5d {L:List Sg} {x:Sg} {i k:Nat} (hi:i < L.length) (hk:k≤L.length) : a8s (L++[x]) i k↔a8s L i k:=by
 unfold a8s;constructor
 ·rintro ⟨n,h1,h2,h3,h4⟩;rw [k2_ (by omega),k2_ hi] at h3 h4;exact ⟨n,h1,h2,h3,h4⟩
 ·rintro ⟨n,h1,h2,h3,h4⟩;exact ⟨n,h1,h2,by rw [k2_ (by omega),k2_ hi];exact h3,by rw [k2_ (by omega),k2_ hi];exact h4⟩
theorem OverP.snoc {L:List Sg} {x:Sg} {i j k:Nat} (h:OverP (L++[x]) i j k) (hk:k < L.length) : OverP L i j k:=by
 obtain ⟨h1,h2,_,h4,h5,h6,h7,h8,h9,h10,h11,h12⟩:=h;rw [k2_ hk] at h4 h6 h7 h10 h11;rw [k2_ (by omega)] at h5 h6 h7;rw [k2_ (by omega)] at h9 h10 h11;rw [b5d (by omega) (by omega)] at h8 h12;exact ⟨h1,h2,hk,h4,h5,h6,h7,h8,h9,h10,h11,h12⟩
end Go.Proofs.YtoibondihdhnoaaGreatDoor
