/- Texts in one: Chapter 4: the first car that is overtaken, as the program and as the document have it; no condition. -/
import Derived.Test.YtoibondihdhnoaaGreatDoorFRN20
import Derived.Test.YtoibondihdhnoaaGreatDoorFRN30
namespace Go.Proofs.YtoibondihdhnoaaGreatDoor
open Go.RowKit
def a6x (x:Sg) (R:Int) (c:ByteArray) : Bool:=decide (x.rank=R)&&decide (x.car=c)
def p6_ (L:List Sg) (R:Int) (c:ByteArray) : Nat→Int
 | 0=>-1
 | k+1=>if a6x (e2_ L k) R c then k else p6_ L R c k
def jOf (L:List Sg) (k:Nat) : Int:=p6_ L (e2_ L k).rank (e2_ L k).car k
def okI (L:List Sg) (k i:Nat) : Bool:=
 decide ((e2_ L i).kind=0)&&decide ((e2_ L i).rank=(e2_ L k).rank)&&!decide ((e2_ L i).car=(e2_ L k).car)&&decide (p6_ L (e2_ L i).rank (e2_ L i).car k=i)
def a8z (L:List Sg) (k:Nat) : Bool:=decide (0≤jOf L k)&&decide ((e2_ L (jOf L k).toNat).kind=0)
def a4u (L:List Sg) (k:Nat) : Int:=if (e2_ L k).kind=1∧a8z L k=true then ixP (okI L k) 0 (jOf L k).toNat else -1
def c5c (L:List Sg) (k:Nat) : Bool:=decide (0≤a4u L k)
def b5i (L:List Sg) : Int:=ixP (c5c L) 0 L.length
theorem b3d {x:Sg} {R:Int} {c:ByteArray} : a6x x R c=true↔x.rank=R∧x.car=c:=by simp [a6x]
theorem y0_ (L:List Sg) (R:Int) (c:ByteArray) : ∀ k,(p6_ L R c k = -1∧∀ j,j < k→a6x (e2_ L j) R c=false)∨∃ j:Nat,p6_ L R c k=j∧j < k∧a6x (e2_ L j) R c=true∧∀ n,j < n→n < k→a6x (e2_ L n) R c=false
 | 0=>.inl ⟨rfl,fun j hj=>by omega⟩
 | k+1=>by
  rw [p6_];by_cases h:a6x (e2_ L k) R c=true
  ·rw [if_pos h];exact .inr ⟨k,rfl,by omega,h,fun n h1 h2=>by omega⟩
  ·rw [if_neg h];have hf:a6x (e2_ L k) R c=false:=by simpa using h
   rcases y0_ L R c k with ⟨h1,h2⟩|⟨j,h1,h2,h3,h4⟩
   ·refine .inl ⟨h1,fun j hj=>?_⟩;by_cases he:j=k
    ·rw [he];exact hf
    ·exact h2 j (by omega)
   ·refine .inr ⟨j,h1,by omega,h3,fun n hn hl=>?_⟩;by_cases he:n=k
    ·rw [he];exact hf
    ·exact h4 n hn (by omega)
theorem b7z {L:List Sg} {k:Nat} (h:0≤jOf L k) : ∃ j:Nat,jOf L k=j∧j < k:=by
 unfold jOf at h ⊢;rcases y0_ L (e2_ L k).rank (e2_ L k).car k with ⟨h1,_⟩|⟨j,h1,h2,_⟩
 ·omega
 ·exact ⟨j,h1,h2⟩
structure Sy where
 car:ByteArray
 came:Int
 went:Int
 decl:Int
instance:Inhabited Sy:=⟨⟨ByteArray.empty,0,0,0⟩⟩
@[go_sem] def Sy.av (x:Sy) : List AV:=[S x.car,I x.came,I x.went,I x.decl]
structure Wt where
 car:ByteArray
 rank:Int
 waited:Int
instance:Inhabited Wt:=⟨⟨ByteArray.empty,0,0⟩⟩
@[go_sem] def Wt.av (x:Wt) : List AV:=[S x.car,I x.rank,I x.waited]
def p7_ (x:Ev) (i:Nat) (y:Sy) : Sy:=
 if x.kind=1 then ⟨y.car,y.came,i,y.decl⟩ else if x.kind=2 then ⟨y.car,y.came,y.went,y.decl+1⟩ else if x.kind=3 then ⟨y.car,y.came,i,y.decl⟩ else if x.kind=5 then ⟨y.car,y.came,-1,y.decl⟩ else y
def i5_ (c:ByteArray) (a:List Sy) : Bool:=a.any fun y=>decide (y.car=c)
def i6_ (c:ByteArray) (f:Sy→Sy) : List Sy→List Sy
 | []=>[]
 | y::a=>if i5_ c a then y::i6_ c f a else if y.car=c then f y::a else y::a
def a6y (a:List Sy) (i:Nat) (x:Ev) : List Sy:=
 if x.kind=4 then a else if x.kind=0 then a++[⟨x.car,i,-1,0⟩] else i6_ x.car (p7_ x i) a
theorem v9_ (x:Ev) (i:Nat) (y:Sy) : (p7_ x i y).car=y.car:=by
 unfold p7_;split
 ·rfl
 ·split
  ·rfl
  ·split
   ·rfl
   ·split<;>rfl
theorem o5_ {c:ByteArray} {y:Sy} {a:List Sy} : i5_ c (y::a)=(decide (y.car=c) || i5_ c a):=rfl
theorem w0_ {c:ByteArray} {a b:List Sy} : i5_ c (a++b)=(i5_ c a || i5_ c b):=List.any_append
theorem w1_ {c d:ByteArray} {f:Sy→Sy} (hf:∀ y,(f y).car=y.car) : ∀ a:List Sy,i5_ d (i6_ c f a)=i5_ d a
 | []=>rfl
 | y::a=>by
  rw [i6_];split
  ·rw [o5_,o5_,w1_ hf a]
  ·split
   ·rw [o5_,o5_,hf]
   ·rfl
def a8e (c:ByteArray) : Nat→List Sy→Int
 | _,[]=>-1
 | k,y::a=>if i5_ c a then a8e c (k+1) a else if y.car=c then k else -1
theorem n0_ {c:ByteArray} : ∀ (a:List Sy) (k:Nat),i5_ c a=true→∃ j:Nat,a8e c k a=((k+j:Nat) : Int)∧∃ hj:j < a.length,(a[j]).car=c∧∀ f,i6_ c f a=a.set j (f a[j])
 | [],_,h=>by simp [i5_] at h
 | y::a,k,h=>by
  rw [a8e];cases hh:i5_ c a
  ·rw [o5_,hh,Bool.or_false,decide_eq_true_eq] at h;rw [if_neg (by simp),if_pos h];refine ⟨0,by simp,by simp,by simpa using h,fun f=>?_⟩;rw [i6_,hh,if_neg (by simp),if_pos h];rfl
  ·rw [if_pos rfl];obtain ⟨j,h1,hj,h2,h3⟩:=n0_ a (k+1) hh;refine ⟨j+1,by rw [h1];congr 1;omega,by simpa using hj,by simpa using h2,fun f=>?_⟩;rw [i6_,hh,if_pos rfl,h3 f];rfl
theorem a6z {c d:ByteArray} {z:Sy} (hz:z.car=d) : ∀ (a:List Sy) (k:Nat),a8e c k (a++[z])=if d=c then ((k+a.length:Nat) : Int) else a8e c k a
 | [],k=>by
  rw [List.nil_append,a8e,a8e,a8e,if_neg (by simp [i5_]),hz];rfl
 | y::a,k=>by
  rw [List.cons_append,a8e,a6z hz a (k+1),w0_];have e1:i5_ c [z]=decide (d=c):=by simp [i5_,hz]
  rw [e1,a8e];by_cases hd:d=c
  ·rw [if_pos hd,if_pos hd,decide_eq_true hd,Bool.or_true,if_pos rfl];congr 1;simp;omega
  ·rw [if_neg hd,if_neg hd,decide_eq_false hd,Bool.or_false]
theorem a7a {c d:ByteArray} {f:Sy→Sy} (hf:∀ y,(f y).car=y.car) : ∀ (a:List Sy) (k:Nat),a8e d k (i6_ c f a)=a8e d k a
 | [],_=>rfl
 | y::a,k=>by
  rw [i6_];split
  ·rw [a8e,a8e,w1_ hf,a7a hf a]
  ·split
   ·rw [a8e,a8e,hf]
   ·rfl
theorem b8a {c:ByteArray} {s:St} : c∈a2e s↔0 < cnt c s.q.flatten+cnt c (s.tk.map (·.car)):=by rw [←g9_,j0_]
theorem b1i {q:List (List ByteArray)} {k:Nat} (hk:k < q.length) {c:ByteArray} (h:c∈qat q k) : 0 < cnt c q.flatten:=by
 refine j0_.2 (List.mem_flatten.2 ⟨qat q k,?_,h⟩);rw [d8_ hk];exact List.getElem_mem hk
theorem parts {r:Ru} {s:St} {x:Ev} (h:apE r s x=0) : evE r x=0∧s.time≤x.time∧doE r s x x.rank.toNat=0∧x.rank=(x.rank.toNat:Int)∧x.rank.toNat < r.ranks.length:=by
 unfold apE at h;rw [b6_,b6_,b6_] at h;obtain ⟨h1,h2,h3,_⟩:=h;have:=c2h h1;exact ⟨h1,of_decide_eq_true (d1_ (by decide) h2),h3,by omega,by omega⟩
theorem c5d {r:Ru} {s:St} (hl:s.q.length=r.ranks.length) {x:Ev} (h:apE r s x=0) (h0:x.kind≠0) (h4:x.kind≠4) : x.car∈a2e s:=by
 obtain ⟨h1,h2,h3,h5,h6⟩:=parts h;have hk:x.rank.toNat < s.q.length:=by omega
 have hkd:=c6c h1;rw [b8a];unfold doE at h3;rw [if_neg h0] at h3;by_cases k1:x.kind=1
 ·rw [if_pos k1] at h3;unfold v2_ at h3;rw [b6_] at h3;obtain ⟨t,e⟩:=o4_ h3.1;have:=b1i hk (c:=x.car) (by rw [e];simp);omega
 rw [if_neg k1] at h3;by_cases k2:x.kind=2
 ·rw [if_pos k2] at h3;obtain ⟨t,e⟩:=o4_ h3;have:=b1i hk (c:=x.car) (by rw [e];simp);omega
 rw [if_neg k2] at h3;by_cases k3:x.kind=3
 ·rw [if_pos k3] at h3;unfold b2y at h3;have hn:¬a2n (qat s.q x.rank.toNat) x.car < 0:=fun hh=>by
   rw [if_pos hh] at h3;cases h3
  have:=b1i hk (Classical.byContradiction fun hc=>hn (a2z.2 hc));omega
 rw [if_neg k3,if_neg h4] at h3;unfold b5b at h3;split at h3
 ·cases h3
 ·rename_i hor;have hm:x.car∈s.tk.map (·.car):=Classical.byContradiction fun hc=>hor (.inl (q1_.2 hc));have:=j0_.2 hm;omega
theorem b3e {r:Ru} (hr:RuOK r) (c:ByteArray) : ∀ (n:Nat) (s:St) (m:List Sg),Inv r s→cnt c (a2e (a4t r n s m).1)=cnt c (a2e s)
 | 0,_,_,_=>rfl
 | n+1,s,m,h=>by
  rw [a4t];split
  ·rfl
  ·rename_i hn;obtain ⟨k,e,hk,hp⟩:=a0r hn;rw [e,Int.toNat_natCast];obtain ⟨h1,h2,h3⟩:=v3_ hp;have hkl:k < s.q.length:=by rw [h.len];exact hk
   obtain ⟨g1,g2,g3⟩:=hr.feedN hk h1;rw [b3e hr c n _ _ (h.up hr hkl h1 h2 h3),g9_,g9_];show cnt c (upQ s.q k (feedN r k)).flatten+_=_;rw [b1g hkl (by rw [h.len];exact g3) (by omega) h2];rfl
theorem c9o {r:Ru} {s:St} (hr:RuOK r) (hi:Inv r s) {x:Ev} (h:apE r s x=0) (c:ByteArray) : cnt c (a2e (doS r s x x.rank.toNat))≤cnt c (a2e s)+if x.kind=0∧c=x.car then 1 else 0:=by
 obtain ⟨h1,h2,h3,h5,h6⟩:=parts h;have hk:x.rank.toNat < s.q.length:=by rw [hi.len];exact h6
 generalize x.rank.toNat=k at *;rw [g9_,g9_];unfold doE at h3;unfold doS;by_cases k0:x.kind=0
 ·rw [if_pos k0];unfold a6o;simp only;rw [b1f hi.once,x7_];have g:=e6_ hk (qat s.q k++[x.car]) c;rw [f9_,d4_,h7_] at g;by_cases hc:c=x.car
  ·subst hc;rw [if_pos rfl] at g ⊢;rw [if_pos ⟨k0,rfl⟩];omega
  ·rw [if_neg (Ne.symm hc)] at g;rw [if_neg hc];omega
 rw [if_neg k0] at h3 ⊢;by_cases k1:x.kind=1
 ·rw [if_pos k1] at h3 ⊢;unfold v2_ at h3;rw [b6_] at h3;obtain ⟨t,e⟩:=o4_ h3.1;unfold a8l;simp only [List.map_append,List.map_cons,List.map_nil];have g:=e6_ hk (qat s.q k).tail c;rw [f9_,d4_,h7_];rw [e,List.tail_cons,d4_] at g;rw [e,List.tail_cons];omega
 rw [if_neg k1] at h3 ⊢;by_cases k2:x.kind=2
 ·rw [if_pos k2] at h3 ⊢;obtain ⟨t,e⟩:=o4_ h3;unfold a6p q0_;simp only;have g:=e6_ hk ((qat s.q k).tail.take (a2p r (qat s.q k).tail.length)++[x.car]++(qat s.q k).tail.drop (a2p r (qat s.q k).tail.length)) c;have g3:=f9_ c ((qat s.q k).tail.take (a2p r (qat s.q k).tail.length)) ((qat s.q k).tail.drop (a2p r (qat s.q k).tail.length));rw [List.take_append_drop] at g3;rw [f9_,f9_,d4_,h7_] at g;have g4:cnt c (qat s.q k)=cnt c (qat s.q k).tail+if x.car=c then 1 else 0:=by rw [e,List.tail_cons,d4_]
  omega
 rw [if_neg k2] at h3 ⊢;by_cases k3:x.kind=3
 ·rw [if_pos k3];unfold a8o;simp only;have g:=e6_ hk ((qat s.q k).eraseIdx (a2n (qat s.q k) x.car).toNat) c;have g2:=a3o c (qat s.q k) (a2n (qat s.q k) x.car).toNat;omega
 rw [if_neg k3] at h3 ⊢;by_cases k4:x.kind=4
 ·rw [if_pos k4] at h3 ⊢;unfold a6n at h3;by_cases hf:(rat r.ranks k).feeder = -1
  ·rw [if_pos hf] at h3;cases h3
  ·rw [if_neg hf,b6_,b6_] at h3;have f2:=of_decide_eq_true (d1_ (by decide) h3.2.1);obtain ⟨g1,g2,g3⟩:=hr.feedN h6 hf;show cnt c (upQ s.q k (feedN r k)).flatten+_≤_;rw [b1g hk (by rw [hi.len];exact g3) (by omega) f2];show cnt c s.q.flatten+cnt c (s.tk.map (·.car))≤_;omega
 rw [if_neg k4] at h3 ⊢;unfold b5b at h3;split at h3
 ·cases h3
 ·rename_i hor;unfold c2f;simp only;rw [a5g hi.once x fun hh=>hor (.inl hh),x7_];have g:=e6_ hk ([x.car]++qat s.q k) c;rw [f9_,d4_,h7_] at g;have hm:x.car∈s.tk.map (·.car):=Classical.byContradiction fun hc=>hor (.inl (q1_.2 hc));have g2:=j0_.2 hm;by_cases hc:c=x.car
  ·subst hc;rw [if_pos rfl] at g ⊢;omega
  ·rw [if_neg (Ne.symm hc)] at g;rw [if_neg hc];omega
theorem c9p {r:Ru} {s:St} (hr:RuOK r) (hi:Inv r s) {x:Ev} (h:apE r s x=0) {c:ByteArray} (hc:c∈a2e (apU r s x).1) : c∈a2e s∨x.kind=0∧c=x.car:=by
 obtain ⟨h1,h2,h3,h5,h6⟩:=parts h;have hd:=hi.doS hr h1 h2 h5 h3;have hp:=j0_.2 hc;unfold apU at hp;rw [b3e hr c _ _ _ hd] at hp;have g:=c9o hr hi h c;change 0 < cnt c (a2e (doS r s x x.rank.toNat)) at hp;by_cases hh:x.kind=0∧c=x.car
 ·exact .inr hh
 ·rw [if_neg hh] at g;exact .inl (j0_.1 (by omega))
theorem a3b {r:Ru} {i:Nat} {x:Ev} {l:List Ev} {s:St} (h:(goP r i (x::l) s).2.2=0) : apE r s x=0∧(goP r (i+1) l (apU r s x).1).2.2=0:=by
 rw [goP] at h;by_cases ha:apE r s x=0
 ·rw [if_neg (by simp [ha])] at h;exact ⟨ha,h⟩
 ·rw [if_pos ha] at h;exact absurd h ha
def a1d (a:List Sy) (c:ByteArray) : Int:=(a.getD (a8e c 0 a).toNat default).came
def o8_ (log:List Ev) (a:List Sy) (x:Ev) : List Wt:=if x.kind=1 then [⟨x.car,x.rank,x.time - (d9_ log (a1d a x.car).toNat).time⟩] else []
def b5j (log:List Ev) : Nat→List Ev→List Sy→List Wt
 | _,[],_=>[]
 | i,x::l,a=>o8_ log a x++b5j log (i+1) l (a6y a i x)
def b5k (x:Ev) (c:ByteArray) : Bool:=decide (x.kind=0)&&decide (x.car=c)
def b8b (log:List Ev) (c:ByteArray) : Nat→Nat
 | 0=>0
 | k+1=>if b5k (d9_ log k) c then k else b8b log c k
def b5l (log:List Ev) : Nat→List Ev→List Wt
 | _,[]=>[]
 | i,x::l=>(if x.kind=1 then [⟨x.car,x.rank,x.time - (d9_ log (b8b log x.car (i+1))).time⟩] else [])++b5l log (i+1) l
theorem b5m {a:List Sy} {c d:ByteArray} {z:Sy} (hz:z.car=d) (h:i5_ c (a++[z])=true) : a1d (a++[z]) c=if d=c then z.came else a1d a c:=by
 unfold a1d;rw [a6z hz];by_cases hd:d=c
 ·rw [if_pos hd,if_pos hd];simp
 ·rw [if_neg hd,if_neg hd];have hc:i5_ c a=true:=by
   rw [w0_] at h;have e1:i5_ c [z]=false:=by simp [i5_,hz,hd]
   rw [e1,Bool.or_false] at h;exact h
  obtain ⟨j,e,hj,_⟩:=n0_ a 0 hc;rw [e,Int.toNat_natCast,Nat.zero_add,List.getD_eq_getElem?_getD,List.getElem?_append_left hj,List.getD_eq_getElem?_getD]
theorem b5n {a:List Sy} {c d:ByteArray} {x:Ev} {i:Nat} (h:i5_ c a=true) : a1d (i6_ d (p7_ x i) a) c=a1d a c:=by
 unfold a1d;rw [a7a (v9_ x i)];obtain ⟨j,e,hj,_⟩:=n0_ a 0 h;rw [e,Int.toNat_natCast,Nat.zero_add];by_cases hd:i5_ d a=true
 ·obtain ⟨m,_,hm,_,h3⟩:=n0_ a 0 hd;rw [h3,List.getD_eq_getElem?_getD,List.getD_eq_getElem?_getD,List.getElem?_set];split
  ·rename_i hmj;subst hmj;rw [List.getElem?_eq_getElem hm];simp only [Option.getD_some];unfold p7_;split
   ·rfl
   ·split
    ·rfl
    ·split
     ·rfl
     ·split<;>rfl
  ·rfl
 ·have hn:∀ a:List Sy,i5_ d a=false→i6_ d (p7_ x i) a=a:=fun a=>by
   induction a with
   | nil=>intro _;rfl
   | cons y a ih=>
    intro hh;rw [o5_,Bool.or_eq_false_iff] at hh;rw [i6_,hh.2,if_neg (by simp),if_neg (of_decide_eq_false hh.1)]
  rw [hn a (by simpa using hd)]
theorem b3f {pre:List Ev} {x:Ev} {l:List Ev} : d9_ (pre++x::l) pre.length=x:=by simp [d9_]
def CameOK (log:List Ev) (i:Nat) (a:List Sy) : Prop:=∀ c,i5_ c a=true→a1d a c=(b8b log c i:Int)
theorem CameOK.step {pre:List Ev} {x:Ev} {l:List Ev} {a:List Sy} (h:CameOK (pre++x::l) pre.length a) : CameOK (pre++x::l) (pre.length+1) (a6y a pre.length x):=fun c hc=>by
 rw [b8b,b3f];unfold a6y at hc ⊢;by_cases h4:x.kind=4
 ·rw [if_pos h4] at hc ⊢;rw [if_neg (by simp [b5k,h4])];exact h c hc
 ·rw [if_neg h4] at hc ⊢;by_cases h0:x.kind=0
  ·rw [if_pos h0] at hc ⊢;rw [b5m rfl hc];by_cases he:x.car=c
   ·rw [if_pos he,if_pos (by simp [b5k,h0,he])]
   ·rw [if_neg he,if_neg (by simp [b5k,he])];rw [w0_] at hc;refine h c ?_;simpa [i5_,he] using hc
  ·rw [if_neg h0] at hc ⊢;rw [w1_ (v9_ x _)] at hc;rw [b5n hc,if_neg (by simp [b5k,h0])];exact h c hc
theorem b5o {a:List Sy} {i:Nat} {x:Ev} {c:ByteArray} : i5_ c (a6y a i x)=(i5_ c a || (decide (x.kind=0)&&decide (x.car=c))):=by
 unfold a6y;by_cases h4:x.kind=4
 ·rw [if_pos h4,decide_eq_false (by omega)];simp
 ·rw [if_neg h4];by_cases h0:x.kind=0
  ·rw [if_pos h0,w0_,decide_eq_true h0];simp [i5_]
  ·rw [if_neg h0,w1_ (v9_ x i),decide_eq_false h0];simp
def Known (s:St) (a:List Sy) : Prop:=∀ c∈a2e s,i5_ c a=true
theorem Known.step {r:Ru} {s:St} (hr:RuOK r) (hi:Inv r s) {a:List Sy} (h:Known s a) {x:Ev} (ha:apE r s x=0) (i:Nat) : Known (apU r s x).1 (a6y a i x):=fun c hc=>by
 rw [b5o];rcases c9p hr hi ha hc with h1|⟨h1,rfl⟩
 ·rw [h c h1];rfl
 ·rw [decide_eq_true h1,decide_eq_true rfl];simp
theorem b3g {r:Ru} (hr:RuOK r) : ∀ (l:List Ev) (pre:List Ev) (s:St) (a:List Sy),Inv r s→Known s a→CameOK (pre++l) pre.length a→(goP r pre.length l s).2.2=0→b5j (pre++l) pre.length l a=b5l (pre++l) pre.length l
 | [],_,_,_,_,_,_,_=>rfl
 | x::l,pre,s,a,hi,hk,hc,h=>by
  obtain ⟨h1,h2⟩:=a3b h;rw [b5j,b5l];have e:pre++x::l=(pre++[x])++l:=by simp
  have hs:=b3g hr l (pre++[x]) (apU r s x).1 (a6y a pre.length x) (hi.ap hr h1).1 (hk.step hr hi h1 _) (by
   rw [←e,List.length_append];exact hc.step) (by rw [List.length_append];exact h2)
  rw [←e,List.length_append] at hs;rw [show pre.length+1=pre.length + [x].length from rfl,hs];congr 1;unfold o8_;by_cases k1:x.kind=1
  ·rw [if_pos k1,if_pos k1,hc _ (hk _ (c5d hi.len h1 (by omega) (by omega))),Int.toNat_natCast];rw [show pre.length + [x].length=pre.length+1 from rfl,b8b,b3f,if_neg (by simp [b5k,k1])]
  ·rw [if_neg k1,if_neg k1]
theorem b8c {r:Ru} (hr:RuOK r) {l:List Ev} (h:(goP r 0 l (st0 r)).2.2=0) : b5j l 0 l []=b5l l 0 l:=
 b3g hr l [] (st0 r) [] (Inv.st0 hr) (fun c hc=>by
  have h:=j0_.2 hc;rw [g9_] at h;change 0 < cnt c (List.replicate _ []).flatten+cnt c [] at h;rw [a0s,h7_] at h;omega) (fun c hc=>by cases hc) h
abbrev KV:Type:=List (Value×Value)
theorem c2n {a:ByteArray} {k:Value} (h:j1_ (.string a) k=true) : k = .string a:=by
 cases k<;>simp [j1_] at h;rw [h]
theorem a3c (a b:ByteArray) (v:Value) : ∀ m,p8_ (.string a) (a4x (.string b) v m)=if a=b then some v else p8_ (.string a) m
 | []=>by
  simp only [a4x,p8_];by_cases h:a=b<;>simp [j1_,h]
 | (k,u)::r=>by
  have ih:=a3c a b v r;simp only [a4x];by_cases hb:j1_ (.string b) k=true
  ·have:=c2n hb;subst this;rw [if_pos hb];simp only [p8_];by_cases h:a=b<;>simp [j1_,h]
  ·rw [if_neg hb];simp only [p8_];rw [ih];by_cases h:a=b
   ·subst h;simp [hb]
   ·simp [h]
def c1n (m:KV) (c:ByteArray) : Int:=match p8_ (.string c) m with|some (.int _ v)=>v|_=>0
def c6p (m:KV) (c:ByteArray) (v:Int) : KV:=a4x (.string c) (.int .i64 (c1n m c+v)) m
def NumOK (m:KV) (n:Nat) : Prop:=∀ c,p8_ (.string c) m=none∨∃ v:Int,p8_ (.string c) m=some (.int .i64 v)∧-(n:Int)≤v∧v≤n
theorem NumOK.at_ {m:KV} {n:Nat} (h:NumOK m n) (c:ByteArray) : (p8_ (.string c) m).getD (.int .i64 0) = .int .i64 (c1n m c)∧-(n:Int)≤c1n m c∧c1n m c≤n:=by
 unfold c1n;rcases h c with h1|⟨v,h1,h2,h3⟩
 ·rw [h1];exact ⟨rfl,by simp,by simp⟩
 ·rw [h1];exact ⟨rfl,h2,h3⟩
theorem NumOK.upd {m:KV} {n:Nat} (h:NumOK m n) (c:ByteArray) {v:Int} (h1 : -((n+1:Nat) : Int)≤v) (h2:v≤((n+1:Nat) : Int)) : NumOK (a4x (.string c) (.int .i64 v) m) (n+1):=fun d=>by
 rw [a3c];by_cases hd:d=c
 ·rw [if_pos hd];exact .inr ⟨v,rfl,h1,h2⟩
 ·rw [if_neg hd];rcases h d with h3|⟨u,h3,h4,h5⟩
  ·exact .inl h3
  ·exact .inr ⟨u,h3,by omega,by omega⟩
theorem NumOK.next {m:KV} {n:Nat} (h:NumOK m n) : NumOK m (n+1):=fun d=>by
 rcases h d with h3|⟨u,h3,h4,h5⟩
 ·exact .inl h3
 ·exact .inr ⟨u,h3,by omega,by omega⟩
theorem NumOK.add {m:KV} {n:Nat} (h:NumOK m n) (c:ByteArray) {v:Int} (h1 : -1≤v) (h2:v≤1) : NumOK (c6p m c v) (n+1):=by
 have:=h.at_ c;exact h.upd c (by omega) (by omega)
structure Dy where
 st:List Sy
 op:KV
 wt:List Wt
 sv:KV
def l2_ (log:List Ev) (d:Dy) (i:Nat) (x:Ev) : Dy:=
 if x.kind=4 then d
 else if x.kind=0 then ⟨d.st++[⟨x.car,i,-1,0⟩],a4x (.string x.car) (.int .i64 d.st.length) d.op,d.wt,c6p d.sv x.car 0⟩
 else ⟨i6_ x.car (p7_ x i) d.st,d.op,d.wt++o8_ log d.st x,if x.kind=1 then c6p d.sv x.car 1 else if x.kind=5 then c6p d.sv x.car (-1) else d.sv⟩
theorem b3h (log:List Ev) (d:Dy) (i:Nat) (x:Ev) : (l2_ log d i x).st=a6y d.st i x:=by
 unfold l2_ a6y;split
 ·rfl
 ·split<;>rfl
theorem a3s {c:ByteArray} {f:Sy→Sy} : ∀ {a:List Sy} {y:Sy},y∈i6_ c f a→y∈a∨∃ z∈a,y=f z
 | [],_,h=>by simp [i6_] at h
 | z::a,y,h=>by
  unfold i6_ at h;split at h
  ·rcases List.mem_cons.1 h with h|h
   ·exact .inl (List.mem_cons.2 (.inl h))
   ·rcases a3s h with h|⟨u,h,e⟩
    ·exact .inl (List.mem_cons_of_mem _ h)
    ·exact .inr ⟨u,List.mem_cons_of_mem _ h,e⟩
  ·split at h
   ·rcases List.mem_cons.1 h with h|h
    ·exact .inr ⟨z,List.mem_cons_self ..,h⟩
    ·exact .inl (List.mem_cons_of_mem _ h)
   ·exact .inl h
theorem a3t {c:ByteArray} {f:Sy→Sy} : ∀ (a:List Sy),(i6_ c f a).length=a.length
 | []=>rfl
 | z::a=>by
  unfold i6_;split
  ·simp [a3t a]
  ·split<;>rfl
structure DyOK (log:List Ev) (i:Nat) (d:Dy) : Prop where
 op:∀ c,i5_ c d.st=true→p8_ (.string c) d.op=some (.int .i64 (a8e c 0 d.st))
 st:∀ y∈d.st,0≤y.came∧y.came < i∧(0≤(d9_ log y.came.toNat).time∧(d9_ log y.came.toNat).time≤604800)∧0≤y.decl∧y.decl≤i
 sl:d.st.length≤i
 wl:d.wt.length≤i
 sv:NumOK d.sv i
theorem DyOK.zero (log:List Ev) : DyOK log 0 ⟨[],[],[],[]⟩:=
 ⟨fun c h=>by simp [i5_] at h,fun y h=>by simp at h,Nat.le_refl _,Nat.le_refl _,fun c=>.inl rfl⟩
theorem c2o {x:Ev} {i:Nat} {y:Sy} {log:List Ev} (h:0≤y.came∧y.came < i∧(0≤(d9_ log y.came.toNat).time∧(d9_ log y.came.toNat).time≤604800)∧0≤y.decl∧y.decl≤i) :
  0≤(p7_ x i y).came∧(p7_ x i y).came < ((i+1:Nat) : Int)∧(0≤(d9_ log (p7_ x i y).came.toNat).time∧(d9_ log (p7_ x i y).came.toNat).time≤604800)∧0≤(p7_ x i y).decl∧(p7_ x i y).decl≤((i+1:Nat) : Int):=by
 obtain ⟨h1,h2,h3,h4,h5⟩:=h;unfold p7_;split
 ·exact ⟨h1,by simp only;omega,h3,h4,by simp only;omega⟩
 ·split
  ·exact ⟨h1,by simp only;omega,h3,by simp only;omega,by simp only;omega⟩
  ·split
   ·exact ⟨h1,by simp only;omega,h3,h4,by simp only;omega⟩
   ·split
    ·exact ⟨h1,by simp only;omega,h3,h4,by simp only;omega⟩
    ·exact ⟨h1,by omega,h3,h4,by omega⟩
theorem b5p (log:List Ev) (a:List Sy) (x:Ev) : (o8_ log a x).length≤1:=by
 unfold o8_;split
 ·exact Nat.le_refl _
 ·exact Nat.zero_le _
theorem DyOK.step {log:List Ev} {i:Nat} {d:Dy} (h:DyOK log i d) {x:Ev} (hx:x=d9_ log i) (ht:0≤x.time∧x.time≤604800) : DyOK log (i+1) (l2_ log d i x):=by
 obtain ⟨h1,h2,h3,h4,h5⟩:=h;have hup:∀ y∈d.st,0≤y.came∧y.came < ((i+1:Nat) : Int)∧(0≤(d9_ log y.came.toNat).time∧(d9_ log y.came.toNat).time≤604800)∧0≤y.decl∧y.decl≤((i+1:Nat) : Int):=fun y hy=>by
  obtain ⟨g1,g2,g3,g4,g5⟩:=h2 y hy;exact ⟨g1,by omega,g3,g4,by omega⟩
 unfold l2_;split
 ·exact ⟨h1,hup,by omega,by omega,h5.next⟩
 ·split
  ·refine ⟨fun c hc=>?_,fun y hy=>?_,?_,by simp only;omega,h5.add _ (by decide) (by decide)⟩
   ·simp only at hc ⊢;rw [a3c,a6z (d:=x.car) rfl];by_cases h:c=x.car
    ·subst h;rw [if_pos rfl,if_pos rfl,Nat.zero_add]
    ·rw [if_neg h,if_neg (Ne.symm h)];refine h1 c ?_;rw [w0_] at hc;simpa [i5_,Ne.symm h] using hc
   ·rcases List.mem_append.1 hy with hy|hy
    ·exact hup y hy
    ·rw [List.mem_singleton.1 hy];simp only [Int.toNat_natCast];rw [←hx];exact ⟨by omega,by omega,ht,by omega,by omega⟩
   ·simp only [List.length_append,List.length_cons,List.length_nil];omega
  ·refine ⟨fun c hc=>?_,fun y hy=>?_,?_,?_,?_⟩
   ·simp only at hc ⊢;rw [w1_ (v9_ x i)] at hc;rw [a7a (v9_ x i)];exact h1 c hc
   ·rcases a3s hy with hy|⟨z,hz,rfl⟩
    ·exact hup y hy
    ·exact c2o (h2 z hz)
   ·simp only [a3t];omega
   ·have:=b5p log d.st x;simp only [List.length_append];omega
   ·simp only;split
    ·exact h5.add _ (by decide) (by decide)
    ·split
     ·exact h5.add _ (by decide) (by decide)
     ·exact h5.next
end Go.Proofs.YtoibondihdhnoaaGreatDoor
