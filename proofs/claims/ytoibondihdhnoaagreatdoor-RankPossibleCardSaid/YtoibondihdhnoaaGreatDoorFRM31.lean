/- Texts in one: Chapter 4: the first car that is overtaken, as the program and as the document have it; no condition. -/
import Derived.Test.YtoibondihdhnoaaGreatDoorFRM20
import Derived.Test.YtoibondihdhnoaaGreatDoorFRM30
namespace Go.Proofs.YtoibondihdhnoaaGreatDoor
open Go.RowKit
def a6w (x:Sg) (R:Int) (c:ByteArray) : Bool:=decide (x.rank=R)&&decide (x.car=c)
def q5_ (L:List Sg) (R:Int) (c:ByteArray) : Nat→Int
 | 0=>-1
 | k+1=>if a6w (e3_ L k) R c then k else q5_ L R c k
def jOf (L:List Sg) (k:Nat) : Int:=q5_ L (e3_ L k).rank (e3_ L k).car k
def okI (L:List Sg) (k i:Nat) : Bool:=
 decide ((e3_ L i).kind=0)&&decide ((e3_ L i).rank=(e3_ L k).rank)&&!decide ((e3_ L i).car=(e3_ L k).car)&&decide (q5_ L (e3_ L i).rank (e3_ L i).car k=i)
def a8v (L:List Sg) (k:Nat) : Bool:=decide (0≤jOf L k)&&decide ((e3_ L (jOf L k).toNat).kind=0)
def a4s (L:List Sg) (k:Nat) : Int:=if (e3_ L k).kind=1∧a8v L k=true then ixP (okI L k) 0 (jOf L k).toNat else -1
def c5d (L:List Sg) (k:Nat) : Bool:=decide (0≤a4s L k)
def b5c (L:List Sg) : Int:=ixP (c5d L) 0 L.length
theorem b2z {x:Sg} {R:Int} {c:ByteArray} : a6w x R c=true↔x.rank=R∧x.car=c:=by simp [a6w]
theorem y4_ (L:List Sg) (R:Int) (c:ByteArray) : ∀ k,(q5_ L R c k = -1∧∀ j,j < k→a6w (e3_ L j) R c=false)∨∃ j:Nat,q5_ L R c k=j∧j < k∧a6w (e3_ L j) R c=true∧∀ n,j < n→n < k→a6w (e3_ L n) R c=false
 | 0=>.inl ⟨rfl,fun j hj=>by omega⟩
 | k+1=>by
  rw [q5_];by_cases h:a6w (e3_ L k) R c=true
  ·rw [if_pos h];exact .inr ⟨k,rfl,by omega,h,fun n h1 h2=>by omega⟩
  ·rw [if_neg h];have hf:a6w (e3_ L k) R c=false:=by simpa using h
   rcases y4_ L R c k with ⟨h1,h2⟩|⟨j,h1,h2,h3,h4⟩
   ·refine .inl ⟨h1,fun j hj=>?_⟩;by_cases he:j=k
    ·rw [he];exact hf
    ·exact h2 j (by omega)
   ·refine .inr ⟨j,h1,by omega,h3,fun n hn hl=>?_⟩;by_cases he:n=k
    ·rw [he];exact hf
    ·exact h4 n hn (by omega)
theorem b8d {L:List Sg} {k:Nat} (h:0≤jOf L k) : ∃ j:Nat,jOf L k=j∧j < k:=by
 unfold jOf at h ⊢;rcases y4_ L (e3_ L k).rank (e3_ L k).car k with ⟨h1,_⟩|⟨j,h1,h2,_⟩
 ·omega
 ·exact ⟨j,h1,h2⟩
structure Sy where
 car:ByteArray
 came:Int
 went:Int
 decl:Int
instance:Inhabited Sy:=⟨⟨ByteArray.empty,0,0,0⟩⟩
@[go_sem] def Sy.av (x:Sy) : List AV:=[S x.car,I x.came,I x.went,I x.decl]
structure Wt where
 car:ByteArray
 rank:Int
 waited:Int
instance:Inhabited Wt:=⟨⟨ByteArray.empty,0,0⟩⟩
@[go_sem] def Wt.av (x:Wt) : List AV:=[S x.car,I x.rank,I x.waited]
def q6_ (x:Ev) (i:Nat) (y:Sy) : Sy:=
 if x.kind=1 then ⟨y.car,y.came,i,y.decl⟩ else if x.kind=2 then ⟨y.car,y.came,y.went,y.decl+1⟩ else if x.kind=3 then ⟨y.car,y.came,i,y.decl⟩ else if x.kind=5 then ⟨y.car,y.came,-1,y.decl⟩ else y
def j2_ (c:ByteArray) (a:List Sy) : Bool:=a.any fun y=>decide (y.car=c)
def j3_ (c:ByteArray) (f:Sy→Sy) : List Sy→List Sy
 | []=>[]
 | y::a=>if j2_ c a then y::j3_ c f a else if y.car=c then f y::a else y::a
def a6x (a:List Sy) (i:Nat) (x:Ev) : List Sy:=
 if x.kind=4 then a else if x.kind=0 then a++[⟨x.car,i,-1,0⟩] else j3_ x.car (q6_ x i) a
theorem w4_ (x:Ev) (i:Nat) (y:Sy) : (q6_ x i y).car=y.car:=by
 unfold q6_;split
 ·rfl
 ·split
  ·rfl
  ·split
   ·rfl
   ·split<;>rfl
theorem p2_ {c:ByteArray} {y:Sy} {a:List Sy} : j2_ c (y::a)=(decide (y.car=c) || j2_ c a):=rfl
theorem w5_ {c:ByteArray} {a b:List Sy} : j2_ c (a++b)=(j2_ c a || j2_ c b):=List.any_append
theorem w6_ {c d:ByteArray} {f:Sy→Sy} (hf:∀ y,(f y).car=y.car) : ∀ a:List Sy,j2_ d (j3_ c f a)=j2_ d a
 | []=>rfl
 | y::a=>by
  rw [j3_];split
  ·rw [p2_,p2_,w6_ hf a]
  ·split
   ·rw [p2_,p2_,hf]
   ·rfl
def a7z (c:ByteArray) : Nat→List Sy→Int
 | _,[]=>-1
 | k,y::a=>if j2_ c a then a7z c (k+1) a else if y.car=c then k else -1
theorem n6_ {c:ByteArray} : ∀ (a:List Sy) (k:Nat),j2_ c a=true→∃ j:Nat,a7z c k a=((k+j:Nat) : Int)∧∃ hj:j < a.length,(a[j]).car=c∧∀ f,j3_ c f a=a.set j (f a[j])
 | [],_,h=>by simp [j2_] at h
 | y::a,k,h=>by
  rw [a7z];cases hh:j2_ c a
  ·rw [p2_,hh,Bool.or_false,decide_eq_true_eq] at h;rw [if_neg (by simp),if_pos h];refine ⟨0,by simp,by simp,by simpa using h,fun f=>?_⟩;rw [j3_,hh,if_neg (by simp),if_pos h];rfl
  ·rw [if_pos rfl];obtain ⟨j,h1,hj,h2,h3⟩:=n6_ a (k+1) hh;refine ⟨j+1,by rw [h1];congr 1;omega,by simpa using hj,by simpa using h2,fun f=>?_⟩;rw [j3_,hh,if_pos rfl,h3 f];rfl
theorem a6y {c d:ByteArray} {z:Sy} (hz:z.car=d) : ∀ (a:List Sy) (k:Nat),a7z c k (a++[z])=if d=c then ((k+a.length:Nat) : Int) else a7z c k a
 | [],k=>by
  rw [List.nil_append,a7z,a7z,a7z,if_neg (by simp [j2_]),hz];rfl
 | y::a,k=>by
  rw [List.cons_append,a7z,a6y hz a (k+1),w5_];have e1:j2_ c [z]=decide (d=c):=by simp [j2_,hz]
  rw [e1,a7z];by_cases hd:d=c
  ·rw [if_pos hd,if_pos hd,decide_eq_true hd,Bool.or_true,if_pos rfl];congr 1;simp;omega
  ·rw [if_neg hd,if_neg hd,decide_eq_false hd,Bool.or_false]
theorem a6z {c d:ByteArray} {f:Sy→Sy} (hf:∀ y,(f y).car=y.car) : ∀ (a:List Sy) (k:Nat),a7z d k (j3_ c f a)=a7z d k a
 | [],_=>rfl
 | y::a,k=>by
  rw [j3_];split
  ·rw [a7z,a7z,w6_ hf,a6z hf a]
  ·split
   ·rw [a7z,a7z,hf]
   ·rfl
theorem b8e {c:ByteArray} {s:St} : c∈a2d s↔0 < cnt c s.q.flatten+cnt c (s.tk.map (·.car)):=by rw [←h1_,j8_]
theorem b1g {q:List (List ByteArray)} {k:Nat} (hk:k < q.length) {c:ByteArray} (h:c∈qat q k) : 0 < cnt c q.flatten:=by
 refine j8_.2 (List.mem_flatten.2 ⟨qat q k,?_,h⟩);rw [f9_ hk];exact List.getElem_mem hk
theorem parts {r:Ru} {s:St} {x:Ev} (h:apE r s x=0) : evE r x=0∧s.time≤x.time∧doE r s x x.rank.toNat=0∧x.rank=(x.rank.toNat:Int)∧x.rank.toNat < r.ranks.length:=by
 unfold apE at h;rw [b5_,b5_,b5_] at h;obtain ⟨h1,h2,h3,_⟩:=h;have:=b7n h1;exact ⟨h1,of_decide_eq_true (d3_ (by decide) h2),h3,by omega,by omega⟩
theorem c5e {r:Ru} {s:St} (hl:s.q.length=r.ranks.length) {x:Ev} (h:apE r s x=0) (h0:x.kind≠0) (h4:x.kind≠4) : x.car∈a2d s:=by
 obtain ⟨h1,h2,h3,h5,h6⟩:=parts h;have hk:x.rank.toNat < s.q.length:=by omega
 have hkd:=c2o h1;rw [b8e];unfold doE at h3;rw [if_neg h0] at h3;by_cases k1:x.kind=1
 ·rw [if_pos k1] at h3;unfold p4_ at h3;rw [b5_] at h3;obtain ⟨t,e⟩:=p1_ h3.1;have:=b1g hk (c:=x.car) (by rw [e];simp);omega
 rw [if_neg k1] at h3;by_cases k2:x.kind=2
 ·rw [if_pos k2] at h3;obtain ⟨t,e⟩:=p1_ h3;have:=b1g hk (c:=x.car) (by rw [e];simp);omega
 rw [if_neg k2] at h3;by_cases k3:x.kind=3
 ·rw [if_pos k3] at h3;unfold a5f at h3;have hn:¬a2a (qat s.q x.rank.toNat) x.car < 0:=fun hh=>by
   rw [if_pos hh] at h3;cases h3
  have:=b1g hk (Classical.byContradiction fun hc=>hn (a2v.2 hc));omega
 rw [if_neg k3,if_neg h4] at h3;unfold a3l at h3;split at h3
 ·cases h3
 ·rename_i hor;have hm:x.car∈s.tk.map (·.car):=Classical.byContradiction fun hc=>hor (.inl (o8_.2 hc));have:=j8_.2 hm;omega
theorem b3a {r:Ru} (hr:RuOK r) (c:ByteArray) : ∀ (n:Nat) (s:St) (m:List Sg),Inv r s→cnt c (a2d (a4r r n s m).1)=cnt c (a2d s)
 | 0,_,_,_=>rfl
 | n+1,s,m,h=>by
  rw [a4r];split
  ·rfl
  ·rename_i hn;obtain ⟨k,e,hk,hp⟩:=a0p hn;rw [e,Int.toNat_natCast];obtain ⟨h1,h2,h3⟩:=v8_ hp;have hkl:k < s.q.length:=by rw [h.len];exact hk
   obtain ⟨g1,g2,g3⟩:=hr.feedN hk h1;rw [b3a hr c n _ _ (h.up hr hkl h1 h2 h3),h1_,h1_];show cnt c (upQ s.q k (feedN r k)).flatten+_=_;rw [b1f hkl (by rw [h.len];exact g3) (by omega) h2];rfl
theorem c9m {r:Ru} {s:St} (hr:RuOK r) (hi:Inv r s) {x:Ev} (h:apE r s x=0) (c:ByteArray) : cnt c (a2d (doS r s x x.rank.toNat))≤cnt c (a2d s)+if x.kind=0∧c=x.car then 1 else 0:=by
 obtain ⟨h1,h2,h3,h5,h6⟩:=parts h;have hk:x.rank.toNat < s.q.length:=by rw [hi.len];exact h6
 generalize x.rank.toNat=k at *;rw [h1_,h1_];unfold doE at h3;unfold doS;by_cases k0:x.kind=0
 ·rw [if_pos k0];unfold a6m;simp only;rw [b1e hi.once,y1_];have g:=e8_ hk (qat s.q k++[x.car]) c;rw [g0_,d6_,i2_] at g;by_cases hc:c=x.car
  ·subst hc;rw [if_pos rfl] at g ⊢;rw [if_pos ⟨k0,rfl⟩];omega
  ·rw [if_neg (Ne.symm hc)] at g;rw [if_neg hc];omega
 rw [if_neg k0] at h3 ⊢;by_cases k1:x.kind=1
 ·rw [if_pos k1] at h3 ⊢;unfold p4_ at h3;rw [b5_] at h3;obtain ⟨t,e⟩:=p1_ h3.1;unfold a8h;simp only [List.map_append,List.map_cons,List.map_nil];have g:=e8_ hk (qat s.q k).tail c;rw [g0_,d6_,i2_];rw [e,List.tail_cons,d6_] at g;rw [e,List.tail_cons];omega
 rw [if_neg k1] at h3 ⊢;by_cases k2:x.kind=2
 ·rw [if_pos k2] at h3 ⊢;obtain ⟨t,e⟩:=p1_ h3;unfold a6n q8_;simp only;have g:=e8_ hk ((qat s.q k).tail.take (a2n r (qat s.q k).tail.length)++[x.car]++(qat s.q k).tail.drop (a2n r (qat s.q k).tail.length)) c;have g3:=g0_ c ((qat s.q k).tail.take (a2n r (qat s.q k).tail.length)) ((qat s.q k).tail.drop (a2n r (qat s.q k).tail.length));rw [List.take_append_drop] at g3;rw [g0_,g0_,d6_,i2_] at g;have g4:cnt c (qat s.q k)=cnt c (qat s.q k).tail+if x.car=c then 1 else 0:=by rw [e,List.tail_cons,d6_]
  omega
 rw [if_neg k2] at h3 ⊢;by_cases k3:x.kind=3
 ·rw [if_pos k3];unfold a8k;simp only;have g:=e8_ hk ((qat s.q k).eraseIdx (a2a (qat s.q k) x.car).toNat) c;have g2:=a3m c (qat s.q k) (a2a (qat s.q k) x.car).toNat;omega
 rw [if_neg k3] at h3 ⊢;by_cases k4:x.kind=4
 ·rw [if_pos k4] at h3 ⊢;unfold a0o at h3;by_cases hf:(rat r.ranks k).feeder = -1
  ·rw [if_pos hf] at h3;cases h3
  ·rw [if_neg hf,b5_,b5_] at h3;have f2:=of_decide_eq_true (d3_ (by decide) h3.2.1);obtain ⟨g1,g2,g3⟩:=hr.feedN h6 hf;show cnt c (upQ s.q k (feedN r k)).flatten+_≤_;rw [b1f hk (by rw [hi.len];exact g3) (by omega) f2];show cnt c s.q.flatten+cnt c (s.tk.map (·.car))≤_;omega
 rw [if_neg k4] at h3 ⊢;unfold a3l at h3;split at h3
 ·cases h3
 ·rename_i hor;unfold c2m;simp only;rw [a5g hi.once x fun hh=>hor (.inl hh),y1_];have g:=e8_ hk ([x.car]++qat s.q k) c;rw [g0_,d6_,i2_] at g;have hm:x.car∈s.tk.map (·.car):=Classical.byContradiction fun hc=>hor (.inl (o8_.2 hc));have g2:=j8_.2 hm;by_cases hc:c=x.car
  ·subst hc;rw [if_pos rfl] at g ⊢;omega
  ·rw [if_neg (Ne.symm hc)] at g;rw [if_neg hc];omega
theorem c9n {r:Ru} {s:St} (hr:RuOK r) (hi:Inv r s) {x:Ev} (h:apE r s x=0) {c:ByteArray} (hc:c∈a2d (apU r s x).1) : c∈a2d s∨x.kind=0∧c=x.car:=by
 obtain ⟨h1,h2,h3,h5,h6⟩:=parts h;have hd:=hi.doS hr h1 h2 h5 h3;have hp:=j8_.2 hc;unfold apU at hp;rw [b3a hr c _ _ _ hd] at hp;have g:=c9m hr hi h c;change 0 < cnt c (a2d (doS r s x x.rank.toNat)) at hp;by_cases hh:x.kind=0∧c=x.car
 ·exact .inr hh
 ·rw [if_neg hh] at g;exact .inl (j8_.1 (by omega))
theorem a2x {r:Ru} {i:Nat} {x:Ev} {l:List Ev} {s:St} (h:(goP r i (x::l) s).2.2=0) : apE r s x=0∧(goP r (i+1) l (apU r s x).1).2.2=0:=by
 rw [goP] at h;by_cases ha:apE r s x=0
 ·rw [if_neg (by simp [ha])] at h;exact ⟨ha,h⟩
 ·rw [if_pos ha] at h;exact absurd h ha
def a1b (a:List Sy) (c:ByteArray) : Int:=(a.getD (a7z c 0 a).toNat default).came
def p6_ (log:List Ev) (a:List Sy) (x:Ev) : List Wt:=if x.kind=1 then [⟨x.car,x.rank,x.time - (e0_ log (a1b a x.car).toNat).time⟩] else []
def b5d (log:List Ev) : Nat→List Ev→List Sy→List Wt
 | _,[],_=>[]
 | i,x::l,a=>p6_ log a x++b5d log (i+1) l (a6x a i x)
def b5e (x:Ev) (c:ByteArray) : Bool:=decide (x.kind=0)&&decide (x.car=c)
def b8f (log:List Ev) (c:ByteArray) : Nat→Nat
 | 0=>0
 | k+1=>if b5e (e0_ log k) c then k else b8f log c k
def b5f (log:List Ev) : Nat→List Ev→List Wt
 | _,[]=>[]
 | i,x::l=>(if x.kind=1 then [⟨x.car,x.rank,x.time - (e0_ log (b8f log x.car (i+1))).time⟩] else [])++b5f log (i+1) l
theorem b5g {a:List Sy} {c d:ByteArray} {z:Sy} (hz:z.car=d) (h:j2_ c (a++[z])=true) : a1b (a++[z]) c=if d=c then z.came else a1b a c:=by
 unfold a1b;rw [a6y hz];by_cases hd:d=c
 ·rw [if_pos hd,if_pos hd];simp
 ·rw [if_neg hd,if_neg hd];have hc:j2_ c a=true:=by
   rw [w5_] at h;have e1:j2_ c [z]=false:=by simp [j2_,hz,hd]
   rw [e1,Bool.or_false] at h;exact h
  obtain ⟨j,e,hj,_⟩:=n6_ a 0 hc;rw [e,Int.toNat_natCast,Nat.zero_add,List.getD_eq_getElem?_getD,List.getElem?_append_left hj,List.getD_eq_getElem?_getD]
theorem b5h {a:List Sy} {c d:ByteArray} {x:Ev} {i:Nat} (h:j2_ c a=true) : a1b (j3_ d (q6_ x i) a) c=a1b a c:=by
 unfold a1b;rw [a6z (w4_ x i)];obtain ⟨j,e,hj,_⟩:=n6_ a 0 h;rw [e,Int.toNat_natCast,Nat.zero_add];by_cases hd:j2_ d a=true
 ·obtain ⟨m,_,hm,_,h3⟩:=n6_ a 0 hd;rw [h3,List.getD_eq_getElem?_getD,List.getD_eq_getElem?_getD,List.getElem?_set];split
  ·rename_i hmj;subst hmj;rw [List.getElem?_eq_getElem hm];simp only [Option.getD_some];unfold q6_;split
   ·rfl
   ·split
    ·rfl
    ·split
     ·rfl
     ·split<;>rfl
  ·rfl
 ·have hn:∀ a:List Sy,j2_ d a=false→j3_ d (q6_ x i) a=a:=fun a=>by
   induction a with
   | nil=>intro _;rfl
   | cons y a ih=>
    intro hh;rw [p2_,Bool.or_eq_false_iff] at hh;rw [j3_,hh.2,if_neg (by simp),if_neg (of_decide_eq_false hh.1)]
  rw [hn a (by simpa using hd)]
theorem b3b {pre:List Ev} {x:Ev} {l:List Ev} : e0_ (pre++x::l) pre.length=x:=by simp [e0_]
def CameOK (log:List Ev) (i:Nat) (a:List Sy) : Prop:=∀ c,j2_ c a=true→a1b a c=(b8f log c i:Int)
theorem CameOK.step {pre:List Ev} {x:Ev} {l:List Ev} {a:List Sy} (h:CameOK (pre++x::l) pre.length a) : CameOK (pre++x::l) (pre.length+1) (a6x a pre.length x):=fun c hc=>by
 rw [b8f,b3b];unfold a6x at hc ⊢;by_cases h4:x.kind=4
 ·rw [if_pos h4] at hc ⊢;rw [if_neg (by simp [b5e,h4])];exact h c hc
 ·rw [if_neg h4] at hc ⊢;by_cases h0:x.kind=0
  ·rw [if_pos h0] at hc ⊢;rw [b5g rfl hc];by_cases he:x.car=c
   ·rw [if_pos he,if_pos (by simp [b5e,h0,he])]
   ·rw [if_neg he,if_neg (by simp [b5e,he])];rw [w5_] at hc;refine h c ?_;simpa [j2_,he] using hc
  ·rw [if_neg h0] at hc ⊢;rw [w6_ (w4_ x _)] at hc;rw [b5h hc,if_neg (by simp [b5e,h0])];exact h c hc
theorem b5i {a:List Sy} {i:Nat} {x:Ev} {c:ByteArray} : j2_ c (a6x a i x)=(j2_ c a || (decide (x.kind=0)&&decide (x.car=c))):=by
 unfold a6x;by_cases h4:x.kind=4
 ·rw [if_pos h4,decide_eq_false (by omega)];simp
 ·rw [if_neg h4];by_cases h0:x.kind=0
  ·rw [if_pos h0,w5_,decide_eq_true h0];simp [j2_]
  ·rw [if_neg h0,w6_ (w4_ x i),decide_eq_false h0];simp
def Known (s:St) (a:List Sy) : Prop:=∀ c∈a2d s,j2_ c a=true
theorem Known.step {r:Ru} {s:St} (hr:RuOK r) (hi:Inv r s) {a:List Sy} (h:Known s a) {x:Ev} (ha:apE r s x=0) (i:Nat) : Known (apU r s x).1 (a6x a i x):=fun c hc=>by
 rw [b5i];rcases c9n hr hi ha hc with h1|⟨h1,rfl⟩
 ·rw [h c h1];rfl
 ·rw [decide_eq_true h1,decide_eq_true rfl];simp
theorem b3c {r:Ru} (hr:RuOK r) : ∀ (l:List Ev) (pre:List Ev) (s:St) (a:List Sy),Inv r s→Known s a→CameOK (pre++l) pre.length a→(goP r pre.length l s).2.2=0→b5d (pre++l) pre.length l a=b5f (pre++l) pre.length l
 | [],_,_,_,_,_,_,_=>rfl
 | x::l,pre,s,a,hi,hk,hc,h=>by
  obtain ⟨h1,h2⟩:=a2x h;rw [b5d,b5f];have e:pre++x::l=(pre++[x])++l:=by simp
  have hs:=b3c hr l (pre++[x]) (apU r s x).1 (a6x a pre.length x) (hi.ap hr h1).1 (hk.step hr hi h1 _) (by
   rw [←e,List.length_append];exact hc.step) (by rw [List.length_append];exact h2)
  rw [←e,List.length_append] at hs;rw [show pre.length+1=pre.length + [x].length from rfl,hs];congr 1;unfold p6_;by_cases k1:x.kind=1
  ·rw [if_pos k1,if_pos k1,hc _ (hk _ (c5e hi.len h1 (by omega) (by omega))),Int.toNat_natCast];rw [show pre.length + [x].length=pre.length+1 from rfl,b8f,b3b,if_neg (by simp [b5e,k1])]
  ·rw [if_neg k1,if_neg k1]
theorem b8g {r:Ru} (hr:RuOK r) {l:List Ev} (h:(goP r 0 l (st0 r)).2.2=0) : b5d l 0 l []=b5f l 0 l:=
 b3c hr l [] (st0 r) [] (Inv.st0 hr) (fun c hc=>by
  have h:=j8_.2 hc;rw [h1_] at h;change 0 < cnt c (List.replicate _ []).flatten+cnt c [] at h;rw [a0q,i2_] at h;omega) (fun c hc=>by cases hc) h
abbrev KV:Type:=List (Value×Value)
theorem c2v {a:ByteArray} {k:Value} (h:j9_ (.string a) k=true) : k = .string a:=by
 cases k<;>simp [j9_] at h;rw [h]
theorem a2y (a b:ByteArray) (v:Value) : ∀ m,q7_ (.string a) (a4v (.string b) v m)=if a=b then some v else q7_ (.string a) m
 | []=>by
  simp only [a4v,q7_];by_cases h:a=b<;>simp [j9_,h]
 | (k,u)::r=>by
  have ih:=a2y a b v r;simp only [a4v];by_cases hb:j9_ (.string b) k=true
  ·have:=c2v hb;subst this;rw [if_pos hb];simp only [q7_];by_cases h:a=b<;>simp [j9_,h]
  ·rw [if_neg hb];simp only [q7_];rw [ih];by_cases h:a=b
   ·subst h;simp [hb]
   ·simp [h]
def c1v (m:KV) (c:ByteArray) : Int:=match q7_ (.string c) m with|some (.int _ v)=>v|_=>0
def c6k (m:KV) (c:ByteArray) (v:Int) : KV:=a4v (.string c) (.int .i64 (c1v m c+v)) m
def NumOK (m:KV) (n:Nat) : Prop:=∀ c,q7_ (.string c) m=none∨∃ v:Int,q7_ (.string c) m=some (.int .i64 v)∧-(n:Int)≤v∧v≤n
theorem NumOK.at_ {m:KV} {n:Nat} (h:NumOK m n) (c:ByteArray) : (q7_ (.string c) m).getD (.int .i64 0) = .int .i64 (c1v m c)∧-(n:Int)≤c1v m c∧c1v m c≤n:=by
 unfold c1v;rcases h c with h1|⟨v,h1,h2,h3⟩
 ·rw [h1];exact ⟨rfl,by simp,by simp⟩
 ·rw [h1];exact ⟨rfl,h2,h3⟩
theorem NumOK.upd {m:KV} {n:Nat} (h:NumOK m n) (c:ByteArray) {v:Int} (h1 : -((n+1:Nat) : Int)≤v) (h2:v≤((n+1:Nat) : Int)) : NumOK (a4v (.string c) (.int .i64 v) m) (n+1):=fun d=>by
 rw [a2y];by_cases hd:d=c
 ·rw [if_pos hd];exact .inr ⟨v,rfl,h1,h2⟩
 ·rw [if_neg hd];rcases h d with h3|⟨u,h3,h4,h5⟩
  ·exact .inl h3
  ·exact .inr ⟨u,h3,by omega,by omega⟩
theorem NumOK.next {m:KV} {n:Nat} (h:NumOK m n) : NumOK m (n+1):=fun d=>by
 rcases h d with h3|⟨u,h3,h4,h5⟩
 ·exact .inl h3
 ·exact .inr ⟨u,h3,by omega,by omega⟩
theorem NumOK.add {m:KV} {n:Nat} (h:NumOK m n) (c:ByteArray) {v:Int} (h1 : -1≤v) (h2:v≤1) : NumOK (c6k m c v) (n+1):=by
 have:=h.at_ c;exact h.upd c (by omega) (by omega)
structure Dy where
 st:List Sy
 op:KV
 wt:List Wt
 sv:KV
def l9_ (log:List Ev) (d:Dy) (i:Nat) (x:Ev) : Dy:=
 if x.kind=4 then d
 else if x.kind=0 then ⟨d.st++[⟨x.car,i,-1,0⟩],a4v (.string x.car) (.int .i64 d.st.length) d.op,d.wt,c6k d.sv x.car 0⟩
 else ⟨j3_ x.car (q6_ x i) d.st,d.op,d.wt++p6_ log d.st x,if x.kind=1 then c6k d.sv x.car 1 else if x.kind=5 then c6k d.sv x.car (-1) else d.sv⟩
theorem b3d (log:List Ev) (d:Dy) (i:Nat) (x:Ev) : (l9_ log d i x).st=a6x d.st i x:=by
 unfold l9_ a6x;split
 ·rfl
 ·split<;>rfl
theorem a3q {c:ByteArray} {f:Sy→Sy} : ∀ {a:List Sy} {y:Sy},y∈j3_ c f a→y∈a∨∃ z∈a,y=f z
 | [],_,h=>by simp [j3_] at h
 | z::a,y,h=>by
  unfold j3_ at h;split at h
  ·rcases List.mem_cons.1 h with h|h
   ·exact .inl (List.mem_cons.2 (.inl h))
   ·rcases a3q h with h|⟨u,h,e⟩
    ·exact .inl (List.mem_cons_of_mem _ h)
    ·exact .inr ⟨u,List.mem_cons_of_mem _ h,e⟩
  ·split at h
   ·rcases List.mem_cons.1 h with h|h
    ·exact .inr ⟨z,List.mem_cons_self ..,h⟩
    ·exact .inl (List.mem_cons_of_mem _ h)
   ·exact .inl h
theorem a3r {c:ByteArray} {f:Sy→Sy} : ∀ (a:List Sy),(j3_ c f a).length=a.length
 | []=>rfl
 | z::a=>by
  unfold j3_;split
  ·simp [a3r a]
  ·split<;>rfl
structure DyOK (log:List Ev) (i:Nat) (d:Dy) : Prop where
 op:∀ c,j2_ c d.st=true→q7_ (.string c) d.op=some (.int .i64 (a7z c 0 d.st))
 st:∀ y∈d.st,0≤y.came∧y.came < i∧(0≤(e0_ log y.came.toNat).time∧(e0_ log y.came.toNat).time≤604800)∧0≤y.decl∧y.decl≤i
 sl:d.st.length≤i
 wl:d.wt.length≤i
 sv:NumOK d.sv i
theorem DyOK.zero (log:List Ev) : DyOK log 0 ⟨[],[],[],[]⟩:=
 ⟨fun c h=>by simp [j2_] at h,fun y h=>by simp at h,Nat.le_refl _,Nat.le_refl _,fun c=>.inl rfl⟩
theorem c2w {x:Ev} {i:Nat} {y:Sy} {log:List Ev} (h:0≤y.came∧y.came < i∧(0≤(e0_ log y.came.toNat).time∧(e0_ log y.came.toNat).time≤604800)∧0≤y.decl∧y.decl≤i) :
  0≤(q6_ x i y).came∧(q6_ x i y).came < ((i+1:Nat) : Int)∧(0≤(e0_ log (q6_ x i y).came.toNat).time∧(e0_ log (q6_ x i y).came.toNat).time≤604800)∧0≤(q6_ x i y).decl∧(q6_ x i y).decl≤((i+1:Nat) : Int):=by
 obtain ⟨h1,h2,h3,h4,h5⟩:=h;unfold q6_;split
 ·exact ⟨h1,by simp only;omega,h3,h4,by simp only;omega⟩
 ·split
  ·exact ⟨h1,by simp only;omega,h3,by simp only;omega,by simp only;omega⟩
  ·split
   ·exact ⟨h1,by simp only;omega,h3,h4,by simp only;omega⟩
   ·split
    ·exact ⟨h1,by simp only;omega,h3,h4,by simp only;omega⟩
    ·exact ⟨h1,by omega,h3,h4,by omega⟩
theorem b5j (log:List Ev) (a:List Sy) (x:Ev) : (p6_ log a x).length≤1:=by
 unfold p6_;split
 ·exact Nat.le_refl _
 ·exact Nat.zero_le _
theorem DyOK.step {log:List Ev} {i:Nat} {d:Dy} (h:DyOK log i d) {x:Ev} (hx:x=e0_ log i) (ht:0≤x.time∧x.time≤604800) : DyOK log (i+1) (l9_ log d i x):=by
 obtain ⟨h1,h2,h3,h4,h5⟩:=h;have hup:∀ y∈d.st,0≤y.came∧y.came < ((i+1:Nat) : Int)∧(0≤(e0_ log y.came.toNat).time∧(e0_ log y.came.toNat).time≤604800)∧0≤y.decl∧y.decl≤((i+1:Nat) : Int):=fun y hy=>by
  obtain ⟨g1,g2,g3,g4,g5⟩:=h2 y hy;exact ⟨g1,by omega,g3,g4,by omega⟩
 unfold l9_;split
 ·exact ⟨h1,hup,by omega,by omega,h5.next⟩
 ·split
  ·refine ⟨fun c hc=>?_,fun y hy=>?_,?_,by simp only;omega,h5.add _ (by decide) (by decide)⟩
   ·simp only at hc ⊢;rw [a2y,a6y (d:=x.car) rfl];by_cases h:c=x.car
    ·subst h;rw [if_pos rfl,if_pos rfl,Nat.zero_add]
    ·rw [if_neg h,if_neg (Ne.symm h)];refine h1 c ?_;rw [w5_] at hc;simpa [j2_,Ne.symm h] using hc
   ·rcases List.mem_append.1 hy with hy|hy
    ·exact hup y hy
    ·rw [List.mem_singleton.1 hy];simp only [Int.toNat_natCast];rw [←hx];exact ⟨by omega,by omega,ht,by omega,by omega⟩
   ·simp only [List.length_append,List.length_cons,List.length_nil];omega
  ·refine ⟨fun c hc=>?_,fun y hy=>?_,?_,?_,?_⟩
   ·simp only at hc ⊢;rw [w6_ (w4_ x i)] at hc;rw [a6z (w4_ x i)];exact h1 c hc
   ·rcases a3q hy with hy|⟨z,hz,rfl⟩
    ·exact hup y hy
    ·exact c2w (h2 z hz)
   ·simp only [a3r];omega
   ·have:=b5j log d.st x;simp only [List.length_append];omega
   ·simp only;split
    ·exact h5.add _ (by decide) (by decide)
    ·split
     ·exact h5.add _ (by decide) (by decide)
     ·exact h5.next
end Go.Proofs.YtoibondihdhnoaaGreatDoor
