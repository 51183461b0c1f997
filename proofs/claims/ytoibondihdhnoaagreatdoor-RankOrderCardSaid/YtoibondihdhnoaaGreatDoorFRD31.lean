/- Texts in one: Chapter 4: the first car that is overtaken, as the program and as the document have it; no condition. -/
import Derived.Test.YtoibondihdhnoaaGreatDoorFRD20
import Derived.Test.YtoibondihdhnoaaGreatDoorFRD30
namespace Go.Proofs.YtoibondihdhnoaaGreatDoor
open Go.RowKit
def a5k (x:Sg) (R:Int) (c:ByteArray) : Bool:=decide (x.rank=R)&&decide (x.car=c)
def q8_ (L:List Sg) (R:Int) (c:ByteArray) : Nat→Int
 | 0=>-1
 | k+1=>if a5k (c9_ L k) R c then k else q8_ L R c k
def jOf (L:List Sg) (k:Nat) : Int:=q8_ L (c9_ L k).rank (c9_ L k).car k
def okI (L:List Sg) (k i:Nat) : Bool:=
 decide ((c9_ L i).kind=0)&&decide ((c9_ L i).rank=(c9_ L k).rank)&&!decide ((c9_ L i).car=(c9_ L k).car)&&decide (q8_ L (c9_ L i).rank (c9_ L i).car k=i)
def a2g (L:List Sg) (k:Nat) : Bool:=decide (0≤jOf L k)&&decide ((c9_ L (jOf L k).toNat).kind=0)
def a4d (L:List Sg) (k:Nat) : Int:=if (c9_ L k).kind=1∧a2g L k=true then ixP (okI L k) 0 (jOf L k).toNat else -1
def b3g (L:List Sg) (k:Nat) : Bool:=decide (0≤a4d L k)
def b1r (L:List Sg) : Int:=ixP (b3g L) 0 L.length
def a6a (L:List Sg) (i k:Nat) : Bool:=a5h (fun n=>a5k (c9_ L n) (c9_ L i).rank (c9_ L i).car) (i+1) (k - (i+1))
def d1s (L:List Sg) (k i:Nat) : Bool:=decide ((c9_ L i).kind=0)&&decide ((c9_ L i).rank=(c9_ L k).rank)&&!decide ((c9_ L i).car=(c9_ L k).car)&&!a6a L i k
def d1t (L:List Sg) (k j:Nat) : Bool:=decide ((c9_ L j).kind=0)&&decide ((c9_ L j).rank=(c9_ L k).rank)&&decide ((c9_ L j).car=(c9_ L k).car)&&!a6a L j k
theorem p6_ {x:Sg} {R:Int} {c:ByteArray} : a5k x R c=true↔x.rank=R∧x.car=c:=by simp [a5k]
theorem q3_ (L:List Sg) (R:Int) (c:ByteArray) : ∀ k,(q8_ L R c k = -1∧∀ j,j < k→a5k (c9_ L j) R c=false)∨∃ j:Nat,q8_ L R c k=j∧j < k∧a5k (c9_ L j) R c=true∧∀ n,j < n→n < k→a5k (c9_ L n) R c=false
 | 0=>.inl ⟨rfl,fun j hj=>by omega⟩
 | k+1=>by
  rw [q8_];by_cases h:a5k (c9_ L k) R c=true
  ·rw [if_pos h];exact .inr ⟨k,rfl,by omega,h,fun n h1 h2=>by omega⟩
  ·rw [if_neg h];have hf:a5k (c9_ L k) R c=false:=by simpa using h
   rcases q3_ L R c k with ⟨h1,h2⟩|⟨j,h1,h2,h3,h4⟩
   ·refine .inl ⟨h1,fun j hj=>?_⟩;by_cases he:j=k
    ·rw [he];exact hf
    ·exact h2 j (by omega)
   ·refine .inr ⟨j,h1,by omega,h3,fun n hn hl=>?_⟩;by_cases he:n=k
    ·rw [he];exact hf
    ·exact h4 n hn (by omega)
theorem z8_ {L:List Sg} {i k:Nat} : a6a L i k=true↔a3y L i k:=by
 unfold a6a a5h a3y;rw [List.any_eq_true];constructor
 ·rintro ⟨d,hd,h⟩;rw [List.mem_range] at hd;rw [p6_] at h;exact ⟨i+1+d,by omega,by omega,h.1,h.2⟩
 ·rintro ⟨n,h1,h2,h3,h4⟩;refine ⟨n - (i+1),List.mem_range.2 (by omega),?_⟩;rw [show i+1+(n - (i+1))=n by omega,p6_];exact ⟨h3,h4⟩
theorem a0s {L:List Sg} {i k:Nat} (hi:i < k) : decide (q8_ L (c9_ L i).rank (c9_ L i).car k=i) = !a6a L i k:=by
 have hs:a5k (c9_ L i) (c9_ L i).rank (c9_ L i).car=true:=p6_.2 ⟨rfl,rfl⟩;rcases q3_ L (c9_ L i).rank (c9_ L i).car k with ⟨_,h2⟩|⟨j,h1,h2,h3,h4⟩
 ·rw [h2 i hi] at hs;cases hs
 ·rw [h1];by_cases he:j=i
  ·subst he;rw [decide_eq_true rfl];have:a6a L j k≠true:=fun h=>by
    obtain ⟨n,h5,h6,h7,h8⟩:=z8_.1 h;have:=h4 n h5 h6;rw [p6_.2 ⟨h7,h8⟩] at this;cases this
   simp [this]
  ·rw [decide_eq_false (by omega)];have hlt:i < j:=by
    rcases Nat.lt_trichotomy i j with h|h|h
    ·exact h
    ·exact absurd h.symm he
    ·have:=h4 i h hi;rw [hs] at this;cases this
   rw [z8_.2 ⟨j,hlt,h2,(p6_.1 h3).1,(p6_.1 h3).2⟩];rfl
theorem c9g {L:List Sg} {i k:Nat} (hi:i < k) : okI L k i=d1s L k i:=by
 unfold okI d1s;rw [a0s hi]
theorem c2k {L:List Sg} {j k:Nat} (hj:j < k) : d1t L k j=true↔jOf L k=j∧a2g L k=true:=by
 unfold d1t;simp only [Bool.and_eq_true,decide_eq_true_eq];constructor
 ·rintro ⟨⟨⟨h1,h2⟩,h3⟩,h4⟩;have e:jOf L k=j:=by
   unfold jOf;rw [←h2,←h3];have:=a0s (L:=L) hj;rw [h4] at this;exact of_decide_eq_true this
  refine ⟨e,?_⟩;unfold a2g;rw [e,Int.toNat_natCast,h1];simp
 ·rintro ⟨h1,h2⟩;unfold a2g at h2;rw [h1,Int.toNat_natCast] at h2;simp only [Bool.and_eq_true,decide_eq_true_eq] at h2;have hs:a5k (c9_ L j) (c9_ L k).rank (c9_ L k).car=true:=by
   unfold jOf at h1;rcases q3_ L (c9_ L k).rank (c9_ L k).car k with ⟨h3,_⟩|⟨j',h3,h4,h5,h6⟩
   ·omega
   ·have:j'=j:=by omega
    subst this;exact h5
  obtain ⟨h3,h4⟩:=p6_.1 hs;refine ⟨⟨⟨h2.2,h3⟩,h4⟩,?_⟩;have:=a0s (L:=L) hj;rw [h3,h4] at this;rw [←this];unfold jOf at h1;rw [h1];simp
theorem b3h {L:List Sg} {k:Nat} (h:0≤jOf L k) : ∃ j:Nat,jOf L k=j∧j < k:=by
 unfold jOf at h ⊢;rcases q3_ L (c9_ L k).rank (c9_ L k).car k with ⟨h1,_⟩|⟨j,h1,h2,_⟩
 ·omega
 ·exact ⟨j,h1,h2⟩
theorem b7u {L:List Sg} {k:Nat} (hk:k < L.length) (h:b3g L k=true) : ∃ i j,OverP L i j k:=by
 have h:=of_decide_eq_true h;unfold a4d at h;by_cases hc:(c9_ L k).kind=1∧a2g L k=true
 ·rw [if_pos hc] at h;have h0:0≤jOf L k:=by
   have:=hc.2;unfold a2g at this;simp only [Bool.and_eq_true,decide_eq_true_eq] at this;exact this.1
  obtain ⟨j,e,hj⟩:=b3h h0;rw [e,Int.toNat_natCast] at h;have hJ:=(c2k hj).2 ⟨e,hc.2⟩;rcases s6_ (okI L k) j with ⟨h2,h3⟩|⟨i,h2,h3,h4,h5⟩
  ·omega
  ·rw [c9g (by omega)] at h4;unfold d1s at h4;unfold d1t at hJ;simp only [Bool.and_eq_true,decide_eq_true_eq,Bool.not_eq_true',decide_eq_false_iff_not] at h4 hJ;refine ⟨i,j,h2,hj,hk,hc.1,h4.1.1.1,h4.1.1.2,h4.1.2,fun hh=>?_,hJ.1.1.1,hJ.1.1.2,hJ.1.2,fun hh=>?_⟩
   ·rw [z8_.2 hh] at h4;simp at h4
   ·rw [z8_.2 hh] at hJ;simp at hJ
 ·rw [if_neg hc] at h;omega
theorem c2l {L:List Sg} (h:∀ i j k,¬OverP L i j k) : b1r L = -1:=
 l9_ fun k hk=>by
  cases hf:b3g L k
  ·rfl
  ·obtain ⟨i,j,ho⟩:=b7u hk hf;exact absurd ho (h i j k)
structure Sy where
 car:ByteArray
 came:Int
 went:Int
 decl:Int
instance:Inhabited Sy:=⟨⟨ByteArray.empty,0,0,0⟩⟩
@[go_sem] def Sy.av (x:Sy) : List AV:=[S x.car,I x.came,I x.went,I x.decl]
structure Wt where
 car:ByteArray
 rank:Int
 waited:Int
instance:Inhabited Wt:=⟨⟨ByteArray.empty,0,0⟩⟩
@[go_sem] def Wt.av (x:Wt) : List AV:=[S x.car,I x.rank,I x.waited]
def r9_ (x:Ev) (i:Nat) (y:Sy) : Sy:=
 if x.kind=1 then ⟨y.car,y.came,i,y.decl⟩ else if x.kind=2 then ⟨y.car,y.came,y.went,y.decl+1⟩ else if x.kind=3 then ⟨y.car,y.came,i,y.decl⟩ else if x.kind=5 then ⟨y.car,y.came,-1,y.decl⟩ else y
def j0_ (c:ByteArray) (a:List Sy) : Bool:=a.any fun y=>decide (y.car=c)
def j1_ (c:ByteArray) (f:Sy→Sy) : List Sy→List Sy
 | []=>[]
 | y::a=>if j0_ c a then y::j1_ c f a else if y.car=c then f y::a else y::a
def a7j (a:List Sy) (i:Nat) (x:Ev) : List Sy:=
 if x.kind=4 then a else if x.kind=0 then a++[⟨x.car,i,-1,0⟩] else j1_ x.car (r9_ x i) a
theorem x7_ (x:Ev) (i:Nat) (y:Sy) : (r9_ x i y).car=y.car:=by
 unfold r9_;split
 ·rfl
 ·split
  ·rfl
  ·split
   ·rfl
   ·split<;>rfl
theorem q4_ {c:ByteArray} {y:Sy} {a:List Sy} : j0_ c (y::a)=(decide (y.car=c) || j0_ c a):=rfl
theorem x8_ {c:ByteArray} {a b:List Sy} : j0_ c (a++b)=(j0_ c a || j0_ c b):=List.any_append
theorem x9_ {c d:ByteArray} {f:Sy→Sy} (hf:∀ y,(f y).car=y.car) : ∀ a:List Sy,j0_ d (j1_ c f a)=j0_ d a
 | []=>rfl
 | y::a=>by
  rw [j1_];split
  ·rw [q4_,q4_,x9_ hf a]
  ·split
   ·rw [q4_,q4_,hf]
   ·rfl
def a8n (c:ByteArray) : Nat→List Sy→Int
 | _,[]=>-1
 | k,y::a=>if j0_ c a then a8n c (k+1) a else if y.car=c then k else -1
theorem o4_ {c:ByteArray} : ∀ (a:List Sy) (k:Nat),j0_ c a=true→∃ j:Nat,a8n c k a=((k+j:Nat) : Int)∧∃ hj:j < a.length,(a[j]).car=c∧∀ f,j1_ c f a=a.set j (f a[j])
 | [],_,h=>by simp [j0_] at h
 | y::a,k,h=>by
  rw [a8n];cases hh:j0_ c a
  ·rw [q4_,hh,Bool.or_false,decide_eq_true_eq] at h;rw [if_neg (by simp),if_pos h];refine ⟨0,by simp,by simp,by simpa using h,fun f=>?_⟩;rw [j1_,hh,if_neg (by simp),if_pos h];rfl
  ·rw [if_pos rfl];obtain ⟨j,h1,hj,h2,h3⟩:=o4_ a (k+1) hh;refine ⟨j+1,by rw [h1];congr 1;omega,by simpa using hj,by simpa using h2,fun f=>?_⟩;rw [j1_,hh,if_pos rfl,h3 f];rfl
theorem a7k {c d:ByteArray} {z:Sy} (hz:z.car=d) : ∀ (a:List Sy) (k:Nat),a8n c k (a++[z])=if d=c then ((k+a.length:Nat) : Int) else a8n c k a
 | [],k=>by
  rw [List.nil_append,a8n,a8n,a8n,if_neg (by simp [j0_]),hz];rfl
 | y::a,k=>by
  rw [List.cons_append,a8n,a7k hz a (k+1),x8_];have e1:j0_ c [z]=decide (d=c):=by simp [j0_,hz]
  rw [e1,a8n];by_cases hd:d=c
  ·rw [if_pos hd,if_pos hd,decide_eq_true hd,Bool.or_true,if_pos rfl];congr 1;simp;omega
  ·rw [if_neg hd,if_neg hd,decide_eq_false hd,Bool.or_false]
theorem a7l {c d:ByteArray} {f:Sy→Sy} (hf:∀ y,(f y).car=y.car) : ∀ (a:List Sy) (k:Nat),a8n d k (j1_ c f a)=a8n d k a
 | [],_=>rfl
 | y::a,k=>by
  rw [j1_];split
  ·rw [a8n,a8n,x9_ hf,a7l hf a]
  ·split
   ·rw [a8n,a8n,hf]
   ·rfl
theorem b7v {c:ByteArray} {s:St} : c∈a2e s↔0 < cnt c s.q.flatten+cnt c (s.tk.map (·.car)):=by rw [←h1_,l6_]
theorem b1s {q:List (List ByteArray)} {k:Nat} (hk:k < q.length) {c:ByteArray} (h:c∈qat q k) : 0 < cnt c q.flatten:=by
 refine l6_.2 (List.mem_flatten.2 ⟨qat q k,?_,h⟩);rw [g1_ hk];exact List.getElem_mem hk
theorem parts {r:Ru} {s:St} {x:Ev} (h:apE r s x=0) : evE r x=0∧s.time≤x.time∧doE r s x x.rank.toNat=0∧x.rank=(x.rank.toNat:Int)∧x.rank.toNat < r.ranks.length:=by
 unfold apE at h;rw [b5_,b5_,b5_] at h;obtain ⟨h1,h2,h3,_⟩:=h;have:=b1p h1;exact ⟨h1,of_decide_eq_true (c7_ (by decide) h2),h3,by omega,by omega⟩
theorem c4v {r:Ru} {s:St} (hl:s.q.length=r.ranks.length) {x:Ev} (h:apE r s x=0) (h0:x.kind≠0) (h4:x.kind≠4) : x.car∈a2e s:=by
 obtain ⟨h1,h2,h3,h5,h6⟩:=parts h;have hk:x.rank.toNat < s.q.length:=by omega
 have hkd:=b1o h1;rw [b7v];unfold doE at h3;rw [if_neg h0] at h3;by_cases k1:x.kind=1
 ·rw [if_pos k1] at h3;unfold o2_ at h3;rw [b5_] at h3;obtain ⟨t,e⟩:=k3_ h3.1;have:=b1s hk (c:=x.car) (by rw [e];simp);omega
 rw [if_neg k1] at h3;by_cases k2:x.kind=2
 ·rw [if_pos k2] at h3;obtain ⟨t,e⟩:=k3_ h3;have:=b1s hk (c:=x.car) (by rw [e];simp);omega
 rw [if_neg k2] at h3;by_cases k3:x.kind=3
 ·rw [if_pos k3] at h3;unfold a2t at h3;have hn:¬a0z (qat s.q x.rank.toNat) x.car < 0:=fun hh=>by
   rw [if_pos hh] at h3;cases h3
  have:=b1s hk (Classical.byContradiction fun hc=>hn (z5_.2 hc));omega
 rw [if_neg k3,if_neg h4] at h3;unfold a3b at h3;split at h3
 ·cases h3
 ·rename_i hor;have hm:x.car∈s.tk.map (·.car):=Classical.byContradiction fun hc=>hor (.inl (p4_.2 hc));have:=l6_.2 hm;omega
theorem b3i {r:Ru} (hr:RuOK r) (c:ByteArray) : ∀ (n:Nat) (s:St) (m:List Sg),Inv r s→cnt c (a2e (k6_ r n s m).1)=cnt c (a2e s)
 | 0,_,_,_=>rfl
 | n+1,s,m,h=>by
  rw [k6_];split
  ·rfl
  ·rename_i hn;obtain ⟨k,e,hk,hp⟩:=k4_ hn;rw [e,Int.toNat_natCast];obtain ⟨h1,h2,h3⟩:=h8_ hp;have hkl:k < s.q.length:=by rw [h.len];exact hk
   obtain ⟨g1,g2,g3⟩:=hr.feedN hk h1;rw [b3i hr c n _ _ (h.up hr hkl h1 h2 h3),h1_,h1_];show cnt c (upQ s.q k (feedN r k)).flatten+_=_;rw [b1n hkl (by rw [h.len];exact g3) (by omega) h2];rfl
theorem c9h {r:Ru} {s:St} (hr:RuOK r) (hi:Inv r s) {x:Ev} (h:apE r s x=0) (c:ByteArray) : cnt c (a2e (doS r s x x.rank.toNat))≤cnt c (a2e s)+if x.kind=0∧c=x.car then 1 else 0:=by
 obtain ⟨h1,h2,h3,h5,h6⟩:=parts h;have hk:x.rank.toNat < s.q.length:=by rw [hi.len];exact h6
 generalize x.rank.toNat=k at *;rw [h1_,h1_];unfold doE at h3;unfold doS;by_cases k0:x.kind=0
 ·rw [if_pos k0];unfold a3t;simp only;rw [a7c hi.once,z6_];have g:=e1_ hk (qat s.q k++[x.car]) c;rw [g5_,d6_,i9_] at g;by_cases hc:c=x.car
  ·subst hc;rw [if_pos rfl] at g ⊢;rw [if_pos ⟨k0,rfl⟩];omega
  ·rw [if_neg (Ne.symm hc)] at g;rw [if_neg hc];omega
 rw [if_neg k0] at h3 ⊢;by_cases k1:x.kind=1
 ·rw [if_pos k1] at h3 ⊢;unfold o2_ at h3;rw [b5_] at h3;obtain ⟨t,e⟩:=k3_ h3.1;unfold a3r;simp only [List.map_append,List.map_cons,List.map_nil];have g:=e1_ hk (qat s.q k).tail c;rw [g5_,d6_,i9_];rw [e,List.tail_cons,d6_] at g;rw [e,List.tail_cons];omega
 rw [if_neg k1] at h3 ⊢;by_cases k2:x.kind=2
 ·rw [if_pos k2] at h3 ⊢;obtain ⟨t,e⟩:=k3_ h3;unfold a1c n8_;simp only;have g:=e1_ hk ((qat s.q k).tail.take (a1b r (qat s.q k).tail.length)++[x.car]++(qat s.q k).tail.drop (a1b r (qat s.q k).tail.length)) c;have g3:=g5_ c ((qat s.q k).tail.take (a1b r (qat s.q k).tail.length)) ((qat s.q k).tail.drop (a1b r (qat s.q k).tail.length));rw [List.take_append_drop] at g3;rw [g5_,g5_,d6_,i9_] at g;have g4:cnt c (qat s.q k)=cnt c (qat s.q k).tail+if x.car=c then 1 else 0:=by rw [e,List.tail_cons,d6_]
  omega
 rw [if_neg k2] at h3 ⊢;by_cases k3:x.kind=3
 ·rw [if_pos k3];unfold a3s;simp only;have g:=e1_ hk ((qat s.q k).eraseIdx (a0z (qat s.q k) x.car).toNat) c;have g2:=a3v c (qat s.q k) (a0z (qat s.q k) x.car).toNat;omega
 rw [if_neg k3] at h3 ⊢;by_cases k4:x.kind=4
 ·rw [if_pos k4] at h3 ⊢;unfold s9_ at h3;by_cases hf:(rat r.ranks k).feeder = -1
  ·rw [if_pos hf] at h3;cases h3
  ·rw [if_neg hf,b5_,b5_] at h3;have f2:=of_decide_eq_true (c7_ (by decide) h3.2.1);obtain ⟨g1,g2,g3⟩:=hr.feedN h6 hf;show cnt c (upQ s.q k (feedN r k)).flatten+_≤_;rw [b1n hk (by rw [hi.len];exact g3) (by omega) f2];show cnt c s.q.flatten+cnt c (s.tk.map (·.car))≤_;omega
 rw [if_neg k4] at h3 ⊢;unfold a3b at h3;split at h3
 ·cases h3
 ·rename_i hor;unfold b7f;simp only;rw [a2f hi.once x fun hh=>hor (.inl hh),z6_];have g:=e1_ hk ([x.car]++qat s.q k) c;rw [g5_,d6_,i9_] at g;have hm:x.car∈s.tk.map (·.car):=Classical.byContradiction fun hc=>hor (.inl (p4_.2 hc));have g2:=l6_.2 hm;by_cases hc:c=x.car
  ·subst hc;rw [if_pos rfl] at g ⊢;omega
  ·rw [if_neg (Ne.symm hc)] at g;rw [if_neg hc];omega
theorem c9i {r:Ru} {s:St} (hr:RuOK r) (hi:Inv r s) {x:Ev} (h:apE r s x=0) {c:ByteArray} (hc:c∈a2e (apU r s x).1) : c∈a2e s∨x.kind=0∧c=x.car:=by
 obtain ⟨h1,h2,h3,h5,h6⟩:=parts h;have hd:=hi.doS hr h1 h2 h5 h3;have hp:=l6_.2 hc;unfold apU at hp;rw [b3i hr c _ _ _ hd] at hp;have g:=c9h hr hi h c;change 0 < cnt c (a2e (doS r s x x.rank.toNat)) at hp;by_cases hh:x.kind=0∧c=x.car
 ·exact .inr hh
 ·rw [if_neg hh] at g;exact .inl (l6_.1 (by omega))
theorem a3h {r:Ru} {i:Nat} {x:Ev} {l:List Ev} {s:St} (h:(goP r i (x::l) s).2.2=0) : apE r s x=0∧(goP r (i+1) l (apU r s x).1).2.2=0:=by
 rw [goP] at h;by_cases ha:apE r s x=0
 ·rw [if_neg (by simp [ha])] at h;exact ⟨ha,h⟩
 ·rw [if_pos ha] at h;exact absurd h ha
theorem c6j {r:Ru} {x:Ev} (h:evE r x=0) : (x.kind=4→x.car=ByteArray.empty)∧(x.kind≠4→d8_ x.car=true):=by
 unfold evE at h;rw [b5_,b5_,b5_,b5_,b5_] at h;have e4:=c7_ (by decide) h.2.2.2.1;have e5:=c7_ (by decide) h.2.2.2.2.1;refine ⟨fun hk=>?_,fun hk=>?_⟩
 ·rw [decide_eq_true hk] at e4;simpa using e4
 ·rw [decide_eq_false hk] at e5;simpa using e5
def a1k (a:List Sy) (c:ByteArray) : Int:=(a.getD (a8n c 0 a).toNat default).came
def q9_ (log:List Ev) (a:List Sy) (x:Ev) : List Wt:=if x.kind=1 then [⟨x.car,x.rank,x.time - (d2_ log (a1k a x.car).toNat).time⟩] else []
def b5h (log:List Ev) : Nat→List Ev→List Sy→List Wt
 | _,[],_=>[]
 | i,x::l,a=>q9_ log a x++b5h log (i+1) l (a7j a i x)
def b5i (x:Ev) (c:ByteArray) : Bool:=decide (x.kind=0)&&decide (x.car=c)
def b7w (log:List Ev) (c:ByteArray) : Nat→Nat
 | 0=>0
 | k+1=>if b5i (d2_ log k) c then k else b7w log c k
def b5j (log:List Ev) : Nat→List Ev→List Wt
 | _,[]=>[]
 | i,x::l=>(if x.kind=1 then [⟨x.car,x.rank,x.time - (d2_ log (b7w log x.car (i+1))).time⟩] else [])++b5j log (i+1) l
theorem b5k {a:List Sy} {c d:ByteArray} {z:Sy} (hz:z.car=d) (h:j0_ c (a++[z])=true) : a1k (a++[z]) c=if d=c then z.came else a1k a c:=by
 unfold a1k;rw [a7k hz];by_cases hd:d=c
 ·rw [if_pos hd,if_pos hd];simp
 ·rw [if_neg hd,if_neg hd];have hc:j0_ c a=true:=by
   rw [x8_] at h;have e1:j0_ c [z]=false:=by simp [j0_,hz,hd]
   rw [e1,Bool.or_false] at h;exact h
  obtain ⟨j,e,hj,_⟩:=o4_ a 0 hc;rw [e,Int.toNat_natCast,Nat.zero_add,List.getD_eq_getElem?_getD,List.getElem?_append_left hj,List.getD_eq_getElem?_getD]
theorem b5l {a:List Sy} {c d:ByteArray} {x:Ev} {i:Nat} (h:j0_ c a=true) : a1k (j1_ d (r9_ x i) a) c=a1k a c:=by
 unfold a1k;rw [a7l (x7_ x i)];obtain ⟨j,e,hj,_⟩:=o4_ a 0 h;rw [e,Int.toNat_natCast,Nat.zero_add];by_cases hd:j0_ d a=true
 ·obtain ⟨m,_,hm,_,h3⟩:=o4_ a 0 hd;rw [h3,List.getD_eq_getElem?_getD,List.getD_eq_getElem?_getD,List.getElem?_set];split
  ·rename_i hmj;subst hmj;rw [List.getElem?_eq_getElem hm];simp only [Option.getD_some];unfold r9_;split
   ·rfl
   ·split
    ·rfl
    ·split
     ·rfl
     ·split<;>rfl
  ·rfl
 ·have hn:∀ a:List Sy,j0_ d a=false→j1_ d (r9_ x i) a=a:=fun a=>by
   induction a with
   | nil=>intro _;rfl
   | cons y a ih=>
    intro hh;rw [q4_,Bool.or_eq_false_iff] at hh;rw [j1_,hh.2,if_neg (by simp),if_neg (of_decide_eq_false hh.1)]
  rw [hn a (by simpa using hd)]
theorem b3j {pre:List Ev} {x:Ev} {l:List Ev} : d2_ (pre++x::l) pre.length=x:=by simp [d2_]
def CameOK (log:List Ev) (i:Nat) (a:List Sy) : Prop:=∀ c,j0_ c a=true→a1k a c=(b7w log c i:Int)
theorem CameOK.step {pre:List Ev} {x:Ev} {l:List Ev} {a:List Sy} (h:CameOK (pre++x::l) pre.length a) : CameOK (pre++x::l) (pre.length+1) (a7j a pre.length x):=fun c hc=>by
 rw [b7w,b3j];unfold a7j at hc ⊢;by_cases h4:x.kind=4
 ·rw [if_pos h4] at hc ⊢;rw [if_neg (by simp [b5i,h4])];exact h c hc
 ·rw [if_neg h4] at hc ⊢;by_cases h0:x.kind=0
  ·rw [if_pos h0] at hc ⊢;rw [b5k rfl hc];by_cases he:x.car=c
   ·rw [if_pos he,if_pos (by simp [b5i,h0,he])]
   ·rw [if_neg he,if_neg (by simp [b5i,he])];rw [x8_] at hc;refine h c ?_;simpa [j0_,he] using hc
  ·rw [if_neg h0] at hc ⊢;rw [x9_ (x7_ x _)] at hc;rw [b5l hc,if_neg (by simp [b5i,h0])];exact h c hc
theorem b5m {a:List Sy} {i:Nat} {x:Ev} {c:ByteArray} : j0_ c (a7j a i x)=(j0_ c a || (decide (x.kind=0)&&decide (x.car=c))):=by
 unfold a7j;by_cases h4:x.kind=4
 ·rw [if_pos h4,decide_eq_false (by omega)];simp
 ·rw [if_neg h4];by_cases h0:x.kind=0
  ·rw [if_pos h0,x8_,decide_eq_true h0];simp [j0_]
  ·rw [if_neg h0,x9_ (x7_ x i),decide_eq_false h0];simp
def Known (s:St) (a:List Sy) : Prop:=∀ c∈a2e s,j0_ c a=true
theorem Known.step {r:Ru} {s:St} (hr:RuOK r) (hi:Inv r s) {a:List Sy} (h:Known s a) {x:Ev} (ha:apE r s x=0) (i:Nat) : Known (apU r s x).1 (a7j a i x):=fun c hc=>by
 rw [b5m];rcases c9i hr hi ha hc with h1|⟨h1,rfl⟩
 ·rw [h c h1];rfl
 ·rw [decide_eq_true h1,decide_eq_true rfl];simp
theorem b3k {r:Ru} (hr:RuOK r) : ∀ (l:List Ev) (pre:List Ev) (s:St) (a:List Sy),Inv r s→Known s a→CameOK (pre++l) pre.length a→(goP r pre.length l s).2.2=0→b5h (pre++l) pre.length l a=b5j (pre++l) pre.length l
 | [],_,_,_,_,_,_,_=>rfl
 | x::l,pre,s,a,hi,hk,hc,h=>by
  obtain ⟨h1,h2⟩:=a3h h;rw [b5h,b5j];have e:pre++x::l=(pre++[x])++l:=by simp
  have hs:=b3k hr l (pre++[x]) (apU r s x).1 (a7j a pre.length x) (hi.ap hr h1).1 (hk.step hr hi h1 _) (by
   rw [←e,List.length_append];exact hc.step) (by rw [List.length_append];exact h2)
  rw [←e,List.length_append] at hs;rw [show pre.length+1=pre.length + [x].length from rfl,hs];congr 1;unfold q9_;by_cases k1:x.kind=1
  ·rw [if_pos k1,if_pos k1,hc _ (hk _ (c4v hi.len h1 (by omega) (by omega))),Int.toNat_natCast];rw [show pre.length + [x].length=pre.length+1 from rfl,b7w,b3j,if_neg (by simp [b5i,k1])]
  ·rw [if_neg k1,if_neg k1]
theorem b7x {r:Ru} (hr:RuOK r) {l:List Ev} (h:(goP r 0 l (st0 r)).2.2=0) : b5h l 0 l []=b5j l 0 l:=
 b3k hr l [] (st0 r) [] (Inv.st0 hr) (fun c hc=>by
  have h:=l6_.2 hc;rw [h1_] at h;change 0 < cnt c (List.replicate _ []).flatten+cnt c [] at h;rw [z7_,i9_] at h;omega) (fun c hc=>by cases hc) h
abbrev KV:Type:=List (Value×Value)
theorem c2m {a:ByteArray} {k:Value} (h:k1_ (.string a) k=true) : k = .string a:=by
 cases k<;>simp [k1_] at h;rw [h]
theorem a7m (a b:ByteArray) (v:Value) : ∀ m,v0_ (.string a) (a6i (.string b) v m)=if a=b then some v else v0_ (.string a) m
 | []=>by
  simp only [a6i,v0_];by_cases h:a=b<;>simp [k1_,h]
 | (k,u)::r=>by
  have ih:=a7m a b v r;simp only [a6i];by_cases hb:k1_ (.string b) k=true
  ·have:=c2m hb;subst this;rw [if_pos hb];simp only [v0_];by_cases h:a=b<;>simp [k1_,h]
  ·rw [if_neg hb];simp only [v0_];rw [ih];by_cases h:a=b
   ·subst h;simp [hb]
   ·simp [h]
def c1l (m:KV) (c:ByteArray) : Int:=match v0_ (.string c) m with|some (.int _ v)=>v|_=>0
def c6k (m:KV) (c:ByteArray) (v:Int) : KV:=a6i (.string c) (.int .i64 (c1l m c+v)) m
def NumOK (m:KV) (n:Nat) : Prop:=∀ c,v0_ (.string c) m=none∨∃ v:Int,v0_ (.string c) m=some (.int .i64 v)∧-(n:Int)≤v∧v≤n
theorem NumOK.at_ {m:KV} {n:Nat} (h:NumOK m n) (c:ByteArray) : (v0_ (.string c) m).getD (.int .i64 0) = .int .i64 (c1l m c)∧-(n:Int)≤c1l m c∧c1l m c≤n:=by
 unfold c1l;rcases h c with h1|⟨v,h1,h2,h3⟩
 ·rw [h1];exact ⟨rfl,by simp,by simp⟩
 ·rw [h1];exact ⟨rfl,h2,h3⟩
theorem NumOK.upd {m:KV} {n:Nat} (h:NumOK m n) (c:ByteArray) {v:Int} (h1 : -((n+1:Nat) : Int)≤v) (h2:v≤((n+1:Nat) : Int)) : NumOK (a6i (.string c) (.int .i64 v) m) (n+1):=fun d=>by
 rw [a7m];by_cases hd:d=c
 ·rw [if_pos hd];exact .inr ⟨v,rfl,h1,h2⟩
 ·rw [if_neg hd];rcases h d with h3|⟨u,h3,h4,h5⟩
  ·exact .inl h3
  ·exact .inr ⟨u,h3,by omega,by omega⟩
theorem NumOK.next {m:KV} {n:Nat} (h:NumOK m n) : NumOK m (n+1):=fun d=>by
 rcases h d with h3|⟨u,h3,h4,h5⟩
 ·exact .inl h3
 ·exact .inr ⟨u,h3,by omega,by omega⟩
theorem NumOK.add {m:KV} {n:Nat} (h:NumOK m n) (c:ByteArray) {v:Int} (h1 : -1≤v) (h2:v≤1) : NumOK (c6k m c v) (n+1):=by
 have:=h.at_ c;exact h.upd c (by omega) (by omega)
structure Dy where
 st:List Sy
 op:KV
 wt:List Wt
 sv:KV
def m3_ (log:List Ev) (d:Dy) (i:Nat) (x:Ev) : Dy:=
 if x.kind=4 then d
 else if x.kind=0 then ⟨d.st++[⟨x.car,i,-1,0⟩],a6i (.string x.car) (.int .i64 d.st.length) d.op,d.wt,c6k d.sv x.car 0⟩
 else ⟨j1_ x.car (r9_ x i) d.st,d.op,d.wt++q9_ log d.st x,if x.kind=1 then c6k d.sv x.car 1 else if x.kind=5 then c6k d.sv x.car (-1) else d.sv⟩
theorem b3l (log:List Ev) (d:Dy) (i:Nat) (x:Ev) : (m3_ log d i x).st=a7j d.st i x:=by
 unfold m3_ a7j;split
 ·rfl
 ·split<;>rfl
theorem a4e {c:ByteArray} {f:Sy→Sy} : ∀ {a:List Sy} {y:Sy},y∈j1_ c f a→y∈a∨∃ z∈a,y=f z
 | [],_,h=>by simp [j1_] at h
 | z::a,y,h=>by
  unfold j1_ at h;split at h
  ·rcases List.mem_cons.1 h with h|h
   ·exact .inl (List.mem_cons.2 (.inl h))
   ·rcases a4e h with h|⟨u,h,e⟩
    ·exact .inl (List.mem_cons_of_mem _ h)
    ·exact .inr ⟨u,List.mem_cons_of_mem _ h,e⟩
  ·split at h
   ·rcases List.mem_cons.1 h with h|h
    ·exact .inr ⟨z,List.mem_cons_self ..,h⟩
    ·exact .inl (List.mem_cons_of_mem _ h)
   ·exact .inl h
theorem a4f {c:ByteArray} {f:Sy→Sy} : ∀ (a:List Sy),(j1_ c f a).length=a.length
 | []=>rfl
 | z::a=>by
  unfold j1_;split
  ·simp [a4f a]
  ·split<;>rfl
structure DyOK (log:List Ev) (i:Nat) (d:Dy) : Prop where
 op:∀ c,j0_ c d.st=true→v0_ (.string c) d.op=some (.int .i64 (a8n c 0 d.st))
 st:∀ y∈d.st,0≤y.came∧y.came < i∧(0≤(d2_ log y.came.toNat).time∧(d2_ log y.came.toNat).time≤604800)∧0≤y.decl∧y.decl≤i
 sl:d.st.length≤i
 wl:d.wt.length≤i
 sv:NumOK d.sv i
theorem DyOK.zero (log:List Ev) : DyOK log 0 ⟨[],[],[],[]⟩:=
 ⟨fun c h=>by simp [j0_] at h,fun y h=>by simp at h,Nat.le_refl _,Nat.le_refl _,fun c=>.inl rfl⟩
theorem c2n {x:Ev} {i:Nat} {y:Sy} {log:List Ev} (h:0≤y.came∧y.came < i∧(0≤(d2_ log y.came.toNat).time∧(d2_ log y.came.toNat).time≤604800)∧0≤y.decl∧y.decl≤i) :
  0≤(r9_ x i y).came∧(r9_ x i y).came < ((i+1:Nat) : Int)∧(0≤(d2_ log (r9_ x i y).came.toNat).time∧(d2_ log (r9_ x i y).came.toNat).time≤604800)∧0≤(r9_ x i y).decl∧(r9_ x i y).decl≤((i+1:Nat) : Int):=by
 obtain ⟨h1,h2,h3,h4,h5⟩:=h;unfold r9_;split
 ·exact ⟨h1,by simp only;omega,h3,h4,by simp only;omega⟩
 ·split
  ·exact ⟨h1,by simp only;omega,h3,by simp only;omega,by simp only;omega⟩
  ·split
   ·exact ⟨h1,by simp only;omega,h3,h4,by simp only;omega⟩
   ·split
    ·exact ⟨h1,by simp only;omega,h3,h4,by simp only;omega⟩
    ·exact ⟨h1,by omega,h3,h4,by omega⟩
theorem b5n (log:List Ev) (a:List Sy) (x:Ev) : (q9_ log a x).length≤1:=by
 unfold q9_;split
 ·exact Nat.le_refl _
 ·exact Nat.zero_le _
theorem DyOK.step {log:List Ev} {i:Nat} {d:Dy} (h:DyOK log i d) {x:Ev} (hx:x=d2_ log i) (ht:0≤x.time∧x.time≤604800) : DyOK log (i+1) (m3_ log d i x):=by
 obtain ⟨h1,h2,h3,h4,h5⟩:=h;have hup:∀ y∈d.st,0≤y.came∧y.came < ((i+1:Nat) : Int)∧(0≤(d2_ log y.came.toNat).time∧(d2_ log y.came.toNat).time≤604800)∧0≤y.decl∧y.decl≤((i+1:Nat) : Int):=fun y hy=>by
  obtain ⟨g1,g2,g3,g4,g5⟩:=h2 y hy;exact ⟨g1,by omega,g3,g4,by omega⟩
 unfold m3_;split
 ·exact ⟨h1,hup,by omega,by omega,h5.next⟩
 ·split
  ·refine ⟨fun c hc=>?_,fun y hy=>?_,?_,by simp only;omega,h5.add _ (by decide) (by decide)⟩
   ·simp only at hc ⊢;rw [a7m,a7k (d:=x.car) rfl];by_cases h:c=x.car
    ·subst h;rw [if_pos rfl,if_pos rfl,Nat.zero_add]
    ·rw [if_neg h,if_neg (Ne.symm h)];refine h1 c ?_;rw [x8_] at hc;simpa [j0_,Ne.symm h] using hc
   ·rcases List.mem_append.1 hy with hy|hy
    ·exact hup y hy
    ·rw [List.mem_singleton.1 hy];simp only [Int.toNat_natCast];rw [←hx];exact ⟨by omega,by omega,ht,by omega,by omega⟩
   ·simp only [List.length_append,List.length_cons,List.length_nil];omega
  ·refine ⟨fun c hc=>?_,fun y hy=>?_,?_,?_,?_⟩
   ·simp only at hc ⊢;rw [x9_ (x7_ x i)] at hc;rw [a7l (x7_ x i)];exact h1 c hc
   ·rcases a4e hy with hy|⟨z,hz,rfl⟩
    ·exact hup y hy
    ·exact c2n (h2 z hz)
   ·simp only [a4f];omega
   ·have:=b5n log d.st x;simp only [List.length_append];omega
   ·simp only;split
    ·exact h5.add _ (by decide) (by decide)
    ·split
     ·exact h5.add _ (by decide) (by decide)
     ·exact h5.next
end Go.Proofs.YtoibondihdhnoaaGreatDoor
