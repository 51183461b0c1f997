/- Texts in one: Chapter 4: the first car that is overtaken, as the program and as the document have it; no condition. -/
import Derived.Test.YtoibondihdhnoaaGreatDoorFRE20
import Derived.Test.YtoibondihdhnoaaGreatDoorFRE30
namespace Go.Proofs.YtoibondihdhnoaaGreatDoor
open Go.RowKit
def a7b (x:Sg) (R:Int) (c:ByteArray) : Bool:=decide (x.rank=R)&&decide (x.car=c)
def s3_ (L:List Sg) (R:Int) (c:ByteArray) : Nat→Int
 | 0=>-1
 | k+1=>if a7b (e2_ L k) R c then k else s3_ L R c k
def jOf (L:List Sg) (k:Nat) : Int:=s3_ L (e2_ L k).rank (e2_ L k).car k
def okI (L:List Sg) (k i:Nat) : Bool:=
 decide ((e2_ L i).kind=0)&&decide ((e2_ L i).rank=(e2_ L k).rank)&&!decide ((e2_ L i).car=(e2_ L k).car)&&decide (s3_ L (e2_ L i).rank (e2_ L i).car k=i)
def a9c (L:List Sg) (k:Nat) : Bool:=decide (0≤jOf L k)&&decide ((e2_ L (jOf L k).toNat).kind=0)
def a5a (L:List Sg) (k:Nat) : Int:=if (e2_ L k).kind=1∧a9c L k=true then ixP (okI L k) 0 (jOf L k).toNat else -1
def c5c (L:List Sg) (k:Nat) : Bool:=decide (0≤a5a L k)
def b5k (L:List Sg) : Int:=ixP (c5c L) 0 L.length
theorem b3h {x:Sg} {R:Int} {c:ByteArray} : a7b x R c=true↔x.rank=R∧x.car=c:=by simp [a7b]
theorem z6_ (L:List Sg) (R:Int) (c:ByteArray) : ∀ k,(s3_ L R c k = -1∧∀ j,j < k→a7b (e2_ L j) R c=false)∨∃ j:Nat,s3_ L R c k=j∧j < k∧a7b (e2_ L j) R c=true∧∀ n,j < n→n < k→a7b (e2_ L n) R c=false
 | 0=>.inl ⟨rfl,fun j hj=>by omega⟩
 | k+1=>by
  rw [s3_];by_cases h:a7b (e2_ L k) R c=true
  ·rw [if_pos h];exact .inr ⟨k,rfl,by omega,h,fun n h1 h2=>by omega⟩
  ·rw [if_neg h];have hf:a7b (e2_ L k) R c=false:=by simpa using h
   rcases z6_ L R c k with ⟨h1,h2⟩|⟨j,h1,h2,h3,h4⟩
   ·refine .inl ⟨h1,fun j hj=>?_⟩;by_cases he:j=k
    ·rw [he];exact hf
    ·exact h2 j (by omega)
   ·refine .inr ⟨j,h1,by omega,h3,fun n hn hl=>?_⟩;by_cases he:n=k
    ·rw [he];exact hf
    ·exact h4 n hn (by omega)
theorem b7x {L:List Sg} {k:Nat} (h:0≤jOf L k) : ∃ j:Nat,jOf L k=j∧j < k:=by
 unfold jOf at h ⊢;rcases z6_ L (e2_ L k).rank (e2_ L k).car k with ⟨h1,_⟩|⟨j,h1,h2,_⟩
 ·omega
 ·exact ⟨j,h1,h2⟩
structure Sy where
 car:ByteArray
 came:Int
 went:Int
 decl:Int
instance:Inhabited Sy:=⟨⟨ByteArray.empty,0,0,0⟩⟩
@[go_sem] def Sy.av (x:Sy) : List AV:=[S x.car,I x.came,I x.went,I x.decl]
structure Wt where
 car:ByteArray
 rank:Int
 waited:Int
instance:Inhabited Wt:=⟨⟨ByteArray.empty,0,0⟩⟩
@[go_sem] def Wt.av (x:Wt) : List AV:=[S x.car,I x.rank,I x.waited]
def o9_ (x:Ev) (i:Nat) (y:Sy) : Sy:=
 if x.kind=1 then ⟨y.car,y.came,i,y.decl⟩ else if x.kind=2 then ⟨y.car,y.came,y.went,y.decl+1⟩ else if x.kind=3 then ⟨y.car,y.came,i,y.decl⟩ else if x.kind=5 then ⟨y.car,y.came,-1,y.decl⟩ else y
def f7_ (c:ByteArray) (a:List Sy) : Bool:=a.any fun y=>decide (y.car=c)
def h6_ (c:ByteArray) (f:Sy→Sy) : List Sy→List Sy
 | []=>[]
 | y::a=>if f7_ c a then y::h6_ c f a else if y.car=c then f y::a else y::a
def a2g (a:List Sy) (i:Nat) (x:Ev) : List Sy:=
 if x.kind=4 then a else if x.kind=0 then a++[⟨x.car,i,-1,0⟩] else h6_ x.car (o9_ x i) a
def a3w:Nat→List Ev→List Sy→List Sy
 | _,[],a=>a
 | i,x::l,a=>a3w (i+1) l (a2g a i x)
def b1c (c:ByteArray) : Nat→List Ev→Sy→Sy
 | _,[],y=>y
 | k,x::l,y=>if x.car≠c then b1c c (k+1) l y else if x.kind=0 then y else b1c c (k+1) l (o9_ x k y)
def p4_:Nat→List Ev→List Sy
 | _,[]=>[]
 | i,x::l=>if x.kind≠0 then p4_ (i+1) l else b1c x.car (i+1) l ⟨x.car,i,-1,0⟩::p4_ (i+1) l
def a5b (i:Nat) (l:List Ev) : List Sy→List Sy
 | []=>[]
 | y::a=>(if f7_ y.car a then y else b1c y.car i l y)::a5b i l a
theorem o4_ (x:Ev) (i:Nat) (y:Sy) : (o9_ x i y).car=y.car:=by
 unfold o9_;split
 ·rfl
 ·split
  ·rfl
  ·split
   ·rfl
   ·split<;>rfl
theorem l5_ {c:ByteArray} {y:Sy} {a:List Sy} : f7_ c (y::a)=(decide (y.car=c) || f7_ c a):=rfl
theorem r0_ {c:ByteArray} {a b:List Sy} : f7_ c (a++b)=(f7_ c a || f7_ c b):=List.any_append
theorem r1_ {c d:ByteArray} {f:Sy→Sy} (hf:∀ y,(f y).car=y.car) : ∀ a:List Sy,f7_ d (h6_ c f a)=f7_ d a
 | []=>rfl
 | y::a=>by
  rw [h6_];split
  ·rw [l5_,l5_,r1_ hf a]
  ·split
   ·rw [l5_,l5_,hf]
   ·rfl
theorem b3i:∀ (i:Nat) (a:List Sy),a5b i [] a=a
 | _,[]=>rfl
 | i,y::a=>by
  rw [a5b,b3i i a,b1c];split<;>rfl
theorem a1i {i:Nat} {x:Ev} {l:List Ev} : ∀ (a:List Sy),f7_ x.car a=false→a5b i (x::l) a=a5b (i+1) l a
 | [],_=>rfl
 | y::a,h=>by
  rw [l5_,Bool.or_eq_false_iff] at h;have hy:=of_decide_eq_false h.1;rw [a5b,a5b,a1i a h.2,b1c,if_pos (Ne.symm hy)]
theorem b3j {i:Nat} {x:Ev} {l:List Ev} (hx:x.kind=0) (z:Sy) (hz:z.car=x.car) : ∀ (a:List Sy),a5b (i+1) l (a++[z])=a5b i (x::l) a++[b1c x.car (i+1) l z]
 | []=>by
  rw [List.nil_append,a5b,a5b,a5b,if_neg (by simp [f7_]),hz];rfl
 | y::a=>by
  rw [List.cons_append,a5b,a5b,b3j hx z hz a,r0_];have e1:f7_ y.car [z]=decide (x.car=y.car):=by simp [f7_,hz]
  rw [e1];cases hh:f7_ y.car a
  ·rw [Bool.false_or,b1c];by_cases hc:x.car=y.car
   ·rw [if_pos (by simp [hc]),if_neg (by simp),if_neg (by simp [hc]),if_pos hx];rfl
   ·rw [if_neg (by simp [hc]),if_neg (by simp),if_pos hc];rfl
  ·rw [Bool.true_or,if_pos rfl,if_pos rfl];rfl
theorem b3k {i:Nat} {x:Ev} {l:List Ev} (hx:x.kind≠0) : ∀ (a:List Sy),a5b (i+1) l (h6_ x.car (o9_ x i) a)=a5b i (x::l) a
 | []=>rfl
 | y::a=>by
  rw [h6_];cases hh:f7_ x.car a
  ·rw [if_neg (by simp)];by_cases hc:y.car=x.car
   ·rw [if_pos hc,a5b,a5b,a1i a hh,o4_,hc,hh,if_neg (by simp),if_neg (by simp),b1c,if_neg (by simp),if_neg hx]
   ·rw [if_neg hc,←a1i (y::a) (by rw [l5_,hh,decide_eq_false hc];rfl)]
  ·rw [if_pos rfl,a5b,a5b,b3k hx a,r1_ (o4_ x i)];cases h2:f7_ y.car a
   ·rw [if_neg (by simp),if_neg (by simp),b1c,if_pos];intro he;rw [he,h2] at hh;cases hh
   ·rw [if_pos rfl,if_pos rfl]
theorem b3l:∀ (l:List Ev) (i:Nat) (a:List Sy),(∀ x∈l,x.kind=4→f7_ x.car a=false∧∀ y∈l,y.kind=0→y.car≠x.car)→a3w i l a=a5b i l a++p4_ i l
 | [],i,a,_=>by rw [a3w,b3i,p4_,List.append_nil]
 | x::l,i,a,h=>by
  rw [a3w,p4_];have hrest:∀ z∈l,z.kind=4→f7_ z.car (a2g a i x)=false∧∀ y∈l,y.kind=0→y.car≠z.car:=fun z hz h4=>by
   obtain ⟨h1,h2⟩:=h z (List.mem_cons_of_mem _ hz) h4;refine ⟨?_,fun y hy=>h2 y (List.mem_cons_of_mem _ hy)⟩;unfold a2g;split
   ·exact h1
   ·split
    ·rename_i h0;rw [r0_,h1];have:=h2 x (by simp) h0;simp [f7_,this]
    ·rw [r1_ (o4_ x i),h1]
  rw [b3l l (i+1) _ hrest];unfold a2g;by_cases h4:x.kind=4
  ·rw [if_pos h4,if_pos (by omega),a1i a (h x (by simp) h4).1]
  ·rw [if_neg h4];by_cases h0:x.kind=0
   ·rw [if_pos h0,if_neg (by omega),b3j h0 _ rfl,List.append_assoc];rfl
   ·rw [if_neg h0,if_pos h0,b3k h0]
def a8i (c:ByteArray) : Nat→List Sy→Int
 | _,[]=>-1
 | k,y::a=>if f7_ c a then a8i c (k+1) a else if y.car=c then k else -1
theorem o5_ {c:ByteArray} : ∀ (a:List Sy) (k:Nat),f7_ c a=true→∃ j:Nat,a8i c k a=((k+j:Nat) : Int)∧∃ hj:j < a.length,(a[j]).car=c∧∀ f,h6_ c f a=a.set j (f a[j])
 | [],_,h=>by simp [f7_] at h
 | y::a,k,h=>by
  rw [a8i];cases hh:f7_ c a
  ·rw [l5_,hh,Bool.or_false,decide_eq_true_eq] at h;rw [if_neg (by simp),if_pos h];refine ⟨0,by simp,by simp,by simpa using h,fun f=>?_⟩;rw [h6_,hh,if_neg (by simp),if_pos h];rfl
  ·rw [if_pos rfl];obtain ⟨j,h1,hj,h2,h3⟩:=o5_ a (k+1) hh;refine ⟨j+1,by rw [h1];congr 1;omega,by simpa using hj,by simpa using h2,fun f=>?_⟩;rw [h6_,hh,if_pos rfl,h3 f];rfl
theorem a7c {c d:ByteArray} {z:Sy} (hz:z.car=d) : ∀ (a:List Sy) (k:Nat),a8i c k (a++[z])=if d=c then ((k+a.length:Nat) : Int) else a8i c k a
 | [],k=>by
  rw [List.nil_append,a8i,a8i,a8i,if_neg (by simp [f7_]),hz];rfl
 | y::a,k=>by
  rw [List.cons_append,a8i,a7c hz a (k+1),r0_];have e1:f7_ c [z]=decide (d=c):=by simp [f7_,hz]
  rw [e1,a8i];by_cases hd:d=c
  ·rw [if_pos hd,if_pos hd,decide_eq_true hd,Bool.or_true,if_pos rfl];congr 1;simp;omega
  ·rw [if_neg hd,if_neg hd,decide_eq_false hd,Bool.or_false]
theorem a7d {c d:ByteArray} {f:Sy→Sy} (hf:∀ y,(f y).car=y.car) : ∀ (a:List Sy) (k:Nat),a8i d k (h6_ c f a)=a8i d k a
 | [],_=>rfl
 | y::a,k=>by
  rw [h6_];split
  ·rw [a8i,a8i,r1_ hf,a7d hf a]
  ·split
   ·rw [a8i,a8i,hf]
   ·rfl
theorem b7y {c:ByteArray} {s:St} : c∈a2e s↔0 < cnt c s.q.flatten+cnt c (s.tk.map (·.car)):=by rw [←g9_,m1_]
theorem b1p {q:List (List ByteArray)} {k:Nat} (hk:k < q.length) {c:ByteArray} (h:c∈qat q k) : 0 < cnt c q.flatten:=by
 refine m1_.2 (List.mem_flatten.2 ⟨qat q k,?_,h⟩);rw [i0_ hk];exact List.getElem_mem hk
theorem parts {r:Ru} {s:St} {x:Ev} (h:apE r s x=0) : evE r x=0∧s.time≤x.time∧doE r s x x.rank.toNat=0∧x.rank=(x.rank.toNat:Int)∧x.rank.toNat < r.ranks.length:=by
 unfold apE at h;rw [b7_,b7_,b7_] at h;obtain ⟨h1,h2,h3,_⟩:=h;have:=b7n h1;exact ⟨h1,of_decide_eq_true (d2_ (by decide) h2),h3,by omega,by omega⟩
theorem c5d {r:Ru} {s:St} (hl:s.q.length=r.ranks.length) {x:Ev} (h:apE r s x=0) (h0:x.kind≠0) (h4:x.kind≠4) : x.car∈a2e s:=by
 obtain ⟨h1,h2,h3,h5,h6⟩:=parts h;have hk:x.rank.toNat < s.q.length:=by omega
 have hkd:=b7m h1;rw [b7y];unfold doE at h3;rw [if_neg h0] at h3;by_cases k1:x.kind=1
 ·rw [if_pos k1] at h3;unfold p3_ at h3;rw [b7_] at h3;obtain ⟨t,e⟩:=n6_ h3.1;have:=b1p hk (c:=x.car) (by rw [e];simp);omega
 rw [if_neg k1] at h3;by_cases k2:x.kind=2
 ·rw [if_pos k2] at h3;obtain ⟨t,e⟩:=n6_ h3;have:=b1p hk (c:=x.car) (by rw [e];simp);omega
 rw [if_neg k2] at h3;by_cases k3:x.kind=3
 ·rw [if_pos k3] at h3;unfold a3n at h3;have hn:¬a1w (qat s.q x.rank.toNat) x.car < 0:=fun hh=>by
   rw [if_pos hh] at h3;cases h3
  have:=b1p hk (Classical.byContradiction fun hc=>hn (a0y.2 hc));omega
 rw [if_neg k3,if_neg h4] at h3;unfold a2y at h3;split at h3
 ·cases h3
 ·rename_i hor;have hm:x.car∈s.tk.map (·.car):=Classical.byContradiction fun hc=>hor (.inl (p9_.2 hc));have:=m1_.2 hm;omega
theorem b3m {r:Ru} (hr:RuOK r) (c:ByteArray) : ∀ (n:Nat) (s:St) (m:List Sg),Inv r s→cnt c (a2e (l9_ r n s m).1)=cnt c (a2e s)
 | 0,_,_,_=>rfl
 | n+1,s,m,h=>by
  rw [l9_];split
  ·rfl
  ·rename_i hn;obtain ⟨k,e,hk,hp⟩:=m2_ hn;rw [e,Int.toNat_natCast];obtain ⟨h1,h2,h3⟩:=j8_ hp;have hkl:k < s.q.length:=by rw [h.len];exact hk
   obtain ⟨g1,g2,g3⟩:=hr.feedN hk h1;rw [b3m hr c n _ _ (h.up hr hkl h1 h2 h3),g9_,g9_];show cnt c (upQ s.q k (feedN r k)).flatten+_=_;rw [b1n hkl (by rw [h.len];exact g3) (by omega) h2];rfl
theorem c9p {r:Ru} {s:St} (hr:RuOK r) (hi:Inv r s) {x:Ev} (h:apE r s x=0) (c:ByteArray) : cnt c (a2e (doS r s x x.rank.toNat))≤cnt c (a2e s)+if x.kind=0∧c=x.car then 1 else 0:=by
 obtain ⟨h1,h2,h3,h5,h6⟩:=parts h;have hk:x.rank.toNat < s.q.length:=by rw [hi.len];exact h6
 generalize x.rank.toNat=k at *;rw [g9_,g9_];unfold doE at h3;unfold doS;by_cases k0:x.kind=0
 ·rw [if_pos k0];unfold a3o;simp only;rw [a6u hi.once,z5_];have g:=e6_ hk (qat s.q k++[x.car]) c;rw [g4_,e1_,j7_] at g;by_cases hc:c=x.car
  ·subst hc;rw [if_pos rfl] at g ⊢;rw [if_pos ⟨k0,rfl⟩];omega
  ·rw [if_neg (Ne.symm hc)] at g;rw [if_neg hc];omega
 rw [if_neg k0] at h3 ⊢;by_cases k1:x.kind=1
 ·rw [if_pos k1] at h3 ⊢;unfold p3_ at h3;rw [b7_] at h3;obtain ⟨t,e⟩:=n6_ h3.1;unfold a5o;simp only [List.map_append,List.map_cons,List.map_nil];have g:=e6_ hk (qat s.q k).tail c;rw [g4_,e1_,j7_];rw [e,List.tail_cons,e1_] at g;rw [e,List.tail_cons];omega
 rw [if_neg k1] at h3 ⊢;by_cases k2:x.kind=2
 ·rw [if_pos k2] at h3 ⊢;obtain ⟨t,e⟩:=n6_ h3;unfold a3c p8_;simp only;have g:=e6_ hk ((qat s.q k).tail.take (a0x r (qat s.q k).tail.length)++[x.car]++(qat s.q k).tail.drop (a0x r (qat s.q k).tail.length)) c;have g3:=g4_ c ((qat s.q k).tail.take (a0x r (qat s.q k).tail.length)) ((qat s.q k).tail.drop (a0x r (qat s.q k).tail.length));rw [List.take_append_drop] at g3;rw [g4_,g4_,e1_,j7_] at g;have g4:cnt c (qat s.q k)=cnt c (qat s.q k).tail+if x.car=c then 1 else 0:=by rw [e,List.tail_cons,e1_]
  omega
 rw [if_neg k2] at h3 ⊢;by_cases k3:x.kind=3
 ·rw [if_pos k3];unfold a5p;simp only;have g:=e6_ hk ((qat s.q k).eraseIdx (a1w (qat s.q k) x.car).toNat) c;have g2:=a3q c (qat s.q k) (a1w (qat s.q k) x.car).toNat;omega
 rw [if_neg k3] at h3 ⊢;by_cases k4:x.kind=4
 ·rw [if_pos k4] at h3 ⊢;unfold w7_ at h3;by_cases hf:(rat r.ranks k).feeder = -1
  ·rw [if_pos hf] at h3;cases h3
  ·rw [if_neg hf,b7_,b7_] at h3;have f2:=of_decide_eq_true (d2_ (by decide) h3.2.1);obtain ⟨g1,g2,g3⟩:=hr.feedN h6 hf;show cnt c (upQ s.q k (feedN r k)).flatten+_≤_;rw [b1n hk (by rw [hi.len];exact g3) (by omega) f2];show cnt c s.q.flatten+cnt c (s.tk.map (·.car))≤_;omega
 rw [if_neg k4] at h3 ⊢;unfold a2y at h3;split at h3
 ·cases h3
 ·rename_i hor;unfold b7h;simp only;rw [a2f hi.once x fun hh=>hor (.inl hh),z5_];have g:=e6_ hk ([x.car]++qat s.q k) c;rw [g4_,e1_,j7_] at g;have hm:x.car∈s.tk.map (·.car):=Classical.byContradiction fun hc=>hor (.inl (p9_.2 hc));have g2:=m1_.2 hm;by_cases hc:c=x.car
  ·subst hc;rw [if_pos rfl] at g ⊢;omega
  ·rw [if_neg (Ne.symm hc)] at g;rw [if_neg hc];omega
theorem c9q {r:Ru} {s:St} (hr:RuOK r) (hi:Inv r s) {x:Ev} (h:apE r s x=0) {c:ByteArray} (hc:c∈a2e (apU r s x).1) : c∈a2e s∨x.kind=0∧c=x.car:=by
 obtain ⟨h1,h2,h3,h5,h6⟩:=parts h;have hd:=hi.doS hr h1 h2 h5 h3;have hp:=m1_.2 hc;unfold apU at hp;rw [b3m hr c _ _ _ hd] at hp;have g:=c9p hr hi h c;change 0 < cnt c (a2e (doS r s x x.rank.toNat)) at hp;by_cases hh:x.kind=0∧c=x.car
 ·exact .inr hh
 ·rw [if_neg hh] at g;exact .inl (m1_.1 (by omega))
theorem a1j {r:Ru} {i:Nat} {x:Ev} {l:List Ev} {s:St} (h:(goP r i (x::l) s).2.2=0) : apE r s x=0∧(goP r (i+1) l (apU r s x).1).2.2=0:=by
 rw [goP] at h;by_cases ha:apE r s x=0
 ·rw [if_neg (by simp [ha])] at h;exact ⟨ha,h⟩
 ·rw [if_pos ha] at h;exact absurd h ha
theorem b3n {r:Ru} : ∀ (l:List Ev) (i:Nat) (s:St),(goP r i l s).2.2=0→∀ x∈l,evE r x=0
 | [],_,_,_,x,hx=>by simp at hx
 | y::l,i,s,h,x,hx=>by
  obtain ⟨h1,h2⟩:=a1j h;rcases List.mem_cons.1 hx with rfl|hx
  ·exact (parts h1).1
  ·exact b3n l (i+1) _ h2 x hx
theorem b7z {r:Ru} {x:Ev} (h:evE r x=0) : (x.kind=4→x.car=ByteArray.empty)∧(x.kind≠4→d8_ x.car=true):=by
 unfold evE at h;rw [b7_,b7_,b7_,b7_,b7_] at h;have e4:=d2_ (by decide) h.2.2.2.1;have e5:=d2_ (by decide) h.2.2.2.2.1;refine ⟨fun hk=>?_,fun hk=>?_⟩
 ·rw [decide_eq_true hk] at e4;simpa using e4
 ·rw [decide_eq_false hk] at e5;simpa using e5
theorem c6r:d8_ ByteArray.empty=false:=rfl
theorem b8a {r:Ru} {l:List Ev} {s:St} (h:(goP r 0 l s).2.2=0) : a3w 0 l []=p4_ 0 l:=by
 rw [b3l l 0 [] fun x hx h4=>⟨rfl,fun y hy h0 he=>?_⟩]
 ·rfl
 ·have h1:=(b7z (b3n l 0 s h x hx)).1 h4;have h2:=(b7z (b3n l 0 s h y hy)).2 (by omega);rw [he,h1,c6r] at h2;cases h2
def a1k (a:List Sy) (c:ByteArray) : Int:=(a.getD (a8i c 0 a).toNat default).came
def r2_ (log:List Ev) (a:List Sy) (x:Ev) : List Wt:=if x.kind=1 then [⟨x.car,x.rank,x.time - (c5_ log (a1k a x.car).toNat).time⟩] else []
def b5l (log:List Ev) : Nat→List Ev→List Sy→List Wt
 | _,[],_=>[]
 | i,x::l,a=>r2_ log a x++b5l log (i+1) l (a2g a i x)
def a7e (x:Ev) (c:ByteArray) : Bool:=decide (x.kind=0)&&decide (x.car=c)
def a5c (log:List Ev) (c:ByteArray) : Nat→Nat
 | 0=>0
 | k+1=>if a7e (c5_ log k) c then k else a5c log c k
def a0p (log:List Ev) : Nat→List Ev→List Wt
 | _,[]=>[]
 | i,x::l=>(if x.kind=1 then [⟨x.car,x.rank,x.time - (c5_ log (a5c log x.car (i+1))).time⟩] else [])++a0p log (i+1) l
theorem b5m {a:List Sy} {c d:ByteArray} {z:Sy} (hz:z.car=d) (h:f7_ c (a++[z])=true) : a1k (a++[z]) c=if d=c then z.came else a1k a c:=by
 unfold a1k;rw [a7c hz];by_cases hd:d=c
 ·rw [if_pos hd,if_pos hd];simp
 ·rw [if_neg hd,if_neg hd];have hc:f7_ c a=true:=by
   rw [r0_] at h;have e1:f7_ c [z]=false:=by simp [f7_,hz,hd]
   rw [e1,Bool.or_false] at h;exact h
  obtain ⟨j,e,hj,_⟩:=o5_ a 0 hc;rw [e,Int.toNat_natCast,Nat.zero_add,List.getD_eq_getElem?_getD,List.getElem?_append_left hj,List.getD_eq_getElem?_getD]
theorem b5n {a:List Sy} {c d:ByteArray} {x:Ev} {i:Nat} (h:f7_ c a=true) : a1k (h6_ d (o9_ x i) a) c=a1k a c:=by
 unfold a1k;rw [a7d (o4_ x i)];obtain ⟨j,e,hj,_⟩:=o5_ a 0 h;rw [e,Int.toNat_natCast,Nat.zero_add];by_cases hd:f7_ d a=true
 ·obtain ⟨m,_,hm,_,h3⟩:=o5_ a 0 hd;rw [h3,List.getD_eq_getElem?_getD,List.getD_eq_getElem?_getD,List.getElem?_set];split
  ·rename_i hmj;subst hmj;rw [List.getElem?_eq_getElem hm];simp only [Option.getD_some];unfold o9_;split
   ·rfl
   ·split
    ·rfl
    ·split
     ·rfl
     ·split<;>rfl
  ·rfl
 ·have hn:∀ a:List Sy,f7_ d a=false→h6_ d (o9_ x i) a=a:=fun a=>by
   induction a with
   | nil=>intro _;rfl
   | cons y a ih=>
    intro hh;rw [l5_,Bool.or_eq_false_iff] at hh;rw [h6_,hh.2,if_neg (by simp),if_neg (of_decide_eq_false hh.1)]
  rw [hn a (by simpa using hd)]
theorem b3o {pre:List Ev} {x:Ev} {l:List Ev} : c5_ (pre++x::l) pre.length=x:=by simp [c5_]
def CameOK (log:List Ev) (i:Nat) (a:List Sy) : Prop:=∀ c,f7_ c a=true→a1k a c=(a5c log c i:Int)
theorem CameOK.step {pre:List Ev} {x:Ev} {l:List Ev} {a:List Sy} (h:CameOK (pre++x::l) pre.length a) : CameOK (pre++x::l) (pre.length+1) (a2g a pre.length x):=fun c hc=>by
 rw [a5c,b3o];unfold a2g at hc ⊢;by_cases h4:x.kind=4
 ·rw [if_pos h4] at hc ⊢;rw [if_neg (by simp [a7e,h4])];exact h c hc
 ·rw [if_neg h4] at hc ⊢;by_cases h0:x.kind=0
  ·rw [if_pos h0] at hc ⊢;rw [b5m rfl hc];by_cases he:x.car=c
   ·rw [if_pos he,if_pos (by simp [a7e,h0,he])]
   ·rw [if_neg he,if_neg (by simp [a7e,he])];rw [r0_] at hc;refine h c ?_;simpa [f7_,he] using hc
  ·rw [if_neg h0] at hc ⊢;rw [r1_ (o4_ x _)] at hc;rw [b5n hc,if_neg (by simp [a7e,h0])];exact h c hc
theorem b5o {a:List Sy} {i:Nat} {x:Ev} {c:ByteArray} : f7_ c (a2g a i x)=(f7_ c a || (decide (x.kind=0)&&decide (x.car=c))):=by
 unfold a2g;by_cases h4:x.kind=4
 ·rw [if_pos h4,decide_eq_false (by omega)];simp
 ·rw [if_neg h4];by_cases h0:x.kind=0
  ·rw [if_pos h0,r0_,decide_eq_true h0];simp [f7_]
  ·rw [if_neg h0,r1_ (o4_ x i),decide_eq_false h0];simp
def Known (s:St) (a:List Sy) : Prop:=∀ c∈a2e s,f7_ c a=true
theorem Known.step {r:Ru} {s:St} (hr:RuOK r) (hi:Inv r s) {a:List Sy} (h:Known s a) {x:Ev} (ha:apE r s x=0) (i:Nat) : Known (apU r s x).1 (a2g a i x):=fun c hc=>by
 rw [b5o];rcases c9q hr hi ha hc with h1|⟨h1,rfl⟩
 ·rw [h c h1];rfl
 ·rw [decide_eq_true h1,decide_eq_true rfl];simp
theorem b3p {r:Ru} (hr:RuOK r) : ∀ (l:List Ev) (pre:List Ev) (s:St) (a:List Sy),Inv r s→Known s a→CameOK (pre++l) pre.length a→(goP r pre.length l s).2.2=0→b5l (pre++l) pre.length l a=a0p (pre++l) pre.length l
 | [],_,_,_,_,_,_,_=>rfl
 | x::l,pre,s,a,hi,hk,hc,h=>by
  obtain ⟨h1,h2⟩:=a1j h;rw [b5l,a0p];have e:pre++x::l=(pre++[x])++l:=by simp
  have hs:=b3p hr l (pre++[x]) (apU r s x).1 (a2g a pre.length x) (hi.ap hr h1).1 (hk.step hr hi h1 _) (by
   rw [←e,List.length_append];exact hc.step) (by rw [List.length_append];exact h2)
  rw [←e,List.length_append] at hs;rw [show pre.length+1=pre.length + [x].length from rfl,hs];congr 1;unfold r2_;by_cases k1:x.kind=1
  ·rw [if_pos k1,if_pos k1,hc _ (hk _ (c5d hi.len h1 (by omega) (by omega))),Int.toNat_natCast];rw [show pre.length + [x].length=pre.length+1 from rfl,a5c,b3o,if_neg (by simp [a7e,k1])]
  ·rw [if_neg k1,if_neg k1]
theorem b8b {r:Ru} (hr:RuOK r) {l:List Ev} (h:(goP r 0 l (st0 r)).2.2=0) : b5l l 0 l []=a0p l 0 l:=
 b3p hr l [] (st0 r) [] (Inv.st0 hr) (fun c hc=>by
  have h:=m1_.2 hc;rw [g9_] at h;change 0 < cnt c (List.replicate _ []).flatten+cnt c [] at h;rw [a1a,j7_] at h;omega) (fun c hc=>by cases hc) h
abbrev KV:Type:=List (Value×Value)
theorem c2r {a:ByteArray} {k:Value} (h:j9_ (.string a) k=true) : k = .string a:=by
 cases k<;>simp [j9_] at h;rw [h]
theorem a7f (a b:ByteArray) (v:Value) : ∀ m,v2_ (.string a) (a5y (.string b) v m)=if a=b then some v else v2_ (.string a) m
 | []=>by
  simp only [a5y,v2_];by_cases h:a=b<;>simp [j9_,h]
 | (k,u)::r=>by
  have ih:=a7f a b v r;simp only [a5y];by_cases hb:j9_ (.string b) k=true
  ·have:=c2r hb;subst this;rw [if_pos hb];simp only [v2_];by_cases h:a=b<;>simp [j9_,h]
  ·rw [if_neg hb];simp only [v2_];rw [ih];by_cases h:a=b
   ·subst h;simp [hb]
   ·simp [h]
def c1u (m:KV) (c:ByteArray) : Int:=match v2_ (.string c) m with|some (.int _ v)=>v|_=>0
def c6s (m:KV) (c:ByteArray) (v:Int) : KV:=a5y (.string c) (.int .i64 (c1u m c+v)) m
def NumOK (m:KV) (n:Nat) : Prop:=∀ c,v2_ (.string c) m=none∨∃ v:Int,v2_ (.string c) m=some (.int .i64 v)∧-(n:Int)≤v∧v≤n
theorem NumOK.at_ {m:KV} {n:Nat} (h:NumOK m n) (c:ByteArray) : (v2_ (.string c) m).getD (.int .i64 0) = .int .i64 (c1u m c)∧-(n:Int)≤c1u m c∧c1u m c≤n:=by
 unfold c1u;rcases h c with h1|⟨v,h1,h2,h3⟩
 ·rw [h1];exact ⟨rfl,by simp,by simp⟩
 ·rw [h1];exact ⟨rfl,h2,h3⟩
theorem NumOK.upd {m:KV} {n:Nat} (h:NumOK m n) (c:ByteArray) {v:Int} (h1 : -((n+1:Nat) : Int)≤v) (h2:v≤((n+1:Nat) : Int)) : NumOK (a5y (.string c) (.int .i64 v) m) (n+1):=fun d=>by
 rw [a7f];by_cases hd:d=c
 ·rw [if_pos hd];exact .inr ⟨v,rfl,h1,h2⟩
 ·rw [if_neg hd];rcases h d with h3|⟨u,h3,h4,h5⟩
  ·exact .inl h3
  ·exact .inr ⟨u,h3,by omega,by omega⟩
theorem NumOK.next {m:KV} {n:Nat} (h:NumOK m n) : NumOK m (n+1):=fun d=>by
 rcases h d with h3|⟨u,h3,h4,h5⟩
 ·exact .inl h3
 ·exact .inr ⟨u,h3,by omega,by omega⟩
theorem NumOK.add {m:KV} {n:Nat} (h:NumOK m n) (c:ByteArray) {v:Int} (h1 : -1≤v) (h2:v≤1) : NumOK (c6s m c v) (n+1):=by
 have:=h.at_ c;exact h.upd c (by omega) (by omega)
structure Dy where
 st:List Sy
 op:KV
 wt:List Wt
 sv:KV
def m3_ (log:List Ev) (d:Dy) (i:Nat) (x:Ev) : Dy:=
 if x.kind=4 then d
 else if x.kind=0 then ⟨d.st++[⟨x.car,i,-1,0⟩],a5y (.string x.car) (.int .i64 d.st.length) d.op,d.wt,c6s d.sv x.car 0⟩
 else ⟨h6_ x.car (o9_ x i) d.st,d.op,d.wt++r2_ log d.st x,if x.kind=1 then c6s d.sv x.car 1 else if x.kind=5 then c6s d.sv x.car (-1) else d.sv⟩
theorem a7g (log:List Ev) (d:Dy) (i:Nat) (x:Ev) : (m3_ log d i x).st=a2g d.st i x:=by
 unfold m3_ a2g;split
 ·rfl
 ·split<;>rfl
theorem a3x {c:ByteArray} {f:Sy→Sy} : ∀ {a:List Sy} {y:Sy},y∈h6_ c f a→y∈a∨∃ z∈a,y=f z
 | [],_,h=>by simp [h6_] at h
 | z::a,y,h=>by
  unfold h6_ at h;split at h
  ·rcases List.mem_cons.1 h with h|h
   ·exact .inl (List.mem_cons.2 (.inl h))
   ·rcases a3x h with h|⟨u,h,e⟩
    ·exact .inl (List.mem_cons_of_mem _ h)
    ·exact .inr ⟨u,List.mem_cons_of_mem _ h,e⟩
  ·split at h
   ·rcases List.mem_cons.1 h with h|h
    ·exact .inr ⟨z,List.mem_cons_self ..,h⟩
    ·exact .inl (List.mem_cons_of_mem _ h)
   ·exact .inl h
theorem a3y {c:ByteArray} {f:Sy→Sy} : ∀ (a:List Sy),(h6_ c f a).length=a.length
 | []=>rfl
 | z::a=>by
  unfold h6_;split
  ·simp [a3y a]
  ·split<;>rfl
structure DyOK (log:List Ev) (i:Nat) (d:Dy) : Prop where
 op:∀ c,f7_ c d.st=true→v2_ (.string c) d.op=some (.int .i64 (a8i c 0 d.st))
 st:∀ y∈d.st,0≤y.came∧y.came < i∧(0≤(c5_ log y.came.toNat).time∧(c5_ log y.came.toNat).time≤604800)∧0≤y.decl∧y.decl≤i
 sl:d.st.length≤i
 wl:d.wt.length≤i
 sv:NumOK d.sv i
theorem DyOK.zero (log:List Ev) : DyOK log 0 ⟨[],[],[],[]⟩:=
 ⟨fun c h=>by simp [f7_] at h,fun y h=>by simp at h,Nat.le_refl _,Nat.le_refl _,fun c=>.inl rfl⟩
theorem c2s {x:Ev} {i:Nat} {y:Sy} {log:List Ev} (h:0≤y.came∧y.came < i∧(0≤(c5_ log y.came.toNat).time∧(c5_ log y.came.toNat).time≤604800)∧0≤y.decl∧y.decl≤i) :
  0≤(o9_ x i y).came∧(o9_ x i y).came < ((i+1:Nat) : Int)∧(0≤(c5_ log (o9_ x i y).came.toNat).time∧(c5_ log (o9_ x i y).came.toNat).time≤604800)∧0≤(o9_ x i y).decl∧(o9_ x i y).decl≤((i+1:Nat) : Int):=by
 obtain ⟨h1,h2,h3,h4,h5⟩:=h;unfold o9_;split
 ·exact ⟨h1,by simp only;omega,h3,h4,by simp only;omega⟩
 ·split
  ·exact ⟨h1,by simp only;omega,h3,by simp only;omega,by simp only;omega⟩
  ·split
   ·exact ⟨h1,by simp only;omega,h3,h4,by simp only;omega⟩
   ·split
    ·exact ⟨h1,by simp only;omega,h3,h4,by simp only;omega⟩
    ·exact ⟨h1,by omega,h3,h4,by omega⟩
theorem b5p (log:List Ev) (a:List Sy) (x:Ev) : (r2_ log a x).length≤1:=by
 unfold r2_;split
 ·exact Nat.le_refl _
 ·exact Nat.zero_le _
theorem DyOK.step {log:List Ev} {i:Nat} {d:Dy} (h:DyOK log i d) {x:Ev} (hx:x=c5_ log i) (ht:0≤x.time∧x.time≤604800) : DyOK log (i+1) (m3_ log d i x):=by
 obtain ⟨h1,h2,h3,h4,h5⟩:=h;have hup:∀ y∈d.st,0≤y.came∧y.came < ((i+1:Nat) : Int)∧(0≤(c5_ log y.came.toNat).time∧(c5_ log y.came.toNat).time≤604800)∧0≤y.decl∧y.decl≤((i+1:Nat) : Int):=fun y hy=>by
  obtain ⟨g1,g2,g3,g4,g5⟩:=h2 y hy;exact ⟨g1,by omega,g3,g4,by omega⟩
 unfold m3_;split
 ·exact ⟨h1,hup,by omega,by omega,h5.next⟩
 ·split
  ·refine ⟨fun c hc=>?_,fun y hy=>?_,?_,by simp only;omega,h5.add _ (by decide) (by decide)⟩
   ·simp only at hc ⊢;rw [a7f,a7c (d:=x.car) rfl];by_cases h:c=x.car
    ·subst h;rw [if_pos rfl,if_pos rfl,Nat.zero_add]
    ·rw [if_neg h,if_neg (Ne.symm h)];refine h1 c ?_;rw [r0_] at hc;simpa [f7_,Ne.symm h] using hc
   ·rcases List.mem_append.1 hy with hy|hy
    ·exact hup y hy
    ·rw [List.mem_singleton.1 hy];simp only [Int.toNat_natCast];rw [←hx];exact ⟨by omega,by omega,ht,by omega,by omega⟩
   ·simp only [List.length_append,List.length_cons,List.length_nil];omega
  ·refine ⟨fun c hc=>?_,fun y hy=>?_,?_,?_,?_⟩
   ·simp only at hc ⊢;rw [r1_ (o4_ x i)] at hc;rw [a7d (o4_ x i)];exact h1 c hc
   ·rcases a3x hy with hy|⟨z,hz,rfl⟩
    ·exact hup y hy
    ·exact c2s (h2 z hz)
   ·simp only [a3y];omega
   ·have:=b5p log d.st x;simp only [List.length_append];omega
   ·simp only;split
    ·exact h5.add _ (by decide) (by decide)
    ·split
     ·exact h5.add _ (by decide) (by decide)
     ·exact h5.next
end Go.Proofs.YtoibondihdhnoaaGreatDoor
