/- Texts in one: Chapter 4: the first car that is overtaken, as the program and as the document have it; no condition. -/
import Derived.Test.YtoibondihdhnoaaDoorFRX23
import Derived.Test.YtoibondihdhnoaaDoorFRX33
namespace Go.Proofs.YtoibondihdhnoaaDoor
open Go.RowKit
def a8k (x:Sg) (R:Int) (c:ByteArray) : Bool:=decide (x.rank=R)&&decide (x.car=c)
def t0_ (L:List Sg) (R:Int) (c:ByteArray) : Nat→Int
 | 0=>-1
 | k+1=>if a8k (f1_ L k) R c then k else t0_ L R c k
def jOf (L:List Sg) (k:Nat) : Int:=t0_ L (f1_ L k).rank (f1_ L k).car k
def okI (L:List Sg) (k i:Nat) : Bool:=
 decide ((f1_ L i).kind=0)&&decide ((f1_ L i).rank=(f1_ L k).rank)&&!decide ((f1_ L i).car=(f1_ L k).car)&&decide (t0_ L (f1_ L i).rank (f1_ L i).car k=i)
def b0i (L:List Sg) (k:Nat) : Bool:=decide (0≤jOf L k)&&decide ((f1_ L (jOf L k).toNat).kind=0)
def a6e (L:List Sg) (k:Nat) : Int:=if (f1_ L k).kind=1∧b0i L k=true then ixP (okI L k) 0 (jOf L k).toNat else -1
def c6a (L:List Sg) (k:Nat) : Bool:=decide (0≤a6e L k)
def b6m (L:List Sg) : Int:=ixP (c6a L) 0 L.length
theorem b4h {x:Sg} {R:Int} {c:ByteArray} : a8k x R c=true↔x.rank=R∧x.car=c:=by simp [a8k]
theorem a0r (L:List Sg) (R:Int) (c:ByteArray) : ∀ k,(t0_ L R c k = -1∧∀ j,j < k→a8k (f1_ L j) R c=false)∨∃ j:Nat,t0_ L R c k=j∧j < k∧a8k (f1_ L j) R c=true∧∀ n,j < n→n < k→a8k (f1_ L n) R c=false
 | 0=>.inl ⟨rfl,fun j hj=>by omega⟩
 | k+1=>by
  rw [t0_];by_cases h:a8k (f1_ L k) R c=true
  ·rw [if_pos h];exact .inr ⟨k,rfl,by omega,h,fun n h1 h2=>by omega⟩
  ·rw [if_neg h];have hf:a8k (f1_ L k) R c=false:=by simpa using h
   rcases a0r L R c k with ⟨h1,h2⟩|⟨j,h1,h2,h3,h4⟩
   ·refine .inl ⟨h1,fun j hj=>?_⟩;by_cases he:j=k
    ·rw [he];exact hf
    ·exact h2 j (by omega)
   ·refine .inr ⟨j,h1,by omega,h3,fun n hn hl=>?_⟩;by_cases he:n=k
    ·rw [he];exact hf
    ·exact h4 n hn (by omega)
theorem b9r {L:List Sg} {k:Nat} (h:0≤jOf L k) : ∃ j:Nat,jOf L k=j∧j < k:=by
 unfold jOf at h ⊢;rcases a0r L (f1_ L k).rank (f1_ L k).car k with ⟨h1,_⟩|⟨j,h1,h2,_⟩
 ·omega
 ·exact ⟨j,h1,h2⟩
structure Sy where
 car:ByteArray
 came:Int
 went:Int
 decl:Int
instance:Inhabited Sy:=⟨⟨ByteArray.empty,0,0,0⟩⟩
@[go_sem] def Sy.av (x:Sy) : List AV:=[S x.car,I x.came,I x.went,I x.decl]
structure Wt where
 car:ByteArray
 rank:Int
 waited:Int
instance:Inhabited Wt:=⟨⟨ByteArray.empty,0,0⟩⟩
@[go_sem] def Wt.av (x:Wt) : List AV:=[S x.car,I x.rank,I x.waited]
def k4_ (x:Ev) (i:Nat) (y:Sy) : Sy:=
 if x.kind=1 then ⟨y.car,y.came,i,y.decl⟩ else if x.kind=2 then ⟨y.car,y.came,y.went,y.decl+1⟩ else if x.kind=3 then ⟨y.car,y.came,i,y.decl⟩ else if x.kind=5 then ⟨y.car,y.came,-1,y.decl⟩ else y
def h2_ (c:ByteArray) (a:List Sy) : Bool:=a.any fun y=>decide (y.car=c)
def h4_ (c:ByteArray) (f:Sy→Sy) : List Sy→List Sy
 | []=>[]
 | y::a=>if h2_ c a then y::h4_ c f a else if y.car=c then f y::a else y::a
def u3_ (a:List Sy) (i:Nat) (x:Ev) : List Sy:=
 if x.kind=4 then a else if x.kind=0 then a++[⟨x.car,i,-1,0⟩] else h4_ x.car (k4_ x i) a
def a1a:Nat→List Ev→List Sy→List Sy
 | _,[],a=>a
 | i,x::l,a=>a1a (i+1) l (u3_ a i x)
def c2h (c:ByteArray) : Nat→List Ev→Sy→Sy
 | _,[],y=>y
 | k,x::l,y=>if x.car≠c then c2h c (k+1) l y else if x.kind=0 then y else c2h c (k+1) l (k4_ x k y)
def f2_:Nat→List Ev→List Sy
 | _,[]=>[]
 | i,x::l=>if x.kind≠0 then f2_ (i+1) l else c2h x.car (i+1) l ⟨x.car,i,-1,0⟩::f2_ (i+1) l
def a6f (i:Nat) (l:List Ev) : List Sy→List Sy
 | []=>[]
 | y::a=>(if h2_ y.car a then y else c2h y.car i l y)::a6f i l a
theorem o2_ (x:Ev) (i:Nat) (y:Sy) : (k4_ x i y).car=y.car:=by
 unfold k4_;split
 ·rfl
 ·split
  ·rfl
  ·split
   ·rfl
   ·split<;>rfl
theorem b9s {c:ByteArray} {a:List Sy} : h2_ c a=true↔∃ y∈a,y.car=c:=by simp [h2_]
theorem n5_ {c:ByteArray} {y:Sy} {a:List Sy} : h2_ c (y::a)=(decide (y.car=c) || h2_ c a):=rfl
theorem s1_ {c:ByteArray} {a b:List Sy} : h2_ c (a++b)=(h2_ c a || h2_ c b):=List.any_append
theorem s2_ {c d:ByteArray} {f:Sy→Sy} (hf:∀ y,(f y).car=y.car) : ∀ a:List Sy,h2_ d (h4_ c f a)=h2_ d a
 | []=>rfl
 | y::a=>by
  rw [h4_];split
  ·rw [n5_,n5_,s2_ hf a]
  ·split
   ·rw [n5_,n5_,hf]
   ·rfl
theorem b4i:∀ (i:Nat) (a:List Sy),a6f i [] a=a
 | _,[]=>rfl
 | i,y::a=>by
  rw [a6f,b4i i a,c2h];split<;>rfl
theorem a2i {i:Nat} {x:Ev} {l:List Ev} : ∀ (a:List Sy),h2_ x.car a=false→a6f i (x::l) a=a6f (i+1) l a
 | [],_=>rfl
 | y::a,h=>by
  rw [n5_,Bool.or_eq_false_iff] at h;have hy:=of_decide_eq_false h.1;rw [a6f,a6f,a2i a h.2,c2h,if_pos (Ne.symm hy)]
theorem b4j {i:Nat} {x:Ev} {l:List Ev} (hx:x.kind=0) (z:Sy) (hz:z.car=x.car) : ∀ (a:List Sy),a6f (i+1) l (a++[z])=a6f i (x::l) a++[c2h x.car (i+1) l z]
 | []=>by
  rw [List.nil_append,a6f,a6f,a6f,if_neg (by simp [h2_]),hz];rfl
 | y::a=>by
  rw [List.cons_append,a6f,a6f,b4j hx z hz a,s1_];have e1:h2_ y.car [z]=decide (x.car=y.car):=by simp [h2_,hz]
  rw [e1];cases hh:h2_ y.car a
  ·rw [Bool.false_or,c2h];by_cases hc:x.car=y.car
   ·rw [if_pos (by simp [hc]),if_neg (by simp),if_neg (by simp [hc]),if_pos hx];rfl
   ·rw [if_neg (by simp [hc]),if_neg (by simp),if_pos hc];rfl
  ·rw [Bool.true_or,if_pos rfl,if_pos rfl];rfl
theorem b4k {i:Nat} {x:Ev} {l:List Ev} (hx:x.kind≠0) : ∀ (a:List Sy),a6f (i+1) l (h4_ x.car (k4_ x i) a)=a6f i (x::l) a
 | []=>rfl
 | y::a=>by
  rw [h4_];cases hh:h2_ x.car a
  ·rw [if_neg (by simp)];by_cases hc:y.car=x.car
   ·rw [if_pos hc,a6f,a6f,a2i a hh,o2_,hc,hh,if_neg (by simp),if_neg (by simp),c2h,if_neg (by simp),if_neg hx]
   ·rw [if_neg hc,←a2i (y::a) (by rw [n5_,hh,decide_eq_false hc];rfl)]
  ·rw [if_pos rfl,a6f,a6f,b4k hx a,s2_ (o2_ x i)];cases h2:h2_ y.car a
   ·rw [if_neg (by simp),if_neg (by simp),c2h,if_pos];intro he;rw [he,h2] at hh;cases hh
   ·rw [if_pos rfl,if_pos rfl]
theorem b4l:∀ (l:List Ev) (i:Nat) (a:List Sy),(∀ x∈l,x.kind=4→h2_ x.car a=false∧∀ y∈l,y.kind=0→y.car≠x.car)→a1a i l a=a6f i l a++f2_ i l
 | [],i,a,_=>by rw [a1a,b4i,f2_,List.append_nil]
 | x::l,i,a,h=>by
  rw [a1a,f2_];have hrest:∀ z∈l,z.kind=4→h2_ z.car (u3_ a i x)=false∧∀ y∈l,y.kind=0→y.car≠z.car:=fun z hz h4=>by
   obtain ⟨h1,h2⟩:=h z (List.mem_cons_of_mem _ hz) h4;refine ⟨?_,fun y hy=>h2 y (List.mem_cons_of_mem _ hy)⟩;unfold u3_;split
   ·exact h1
   ·split
    ·rename_i h0;rw [s1_,h1];have:=h2 x (by simp) h0;simp [h2_,this]
    ·rw [s2_ (o2_ x i),h1]
  rw [b4l l (i+1) _ hrest];unfold u3_;by_cases h4:x.kind=4
  ·rw [if_pos h4,if_pos (by omega),a2i a (h x (by simp) h4).1]
  ·rw [if_neg h4];by_cases h0:x.kind=0
   ·rw [if_pos h0,if_neg (by omega),b4j h0 _ rfl,List.append_assoc];rfl
   ·rw [if_neg h0,if_pos h0,b4k h0]
def a4f (c:ByteArray) : Nat→List Sy→Int
 | _,[]=>-1
 | k,y::a=>if h2_ c a then a4f c (k+1) a else if y.car=c then k else -1
theorem o3_ {c:ByteArray} : ∀ (a:List Sy) (k:Nat),h2_ c a=true→∃ j:Nat,a4f c k a=((k+j:Nat) : Int)∧∃ hj:j < a.length,(a[j]).car=c∧∀ f,h4_ c f a=a.set j (f a[j])
 | [],_,h=>by simp [h2_] at h
 | y::a,k,h=>by
  rw [a4f];cases hh:h2_ c a
  ·rw [n5_,hh,Bool.or_false,decide_eq_true_eq] at h;rw [if_neg (by simp),if_pos h];refine ⟨0,by simp,by simp,by simpa using h,fun f=>?_⟩;rw [h4_,hh,if_neg (by simp),if_pos h];rfl
  ·rw [if_pos rfl];obtain ⟨j,h1,hj,h2,h3⟩:=o3_ a (k+1) hh;refine ⟨j+1,by rw [h1];congr 1;omega,by simpa using hj,by simpa using h2,fun f=>?_⟩;rw [h4_,hh,if_pos rfl,h3 f];rfl
theorem a2j {c d:ByteArray} {z:Sy} (hz:z.car=d) : ∀ (a:List Sy) (k:Nat),a4f c k (a++[z])=if d=c then ((k+a.length:Nat) : Int) else a4f c k a
 | [],k=>by
  rw [List.nil_append,a4f,a4f,a4f,if_neg (by simp [h2_]),hz];rfl
 | y::a,k=>by
  rw [List.cons_append,a4f,a2j hz a (k+1),s1_];have e1:h2_ c [z]=decide (d=c):=by simp [h2_,hz]
  rw [e1,a4f];by_cases hd:d=c
  ·rw [if_pos hd,if_pos hd,decide_eq_true hd,Bool.or_true,if_pos rfl];congr 1;simp;omega
  ·rw [if_neg hd,if_neg hd,decide_eq_false hd,Bool.or_false]
theorem a4g {c d:ByteArray} {f:Sy→Sy} (hf:∀ y,(f y).car=y.car) : ∀ (a:List Sy) (k:Nat),a4f d k (h4_ c f a)=a4f d k a
 | [],_=>rfl
 | y::a,k=>by
  rw [h4_];split
  ·rw [a4f,a4f,s2_ hf,a4g hf a]
  ·split
   ·rw [a4f,a4f,hf]
   ·rfl
theorem b9t {c:ByteArray} {s:St} : c∈a2w s↔0 < cnt c s.q.flatten+cnt c (s.tk.map (·.car)):=by rw [←h9_,e9_]
theorem u4_ {q:List (List ByteArray)} {k:Nat} (hk:k < q.length) {c:ByteArray} (h:c∈qat q k) : 0 < cnt c q.flatten:=by
 refine e9_.2 (List.mem_flatten.2 ⟨qat q k,?_,h⟩);rw [f3_ hk];exact List.getElem_mem hk
theorem parts {r:Ru} {s:St} {x:Ev} (h:apE r s x=0) : evE r x=0∧s.time≤x.time∧doE r s x x.rank.toNat=0∧x.rank=(x.rank.toNat:Int)∧x.rank.toNat < r.ranks.length:=by
 unfold apE at h;rw [b2_,b2_,b2_] at h;obtain ⟨h1,h2,h3,_⟩:=h;have:=b6a h1;exact ⟨h1,of_decide_eq_true (c7_ (by decide) h2),h3,by omega,by omega⟩
theorem d0z {r:Ru} {s:St} (hl:s.q.length=r.ranks.length) {x:Ev} (h:apE r s x=0) (h0:x.kind≠0) (h4:x.kind≠4) : x.car∈a2w s:=by
 obtain ⟨h1,h2,h3,h5,h6⟩:=parts h;have hk:x.rank.toNat < s.q.length:=by omega
 have hkd:=b5z h1;rw [b9t];unfold doE at h3;rw [if_neg h0] at h3;by_cases k1:x.kind=1
 ·rw [if_pos k1] at h3;unfold o0_ at h3;rw [b2_] at h3;obtain ⟨t,e⟩:=l6_ h3.1;have:=u4_ hk (c:=x.car) (by rw [e];simp);omega
 rw [if_neg k1] at h3;by_cases k2:x.kind=2
 ·rw [if_pos k2] at h3;obtain ⟨t,e⟩:=l6_ h3;have:=u4_ hk (c:=x.car) (by rw [e];simp);omega
 rw [if_neg k2] at h3;by_cases k3:x.kind=3
 ·rw [if_pos k3] at h3;unfold a3s at h3;have hn:¬a1q (qat s.q x.rank.toNat) x.car < 0:=fun hh=>by
   rw [if_pos hh] at h3;cases h3
  have:=u4_ hk (Classical.byContradiction fun hc=>hn (a0k.2 hc));omega
 rw [if_neg k3,if_neg h4] at h3;unfold a3z at h3;split at h3
 ·cases h3
 ·rename_i hor;have hm:x.car∈s.tk.map (·.car):=Classical.byContradiction fun hc=>hor (.inl (r4_.2 hc));have:=e9_.2 hm;omega
theorem a8l {r:Ru} (hr:RuOK r) (c:ByteArray) : ∀ (n:Nat) (s:St) (m:List Sg),Inv r s→cnt c (a2w (n2_ r n s m).1)=cnt c (a2w s)
 | 0,_,_,_=>rfl
 | n+1,s,m,h=>by
  rw [n2_];split
  ·rfl
  ·rename_i hn;obtain ⟨k,e,hk,hp⟩:=l7_ hn;rw [e,Int.toNat_natCast];obtain ⟨h1,h2,h3⟩:=j1_ hp;have hkl:k < s.q.length:=by rw [h.len];exact hk
   obtain ⟨g1,g2,g3⟩:=hr.feedN hk h1;rw [a8l hr c n _ _ (h.up hr hkl h1 h2 h3),h9_,h9_];show cnt c (upQ s.q k (feedN r k)).flatten+_=_;rw [a7y hkl (by rw [h.len];exact g3) (by omega) h2];rfl
theorem d1a {r:Ru} {s:St} (hr:RuOK r) (hi:Inv r s) {x:Ev} (h:apE r s x=0) (c:ByteArray) : cnt c (a2w (doS r s x x.rank.toNat))≤cnt c (a2w s)+if x.kind=0∧c=x.car then 1 else 0:=by
 obtain ⟨h1,h2,h3,h5,h6⟩:=parts h;have hk:x.rank.toNat < s.q.length:=by rw [hi.len];exact h6
 generalize x.rank.toNat=k at *;rw [h9_,h9_];unfold doE at h3;unfold doS;by_cases k0:x.kind=0
 ·rw [if_pos k0];unfold a3b;simp only;rw [a7w hi.once,a0l];have g:=e0_ hk (qat s.q k++[x.car]) c;rw [h1_,e4_,j0_] at g;by_cases hc:c=x.car
  ·subst hc;rw [if_pos rfl] at g ⊢;rw [if_pos ⟨k0,rfl⟩];omega
  ·rw [if_neg (Ne.symm hc)] at g;rw [if_neg hc];omega
 rw [if_neg k0] at h3 ⊢;by_cases k1:x.kind=1
 ·rw [if_pos k1] at h3 ⊢;unfold o0_ at h3;rw [b2_] at h3;obtain ⟨t,e⟩:=l6_ h3.1;unfold a3r;simp only [List.map_append,List.map_cons,List.map_nil];have g:=e0_ hk (qat s.q k).tail c;rw [h1_,e4_,j0_];rw [e,List.tail_cons,e4_] at g;rw [e,List.tail_cons];omega
 rw [if_neg k1] at h3 ⊢;by_cases k2:x.kind=2
 ·rw [if_pos k2] at h3 ⊢;obtain ⟨t,e⟩:=l6_ h3;unfold a0j l5_;simp only;have g:=e0_ hk ((qat s.q k).tail.take (a1f r (qat s.q k).tail.length)++[x.car]++(qat s.q k).tail.drop (a1f r (qat s.q k).tail.length)) c;have g3:=h1_ c ((qat s.q k).tail.take (a1f r (qat s.q k).tail.length)) ((qat s.q k).tail.drop (a1f r (qat s.q k).tail.length));rw [List.take_append_drop] at g3;rw [h1_,h1_,e4_,j0_] at g;have g4:cnt c (qat s.q k)=cnt c (qat s.q k).tail+if x.car=c then 1 else 0:=by rw [e,List.tail_cons,e4_]
  omega
 rw [if_neg k2] at h3 ⊢;by_cases k3:x.kind=3
 ·rw [if_pos k3];unfold a3t;simp only;have g:=e0_ hk ((qat s.q k).eraseIdx (a1q (qat s.q k) x.car).toNat) c;have g2:=a4u c (qat s.q k) (a1q (qat s.q k) x.car).toNat;omega
 rw [if_neg k3] at h3 ⊢;by_cases k4:x.kind=4
 ·rw [if_pos k4] at h3 ⊢;unfold w4_ at h3;by_cases hf:(rat r.ranks k).feeder = -1
  ·rw [if_pos hf] at h3;cases h3
  ·rw [if_neg hf,b2_,b2_] at h3;have f2:=of_decide_eq_true (c7_ (by decide) h3.2.1);obtain ⟨g1,g2,g3⟩:=hr.feedN h6 hf;show cnt c (upQ s.q k (feedN r k)).flatten+_≤_;rw [a7y hk (by rw [hi.len];exact g3) (by omega) f2];show cnt c s.q.flatten+cnt c (s.tk.map (·.car))≤_;omega
 rw [if_neg k4] at h3 ⊢;unfold a3z at h3;split at h3
 ·cases h3
 ·rename_i hor;unfold b5x;simp only;rw [a3d hi.once x fun hh=>hor (.inl hh),a0l];have g:=e0_ hk ([x.car]++qat s.q k) c;rw [h1_,e4_,j0_] at g;have hm:x.car∈s.tk.map (·.car):=Classical.byContradiction fun hc=>hor (.inl (r4_.2 hc));have g2:=e9_.2 hm;by_cases hc:c=x.car
  ·subst hc;rw [if_pos rfl] at g ⊢;omega
  ·rw [if_neg (Ne.symm hc)] at g;rw [if_neg hc];omega
theorem d1b {r:Ru} {s:St} (hr:RuOK r) (hi:Inv r s) {x:Ev} (h:apE r s x=0) {c:ByteArray} (hc:c∈a2w (apU r s x).1) : c∈a2w s∨x.kind=0∧c=x.car:=by
 obtain ⟨h1,h2,h3,h5,h6⟩:=parts h;have hd:=hi.doS hr h1 h2 h5 h3;have hp:=e9_.2 hc;unfold apU at hp;rw [a8l hr c _ _ _ hd] at hp;have g:=d1a hr hi h c;change 0 < cnt c (a2w (doS r s x x.rank.toNat)) at hp;by_cases hh:x.kind=0∧c=x.car
 ·exact .inr hh
 ·rw [if_neg hh] at g;exact .inl (e9_.1 (by omega))
theorem a4h {r:Ru} {i:Nat} {x:Ev} {l:List Ev} {s:St} (h:(goP r i (x::l) s).2.2=0) : apE r s x=0∧(goP r (i+1) l (apU r s x).1).2.2=0:=by
 rw [goP] at h;by_cases ha:apE r s x=0
 ·rw [if_neg (by simp [ha])] at h;exact ⟨ha,h⟩
 ·rw [if_pos ha] at h;exact absurd h ha
theorem b4m {r:Ru} : ∀ (l:List Ev) (i:Nat) (s:St),(goP r i l s).2.2=0→∀ x∈l,evE r x=0
 | [],_,_,_,x,hx=>by simp at hx
 | y::l,i,s,h,x,hx=>by
  obtain ⟨h1,h2⟩:=a4h h;rcases List.mem_cons.1 hx with rfl|hx
  ·exact (parts h1).1
  ·exact b4m l (i+1) _ h2 x hx
theorem b2j {r:Ru} {x:Ev} (h:evE r x=0) : (x.kind=4→x.car=ByteArray.empty)∧(x.kind≠4→c8_ x.car=true):=by
 unfold evE at h;rw [b2_,b2_,b2_,b2_,b2_] at h;have e4:=c7_ (by decide) h.2.2.2.1;have e5:=c7_ (by decide) h.2.2.2.2.1;refine ⟨fun hk=>?_,fun hk=>?_⟩
 ·rw [decide_eq_true hk] at e4;simpa using e4
 ·rw [decide_eq_false hk] at e5;simpa using e5
theorem c7r:c8_ ByteArray.empty=false:=rfl
theorem a5h {r:Ru} {l:List Ev} {s:St} (h:(goP r 0 l s).2.2=0) : a1a 0 l []=f2_ 0 l:=by
 rw [b4l l 0 [] fun x hx h4=>⟨rfl,fun y hy h0 he=>?_⟩]
 ·rfl
 ·have h1:=(b2j (b4m l 0 s h x hx)).1 h4;have h2:=(b2j (b4m l 0 s h y hy)).2 (by omega);rw [he,h1,c7r] at h2;cases h2
def a2k (a:List Sy) (c:ByteArray) : Int:=(a.getD (a4f c 0 a).toNat default).came
def z4_ (log:List Ev) (a:List Sy) (x:Ev) : List Wt:=if x.kind=1 then [⟨x.car,x.rank,x.time - (e6_ log (a2k a x.car).toNat).time⟩] else []
def b9u (x:Ev) (c:ByteArray) : Bool:=decide (x.kind=0)&&decide (x.car=c)
def c7s (log:List Ev) (c:ByteArray) : Nat→Nat
 | 0=>0
 | k+1=>if b9u (e6_ log k) c then k else c7s log c k
theorem b6n {a:List Sy} {c d:ByteArray} {z:Sy} (hz:z.car=d) (h:h2_ c (a++[z])=true) : a2k (a++[z]) c=if d=c then z.came else a2k a c:=by
 unfold a2k;rw [a2j hz];by_cases hd:d=c
 ·rw [if_pos hd,if_pos hd];simp
 ·rw [if_neg hd,if_neg hd];have hc:h2_ c a=true:=by
   rw [s1_] at h;have e1:h2_ c [z]=false:=by simp [h2_,hz,hd]
   rw [e1,Bool.or_false] at h;exact h
  obtain ⟨j,e,hj,_⟩:=o3_ a 0 hc;rw [e,Int.toNat_natCast,Nat.zero_add,List.getD_eq_getElem?_getD,List.getElem?_append_left hj,List.getD_eq_getElem?_getD]
theorem b6o {a:List Sy} {c d:ByteArray} {x:Ev} {i:Nat} (h:h2_ c a=true) : a2k (h4_ d (k4_ x i) a) c=a2k a c:=by
 unfold a2k;rw [a4g (o2_ x i)];obtain ⟨j,e,hj,_⟩:=o3_ a 0 h;rw [e,Int.toNat_natCast,Nat.zero_add];by_cases hd:h2_ d a=true
 ·obtain ⟨m,_,hm,_,h3⟩:=o3_ a 0 hd;rw [h3,List.getD_eq_getElem?_getD,List.getD_eq_getElem?_getD,List.getElem?_set];split
  ·rename_i hmj;subst hmj;rw [List.getElem?_eq_getElem hm];simp only [Option.getD_some];unfold k4_;split
   ·rfl
   ·split
    ·rfl
    ·split
     ·rfl
     ·split<;>rfl
  ·rfl
 ·have hn:∀ a:List Sy,h2_ d a=false→h4_ d (k4_ x i) a=a:=fun a=>by
   induction a with
   | nil=>intro _;rfl
   | cons y a ih=>
    intro hh;rw [n5_,Bool.or_eq_false_iff] at hh;rw [h4_,hh.2,if_neg (by simp),if_neg (of_decide_eq_false hh.1)]
  rw [hn a (by simpa using hd)]
theorem b4n {pre:List Ev} {x:Ev} {l:List Ev} : e6_ (pre++x::l) pre.length=x:=by simp [e6_]
def CameOK (log:List Ev) (i:Nat) (a:List Sy) : Prop:=∀ c,h2_ c a=true→a2k a c=(c7s log c i:Int)
theorem CameOK.step {pre:List Ev} {x:Ev} {l:List Ev} {a:List Sy} (h:CameOK (pre++x::l) pre.length a) : CameOK (pre++x::l) (pre.length+1) (u3_ a pre.length x):=fun c hc=>by
 rw [c7s,b4n];unfold u3_ at hc ⊢;by_cases h4:x.kind=4
 ·rw [if_pos h4] at hc ⊢;rw [if_neg (by simp [b9u,h4])];exact h c hc
 ·rw [if_neg h4] at hc ⊢;by_cases h0:x.kind=0
  ·rw [if_pos h0] at hc ⊢;rw [b6n rfl hc];by_cases he:x.car=c
   ·rw [if_pos he,if_pos (by simp [b9u,h0,he])]
   ·rw [if_neg he,if_neg (by simp [b9u,he])];rw [s1_] at hc;refine h c ?_;simpa [h2_,he] using hc
  ·rw [if_neg h0] at hc ⊢;rw [s2_ (o2_ x _)] at hc;rw [b6o hc,if_neg (by simp [b9u,h0])];exact h c hc
theorem b6p {a:List Sy} {i:Nat} {x:Ev} {c:ByteArray} : h2_ c (u3_ a i x)=(h2_ c a || (decide (x.kind=0)&&decide (x.car=c))):=by
 unfold u3_;by_cases h4:x.kind=4
 ·rw [if_pos h4,decide_eq_false (by omega)];simp
 ·rw [if_neg h4];by_cases h0:x.kind=0
  ·rw [if_pos h0,s1_,decide_eq_true h0];simp [h2_]
  ·rw [if_neg h0,s2_ (o2_ x i),decide_eq_false h0];simp
def Known (s:St) (a:List Sy) : Prop:=∀ c∈a2w s,h2_ c a=true
theorem Known.step {r:Ru} {s:St} (hr:RuOK r) (hi:Inv r s) {a:List Sy} (h:Known s a) {x:Ev} (ha:apE r s x=0) (i:Nat) : Known (apU r s x).1 (u3_ a i x):=fun c hc=>by
 rw [b6p];rcases d1b hr hi ha hc with h1|⟨h1,rfl⟩
 ·rw [h c h1];rfl
 ·rw [decide_eq_true h1,decide_eq_true rfl];simp
abbrev KV:Type:=List (Value×Value)
theorem c4a {a:ByteArray} {k:Value} (h:l3_ (.string a) k=true) : k = .string a:=by
 cases k<;>simp [l3_] at h;rw [h]
theorem a4i (a b:ByteArray) (v:Value) : ∀ m,s9_ (.string a) (a6c (.string b) v m)=if a=b then some v else s9_ (.string a) m
 | []=>by
  simp only [a6c,s9_];by_cases h:a=b<;>simp [l3_,h]
 | (k,u)::r=>by
  have ih:=a4i a b v r;simp only [a6c];by_cases hb:l3_ (.string b) k=true
  ·have:=c4a hb;subst this;rw [if_pos hb];simp only [s9_];by_cases h:a=b<;>simp [l3_,h]
  ·rw [if_neg hb];simp only [s9_];rw [ih];by_cases h:a=b
   ·subst h;simp [hb]
   ·simp [h]
def c2i (m:KV) (c:ByteArray) : Int:=match s9_ (.string c) m with|some (.int _ v)=>v|_=>0
def c7t (m:KV) (c:ByteArray) (v:Int) : KV:=a6c (.string c) (.int .i64 (c2i m c+v)) m
def NumOK (m:KV) (n:Nat) : Prop:=∀ c,s9_ (.string c) m=none∨∃ v:Int,s9_ (.string c) m=some (.int .i64 v)∧-(n:Int)≤v∧v≤n
theorem NumOK.at_ {m:KV} {n:Nat} (h:NumOK m n) (c:ByteArray) : (s9_ (.string c) m).getD (.int .i64 0) = .int .i64 (c2i m c)∧-(n:Int)≤c2i m c∧c2i m c≤n:=by
 unfold c2i;rcases h c with h1|⟨v,h1,h2,h3⟩
 ·rw [h1];exact ⟨rfl,by simp,by simp⟩
 ·rw [h1];exact ⟨rfl,h2,h3⟩
theorem NumOK.upd {m:KV} {n:Nat} (h:NumOK m n) (c:ByteArray) {v:Int} (h1 : -((n+1:Nat) : Int)≤v) (h2:v≤((n+1:Nat) : Int)) : NumOK (a6c (.string c) (.int .i64 v) m) (n+1):=fun d=>by
 rw [a4i];by_cases hd:d=c
 ·rw [if_pos hd];exact .inr ⟨v,rfl,h1,h2⟩
 ·rw [if_neg hd];rcases h d with h3|⟨u,h3,h4,h5⟩
  ·exact .inl h3
  ·exact .inr ⟨u,h3,by omega,by omega⟩
theorem NumOK.next {m:KV} {n:Nat} (h:NumOK m n) : NumOK m (n+1):=fun d=>by
 rcases h d with h3|⟨u,h3,h4,h5⟩
 ·exact .inl h3
 ·exact .inr ⟨u,h3,by omega,by omega⟩
theorem NumOK.add {m:KV} {n:Nat} (h:NumOK m n) (c:ByteArray) {v:Int} (h1 : -1≤v) (h2:v≤1) : NumOK (c7t m c v) (n+1):=by
 have:=h.at_ c;exact h.upd c (by omega) (by omega)
structure Dy where
 st:List Sy
 op:KV
 wt:List Wt
 sv:KV
def o9_ (log:List Ev) (d:Dy) (i:Nat) (x:Ev) : Dy:=
 if x.kind=4 then d
 else if x.kind=0 then ⟨d.st++[⟨x.car,i,-1,0⟩],a6c (.string x.car) (.int .i64 d.st.length) d.op,d.wt,c7t d.sv x.car 0⟩
 else ⟨h4_ x.car (k4_ x i) d.st,d.op,d.wt++z4_ log d.st x,if x.kind=1 then c7t d.sv x.car 1 else if x.kind=5 then c7t d.sv x.car (-1) else d.sv⟩
theorem b4o (log:List Ev) (d:Dy) (i:Nat) (x:Ev) : (o9_ log d i x).st=u3_ d.st i x:=by
 unfold o9_ u3_;split
 ·rfl
 ·split<;>rfl
theorem a1j {c:ByteArray} {f:Sy→Sy} : ∀ {a:List Sy} {y:Sy},y∈h4_ c f a→y∈a∨∃ z∈a,y=f z
 | [],_,h=>by simp [h4_] at h
 | z::a,y,h=>by
  unfold h4_ at h;split at h
  ·rcases List.mem_cons.1 h with h|h
   ·exact .inl (List.mem_cons.2 (.inl h))
   ·rcases a1j h with h|⟨u,h,e⟩
    ·exact .inl (List.mem_cons_of_mem _ h)
    ·exact .inr ⟨u,List.mem_cons_of_mem _ h,e⟩
  ·split at h
   ·rcases List.mem_cons.1 h with h|h
    ·exact .inr ⟨z,List.mem_cons_self ..,h⟩
    ·exact .inl (List.mem_cons_of_mem _ h)
   ·exact .inl h
theorem a5i {c:ByteArray} {f:Sy→Sy} : ∀ (a:List Sy),(h4_ c f a).length=a.length
 | []=>rfl
 | z::a=>by
  unfold h4_;split
  ·simp [a5i a]
  ·split<;>rfl
structure DyOK (log:List Ev) (i:Nat) (d:Dy) : Prop where
 op:∀ c,h2_ c d.st=true→s9_ (.string c) d.op=some (.int .i64 (a4f c 0 d.st))
 st:∀ y∈d.st,0≤y.came∧y.came < i∧(0≤(e6_ log y.came.toNat).time∧(e6_ log y.came.toNat).time≤604800)∧0≤y.decl∧y.decl≤i
 sl:d.st.length≤i
 wl:d.wt.length≤i
 sv:NumOK d.sv i
theorem DyOK.zero (log:List Ev) : DyOK log 0 ⟨[],[],[],[]⟩:=
 ⟨fun c h=>by simp [h2_] at h,fun y h=>by simp at h,Nat.le_refl _,Nat.le_refl _,fun c=>.inl rfl⟩
theorem c4b {x:Ev} {i:Nat} {y:Sy} {log:List Ev} (h:0≤y.came∧y.came < i∧(0≤(e6_ log y.came.toNat).time∧(e6_ log y.came.toNat).time≤604800)∧0≤y.decl∧y.decl≤i) :
  0≤(k4_ x i y).came∧(k4_ x i y).came < ((i+1:Nat) : Int)∧(0≤(e6_ log (k4_ x i y).came.toNat).time∧(e6_ log (k4_ x i y).came.toNat).time≤604800)∧0≤(k4_ x i y).decl∧(k4_ x i y).decl≤((i+1:Nat) : Int):=by
 obtain ⟨h1,h2,h3,h4,h5⟩:=h;unfold k4_;split
 ·exact ⟨h1,by simp only;omega,h3,h4,by simp only;omega⟩
 ·split
  ·exact ⟨h1,by simp only;omega,h3,by simp only;omega,by simp only;omega⟩
  ·split
   ·exact ⟨h1,by simp only;omega,h3,h4,by simp only;omega⟩
   ·split
    ·exact ⟨h1,by simp only;omega,h3,h4,by simp only;omega⟩
    ·exact ⟨h1,by omega,h3,h4,by omega⟩
theorem b6q (log:List Ev) (a:List Sy) (x:Ev) : (z4_ log a x).length≤1:=by
 unfold z4_;split
 ·exact Nat.le_refl _
 ·exact Nat.zero_le _
theorem DyOK.step {log:List Ev} {i:Nat} {d:Dy} (h:DyOK log i d) {x:Ev} (hx:x=e6_ log i) (ht:0≤x.time∧x.time≤604800) : DyOK log (i+1) (o9_ log d i x):=by
 obtain ⟨h1,h2,h3,h4,h5⟩:=h;have hup:∀ y∈d.st,0≤y.came∧y.came < ((i+1:Nat) : Int)∧(0≤(e6_ log y.came.toNat).time∧(e6_ log y.came.toNat).time≤604800)∧0≤y.decl∧y.decl≤((i+1:Nat) : Int):=fun y hy=>by
  obtain ⟨g1,g2,g3,g4,g5⟩:=h2 y hy;exact ⟨g1,by omega,g3,g4,by omega⟩
 unfold o9_;split
 ·exact ⟨h1,hup,by omega,by omega,h5.next⟩
 ·split
  ·refine ⟨fun c hc=>?_,fun y hy=>?_,?_,by simp only;omega,h5.add _ (by decide) (by decide)⟩
   ·simp only at hc ⊢;rw [a4i,a2j (d:=x.car) rfl];by_cases h:c=x.car
    ·subst h;rw [if_pos rfl,if_pos rfl,Nat.zero_add]
    ·rw [if_neg h,if_neg (Ne.symm h)];refine h1 c ?_;rw [s1_] at hc;simpa [h2_,Ne.symm h] using hc
   ·rcases List.mem_append.1 hy with hy|hy
    ·exact hup y hy
    ·rw [List.mem_singleton.1 hy];simp only [Int.toNat_natCast];rw [←hx];exact ⟨by omega,by omega,ht,by omega,by omega⟩
   ·simp only [List.length_append,List.length_cons,List.length_nil];omega
  ·refine ⟨fun c hc=>?_,fun y hy=>?_,?_,?_,?_⟩
   ·simp only at hc ⊢;rw [s2_ (o2_ x i)] at hc;rw [a4g (o2_ x i)];exact h1 c hc
   ·rcases a1j hy with hy|⟨z,hz,rfl⟩
    ·exact hup y hy
    ·exact c4b (h2 z hz)
   ·simp only [a5i];omega
   ·have:=b6q log d.st x;simp only [List.length_append];omega
   ·simp only;split
    ·exact h5.add _ (by decide) (by decide)
    ·split
     ·exact h5.add _ (by decide) (by decide)
     ·exact h5.next
end Go.Proofs.YtoibondihdhnoaaDoor
