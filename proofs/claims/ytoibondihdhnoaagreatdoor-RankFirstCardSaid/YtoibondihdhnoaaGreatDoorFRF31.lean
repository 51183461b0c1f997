/- Texts in one: Chapter 4: the first car that is overtaken, as the program and as the document have it; no condition. -/
import Derived.Test.YtoibondihdhnoaaGreatDoorFRF20
import Derived.Test.YtoibondihdhnoaaGreatDoorFRF30
namespace Go.Proofs.YtoibondihdhnoaaGreatDoor
open Go.RowKit
def a7b (x:Sg) (R:Int) (c:ByteArray) : Bool:=decide (x.rank=R)&&decide (x.car=c)
def r9_ (L:List Sg) (R:Int) (c:ByteArray) : Nat→Int
 | 0=>-1
 | k+1=>if a7b (e0_ L k) R c then k else r9_ L R c k
def jOf (L:List Sg) (k:Nat) : Int:=r9_ L (e0_ L k).rank (e0_ L k).car k
def okI (L:List Sg) (k i:Nat) : Bool:=
 decide ((e0_ L i).kind=0)&&decide ((e0_ L i).rank=(e0_ L k).rank)&&!decide ((e0_ L i).car=(e0_ L k).car)&&decide (r9_ L (e0_ L i).rank (e0_ L i).car k=i)
def a9c (L:List Sg) (k:Nat) : Bool:=decide (0≤jOf L k)&&decide ((e0_ L (jOf L k).toNat).kind=0)
def a5c (L:List Sg) (k:Nat) : Int:=if (e0_ L k).kind=1∧a9c L k=true then ixP (okI L k) 0 (jOf L k).toNat else -1
def c4z (L:List Sg) (k:Nat) : Bool:=decide (0≤a5c L k)
def b5i (L:List Sg) : Int:=ixP (c4z L) 0 L.length
theorem b3f {x:Sg} {R:Int} {c:ByteArray} : a7b x R c=true↔x.rank=R∧x.car=c:=by simp [a7b]
theorem z5_ (L:List Sg) (R:Int) (c:ByteArray) : ∀ k,(r9_ L R c k = -1∧∀ j,j < k→a7b (e0_ L j) R c=false)∨∃ j:Nat,r9_ L R c k=j∧j < k∧a7b (e0_ L j) R c=true∧∀ n,j < n→n < k→a7b (e0_ L n) R c=false
 | 0=>.inl ⟨rfl,fun j hj=>by omega⟩
 | k+1=>by
  rw [r9_];by_cases h:a7b (e0_ L k) R c=true
  ·rw [if_pos h];exact .inr ⟨k,rfl,by omega,h,fun n h1 h2=>by omega⟩
  ·rw [if_neg h];have hf:a7b (e0_ L k) R c=false:=by simpa using h
   rcases z5_ L R c k with ⟨h1,h2⟩|⟨j,h1,h2,h3,h4⟩
   ·refine .inl ⟨h1,fun j hj=>?_⟩;by_cases he:j=k
    ·rw [he];exact hf
    ·exact h2 j (by omega)
   ·refine .inr ⟨j,h1,by omega,h3,fun n hn hl=>?_⟩;by_cases he:n=k
    ·rw [he];exact hf
    ·exact h4 n hn (by omega)
theorem b7t {L:List Sg} {k:Nat} (h:0≤jOf L k) : ∃ j:Nat,jOf L k=j∧j < k:=by
 unfold jOf at h ⊢;rcases z5_ L (e0_ L k).rank (e0_ L k).car k with ⟨h1,_⟩|⟨j,h1,h2,_⟩
 ·omega
 ·exact ⟨j,h1,h2⟩
structure Sy where
 car:ByteArray
 came:Int
 went:Int
 decl:Int
instance:Inhabited Sy:=⟨⟨ByteArray.empty,0,0,0⟩⟩
@[go_sem] def Sy.av (x:Sy) : List AV:=[S x.car,I x.came,I x.went,I x.decl]
structure Wt where
 car:ByteArray
 rank:Int
 waited:Int
instance:Inhabited Wt:=⟨⟨ByteArray.empty,0,0⟩⟩
@[go_sem] def Wt.av (x:Wt) : List AV:=[S x.car,I x.rank,I x.waited]
def s0_ (x:Ev) (i:Nat) (y:Sy) : Sy:=
 if x.kind=1 then ⟨y.car,y.came,i,y.decl⟩ else if x.kind=2 then ⟨y.car,y.came,y.went,y.decl+1⟩ else if x.kind=3 then ⟨y.car,y.came,i,y.decl⟩ else if x.kind=5 then ⟨y.car,y.came,-1,y.decl⟩ else y
def i9_ (c:ByteArray) (a:List Sy) : Bool:=a.any fun y=>decide (y.car=c)
def j0_ (c:ByteArray) (f:Sy→Sy) : List Sy→List Sy
 | []=>[]
 | y::a=>if i9_ c a then y::j0_ c f a else if y.car=c then f y::a else y::a
def a7c (a:List Sy) (i:Nat) (x:Ev) : List Sy:=
 if x.kind=4 then a else if x.kind=0 then a++[⟨x.car,i,-1,0⟩] else j0_ x.car (s0_ x i) a
theorem x5_ (x:Ev) (i:Nat) (y:Sy) : (s0_ x i y).car=y.car:=by
 unfold s0_;split
 ·rfl
 ·split
  ·rfl
  ·split
   ·rfl
   ·split<;>rfl
theorem q4_ {c:ByteArray} {y:Sy} {a:List Sy} : i9_ c (y::a)=(decide (y.car=c) || i9_ c a):=rfl
theorem x6_ {c:ByteArray} {a b:List Sy} : i9_ c (a++b)=(i9_ c a || i9_ c b):=List.any_append
theorem x7_ {c d:ByteArray} {f:Sy→Sy} (hf:∀ y,(f y).car=y.car) : ∀ a:List Sy,i9_ d (j0_ c f a)=i9_ d a
 | []=>rfl
 | y::a=>by
  rw [j0_];split
  ·rw [q4_,q4_,x7_ hf a]
  ·split
   ·rw [q4_,q4_,hf]
   ·rfl
def a8j (c:ByteArray) : Nat→List Sy→Int
 | _,[]=>-1
 | k,y::a=>if i9_ c a then a8j c (k+1) a else if y.car=c then k else -1
theorem o5_ {c:ByteArray} : ∀ (a:List Sy) (k:Nat),i9_ c a=true→∃ j:Nat,a8j c k a=((k+j:Nat) : Int)∧∃ hj:j < a.length,(a[j]).car=c∧∀ f,j0_ c f a=a.set j (f a[j])
 | [],_,h=>by simp [i9_] at h
 | y::a,k,h=>by
  rw [a8j];cases hh:i9_ c a
  ·rw [q4_,hh,Bool.or_false,decide_eq_true_eq] at h;rw [if_neg (by simp),if_pos h];refine ⟨0,by simp,by simp,by simpa using h,fun f=>?_⟩;rw [j0_,hh,if_neg (by simp),if_pos h];rfl
  ·rw [if_pos rfl];obtain ⟨j,h1,hj,h2,h3⟩:=o5_ a (k+1) hh;refine ⟨j+1,by rw [h1];congr 1;omega,by simpa using hj,by simpa using h2,fun f=>?_⟩;rw [j0_,hh,if_pos rfl,h3 f];rfl
theorem a7d {c d:ByteArray} {z:Sy} (hz:z.car=d) : ∀ (a:List Sy) (k:Nat),a8j c k (a++[z])=if d=c then ((k+a.length:Nat) : Int) else a8j c k a
 | [],k=>by
  rw [List.nil_append,a8j,a8j,a8j,if_neg (by simp [i9_]),hz];rfl
 | y::a,k=>by
  rw [List.cons_append,a8j,a7d hz a (k+1),x6_];have e1:i9_ c [z]=decide (d=c):=by simp [i9_,hz]
  rw [e1,a8j];by_cases hd:d=c
  ·rw [if_pos hd,if_pos hd,decide_eq_true hd,Bool.or_true,if_pos rfl];congr 1;simp;omega
  ·rw [if_neg hd,if_neg hd,decide_eq_false hd,Bool.or_false]
theorem a7e {c d:ByteArray} {f:Sy→Sy} (hf:∀ y,(f y).car=y.car) : ∀ (a:List Sy) (k:Nat),a8j d k (j0_ c f a)=a8j d k a
 | [],_=>rfl
 | y::a,k=>by
  rw [j0_];split
  ·rw [a8j,a8j,x7_ hf,a7e hf a]
  ·split
   ·rw [a8j,a8j,hf]
   ·rfl
theorem b7u {c:ByteArray} {s:St} : c∈a2e s↔0 < cnt c s.q.flatten+cnt c (s.tk.map (·.car)):=by rw [←g7_,m2_]
theorem b1o {q:List (List ByteArray)} {k:Nat} (hk:k < q.length) {c:ByteArray} (h:c∈qat q k) : 0 < cnt c q.flatten:=by
 refine m2_.2 (List.mem_flatten.2 ⟨qat q k,?_,h⟩);rw [h7_ hk];exact List.getElem_mem hk
theorem parts {r:Ru} {s:St} {x:Ev} (h:apE r s x=0) : evE r x=0∧s.time≤x.time∧doE r s x x.rank.toNat=0∧x.rank=(x.rank.toNat:Int)∧x.rank.toNat < r.ranks.length:=by
 unfold apE at h;rw [b8_,b8_,b8_] at h;obtain ⟨h1,h2,h3,_⟩:=h;have:=b7j h1;exact ⟨h1,of_decide_eq_true (d4_ (by decide) h2),h3,by omega,by omega⟩
theorem c5a {r:Ru} {s:St} (hl:s.q.length=r.ranks.length) {x:Ev} (h:apE r s x=0) (h0:x.kind≠0) (h4:x.kind≠4) : x.car∈a2e s:=by
 obtain ⟨h1,h2,h3,h5,h6⟩:=parts h;have hk:x.rank.toNat < s.q.length:=by omega
 have hkd:=b5e h1;rw [b7u];unfold doE at h3;rw [if_neg h0] at h3;by_cases k1:x.kind=1
 ·rw [if_pos k1] at h3;unfold o3_ at h3;rw [b8_] at h3;obtain ⟨t,e⟩:=l8_ h3.1;have:=b1o hk (c:=x.car) (by rw [e];simp);omega
 rw [if_neg k1] at h3;by_cases k2:x.kind=2
 ·rw [if_pos k2] at h3;obtain ⟨t,e⟩:=l8_ h3;have:=b1o hk (c:=x.car) (by rw [e];simp);omega
 rw [if_neg k2] at h3;by_cases k3:x.kind=3
 ·rw [if_pos k3] at h3;unfold a3l at h3;have hn:¬a1v (qat s.q x.rank.toNat) x.car < 0:=fun hh=>by
   rw [if_pos hh] at h3;cases h3
  have:=b1o hk (Classical.byContradiction fun hc=>hn (a0z.2 hc));omega
 rw [if_neg k3,if_neg h4] at h3;unfold a2w at h3;split at h3
 ·cases h3
 ·rename_i hor;have hm:x.car∈s.tk.map (·.car):=Classical.byContradiction fun hc=>hor (.inl (p7_.2 hc));have:=m2_.2 hm;omega
theorem b3g {r:Ru} (hr:RuOK r) (c:ByteArray) : ∀ (n:Nat) (s:St) (m:List Sg),Inv r s→cnt c (a2e (l7_ r n s m).1)=cnt c (a2e s)
 | 0,_,_,_=>rfl
 | n+1,s,m,h=>by
  rw [l7_];split
  ·rfl
  ·rename_i hn;obtain ⟨k,e,hk,hp⟩:=l1_ hn;rw [e,Int.toNat_natCast];obtain ⟨h1,h2,h3⟩:=i4_ hp;have hkl:k < s.q.length:=by rw [h.len];exact hk
   obtain ⟨g1,g2,g3⟩:=hr.feedN hk h1;rw [b3g hr c n _ _ (h.up hr hkl h1 h2 h3),g7_,g7_];show cnt c (upQ s.q k (feedN r k)).flatten+_=_;rw [b1m hkl (by rw [h.len];exact g3) (by omega) h2];rfl
theorem c9l {r:Ru} {s:St} (hr:RuOK r) (hi:Inv r s) {x:Ev} (h:apE r s x=0) (c:ByteArray) : cnt c (a2e (doS r s x x.rank.toNat))≤cnt c (a2e s)+if x.kind=0∧c=x.car then 1 else 0:=by
 obtain ⟨h1,h2,h3,h5,h6⟩:=parts h;have hk:x.rank.toNat < s.q.length:=by rw [hi.len];exact h6
 generalize x.rank.toNat=k at *;rw [g7_,g7_];unfold doE at h3;unfold doS;by_cases k0:x.kind=0
 ·rw [if_pos k0];unfold a0n;simp only;rw [a6t hi.once,z3_];have g:=e6_ hk (qat s.q k++[x.car]) c;rw [g2_,d8_,j9_] at g;by_cases hc:c=x.car
  ·subst hc;rw [if_pos rfl] at g ⊢;rw [if_pos ⟨k0,rfl⟩];omega
  ·rw [if_neg (Ne.symm hc)] at g;rw [if_neg hc];omega
 rw [if_neg k0] at h3 ⊢;by_cases k1:x.kind=1
 ·rw [if_pos k1] at h3 ⊢;unfold o3_ at h3;rw [b8_] at h3;obtain ⟨t,e⟩:=l8_ h3.1;unfold a2q;simp only [List.map_append,List.map_cons,List.map_nil];have g:=e6_ hk (qat s.q k).tail c;rw [g2_,d8_,j9_];rw [e,List.tail_cons,d8_] at g;rw [e,List.tail_cons];omega
 rw [if_neg k1] at h3 ⊢;by_cases k2:x.kind=2
 ·rw [if_pos k2] at h3 ⊢;obtain ⟨t,e⟩:=l8_ h3;unfold a0y p6_;simp only;have g:=e6_ hk ((qat s.q k).tail.take (a0x r (qat s.q k).tail.length)++[x.car]++(qat s.q k).tail.drop (a0x r (qat s.q k).tail.length)) c;have g3:=g2_ c ((qat s.q k).tail.take (a0x r (qat s.q k).tail.length)) ((qat s.q k).tail.drop (a0x r (qat s.q k).tail.length));rw [List.take_append_drop] at g3;rw [g2_,g2_,d8_,j9_] at g;have g4:cnt c (qat s.q k)=cnt c (qat s.q k).tail+if x.car=c then 1 else 0:=by rw [e,List.tail_cons,d8_]
  omega
 rw [if_neg k2] at h3 ⊢;by_cases k3:x.kind=3
 ·rw [if_pos k3];unfold a3m;simp only;have g:=e6_ hk ((qat s.q k).eraseIdx (a1v (qat s.q k) x.car).toNat) c;have g2:=a3o c (qat s.q k) (a1v (qat s.q k) x.car).toNat;omega
 rw [if_neg k3] at h3 ⊢;by_cases k4:x.kind=4
 ·rw [if_pos k4] at h3 ⊢;unfold w5_ at h3;by_cases hf:(rat r.ranks k).feeder = -1
  ·rw [if_pos hf] at h3;cases h3
  ·rw [if_neg hf,b8_,b8_] at h3;have f2:=of_decide_eq_true (d4_ (by decide) h3.2.1);obtain ⟨g1,g2,g3⟩:=hr.feedN h6 hf;show cnt c (upQ s.q k (feedN r k)).flatten+_≤_;rw [b1m hk (by rw [hi.len];exact g3) (by omega) f2];show cnt c s.q.flatten+cnt c (s.tk.map (·.car))≤_;omega
 rw [if_neg k4] at h3 ⊢;unfold a2w at h3;split at h3
 ·cases h3
 ·rename_i hor;unfold b5c;simp only;rw [a2f hi.once x fun hh=>hor (.inl hh),z3_];have g:=e6_ hk ([x.car]++qat s.q k) c;rw [g2_,d8_,j9_] at g;have hm:x.car∈s.tk.map (·.car):=Classical.byContradiction fun hc=>hor (.inl (p7_.2 hc));have g2:=m2_.2 hm;by_cases hc:c=x.car
  ·subst hc;rw [if_pos rfl] at g ⊢;omega
  ·rw [if_neg (Ne.symm hc)] at g;rw [if_neg hc];omega
theorem c9m {r:Ru} {s:St} (hr:RuOK r) (hi:Inv r s) {x:Ev} (h:apE r s x=0) {c:ByteArray} (hc:c∈a2e (apU r s x).1) : c∈a2e s∨x.kind=0∧c=x.car:=by
 obtain ⟨h1,h2,h3,h5,h6⟩:=parts h;have hd:=hi.doS hr h1 h2 h5 h3;have hp:=m2_.2 hc;unfold apU at hp;rw [b3g hr c _ _ _ hd] at hp;have g:=c9l hr hi h c;change 0 < cnt c (a2e (doS r s x x.rank.toNat)) at hp;by_cases hh:x.kind=0∧c=x.car
 ·exact .inr hh
 ·rw [if_neg hh] at g;exact .inl (m2_.1 (by omega))
theorem z6_ {r:Ru} {i:Nat} {x:Ev} {l:List Ev} {s:St} (h:(goP r i (x::l) s).2.2=0) : apE r s x=0∧(goP r (i+1) l (apU r s x).1).2.2=0:=by
 rw [goP] at h;by_cases ha:apE r s x=0
 ·rw [if_neg (by simp [ha])] at h;exact ⟨ha,h⟩
 ·rw [if_pos ha] at h;exact absurd h ha
theorem c5b {r:Ru} : ∀ (l:List Ev) (i:Nat) (s:St),(goP r i l s).2.2=0→∀ x∈l,evE r x=0
 | [],_,_,_,x,hx=>by simp at hx
 | y::l,i,s,h,x,hx=>by
  obtain ⟨h1,h2⟩:=z6_ h;rcases List.mem_cons.1 hx with rfl|hx
  ·exact (parts h1).1
  ·exact c5b l (i+1) _ h2 x hx
def a1i (a:List Sy) (c:ByteArray) : Int:=(a.getD (a8j c 0 a).toNat default).came
def q9_ (log:List Ev) (a:List Sy) (x:Ev) : List Wt:=if x.kind=1 then [⟨x.car,x.rank,x.time - (c6_ log (a1i a x.car).toNat).time⟩] else []
def b5j (log:List Ev) : Nat→List Ev→List Sy→List Wt
 | _,[],_=>[]
 | i,x::l,a=>q9_ log a x++b5j log (i+1) l (a7c a i x)
def b5k (x:Ev) (c:ByteArray) : Bool:=decide (x.kind=0)&&decide (x.car=c)
def b5l (log:List Ev) (c:ByteArray) : Nat→Nat
 | 0=>0
 | k+1=>if b5k (c6_ log k) c then k else b5l log c k
def o9_ (log:List Ev) : Nat→List Ev→List Wt
 | _,[]=>[]
 | i,x::l=>(if x.kind=1 then [⟨x.car,x.rank,x.time - (c6_ log (b5l log x.car (i+1))).time⟩] else [])++o9_ log (i+1) l
theorem b5m {a:List Sy} {c d:ByteArray} {z:Sy} (hz:z.car=d) (h:i9_ c (a++[z])=true) : a1i (a++[z]) c=if d=c then z.came else a1i a c:=by
 unfold a1i;rw [a7d hz];by_cases hd:d=c
 ·rw [if_pos hd,if_pos hd];simp
 ·rw [if_neg hd,if_neg hd];have hc:i9_ c a=true:=by
   rw [x6_] at h;have e1:i9_ c [z]=false:=by simp [i9_,hz,hd]
   rw [e1,Bool.or_false] at h;exact h
  obtain ⟨j,e,hj,_⟩:=o5_ a 0 hc;rw [e,Int.toNat_natCast,Nat.zero_add,List.getD_eq_getElem?_getD,List.getElem?_append_left hj,List.getD_eq_getElem?_getD]
theorem b5n {a:List Sy} {c d:ByteArray} {x:Ev} {i:Nat} (h:i9_ c a=true) : a1i (j0_ d (s0_ x i) a) c=a1i a c:=by
 unfold a1i;rw [a7e (x5_ x i)];obtain ⟨j,e,hj,_⟩:=o5_ a 0 h;rw [e,Int.toNat_natCast,Nat.zero_add];by_cases hd:i9_ d a=true
 ·obtain ⟨m,_,hm,_,h3⟩:=o5_ a 0 hd;rw [h3,List.getD_eq_getElem?_getD,List.getD_eq_getElem?_getD,List.getElem?_set];split
  ·rename_i hmj;subst hmj;rw [List.getElem?_eq_getElem hm];simp only [Option.getD_some];unfold s0_;split
   ·rfl
   ·split
    ·rfl
    ·split
     ·rfl
     ·split<;>rfl
  ·rfl
 ·have hn:∀ a:List Sy,i9_ d a=false→j0_ d (s0_ x i) a=a:=fun a=>by
   induction a with
   | nil=>intro _;rfl
   | cons y a ih=>
    intro hh;rw [q4_,Bool.or_eq_false_iff] at hh;rw [j0_,hh.2,if_neg (by simp),if_neg (of_decide_eq_false hh.1)]
  rw [hn a (by simpa using hd)]
theorem b3h {pre:List Ev} {x:Ev} {l:List Ev} : c6_ (pre++x::l) pre.length=x:=by simp [c6_]
def CameOK (log:List Ev) (i:Nat) (a:List Sy) : Prop:=∀ c,i9_ c a=true→a1i a c=(b5l log c i:Int)
theorem CameOK.step {pre:List Ev} {x:Ev} {l:List Ev} {a:List Sy} (h:CameOK (pre++x::l) pre.length a) : CameOK (pre++x::l) (pre.length+1) (a7c a pre.length x):=fun c hc=>by
 rw [b5l,b3h];unfold a7c at hc ⊢;by_cases h4:x.kind=4
 ·rw [if_pos h4] at hc ⊢;rw [if_neg (by simp [b5k,h4])];exact h c hc
 ·rw [if_neg h4] at hc ⊢;by_cases h0:x.kind=0
  ·rw [if_pos h0] at hc ⊢;rw [b5m rfl hc];by_cases he:x.car=c
   ·rw [if_pos he,if_pos (by simp [b5k,h0,he])]
   ·rw [if_neg he,if_neg (by simp [b5k,he])];rw [x6_] at hc;refine h c ?_;simpa [i9_,he] using hc
  ·rw [if_neg h0] at hc ⊢;rw [x7_ (x5_ x _)] at hc;rw [b5n hc,if_neg (by simp [b5k,h0])];exact h c hc
theorem b5o {a:List Sy} {i:Nat} {x:Ev} {c:ByteArray} : i9_ c (a7c a i x)=(i9_ c a || (decide (x.kind=0)&&decide (x.car=c))):=by
 unfold a7c;by_cases h4:x.kind=4
 ·rw [if_pos h4,decide_eq_false (by omega)];simp
 ·rw [if_neg h4];by_cases h0:x.kind=0
  ·rw [if_pos h0,x6_,decide_eq_true h0];simp [i9_]
  ·rw [if_neg h0,x7_ (x5_ x i),decide_eq_false h0];simp
def Known (s:St) (a:List Sy) : Prop:=∀ c∈a2e s,i9_ c a=true
theorem Known.step {r:Ru} {s:St} (hr:RuOK r) (hi:Inv r s) {a:List Sy} (h:Known s a) {x:Ev} (ha:apE r s x=0) (i:Nat) : Known (apU r s x).1 (a7c a i x):=fun c hc=>by
 rw [b5o];rcases c9m hr hi ha hc with h1|⟨h1,rfl⟩
 ·rw [h c h1];rfl
 ·rw [decide_eq_true h1,decide_eq_true rfl];simp
theorem b3i {r:Ru} (hr:RuOK r) : ∀ (l:List Ev) (pre:List Ev) (s:St) (a:List Sy),Inv r s→Known s a→CameOK (pre++l) pre.length a→(goP r pre.length l s).2.2=0→b5j (pre++l) pre.length l a=o9_ (pre++l) pre.length l
 | [],_,_,_,_,_,_,_=>rfl
 | x::l,pre,s,a,hi,hk,hc,h=>by
  obtain ⟨h1,h2⟩:=z6_ h;rw [b5j,o9_];have e:pre++x::l=(pre++[x])++l:=by simp
  have hs:=b3i hr l (pre++[x]) (apU r s x).1 (a7c a pre.length x) (hi.ap hr h1).1 (hk.step hr hi h1 _) (by
   rw [←e,List.length_append];exact hc.step) (by rw [List.length_append];exact h2)
  rw [←e,List.length_append] at hs;rw [show pre.length+1=pre.length + [x].length from rfl,hs];congr 1;unfold q9_;by_cases k1:x.kind=1
  ·rw [if_pos k1,if_pos k1,hc _ (hk _ (c5a hi.len h1 (by omega) (by omega))),Int.toNat_natCast];rw [show pre.length + [x].length=pre.length+1 from rfl,b5l,b3h,if_neg (by simp [b5k,k1])]
  ·rw [if_neg k1,if_neg k1]
theorem b7v {r:Ru} (hr:RuOK r) {l:List Ev} (h:(goP r 0 l (st0 r)).2.2=0) : b5j l 0 l []=o9_ l 0 l:=
 b3i hr l [] (st0 r) [] (Inv.st0 hr) (fun c hc=>by
  have h:=m2_.2 hc;rw [g7_] at h;change 0 < cnt c (List.replicate _ []).flatten+cnt c [] at h;rw [a1b,j9_] at h;omega) (fun c hc=>by cases hc) h
def b7w (r:Ru) (n:Nat) : Prop:=(rat r.ranks n).feeder = -1∧∀ k,k < r.ranks.length→(rat r.ranks k).feeder≠n
theorem c2n {r:Ru} {s:St} (hr:RuOK r) (hl:s.q.length=r.ranks.length) {n k:Nat} (ha:b7w r n) (hk:k < r.ranks.length) (hf:(rat r.ranks k).feeder≠-1) : qat (upS r s k).q n=qat s.q n:=by
 obtain ⟨g1,g2,g3⟩:=hr.feedN hk hf;have h1:n≠k:=fun h=>hf (h▸ha.1);have h2:n≠feedN r k:=fun h=>ha.2 k hk (by rw [g1,h]);show qat (upQ s.q k (feedN r k)) n=_;unfold upQ;rw [q7_ (by simp;omega),if_neg h1,q7_ (by omega),if_neg h2]
theorem a5o {r:Ru} (hr:RuOK r) {n:Nat} (ha:b7w r n) : ∀ (m:Nat) (s:St) (g:List Sg),s.q.length=r.ranks.length→qat (l7_ r m s g).1.q n=qat s.q n
 | 0,_,_,_=>rfl
 | m+1,s,g,hl=>by
  rw [l7_];split
  ·rfl
  ·rename_i hn;obtain ⟨k,e,hk,hp⟩:=l1_ hn;rw [e,Int.toNat_natCast];obtain ⟨h1,h2,h3⟩:=i4_ hp;rw [a5o hr ha m _ _ (by show (upQ _ _ _).length=_;rw [a6u,hl]),c2n hr hl ha hk h1]
theorem c6n (r:Ru) (s:St) (x:Ev) (k:Nat) : (doS r s x k).q.length=s.q.length:=by
 unfold doS a0n a2q a0y a3m upS b5c;split
 ·simp
 ·split
  ·simp
  ·split
   ·simp
   ·split
    ·simp
    ·split
     ·exact a6u _ _ _
     ·simp
theorem c2o {r:Ru} {s:St} (hr:RuOK r) (hl:s.q.length=r.ranks.length) {n:Nat} (ha:b7w r n) (x:Ev) : qat (apU r s x).1.q n=qat (doS r s x x.rank.toNat).q n:=
 a5o hr ha _ _ _ (by show (doS r s x x.rank.toNat).q.length=_;rw [c6n,hl])
def k7_ (n:Nat) : List Ev→List ByteArray
 | []=>[]
 | x::l=>if x.kind=0∧x.rank=n then x.car::k7_ n l else k7_ n l
def a1j (n:Nat) : List Ev→List ByteArray
 | []=>[]
 | x::l=>if x.kind=1∧x.rank=n then x.car::a1j n l else a1j n l
theorem b3j {r:Ru} (hr:RuOK r) {n:Nat} (hn:n < r.ranks.length) (ha:b7w r n) : ∀ (l:List Ev) (i:Nat) (s:St),Inv r s→(∀ x∈l,x.kind=0∨x.kind=1)→(goP r i l s).2.2=0→a1j n l <+: qat s.q n++k7_ n l
 | [],_,_,_,_,_=>by simp [a1j]
 | x::l,i,s,hi,hk,h=>by
  obtain ⟨h1,h2⟩:=z6_ h;have ih:=b3j hr hn ha l (i+1) _ (hi.ap hr h1).1 (fun y hy=>hk y (by simp [hy])) h2;rw [c2o hr hi.len ha] at ih;obtain ⟨g1,g2,g3,g4,g5⟩:=parts h1;have hnl:n < s.q.length:=by rw [hi.len];exact hn
  have hkl:x.rank.toNat < s.q.length:=by rw [hi.len];exact g5
  unfold doS at ih;unfold doE at g3;rw [a1j,k7_];rcases hk x (by simp) with k0|k1
  ·rw [if_pos k0] at ih;rw [if_neg (by omega)];unfold a0n at ih;simp only at ih;rw [q7_ hkl] at ih;by_cases he:x.rank=n
   ·rw [if_pos ⟨k0,he⟩];have e:x.rank.toNat=n:=by omega
    rw [e,if_pos rfl,List.append_assoc] at ih;exact ih
   ·rw [if_neg fun hh=>he hh.2];rw [if_neg (by omega)] at ih;exact ih
  ·rw [if_neg (by omega),if_pos k1] at ih g3;rw [if_neg (c:=x.kind=0∧x.rank=n) (by omega)];unfold a2q at ih;simp only at ih;rw [q7_ hkl] at ih;by_cases he:x.rank=n
   ·rw [if_pos ⟨k1,he⟩];have e:x.rank.toNat=n:=by omega
    rw [e] at ih g3;rw [if_pos rfl] at ih;unfold o3_ at g3;rw [b8_] at g3;obtain ⟨t,et⟩:=l8_ g3.1;rw [et] at ih ⊢;rw [List.tail_cons] at ih;rw [List.cons_append];exact (List.prefix_cons_inj _).2 ih
   ·rw [if_neg fun hh=>he hh.2];rw [if_neg (by omega)] at ih;exact ih
theorem b7x {r:Ru} (hr:RuOK r) {n:Nat} (hn:n < r.ranks.length) (ha:b7w r n) {l:List Ev} (hk:∀ x∈l,x.kind=0∨x.kind=1) (h:(goP r 0 l (st0 r)).2.2=0) : a1j n l <+: k7_ n l:=by
 have:=b3j hr hn ha l 0 (st0 r) (Inv.st0 hr) hk h;change a1j n l <+: qat (List.replicate _ []) n++k7_ n l at this;rwa [b7k,List.nil_append] at this
theorem a9d (log:List Ev) (n:Nat) : ∀ (l:List Ev) (i:Nat),((o9_ log i l).filter fun w=>decide (w.rank=(n:Int))).map (·.car)=a1j n l
 | [],_=>rfl
 | x::l,i=>by
  rw [o9_,a1j,List.filter_append,List.map_append,a9d log n l (i+1)];by_cases k1:x.kind=1
  ·rw [if_pos k1];by_cases he:x.rank=n
   ·rw [if_pos ⟨k1,he⟩];simp [he]
   ·rw [if_neg fun hh=>he hh.2];simp [he]
  ·rw [if_neg k1,if_neg fun hh=>k1 hh.1];rfl
end Go.Proofs.YtoibondihdhnoaaGreatDoor
