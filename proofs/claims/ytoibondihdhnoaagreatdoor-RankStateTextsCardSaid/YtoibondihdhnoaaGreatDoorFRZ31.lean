/- Texts in one: Chapter 4: the first car that is overtaken, as the program and as the document have it; no condition. -/
import Derived.Test.YtoibondihdhnoaaGreatDoorFRZ20
import Derived.Test.YtoibondihdhnoaaGreatDoorFRZ30
namespace Go.Proofs.YtoibondihdhnoaaGreatDoor
open Go.RowKit
def fS (x:Sg) (R:Int) (c:ByteArray) : Bool:=decide (x.rank=R)&&decide (x.car=c)
def gJ (L:List Sg) (R:Int) (c:ByteArray) : Nat→Int
 | 0=>-1
 | k+1=>if fS (aB L k) R c then k else gJ L R c k
def jOf (L:List Sg) (k:Nat) : Int:=gJ L (aB L k).rank (aB L k).car k
def okI (L:List Sg) (k i:Nat) : Bool:=
 decide ((aB L i).kind=0)&&decide ((aB L i).rank=(aB L k).rank)&&!decide ((aB L i).car=(aB L k).car)&&decide (gJ L (aB L i).rank (aB L i).car k=i)
def kg (L:List Sg) (k:Nat) : Bool:=decide (0≤jOf L k)&&decide ((aB L (jOf L k).toNat).kind=0)
def kz (L:List Sg) (k:Nat) : Int:=if (aB L k).kind=1∧kg L k=true then ixP (okI L k) 0 (jOf L k).toNat else -1
def za (L:List Sg) (k:Nat) : Bool:=decide (0≤kz L k)
def ij (L:List Sg) : Int:=ixP (za L) 0 L.length
def kA (L:List Sg) (i k:Nat) : Bool:=cQ (fun n=>fS (aB L n) (aB L i).rank (aB L i).car) (i+1) (k - (i+1))
def tE (L:List Sg) (k i:Nat) : Bool:=decide ((aB L i).kind=0)&&decide ((aB L i).rank=(aB L k).rank)&&!decide ((aB L i).car=(aB L k).car)&&!kA L i k
def mh (L:List Sg) (k j:Nat) : Bool:=decide ((aB L j).kind=0)&&decide ((aB L j).rank=(aB L k).rank)&&decide ((aB L j).car=(aB L k).car)&&!kA L j k
def jR (L:List Sg) (k i:Nat) : Int:=ixP (fun d=>mh L k (i+1+d)) 0 (k - (i+1))
def okR (L:List Sg) (k i:Nat) : Bool:=tE L k i&&decide (0≤jR L k i)
def qz (L:List Sg) (k:Nat) : Int:=if (aB L k).kind=1 then ixP (okR L k) 0 k else -1
def vH (L:List Sg) (k:Nat) : Bool:=decide (0≤qz L k)
def FT (L:List Sg) : Int:=ixP (vH L) 0 L.length
theorem oa {x:Sg} {R:Int} {c:ByteArray} : fS x R c=true↔x.rank=R∧x.car=c:=by simp [fS]
theorem tF (L:List Sg) (R:Int) (c:ByteArray) : ∀ k,(gJ L R c k = -1∧∀ j,j < k→fS (aB L j) R c=false)∨∃ j:Nat,gJ L R c k=j∧j < k∧fS (aB L j) R c=true∧∀ n,j < n→n < k→fS (aB L n) R c=false
 | 0=>.inl ⟨rfl,fun j hj=>by omega⟩
 | k+1=>by
  rw [gJ];by_cases h:fS (aB L k) R c=true
  ·rw [if_pos h];exact .inr ⟨k,rfl,by omega,h,fun n h1 h2=>by omega⟩
  ·rw [if_neg h];have hf:fS (aB L k) R c=false:=by simpa using h
   rcases tF L R c k with ⟨h1,h2⟩|⟨j,h1,h2,h3,h4⟩
   ·refine .inl ⟨h1,fun j hj=>?_⟩;by_cases he:j=k
    ·rw [he];exact hf
    ·exact h2 j (by omega)
   ·refine .inr ⟨j,h1,by omega,h3,fun n hn hl=>?_⟩;by_cases he:n=k
    ·rw [he];exact hf
    ·exact h4 n hn (by omega)
theorem FU {L:List Sg} {i k:Nat} : kA L i k=true↔rI L i k:=by
 unfold kA cQ rI;rw [List.any_eq_true];constructor
 ·rintro ⟨d,hd,h⟩;rw [List.mem_range] at hd;rw [oa] at h;exact ⟨i+1+d,by omega,by omega,h.1,h.2⟩
 ·rintro ⟨n,h1,h2,h3,h4⟩;refine ⟨n - (i+1),List.mem_range.2 (by omega),?_⟩;rw [show i+1+(n - (i+1))=n by omega,oa];exact ⟨h3,h4⟩
theorem Ca {L:List Sg} {i k:Nat} (hi:i < k) : decide (gJ L (aB L i).rank (aB L i).car k=i) = !kA L i k:=by
 have hs:fS (aB L i) (aB L i).rank (aB L i).car=true:=oa.2 ⟨rfl,rfl⟩;rcases tF L (aB L i).rank (aB L i).car k with ⟨_,h2⟩|⟨j,h1,h2,h3,h4⟩
 ·rw [h2 i hi] at hs;cases hs
 ·rw [h1];by_cases he:j=i
  ·subst he;rw [decide_eq_true rfl];have:kA L j k≠true:=fun h=>by
    obtain ⟨n,h5,h6,h7,h8⟩:=FU.1 h;have:=h4 n h5 h6;rw [oa.2 ⟨h7,h8⟩] at this;cases this
   simp [this]
  ·rw [decide_eq_false (by omega)];have aw:i < j:=by
    rcases Nat.lt_trichotomy i j with h|h|h
    ·exact h
    ·exact absurd h.symm he
    ·have:=h4 i h hi;rw [hs] at this;cases this
   rw [FU.2 ⟨j,aw,h2,(oa.1 h3).1,(oa.1 h3).2⟩];rfl
theorem L7 {L:List Sg} {i k:Nat} (hi:i < k) : okI L k i=tE L k i:=by
 unfold okI tE;rw [Ca hi]
theorem Cb {L:List Sg} {j k:Nat} (hj:j < k) : mh L k j=true↔jOf L k=j∧kg L k=true:=by
 unfold mh;simp only [Bool.and_eq_true,decide_eq_true_eq];constructor
 ·rintro ⟨⟨⟨h1,h2⟩,h3⟩,h4⟩;have e:jOf L k=j:=by
   unfold jOf;rw [←h2,←h3];have:=Ca (L:=L) hj;rw [h4] at this;exact of_decide_eq_true this
  refine ⟨e,?_⟩;unfold kg;rw [e,Int.toNat_natCast,h1];simp
 ·rintro ⟨h1,h2⟩;unfold kg at h2;rw [h1,Int.toNat_natCast] at h2;simp only [Bool.and_eq_true,decide_eq_true_eq] at h2;have hs:fS (aB L j) (aB L k).rank (aB L k).car=true:=by
   unfold jOf at h1;rcases tF L (aB L k).rank (aB L k).car k with ⟨h3,_⟩|⟨j',h3,h4,h5,h6⟩
   ·omega
   ·have:j'=j:=by omega
    subst this;exact h5
  obtain ⟨h3,h4⟩:=oa.1 hs;refine ⟨⟨⟨h2.2,h3⟩,h4⟩,?_⟩;have:=Ca (L:=L) hj;rw [h3,h4] at this;rw [←this];unfold jOf at h1;rw [h1];simp
theorem vI {L:List Sg} {k:Nat} (h:0≤jOf L k) : ∃ j:Nat,jOf L k=j∧j < k:=by
 unfold jOf at h ⊢;rcases tF L (aB L k).rank (aB L k).car k with ⟨h1,_⟩|⟨j,h1,h2,_⟩
 ·omega
 ·exact ⟨j,h1,h2⟩
theorem FV {L:List Sg} {i k:Nat} (hg:kg L k=true) (qh:(i:Int) < jOf L k) : ∃ d:Nat,jR L k i=d∧(i+1+d:Int)=jOf L k:=by
 obtain ⟨j,e,hj⟩:=vI (show 0≤jOf L k by omega);refine ⟨j - (i+1),?_,by omega⟩;unfold jR;refine gU (by omega) (fun d hd=>?_) ?_
 ·cases h:mh L k (i+1+d)
  ·rfl
  ·have:=((Cb (by omega)).1 h).1;omega
 ·rw [show i+1+(j - (i+1))=j by omega];exact (Cb hj).2 ⟨e,hg⟩
theorem Cc {L:List Sg} {i k:Nat} (h:¬(kg L k=true∧(i:Int) < jOf L k)) : jR L k i = -1:=by
 unfold jR;refine jb fun d hd=>?_;cases hh:mh L k (i+1+d)
 ·rfl
 ·obtain ⟨h1,h2⟩:=(Cb (by omega)).1 hh;exact absurd ⟨h2,by omega⟩ h
theorem FW (L:List Sg) (k:Nat) : qz L k=kz L k:=by
 unfold qz kz;by_cases h1:(aB L k).kind=1
 ·rw [if_pos h1];by_cases hg:kg L k=true
  ·rw [if_pos ⟨h1,hg⟩];have h0:0≤jOf L k:=by
    unfold kg at hg;simp only [Bool.and_eq_true,decide_eq_true_eq] at hg;exact hg.1
   obtain ⟨j,e,hj⟩:=vI h0;rw [e,Int.toNat_natCast];have rY:∀ i,i < j→okR L k i=okI L k i:=fun i hi=>by
    unfold okR;obtain ⟨d,hd,_⟩:=FV (L:=L) (k:=k) (i:=i) hg (by omega);rw [hd,decide_eq_true (by omega),Bool.and_true,L7 (by omega)]
   have vJ:∀ i,j≤i→okR L k i=false:=fun i hi=>by
    unfold okR;rw [Cc (fun hh=>by omega),decide_eq_false (by decide),Bool.and_false]
   rcases qe (okI L k) j with ⟨h2,h3⟩|⟨i,h2,h3,h4,h5⟩
   ·rw [h2];refine jb fun i hi=>?_;by_cases qh:i < j
    ·rw [rY i qh];exact h3 i qh
    ·exact vJ i (by omega)
   ·rw [h3];exact gU (by omega) (fun n hn=>by rw [rY n (by omega)];exact h5 n hn) (by rw [rY i h2];exact h4)
  ·rw [if_neg fun hh=>hg hh.2];refine jb fun i _=>?_;unfold okR;rw [Cc (fun hh=>hg hh.1),decide_eq_false (by decide),Bool.and_false]
 ·rw [if_neg h1,if_neg fun hh=>h1 hh.1]
theorem FX (L:List Sg) : FT L=ij L:=by
 unfold FT ij;have:vH L=za L:=by
  funext k
  unfold vH za;rw [FW]
 rw [this]
structure Sy where
 car:ByteArray
 came:Int
 went:Int
 decl:Int
instance:Inhabited Sy:=⟨⟨ByteArray.empty,0,0,0⟩⟩
@[go_sem] def Sy.av (x:Sy) : List AV:=[S x.car,I x.came,I x.went,I x.decl]
structure Wt where
 car:ByteArray
 rank:Int
 waited:Int
instance:Inhabited Wt:=⟨⟨ByteArray.empty,0,0⟩⟩
@[go_sem] def Wt.av (x:Wt) : List AV:=[S x.car,I x.rank,I x.waited]
def gV (x:Ev) (i:Nat) (y:Sy) : Sy:=
 if x.kind=1 then ⟨y.car,y.came,i,y.decl⟩ else if x.kind=2 then ⟨y.car,y.came,y.went,y.decl+1⟩ else if x.kind=3 then ⟨y.car,y.came,i,y.decl⟩ else if x.kind=5 then ⟨y.car,y.came,-1,y.decl⟩ else y
def dJ (c:ByteArray) (a:List Sy) : Bool:=a.any fun y=>decide (y.car=c)
def jx (c:ByteArray) (f:Sy→Sy) : List Sy→List Sy
 | []=>[]
 | y::a=>if dJ c a then y::jx c f a else if y.car=c then f y::a else y::a
def pb (a:List Sy) (i:Nat) (x:Ev) : List Sy:=
 if x.kind=4 then a else if x.kind=0 then a++[⟨x.car,i,-1,0⟩] else jx x.car (gV x i) a
theorem vK (x:Ev) (i:Nat) (y:Sy) : (gV x i y).car=y.car:=by
 unfold gV;split
 ·rfl
 ·split
  ·rfl
  ·split
   ·rfl
   ·split<;>rfl
theorem tG {c:ByteArray} {y:Sy} {a:List Sy} : dJ c (y::a)=(decide (y.car=c) || dJ c a):=rfl
theorem vL {c:ByteArray} {a b:List Sy} : dJ c (a++b)=(dJ c a || dJ c b):=List.any_append
theorem vM {c d:ByteArray} {f:Sy→Sy} (hf:∀ y,(f y).car=y.car) : ∀ a:List Sy,dJ d (jx c f a)=dJ d a
 | []=>rfl
 | y::a=>by
  rw [jx];split
  ·rw [tG,tG,vM hf a]
  ·split
   ·rw [tG,tG,hf]
   ·rfl
def jy (c:ByteArray) : Nat→List Sy→Int
 | _,[]=>-1
 | k,y::a=>if dJ c a then jy c (k+1) a else if y.car=c then k else -1
theorem qA {c:ByteArray} : ∀ (a:List Sy) (k:Nat),dJ c a=true→∃ j:Nat,jy c k a=((k+j:Nat) : Int)∧∃ hj:j < a.length,(a[j]).car=c∧∀ f,jx c f a=a.set j (f a[j])
 | [],_,h=>by simp [dJ] at h
 | y::a,k,h=>by
  rw [jy];cases hh:dJ c a
  ·rw [tG,hh,Bool.or_false,decide_eq_true_eq] at h;rw [if_neg (by simp),if_pos h];refine ⟨0,by simp,by simp,by simpa using h,fun f=>?_⟩;rw [jx,hh,if_neg (by simp),if_pos h];rfl
  ·rw [if_pos rfl];obtain ⟨j,h1,hj,h2,h3⟩:=qA a (k+1) hh;refine ⟨j+1,by rw [h1];congr 1;omega,by simpa using hj,by simpa using h2,fun f=>?_⟩;rw [jx,hh,if_pos rfl,h3 f];rfl
theorem Cd {c d:ByteArray} {z:Sy} (hz:z.car=d) : ∀ (a:List Sy) (k:Nat),jy c k (a++[z])=if d=c then ((k+a.length:Nat) : Int) else jy c k a
 | [],k=>by
  rw [List.nil_append,jy,jy,jy,if_neg (by simp [dJ]),hz];rfl
 | y::a,k=>by
  rw [List.cons_append,jy,Cd hz a (k+1),vL];have e1:dJ c [z]=decide (d=c):=by simp [dJ,hz]
  rw [e1,jy];by_cases hd:d=c
  ·rw [if_pos hd,if_pos hd,decide_eq_true hd,Bool.or_true,if_pos rfl];congr 1;simp;omega
  ·rw [if_neg hd,if_neg hd,decide_eq_false hd,Bool.or_false]
theorem Ce {c d:ByteArray} {f:Sy→Sy} (hf:∀ y,(f y).car=y.car) : ∀ (a:List Sy) (k:Nat),jy d k (jx c f a)=jy d k a
 | [],_=>rfl
 | y::a,k=>by
  rw [jx];split
  ·rw [jy,jy,vM hf,Ce hf a]
  ·split
   ·rw [jy,jy,hf]
   ·rfl
theorem FY {c:ByteArray} {s:St} : c∈fE s↔0 < cnt c s.q.flatten+cnt c (s.tk.map (·.car)):=by rw [←hQ,jQ]
theorem Cf {q:List (List ByteArray)} {k:Nat} (hk:k < q.length) {c:ByteArray} (h:c∈qat q k) : 0 < cnt c q.flatten:=by
 refine jQ.2 (List.mem_flatten.2 ⟨qat q k,?_,h⟩);rw [fo hk];exact List.getElem_mem hk
theorem parts {r:Ru} {s:St} {x:Ev} (h:apE r s x=0) : evE r x=0∧s.time≤x.time∧doE r s x x.rank.toNat=0∧x.rank=(x.rank.toNat:Int)∧x.rank.toNat < r.ranks.length:=by
 unfold apE at h;rw [bU,bU,bU] at h;obtain ⟨h1,h2,h3,_⟩:=h;have:=yg h1;exact ⟨h1,of_decide_eq_true (ew (by decide) h2),h3,by omega,by omega⟩
theorem FZ {r:Ru} {s:St} (hl:s.q.length=r.ranks.length) {x:Ev} (h:apE r s x=0) (h0:x.kind≠0) (h4:x.kind≠4) : x.car∈fE s:=by
 obtain ⟨h1,h2,h3,h5,h6⟩:=parts h;have hk:x.rank.toNat < s.q.length:=by omega
 have iF:=Bh h1;rw [FY];unfold doE at h3;rw [if_neg h0] at h3;by_cases k1:x.kind=1
 ·rw [if_pos k1] at h3;unfold mO at h3;rw [bU] at h3;obtain ⟨t,e⟩:=tl h3.1;have:=Cf hk (c:=x.car) (by rw [e];simp);omega
 rw [if_neg k1] at h3;by_cases k2:x.kind=2
 ·rw [if_pos k2] at h3;obtain ⟨t,e⟩:=tl h3;have:=Cf hk (c:=x.car) (by rw [e];simp);omega
 rw [if_neg k2] at h3;by_cases k3:x.kind=3
 ·rw [if_pos k3] at h3;unfold xW at h3;have hn:¬i_ (qat s.q x.rank.toNat) x.car < 0:=fun hh=>by
   rw [if_pos hh] at h3;cases h3
  have:=Cf hk (Classical.byContradiction fun hc=>hn (x_.2 hc));omega
 rw [if_neg k3,if_neg h4] at h3;unfold tj at h3;split at h3
 ·cases h3
 ·rename_i ly;have hm:x.car∈s.tk.map (·.car):=Classical.byContradiction fun hc=>ly (.inl (qf.2 hc));have:=jQ.2 hm;omega
theorem F0 {r:Ru} (hr:RuOK r) (c:ByteArray) : ∀ (n:Nat) (s:St) (m:List Sg),Inv r s→cnt c (fE (hJ r n s m).1)=cnt c (fE s)
 | 0,_,_,_=>rfl
 | n+1,s,m,h=>by
  rw [hJ];split
  ·rfl
  ·rename_i hn;obtain ⟨k,e,hk,hp⟩:=uX hn;rw [e,Int.toNat_natCast];obtain ⟨h1,h2,h3⟩:=uW hp;have bJ:k < s.q.length:=by rw [h.len];exact hk
   obtain ⟨g1,g2,g3⟩:=hr.feedN hk h1;rw [F0 hr c n _ _ (h.up hr bJ h1 h2 h3),hQ,hQ];show cnt c (upQ s.q k (feedN r k)).flatten+_=_;rw [Bf bJ (by rw [h.len];exact g3) (by omega) h2];rfl
theorem L8 {r:Ru} {s:St} (hr:RuOK r) (hi:Inv r s) {x:Ev} (h:apE r s x=0) (c:ByteArray) : cnt c (fE (doS r s x x.rank.toNat))≤cnt c (fE s)+if x.kind=0∧c=x.car then 1 else 0:=by
 obtain ⟨h1,h2,h3,h5,h6⟩:=parts h;have hk:x.rank.toNat < s.q.length:=by rw [hi.len];exact h6
 generalize x.rank.toNat=k at *;rw [hQ,hQ];unfold doE at h3;unfold doS;by_cases k0:x.kind=0
 ·rw [if_pos k0];unfold xZ;simp only;rw [Bb hi.once,yb];have g:=jS hk (qat s.q k++[x.car]) c;rw [gp,ff,ja] at g;by_cases hc:c=x.car
  ·subst hc;rw [if_pos rfl] at g ⊢;rw [if_pos ⟨k0,rfl⟩];omega
  ·rw [if_neg (Ne.symm hc)] at g;rw [if_neg hc];omega
 rw [if_neg k0] at h3 ⊢;by_cases k1:x.kind=1
 ·rw [if_pos k1] at h3 ⊢;unfold mO at h3;rw [bU] at h3;obtain ⟨t,e⟩:=tl h3.1;unfold uT;simp only [List.map_append,List.map_cons,List.map_nil];have g:=jS hk (qat s.q k).tail c;rw [gp,ff,ja];rw [e,List.tail_cons,ff] at g;rw [e,List.tail_cons];omega
 rw [if_neg k1] at h3 ⊢;by_cases k2:x.kind=2
 ·rw [if_pos k2] at h3 ⊢;obtain ⟨t,e⟩:=tl h3;unfold Ba qd;simp only;have g:=jS hk ((qat s.q k).tail.take (mb r (qat s.q k).tail.length)++[x.car]++(qat s.q k).tail.drop (mb r (qat s.q k).tail.length)) c;have g3:=gp c ((qat s.q k).tail.take (mb r (qat s.q k).tail.length)) ((qat s.q k).tail.drop (mb r (qat s.q k).tail.length));rw [List.take_append_drop] at g3;rw [gp,gp,ff,ja] at g;have g4:cnt c (qat s.q k)=cnt c (qat s.q k).tail+if x.car=c then 1 else 0:=by rw [e,List.tail_cons,ff]
  omega
 rw [if_neg k2] at h3 ⊢;by_cases k3:x.kind=3
 ·rw [if_pos k3];unfold uU;simp only;have g:=jS hk ((qat s.q k).eraseIdx (i_ (qat s.q k) x.car).toNat) c;have g2:=Bc c (qat s.q k) (i_ (qat s.q k) x.car).toNat;omega
 rw [if_neg k3] at h3 ⊢;by_cases k4:x.kind=4
 ·rw [if_pos k4] at h3 ⊢;unfold oQ at h3;by_cases hf:(rat r.ranks k).feeder = -1
  ·rw [if_pos hf] at h3;cases h3
  ·rw [if_neg hf,bU,bU] at h3;have f2:=of_decide_eq_true (ew (by decide) h3.2.1);obtain ⟨g1,g2,g3⟩:=hr.feedN h6 hf;show cnt c (upQ s.q k (feedN r k)).flatten+_≤_;rw [Bf hk (by rw [hi.len];exact g3) (by omega) f2];show cnt c s.q.flatten+cnt c (s.tk.map (·.car))≤_;omega
 rw [if_neg k4] at h3 ⊢;unfold tj at h3;split at h3
 ·cases h3
 ·rename_i ly;unfold xY;simp only;rw [EN hi.once x fun hh=>ly (.inl hh),yb];have g:=jS hk ([x.car]++qat s.q k) c;rw [gp,ff,ja] at g;have hm:x.car∈s.tk.map (·.car):=Classical.byContradiction fun hc=>ly (.inl (qf.2 hc));have g2:=jQ.2 hm;by_cases hc:c=x.car
  ·subst hc;rw [if_pos rfl] at g ⊢;omega
  ·rw [if_neg (Ne.symm hc)] at g;rw [if_neg hc];omega
theorem L9 {r:Ru} {s:St} (hr:RuOK r) (hi:Inv r s) {x:Ev} (h:apE r s x=0) {c:ByteArray} (hc:c∈fE (apU r s x).1) : c∈fE s∨x.kind=0∧c=x.car:=by
 obtain ⟨h1,h2,h3,h5,h6⟩:=parts h;have hd:=hi.doS hr h1 h2 h5 h3;have hp:=jQ.2 hc;unfold apU at hp;rw [F0 hr c _ _ _ hd] at hp;have g:=L8 hr hi h c;change 0 < cnt c (fE (doS r s x x.rank.toNat)) at hp;by_cases hh:x.kind=0∧c=x.car
 ·exact .inr hh
 ·rw [if_neg hh] at g;exact .inl (jQ.1 (by omega))
theorem zb {r:Ru} {i:Nat} {x:Ev} {l:List Ev} {s:St} (h:(goP r i (x::l) s).2.2=0) : apE r s x=0∧(goP r (i+1) l (apU r s x).1).2.2=0:=by
 rw [goP] at h;by_cases ha:apE r s x=0
 ·rw [if_neg (by simp [ha])] at h;exact ⟨ha,h⟩
 ·rw [if_pos ha] at h;exact absurd h ha
def pd (a:List Sy) (c:ByteArray) : Int:=(a.getD (jy c 0 a).toNat default).came
def kB (log:List Ev) (a:List Sy) (x:Ev) : List Wt:=if x.kind=1 then [⟨x.car,x.rank,x.time - (aO log (pd a x.car).toNat).time⟩] else []
def tH (log:List Ev) : Nat→List Ev→List Sy→List Wt
 | _,[],_=>[]
 | i,x::l,a=>kB log a x++tH log (i+1) l (pb a i x)
def tI (x:Ev) (c:ByteArray) : Bool:=decide (x.kind=0)&&decide (x.car=c)
def vN (log:List Ev) (c:ByteArray) : Nat→Nat
 | 0=>0
 | k+1=>if tI (aO log k) c then k else vN log c k
def tJ (log:List Ev) : Nat→List Ev→List Wt
 | _,[]=>[]
 | i,x::l=>(if x.kind=1 then [⟨x.car,x.rank,x.time - (aO log (vN log x.car (i+1))).time⟩] else [])++tJ log (i+1) l
theorem L_ {a:List Sy} {c d:ByteArray} {z:Sy} (hz:z.car=d) (h:dJ c (a++[z])=true) : pd (a++[z]) c=if d=c then z.came else pd a c:=by
 unfold pd;rw [Cd hz];by_cases hd:d=c
 ·rw [if_pos hd,if_pos hd];simp
 ·rw [if_neg hd,if_neg hd];have hc:dJ c a=true:=by
   rw [vL] at h;have e1:dJ c [z]=false:=by simp [dJ,hz,hd]
   rw [e1,Bool.or_false] at h;exact h
  obtain ⟨j,e,hj,_⟩:=qA a 0 hc;rw [e,Int.toNat_natCast,Nat.zero_add,List.getD_eq_getElem?_getD,List.getElem?_append_left hj,List.getD_eq_getElem?_getD]
theorem Ma {a:List Sy} {c d:ByteArray} {x:Ev} {i:Nat} (h:dJ c a=true) : pd (jx d (gV x i) a) c=pd a c:=by
 unfold pd;rw [Ce (vK x i)];obtain ⟨j,e,hj,_⟩:=qA a 0 h;rw [e,Int.toNat_natCast,Nat.zero_add];by_cases hd:dJ d a=true
 ·obtain ⟨m,_,hm,_,h3⟩:=qA a 0 hd;rw [h3,List.getD_eq_getElem?_getD,List.getD_eq_getElem?_getD,List.getElem?_set];split
  ·rename_i Mb;subst Mb;rw [List.getElem?_eq_getElem hm];simp only [Option.getD_some];unfold gV;split
   ·rfl
   ·split
    ·rfl
    ·split
     ·rfl
     ·split<;>rfl
  ·rfl
 ·have hn:∀ a:List Sy,dJ d a=false→jx d (gV x i) a=a:=fun a=>by
   induction a with
   | nil=>intro _;rfl
   | cons y a ih=>
    intro hh;rw [tG,Bool.or_eq_false_iff] at hh;rw [jx,hh.2,if_neg (by simp),if_neg (of_decide_eq_false hh.1)]
  rw [hn a (by simpa using hd)]
theorem F1 {pre:List Ev} {x:Ev} {l:List Ev} : aO (pre++x::l) pre.length=x:=by simp [aO]
def CameOK (log:List Ev) (i:Nat) (a:List Sy) : Prop:=∀ c,dJ c a=true→pd a c=(vN log c i:Int)
theorem CameOK.step {pre:List Ev} {x:Ev} {l:List Ev} {a:List Sy} (h:CameOK (pre++x::l) pre.length a) : CameOK (pre++x::l) (pre.length+1) (pb a pre.length x):=fun c hc=>by
 rw [vN,F1];unfold pb at hc ⊢;by_cases h4:x.kind=4
 ·rw [if_pos h4] at hc ⊢;rw [if_neg (by simp [tI,h4])];exact h c hc
 ·rw [if_neg h4] at hc ⊢;by_cases h0:x.kind=0
  ·rw [if_pos h0] at hc ⊢;rw [L_ rfl hc];by_cases he:x.car=c
   ·rw [if_pos he,if_pos (by simp [tI,h0,he])]
   ·rw [if_neg he,if_neg (by simp [tI,he])];rw [vL] at hc;refine h c ?_;simpa [dJ,he] using hc
  ·rw [if_neg h0] at hc ⊢;rw [vM (vK x _)] at hc;rw [Ma hc,if_neg (by simp [tI,h0])];exact h c hc
theorem Md {a:List Sy} {i:Nat} {x:Ev} {c:ByteArray} : dJ c (pb a i x)=(dJ c a || (decide (x.kind=0)&&decide (x.car=c))):=by
 unfold pb;by_cases h4:x.kind=4
 ·rw [if_pos h4,decide_eq_false (by omega)];simp
 ·rw [if_neg h4];by_cases h0:x.kind=0
  ·rw [if_pos h0,vL,decide_eq_true h0];simp [dJ]
  ·rw [if_neg h0,vM (vK x i),decide_eq_false h0];simp
def Known (s:St) (a:List Sy) : Prop:=∀ c∈fE s,dJ c a=true
theorem Known.step {r:Ru} {s:St} (hr:RuOK r) (hi:Inv r s) {a:List Sy} (h:Known s a) {x:Ev} (ha:apE r s x=0) (i:Nat) : Known (apU r s x).1 (pb a i x):=fun c hc=>by
 rw [Md];rcases L9 hr hi ha hc with h1|⟨h1,rfl⟩
 ·rw [h c h1];rfl
 ·rw [decide_eq_true h1,decide_eq_true rfl];simp
theorem F2 {r:Ru} (hr:RuOK r) : ∀ (l:List Ev) (pre:List Ev) (s:St) (a:List Sy),Inv r s→Known s a→CameOK (pre++l) pre.length a→(goP r pre.length l s).2.2=0→tH (pre++l) pre.length l a=tJ (pre++l) pre.length l
 | [],_,_,_,_,_,_,_=>rfl
 | x::l,pre,s,a,hi,hk,hc,h=>by
  obtain ⟨h1,h2⟩:=zb h;rw [tH,tJ];have e:pre++x::l=(pre++[x])++l:=by simp
  have hs:=F2 hr l (pre++[x]) (apU r s x).1 (pb a pre.length x) (hi.ap hr h1).1 (hk.step hr hi h1 _) (by
   rw [←e,List.length_append];exact hc.step) (by rw [List.length_append];exact h2)
  rw [←e,List.length_append] at hs;rw [show pre.length+1=pre.length + [x].length from rfl,hs];congr 1;unfold kB;by_cases k1:x.kind=1
  ·rw [if_pos k1,if_pos k1,hc _ (hk _ (FZ hi.len h1 (by omega) (by omega))),Int.toNat_natCast];rw [show pre.length + [x].length=pre.length+1 from rfl,vN,F1,if_neg (by simp [tI,k1])]
  ·rw [if_neg k1,if_neg k1]
theorem Me {r:Ru} (hr:RuOK r) {l:List Ev} (h:(goP r 0 l (st0 r)).2.2=0) : tH l 0 l []=tJ l 0 l:=
 F2 hr l [] (st0 r) [] (Inv.st0 hr) (fun c hc=>by
  have h:=jQ.2 hc;rw [hQ] at h;change 0 < cnt c (List.replicate _ []).flatten+cnt c [] at h;rw [u_,ja] at h;omega) (fun c hc=>by cases hc) h
abbrev KV:Type:=List (Value×Value)
theorem Mf {a:ByteArray} {k:Value} (h:jW (.string a) k=true) : k = .string a:=by
 cases k<;>simp [jW] at h;rw [h]
theorem zd (a b:ByteArray) (v:Value) : ∀ m,gT (.string a) (ic (.string b) v m)=if a=b then some v else gT (.string a) m
 | []=>by
  simp only [ic,gT];by_cases h:a=b<;>simp [jW,h]
 | (k,u)::r=>by
  have ih:=zd a b v r;simp only [ic];by_cases hb:jW (.string b) k=true
  ·have:=Mf hb;subst this;rw [if_pos hb];simp only [gT];by_cases h:a=b<;>simp [jW,h]
  ·rw [if_neg hb];simp only [gT];rw [ih];by_cases h:a=b
   ·subst h;simp [hb]
   ·simp [h]
def oc (m:KV) (c:ByteArray) : Int:=match gT (.string c) m with|some (.int _ v)=>v|_=>0
def rZ (m:KV) (c:ByteArray) (v:Int) : KV:=ic (.string c) (.int .i64 (oc m c+v)) m
def NumOK (m:KV) (n:Nat) : Prop:=∀ c,gT (.string c) m=none∨∃ v:Int,gT (.string c) m=some (.int .i64 v)∧-(n:Int)≤v∧v≤n
theorem NumOK.at_ {m:KV} {n:Nat} (h:NumOK m n) (c:ByteArray) : (gT (.string c) m).getD (.int .i64 0) = .int .i64 (oc m c)∧-(n:Int)≤oc m c∧oc m c≤n:=by
 unfold oc;rcases h c with h1|⟨v,h1,h2,h3⟩
 ·rw [h1];exact ⟨rfl,by simp,by simp⟩
 ·rw [h1];exact ⟨rfl,h2,h3⟩
theorem NumOK.upd {m:KV} {n:Nat} (h:NumOK m n) (c:ByteArray) {v:Int} (h1 : -((n+1:Nat) : Int)≤v) (h2:v≤((n+1:Nat) : Int)) : NumOK (ic (.string c) (.int .i64 v) m) (n+1):=fun d=>by
 rw [zd];by_cases hd:d=c
 ·rw [if_pos hd];exact .inr ⟨v,rfl,h1,h2⟩
 ·rw [if_neg hd];rcases h d with h3|⟨u,h3,h4,h5⟩
  ·exact .inl h3
  ·exact .inr ⟨u,h3,by omega,by omega⟩
theorem NumOK.next {m:KV} {n:Nat} (h:NumOK m n) : NumOK m (n+1):=fun d=>by
 rcases h d with h3|⟨u,h3,h4,h5⟩
 ·exact .inl h3
 ·exact .inr ⟨u,h3,by omega,by omega⟩
theorem NumOK.add {m:KV} {n:Nat} (h:NumOK m n) (c:ByteArray) {v:Int} (h1 : -1≤v) (h2:v≤1) : NumOK (rZ m c v) (n+1):=by
 have:=h.at_ c;exact h.upd c (by omega) (by omega)
structure Dy where
 st:List Sy
 op:KV
 wt:List Wt
 sv:KV
def eZ (log:List Ev) (d:Dy) (i:Nat) (x:Ev) : Dy:=
 if x.kind=4 then d
 else if x.kind=0 then ⟨d.st++[⟨x.car,i,-1,0⟩],ic (.string x.car) (.int .i64 d.st.length) d.op,d.wt,rZ d.sv x.car 0⟩
 else ⟨jx x.car (gV x i) d.st,d.op,d.wt++kB log d.st x,if x.kind=1 then rZ d.sv x.car 1 else if x.kind=5 then rZ d.sv x.car (-1) else d.sv⟩
theorem F3 (log:List Ev) (d:Dy) (i:Nat) (x:Ev) : (eZ log d i x).st=pb d.st i x:=by
 unfold eZ pb;split
 ·rfl
 ·split<;>rfl
theorem F4 {c:ByteArray} {f:Sy→Sy} : ∀ {a:List Sy} {y:Sy},y∈jx c f a→y∈a∨∃ z∈a,y=f z
 | [],_,h=>by simp [jx] at h
 | z::a,y,h=>by
  unfold jx at h;split at h
  ·rcases List.mem_cons.1 h with h|h
   ·exact .inl (List.mem_cons.2 (.inl h))
   ·rcases F4 h with h|⟨u,h,e⟩
    ·exact .inl (List.mem_cons_of_mem _ h)
    ·exact .inr ⟨u,List.mem_cons_of_mem _ h,e⟩
  ·split at h
   ·rcases List.mem_cons.1 h with h|h
    ·exact .inr ⟨z,List.mem_cons_self ..,h⟩
    ·exact .inl (List.mem_cons_of_mem _ h)
   ·exact .inl h
theorem F5 {c:ByteArray} {f:Sy→Sy} : ∀ (a:List Sy),(jx c f a).length=a.length
 | []=>rfl
 | z::a=>by
  unfold jx;split
  ·simp [F5 a]
  ·split<;>rfl
structure DyOK (log:List Ev) (i:Nat) (d:Dy) : Prop where
 op:∀ c,dJ c d.st=true→gT (.string c) d.op=some (.int .i64 (jy c 0 d.st))
 st:∀ y∈d.st,0≤y.came∧y.came < i∧(0≤(aO log y.came.toNat).time∧(aO log y.came.toNat).time≤604800)∧0≤y.decl∧y.decl≤i
 sl:d.st.length≤i
 wl:d.wt.length≤i
 sv:NumOK d.sv i
theorem DyOK.zero (log:List Ev) : DyOK log 0 ⟨[],[],[],[]⟩:=
 ⟨fun c h=>by simp [dJ] at h,fun y h=>by simp at h,Nat.le_refl _,Nat.le_refl _,fun c=>.inl rfl⟩
theorem Mg {x:Ev} {i:Nat} {y:Sy} {log:List Ev} (h:0≤y.came∧y.came < i∧(0≤(aO log y.came.toNat).time∧(aO log y.came.toNat).time≤604800)∧0≤y.decl∧y.decl≤i) :
  0≤(gV x i y).came∧(gV x i y).came < ((i+1:Nat) : Int)∧(0≤(aO log (gV x i y).came.toNat).time∧(aO log (gV x i y).came.toNat).time≤604800)∧0≤(gV x i y).decl∧(gV x i y).decl≤((i+1:Nat) : Int):=by
 obtain ⟨h1,h2,h3,h4,h5⟩:=h;unfold gV;split
 ·exact ⟨h1,by simp only;omega,h3,h4,by simp only;omega⟩
 ·split
  ·exact ⟨h1,by simp only;omega,h3,by simp only;omega,by simp only;omega⟩
  ·split
   ·exact ⟨h1,by simp only;omega,h3,h4,by simp only;omega⟩
   ·split
    ·exact ⟨h1,by simp only;omega,h3,h4,by simp only;omega⟩
    ·exact ⟨h1,by omega,h3,h4,by omega⟩
theorem Mh (log:List Ev) (a:List Sy) (x:Ev) : (kB log a x).length≤1:=by
 unfold kB;split
 ·exact Nat.le_refl _
 ·exact Nat.zero_le _
theorem DyOK.step {log:List Ev} {i:Nat} {d:Dy} (h:DyOK log i d) {x:Ev} (hx:x=aO log i) (ht:0≤x.time∧x.time≤604800) : DyOK log (i+1) (eZ log d i x):=by
 obtain ⟨h1,h2,h3,h4,h5⟩:=h;have tC:∀ y∈d.st,0≤y.came∧y.came < ((i+1:Nat) : Int)∧(0≤(aO log y.came.toNat).time∧(aO log y.came.toNat).time≤604800)∧0≤y.decl∧y.decl≤((i+1:Nat) : Int):=fun y hy=>by
  obtain ⟨g1,g2,g3,g4,g5⟩:=h2 y hy;exact ⟨g1,by omega,g3,g4,by omega⟩
 unfold eZ;split
 ·exact ⟨h1,tC,by omega,by omega,h5.next⟩
 ·split
  ·refine ⟨fun c hc=>?_,fun y hy=>?_,?_,by simp only;omega,h5.add _ (by decide) (by decide)⟩
   ·simp only at hc ⊢;rw [zd,Cd (d:=x.car) rfl];by_cases h:c=x.car
    ·subst h;rw [if_pos rfl,if_pos rfl,Nat.zero_add]
    ·rw [if_neg h,if_neg (Ne.symm h)];refine h1 c ?_;rw [vL] at hc;simpa [dJ,Ne.symm h] using hc
   ·rcases List.mem_append.1 hy with hy|hy
    ·exact tC y hy
    ·rw [List.mem_singleton.1 hy];simp only [Int.toNat_natCast];rw [←hx];exact ⟨by omega,by omega,ht,by omega,by omega⟩
   ·simp only [List.length_append,List.length_cons,List.length_nil];omega
  ·refine ⟨fun c hc=>?_,fun y hy=>?_,?_,?_,?_⟩
   ·simp only at hc ⊢;rw [vM (vK x i)] at hc;rw [Ce (vK x i)];exact h1 c hc
   ·rcases F4 hy with hy|⟨z,hz,rfl⟩
    ·exact tC y hy
    ·exact Mg (h2 z hz)
   ·simp only [F5];omega
   ·have:=Mh log d.st x;simp only [List.length_append];omega
   ·simp only;split
    ·exact h5.add _ (by decide) (by decide)
    ·split
     ·exact h5.add _ (by decide) (by decide)
     ·exact h5.next
end Go.Proofs.YtoibondihdhnoaaGreatDoor
