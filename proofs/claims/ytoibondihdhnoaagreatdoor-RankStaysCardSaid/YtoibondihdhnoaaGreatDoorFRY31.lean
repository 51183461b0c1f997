/- Texts in one: Chapter 4: the first car that is overtaken, as the program and as the document have it; no condition. -/
import Derived.Test.YtoibondihdhnoaaGreatDoorFRY20
import Derived.Test.YtoibondihdhnoaaGreatDoorFRY30
namespace Go.Proofs.YtoibondihdhnoaaGreatDoor
open Go.RowKit
def ir (x:Sg) (R:Int) (c:ByteArray) : Bool:=decide (x.rank=R)&&decide (x.car=c)
def gZ (L:List Sg) (R:Int) (c:ByteArray) : Nat→Int
 | 0=>-1
 | k+1=>if ir (aI L k) R c then k else gZ L R c k
def jOf (L:List Sg) (k:Nat) : Int:=gZ L (aI L k).rank (aI L k).car k
def okI (L:List Sg) (k i:Nat) : Bool:=
 decide ((aI L i).kind=0)&&decide ((aI L i).rank=(aI L k).rank)&&!decide ((aI L i).car=(aI L k).car)&&decide (gZ L (aI L i).rank (aI L i).car k=i)
def lZ (L:List Sg) (k:Nat) : Bool:=decide (0≤jOf L k)&&decide ((aI L (jOf L k).toNat).kind=0)
def nD (L:List Sg) (k:Nat) : Int:=if (aI L k).kind=1∧lZ L k=true then ixP (okI L k) 0 (jOf L k).toNat else -1
def yP (L:List Sg) (k:Nat) : Bool:=decide (0≤nD L k)
def sn (L:List Sg) : Int:=ixP (yP L) 0 L.length
def uf (L:List Sg) (i k:Nat) : Bool:=gz (fun n=>ir (aI L n) (aI L i).rank (aI L i).car) (i+1) (k - (i+1))
def BU (L:List Sg) (k i:Nat) : Bool:=decide ((aI L i).kind=0)&&decide ((aI L i).rank=(aI L k).rank)&&!decide ((aI L i).car=(aI L k).car)&&!uf L i k
def BW (L:List Sg) (k j:Nat) : Bool:=decide ((aI L j).kind=0)&&decide ((aI L j).rank=(aI L k).rank)&&decide ((aI L j).car=(aI L k).car)&&!uf L j k
theorem pN {x:Sg} {R:Int} {c:ByteArray} : ir x R c=true↔x.rank=R∧x.car=c:=by simp [ir]
theorem ug (L:List Sg) (R:Int) (c:ByteArray) : ∀ k,(gZ L R c k = -1∧∀ j,j < k→ir (aI L j) R c=false)∨∃ j:Nat,gZ L R c k=j∧j < k∧ir (aI L j) R c=true∧∀ n,j < n→n < k→ir (aI L n) R c=false
 | 0=>.inl ⟨rfl,fun j hj=>by omega⟩
 | k+1=>by
  rw [gZ];by_cases h:ir (aI L k) R c=true
  ·rw [if_pos h];exact .inr ⟨k,rfl,by omega,h,fun n h1 h2=>by omega⟩
  ·rw [if_neg h];have hf:ir (aI L k) R c=false:=by simpa using h
   rcases ug L R c k with ⟨h1,h2⟩|⟨j,h1,h2,h3,h4⟩
   ·refine .inl ⟨h1,fun j hj=>?_⟩;by_cases he:j=k
    ·rw [he];exact hf
    ·exact h2 j (by omega)
   ·refine .inr ⟨j,h1,by omega,h3,fun n hn hl=>?_⟩;by_cases he:n=k
    ·rw [he];exact hf
    ·exact h4 n hn (by omega)
theorem yQ {L:List Sg} {i k:Nat} : uf L i k=true↔rX L i k:=by
 unfold uf gz rX;rw [List.any_eq_true];constructor
 ·rintro ⟨d,hd,h⟩;rw [List.mem_range] at hd;rw [pN] at h;exact ⟨i+1+d,by omega,by omega,h.1,h.2⟩
 ·rintro ⟨n,h1,h2,h3,h4⟩;refine ⟨n - (i+1),List.mem_range.2 (by omega),?_⟩;rw [show i+1+(n - (i+1))=n by omega,pN];exact ⟨h3,h4⟩
theorem BX {L:List Sg} {i k:Nat} (hi:i < k) : decide (gZ L (aI L i).rank (aI L i).car k=i) = !uf L i k:=by
 have hs:ir (aI L i) (aI L i).rank (aI L i).car=true:=pN.2 ⟨rfl,rfl⟩;rcases ug L (aI L i).rank (aI L i).car k with ⟨_,h2⟩|⟨j,h1,h2,h3,h4⟩
 ·rw [h2 i hi] at hs;cases hs
 ·rw [h1];by_cases he:j=i
  ·subst he;rw [decide_eq_true rfl];have:uf L j k≠true:=fun h=>by
    obtain ⟨n,h5,h6,h7,h8⟩:=yQ.1 h;have:=h4 n h5 h6;rw [pN.2 ⟨h7,h8⟩] at this;cases this
   simp [this]
  ·rw [decide_eq_false (by omega)];have aq:i < j:=by
    rcases Nat.lt_trichotomy i j with h|h|h
    ·exact h
    ·exact absurd h.symm he
    ·have:=h4 i h hi;rw [hs] at this;cases this
   rw [yQ.2 ⟨j,aq,h2,(pN.1 h3).1,(pN.1 h3).2⟩];rfl
theorem K8 {L:List Sg} {i k:Nat} (hi:i < k) : okI L k i=BU L k i:=by
 unfold okI BU;rw [BX hi]
theorem K9 {L:List Sg} {j k:Nat} (hj:j < k) : BW L k j=true↔jOf L k=j∧lZ L k=true:=by
 unfold BW;simp only [Bool.and_eq_true,decide_eq_true_eq];constructor
 ·rintro ⟨⟨⟨h1,h2⟩,h3⟩,h4⟩;have e:jOf L k=j:=by
   unfold jOf;rw [←h2,←h3];have:=BX (L:=L) hj;rw [h4] at this;exact of_decide_eq_true this
  refine ⟨e,?_⟩;unfold lZ;rw [e,Int.toNat_natCast,h1];simp
 ·rintro ⟨h1,h2⟩;unfold lZ at h2;rw [h1,Int.toNat_natCast] at h2;simp only [Bool.and_eq_true,decide_eq_true_eq] at h2;have hs:ir (aI L j) (aI L k).rank (aI L k).car=true:=by
   unfold jOf at h1;rcases ug L (aI L k).rank (aI L k).car k with ⟨h3,_⟩|⟨j',h3,h4,h5,h6⟩
   ·omega
   ·have:j'=j:=by omega
    subst this;exact h5
  obtain ⟨h3,h4⟩:=pN.1 hs;refine ⟨⟨⟨h2.2,h3⟩,h4⟩,?_⟩;have:=BX (L:=L) hj;rw [h3,h4] at this;rw [←this];unfold jOf at h1;rw [h1];simp
theorem yR {L:List Sg} {k:Nat} (h:0≤jOf L k) : ∃ j:Nat,jOf L k=j∧j < k:=by
 unfold jOf at h ⊢;rcases ug L (aI L k).rank (aI L k).car k with ⟨h1,_⟩|⟨j,h1,h2,_⟩
 ·omega
 ·exact ⟨j,h1,h2⟩
theorem K_ {L:List Sg} {k:Nat} (hk:k < L.length) (h:yP L k=true) : ∃ i j,OverP L i j k:=by
 have h:=of_decide_eq_true h;unfold nD at h;by_cases hc:(aI L k).kind=1∧lZ L k=true
 ·rw [if_pos hc] at h;have h0:0≤jOf L k:=by
   have:=hc.2;unfold lZ at this;simp only [Bool.and_eq_true,decide_eq_true_eq] at this;exact this.1
  obtain ⟨j,e,hj⟩:=yR h0;rw [e,Int.toNat_natCast] at h;have hJ:=(K9 hj).2 ⟨e,hc.2⟩;rcases qn (okI L k) j with ⟨h2,h3⟩|⟨i,h2,h3,h4,h5⟩
  ·omega
  ·rw [K8 (by omega)] at h4;unfold BU at h4;unfold BW at hJ;simp only [Bool.and_eq_true,decide_eq_true_eq,Bool.not_eq_true',decide_eq_false_iff_not] at h4 hJ;refine ⟨i,j,h2,hj,hk,hc.1,h4.1.1.1,h4.1.1.2,h4.1.2,fun hh=>?_,hJ.1.1.1,hJ.1.1.2,hJ.1.2,fun hh=>?_⟩
   ·rw [yQ.2 hh] at h4;simp at h4
   ·rw [yQ.2 hh] at hJ;simp at hJ
 ·rw [if_neg hc] at h;omega
theorem La {L:List Sg} (h:∀ i j k,¬OverP L i j k) : sn L = -1:=
 kQ fun k hk=>by
  cases hf:yP L k
  ·rfl
  ·obtain ⟨i,j,ho⟩:=K_ hk hf;exact absurd ho (h i j k)
structure Sy where
 car:ByteArray
 came:Int
 went:Int
 decl:Int
instance:Inhabited Sy:=⟨⟨ByteArray.empty,0,0,0⟩⟩
@[go_sem] def Sy.av (x:Sy) : List AV:=[S x.car,I x.came,I x.went,I x.decl]
structure Wt where
 car:ByteArray
 rank:Int
 waited:Int
instance:Inhabited Wt:=⟨⟨ByteArray.empty,0,0⟩⟩
@[go_sem] def Wt.av (x:Wt) : List AV:=[S x.car,I x.rank,I x.waited]
def gA (x:Ev) (i:Nat) (y:Sy) : Sy:=
 if x.kind=1 then ⟨y.car,y.came,i,y.decl⟩ else if x.kind=2 then ⟨y.car,y.came,y.went,y.decl+1⟩ else if x.kind=3 then ⟨y.car,y.came,i,y.decl⟩ else if x.kind=5 then ⟨y.car,y.came,-1,y.decl⟩ else y
def cZ (c:ByteArray) (a:List Sy) : Bool:=a.any fun y=>decide (y.car=c)
def iS (c:ByteArray) (f:Sy→Sy) : List Sy→List Sy
 | []=>[]
 | y::a=>if cZ c a then y::iS c f a else if y.car=c then f y::a else y::a
def l5 (a:List Sy) (i:Nat) (x:Ev) : List Sy:=
 if x.kind=4 then a else if x.kind=0 then a++[⟨x.car,i,-1,0⟩] else iS x.car (gA x i) a
def sq:Nat→List Ev→List Sy→List Sy
 | _,[],a=>a
 | i,x::l,a=>sq (i+1) l (l5 a i x)
def kr (c:ByteArray) : Nat→List Ev→Sy→Sy
 | _,[],y=>y
 | k,x::l,y=>if x.car≠c then kr c (k+1) l y else if x.kind=0 then y else kr c (k+1) l (gA x k y)
def kt:Nat→List Ev→List Sy
 | _,[]=>[]
 | i,x::l=>if x.kind≠0 then kt (i+1) l else kr x.car (i+1) l ⟨x.car,i,-1,0⟩::kt (i+1) l
def iH (i:Nat) (l:List Ev) : List Sy→List Sy
 | []=>[]
 | y::a=>(if cZ y.car a then y else kr y.car i l y)::iH i l a
theorem qH (x:Ev) (i:Nat) (y:Sy) : (gA x i y).car=y.car:=by
 unfold gA;split
 ·rfl
 ·split
  ·rfl
  ·split
   ·rfl
   ·split<;>rfl
theorem qI {c:ByteArray} {y:Sy} {a:List Sy} : cZ c (y::a)=(decide (y.car=c) || cZ c a):=rfl
theorem sr {c:ByteArray} {a b:List Sy} : cZ c (a++b)=(cZ c a || cZ c b):=List.any_append
theorem ss {c d:ByteArray} {f:Sy→Sy} (hf:∀ y,(f y).car=y.car) : ∀ a:List Sy,cZ d (iS c f a)=cZ d a
 | []=>rfl
 | y::a=>by
  rw [iS];split
  ·rw [qI,qI,ss hf a]
  ·split
   ·rw [qI,qI,hf]
   ·rfl
theorem Fx:∀ (i:Nat) (a:List Sy),iH i [] a=a
 | _,[]=>rfl
 | i,y::a=>by
  rw [iH,Fx i a,kr];split<;>rfl
theorem yS {i:Nat} {x:Ev} {l:List Ev} : ∀ (a:List Sy),cZ x.car a=false→iH i (x::l) a=iH (i+1) l a
 | [],_=>rfl
 | y::a,h=>by
  rw [qI,Bool.or_eq_false_iff] at h;have hy:=of_decide_eq_false h.1;rw [iH,iH,yS a h.2,kr,if_pos (Ne.symm hy)]
theorem Fy {i:Nat} {x:Ev} {l:List Ev} (hx:x.kind=0) (z:Sy) (hz:z.car=x.car) : ∀ (a:List Sy),iH (i+1) l (a++[z])=iH i (x::l) a++[kr x.car (i+1) l z]
 | []=>by
  rw [List.nil_append,iH,iH,iH,if_neg (by simp [cZ]),hz];rfl
 | y::a=>by
  rw [List.cons_append,iH,iH,Fy hx z hz a,sr];have e1:cZ y.car [z]=decide (x.car=y.car):=by simp [cZ,hz]
  rw [e1];cases hh:cZ y.car a
  ·rw [Bool.false_or,kr];by_cases hc:x.car=y.car
   ·rw [if_pos (by simp [hc]),if_neg (by simp),if_neg (by simp [hc]),if_pos hx];rfl
   ·rw [if_neg (by simp [hc]),if_neg (by simp),if_pos hc];rfl
  ·rw [Bool.true_or,if_pos rfl,if_pos rfl];rfl
theorem Fz {i:Nat} {x:Ev} {l:List Ev} (hx:x.kind≠0) : ∀ (a:List Sy),iH (i+1) l (iS x.car (gA x i) a)=iH i (x::l) a
 | []=>rfl
 | y::a=>by
  rw [iS];cases hh:cZ x.car a
  ·rw [if_neg (by simp)];by_cases hc:y.car=x.car
   ·rw [if_pos hc,iH,iH,yS a hh,qH,hc,hh,if_neg (by simp),if_neg (by simp),kr,if_neg (by simp),if_neg hx]
   ·rw [if_neg hc,←yS (y::a) (by rw [qI,hh,decide_eq_false hc];rfl)]
  ·rw [if_pos rfl,iH,iH,Fz hx a,ss (qH x i)];cases h2:cZ y.car a
   ·rw [if_neg (by simp),if_neg (by simp),kr,if_pos];intro he;rw [he,h2] at hh;cases hh
   ·rw [if_pos rfl,if_pos rfl]
theorem FA:∀ (l:List Ev) (i:Nat) (a:List Sy),(∀ x∈l,x.kind=4→cZ x.car a=false∧∀ y∈l,y.kind=0→y.car≠x.car)→sq i l a=iH i l a++kt i l
 | [],i,a,_=>by rw [sq,Fx,kt,List.append_nil]
 | x::l,i,a,h=>by
  rw [sq,kt];have ba:∀ z∈l,z.kind=4→cZ z.car (l5 a i x)=false∧∀ y∈l,y.kind=0→y.car≠z.car:=fun z hz h4=>by
   obtain ⟨h1,h2⟩:=h z (List.mem_cons_of_mem _ hz) h4;refine ⟨?_,fun y hy=>h2 y (List.mem_cons_of_mem _ hy)⟩;unfold l5;split
   ·exact h1
   ·split
    ·rename_i h0;rw [sr,h1];have:=h2 x (by simp) h0;simp [cZ,this]
    ·rw [ss (qH x i),h1]
  rw [FA l (i+1) _ ba];unfold l5;by_cases h4:x.kind=4
  ·rw [if_pos h4,if_pos (by omega),yS a (h x (by simp) h4).1]
  ·rw [if_neg h4];by_cases h0:x.kind=0
   ·rw [if_pos h0,if_neg (by omega),Fy h0 _ rfl,List.append_assoc];rfl
   ·rw [if_neg h0,if_pos h0,Fz h0]
def jE (c:ByteArray) : Nat→List Sy→Int
 | _,[]=>-1
 | k,y::a=>if cZ c a then jE c (k+1) a else if y.car=c then k else -1
theorem qJ {c:ByteArray} : ∀ (a:List Sy) (k:Nat),cZ c a=true→∃ j:Nat,jE c k a=((k+j:Nat) : Int)∧∃ hj:j < a.length,(a[j]).car=c∧∀ f,iS c f a=a.set j (f a[j])
 | [],_,h=>by simp [cZ] at h
 | y::a,k,h=>by
  rw [jE];cases hh:cZ c a
  ·rw [qI,hh,Bool.or_false,decide_eq_true_eq] at h;rw [if_neg (by simp),if_pos h];refine ⟨0,by simp,by simp,by simpa using h,fun f=>?_⟩;rw [iS,hh,if_neg (by simp),if_pos h];rfl
  ·rw [if_pos rfl];obtain ⟨j,h1,hj,h2,h3⟩:=qJ a (k+1) hh;refine ⟨j+1,by rw [h1];congr 1;omega,by simpa using hj,by simpa using h2,fun f=>?_⟩;rw [iS,hh,if_pos rfl,h3 f];rfl
theorem BY {c d:ByteArray} {z:Sy} (hz:z.car=d) : ∀ (a:List Sy) (k:Nat),jE c k (a++[z])=if d=c then ((k+a.length:Nat) : Int) else jE c k a
 | [],k=>by
  rw [List.nil_append,jE,jE,jE,if_neg (by simp [cZ]),hz];rfl
 | y::a,k=>by
  rw [List.cons_append,jE,BY hz a (k+1),sr];have e1:cZ c [z]=decide (d=c):=by simp [cZ,hz]
  rw [e1,jE];by_cases hd:d=c
  ·rw [if_pos hd,if_pos hd,decide_eq_true hd,Bool.or_true,if_pos rfl];congr 1;simp;omega
  ·rw [if_neg hd,if_neg hd,decide_eq_false hd,Bool.or_false]
theorem BZ {c d:ByteArray} {f:Sy→Sy} (hf:∀ y,(f y).car=y.car) : ∀ (a:List Sy) (k:Nat),jE d k (iS c f a)=jE d k a
 | [],_=>rfl
 | y::a,k=>by
  rw [iS];split
  ·rw [jE,jE,ss hf,BZ hf a]
  ·split
   ·rw [jE,jE,hf]
   ·rfl
theorem FB {c:ByteArray} {s:St} : c∈fP s↔0 < cnt c s.q.flatten+cnt c (s.tk.map (·.car)):=by rw [←iE,kF]
theorem B0 {q:List (List ByteArray)} {k:Nat} (hk:k < q.length) {c:ByteArray} (h:c∈qat q k) : 0 < cnt c q.flatten:=by
 refine kF.2 (List.mem_flatten.2 ⟨qat q k,?_,h⟩);rw [gM hk];exact List.getElem_mem hk
theorem parts {r:Ru} {s:St} {x:Ev} (h:apE r s x=0) : evE r x=0∧s.time≤x.time∧doE r s x x.rank.toNat=0∧x.rank=(x.rank.toNat:Int)∧x.rank.toNat < r.ranks.length:=by
 unfold apE at h;rw [cm,cm,cm] at h;obtain ⟨h1,h2,h3,_⟩:=h;have:=rW h1;exact ⟨h1,of_decide_eq_true (eQ (by decide) h2),h3,by omega,by omega⟩
theorem FC {r:Ru} {s:St} (hl:s.q.length=r.ranks.length) {x:Ev} (h:apE r s x=0) (h0:x.kind≠0) (h4:x.kind≠4) : x.car∈fP s:=by
 obtain ⟨h1,h2,h3,h5,h6⟩:=parts h;have hk:x.rank.toNat < s.q.length:=by omega
 have iO:=qo h1;rw [FB];unfold doE at h3;rw [if_neg h0] at h3;by_cases k1:x.kind=1
 ·rw [if_pos k1] at h3;unfold jz at h3;rw [cm] at h3;obtain ⟨t,e⟩:=oE h3.1;have:=B0 hk (c:=x.car) (by rw [e];simp);omega
 rw [if_neg k1] at h3;by_cases k2:x.kind=2
 ·rw [if_pos k2] at h3;obtain ⟨t,e⟩:=oE h3;have:=B0 hk (c:=x.car) (by rw [e];simp);omega
 rw [if_neg k2] at h3;by_cases k3:x.kind=3
 ·rw [if_pos k3] at h3;unfold ql at h3;have hn:¬fj (qat s.q x.rank.toNat) x.car < 0:=fun hh=>by
   rw [if_pos hh] at h3;cases h3
  have:=B0 hk (Classical.byContradiction fun hc=>hn (tN.2 hc));omega
 rw [if_neg k3,if_neg h4] at h3;unfold my at h3;split at h3
 ·cases h3
 ·rename_i kI;have hm:x.car∈s.tk.map (·.car):=Classical.byContradiction fun hc=>kI (.inl (pt.2 hc));have:=kF.2 hm;omega
theorem FD {r:Ru} (hr:RuOK r) (c:ByteArray) : ∀ (n:Nat) (s:St) (m:List Sg),Inv r s→cnt c (fP (bZ r n s m).1)=cnt c (fP s)
 | 0,_,_,_=>rfl
 | n+1,s,m,h=>by
  rw [bZ];split
  ·rfl
  ·rename_i hn;obtain ⟨k,e,hk,hp⟩:=kH hn;rw [e,Int.toNat_natCast];obtain ⟨h1,h2,h3⟩:=kG hp;have ca:k < s.q.length:=by rw [h.len];exact hk
   obtain ⟨g1,g2,g3⟩:=hr.feedN hk h1;rw [FD hr c n _ _ (h.up hr ca h1 h2 h3),iE,iE];show cnt c (upQ s.q k (feedN r k)).flatten+_=_;rw [A_ ca (by rw [h.len];exact g3) (by omega) h2];rfl
theorem Lb {r:Ru} {s:St} (hr:RuOK r) (hi:Inv r s) {x:Ev} (h:apE r s x=0) (c:ByteArray) : cnt c (fP (doS r s x x.rank.toNat))≤cnt c (fP s)+if x.kind=0∧c=x.car then 1 else 0:=by
 obtain ⟨h1,h2,h3,h5,h6⟩:=parts h;have hk:x.rank.toNat < s.q.length:=by rw [hi.len];exact h6
 generalize x.rank.toNat=k at *;rw [iE,iE];unfold doE at h3;unfold doS;by_cases k0:x.kind=0
 ·rw [if_pos k0];unfold rT;simp only;rw [xM hi.once,xL];have g:=jB hk (qat s.q k++[x.car]) c;rw [im,fO,jA] at g;by_cases hc:c=x.car
  ·subst hc;rw [if_pos rfl] at g ⊢;rw [if_pos ⟨k0,rfl⟩];omega
  ·rw [if_neg (Ne.symm hc)] at g;rw [if_neg hc];omega
 rw [if_neg k0] at h3 ⊢;by_cases k1:x.kind=1
 ·rw [if_pos k1] at h3 ⊢;unfold jz at h3;rw [cm] at h3;obtain ⟨t,e⟩:=oE h3.1;unfold ps;simp only [List.map_append,List.map_cons,List.map_nil];have g:=jB hk (qat s.q k).tail c;rw [im,fO,jA];rw [e,List.tail_cons,fO] at g;rw [e,List.tail_cons];omega
 rw [if_neg k1] at h3 ⊢;by_cases k2:x.kind=2
 ·rw [if_pos k2] at h3 ⊢;obtain ⟨t,e⟩:=oE h3;unfold tM oD;simp only;have g:=jB hk ((qat s.q k).tail.take (lh r (qat s.q k).tail.length)++[x.car]++(qat s.q k).tail.drop (lh r (qat s.q k).tail.length)) c;have g3:=im c ((qat s.q k).tail.take (lh r (qat s.q k).tail.length)) ((qat s.q k).tail.drop (lh r (qat s.q k).tail.length));rw [List.take_append_drop] at g3;rw [im,im,fO,jA] at g;have g4:cnt c (qat s.q k)=cnt c (qat s.q k).tail+if x.car=c then 1 else 0:=by rw [e,List.tail_cons,fO]
  omega
 rw [if_neg k2] at h3 ⊢;by_cases k3:x.kind=3
 ·rw [if_pos k3];unfold qm;simp only;have g:=jB hk ((qat s.q k).eraseIdx (fj (qat s.q k) x.car).toNat) c;have g2:=AZ c (qat s.q k) (fj (qat s.q k) x.car).toNat;omega
 rw [if_neg k3] at h3 ⊢;by_cases k4:x.kind=4
 ·rw [if_pos k4] at h3 ⊢;unfold iB at h3;by_cases hf:(rat r.ranks k).feeder = -1
  ·rw [if_pos hf] at h3;cases h3
  ·rw [if_neg hf,cm,cm] at h3;have f2:=of_decide_eq_true (eQ (by decide) h3.2.1);obtain ⟨g1,g2,g3⟩:=hr.feedN h6 hf;show cnt c (upQ s.q k (feedN r k)).flatten+_≤_;rw [A_ hk (by rw [hi.len];exact g3) (by omega) f2];show cnt c s.q.flatten+cnt c (s.tk.map (·.car))≤_;omega
 rw [if_neg k4] at h3 ⊢;unfold my at h3;split at h3
 ·cases h3
 ·rename_i kI;unfold tL;simp only;rw [AY hi.once x fun hh=>kI (.inl hh),xL];have g:=jB hk ([x.car]++qat s.q k) c;rw [im,fO,jA] at g;have hm:x.car∈s.tk.map (·.car):=Classical.byContradiction fun hc=>kI (.inl (pt.2 hc));have g2:=kF.2 hm;by_cases hc:c=x.car
  ·subst hc;rw [if_pos rfl] at g ⊢;omega
  ·rw [if_neg (Ne.symm hc)] at g;rw [if_neg hc];omega
theorem Lc {r:Ru} {s:St} (hr:RuOK r) (hi:Inv r s) {x:Ev} (h:apE r s x=0) {c:ByteArray} (hc:c∈fP (apU r s x).1) : c∈fP s∨x.kind=0∧c=x.car:=by
 obtain ⟨h1,h2,h3,h5,h6⟩:=parts h;have hd:=hi.doS hr h1 h2 h5 h3;have hp:=kF.2 hc;unfold apU at hp;rw [FD hr c _ _ _ hd] at hp;have g:=Lb hr hi h c;change 0 < cnt c (fP (doS r s x x.rank.toNat)) at hp;by_cases hh:x.kind=0∧c=x.car
 ·exact .inr hh
 ·rw [if_neg hh] at g;exact .inl (kF.1 (by omega))
theorem uh {r:Ru} {i:Nat} {x:Ev} {l:List Ev} {s:St} (h:(goP r i (x::l) s).2.2=0) : apE r s x=0∧(goP r (i+1) l (apU r s x).1).2.2=0:=by
 rw [goP] at h;by_cases ha:apE r s x=0
 ·rw [if_neg (by simp [ha])] at h;exact ⟨ha,h⟩
 ·rw [if_pos ha] at h;exact absurd h ha
theorem vY {r:Ru} : ∀ (l:List Ev) (i:Nat) (s:St),(goP r i l s).2.2=0→∀ x∈l,evE r x=0
 | [],_,_,_,x,hx=>by simp at hx
 | y::l,i,s,h,x,hx=>by
  obtain ⟨h1,h2⟩:=uh h;rcases List.mem_cons.1 hx with rfl|hx
  ·exact (parts h1).1
  ·exact vY l (i+1) _ h2 x hx
theorem B1 {r:Ru} {x:Ev} (h:evE r x=0) : (x.kind=4→x.car=ByteArray.empty)∧(x.kind≠4→dj x.car=true):=by
 unfold evE at h;rw [cm,cm,cm,cm,cm] at h;have e4:=eQ (by decide) h.2.2.2.1;have e5:=eQ (by decide) h.2.2.2.2.1;refine ⟨fun hk=>?_,fun hk=>?_⟩
 ·rw [decide_eq_true hk] at e4;simpa using e4
 ·rw [decide_eq_false hk] at e5;simpa using e5
theorem Ld:dj ByteArray.empty=false:=rfl
theorem Lf {r:Ru} {l:List Ev} {s:St} (h:(goP r 0 l s).2.2=0) : sq 0 l []=kt 0 l:=by
 rw [FA l 0 [] fun x hx h4=>⟨rfl,fun y hy h0 he=>?_⟩]
 ·rfl
 ·have h1:=(B1 (vY l 0 s h x hx)).1 h4;have h2:=(B1 (vY l 0 s h y hy)).2 (by omega);rw [he,h1,Ld] at h2;cases h2
def pP (a:List Sy) (c:ByteArray) : Int:=(a.getD (jE c 0 a).toNat default).came
def kR (log:List Ev) (a:List Sy) (x:Ev) : List Wt:=if x.kind=1 then [⟨x.car,x.rank,x.time - (aB log (pP a x.car).toNat).time⟩] else []
def ui (log:List Ev) : Nat→List Ev→List Sy→List Wt
 | _,[],_=>[]
 | i,x::l,a=>kR log a x++ui log (i+1) l (l5 a i x)
def pQ (x:Ev) (c:ByteArray) : Bool:=decide (x.kind=0)&&decide (x.car=c)
def oO (log:List Ev) (c:ByteArray) : Nat→Nat
 | 0=>0
 | k+1=>if pQ (aB log k) c then k else oO log c k
def fI (log:List Ev) : Nat→List Ev→List Wt
 | _,[]=>[]
 | i,x::l=>(if x.kind=1 then [⟨x.car,x.rank,x.time - (aB log (oO log x.car (i+1))).time⟩] else [])++fI log (i+1) l
theorem Lg {a:List Sy} {c d:ByteArray} {z:Sy} (hz:z.car=d) (h:cZ c (a++[z])=true) : pP (a++[z]) c=if d=c then z.came else pP a c:=by
 unfold pP;rw [BY hz];by_cases hd:d=c
 ·rw [if_pos hd,if_pos hd];simp
 ·rw [if_neg hd,if_neg hd];have hc:cZ c a=true:=by
   rw [sr] at h;have e1:cZ c [z]=false:=by simp [cZ,hz,hd]
   rw [e1,Bool.or_false] at h;exact h
  obtain ⟨j,e,hj,_⟩:=qJ a 0 hc;rw [e,Int.toNat_natCast,Nat.zero_add,List.getD_eq_getElem?_getD,List.getElem?_append_left hj,List.getD_eq_getElem?_getD]
theorem Lh {a:List Sy} {c d:ByteArray} {x:Ev} {i:Nat} (h:cZ c a=true) : pP (iS d (gA x i) a) c=pP a c:=by
 unfold pP;rw [BZ (qH x i)];obtain ⟨j,e,hj,_⟩:=qJ a 0 h;rw [e,Int.toNat_natCast,Nat.zero_add];by_cases hd:cZ d a=true
 ·obtain ⟨m,_,hm,_,h3⟩:=qJ a 0 hd;rw [h3,List.getD_eq_getElem?_getD,List.getD_eq_getElem?_getD,List.getElem?_set];split
  ·rename_i Li;subst Li;rw [List.getElem?_eq_getElem hm];simp only [Option.getD_some];unfold gA;split
   ·rfl
   ·split
    ·rfl
    ·split
     ·rfl
     ·split<;>rfl
  ·rfl
 ·have hn:∀ a:List Sy,cZ d a=false→iS d (gA x i) a=a:=fun a=>by
   induction a with
   | nil=>intro _;rfl
   | cons y a ih=>
    intro hh;rw [qI,Bool.or_eq_false_iff] at hh;rw [iS,hh.2,if_neg (by simp),if_neg (of_decide_eq_false hh.1)]
  rw [hn a (by simpa using hd)]
theorem FE {pre:List Ev} {x:Ev} {l:List Ev} : aB (pre++x::l) pre.length=x:=by simp [aB]
def CameOK (log:List Ev) (i:Nat) (a:List Sy) : Prop:=∀ c,cZ c a=true→pP a c=(oO log c i:Int)
theorem CameOK.step {pre:List Ev} {x:Ev} {l:List Ev} {a:List Sy} (h:CameOK (pre++x::l) pre.length a) : CameOK (pre++x::l) (pre.length+1) (l5 a pre.length x):=fun c hc=>by
 rw [oO,FE];unfold l5 at hc ⊢;by_cases h4:x.kind=4
 ·rw [if_pos h4] at hc ⊢;rw [if_neg (by simp [pQ,h4])];exact h c hc
 ·rw [if_neg h4] at hc ⊢;by_cases h0:x.kind=0
  ·rw [if_pos h0] at hc ⊢;rw [Lg rfl hc];by_cases he:x.car=c
   ·rw [if_pos he,if_pos (by simp [pQ,h0,he])]
   ·rw [if_neg he,if_neg (by simp [pQ,he])];rw [sr] at hc;refine h c ?_;simpa [cZ,he] using hc
  ·rw [if_neg h0] at hc ⊢;rw [ss (qH x _)] at hc;rw [Lh hc,if_neg (by simp [pQ,h0])];exact h c hc
theorem Lj {a:List Sy} {i:Nat} {x:Ev} {c:ByteArray} : cZ c (l5 a i x)=(cZ c a || (decide (x.kind=0)&&decide (x.car=c))):=by
 unfold l5;by_cases h4:x.kind=4
 ·rw [if_pos h4,decide_eq_false (by omega)];simp
 ·rw [if_neg h4];by_cases h0:x.kind=0
  ·rw [if_pos h0,sr,decide_eq_true h0];simp [cZ]
  ·rw [if_neg h0,ss (qH x i),decide_eq_false h0];simp
def Known (s:St) (a:List Sy) : Prop:=∀ c∈fP s,cZ c a=true
theorem Known.step {r:Ru} {s:St} (hr:RuOK r) (hi:Inv r s) {a:List Sy} (h:Known s a) {x:Ev} (ha:apE r s x=0) (i:Nat) : Known (apU r s x).1 (l5 a i x):=fun c hc=>by
 rw [Lj];rcases Lc hr hi ha hc with h1|⟨h1,rfl⟩
 ·rw [h c h1];rfl
 ·rw [decide_eq_true h1,decide_eq_true rfl];simp
theorem FF {r:Ru} (hr:RuOK r) : ∀ (l:List Ev) (pre:List Ev) (s:St) (a:List Sy),Inv r s→Known s a→CameOK (pre++l) pre.length a→(goP r pre.length l s).2.2=0→ui (pre++l) pre.length l a=fI (pre++l) pre.length l
 | [],_,_,_,_,_,_,_=>rfl
 | x::l,pre,s,a,hi,hk,hc,h=>by
  obtain ⟨h1,h2⟩:=uh h;rw [ui,fI];have e:pre++x::l=(pre++[x])++l:=by simp
  have hs:=FF hr l (pre++[x]) (apU r s x).1 (l5 a pre.length x) (hi.ap hr h1).1 (hk.step hr hi h1 _) (by
   rw [←e,List.length_append];exact hc.step) (by rw [List.length_append];exact h2)
  rw [←e,List.length_append] at hs;rw [show pre.length+1=pre.length + [x].length from rfl,hs];congr 1;unfold kR;by_cases k1:x.kind=1
  ·rw [if_pos k1,if_pos k1,hc _ (hk _ (FC hi.len h1 (by omega) (by omega))),Int.toNat_natCast];rw [show pre.length + [x].length=pre.length+1 from rfl,oO,FE,if_neg (by simp [pQ,k1])]
  ·rw [if_neg k1,if_neg k1]
theorem Lk {r:Ru} (hr:RuOK r) {l:List Ev} (h:(goP r 0 l (st0 r)).2.2=0) : ui l 0 l []=fI l 0 l:=
 FF hr l [] (st0 r) [] (Inv.st0 hr) (fun c hc=>by
  have h:=kF.2 hc;rw [iE] at h;change 0 < cnt c (List.replicate _ []).flatten+cnt c [] at h;rw [tQ,jA] at h;omega) (fun c hc=>by cases hc) h
abbrev KV:Type:=List (Value×Value)
theorem Ll {a:ByteArray} {k:Value} (h:jV (.string a) k=true) : k = .string a:=by
 cases k<;>simp [jV] at h;rw [h]
theorem B2 (a b:ByteArray) (v:Value) : ∀ m,jg (.string a) (iR (.string b) v m)=if a=b then some v else jg (.string a) m
 | []=>by
  simp only [iR,jg];by_cases h:a=b<;>simp [jV,h]
 | (k,u)::r=>by
  have ih:=B2 a b v r;simp only [iR];by_cases hb:jV (.string b) k=true
  ·have:=Ll hb;subst this;rw [if_pos hb];simp only [jg];by_cases h:a=b<;>simp [jV,h]
  ·rw [if_neg hb];simp only [jg];rw [ih];by_cases h:a=b
   ·subst h;simp [hb]
   ·simp [h]
def oP (m:KV) (c:ByteArray) : Int:=match jg (.string c) m with|some (.int _ v)=>v|_=>0
def su (m:KV) (c:ByteArray) (v:Int) : KV:=iR (.string c) (.int .i64 (oP m c+v)) m
def NumOK (m:KV) (n:Nat) : Prop:=∀ c,jg (.string c) m=none∨∃ v:Int,jg (.string c) m=some (.int .i64 v)∧-(n:Int)≤v∧v≤n
theorem NumOK.at_ {m:KV} {n:Nat} (h:NumOK m n) (c:ByteArray) : (jg (.string c) m).getD (.int .i64 0) = .int .i64 (oP m c)∧-(n:Int)≤oP m c∧oP m c≤n:=by
 unfold oP;rcases h c with h1|⟨v,h1,h2,h3⟩
 ·rw [h1];exact ⟨rfl,by simp,by simp⟩
 ·rw [h1];exact ⟨rfl,h2,h3⟩
theorem NumOK.upd {m:KV} {n:Nat} (h:NumOK m n) (c:ByteArray) {v:Int} (h1 : -((n+1:Nat) : Int)≤v) (h2:v≤((n+1:Nat) : Int)) : NumOK (iR (.string c) (.int .i64 v) m) (n+1):=fun d=>by
 rw [B2];by_cases hd:d=c
 ·rw [if_pos hd];exact .inr ⟨v,rfl,h1,h2⟩
 ·rw [if_neg hd];rcases h d with h3|⟨u,h3,h4,h5⟩
  ·exact .inl h3
  ·exact .inr ⟨u,h3,by omega,by omega⟩
theorem NumOK.next {m:KV} {n:Nat} (h:NumOK m n) : NumOK m (n+1):=fun d=>by
 rcases h d with h3|⟨u,h3,h4,h5⟩
 ·exact .inl h3
 ·exact .inr ⟨u,h3,by omega,by omega⟩
theorem NumOK.add {m:KV} {n:Nat} (h:NumOK m n) (c:ByteArray) {v:Int} (h1 : -1≤v) (h2:v≤1) : NumOK (su m c v) (n+1):=by
 have:=h.at_ c;exact h.upd c (by omega) (by omega)
structure Dy where
 st:List Sy
 op:KV
 wt:List Wt
 sv:KV
def fx (log:List Ev) (d:Dy) (i:Nat) (x:Ev) : Dy:=
 if x.kind=4 then d
 else if x.kind=0 then ⟨d.st++[⟨x.car,i,-1,0⟩],iR (.string x.car) (.int .i64 d.st.length) d.op,d.wt,su d.sv x.car 0⟩
 else ⟨iS x.car (gA x i) d.st,d.op,d.wt++kR log d.st x,if x.kind=1 then su d.sv x.car 1 else if x.kind=5 then su d.sv x.car (-1) else d.sv⟩
theorem B3 (log:List Ev) (d:Dy) (i:Nat) (x:Ev) : (fx log d i x).st=l5 d.st i x:=by
 unfold fx l5;split
 ·rfl
 ·split<;>rfl
theorem FG {c:ByteArray} {f:Sy→Sy} : ∀ {a:List Sy} {y:Sy},y∈iS c f a→y∈a∨∃ z∈a,y=f z
 | [],_,h=>by simp [iS] at h
 | z::a,y,h=>by
  unfold iS at h;split at h
  ·rcases List.mem_cons.1 h with h|h
   ·exact .inl (List.mem_cons.2 (.inl h))
   ·rcases FG h with h|⟨u,h,e⟩
    ·exact .inl (List.mem_cons_of_mem _ h)
    ·exact .inr ⟨u,List.mem_cons_of_mem _ h,e⟩
  ·split at h
   ·rcases List.mem_cons.1 h with h|h
    ·exact .inr ⟨z,List.mem_cons_self ..,h⟩
    ·exact .inl (List.mem_cons_of_mem _ h)
   ·exact .inl h
theorem FH {c:ByteArray} {f:Sy→Sy} : ∀ (a:List Sy),(iS c f a).length=a.length
 | []=>rfl
 | z::a=>by
  unfold iS;split
  ·simp [FH a]
  ·split<;>rfl
structure DyOK (log:List Ev) (i:Nat) (d:Dy) : Prop where
 op:∀ c,cZ c d.st=true→jg (.string c) d.op=some (.int .i64 (jE c 0 d.st))
 st:∀ y∈d.st,0≤y.came∧y.came < i∧(0≤(aB log y.came.toNat).time∧(aB log y.came.toNat).time≤604800)∧0≤y.decl∧y.decl≤i
 sl:d.st.length≤i
 wl:d.wt.length≤i
 sv:NumOK d.sv i
theorem DyOK.zero (log:List Ev) : DyOK log 0 ⟨[],[],[],[]⟩:=
 ⟨fun c h=>by simp [cZ] at h,fun y h=>by simp at h,Nat.le_refl _,Nat.le_refl _,fun c=>.inl rfl⟩
theorem Lm {x:Ev} {i:Nat} {y:Sy} {log:List Ev} (h:0≤y.came∧y.came < i∧(0≤(aB log y.came.toNat).time∧(aB log y.came.toNat).time≤604800)∧0≤y.decl∧y.decl≤i) :
  0≤(gA x i y).came∧(gA x i y).came < ((i+1:Nat) : Int)∧(0≤(aB log (gA x i y).came.toNat).time∧(aB log (gA x i y).came.toNat).time≤604800)∧0≤(gA x i y).decl∧(gA x i y).decl≤((i+1:Nat) : Int):=by
 obtain ⟨h1,h2,h3,h4,h5⟩:=h;unfold gA;split
 ·exact ⟨h1,by simp only;omega,h3,h4,by simp only;omega⟩
 ·split
  ·exact ⟨h1,by simp only;omega,h3,by simp only;omega,by simp only;omega⟩
  ·split
   ·exact ⟨h1,by simp only;omega,h3,h4,by simp only;omega⟩
   ·split
    ·exact ⟨h1,by simp only;omega,h3,h4,by simp only;omega⟩
    ·exact ⟨h1,by omega,h3,h4,by omega⟩
theorem Ln (log:List Ev) (a:List Sy) (x:Ev) : (kR log a x).length≤1:=by
 unfold kR;split
 ·exact Nat.le_refl _
 ·exact Nat.zero_le _
theorem DyOK.step {log:List Ev} {i:Nat} {d:Dy} (h:DyOK log i d) {x:Ev} (hx:x=aB log i) (ht:0≤x.time∧x.time≤604800) : DyOK log (i+1) (fx log d i x):=by
 obtain ⟨h1,h2,h3,h4,h5⟩:=h;have fQ:∀ y∈d.st,0≤y.came∧y.came < ((i+1:Nat) : Int)∧(0≤(aB log y.came.toNat).time∧(aB log y.came.toNat).time≤604800)∧0≤y.decl∧y.decl≤((i+1:Nat) : Int):=fun y hy=>by
  obtain ⟨g1,g2,g3,g4,g5⟩:=h2 y hy;exact ⟨g1,by omega,g3,g4,by omega⟩
 unfold fx;split
 ·exact ⟨h1,fQ,by omega,by omega,h5.next⟩
 ·split
  ·refine ⟨fun c hc=>?_,fun y hy=>?_,?_,by simp only;omega,h5.add _ (by decide) (by decide)⟩
   ·simp only at hc ⊢;rw [B2,BY (d:=x.car) rfl];by_cases h:c=x.car
    ·subst h;rw [if_pos rfl,if_pos rfl,Nat.zero_add]
    ·rw [if_neg h,if_neg (Ne.symm h)];refine h1 c ?_;rw [sr] at hc;simpa [cZ,Ne.symm h] using hc
   ·rcases List.mem_append.1 hy with hy|hy
    ·exact fQ y hy
    ·rw [List.mem_singleton.1 hy];simp only [Int.toNat_natCast];rw [←hx];exact ⟨by omega,by omega,ht,by omega,by omega⟩
   ·simp only [List.length_append,List.length_cons,List.length_nil];omega
  ·refine ⟨fun c hc=>?_,fun y hy=>?_,?_,?_,?_⟩
   ·simp only at hc ⊢;rw [ss (qH x i)] at hc;rw [BZ (qH x i)];exact h1 c hc
   ·rcases FG hy with hy|⟨z,hz,rfl⟩
    ·exact fQ y hy
    ·exact Lm (h2 z hz)
   ·simp only [FH];omega
   ·have:=Ln log d.st x;simp only [List.length_append];omega
   ·simp only;split
    ·exact h5.add _ (by decide) (by decide)
    ·split
     ·exact h5.add _ (by decide) (by decide)
     ·exact h5.next
end Go.Proofs.YtoibondihdhnoaaGreatDoor
