/- Texts in one: Chapter 4: the first car that is overtaken, as the program and as the document have it; no condition. -/
import Derived.Test.YtoibondihdhnoaaGreatDoorFRK21
import Derived.Test.YtoibondihdhnoaaGreatDoorFRK31
namespace Go.Proofs.YtoibondihdhnoaaGreatDoor
open Go.RowKit
def jo (x:Sg) (R:Int) (c:ByteArray) : Bool:=decide (x.rank=R)&&decide (x.car=c)
def ix (L:List Sg) (R:Int) (c:ByteArray) : Nat→Int
 | 0=>-1
 | k+1=>if jo (aU L k) R c then k else ix L R c k
def jOf (L:List Sg) (k:Nat) : Int:=ix L (aU L k).rank (aU L k).car k
def okI (L:List Sg) (k i:Nat) : Bool:=
 decide ((aU L i).kind=0)&&decide ((aU L i).rank=(aU L k).rank)&&!decide ((aU L i).car=(aU L k).car)&&decide (ix L (aU L i).rank (aU L i).car k=i)
def qE (L:List Sg) (k:Nat) : Bool:=decide (0≤jOf L k)&&decide ((aU L (jOf L k).toNat).kind=0)
def oN (L:List Sg) (k:Nat) : Int:=if (aU L k).kind=1∧qE L k=true then ixP (okI L k) 0 (jOf L k).toNat else -1
def E5 (L:List Sg) (k:Nat) : Bool:=decide (0≤oN L k)
def tG (L:List Sg) : Int:=ixP (E5 L) 0 L.length
theorem E6 {x:Sg} {R:Int} {c:ByteArray} : jo x R c=true↔x.rank=R∧x.car=c:=by simp [jo]
theorem yl (L:List Sg) (R:Int) (c:ByteArray) : ∀ k,(ix L R c k = -1∧∀ j,j < k→jo (aU L j) R c=false)∨∃ j:Nat,ix L R c k=j∧j < k∧jo (aU L j) R c=true∧∀ n,j < n→n < k→jo (aU L n) R c=false
 | 0=>.inl ⟨rfl,fun j hj=>by omega⟩
 | k+1=>by
  rw [ix];by_cases h:jo (aU L k) R c=true
  ·rw [if_pos h];exact .inr ⟨k,rfl,by omega,h,fun n h1 h2=>by omega⟩
  ·rw [if_neg h];have hf:jo (aU L k) R c=false:=by simpa using h
   rcases yl L R c k with ⟨h1,h2⟩|⟨j,h1,h2,h3,h4⟩
   ·refine .inl ⟨h1,fun j hj=>?_⟩;by_cases he:j=k
    ·rw [he];exact hf
    ·exact h2 j (by omega)
   ·refine .inr ⟨j,h1,by omega,h3,fun n hn hl=>?_⟩;by_cases he:n=k
    ·rw [he];exact hf
    ·exact h4 n hn (by omega)
theorem Be {L:List Sg} {k:Nat} (h:0≤jOf L k) : ∃ j:Nat,jOf L k=j∧j < k:=by
 unfold jOf at h ⊢;rcases yl L (aU L k).rank (aU L k).car k with ⟨h1,_⟩|⟨j,h1,h2,_⟩
 ·omega
 ·exact ⟨j,h1,h2⟩
structure Sy where
 car:ByteArray
 came:Int
 went:Int
 decl:Int
instance:Inhabited Sy:=⟨⟨ByteArray.empty,0,0,0⟩⟩
@[go_sem] def Sy.av (x:Sy) : List AV:=[S x.car,I x.came,I x.went,I x.decl]
structure Wt where
 car:ByteArray
 rank:Int
 waited:Int
instance:Inhabited Wt:=⟨⟨ByteArray.empty,0,0⟩⟩
@[go_sem] def Wt.av (x:Wt) : List AV:=[S x.car,I x.rank,I x.waited]
def iy (x:Ev) (i:Nat) (y:Sy) : Sy:=
 if x.kind=1 then ⟨y.car,y.came,i,y.decl⟩ else if x.kind=2 then ⟨y.car,y.came,y.went,y.decl+1⟩ else if x.kind=3 then ⟨y.car,y.came,i,y.decl⟩ else if x.kind=5 then ⟨y.car,y.came,-1,y.decl⟩ else y
def eA (c:ByteArray) (a:List Sy) : Bool:=a.any fun y=>decide (y.car=c)
def jH (c:ByteArray) (f:Sy→Sy) : List Sy→List Sy
 | []=>[]
 | y::a=>if eA c a then y::jH c f a else if y.car=c then f y::a else y::a
def pN (a:List Sy) (i:Nat) (x:Ev) : List Sy:=
 if x.kind=4 then a else if x.kind=0 then a++[⟨x.car,i,-1,0⟩] else jH x.car (iy x i) a
theorem vn (x:Ev) (i:Nat) (y:Sy) : (iy x i y).car=y.car:=by
 unfold iy;split
 ·rfl
 ·split
  ·rfl
  ·split
   ·rfl
   ·split<;>rfl
theorem tH {c:ByteArray} {y:Sy} {a:List Sy} : eA c (y::a)=(decide (y.car=c) || eA c a):=rfl
theorem vo {c:ByteArray} {a b:List Sy} : eA c (a++b)=(eA c a || eA c b):=List.any_append
theorem vq {c d:ByteArray} {f:Sy→Sy} (hf:∀ y,(f y).car=y.car) : ∀ a:List Sy,eA d (jH c f a)=eA d a
 | []=>rfl
 | y::a=>by
  rw [jH];split
  ·rw [tH,tH,vq hf a]
  ·split
   ·rw [tH,tH,hf]
   ·rfl
def jI (c:ByteArray) : Nat→List Sy→Int
 | _,[]=>-1
 | k,y::a=>if eA c a then jI c (k+1) a else if y.car=c then k else -1
theorem qF {c:ByteArray} : ∀ (a:List Sy) (k:Nat),eA c a=true→∃ j:Nat,jI c k a=((k+j:Nat) : Int)∧∃ hj:j < a.length,(a[j]).car=c∧∀ f,jH c f a=a.set j (f a[j])
 | [],_,h=>by simp [eA] at h
 | y::a,k,h=>by
  rw [jI];cases hh:eA c a
  ·rw [tH,hh,Bool.or_false,decide_eq_true_eq] at h;rw [if_neg (by simp),if_pos h];refine ⟨0,by simp,by simp,by simpa using h,fun f=>?_⟩;rw [jH,hh,if_neg (by simp),if_pos h];rfl
  ·rw [if_pos rfl];obtain ⟨j,h1,hj,h2,h3⟩:=qF a (k+1) hh;refine ⟨j+1,by rw [h1];congr 1;omega,by simpa using hj,by simpa using h2,fun f=>?_⟩;rw [jH,hh,if_pos rfl,h3 f];rfl
theorem Bf {c d:ByteArray} {z:Sy} (hz:z.car=d) : ∀ (a:List Sy) (k:Nat),jI c k (a++[z])=if d=c then ((k+a.length:Nat) : Int) else jI c k a
 | [],k=>by
  rw [List.nil_append,jI,jI,jI,if_neg (by simp [eA]),hz];rfl
 | y::a,k=>by
  rw [List.cons_append,jI,Bf hz a (k+1),vo];have e1:eA c [z]=decide (d=c):=by simp [eA,hz]
  rw [e1,jI];by_cases hd:d=c
  ·rw [if_pos hd,if_pos hd,decide_eq_true hd,Bool.or_true,if_pos rfl];congr 1;simp;omega
  ·rw [if_neg hd,if_neg hd,decide_eq_false hd,Bool.or_false]
theorem Bg {c d:ByteArray} {f:Sy→Sy} (hf:∀ y,(f y).car=y.car) : ∀ (a:List Sy) (k:Nat),jI d k (jH c f a)=jI d k a
 | [],_=>rfl
 | y::a,k=>by
  rw [jH];split
  ·rw [jI,jI,vq hf,Bg hf a]
  ·split
   ·rw [jI,jI,hf]
   ·rfl
theorem E7 {c:ByteArray} {s:St} : c∈fQ s↔0 < cnt c s.q.flatten+cnt c (s.tk.map (·.car)):=by rw [←iI,j2]
theorem Bh {q:List (List ByteArray)} {k:Nat} (hk:k < q.length) {c:ByteArray} (h:c∈qat q k) : 0 < cnt c q.flatten:=by
 refine j2.2 (List.mem_flatten.2 ⟨qat q k,?_,h⟩);rw [eM hk];exact List.getElem_mem hk
theorem parts {r:Ru} {s:St} {x:Ev} (h:apE r s x=0) : evE r x=0∧s.time≤x.time∧doE r s x x.rank.toNat=0∧x.rank=(x.rank.toNat:Int)∧x.rank.toNat < r.ranks.length:=by
 unfold apE at h;rw [cj,cj,cj] at h;obtain ⟨h1,h2,h3,_⟩:=h;have:=ve h1;exact ⟨h1,of_decide_eq_true (ft (by decide) h2),h3,by omega,by omega⟩
theorem E8 {r:Ru} {s:St} (hl:s.q.length=r.ranks.length) {x:Ev} (h:apE r s x=0) (h0:x.kind≠0) (h4:x.kind≠4) : x.car∈fQ s:=by
 obtain ⟨h1,h2,h3,h5,h6⟩:=parts h;have hk:x.rank.toNat < s.q.length:=by omega
 have kW:=vd h1;rw [E7];unfold doE at h3;rw [if_neg h0] at h3;by_cases k1:x.kind=1
 ·rw [if_pos k1] at h3;unfold kC at h3;rw [cj] at h3;obtain ⟨t,e⟩:=rT h3.1;have:=Bh hk (c:=x.car) (by rw [e];simp);omega
 rw [if_neg k1] at h3;by_cases k2:x.kind=2
 ·rw [if_pos k2] at h3;obtain ⟨t,e⟩:=rT h3;have:=Bh hk (c:=x.car) (by rw [e];simp);omega
 rw [if_neg k2] at h3;by_cases k3:x.kind=3
 ·rw [if_pos k3] at h3;unfold rQ at h3;have hn:¬fx (qat s.q x.rank.toNat) x.car < 0:=fun hh=>by
   rw [if_pos hh] at h3;cases h3
  have:=Bh hk (Classical.byContradiction fun hc=>hn (vb.2 hc));omega
 rw [if_neg k3,if_neg h4] at h3;unfold mA at h3;split at h3
 ·cases h3
 ·rename_i kU;have hm:x.car∈s.tk.map (·.car):=Classical.byContradiction fun hc=>kU (.inl (pC.2 hc));have:=j2.2 hm;omega
theorem E9 {r:Ru} (hr:RuOK r) (c:ByteArray) : ∀ (n:Nat) (s:St) (m:List Sg),Inv r s→cnt c (fQ (cD r n s m).1)=cnt c (fQ s)
 | 0,_,_,_=>rfl
 | n+1,s,m,h=>by
  rw [cD];split
  ·rfl
  ·rename_i hn;obtain ⟨k,e,hk,hp⟩:=nz hn;rw [e,Int.toNat_natCast];obtain ⟨h1,h2,h3⟩:=ny hp;have cF:k < s.q.length:=by rw [h.len];exact hk
   obtain ⟨g1,g2,g3⟩:=hr.feedN hk h1;rw [E9 hr c n _ _ (h.up hr cF h1 h2 h3),iI,iI];show cnt c (upQ s.q k (feedN r k)).flatten+_=_;rw [AM cF (by rw [h.len];exact g3) (by omega) h2];rfl
theorem Kk {r:Ru} {s:St} (hr:RuOK r) (hi:Inv r s) {x:Ev} (h:apE r s x=0) (c:ByteArray) : cnt c (fQ (doS r s x x.rank.toNat))≤cnt c (fQ s)+if x.kind=0∧c=x.car then 1 else 0:=by
 obtain ⟨h1,h2,h3,h5,h6⟩:=parts h;have hk:x.rank.toNat < s.q.length:=by rw [hi.len];exact h6
 generalize x.rank.toNat=k at *;rw [iI,iI];unfold doE at h3;unfold doS;by_cases k0:x.kind=0
 ·rw [if_pos k0];unfold va;simp only;rw [xL hi.once,xK];have g:=j3 hk (qat s.q k++[x.car]) c;rw [gW,fP,jm] at g;by_cases hc:c=x.car
  ·subst hc;rw [if_pos rfl] at g ⊢;rw [if_pos ⟨k0,rfl⟩];omega
  ·rw [if_neg (Ne.symm hc)] at g;rw [if_neg hc];omega
 rw [if_neg k0] at h3 ⊢;by_cases k1:x.kind=1
 ·rw [if_pos k1] at h3 ⊢;unfold kC at h3;rw [cj] at h3;obtain ⟨t,e⟩:=rT h3.1;unfold tr;simp only [List.map_append,List.map_cons,List.map_nil];have g:=j3 hk (qat s.q k).tail c;rw [gW,fP,jm];rw [e,List.tail_cons,fP] at g;rw [e,List.tail_cons];omega
 rw [if_neg k1] at h3 ⊢;by_cases k2:x.kind=2
 ·rw [if_pos k2] at h3 ⊢;obtain ⟨t,e⟩:=rT h3;unfold xJ pB;simp only;have g:=j3 hk ((qat s.q k).tail.take (lz r (qat s.q k).tail.length)++[x.car]++(qat s.q k).tail.drop (lz r (qat s.q k).tail.length)) c;have g3:=gW c ((qat s.q k).tail.take (lz r (qat s.q k).tail.length)) ((qat s.q k).tail.drop (lz r (qat s.q k).tail.length));rw [List.take_append_drop] at g3;rw [gW,gW,fP,jm] at g;have g4:cnt c (qat s.q k)=cnt c (qat s.q k).tail+if x.car=c then 1 else 0:=by rw [e,List.tail_cons,fP]
  omega
 rw [if_neg k2] at h3 ⊢;by_cases k3:x.kind=3
 ·rw [if_pos k3];unfold tu;simp only;have g:=j3 hk ((qat s.q k).eraseIdx (fx (qat s.q k) x.car).toNat) c;have g2:=AK c (qat s.q k) (fx (qat s.q k) x.car).toNat;omega
 rw [if_neg k3] at h3 ⊢;by_cases k4:x.kind=4
 ·rw [if_pos k4] at h3 ⊢;unfold jG at h3;by_cases hf:(rat r.ranks k).feeder = -1
  ·rw [if_pos hf] at h3;cases h3
  ·rw [if_neg hf,cj,cj] at h3;have f2:=of_decide_eq_true (ft (by decide) h3.2.1);obtain ⟨g1,g2,g3⟩:=hr.feedN h6 hf;show cnt c (upQ s.q k (feedN r k)).flatten+_≤_;rw [AM hk (by rw [hi.len];exact g3) (by omega) f2];show cnt c s.q.flatten+cnt c (s.tk.map (·.car))≤_;omega
 rw [if_neg k4] at h3 ⊢;unfold mA at h3;split at h3
 ·cases h3
 ·rename_i kU;unfold u_;simp only;rw [AJ hi.once x fun hh=>kU (.inl hh),xK];have g:=j3 hk ([x.car]++qat s.q k) c;rw [gW,fP,jm] at g;have hm:x.car∈s.tk.map (·.car):=Classical.byContradiction fun hc=>kU (.inl (pC.2 hc));have g2:=j2.2 hm;by_cases hc:c=x.car
  ·subst hc;rw [if_pos rfl] at g ⊢;omega
  ·rw [if_neg (Ne.symm hc)] at g;rw [if_neg hc];omega
theorem Kl {r:Ru} {s:St} (hr:RuOK r) (hi:Inv r s) {x:Ev} (h:apE r s x=0) {c:ByteArray} (hc:c∈fQ (apU r s x).1) : c∈fQ s∨x.kind=0∧c=x.car:=by
 obtain ⟨h1,h2,h3,h5,h6⟩:=parts h;have hd:=hi.doS hr h1 h2 h5 h3;have hp:=j2.2 hc;unfold apU at hp;rw [E9 hr c _ _ _ hd] at hp;have g:=Kk hr hi h c;change 0 < cnt c (fQ (doS r s x x.rank.toNat)) at hp;by_cases hh:x.kind=0∧c=x.car
 ·exact .inr hh
 ·rw [if_neg hh] at g;exact .inl (j2.1 (by omega))
theorem ym {r:Ru} {i:Nat} {x:Ev} {l:List Ev} {s:St} (h:(goP r i (x::l) s).2.2=0) : apE r s x=0∧(goP r (i+1) l (apU r s x).1).2.2=0:=by
 rw [goP] at h;by_cases ha:apE r s x=0
 ·rw [if_neg (by simp [ha])] at h;exact ⟨ha,h⟩
 ·rw [if_pos ha] at h;exact absurd h ha
def pP (a:List Sy) (c:ByteArray) : Int:=(a.getD (jI c 0 a).toNat default).came
def kY (log:List Ev) (a:List Sy) (x:Ev) : List Wt:=if x.kind=1 then [⟨x.car,x.rank,x.time - (aP log (pP a x.car).toNat).time⟩] else []
def tI (log:List Ev) : Nat→List Ev→List Sy→List Wt
 | _,[],_=>[]
 | i,x::l,a=>kY log a x++tI log (i+1) l (pN a i x)
def tJ (x:Ev) (c:ByteArray) : Bool:=decide (x.kind=0)&&decide (x.car=c)
def vr (log:List Ev) (c:ByteArray) : Nat→Nat
 | 0=>0
 | k+1=>if tJ (aP log k) c then k else vr log c k
def tK (log:List Ev) : Nat→List Ev→List Wt
 | _,[]=>[]
 | i,x::l=>(if x.kind=1 then [⟨x.car,x.rank,x.time - (aP log (vr log x.car (i+1))).time⟩] else [])++tK log (i+1) l
theorem Km {a:List Sy} {c d:ByteArray} {z:Sy} (hz:z.car=d) (h:eA c (a++[z])=true) : pP (a++[z]) c=if d=c then z.came else pP a c:=by
 unfold pP;rw [Bf hz];by_cases hd:d=c
 ·rw [if_pos hd,if_pos hd];simp
 ·rw [if_neg hd,if_neg hd];have hc:eA c a=true:=by
   rw [vo] at h;have e1:eA c [z]=false:=by simp [eA,hz,hd]
   rw [e1,Bool.or_false] at h;exact h
  obtain ⟨j,e,hj,_⟩:=qF a 0 hc;rw [e,Int.toNat_natCast,Nat.zero_add,List.getD_eq_getElem?_getD,List.getElem?_append_left hj,List.getD_eq_getElem?_getD]
theorem Kn {a:List Sy} {c d:ByteArray} {x:Ev} {i:Nat} (h:eA c a=true) : pP (jH d (iy x i) a) c=pP a c:=by
 unfold pP;rw [Bg (vn x i)];obtain ⟨j,e,hj,_⟩:=qF a 0 h;rw [e,Int.toNat_natCast,Nat.zero_add];by_cases hd:eA d a=true
 ·obtain ⟨m,_,hm,_,h3⟩:=qF a 0 hd;rw [h3,List.getD_eq_getElem?_getD,List.getD_eq_getElem?_getD,List.getElem?_set];split
  ·rename_i Kp;subst Kp;rw [List.getElem?_eq_getElem hm];simp only [Option.getD_some];unfold iy;split
   ·rfl
   ·split
    ·rfl
    ·split
     ·rfl
     ·split<;>rfl
  ·rfl
 ·have hn:∀ a:List Sy,eA d a=false→jH d (iy x i) a=a:=fun a=>by
   induction a with
   | nil=>intro _;rfl
   | cons y a ih=>
    intro hh;rw [tH,Bool.or_eq_false_iff] at hh;rw [jH,hh.2,if_neg (by simp),if_neg (of_decide_eq_false hh.1)]
  rw [hn a (by simpa using hd)]
theorem E_ {pre:List Ev} {x:Ev} {l:List Ev} : aP (pre++x::l) pre.length=x:=by simp [aP]
def CameOK (log:List Ev) (i:Nat) (a:List Sy) : Prop:=∀ c,eA c a=true→pP a c=(vr log c i:Int)
theorem CameOK.step {pre:List Ev} {x:Ev} {l:List Ev} {a:List Sy} (h:CameOK (pre++x::l) pre.length a) : CameOK (pre++x::l) (pre.length+1) (pN a pre.length x):=fun c hc=>by
 rw [vr,E_];unfold pN at hc ⊢;by_cases h4:x.kind=4
 ·rw [if_pos h4] at hc ⊢;rw [if_neg (by simp [tJ,h4])];exact h c hc
 ·rw [if_neg h4] at hc ⊢;by_cases h0:x.kind=0
  ·rw [if_pos h0] at hc ⊢;rw [Km rfl hc];by_cases he:x.car=c
   ·rw [if_pos he,if_pos (by simp [tJ,h0,he])]
   ·rw [if_neg he,if_neg (by simp [tJ,he])];rw [vo] at hc;refine h c ?_;simpa [eA,he] using hc
  ·rw [if_neg h0] at hc ⊢;rw [vq (vn x _)] at hc;rw [Kn hc,if_neg (by simp [tJ,h0])];exact h c hc
theorem Kq {a:List Sy} {i:Nat} {x:Ev} {c:ByteArray} : eA c (pN a i x)=(eA c a || (decide (x.kind=0)&&decide (x.car=c))):=by
 unfold pN;by_cases h4:x.kind=4
 ·rw [if_pos h4,decide_eq_false (by omega)];simp
 ·rw [if_neg h4];by_cases h0:x.kind=0
  ·rw [if_pos h0,vo,decide_eq_true h0];simp [eA]
  ·rw [if_neg h0,vq (vn x i),decide_eq_false h0];simp
def Known (s:St) (a:List Sy) : Prop:=∀ c∈fQ s,eA c a=true
theorem Known.step {r:Ru} {s:St} (hr:RuOK r) (hi:Inv r s) {a:List Sy} (h:Known s a) {x:Ev} (ha:apE r s x=0) (i:Nat) : Known (apU r s x).1 (pN a i x):=fun c hc=>by
 rw [Kq];rcases Kl hr hi ha hc with h1|⟨h1,rfl⟩
 ·rw [h c h1];rfl
 ·rw [decide_eq_true h1,decide_eq_true rfl];simp
theorem Fa {r:Ru} (hr:RuOK r) : ∀ (l:List Ev) (pre:List Ev) (s:St) (a:List Sy),Inv r s→Known s a→CameOK (pre++l) pre.length a→(goP r pre.length l s).2.2=0→tI (pre++l) pre.length l a=tK (pre++l) pre.length l
 | [],_,_,_,_,_,_,_=>rfl
 | x::l,pre,s,a,hi,hk,hc,h=>by
  obtain ⟨h1,h2⟩:=ym h;rw [tI,tK];have e:pre++x::l=(pre++[x])++l:=by simp
  have hs:=Fa hr l (pre++[x]) (apU r s x).1 (pN a pre.length x) (hi.ap hr h1).1 (hk.step hr hi h1 _) (by
   rw [←e,List.length_append];exact hc.step) (by rw [List.length_append];exact h2)
  rw [←e,List.length_append] at hs;rw [show pre.length+1=pre.length + [x].length from rfl,hs];congr 1;unfold kY;by_cases k1:x.kind=1
  ·rw [if_pos k1,if_pos k1,hc _ (hk _ (E8 hi.len h1 (by omega) (by omega))),Int.toNat_natCast];rw [show pre.length + [x].length=pre.length+1 from rfl,vr,E_,if_neg (by simp [tJ,k1])]
  ·rw [if_neg k1,if_neg k1]
theorem Ks {r:Ru} (hr:RuOK r) {l:List Ev} (h:(goP r 0 l (st0 r)).2.2=0) : tI l 0 l []=tK l 0 l:=
 Fa hr l [] (st0 r) [] (Inv.st0 hr) (fun c hc=>by
  have h:=j2.2 hc;rw [iI] at h;change 0 < cnt c (List.replicate _ []).flatten+cnt c [] at h;rw [vf,jm] at h;omega) (fun c hc=>by cases hc) h
abbrev KV:Type:=List (Value×Value)
theorem Kt {a:ByteArray} {k:Value} (h:j5 (.string a) k=true) : k = .string a:=by
 cases k<;>simp [j5] at h;rw [h]
theorem yn (a b:ByteArray) (v:Value) : ∀ m,iz (.string a) (iN (.string b) v m)=if a=b then some v else iz (.string a) m
 | []=>by
  simp only [iN,iz];by_cases h:a=b<;>simp [j5,h]
 | (k,u)::r=>by
  have ih:=yn a b v r;simp only [iN];by_cases hb:j5 (.string b) k=true
  ·have:=Kt hb;subst this;rw [if_pos hb];simp only [iz];by_cases h:a=b<;>simp [j5,h]
  ·rw [if_neg hb];simp only [iz];rw [ih];by_cases h:a=b
   ·subst h;simp [hb]
   ·simp [h]
def oO (m:KV) (c:ByteArray) : Int:=match iz (.string c) m with|some (.int _ v)=>v|_=>0
def r_ (m:KV) (c:ByteArray) (v:Int) : KV:=iN (.string c) (.int .i64 (oO m c+v)) m
def NumOK (m:KV) (n:Nat) : Prop:=∀ c,iz (.string c) m=none∨∃ v:Int,iz (.string c) m=some (.int .i64 v)∧-(n:Int)≤v∧v≤n
theorem NumOK.at_ {m:KV} {n:Nat} (h:NumOK m n) (c:ByteArray) : (iz (.string c) m).getD (.int .i64 0) = .int .i64 (oO m c)∧-(n:Int)≤oO m c∧oO m c≤n:=by
 unfold oO;rcases h c with h1|⟨v,h1,h2,h3⟩
 ·rw [h1];exact ⟨rfl,by simp,by simp⟩
 ·rw [h1];exact ⟨rfl,h2,h3⟩
theorem NumOK.upd {m:KV} {n:Nat} (h:NumOK m n) (c:ByteArray) {v:Int} (h1 : -((n+1:Nat) : Int)≤v) (h2:v≤((n+1:Nat) : Int)) : NumOK (iN (.string c) (.int .i64 v) m) (n+1):=fun d=>by
 rw [yn];by_cases hd:d=c
 ·rw [if_pos hd];exact .inr ⟨v,rfl,h1,h2⟩
 ·rw [if_neg hd];rcases h d with h3|⟨u,h3,h4,h5⟩
  ·exact .inl h3
  ·exact .inr ⟨u,h3,by omega,by omega⟩
theorem NumOK.next {m:KV} {n:Nat} (h:NumOK m n) : NumOK m (n+1):=fun d=>by
 rcases h d with h3|⟨u,h3,h4,h5⟩
 ·exact .inl h3
 ·exact .inr ⟨u,h3,by omega,by omega⟩
theorem NumOK.add {m:KV} {n:Nat} (h:NumOK m n) (c:ByteArray) {v:Int} (h1 : -1≤v) (h2:v≤1) : NumOK (r_ m c v) (n+1):=by
 have:=h.at_ c;exact h.upd c (by omega) (by omega)
structure Dy where
 st:List Sy
 op:KV
 wt:List Wt
 sv:KV
def fF (log:List Ev) (d:Dy) (i:Nat) (x:Ev) : Dy:=
 if x.kind=4 then d
 else if x.kind=0 then ⟨d.st++[⟨x.car,i,-1,0⟩],iN (.string x.car) (.int .i64 d.st.length) d.op,d.wt,r_ d.sv x.car 0⟩
 else ⟨jH x.car (iy x i) d.st,d.op,d.wt++kY log d.st x,if x.kind=1 then r_ d.sv x.car 1 else if x.kind=5 then r_ d.sv x.car (-1) else d.sv⟩
theorem Fb (log:List Ev) (d:Dy) (i:Nat) (x:Ev) : (fF log d i x).st=pN d.st i x:=by
 unfold fF pN;split
 ·rfl
 ·split<;>rfl
theorem Fc {c:ByteArray} {f:Sy→Sy} : ∀ {a:List Sy} {y:Sy},y∈jH c f a→y∈a∨∃ z∈a,y=f z
 | [],_,h=>by simp [jH] at h
 | z::a,y,h=>by
  unfold jH at h;split at h
  ·rcases List.mem_cons.1 h with h|h
   ·exact .inl (List.mem_cons.2 (.inl h))
   ·rcases Fc h with h|⟨u,h,e⟩
    ·exact .inl (List.mem_cons_of_mem _ h)
    ·exact .inr ⟨u,List.mem_cons_of_mem _ h,e⟩
  ·split at h
   ·rcases List.mem_cons.1 h with h|h
    ·exact .inr ⟨z,List.mem_cons_self ..,h⟩
    ·exact .inl (List.mem_cons_of_mem _ h)
   ·exact .inl h
theorem Fe {c:ByteArray} {f:Sy→Sy} : ∀ (a:List Sy),(jH c f a).length=a.length
 | []=>rfl
 | z::a=>by
  unfold jH;split
  ·simp [Fe a]
  ·split<;>rfl
structure DyOK (log:List Ev) (i:Nat) (d:Dy) : Prop where
 op:∀ c,eA c d.st=true→iz (.string c) d.op=some (.int .i64 (jI c 0 d.st))
 st:∀ y∈d.st,0≤y.came∧y.came < i∧(0≤(aP log y.came.toNat).time∧(aP log y.came.toNat).time≤604800)∧0≤y.decl∧y.decl≤i
 sl:d.st.length≤i
 wl:d.wt.length≤i
 sv:NumOK d.sv i
theorem DyOK.zero (log:List Ev) : DyOK log 0 ⟨[],[],[],[]⟩:=
 ⟨fun c h=>by simp [eA] at h,fun y h=>by simp at h,Nat.le_refl _,Nat.le_refl _,fun c=>.inl rfl⟩
theorem Ku {x:Ev} {i:Nat} {y:Sy} {log:List Ev} (h:0≤y.came∧y.came < i∧(0≤(aP log y.came.toNat).time∧(aP log y.came.toNat).time≤604800)∧0≤y.decl∧y.decl≤i) :
  0≤(iy x i y).came∧(iy x i y).came < ((i+1:Nat) : Int)∧(0≤(aP log (iy x i y).came.toNat).time∧(aP log (iy x i y).came.toNat).time≤604800)∧0≤(iy x i y).decl∧(iy x i y).decl≤((i+1:Nat) : Int):=by
 obtain ⟨h1,h2,h3,h4,h5⟩:=h;unfold iy;split
 ·exact ⟨h1,by simp only;omega,h3,h4,by simp only;omega⟩
 ·split
  ·exact ⟨h1,by simp only;omega,h3,by simp only;omega,by simp only;omega⟩
  ·split
   ·exact ⟨h1,by simp only;omega,h3,h4,by simp only;omega⟩
   ·split
    ·exact ⟨h1,by simp only;omega,h3,h4,by simp only;omega⟩
    ·exact ⟨h1,by omega,h3,h4,by omega⟩
theorem Kv (log:List Ev) (a:List Sy) (x:Ev) : (kY log a x).length≤1:=by
 unfold kY;split
 ·exact Nat.le_refl _
 ·exact Nat.zero_le _
theorem DyOK.step {log:List Ev} {i:Nat} {d:Dy} (h:DyOK log i d) {x:Ev} (hx:x=aP log i) (ht:0≤x.time∧x.time≤604800) : DyOK log (i+1) (fF log d i x):=by
 obtain ⟨h1,h2,h3,h4,h5⟩:=h;have gX:∀ y∈d.st,0≤y.came∧y.came < ((i+1:Nat) : Int)∧(0≤(aP log y.came.toNat).time∧(aP log y.came.toNat).time≤604800)∧0≤y.decl∧y.decl≤((i+1:Nat) : Int):=fun y hy=>by
  obtain ⟨g1,g2,g3,g4,g5⟩:=h2 y hy;exact ⟨g1,by omega,g3,g4,by omega⟩
 unfold fF;split
 ·exact ⟨h1,gX,by omega,by omega,h5.next⟩
 ·split
  ·refine ⟨fun c hc=>?_,fun y hy=>?_,?_,by simp only;omega,h5.add _ (by decide) (by decide)⟩
   ·simp only at hc ⊢;rw [yn,Bf (d:=x.car) rfl];by_cases h:c=x.car
    ·subst h;rw [if_pos rfl,if_pos rfl,Nat.zero_add]
    ·rw [if_neg h,if_neg (Ne.symm h)];refine h1 c ?_;rw [vo] at hc;simpa [eA,Ne.symm h] using hc
   ·rcases List.mem_append.1 hy with hy|hy
    ·exact gX y hy
    ·rw [List.mem_singleton.1 hy];simp only [Int.toNat_natCast];rw [←hx];exact ⟨by omega,by omega,ht,by omega,by omega⟩
   ·simp only [List.length_append,List.length_cons,List.length_nil];omega
  ·refine ⟨fun c hc=>?_,fun y hy=>?_,?_,?_,?_⟩
   ·simp only at hc ⊢;rw [vq (vn x i)] at hc;rw [Bg (vn x i)];exact h1 c hc
   ·rcases Fc hy with hy|⟨z,hz,rfl⟩
    ·exact gX y hy
    ·exact Ku (h2 z hz)
   ·simp only [Fe];omega
   ·have:=Kv log d.st x;simp only [List.length_append];omega
   ·simp only;split
    ·exact h5.add _ (by decide) (by decide)
    ·split
     ·exact h5.add _ (by decide) (by decide)
     ·exact h5.next
end Go.Proofs.YtoibondihdhnoaaGreatDoor
