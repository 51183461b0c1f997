/- Texts in one: Chapter 4: the first car that is overtaken, as the program and as the document have it; no condition. -/
import Derived.Test.YtoibondihdhnoaaGreatDoorFRP21
import Derived.Test.YtoibondihdhnoaaGreatDoorFRP31
namespace Go.Proofs.YtoibondihdhnoaaGreatDoor
open Go.RowKit
def jm (x:Sg) (R:Int) (c:ByteArray) : Bool:=decide (x.rank=R)&&decide (x.car=c)
def iB (L:List Sg) (R:Int) (c:ByteArray) : Nat→Int
 | 0=>-1
 | k+1=>if jm (aQ L k) R c then k else iB L R c k
def jOf (L:List Sg) (k:Nat) : Int:=iB L (aQ L k).rank (aQ L k).car k
def okI (L:List Sg) (k i:Nat) : Bool:=
 decide ((aQ L i).kind=0)&&decide ((aQ L i).rank=(aQ L k).rank)&&!decide ((aQ L i).car=(aQ L k).car)&&decide (iB L (aQ L i).rank (aQ L i).car k=i)
def qH (L:List Sg) (k:Nat) : Bool:=decide (0≤jOf L k)&&decide ((aQ L (jOf L k).toNat).kind=0)
def oZ (L:List Sg) (k:Nat) : Int:=if (aQ L k).kind=1∧qH L k=true then ixP (okI L k) 0 (jOf L k).toNat else -1
def FV (L:List Sg) (k:Nat) : Bool:=decide (0≤oZ L k)
def tM (L:List Sg) : Int:=ixP (FV L) 0 L.length
theorem FW {x:Sg} {R:Int} {c:ByteArray} : jm x R c=true↔x.rank=R∧x.car=c:=by simp [jm]
theorem yx (L:List Sg) (R:Int) (c:ByteArray) : ∀ k,(iB L R c k = -1∧∀ j,j < k→jm (aQ L j) R c=false)∨∃ j:Nat,iB L R c k=j∧j < k∧jm (aQ L j) R c=true∧∀ n,j < n→n < k→jm (aQ L n) R c=false
 | 0=>.inl ⟨rfl,fun j hj=>by omega⟩
 | k+1=>by
  rw [iB];by_cases h:jm (aQ L k) R c=true
  ·rw [if_pos h];exact .inr ⟨k,rfl,by omega,h,fun n h1 h2=>by omega⟩
  ·rw [if_neg h];have hf:jm (aQ L k) R c=false:=by simpa using h
   rcases yx L R c k with ⟨h1,h2⟩|⟨j,h1,h2,h3,h4⟩
   ·refine .inl ⟨h1,fun j hj=>?_⟩;by_cases he:j=k
    ·rw [he];exact hf
    ·exact h2 j (by omega)
   ·refine .inr ⟨j,h1,by omega,h3,fun n hn hl=>?_⟩;by_cases he:n=k
    ·rw [he];exact hf
    ·exact h4 n hn (by omega)
theorem By {L:List Sg} {k:Nat} (h:0≤jOf L k) : ∃ j:Nat,jOf L k=j∧j < k:=by
 unfold jOf at h ⊢;rcases yx L (aQ L k).rank (aQ L k).car k with ⟨h1,_⟩|⟨j,h1,h2,_⟩
 ·omega
 ·exact ⟨j,h1,h2⟩
structure Sy where
 car:ByteArray
 came:Int
 went:Int
 decl:Int
instance:Inhabited Sy:=⟨⟨ByteArray.empty,0,0,0⟩⟩
@[go_sem] def Sy.av (x:Sy) : List AV:=[S x.car,I x.came,I x.went,I x.decl]
structure Wt where
 car:ByteArray
 rank:Int
 waited:Int
instance:Inhabited Wt:=⟨⟨ByteArray.empty,0,0⟩⟩
@[go_sem] def Wt.av (x:Wt) : List AV:=[S x.car,I x.rank,I x.waited]
def lM (x:Ev) (i:Nat) (y:Sy) : Sy:=
 if x.kind=1 then ⟨y.car,y.came,i,y.decl⟩ else if x.kind=2 then ⟨y.car,y.came,y.went,y.decl+1⟩ else if x.kind=3 then ⟨y.car,y.came,i,y.decl⟩ else if x.kind=5 then ⟨y.car,y.came,-1,y.decl⟩ else y
def fq (c:ByteArray) (a:List Sy) : Bool:=a.any fun y=>decide (y.car=c)
def jJ (c:ByteArray) (f:Sy→Sy) : List Sy→List Sy
 | []=>[]
 | y::a=>if fq c a then y::jJ c f a else if y.car=c then f y::a else y::a
def vE (a:List Sy) (i:Nat) (x:Ev) : List Sy:=
 if x.kind=4 then a else if x.kind=0 then a++[⟨x.car,i,-1,0⟩] else jJ x.car (lM x i) a
theorem vF (x:Ev) (i:Nat) (y:Sy) : (lM x i y).car=y.car:=by
 unfold lM;split
 ·rfl
 ·split
  ·rfl
  ·split
   ·rfl
   ·split<;>rfl
theorem tN {c:ByteArray} {y:Sy} {a:List Sy} : fq c (y::a)=(decide (y.car=c) || fq c a):=rfl
theorem vG {c:ByteArray} {a b:List Sy} : fq c (a++b)=(fq c a || fq c b):=List.any_append
theorem vH {c d:ByteArray} {f:Sy→Sy} (hf:∀ y,(f y).car=y.car) : ∀ a:List Sy,fq d (jJ c f a)=fq d a
 | []=>rfl
 | y::a=>by
  rw [jJ];split
  ·rw [tN,tN,vH hf a]
  ·split
   ·rw [tN,tN,hf]
   ·rfl
def jK (c:ByteArray) : Nat→List Sy→Int
 | _,[]=>-1
 | k,y::a=>if fq c a then jK c (k+1) a else if y.car=c then k else -1
theorem yy {c:ByteArray} : ∀ (a:List Sy) (k:Nat),fq c a=true→∃ j:Nat,jK c k a=((k+j:Nat) : Int)∧∃ hj:j < a.length,(a[j]).car=c∧∀ f,jJ c f a=a.set j (f a[j])
 | [],_,h=>by simp [fq] at h
 | y::a,k,h=>by
  rw [jK];cases hh:fq c a
  ·rw [tN,hh,Bool.or_false,decide_eq_true_eq] at h;rw [if_neg (by simp),if_pos h];refine ⟨0,by simp,by simp,by simpa using h,fun f=>?_⟩;rw [jJ,hh,if_neg (by simp),if_pos h];rfl
  ·rw [if_pos rfl];obtain ⟨j,h1,hj,h2,h3⟩:=yy a (k+1) hh;refine ⟨j+1,by rw [h1];congr 1;omega,by simpa using hj,by simpa using h2,fun f=>?_⟩;rw [jJ,hh,if_pos rfl,h3 f];rfl
theorem Bz {c d:ByteArray} {z:Sy} (hz:z.car=d) : ∀ (a:List Sy) (k:Nat),jK c k (a++[z])=if d=c then ((k+a.length:Nat) : Int) else jK c k a
 | [],k=>by
  rw [List.nil_append,jK,jK,jK,if_neg (by simp [fq]),hz];rfl
 | y::a,k=>by
  rw [List.cons_append,jK,Bz hz a (k+1),vG];have e1:fq c [z]=decide (d=c):=by simp [fq,hz]
  rw [e1,jK];by_cases hd:d=c
  ·rw [if_pos hd,if_pos hd,decide_eq_true hd,Bool.or_true,if_pos rfl];congr 1;simp;omega
  ·rw [if_neg hd,if_neg hd,decide_eq_false hd,Bool.or_false]
theorem BA {c d:ByteArray} {f:Sy→Sy} (hf:∀ y,(f y).car=y.car) : ∀ (a:List Sy) (k:Nat),jK d k (jJ c f a)=jK d k a
 | [],_=>rfl
 | y::a,k=>by
  rw [jJ];split
  ·rw [jK,jK,vH hf,BA hf a]
  ·split
   ·rw [jK,jK,hf]
   ·rfl
theorem parts {r:Ru} {s:St} {x:Ev} (h:apE r s x=0) : evE r x=0∧s.time≤x.time∧doE r s x x.rank.toNat=0∧x.rank=(x.rank.toNat:Int)∧x.rank.toNat < r.ranks.length:=by
 unfold apE at h;rw [cg,cg,cg] at h;obtain ⟨h1,h2,h3,_⟩:=h;have:=rW h1;exact ⟨h1,of_decide_eq_true (fx (by decide) h2),h3,by omega,by omega⟩
theorem FX {r:Ru} (hr:RuOK r) (c:ByteArray) : ∀ (n:Nat) (s:St) (m:List Sg),Inv r s→cnt c (gz (cE r n s m).1)=cnt c (gz s)
 | 0,_,_,_=>rfl
 | n+1,s,m,h=>by
  rw [cE];split
  ·rfl
  ·rename_i hn;obtain ⟨k,e,hk,hp⟩:=mS hn;rw [e,Int.toNat_natCast];obtain ⟨h1,h2,h3⟩:=mR hp;have db:k < s.q.length:=by rw [h.len];exact hk
   obtain ⟨g1,g2,g3⟩:=hr.feedN hk h1;rw [FX hr c n _ _ (h.up hr db h1 h2 h3),jk,jk];show cnt c (upQ s.q k (feedN r k)).flatten+_=_;rw [Bb db (by rw [h.len];exact g3) (by omega) h2];rfl
theorem Lu {r:Ru} {s:St} (hr:RuOK r) (hi:Inv r s) {x:Ev} (h:apE r s x=0) (c:ByteArray) : cnt c (gz (doS r s x x.rank.toNat))≤cnt c (gz s)+if x.kind=0∧c=x.car then 1 else 0:=by
 obtain ⟨h1,h2,h3,h5,h6⟩:=parts h;have hk:x.rank.toNat < s.q.length:=by rw [hi.len];exact h6
 generalize x.rank.toNat=k at *;rw [jk,jk];unfold doE at h3;unfold doS;by_cases k0:x.kind=0
 ·rw [if_pos k0];unfold vm;simp only;rw [xX hi.once,xW];have g:=j5 hk (qat s.q k++[x.car]) c;rw [gZ,fQ,j4] at g;by_cases hc:c=x.car
  ·subst hc;rw [if_pos rfl] at g ⊢;rw [if_pos ⟨k0,rfl⟩];omega
  ·rw [if_neg (Ne.symm hc)] at g;rw [if_neg hc];omega
 rw [if_neg k0] at h3 ⊢;by_cases k1:x.kind=1
 ·rw [if_pos k1] at h3 ⊢;unfold kX at h3;rw [cg] at h3;obtain ⟨t,e⟩:=vn h3.1;unfold tA;simp only [List.map_append,List.map_cons,List.map_nil];have g:=j5 hk (qat s.q k).tail c;rw [gZ,fQ,j4];rw [e,List.tail_cons,fQ] at g;rw [e,List.tail_cons];omega
 rw [if_neg k1] at h3 ⊢;by_cases k2:x.kind=2
 ·rw [if_pos k2] at h3 ⊢;obtain ⟨t,e⟩:=vn h3;unfold xU pN;simp only;have g:=j5 hk ((qat s.q k).tail.take (lH r (qat s.q k).tail.length)++[x.car]++(qat s.q k).tail.drop (lH r (qat s.q k).tail.length)) c;have g3:=gZ c ((qat s.q k).tail.take (lH r (qat s.q k).tail.length)) ((qat s.q k).tail.drop (lH r (qat s.q k).tail.length));rw [List.take_append_drop] at g3;rw [gZ,gZ,fQ,j4] at g;have g4:cnt c (qat s.q k)=cnt c (qat s.q k).tail+if x.car=c then 1 else 0:=by rw [e,List.tail_cons,fQ]
  omega
 rw [if_neg k2] at h3 ⊢;by_cases k3:x.kind=3
 ·rw [if_pos k3];unfold tC;simp only;have g:=j5 hk ((qat s.q k).eraseIdx (fH (qat s.q k) x.car).toNat) c;have g2:=A_ c (qat s.q k) (fH (qat s.q k) x.car).toNat;omega
 rw [if_neg k3] at h3 ⊢;by_cases k4:x.kind=4
 ·rw [if_pos k4] at h3 ⊢;unfold jI at h3;by_cases hf:(rat r.ranks k).feeder = -1
  ·rw [if_pos hf] at h3;cases h3
  ·rw [if_neg hf,cg,cg] at h3;have f2:=of_decide_eq_true (fx (by decide) h3.2.1);obtain ⟨g1,g2,g3⟩:=hr.feedN h6 hf;show cnt c (upQ s.q k (feedN r k)).flatten+_≤_;rw [Bb hk (by rw [hi.len];exact g3) (by omega) f2];show cnt c s.q.flatten+cnt c (s.tk.map (·.car))≤_;omega
 rw [if_neg k4] at h3 ⊢;unfold nM at h3;split at h3
 ·cases h3
 ·rename_i mc;unfold vl;simp only;rw [A8 hi.once x fun hh=>mc (.inl hh),xW];have g:=j5 hk ([x.car]++qat s.q k) c;rw [gZ,fQ,j4] at g;have hm:x.car∈s.tk.map (·.car):=Classical.byContradiction fun hc=>mc (.inl (qD.2 hc));have g2:=mb.2 hm;by_cases hc:c=x.car
  ·subst hc;rw [if_pos rfl] at g ⊢;omega
  ·rw [if_neg (Ne.symm hc)] at g;rw [if_neg hc];omega
theorem Lv {r:Ru} {s:St} (hr:RuOK r) (hi:Inv r s) {x:Ev} (h:apE r s x=0) {c:ByteArray} (hc:c∈gz (apU r s x).1) : c∈gz s∨x.kind=0∧c=x.car:=by
 obtain ⟨h1,h2,h3,h5,h6⟩:=parts h;have hd:=hi.doS hr h1 h2 h5 h3;have hp:=mb.2 hc;unfold apU at hp;rw [FX hr c _ _ _ hd] at hp;have g:=Lu hr hi h c;change 0 < cnt c (gz (doS r s x x.rank.toNat)) at hp;by_cases hh:x.kind=0∧c=x.car
 ·exact .inr hh
 ·rw [if_neg hh] at g;exact .inl (mb.1 (by omega))
theorem BB {r:Ru} {i:Nat} {x:Ev} {l:List Ev} {s:St} (h:(goP r i (x::l) s).2.2=0) : apE r s x=0∧(goP r (i+1) l (apU r s x).1).2.2=0:=by
 rw [goP] at h;by_cases ha:apE r s x=0
 ·rw [if_neg (by simp [ha])] at h;exact ⟨ha,h⟩
 ·rw [if_pos ha] at h;exact absurd h ha
theorem FY {r:Ru} : ∀ (l:List Ev) (i:Nat) (s:St),(goP r i l s).2.2=0→∀ x∈l,evE r x=0
 | [],_,_,_,x,hx=>by simp at hx
 | y::l,i,s,h,x,hx=>by
  obtain ⟨h1,h2⟩:=BB h;rcases List.mem_cons.1 hx with rfl|hx
  ·exact (parts h1).1
  ·exact FY l (i+1) _ h2 x hx
def qI (a:List Sy) (c:ByteArray) : Int:=(a.getD (jK c 0 a).toNat default).came
def BC (log:List Ev) (a:List Sy) (x:Ev) : List Wt:=if x.kind=1 then [⟨x.car,x.rank,x.time - (cl log (qI a x.car).toNat).time⟩] else []
def vI (x:Ev) (c:ByteArray) : Bool:=decide (x.kind=0)&&decide (x.car=c)
def BD (log:List Ev) (c:ByteArray) : Nat→Nat
 | 0=>0
 | k+1=>if vI (cl log k) c then k else BD log c k
theorem Lw {a:List Sy} {c d:ByteArray} {z:Sy} (hz:z.car=d) (h:fq c (a++[z])=true) : qI (a++[z]) c=if d=c then z.came else qI a c:=by
 unfold qI;rw [Bz hz];by_cases hd:d=c
 ·rw [if_pos hd,if_pos hd];simp
 ·rw [if_neg hd,if_neg hd];have hc:fq c a=true:=by
   rw [vG] at h;have e1:fq c [z]=false:=by simp [fq,hz,hd]
   rw [e1,Bool.or_false] at h;exact h
  obtain ⟨j,e,hj,_⟩:=yy a 0 hc;rw [e,Int.toNat_natCast,Nat.zero_add,List.getD_eq_getElem?_getD,List.getElem?_append_left hj,List.getD_eq_getElem?_getD]
theorem Lx {a:List Sy} {c d:ByteArray} {x:Ev} {i:Nat} (h:fq c a=true) : qI (jJ d (lM x i) a) c=qI a c:=by
 unfold qI;rw [BA (vF x i)];obtain ⟨j,e,hj,_⟩:=yy a 0 h;rw [e,Int.toNat_natCast,Nat.zero_add];by_cases hd:fq d a=true
 ·obtain ⟨m,_,hm,_,h3⟩:=yy a 0 hd;rw [h3,List.getD_eq_getElem?_getD,List.getD_eq_getElem?_getD,List.getElem?_set];split
  ·rename_i Ly;subst Ly;rw [List.getElem?_eq_getElem hm];simp only [Option.getD_some];unfold lM;split
   ·rfl
   ·split
    ·rfl
    ·split
     ·rfl
     ·split<;>rfl
  ·rfl
 ·have hn:∀ a:List Sy,fq d a=false→jJ d (lM x i) a=a:=fun a=>by
   induction a with
   | nil=>intro _;rfl
   | cons y a ih=>
    intro hh;rw [tN,Bool.or_eq_false_iff] at hh;rw [jJ,hh.2,if_neg (by simp),if_neg (of_decide_eq_false hh.1)]
  rw [hn a (by simpa using hd)]
theorem LA {pre:List Ev} {x:Ev} {l:List Ev} : cl (pre++x::l) pre.length=x:=by simp [cl]
def CameOK (log:List Ev) (i:Nat) (a:List Sy) : Prop:=∀ c,fq c a=true→qI a c=(BD log c i:Int)
theorem CameOK.step {pre:List Ev} {x:Ev} {l:List Ev} {a:List Sy} (h:CameOK (pre++x::l) pre.length a) : CameOK (pre++x::l) (pre.length+1) (vE a pre.length x):=fun c hc=>by
 rw [BD,LA];unfold vE at hc ⊢;by_cases h4:x.kind=4
 ·rw [if_pos h4] at hc ⊢;rw [if_neg (by simp [vI,h4])];exact h c hc
 ·rw [if_neg h4] at hc ⊢;by_cases h0:x.kind=0
  ·rw [if_pos h0] at hc ⊢;rw [Lw rfl hc];by_cases he:x.car=c
   ·rw [if_pos he,if_pos (by simp [vI,h0,he])]
   ·rw [if_neg he,if_neg (by simp [vI,he])];rw [vG] at hc;refine h c ?_;simpa [fq,he] using hc
  ·rw [if_neg h0] at hc ⊢;rw [vH (vF x _)] at hc;rw [Lx hc,if_neg (by simp [vI,h0])];exact h c hc
theorem LB {a:List Sy} {i:Nat} {x:Ev} {c:ByteArray} : fq c (vE a i x)=(fq c a || (decide (x.kind=0)&&decide (x.car=c))):=by
 unfold vE;by_cases h4:x.kind=4
 ·rw [if_pos h4,decide_eq_false (by omega)];simp
 ·rw [if_neg h4];by_cases h0:x.kind=0
  ·rw [if_pos h0,vG,decide_eq_true h0];simp [fq]
  ·rw [if_neg h0,vH (vF x i),decide_eq_false h0];simp
def Known (s:St) (a:List Sy) : Prop:=∀ c∈gz s,fq c a=true
theorem Known.step {r:Ru} {s:St} (hr:RuOK r) (hi:Inv r s) {a:List Sy} (h:Known s a) {x:Ev} (ha:apE r s x=0) (i:Nat) : Known (apU r s x).1 (vE a i x):=fun c hc=>by
 rw [LB];rcases Lv hr hi ha hc with h1|⟨h1,rfl⟩
 ·rw [h c h1];rfl
 ·rw [decide_eq_true h1,decide_eq_true rfl];simp
abbrev KV:Type:=List (Value×Value)
theorem LC {a:ByteArray} {k:Value} (h:j7 (.string a) k=true) : k = .string a:=by
 cases k<;>simp [j7] at h;rw [h]
theorem yz (a b:ByteArray) (v:Value) : ∀ m,iC (.string a) (iN (.string b) v m)=if a=b then some v else iC (.string a) m
 | []=>by
  simp only [iN,iC];by_cases h:a=b<;>simp [j7,h]
 | (k,u)::r=>by
  have ih:=yz a b v r;simp only [iN];by_cases hb:j7 (.string b) k=true
  ·have:=LC hb;subst this;rw [if_pos hb];simp only [iC];by_cases h:a=b<;>simp [j7,h]
  ·rw [if_neg hb];simp only [iC];rw [ih];by_cases h:a=b
   ·subst h;simp [hb]
   ·simp [h]
def vJ (m:KV) (c:ByteArray) : Int:=match iC (.string c) m with|some (.int _ v)=>v|_=>0
def yA (m:KV) (c:ByteArray) (v:Int) : KV:=iN (.string c) (.int .i64 (vJ m c+v)) m
def NumOK (m:KV) (n:Nat) : Prop:=∀ c,iC (.string c) m=none∨∃ v:Int,iC (.string c) m=some (.int .i64 v)∧-(n:Int)≤v∧v≤n
theorem NumOK.at_ {m:KV} {n:Nat} (h:NumOK m n) (c:ByteArray) : (iC (.string c) m).getD (.int .i64 0) = .int .i64 (vJ m c)∧-(n:Int)≤vJ m c∧vJ m c≤n:=by
 unfold vJ;rcases h c with h1|⟨v,h1,h2,h3⟩
 ·rw [h1];exact ⟨rfl,by simp,by simp⟩
 ·rw [h1];exact ⟨rfl,h2,h3⟩
theorem NumOK.upd {m:KV} {n:Nat} (h:NumOK m n) (c:ByteArray) {v:Int} (h1 : -((n+1:Nat) : Int)≤v) (h2:v≤((n+1:Nat) : Int)) : NumOK (iN (.string c) (.int .i64 v) m) (n+1):=fun d=>by
 rw [yz];by_cases hd:d=c
 ·rw [if_pos hd];exact .inr ⟨v,rfl,h1,h2⟩
 ·rw [if_neg hd];rcases h d with h3|⟨u,h3,h4,h5⟩
  ·exact .inl h3
  ·exact .inr ⟨u,h3,by omega,by omega⟩
theorem NumOK.next {m:KV} {n:Nat} (h:NumOK m n) : NumOK m (n+1):=fun d=>by
 rcases h d with h3|⟨u,h3,h4,h5⟩
 ·exact .inl h3
 ·exact .inr ⟨u,h3,by omega,by omega⟩
theorem NumOK.add {m:KV} {n:Nat} (h:NumOK m n) (c:ByteArray) {v:Int} (h1 : -1≤v) (h2:v≤1) : NumOK (yA m c v) (n+1):=by
 have:=h.at_ c;exact h.upd c (by omega) (by omega)
structure Dy where
 st:List Sy
 op:KV
 wt:List Wt
 sv:KV
def BE (log:List Ev) (d:Dy) (i:Nat) (x:Ev) : Dy:=
 if x.kind=4 then d
 else if x.kind=0 then ⟨d.st++[⟨x.car,i,-1,0⟩],iN (.string x.car) (.int .i64 d.st.length) d.op,d.wt,yA d.sv x.car 0⟩
 else ⟨jJ x.car (lM x i) d.st,d.op,d.wt++BC log d.st x,if x.kind=1 then yA d.sv x.car 1 else if x.kind=5 then yA d.sv x.car (-1) else d.sv⟩
theorem FZ {c:ByteArray} {f:Sy→Sy} : ∀ {a:List Sy} {y:Sy},y∈jJ c f a→y∈a∨∃ z∈a,y=f z
 | [],_,h=>by simp [jJ] at h
 | z::a,y,h=>by
  unfold jJ at h;split at h
  ·rcases List.mem_cons.1 h with h|h
   ·exact .inl (List.mem_cons.2 (.inl h))
   ·rcases FZ h with h|⟨u,h,e⟩
    ·exact .inl (List.mem_cons_of_mem _ h)
    ·exact .inr ⟨u,List.mem_cons_of_mem _ h,e⟩
  ·split at h
   ·rcases List.mem_cons.1 h with h|h
    ·exact .inr ⟨z,List.mem_cons_self ..,h⟩
    ·exact .inl (List.mem_cons_of_mem _ h)
   ·exact .inl h
theorem F0 {c:ByteArray} {f:Sy→Sy} : ∀ (a:List Sy),(jJ c f a).length=a.length
 | []=>rfl
 | z::a=>by
  unfold jJ;split
  ·simp [F0 a]
  ·split<;>rfl
structure DyOK (log:List Ev) (i:Nat) (d:Dy) : Prop where
 op:∀ c,fq c d.st=true→iC (.string c) d.op=some (.int .i64 (jK c 0 d.st))
 st:∀ y∈d.st,0≤y.came∧y.came < i∧(0≤(cl log y.came.toNat).time∧(cl log y.came.toNat).time≤604800)∧0≤y.decl∧y.decl≤i
 sl:d.st.length≤i
 wl:d.wt.length≤i
 sv:NumOK d.sv i
theorem DyOK.zero (log:List Ev) : DyOK log 0 ⟨[],[],[],[]⟩:=
 ⟨fun c h=>by simp [fq] at h,fun y h=>by simp at h,Nat.le_refl _,Nat.le_refl _,fun c=>.inl rfl⟩
theorem LD {x:Ev} {i:Nat} {y:Sy} {log:List Ev} (h:0≤y.came∧y.came < i∧(0≤(cl log y.came.toNat).time∧(cl log y.came.toNat).time≤604800)∧0≤y.decl∧y.decl≤i) :
  0≤(lM x i y).came∧(lM x i y).came < ((i+1:Nat) : Int)∧(0≤(cl log (lM x i y).came.toNat).time∧(cl log (lM x i y).came.toNat).time≤604800)∧0≤(lM x i y).decl∧(lM x i y).decl≤((i+1:Nat) : Int):=by
 obtain ⟨h1,h2,h3,h4,h5⟩:=h;unfold lM;split
 ·exact ⟨h1,by simp only;omega,h3,h4,by simp only;omega⟩
 ·split
  ·exact ⟨h1,by simp only;omega,h3,by simp only;omega,by simp only;omega⟩
  ·split
   ·exact ⟨h1,by simp only;omega,h3,h4,by simp only;omega⟩
   ·split
    ·exact ⟨h1,by simp only;omega,h3,h4,by simp only;omega⟩
    ·exact ⟨h1,by omega,h3,h4,by omega⟩
theorem LF (log:List Ev) (a:List Sy) (x:Ev) : (BC log a x).length≤1:=by
 unfold BC;split
 ·exact Nat.le_refl _
 ·exact Nat.zero_le _
theorem DyOK.step {log:List Ev} {i:Nat} {d:Dy} (h:DyOK log i d) {x:Ev} (hx:x=cl log i) (ht:0≤x.time∧x.time≤604800) : DyOK log (i+1) (BE log d i x):=by
 obtain ⟨h1,h2,h3,h4,h5⟩:=h;have hJ:∀ y∈d.st,0≤y.came∧y.came < ((i+1:Nat) : Int)∧(0≤(cl log y.came.toNat).time∧(cl log y.came.toNat).time≤604800)∧0≤y.decl∧y.decl≤((i+1:Nat) : Int):=fun y hy=>by
  obtain ⟨g1,g2,g3,g4,g5⟩:=h2 y hy;exact ⟨g1,by omega,g3,g4,by omega⟩
 unfold BE;split
 ·exact ⟨h1,hJ,by omega,by omega,h5.next⟩
 ·split
  ·refine ⟨fun c hc=>?_,fun y hy=>?_,?_,by simp only;omega,h5.add _ (by decide) (by decide)⟩
   ·simp only at hc ⊢;rw [yz,Bz (d:=x.car) rfl];by_cases h:c=x.car
    ·subst h;rw [if_pos rfl,if_pos rfl,Nat.zero_add]
    ·rw [if_neg h,if_neg (Ne.symm h)];refine h1 c ?_;rw [vG] at hc;simpa [fq,Ne.symm h] using hc
   ·rcases List.mem_append.1 hy with hy|hy
    ·exact hJ y hy
    ·rw [List.mem_singleton.1 hy];simp only [Int.toNat_natCast];rw [←hx];exact ⟨by omega,by omega,ht,by omega,by omega⟩
   ·simp only [List.length_append,List.length_cons,List.length_nil];omega
  ·refine ⟨fun c hc=>?_,fun y hy=>?_,?_,?_,?_⟩
   ·simp only at hc ⊢;rw [vH (vF x i)] at hc;rw [BA (vF x i)];exact h1 c hc
   ·rcases FZ hy with hy|⟨z,hz,rfl⟩
    ·exact hJ y hy
    ·exact LD (h2 z hz)
   ·simp only [F0];omega
   ·have:=LF log d.st x;simp only [List.length_append];omega
   ·simp only;split
    ·exact h5.add _ (by decide) (by decide)
    ·split
     ·exact h5.add _ (by decide) (by decide)
     ·exact h5.next
end Go.Proofs.YtoibondihdhnoaaGreatDoor
