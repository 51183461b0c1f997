/- Texts in one: Chapter 4: the first car that is overtaken, as the program and as the document have it; no condition. -/
import Derived.Test.YtoibondihdhnoaaGreatDoorFRQ21
import Derived.Test.YtoibondihdhnoaaGreatDoorFRQ31
namespace Go.Proofs.YtoibondihdhnoaaGreatDoor
open Go.RowKit
def jf (x:Sg) (R:Int) (c:ByteArray) : Bool:=decide (x.rank=R)&&decide (x.car=c)
def iq (L:List Sg) (R:Int) (c:ByteArray) : Nat→Int
 | 0=>-1
 | k+1=>if jf (aO L k) R c then k else iq L R c k
def jOf (L:List Sg) (k:Nat) : Int:=iq L (aO L k).rank (aO L k).car k
def okI (L:List Sg) (k i:Nat) : Bool:=
 decide ((aO L i).kind=0)&&decide ((aO L i).rank=(aO L k).rank)&&!decide ((aO L i).car=(aO L k).car)&&decide (iq L (aO L i).rank (aO L i).car k=i)
def qv (L:List Sg) (k:Nat) : Bool:=decide (0≤jOf L k)&&decide ((aO L (jOf L k).toNat).kind=0)
def oI (L:List Sg) (k:Nat) : Int:=if (aO L k).kind=1∧qv L k=true then ixP (okI L k) 0 (jOf L k).toNat else -1
def E4 (L:List Sg) (k:Nat) : Bool:=decide (0≤oI L k)
def tE (L:List Sg) : Int:=ixP (E4 L) 0 L.length
theorem E5 {x:Sg} {R:Int} {c:ByteArray} : jf x R c=true↔x.rank=R∧x.car=c:=by simp [jf]
theorem x7 (L:List Sg) (R:Int) (c:ByteArray) : ∀ k,(iq L R c k = -1∧∀ j,j < k→jf (aO L j) R c=false)∨∃ j:Nat,iq L R c k=j∧j < k∧jf (aO L j) R c=true∧∀ n,j < n→n < k→jf (aO L n) R c=false
 | 0=>.inl ⟨rfl,fun j hj=>by omega⟩
 | k+1=>by
  rw [iq];by_cases h:jf (aO L k) R c=true
  ·rw [if_pos h];exact .inr ⟨k,rfl,by omega,h,fun n h1 h2=>by omega⟩
  ·rw [if_neg h];have hf:jf (aO L k) R c=false:=by simpa using h
   rcases x7 L R c k with ⟨h1,h2⟩|⟨j,h1,h2,h3,h4⟩
   ·refine .inl ⟨h1,fun j hj=>?_⟩;by_cases he:j=k
    ·rw [he];exact hf
    ·exact h2 j (by omega)
   ·refine .inr ⟨j,h1,by omega,h3,fun n hn hl=>?_⟩;by_cases he:n=k
    ·rw [he];exact hf
    ·exact h4 n hn (by omega)
theorem A8 {L:List Sg} {k:Nat} (h:0≤jOf L k) : ∃ j:Nat,jOf L k=j∧j < k:=by
 unfold jOf at h ⊢;rcases x7 L (aO L k).rank (aO L k).car k with ⟨h1,_⟩|⟨j,h1,h2,_⟩
 ·omega
 ·exact ⟨j,h1,h2⟩
structure Sy where
 car:ByteArray
 came:Int
 went:Int
 decl:Int
instance:Inhabited Sy:=⟨⟨ByteArray.empty,0,0,0⟩⟩
@[go_sem] def Sy.av (x:Sy) : List AV:=[S x.car,I x.came,I x.went,I x.decl]
structure Wt where
 car:ByteArray
 rank:Int
 waited:Int
instance:Inhabited Wt:=⟨⟨ByteArray.empty,0,0⟩⟩
@[go_sem] def Wt.av (x:Wt) : List AV:=[S x.car,I x.rank,I x.waited]
def ir (x:Ev) (i:Nat) (y:Sy) : Sy:=
 if x.kind=1 then ⟨y.car,y.came,i,y.decl⟩ else if x.kind=2 then ⟨y.car,y.came,y.went,y.decl+1⟩ else if x.kind=3 then ⟨y.car,y.came,i,y.decl⟩ else if x.kind=5 then ⟨y.car,y.came,-1,y.decl⟩ else y
def eh (c:ByteArray) (a:List Sy) : Bool:=a.any fun y=>decide (y.car=c)
def jB (c:ByteArray) (f:Sy→Sy) : List Sy→List Sy
 | []=>[]
 | y::a=>if eh c a then y::jB c f a else if y.car=c then f y::a else y::a
def pE (a:List Sy) (i:Nat) (x:Ev) : List Sy:=
 if x.kind=4 then a else if x.kind=0 then a++[⟨x.car,i,-1,0⟩] else jB x.car (ir x i) a
theorem vk (x:Ev) (i:Nat) (y:Sy) : (ir x i y).car=y.car:=by
 unfold ir;split
 ·rfl
 ·split
  ·rfl
  ·split
   ·rfl
   ·split<;>rfl
theorem tF {c:ByteArray} {y:Sy} {a:List Sy} : eh c (y::a)=(decide (y.car=c) || eh c a):=rfl
theorem vl {c:ByteArray} {a b:List Sy} : eh c (a++b)=(eh c a || eh c b):=List.any_append
theorem vm {c d:ByteArray} {f:Sy→Sy} (hf:∀ y,(f y).car=y.car) : ∀ a:List Sy,eh d (jB c f a)=eh d a
 | []=>rfl
 | y::a=>by
  rw [jB];split
  ·rw [tF,tF,vm hf a]
  ·split
   ·rw [tF,tF,hf]
   ·rfl
def jC (c:ByteArray) : Nat→List Sy→Int
 | _,[]=>-1
 | k,y::a=>if eh c a then jC c (k+1) a else if y.car=c then k else -1
theorem qw {c:ByteArray} : ∀ (a:List Sy) (k:Nat),eh c a=true→∃ j:Nat,jC c k a=((k+j:Nat) : Int)∧∃ hj:j < a.length,(a[j]).car=c∧∀ f,jB c f a=a.set j (f a[j])
 | [],_,h=>by simp [eh] at h
 | y::a,k,h=>by
  rw [jC];cases hh:eh c a
  ·rw [tF,hh,Bool.or_false,decide_eq_true_eq] at h;rw [if_neg (by simp),if_pos h];refine ⟨0,by simp,by simp,by simpa using h,fun f=>?_⟩;rw [jB,hh,if_neg (by simp),if_pos h];rfl
  ·rw [if_pos rfl];obtain ⟨j,h1,hj,h2,h3⟩:=qw a (k+1) hh;refine ⟨j+1,by rw [h1];congr 1;omega,by simpa using hj,by simpa using h2,fun f=>?_⟩;rw [jB,hh,if_pos rfl,h3 f];rfl
theorem A_ {c d:ByteArray} {z:Sy} (hz:z.car=d) : ∀ (a:List Sy) (k:Nat),jC c k (a++[z])=if d=c then ((k+a.length:Nat) : Int) else jC c k a
 | [],k=>by
  rw [List.nil_append,jC,jC,jC,if_neg (by simp [eh]),hz];rfl
 | y::a,k=>by
  rw [List.cons_append,jC,A_ hz a (k+1),vl];have e1:eh c [z]=decide (d=c):=by simp [eh,hz]
  rw [e1,jC];by_cases hd:d=c
  ·rw [if_pos hd,if_pos hd,decide_eq_true hd,Bool.or_true,if_pos rfl];congr 1;simp;omega
  ·rw [if_neg hd,if_neg hd,decide_eq_false hd,Bool.or_false]
theorem Ba {c d:ByteArray} {f:Sy→Sy} (hf:∀ y,(f y).car=y.car) : ∀ (a:List Sy) (k:Nat),jC d k (jB c f a)=jC d k a
 | [],_=>rfl
 | y::a,k=>by
  rw [jB];split
  ·rw [jC,jC,vm hf,Ba hf a]
  ·split
   ·rw [jC,jC,hf]
   ·rfl
theorem E6 {c:ByteArray} {s:St} : c∈eV s↔0 < cnt c s.q.flatten+cnt c (s.tk.map (·.car)):=by rw [←ij,jA]
theorem vn {q:List (List ByteArray)} {k:Nat} (hk:k < q.length) {c:ByteArray} (h:c∈qat q k) : 0 < cnt c q.flatten:=by
 refine jA.2 (List.mem_flatten.2 ⟨qat q k,?_,h⟩);rw [iJ hk];exact List.getElem_mem hk
theorem parts {r:Ru} {s:St} {x:Ev} (h:apE r s x=0) : evE r x=0∧s.time≤x.time∧doE r s x x.rank.toNat=0∧x.rank=(x.rank.toNat:Int)∧x.rank.toNat < r.ranks.length:=by
 unfold apE at h;rw [ch,ch,ch] at h;obtain ⟨h1,h2,h3,_⟩:=h;have:=vb h1;exact ⟨h1,of_decide_eq_true (eW (by decide) h2),h3,by omega,by omega⟩
theorem vo {r:Ru} {s:St} (hl:s.q.length=r.ranks.length) {x:Ev} (h:apE r s x=0) (h0:x.kind≠0) (h4:x.kind≠4) : x.car∈eV s:=by
 obtain ⟨h1,h2,h3,h5,h6⟩:=parts h;have hk:x.rank.toNat < s.q.length:=by omega
 have je:=tr h1;rw [E6];unfold doE at h3;rw [if_neg h0] at h3;by_cases k1:x.kind=1
 ·rw [if_pos k1] at h3;unfold kE at h3;rw [ch] at h3;obtain ⟨t,e⟩:=ql h3.1;have:=vn hk (c:=x.car) (by rw [e];simp);omega
 rw [if_neg k1] at h3;by_cases k2:x.kind=2
 ·rw [if_pos k2] at h3;obtain ⟨t,e⟩:=ql h3;have:=vn hk (c:=x.car) (by rw [e];simp);omega
 rw [if_neg k2] at h3;by_cases k3:x.kind=3
 ·rw [if_pos k3] at h3;unfold qk at h3;have hn:¬fp (qat s.q x.rank.toNat) x.car < 0:=fun hh=>by
   rw [if_pos hh] at h3;cases h3
  have:=vn hk (Classical.byContradiction fun hc=>hn (th.2 hc));omega
 rw [if_neg k3,if_neg h4] at h3;unfold lv at h3;split at h3
 ·cases h3
 ·rename_i jc;have hm:x.car∈s.tk.map (·.car):=Classical.byContradiction fun hc=>jc (.inl (oF.2 hc));have:=jA.2 hm;omega
theorem E7 {r:Ru} (hr:RuOK r) (c:ByteArray) : ∀ (n:Nat) (s:St) (m:List Sg),Inv r s→cnt c (eV (cD r n s m).1)=cnt c (eV s)
 | 0,_,_,_=>rfl
 | n+1,s,m,h=>by
  rw [cD];split
  ·rfl
  ·rename_i hn;obtain ⟨k,e,hk,hp⟩:=mu hn;rw [e,Int.toNat_natCast];obtain ⟨h1,h2,h3⟩:=mr hp;have cB:k < s.q.length:=by rw [h.len];exact hk
   obtain ⟨g1,g2,g3⟩:=hr.feedN hk h1;rw [E7 hr c n _ _ (h.up hr cB h1 h2 h3),ij,ij];show cnt c (upQ s.q k (feedN r k)).flatten+_=_;rw [AE cB (by rw [h.len];exact g3) (by omega) h2];rfl
theorem Km {r:Ru} {s:St} (hr:RuOK r) (hi:Inv r s) {x:Ev} (h:apE r s x=0) (c:ByteArray) : cnt c (eV (doS r s x x.rank.toNat))≤cnt c (eV s)+if x.kind=0∧c=x.car then 1 else 0:=by
 obtain ⟨h1,h2,h3,h5,h6⟩:=parts h;have hk:x.rank.toNat < s.q.length:=by rw [hi.len];exact h6
 generalize x.rank.toNat=k at *;rw [ij,ij];unfold doE at h3;unfold doS;by_cases k0:x.kind=0
 ·rw [if_pos k0];unfold tg;simp only;rw [u_ hi.once,xD];have g:=jW hk (qat s.q k++[x.car]) c;rw [ig,gq,jV] at g;by_cases hc:c=x.car
  ·subst hc;rw [if_pos rfl] at g ⊢;rw [if_pos ⟨k0,rfl⟩];omega
  ·rw [if_neg (Ne.symm hc)] at g;rw [if_neg hc];omega
 rw [if_neg k0] at h3 ⊢;by_cases k1:x.kind=1
 ·rw [if_pos k1] at h3 ⊢;unfold kE at h3;rw [ch] at h3;obtain ⟨t,e⟩:=ql h3.1;unfold rG;simp only [List.map_append,List.map_cons,List.map_nil];have g:=jW hk (qat s.q k).tail c;rw [ig,gq,jV];rw [e,List.tail_cons,gq] at g;rw [e,List.tail_cons];omega
 rw [if_neg k1] at h3 ⊢;by_cases k2:x.kind=2
 ·rw [if_pos k2] at h3 ⊢;obtain ⟨t,e⟩:=ql h3;unfold xC ps;simp only;have g:=jW hk ((qat s.q k).tail.take (lu r (qat s.q k).tail.length)++[x.car]++(qat s.q k).tail.drop (lu r (qat s.q k).tail.length)) c;have g3:=ig c ((qat s.q k).tail.take (lu r (qat s.q k).tail.length)) ((qat s.q k).tail.drop (lu r (qat s.q k).tail.length));rw [List.take_append_drop] at g3;rw [ig,ig,gq,jV] at g;have g4:cnt c (qat s.q k)=cnt c (qat s.q k).tail+if x.car=c then 1 else 0:=by rw [e,List.tail_cons,gq]
  omega
 rw [if_neg k2] at h3 ⊢;by_cases k3:x.kind=3
 ·rw [if_pos k3];unfold ta;simp only;have g:=jW hk ((qat s.q k).eraseIdx (fp (qat s.q k) x.car).toNat) c;have g2:=AB c (qat s.q k) (fp (qat s.q k) x.car).toNat;omega
 rw [if_neg k3] at h3 ⊢;by_cases k4:x.kind=4
 ·rw [if_pos k4] at h3 ⊢;unfold jz at h3;by_cases hf:(rat r.ranks k).feeder = -1
  ·rw [if_pos hf] at h3;cases h3
  ·rw [if_neg hf,ch,ch] at h3;have f2:=of_decide_eq_true (eW (by decide) h3.2.1);obtain ⟨g1,g2,g3⟩:=hr.feedN h6 hf;show cnt c (upQ s.q k (feedN r k)).flatten+_≤_;rw [AE hk (by rw [hi.len];exact g3) (by omega) f2];show cnt c s.q.flatten+cnt c (s.tk.map (·.car))≤_;omega
 rw [if_neg k4] at h3 ⊢;unfold lv at h3;split at h3
 ·cases h3
 ·rename_i jc;unfold tf;simp only;rw [xE hi.once x fun hh=>jc (.inl hh),xD];have g:=jW hk ([x.car]++qat s.q k) c;rw [ig,gq,jV] at g;have hm:x.car∈s.tk.map (·.car):=Classical.byContradiction fun hc=>jc (.inl (oF.2 hc));have g2:=jA.2 hm;by_cases hc:c=x.car
  ·subst hc;rw [if_pos rfl] at g ⊢;omega
  ·rw [if_neg (Ne.symm hc)] at g;rw [if_neg hc];omega
theorem E8 {r:Ru} {s:St} (hr:RuOK r) (hi:Inv r s) {x:Ev} (h:apE r s x=0) {c:ByteArray} (hc:c∈eV (apU r s x).1) : c∈eV s∨x.kind=0∧c=x.car:=by
 obtain ⟨h1,h2,h3,h5,h6⟩:=parts h;have hd:=hi.doS hr h1 h2 h5 h3;have hp:=jA.2 hc;unfold apU at hp;rw [E7 hr c _ _ _ hd] at hp;have g:=Km hr hi h c;change 0 < cnt c (eV (doS r s x x.rank.toNat)) at hp;by_cases hh:x.kind=0∧c=x.car
 ·exact .inr hh
 ·rw [if_neg hh] at g;exact .inl (jA.1 (by omega))
theorem qx {r:Ru} {i:Nat} {x:Ev} {l:List Ev} {s:St} (h:(goP r i (x::l) s).2.2=0) : apE r s x=0∧(goP r (i+1) l (apU r s x).1).2.2=0:=by
 rw [goP] at h;by_cases ha:apE r s x=0
 ·rw [if_neg (by simp [ha])] at h;exact ⟨ha,h⟩
 ·rw [if_pos ha] at h;exact absurd h ha
theorem x8 {r:Ru} : ∀ (l:List Ev) (i:Nat) (s:St),(goP r i l s).2.2=0→∀ x∈l,evE r x=0
 | [],_,_,_,x,hx=>by simp at hx
 | y::l,i,s,h,x,hx=>by
  obtain ⟨h1,h2⟩:=qx h;rcases List.mem_cons.1 hx with rfl|hx
  ·exact (parts h1).1
  ·exact x8 l (i+1) _ h2 x hx
theorem E9 {r:Ru} {x:Ev} (h:evE r x=0) : (x.kind=4→x.car=ByteArray.empty)∧(x.kind≠4→cu x.car=true):=by
 unfold evE at h;rw [ch,ch,ch,ch,ch] at h;have e4:=eW (by decide) h.2.2.2.1;have e5:=eW (by decide) h.2.2.2.2.1;refine ⟨fun hk=>?_,fun hk=>?_⟩
 ·rw [decide_eq_true hk] at e4;simpa using e4
 ·rw [decide_eq_false hk] at e5;simpa using e5
def pF (a:List Sy) (c:ByteArray) : Int:=(a.getD (jC c 0 a).toNat default).came
def kX (log:List Ev) (a:List Sy) (x:Ev) : List Wt:=if x.kind=1 then [⟨x.car,x.rank,x.time - (aA log (pF a x.car).toNat).time⟩] else []
def tG (log:List Ev) : Nat→List Ev→List Sy→List Wt
 | _,[],_=>[]
 | i,x::l,a=>kX log a x++tG log (i+1) l (pE a i x)
def tH (x:Ev) (c:ByteArray) : Bool:=decide (x.kind=0)&&decide (x.car=c)
def vq (log:List Ev) (c:ByteArray) : Nat→Nat
 | 0=>0
 | k+1=>if tH (aA log k) c then k else vq log c k
def tI (log:List Ev) : Nat→List Ev→List Wt
 | _,[]=>[]
 | i,x::l=>(if x.kind=1 then [⟨x.car,x.rank,x.time - (aA log (vq log x.car (i+1))).time⟩] else [])++tI log (i+1) l
theorem Kn {a:List Sy} {c d:ByteArray} {z:Sy} (hz:z.car=d) (h:eh c (a++[z])=true) : pF (a++[z]) c=if d=c then z.came else pF a c:=by
 unfold pF;rw [A_ hz];by_cases hd:d=c
 ·rw [if_pos hd,if_pos hd];simp
 ·rw [if_neg hd,if_neg hd];have hc:eh c a=true:=by
   rw [vl] at h;have e1:eh c [z]=false:=by simp [eh,hz,hd]
   rw [e1,Bool.or_false] at h;exact h
  obtain ⟨j,e,hj,_⟩:=qw a 0 hc;rw [e,Int.toNat_natCast,Nat.zero_add,List.getD_eq_getElem?_getD,List.getElem?_append_left hj,List.getD_eq_getElem?_getD]
theorem Kp {a:List Sy} {c d:ByteArray} {x:Ev} {i:Nat} (h:eh c a=true) : pF (jB d (ir x i) a) c=pF a c:=by
 unfold pF;rw [Ba (vk x i)];obtain ⟨j,e,hj,_⟩:=qw a 0 h;rw [e,Int.toNat_natCast,Nat.zero_add];by_cases hd:eh d a=true
 ·obtain ⟨m,_,hm,_,h3⟩:=qw a 0 hd;rw [h3,List.getD_eq_getElem?_getD,List.getD_eq_getElem?_getD,List.getElem?_set];split
  ·rename_i Kq;subst Kq;rw [List.getElem?_eq_getElem hm];simp only [Option.getD_some];unfold ir;split
   ·rfl
   ·split
    ·rfl
    ·split
     ·rfl
     ·split<;>rfl
  ·rfl
 ·have hn:∀ a:List Sy,eh d a=false→jB d (ir x i) a=a:=fun a=>by
   induction a with
   | nil=>intro _;rfl
   | cons y a ih=>
    intro hh;rw [tF,Bool.or_eq_false_iff] at hh;rw [jB,hh.2,if_neg (by simp),if_neg (of_decide_eq_false hh.1)]
  rw [hn a (by simpa using hd)]
theorem E_ {pre:List Ev} {x:Ev} {l:List Ev} : aA (pre++x::l) pre.length=x:=by simp [aA]
def CameOK (log:List Ev) (i:Nat) (a:List Sy) : Prop:=∀ c,eh c a=true→pF a c=(vq log c i:Int)
theorem CameOK.step {pre:List Ev} {x:Ev} {l:List Ev} {a:List Sy} (h:CameOK (pre++x::l) pre.length a) : CameOK (pre++x::l) (pre.length+1) (pE a pre.length x):=fun c hc=>by
 rw [vq,E_];unfold pE at hc ⊢;by_cases h4:x.kind=4
 ·rw [if_pos h4] at hc ⊢;rw [if_neg (by simp [tH,h4])];exact h c hc
 ·rw [if_neg h4] at hc ⊢;by_cases h0:x.kind=0
  ·rw [if_pos h0] at hc ⊢;rw [Kn rfl hc];by_cases he:x.car=c
   ·rw [if_pos he,if_pos (by simp [tH,h0,he])]
   ·rw [if_neg he,if_neg (by simp [tH,he])];rw [vl] at hc;refine h c ?_;simpa [eh,he] using hc
  ·rw [if_neg h0] at hc ⊢;rw [vm (vk x _)] at hc;rw [Kp hc,if_neg (by simp [tH,h0])];exact h c hc
theorem Ks {a:List Sy} {i:Nat} {x:Ev} {c:ByteArray} : eh c (pE a i x)=(eh c a || (decide (x.kind=0)&&decide (x.car=c))):=by
 unfold pE;by_cases h4:x.kind=4
 ·rw [if_pos h4,decide_eq_false (by omega)];simp
 ·rw [if_neg h4];by_cases h0:x.kind=0
  ·rw [if_pos h0,vl,decide_eq_true h0];simp [eh]
  ·rw [if_neg h0,vm (vk x i),decide_eq_false h0];simp
def Known (s:St) (a:List Sy) : Prop:=∀ c∈eV s,eh c a=true
theorem Known.step {r:Ru} {s:St} (hr:RuOK r) (hi:Inv r s) {a:List Sy} (h:Known s a) {x:Ev} (ha:apE r s x=0) (i:Nat) : Known (apU r s x).1 (pE a i x):=fun c hc=>by
 rw [Ks];rcases E8 hr hi ha hc with h1|⟨h1,rfl⟩
 ·rw [h c h1];rfl
 ·rw [decide_eq_true h1,decide_eq_true rfl];simp
theorem Fa {r:Ru} (hr:RuOK r) : ∀ (l:List Ev) (pre:List Ev) (s:St) (a:List Sy),Inv r s→Known s a→CameOK (pre++l) pre.length a→(goP r pre.length l s).2.2=0→tG (pre++l) pre.length l a=tI (pre++l) pre.length l
 | [],_,_,_,_,_,_,_=>rfl
 | x::l,pre,s,a,hi,hk,hc,h=>by
  obtain ⟨h1,h2⟩:=qx h;rw [tG,tI];have e:pre++x::l=(pre++[x])++l:=by simp
  have hs:=Fa hr l (pre++[x]) (apU r s x).1 (pE a pre.length x) (hi.ap hr h1).1 (hk.step hr hi h1 _) (by
   rw [←e,List.length_append];exact hc.step) (by rw [List.length_append];exact h2)
  rw [←e,List.length_append] at hs;rw [show pre.length+1=pre.length + [x].length from rfl,hs];congr 1;unfold kX;by_cases k1:x.kind=1
  ·rw [if_pos k1,if_pos k1,hc _ (hk _ (vo hi.len h1 (by omega) (by omega))),Int.toNat_natCast];rw [show pre.length + [x].length=pre.length+1 from rfl,vq,E_,if_neg (by simp [tH,k1])]
  ·rw [if_neg k1,if_neg k1]
theorem Kt {r:Ru} (hr:RuOK r) {l:List Ev} (h:(goP r 0 l (st0 r)).2.2=0) : tG l 0 l []=tI l 0 l:=
 Fa hr l [] (st0 r) [] (Inv.st0 hr) (fun c hc=>by
  have h:=jA.2 hc;rw [ij] at h;change 0 < cnt c (List.replicate _ []).flatten+cnt c [] at h;rw [vc,jV] at h;omega) (fun c hc=>by cases hc) h
abbrev KV:Type:=List (Value×Value)
theorem Ku {a:ByteArray} {k:Value} (h:jD (.string a) k=true) : k = .string a:=by
 cases k<;>simp [jD] at h;rw [h]
theorem x9 (a b:ByteArray) (v:Value) : ∀ m,gW (.string a) (fm (.string b) v m)=if a=b then some v else gW (.string a) m
 | []=>by
  simp only [fm,gW];by_cases h:a=b<;>simp [jD,h]
 | (k,u)::r=>by
  have ih:=x9 a b v r;simp only [fm];by_cases hb:jD (.string b) k=true
  ·have:=Ku hb;subst this;rw [if_pos hb];simp only [gW];by_cases h:a=b<;>simp [jD,h]
  ·rw [if_neg hb];simp only [gW];rw [ih];by_cases h:a=b
   ·subst h;simp [hb]
   ·simp [h]
def iF (m:KV) (c:ByteArray) : Int:=match gW (.string c) m with|some (.int _ v)=>v|_=>0
def kH (m:KV) (c:ByteArray) (v:Int) : KV:=fm (.string c) (.int .i64 (iF m c+v)) m
theorem Kv (m:KV) (a b:ByteArray) (v:Int) : iF (fm (.string b) (.int .i64 v) m) a=if a=b then v else iF m a:=by
 unfold iF;rw [x9];by_cases h:a=b
 ·rw [if_pos h,if_pos h]
 ·rw [if_neg h,if_neg h]
theorem Bb (m:KV) (a b:ByteArray) (v:Int) : iF (kH m b v) a=iF m a+if a=b then v else 0:=by
 unfold kH;rw [Kv];by_cases h:a=b
 ·subst h;rw [if_pos rfl,if_pos rfl]
 ·rw [if_neg h,if_neg h,Int.add_zero]
def NumOK (m:KV) (n:Nat) : Prop:=∀ c,gW (.string c) m=none∨∃ v:Int,gW (.string c) m=some (.int .i64 v)∧-(n:Int)≤v∧v≤n
theorem NumOK.at_ {m:KV} {n:Nat} (h:NumOK m n) (c:ByteArray) : (gW (.string c) m).getD (.int .i64 0) = .int .i64 (iF m c)∧-(n:Int)≤iF m c∧iF m c≤n:=by
 unfold iF;rcases h c with h1|⟨v,h1,h2,h3⟩
 ·rw [h1];exact ⟨rfl,by simp,by simp⟩
 ·rw [h1];exact ⟨rfl,h2,h3⟩
theorem NumOK.upd {m:KV} {n:Nat} (h:NumOK m n) (c:ByteArray) {v:Int} (h1 : -((n+1:Nat) : Int)≤v) (h2:v≤((n+1:Nat) : Int)) : NumOK (fm (.string c) (.int .i64 v) m) (n+1):=fun d=>by
 rw [x9];by_cases hd:d=c
 ·rw [if_pos hd];exact .inr ⟨v,rfl,h1,h2⟩
 ·rw [if_neg hd];rcases h d with h3|⟨u,h3,h4,h5⟩
  ·exact .inl h3
  ·exact .inr ⟨u,h3,by omega,by omega⟩
theorem NumOK.next {m:KV} {n:Nat} (h:NumOK m n) : NumOK m (n+1):=fun d=>by
 rcases h d with h3|⟨u,h3,h4,h5⟩
 ·exact .inl h3
 ·exact .inr ⟨u,h3,by omega,by omega⟩
theorem NumOK.add {m:KV} {n:Nat} (h:NumOK m n) (c:ByteArray) {v:Int} (h1 : -1≤v) (h2:v≤1) : NumOK (kH m c v) (n+1):=by
 have:=h.at_ c;exact h.upd c (by omega) (by omega)
structure Dy where
 st:List Sy
 op:KV
 wt:List Wt
 sv:KV
def eQ (log:List Ev) (d:Dy) (i:Nat) (x:Ev) : Dy:=
 if x.kind=4 then d
 else if x.kind=0 then ⟨d.st++[⟨x.car,i,-1,0⟩],fm (.string x.car) (.int .i64 d.st.length) d.op,d.wt,kH d.sv x.car 0⟩
 else ⟨jB x.car (ir x i) d.st,d.op,d.wt++kX log d.st x,if x.kind=1 then kH d.sv x.car 1 else if x.kind=5 then kH d.sv x.car (-1) else d.sv⟩
theorem Fb (log:List Ev) (d:Dy) (i:Nat) (x:Ev) : (eQ log d i x).st=pE d.st i x:=by
 unfold eQ pE;split
 ·rfl
 ·split<;>rfl
theorem Fc {c:ByteArray} {f:Sy→Sy} : ∀ {a:List Sy} {y:Sy},y∈jB c f a→y∈a∨∃ z∈a,y=f z
 | [],_,h=>by simp [jB] at h
 | z::a,y,h=>by
  unfold jB at h;split at h
  ·rcases List.mem_cons.1 h with h|h
   ·exact .inl (List.mem_cons.2 (.inl h))
   ·rcases Fc h with h|⟨u,h,e⟩
    ·exact .inl (List.mem_cons_of_mem _ h)
    ·exact .inr ⟨u,List.mem_cons_of_mem _ h,e⟩
  ·split at h
   ·rcases List.mem_cons.1 h with h|h
    ·exact .inr ⟨z,List.mem_cons_self ..,h⟩
    ·exact .inl (List.mem_cons_of_mem _ h)
   ·exact .inl h
theorem Fe {c:ByteArray} {f:Sy→Sy} : ∀ (a:List Sy),(jB c f a).length=a.length
 | []=>rfl
 | z::a=>by
  unfold jB;split
  ·simp [Fe a]
  ·split<;>rfl
structure DyOK (log:List Ev) (i:Nat) (d:Dy) : Prop where
 op:∀ c,eh c d.st=true→gW (.string c) d.op=some (.int .i64 (jC c 0 d.st))
 st:∀ y∈d.st,0≤y.came∧y.came < i∧(0≤(aA log y.came.toNat).time∧(aA log y.came.toNat).time≤604800)∧0≤y.decl∧y.decl≤i
 sl:d.st.length≤i
 wl:d.wt.length≤i
 sv:NumOK d.sv i
theorem DyOK.zero (log:List Ev) : DyOK log 0 ⟨[],[],[],[]⟩:=
 ⟨fun c h=>by simp [eh] at h,fun y h=>by simp at h,Nat.le_refl _,Nat.le_refl _,fun c=>.inl rfl⟩
theorem Kw {x:Ev} {i:Nat} {y:Sy} {log:List Ev} (h:0≤y.came∧y.came < i∧(0≤(aA log y.came.toNat).time∧(aA log y.came.toNat).time≤604800)∧0≤y.decl∧y.decl≤i) :
  0≤(ir x i y).came∧(ir x i y).came < ((i+1:Nat) : Int)∧(0≤(aA log (ir x i y).came.toNat).time∧(aA log (ir x i y).came.toNat).time≤604800)∧0≤(ir x i y).decl∧(ir x i y).decl≤((i+1:Nat) : Int):=by
 obtain ⟨h1,h2,h3,h4,h5⟩:=h;unfold ir;split
 ·exact ⟨h1,by simp only;omega,h3,h4,by simp only;omega⟩
 ·split
  ·exact ⟨h1,by simp only;omega,h3,by simp only;omega,by simp only;omega⟩
  ·split
   ·exact ⟨h1,by simp only;omega,h3,h4,by simp only;omega⟩
   ·split
    ·exact ⟨h1,by simp only;omega,h3,h4,by simp only;omega⟩
    ·exact ⟨h1,by omega,h3,h4,by omega⟩
theorem Kx (log:List Ev) (a:List Sy) (x:Ev) : (kX log a x).length≤1:=by
 unfold kX;split
 ·exact Nat.le_refl _
 ·exact Nat.zero_le _
theorem DyOK.step {log:List Ev} {i:Nat} {d:Dy} (h:DyOK log i d) {x:Ev} (hx:x=aA log i) (ht:0≤x.time∧x.time≤604800) : DyOK log (i+1) (eQ log d i x):=by
 obtain ⟨h1,h2,h3,h4,h5⟩:=h;have gM:∀ y∈d.st,0≤y.came∧y.came < ((i+1:Nat) : Int)∧(0≤(aA log y.came.toNat).time∧(aA log y.came.toNat).time≤604800)∧0≤y.decl∧y.decl≤((i+1:Nat) : Int):=fun y hy=>by
  obtain ⟨g1,g2,g3,g4,g5⟩:=h2 y hy;exact ⟨g1,by omega,g3,g4,by omega⟩
 unfold eQ;split
 ·exact ⟨h1,gM,by omega,by omega,h5.next⟩
 ·split
  ·refine ⟨fun c hc=>?_,fun y hy=>?_,?_,by simp only;omega,h5.add _ (by decide) (by decide)⟩
   ·simp only at hc ⊢;rw [x9,A_ (d:=x.car) rfl];by_cases h:c=x.car
    ·subst h;rw [if_pos rfl,if_pos rfl,Nat.zero_add]
    ·rw [if_neg h,if_neg (Ne.symm h)];refine h1 c ?_;rw [vl] at hc;simpa [eh,Ne.symm h] using hc
   ·rcases List.mem_append.1 hy with hy|hy
    ·exact gM y hy
    ·rw [List.mem_singleton.1 hy];simp only [Int.toNat_natCast];rw [←hx];exact ⟨by omega,by omega,ht,by omega,by omega⟩
   ·simp only [List.length_append,List.length_cons,List.length_nil];omega
  ·refine ⟨fun c hc=>?_,fun y hy=>?_,?_,?_,?_⟩
   ·simp only at hc ⊢;rw [vm (vk x i)] at hc;rw [Ba (vk x i)];exact h1 c hc
   ·rcases Fc hy with hy|⟨z,hz,rfl⟩
    ·exact gM y hy
    ·exact Kw (h2 z hz)
   ·simp only [Fe];omega
   ·have:=Kx log d.st x;simp only [List.length_append];omega
   ·simp only;split
    ·exact h5.add _ (by decide) (by decide)
    ·split
     ·exact h5.add _ (by decide) (by decide)
     ·exact h5.next
structure UK (m:KV) : Prop where
 str:∀ q∈m,∃ c:ByteArray,q.1 = .string c
 nd:(m.map (·.1)).Nodup
theorem Bc (b c:ByteArray) : jD (.string b) (.string c)=decide (b=c):=rfl
theorem UK.nil:UK []:=⟨fun q h=>(by cases h),List.nodup_nil⟩
theorem UK.tail {q:Value×Value} {m:KV} (h:UK (q::m)) : UK m:=⟨fun x hx=>h.str x (List.mem_cons_of_mem _ hx),(List.nodup_cons.1 (by simpa using h.nd)).2⟩
theorem Ff {b:ByteArray} {v:Value} : ∀ {m:KV},UK m→∀ q,q∈fm (.string b) v m↔q=(.string b,v)∨(q∈m∧q.1≠.string b)
 | [],_,q=>by simp [fm]
 | (k,u)::r,h,q=>by
  obtain ⟨c,hc⟩:=h.str (k,u) (List.mem_cons_self ..);simp only at hc;subst hc;have hn:=List.nodup_cons.1 (show ((Value.string c)::r.map (·.1)).Nodup by simpa using h.nd);rw [fm,Bc];by_cases lT:b=c
  ·subst lT;rw [if_pos (by simp),List.mem_cons];refine or_congr_right ⟨fun hq=>⟨List.mem_cons_of_mem _ hq,fun he=>hn.1 (he▸List.mem_map_of_mem hq)⟩,fun ⟨hq,aq⟩=>?_⟩;rcases List.mem_cons.1 hq with rfl|hq
   ·exact absurd rfl aq
   ·exact hq
  ·rw [if_neg (by simpa using lT),List.mem_cons,Ff h.tail q];constructor
   ·rintro (rfl|rfl|⟨h1,h2⟩)
    ·exact .inr ⟨List.mem_cons_self ..,fun he=>lT (by injection he with he;exact he.symm)⟩
    ·exact .inl rfl
    ·exact .inr ⟨List.mem_cons_of_mem _ h1,h2⟩
   ·rintro (rfl|⟨h1,h2⟩)
    ·exact .inr (.inl rfl)
    ·rcases List.mem_cons.1 h1 with rfl|h1
     ·exact .inl rfl
     ·exact .inr (.inr ⟨h1,h2⟩)
theorem Be {b:ByteArray} {v:Value} : ∀ {m:KV},UK m→((fm (.string b) v m).map (·.1)=m.map (·.1)∧(Value.string b)∈m.map (·.1))∨((fm (.string b) v m).map (·.1)=m.map (·.1)++[.string b]∧¬(Value.string b)∈m.map (·.1))
 | [],_=>.inr ⟨rfl,by simp⟩
 | (k,u)::r,h=>by
  obtain ⟨c,hc⟩:=h.str (k,u) (List.mem_cons_self ..);simp only at hc;subst hc;rw [fm,Bc];by_cases lT:b=c
  ·subst lT;rw [if_pos (by simp)];exact .inl ⟨rfl,by simp⟩
  ·have aq:¬(Value.string b) = .string c:=fun he=>lT (by injection he);rw [if_neg (by simpa using lT),List.map_cons];rcases Be (b:=b) (v:=v) h.tail with ⟨h1,h2⟩|⟨h1,h2⟩
   ·exact .inl ⟨by rw [h1];rfl,List.mem_cons_of_mem _ h2⟩
   ·refine .inr ⟨by rw [h1];rfl,fun hm=>?_⟩;rcases List.mem_cons.1 hm with he|hm
    ·exact aq he
    ·exact h2 hm
theorem UK.upd {b:ByteArray} {v:Value} {m:KV} (h:UK m) : UK (fm (.string b) v m):=by
 refine ⟨fun q hq=>?_,?_⟩
 ·rcases (Ff h q).1 hq with rfl|⟨h1,_⟩
  ·exact ⟨b,rfl⟩
  ·exact h.str q h1
 ·rcases Be (b:=b) (v:=v) h with ⟨h1,_⟩|⟨h1,hn⟩
  ·rw [h1];exact h.nd
  ·rw [h1];refine List.nodup_append.2 ⟨h.nd,by simp,fun a ha c hc=>?_⟩;rw [List.mem_singleton] at hc;subst hc;exact fun he=>hn (he▸ha)
theorem Fg {c:ByteArray} {v:Value} : ∀ {m:KV},UK m→(gW (.string c) m=some v↔(.string c,v)∈m)
 | [],_=>by simp [gW]
 | (k,u)::r,h=>by
  obtain ⟨d,hd⟩:=h.str (k,u) (List.mem_cons_self ..);simp only at hd;subst hd;have hn:=List.nodup_cons.1 (show ((Value.string d)::r.map (·.1)).Nodup by simpa using h.nd);rw [gW,Bc];by_cases Bf:c=d
  ·subst Bf;rw [if_pos (by simp)];constructor
   ·intro he;injection he with he
    subst he;exact List.mem_cons_self ..
   ·intro hm;rcases List.mem_cons.1 hm with he|hm
    ·injection he with _ he
     rw [he]
    ·exact absurd (List.mem_map_of_mem (f:=(·.1)) hm) hn.1
  ·rw [if_neg (by simpa using Bf),Fg h.tail,List.mem_cons];constructor
   ·exact .inr
   ·rintro (he|hm)
    ·injection he with he _
     injection he with he
     exact absurd he Bf
    ·exact hm
end Go.Proofs.YtoibondihdhnoaaGreatDoor
