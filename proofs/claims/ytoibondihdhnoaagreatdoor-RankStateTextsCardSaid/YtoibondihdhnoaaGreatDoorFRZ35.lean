/- Texts in one: Plain laws of texts: cutting at a byte, decimal numerals; no program in sight. -/
import Derived.Lib.SplitLaws
import Derived.Lib.ItoaMem
import Derived.Lib.AtoiAll
import Derived.Lib.Strings
namespace Go.Proofs.YtoibondihdhnoaaGreatDoor
open Go.Lib
def att (p:List UInt8) : List (List UInt8)→List (List UInt8)
 | []=>[p]
 | h::t=>(p++h)::t
def dK (c:UInt8) : List UInt8→List (List UInt8)
 | []=>[[]]
 | x::r=>if x=c then []::dK c r else att [x] (dK c r)
theorem vP (c:UInt8) : ∀ l,dK c l≠[]
 | []=>by simp [dK]
 | x::r=>by
  rw [dK];split
  ·simp
  ·cases h:dK c r<;>simp [att]
theorem Mr (p q:List UInt8) (l:List (List UInt8)) : att p (att q l)=att (p++q) l:=by cases l<;>simp [att]
theorem Ga {l:List (List UInt8)} (h:l≠[]) : att [] l=l:=by cases l<;>simp_all [att]
theorem zf {c:UInt8} : ∀ {l:List UInt8},c∉l→dK c l=[l]
 | [],_=>rfl
 | x::r,h=>by
  have hx:¬x=c:=fun e=>h (by simp [e]);rw [dK,if_neg hx,zf fun e=>h (by simp [e])];rfl
theorem Cj {c:UInt8} {b:List UInt8} : ∀ {a:List UInt8},c∉a→dK c (a++c::b)=a::dK c b
 | [],_=>by simp [dK]
 | x::a,h=>by
  have hx:¬x=c:=fun e=>h (by simp [e]);rw [List.cons_append,dK,if_neg hx,Cj fun e=>h (by simp [e])];rfl
theorem Gb (c:UInt8) : ∀ l,(dK c l).length≤l.length+1
 | []=>by simp [dK]
 | x::r=>by
  have:=Gb c r;rw [dK];split
  ·simp;omega
  ·cases h:dK c r with
   | nil=>simp [att]
   | cons a t=>rw [h] at this;simp [att] at this ⊢;omega
theorem Gc (c:UInt8) : ∀ l,∀ p∈dK c l,p.length≤l.length
 | [],p,h=>by simp [dK] at h;simp [h]
 | x::r,p,h=>by
  have ih:=Gc c r;rw [dK] at h;split at h
  ·rcases List.mem_cons.1 h with rfl|h
   ·simp
   ·have:=ih p h;simp;omega
  ·cases hc:dK c r with
   | nil=>exact absurd hc (vP c r)
   | cons a t=>
    rw [hc] at h ih;simp only [att] at h;rcases List.mem_cons.1 h with rfl|h
    ·have:=ih a (by simp);simp;omega
    ·have:=ih p (by simp [h]);simp;omega
def fh (c:UInt8) (l:List UInt8) : Nat→Nat
 | 0=>0
 | k+1=>if l[k]? = some c then k+1 else fh c l k
def jc (c:UInt8) (l:List UInt8) : Nat→List (List UInt8)
 | 0=>[]
 | k+1=>if l[k]? = some c then jc c l k++[(l.drop (fh c l k)).take (k - fh c l k)] else jc c l k
theorem vQ (c:UInt8) (l:List UInt8) : ∀ k,fh c l k≤k
 | 0=>Nat.le_refl _
 | k+1=>by
  have:=vQ c l k;rw [fh];split<;>omega
theorem Ck (c:UInt8) (l:List UInt8) : ∀ k,(jc c l k).length≤k
 | 0=>Nat.le_refl _
 | k+1=>by
  have:=Ck c l k;rw [jc];split<;>simp<;>omega
theorem Gd (c:UInt8) (l:List UInt8) : ∀ k,k≤l.length→dK c l=jc c l k++att ((l.drop (fh c l k)).take (k - fh c l k)) (dK c (l.drop k))
 | 0,_=>by simp [jc,fh,Ga (vP c l)]
 | k+1,hk=>by
  have ih:=Gd c l k (by omega);have hle:=vQ c l k;have hd:l.drop k=l[k]::l.drop (k+1):=List.drop_eq_getElem_cons (by omega);have hg:l[k]? = some l[k]:=List.getElem?_eq_getElem (by omega);rw [hd,dK] at ih;rw [jc,fh,hg];by_cases h:l[k]=c
  ·rw [if_pos h] at ih;rw [if_pos (by rw [h]),if_pos (by rw [h]),Nat.sub_self,List.take_zero,Ga (vP c _),ih];simp [att]
  ·rw [if_neg h,Mr] at ih;rw [if_neg (by simpa using h),if_neg (by simpa using h),ih];congr 2;rw [show k+1 - fh c l k=(k - fh c l k)+1 by omega,List.take_add_one,List.getElem?_drop,show fh c l k+(k - fh c l k)=k by omega,hg];rfl
theorem Ms (c:UInt8) (l:List UInt8) : dK c l=jc c l l.length++[l.drop (fh c l l.length)]:=by
 have h:=Gd c l l.length (Nat.le_refl _);have hle:=vQ c l l.length;rw [List.drop_length,dK,List.take_of_length_le (by simp)] at h;simpa [att] using h
def mkB (l:List UInt8) : ByteArray:=⟨l.toArray⟩
theorem Ge {c:UInt8} : ∀ {l:List UInt8},index l [c] = -1→c∉l
 | [],_=>by simp
 | x::r,h=>by
  rw [index] at h;have hp:([c] : List UInt8).isPrefixOf (x::r)=(c == x):=by simp [List.isPrefixOf]
  rw [hp] at h;split at h
  ·cases h
  ·rename_i hx;split at h
   ·rename_i h2;have ih:=Ge (by simpa using h2);simp only [List.mem_cons,not_or];exact ⟨by simpa using hx,ih⟩
   ·have:=index_ge r [c];rename_i h2;simp only [beq_iff_eq] at h2;omega
theorem Gf {c:UInt8} : ∀ {l:List UInt8} {i:Nat},index l [c]=i→∃ b,l=l.take i++c::b∧c∉l.take i∧b=l.drop (i+1)
 | [],i,h=>by simp [index] at h
 | x::r,i,h=>by
  rw [index] at h;have hp:([c] : List UInt8).isPrefixOf (x::r)=(c == x):=by simp [List.isPrefixOf]
  rw [hp] at h;split at h
  ·rename_i hx;have hx:c=x:=by simpa using hx
   have hi:i=0:=by omega
   subst hi hx;exact ⟨r,by simp,by simp,by simp⟩
  ·rename_i hx;split at h
   ·omega
   ·rename_i h2;obtain ⟨j,rfl⟩ : ∃ j,i=j+1:=⟨i - 1,by have:=index_ge r [c];simp only [beq_iff_eq] at h2;omega⟩
    obtain ⟨b,h3,h4,h5⟩:=Gf (c:=c) (l:=r) (i:=j) (by omega);refine ⟨b,?_,?_,by simpa using h5⟩
    ·rw [List.take_succ_cons,List.cons_append,←h3]
    ·rw [List.take_succ_cons,List.mem_cons,not_or];exact ⟨by simpa using hx,h4⟩
theorem Cl (s:ByteArray) (i j:Nat) : s.extract i j=mkB ((s.data.toList.drop i).take (j - i)):=extract_eq s i j
theorem Cm (c:UInt8) : ∀ (k:Nat) (s:ByteArray),countB s ⟨#[c]⟩=k→splitB ⟨#[c]⟩ 0 k s=(dK c s.data.toList).map mkB
 | 0,s,h=>by
  have bw:c∉s.data.toList:=by
   have h2:s.data.toList.count c=0:=by rw [←count_one];exact h
   exact List.count_eq_zero.1 h2
  rw [zf bw];rfl
 | k+1,s,h=>by
  have h2:s.data.toList.count c=k+1:=by rw [←count_one];exact h
  rcases indexB_cases s ⟨#[c]⟩ with vR|⟨i,vR,gH⟩
  ·have:=Ge (show index s.data.toList [c] = -1 from vR);rw [List.count_eq_zero.2 this] at h2;omega
  ·obtain ⟨b,h3,h4,h5⟩:=Gf (show index s.data.toList [c]=i from vR);have aM:(⟨#[c]⟩ : ByteArray).size=1:=rfl;have Mt:=countB_hit s ⟨#[c]⟩ i (by rw [aM];exact Nat.le_refl _) vR;rw [splitB_hit _ _ _ s i vR,aM,Cm c k _ (by rw [aM] at Mt;omega)];rw [show dK c s.data.toList=s.data.toList.take i::dK c b by
    conv=>lhs;rw [h3]
    exact Cj h4]
   have e1:s.extract 0 (i+0)=mkB (s.data.toList.take i):=by rw [Cl];simp
   have e2:s.extract (i+1) s.size=mkB b:=by
    have hs:s.size=s.data.toList.length:=size_eq s;rw [Cl,h5,List.take_of_length_le (by rw [List.length_drop];omega)]
   rw [List.map_cons,e1,e2];rfl
def isD (b:UInt8) : Bool:=decide (48≤b.toNat)&&decide (b.toNat≤57)
def dig (b:UInt8) : Nat:=b.toNat - 48
def dY (acc:Nat) (l:List UInt8) : Nat:=l.foldl (fun a b=>a*10+dig b) acc
theorem od (acc:Nat) (b:UInt8) (r:List UInt8) : dY acc (b::r)=dY (acc*10+(b.toNat - 48)) r:=List.foldl_cons ..
theorem pf (acc:Nat) : dY acc []=acc:=List.foldl_nil ..
theorem Gg (a b:List UInt8) : ∀ acc,dY acc (a++b)=dY (dY acc a) b:=by
 induction a with
 | nil=>intro acc;rw [pf,List.nil_append]
 | cons x r ih=>intro acc;rw [List.cons_append,od,od,ih]
theorem qB {d:Nat} (h:d < 10) : (UInt8.ofNat (48+d)).toNat=48+d:=by
 generalize hn:48+d=n;have gC:n < 256:=by omega
 exact UInt8.toNat_ofNat_of_lt' gC
theorem Gh:∀ n,dY 0 (decDigits n)=n:=by
 intro n;induction n using Nat.strongRecOn with
 | _ n ih=>
  rw [decDigits];split
  ·rename_i h;rw [od,pf,qB h];omega
  ·rename_i h;rw [Gg,ih (n / 10) (by omega)];rw [od,pf,qB (show n % 10 < 10 by omega)];omega
theorem Cn:∀ n,(decDigits n).all isD=true:=by
 intro n;induction n using Nat.strongRecOn with
 | _ n ih=>
  rw [decDigits];split
  ·rename_i h;rw [List.all_cons,List.all_nil,Bool.and_true];unfold isD;rw [qB h];simp;omega
  ·rename_i h;rw [List.all_append,ih (n / 10) (by omega),List.all_cons,List.all_nil,Bool.and_true,Bool.true_and];unfold isD;rw [qB (show n % 10 < 10 by omega)];simp;omega
theorem Co (n:Nat) : decDigits n≠[]:=by
 rw [decDigits];split<;>simp
theorem Gi:∀ n,0 < n→∃ b r,decDigits n=b::r∧49≤b.toNat:=by
 intro n;induction n using Nat.strongRecOn with
 | _ n ih=>
  intro hn;rw [decDigits];split
  ·rename_i h;exact ⟨_,_,rfl,by rw [qB h];omega⟩
  ·rename_i h;obtain ⟨b,r,h1,h2⟩:=ih (n / 10) (by omega) (by omega);exact ⟨b,r++[UInt8.ofNat (48+n % 10)],by rw [h1];rfl,h2⟩
theorem zg:decDigits 0=[48]:=by rw [decDigits];rfl
theorem Gj {b:UInt8} (h:isD b=true) : UInt8.ofNat (48+(b.toNat - 48))=b:=by
 simp only [isD,Bool.and_eq_true,decide_eq_true_eq] at h;apply UInt8.toNat_inj.1;rw [qB (d:=b.toNat - 48) (by omega)];omega
theorem Gk:∀ (r:List UInt8) (n:Nat),0 < n→r.all isD=true→decDigits (dY n r)=decDigits n++r
 | [],n,_,_=>by rw [pf,List.append_nil]
 | b::r,n,hn,h=>by
  rw [List.all_cons,Bool.and_eq_true] at h;have hd:=h.1;simp only [isD,Bool.and_eq_true,decide_eq_true_eq] at hd;rw [od,Gk r _ (by omega) h.2];have e:decDigits (n*10+(b.toNat - 48))=decDigits n++[b]:=by
   rw [decDigits,dif_neg (by omega),show (n*10+(b.toNat - 48)) / 10=n by omega,show (n*10+(b.toNat - 48)) % 10=b.toNat - 48 by omega,Gj h.1]
  rw [e,List.append_assoc];rfl
theorem Cp {b:UInt8} {r:List UInt8} (h:(b::r).all isD=true) (h0:b.toNat≠48) : decDigits (dY 0 (b::r))=b::r:=by
 rw [List.all_cons,Bool.and_eq_true] at h;have hd:=h.1;simp only [isD,Bool.and_eq_true,decide_eq_true_eq] at hd;rw [od,Gk r _ (by omega) h.2,Nat.zero_mul,Nat.zero_add,decDigits,dif_pos (by omega),Gj h.1];rfl
theorem Gl:∀ (r:List UInt8) (n:Nat),r.all isD=true→dY n r < (n+1)*10 ^ r.length
 | [],n,_=>by rw [pf];simp
 | b::r,n,h=>by
  rw [List.all_cons,Bool.and_eq_true] at h;have hd:=h.1;simp only [isD,Bool.and_eq_true,decide_eq_true_eq] at hd;have ih:=Gl r (n*10+(b.toNat - 48)) h.2;rw [od,List.length_cons,Nat.pow_succ];refine Nat.lt_of_lt_of_le ih ?_;rw [Nat.mul_comm (10 ^ r.length) 10,←Nat.mul_assoc];exact Nat.mul_le_mul_right _ (by omega)
theorem qC {l:List UInt8} (h:l.all isD=true) (hl:l.length≤9) : dY 0 l < 1000000000:=by
 have h1:=Gl l 0 h;have h2:10 ^ l.length≤10 ^ 9:=Nat.pow_le_pow_right (by decide) hl;omega
theorem zh:∀ (k n:Nat),n < 10 ^ (k+1)→(decDigits n).length≤k+1
 | 0,n,h=>by
  rw [decDigits,dif_pos (by simpa using h)];simp
 | k+1,n,h=>by
  rw [decDigits];split
  ·simp
  ·have hp:10 ^ (k+1+1)=10 ^ (k+1)*10:=Nat.pow_succ ..;have:=zh k (n / 10) (by omega);simp;omega
theorem tK (l:List UInt8) : (mkB l).size=l.length:=by simp [mkB,ByteArray.size]
def pg (m:Nat) : List UInt8:=if m=0 then [] else decDigits m
theorem Mu:pg 0=[]:=rfl
theorem zi {m:Nat} (h:m≠0) : pg m=decDigits m:=if_neg h
theorem Gm {m:Nat} (h:m≠0) : pg m=pg (m / 10)++[UInt8.ofNat (48+m % 10)]:=by
 rw [zi h,decDigits];split
 ·rename_i h2;rw [show m / 10=0 by omega,Mu,show m % 10=m by omega];rfl
 ·rename_i h2;rw [zi (show m / 10≠0 by omega)]
def oe (ds:List UInt8) (one:Bool) : Option Nat:=if ds=[]∨9 < ds.length∨(ds.head? = some 48∧one=false)∨ds.all isD=false then none else some (dY 0 ds)
def dv:List UInt8→Option Int
 | []=>none
 | c::r=>if c=45 then (oe r false).map (fun u:Nat=>-(u:Int)) else (oe (c::r) r.isEmpty).map (fun u:Nat=>(u:Int))
theorem Gn {ds:List UInt8} {one:Bool} {u:Nat} (h:oe ds one=some u) : ds≠[]∧ds.length≤9∧(ds.head? = some 48→one=true)∧ds.all isD=true∧u=dY 0 ds:=by
 unfold oe at h;split at h
 ·cases h
 ·rename_i hn;simp only [not_or,Bool.not_eq_false,Nat.not_lt,not_and] at hn;injection h with h
  exact ⟨hn.1,hn.2.1,hn.2.2.1,hn.2.2.2,h.symm⟩
theorem vS {ds:List UInt8} {one:Bool} (h1:ds≠[]) (h2:ds.length≤9) (h3:ds.head? = some 48→one=true) (h4:ds.all isD=true) : oe ds one=some (dY 0 ds):=by
 unfold oe;rw [if_neg];simp only [not_or,Bool.not_eq_false,Nat.not_lt,not_and];exact ⟨h1,h2,h3,h4⟩
def jd (l:List UInt8) : Bool:=match atoiAll l with | .ok v=>decide (itoa v=l)&&decide ((trimPrefix l [45]).length≤9)|_=>false
theorem Gp:∀ (r:List UInt8) (acc:Nat),r.all isD=true→(acc+1)*10 ^ r.length≤1000000000000→parseUint10 acc r = .ok (dY acc r)
 | [],acc,_,_=>by rw [pf];rfl
 | b::r,acc,h,hb=>by
  rw [List.all_cons,Bool.and_eq_true] at h;have hd:=h.1;simp only [isD,Bool.and_eq_true,decide_eq_true_eq] at hd;rw [List.length_cons,Nat.pow_succ,Nat.mul_comm (10 ^ r.length) 10,←Nat.mul_assoc] at hb;have hp:0 < 10 ^ r.length:=Nat.pow_pos (by decide);have h1:(acc+1)*10≤1000000000000:=Nat.le_trans (Nat.le_mul_of_pos_right _ hp) hb;rw [parseUint10,if_pos hd,if_neg (by omega),if_neg (by omega),od];exact Gp r _ h.2 (Nat.le_trans (Nat.mul_le_mul_right _ (by omega)) hb)
theorem Gq {l:List UInt8} (h:l.all isD=true) (hl:l.length≤9) : parseUint10 0 l = .ok (dY 0 l):=by
 refine Gp l 0 h ?_;have:10 ^ l.length≤10 ^ 9:=Nat.pow_le_pow_right (by decide) hl;omega
theorem vT {b:UInt8} (h:isD b=true) : 48≤b.toNat∧b.toNat≤57:=by simpa [isD] using h
theorem Mw {b:UInt8} {r:List UInt8} (h:(b::r).all isD=true) (h0:b.toNat≠48) : 0 < dY 0 (b::r):=by
 have:=Cp h h0;apply Nat.pos_of_ne_zero;intro hz;rw [hz,zg] at this;injection this with h1 _
 rw [←h1] at h0;exact h0 rfl
theorem r8 {ds:List UInt8} {one:Bool} (h:ds=[]∨9 < ds.length∨(ds.head? = some 48∧one=false)∨ds.all isD=false) : oe ds one=none:=if_pos h
theorem Cq {ds:List UInt8} {k:Nat} (h:k < ds.length) : dY 0 (ds.take (k+1))=dY 0 (ds.take k)*10+(ds[k].toNat - 48):=by
 rw [List.take_add_one,List.getElem?_eq_getElem h];show dY 0 (ds.take k++[ds[k]])=_;rw [Gg,od,pf]
theorem Gr {l:List UInt8} {v:Int} (h:dv l=some v) : atoiAll l = .ok v∧itoa v=l∧(trimPrefix l [45]).length≤9:=by
 cases l with
 | nil=>cases h
 | cons c r=>
  rw [dv] at h;by_cases hc:c=45
  ·subst hc;rw [if_pos rfl,Option.map_eq_some_iff] at h;obtain ⟨u,hm,rfl⟩:=h;obtain ⟨n1,n2,n3,n4,n5⟩:=Gn hm;cases r with
   | nil=>exact absurd rfl n1
   | cons b t=>
    have hb:b.toNat≠48:=fun e=>by
     have:b=48:=UInt8.toNat_inj.1 e;have:=n3 (by rw [this];rfl);cases this
    have bZ:=Mw n4 hb;have aw:=qC n4 n2;have vU:=Gq n4 n2;have vV:=Cp n4 hb;rw [←n5] at bZ aw vU vV;refine ⟨?_,?_,?_⟩
    ·unfold atoiAll;have Cr:(45:UInt8).toNat=45:=rfl;simp only [Cr,or_true,if_true,parseMag,List.cons_ne_nil,if_false,vU,not_true_eq_false,false_and,true_and];rw [if_neg (by omega)]
    ·rw [itoa_neg u bZ,vV]
    ·simp only [trimPrefix,hasPrefix,List.isPrefixOf,beq_self_eq_true,Bool.true_and,if_true,List.length_cons,List.length_nil,List.drop_succ_cons,List.drop_zero];exact n2
  ·rw [if_neg hc,Option.map_eq_some_iff] at h;obtain ⟨u,hm,rfl⟩:=h;obtain ⟨n1,n2,n3,n4,n5⟩:=Gn hm;have vW:=vT (List.all_eq_true.1 n4 c (by simp));have aw:=qC n4 n2;have vU:=Gq n4 n2;have vV:decDigits (dY 0 (c::r))=c::r:=by
    by_cases Cs:c.toNat=48
    ·have vX:c=48:=UInt8.toNat_inj.1 Cs;have hr:=n3 (by rw [vX];rfl);cases r with
     | nil=>
      rw [od,pf,Cs];simp only [Nat.zero_mul,Nat.zero_add,Nat.sub_self];rw [zg,vX]
     | cons _ _=>simp at hr
    ·exact Cp n4 Cs
   rw [←n5] at aw vU vV;refine ⟨?_,?_,?_⟩
   ·unfold atoiAll;have q1:¬c.toNat=43:=by omega
    have q2:¬c.toNat=45:=by omega
    simp only [q1,q2,or_self,if_false,parseMag,List.cons_ne_nil,vU,not_false_eq_true,true_and,false_and];rw [if_neg (by omega)]
   ·rw [itoa_nonneg,vV]
   ·have hp:hasPrefix (c::r) [45]=false:=by
     simp only [hasPrefix,List.isPrefixOf,Bool.and_true,beq_eq_false_iff_ne];exact fun e=>hc e.symm
    unfold trimPrefix;rw [hp];simpa using n2
theorem Gs {l:List UInt8} {v:Int} (h1:itoa v=l) (h2:(trimPrefix l [45]).length≤9) : dv l=some v:=by
 by_cases hv:v < 0
 ·obtain ⟨u,rfl,hu⟩ : ∃ u:Nat,v = -(u:Int)∧1≤u:=⟨v.natAbs,by omega,by omega⟩
  rw [itoa_neg u hu] at h1;subst h1;obtain ⟨b,r,hb,hb2⟩:=Gi u hu;simp only [trimPrefix,hasPrefix,List.isPrefixOf,beq_self_eq_true,Bool.true_and,if_true,List.length_cons,List.length_nil,List.drop_succ_cons,List.drop_zero] at h2;rw [dv,if_pos rfl,vS (Co u) h2 (fun e=>?_) (Cn u),Gh]
  ·rfl
  ·rw [hb] at e;simp only [List.head?_cons,Option.some.injEq] at e;rw [e] at hb2;exact absurd hb2 (by decide)
 ·obtain ⟨u,rfl⟩ : ∃ u:Nat,v=(u:Int):=⟨v.toNat,by omega⟩
  rw [itoa_nonneg] at h1;subst h1;have ax:=Cn u;cases hd:decDigits u with
  | nil=>exact absurd hd (Co u)
  | cons b r=>
   rw [hd] at ax h2;have kt:=vT (List.all_eq_true.1 ax b (by simp));have vY:¬b=45:=fun e=>by rw [e] at kt;exact absurd kt.1 (by decide)
   have hp:hasPrefix (b::r) [45]=false:=by
    simp only [hasPrefix,List.isPrefixOf,Bool.and_true,beq_eq_false_iff_ne];exact fun e=>vY e.symm
   unfold trimPrefix at h2;rw [hp] at h2;have cw:dY 0 (b::r)=u:=by rw [←hd];exact Gh u
   rw [dv,if_neg vY,vS (by simp) (by simpa using h2) (fun e=>?_) ax,cw]
   ·rfl
   ·simp only [List.head?_cons,Option.some.injEq] at e;by_cases hu:u=0
    ·subst hu;rw [zg] at hd;injection hd with _ hr
     rw [←hr];rfl
    ·obtain ⟨b',r',g1,g2⟩:=Gi u (by omega);rw [hd] at g1;injection g1 with g1 _
     rw [←g1,e] at g2;exact absurd g2 (by decide)
theorem nf (l:List UInt8) : jd l=(dv l).isSome:=by
 cases h:dv l with
 | some v=>
  obtain ⟨h1,h2,h3⟩:=Gr h;unfold jd;rw [h1];simp [h2,h3]
 | none=>
  unfold jd;cases ha:atoiAll l with
  | ok v=>
   simp only [Option.isSome_none,Bool.and_eq_false_iff,decide_eq_false_iff_not];by_cases h1:itoa v=l
   ·refine .inr fun h2=>?_;rw [Gs h1 h2] at h;cases h
   ·exact .inl h1
  | range=>rfl
  | _=>rfl
end Go.Proofs.YtoibondihdhnoaaGreatDoor
