/- Texts in one: Plain laws of texts: cutting at a byte, decimal numerals; no program in sight. -/
import Derived.Lib.SplitLaws
import Derived.Lib.ItoaMem
import Derived.Lib.AtoiAll
import Derived.Lib.Strings
namespace Go.Proofs.YtoibondihdhnoaaGreatDoor
open Go.Lib
def att (p:List UInt8) : List (List UInt8)→List (List UInt8)
 | []=>[p]
 | h::t=>(p++h)::t
def w6_ (c:UInt8) : List UInt8→List (List UInt8)
 | []=>[[]]
 | x::r=>if x=c then []::w6_ c r else att [x] (w6_ c r)
theorem a4v (c:UInt8) : ∀ l,w6_ c l≠[]
 | []=>by simp [w6_]
 | x::r=>by
  rw [w6_]
  split
  ·simp
  ·cases h:w6_ c r<;>simp [att]
theorem c8v (p q:List UInt8) (l:List (List UInt8)) : att p (att q l)=att (p++q) l:=by cases l<;>simp [att]
theorem c0l {l:List (List UInt8)} (h:l≠[]) : att [] l=l:=by cases l<;>simp_all [att]
theorem a8o {c:UInt8} : ∀ {l:List UInt8},c∉l→w6_ c l=[l]
 | [],_=>rfl
 | x::r,h=>by
  have hx:¬x=c:=fun e=>h (by simp [e])
  rw [w6_,if_neg hx,a8o fun e=>h (by simp [e])]
  rfl
theorem b3d {c:UInt8} {b:List UInt8} : ∀ {a:List UInt8},c∉a→w6_ c (a++c::b)=a::w6_ c b
 | [],_=>by simp [w6_]
 | x::a,h=>by
  have hx:¬x=c:=fun e=>h (by simp [e])
  rw [List.cons_append,w6_,if_neg hx,b3d fun e=>h (by simp [e])]
  rfl
theorem b5j (c:UInt8) : ∀ l,(w6_ c l).length≤l.length+1
 | []=>by simp [w6_]
 | x::r=>by
  have:=b5j c r
  rw [w6_]
  split
  ·simp;omega
  ·cases h:w6_ c r with
   | nil=>simp [att]
   | cons a t=>rw [h] at this;simp [att] at this ⊢;omega
theorem b0s (c:UInt8) : ∀ l,∀ p∈w6_ c l,p.length≤l.length
 | [],p,h=>by simp [w6_] at h;simp [h]
 | x::r,p,h=>by
  have ih:=b0s c r
  rw [w6_] at h
  split at h
  ·rcases List.mem_cons.1 h with rfl|h
   ·simp
   ·have:=ih p h;simp;omega
  ·cases hc:w6_ c r with
   | nil=>exact absurd hc (a4v c r)
   | cons a t=>
    rw [hc] at h ih
    simp only [att] at h
    rcases List.mem_cons.1 h with rfl|h
    ·have:=ih a (by simp);simp;omega
    ·have:=ih p (by simp [h]);simp;omega
def h5_ (c:UInt8) (l:List UInt8) : Nat→Nat
 | 0=>0
 | k+1=>if l[k]? = some c then k+1 else h5_ c l k
def u6_ (c:UInt8) (l:List UInt8) : Nat→List (List UInt8)
 | 0=>[]
 | k+1=>if l[k]? = some c then u6_ c l k++[(l.drop (h5_ c l k)).take (k - h5_ c l k)] else u6_ c l k
theorem x8_ (c:UInt8) (l:List UInt8) : ∀ k,h5_ c l k≤k
 | 0=>Nat.le_refl _
 | k+1=>by
  have:=x8_ c l k
  rw [h5_]
  split<;>omega
theorem a4w (c:UInt8) (l:List UInt8) : ∀ k,(u6_ c l k).length≤k
 | 0=>Nat.le_refl _
 | k+1=>by
  have:=a4w c l k
  rw [u6_]
  split<;>simp<;>omega
theorem c7d (c:UInt8) (l:List UInt8) : ∀ k,k≤l.length→w6_ c l=u6_ c l k++att ((l.drop (h5_ c l k)).take (k - h5_ c l k)) (w6_ c (l.drop k))
 | 0,_=>by simp [u6_,h5_,c0l (a4v c l)]
 | k+1,hk=>by
  have ih:=c7d c l k (by omega)
  have hle:=x8_ c l k
  have hd:l.drop k=l[k]::l.drop (k+1):=List.drop_eq_getElem_cons (by omega)
  have hg:l[k]? = some l[k]:=List.getElem?_eq_getElem (by omega)
  rw [hd,w6_] at ih
  rw [u6_,h5_,hg]
  by_cases h:l[k]=c
  ·rw [if_pos h] at ih
   rw [if_pos (by rw [h]),if_pos (by rw [h]),Nat.sub_self,List.take_zero,c0l (a4v c _),ih]
   simp [att]
  ·rw [if_neg h,c8v] at ih
   rw [if_neg (by simpa using h),if_neg (by simpa using h),ih]
   congr 2
   rw [show k+1 - h5_ c l k=(k - h5_ c l k)+1 by omega,List.take_add_one,List.getElem?_drop,show h5_ c l k+(k - h5_ c l k)=k by omega,hg]
   rfl
theorem c8w (c:UInt8) (l:List UInt8) : w6_ c l=u6_ c l l.length++[l.drop (h5_ c l l.length)]:=by
 have h:=c7d c l l.length (Nat.le_refl _)
 have hle:=x8_ c l l.length
 rw [List.drop_length,w6_,List.take_of_length_le (by simp)] at h
 simpa [att] using h
def mkB (l:List UInt8) : ByteArray:=⟨l.toArray⟩
theorem a3d {c:UInt8} : ∀ {l:List UInt8},index l [c] = -1→c∉l
 | [],_=>by simp
 | x::r,h=>by
  rw [index] at h
  have hp:([c] : List UInt8).isPrefixOf (x::r)=(c == x):=by simp [List.isPrefixOf]
  rw [hp] at h
  split at h
  ·cases h
  ·rename_i hx
   split at h
   ·rename_i h2
    have ih:=a3d (by simpa using h2)
    simp only [List.mem_cons,not_or]
    exact ⟨by simpa using hx,ih⟩
   ·have:=index_ge r [c]
    rename_i h2
    simp only [beq_iff_eq] at h2
    omega
theorem a3e {c:UInt8} : ∀ {l:List UInt8} {i:Nat},index l [c]=i→∃ b,l=l.take i++c::b∧c∉l.take i∧b=l.drop (i+1)
 | [],i,h=>by simp [index] at h
 | x::r,i,h=>by
  rw [index] at h
  have hp:([c] : List UInt8).isPrefixOf (x::r)=(c == x):=by simp [List.isPrefixOf]
  rw [hp] at h
  split at h
  ·rename_i hx
   have hx:c=x:=by simpa using hx
   have hi:i=0:=by omega
   subst hi hx
   exact ⟨r,by simp,by simp,by simp⟩
  ·rename_i hx
   split at h
   ·omega
   ·rename_i h2
    obtain ⟨j,rfl⟩ : ∃ j,i=j+1:=⟨i - 1,by have:=index_ge r [c];simp only [beq_iff_eq] at h2;omega⟩
    obtain ⟨b,h3,h4,h5⟩:=a3e (c:=c) (l:=r) (i:=j) (by omega)
    refine ⟨b,?_,?_,by simpa using h5⟩
    ·rw [List.take_succ_cons,List.cons_append,←h3]
    ·rw [List.take_succ_cons,List.mem_cons,not_or]
     exact ⟨by simpa using hx,h4⟩
theorem a4x (s:ByteArray) (i j:Nat) : s.extract i j=mkB ((s.data.toList.drop i).take (j - i)):=extract_eq s i j
theorem a4y (c:UInt8) : ∀ (k:Nat) (s:ByteArray),countB s ⟨#[c]⟩=k→splitB ⟨#[c]⟩ 0 k s=(w6_ c s.data.toList).map mkB
 | 0,s,h=>by
  have hno:c∉s.data.toList:=by
   have h2:s.data.toList.count c=0:=by rw [←count_one];exact h
   exact List.count_eq_zero.1 h2
  rw [a8o hno]
  rfl
 | k+1,s,h=>by
  have h2:s.data.toList.count c=k+1:=by rw [←count_one];exact h
  rcases indexB_cases s ⟨#[c]⟩ with hix|⟨i,hix,hroom⟩
  ·have:=a3d (show index s.data.toList [c] = -1 from hix)
   rw [List.count_eq_zero.2 this] at h2
   omega
  ·obtain ⟨b,h3,h4,h5⟩:=a3e (show index s.data.toList [c]=i from hix)
   have hsz:(⟨#[c]⟩ : ByteArray).size=1:=rfl
   have hcb:=countB_hit s ⟨#[c]⟩ i (by rw [hsz];exact Nat.le_refl _) hix
   rw [splitB_hit _ _ _ s i hix,hsz,a4y c k _ (by rw [hsz] at hcb;omega)]
   rw [show w6_ c s.data.toList=s.data.toList.take i::w6_ c b by
    conv=>lhs;rw [h3]
    exact b3d h4]
   have e1:s.extract 0 (i+0)=mkB (s.data.toList.take i):=by rw [a4x];simp
   have e2:s.extract (i+1) s.size=mkB b:=by
    have hs:s.size=s.data.toList.length:=size_eq s
    rw [a4x,h5,List.take_of_length_le (by rw [List.length_drop];omega)]
   rw [List.map_cons,e1,e2]
   rfl
def isD (b:UInt8) : Bool:=decide (48≤b.toNat)&&decide (b.toNat≤57)
def dig (b:UInt8) : Nat:=b.toNat - 48
def x9_ (acc:Nat) (l:List UInt8) : Nat:=l.foldl (fun a b=>a*10+dig b) acc
theorem k2_ (acc:Nat) (b:UInt8) (r:List UInt8) : x9_ acc (b::r)=x9_ (acc*10+(b.toNat - 48)) r:=List.foldl_cons ..
theorem o9_ (acc:Nat) : x9_ acc []=acc:=List.foldl_nil ..
theorem b5k (a b:List UInt8) : ∀ acc,x9_ acc (a++b)=x9_ (x9_ acc a) b:=by
 induction a with
 | nil=>intro acc;rw [o9_,List.nil_append]
 | cons x r ih=>intro acc;rw [List.cons_append,k2_,k2_,ih]
theorem n6_ {d:Nat} (h:d < 10) : (UInt8.ofNat (48+d)).toNat=48+d:=by
 generalize hn:48+d=n
 have hn2:n < 256:=by omega
 exact UInt8.toNat_ofNat_of_lt' hn2
theorem a6s:∀ n,x9_ 0 (decDigits n)=n:=by
 intro n
 induction n using Nat.strongRecOn with
 | _ n ih=>
  rw [decDigits]
  split
  ·rename_i h
   rw [k2_,o9_,n6_ h]
   omega
  ·rename_i h
   rw [b5k,ih (n / 10) (by omega)]
   rw [k2_,o9_,n6_ (show n % 10 < 10 by omega)]
   omega
theorem a2o:∀ n,(decDigits n).all isD=true:=by
 intro n
 induction n using Nat.strongRecOn with
 | _ n ih=>
  rw [decDigits]
  split
  ·rename_i h
   rw [List.all_cons,List.all_nil,Bool.and_true]
   unfold isD
   rw [n6_ h]
   simp
   omega
  ·rename_i h
   rw [List.all_append,ih (n / 10) (by omega),List.all_cons,List.all_nil,Bool.and_true,Bool.true_and]
   unfold isD
   rw [n6_ (show n % 10 < 10 by omega)]
   simp
   omega
theorem a4z (n:Nat) : decDigits n≠[]:=by
 rw [decDigits]
 split<;>simp
theorem a5a:∀ n,0 < n→∃ b r,decDigits n=b::r∧49≤b.toNat:=by
 intro n
 induction n using Nat.strongRecOn with
 | _ n ih=>
  intro hn
  rw [decDigits]
  split
  ·rename_i h
   exact ⟨_,_,rfl,by rw [n6_ h];omega⟩
  ·rename_i h
   obtain ⟨b,r,h1,h2⟩:=ih (n / 10) (by omega) (by omega)
   exact ⟨b,r++[UInt8.ofNat (48+n % 10)],by rw [h1];rfl,h2⟩
theorem u7_:decDigits 0=[48]:=by rw [decDigits];rfl
theorem a6t {b:UInt8} (h:isD b=true) : UInt8.ofNat (48+(b.toNat - 48))=b:=by
 simp only [isD,Bool.and_eq_true,decide_eq_true_eq] at h
 apply UInt8.toNat_inj.1
 rw [n6_ (d:=b.toNat - 48) (by omega)]
 omega
theorem a6u:∀ (r:List UInt8) (n:Nat),0 < n→r.all isD=true→decDigits (x9_ n r)=decDigits n++r
 | [],n,_,_=>by rw [o9_,List.append_nil]
 | b::r,n,hn,h=>by
  rw [List.all_cons,Bool.and_eq_true] at h
  have hd:=h.1
  simp only [isD,Bool.and_eq_true,decide_eq_true_eq] at hd
  rw [k2_,a6u r _ (by omega) h.2]
  have e:decDigits (n*10+(b.toNat - 48))=decDigits n++[b]:=by
   rw [decDigits,dif_neg (by omega),show (n*10+(b.toNat - 48)) / 10=n by omega,show (n*10+(b.toNat - 48)) % 10=b.toNat - 48 by omega,a6t h.1]
  rw [e,List.append_assoc]
  rfl
theorem a0q {b:UInt8} {r:List UInt8} (h:(b::r).all isD=true) (h0:b.toNat≠48) : decDigits (x9_ 0 (b::r))=b::r:=by
 rw [List.all_cons,Bool.and_eq_true] at h
 have hd:=h.1
 simp only [isD,Bool.and_eq_true,decide_eq_true_eq] at hd
 rw [k2_,a6u r _ (by omega) h.2,Nat.zero_mul,Nat.zero_add,decDigits,dif_pos (by omega),a6t h.1]
 rfl
theorem c0m:∀ (r:List UInt8) (n:Nat),r.all isD=true→x9_ n r < (n+1)*10 ^ r.length
 | [],n,_=>by rw [o9_];simp
 | b::r,n,h=>by
  rw [List.all_cons,Bool.and_eq_true] at h
  have hd:=h.1
  simp only [isD,Bool.and_eq_true,decide_eq_true_eq] at hd
  have ih:=c0m r (n*10+(b.toNat - 48)) h.2
  rw [k2_,List.length_cons,Nat.pow_succ]
  refine Nat.lt_of_lt_of_le ih ?_
  rw [Nat.mul_comm (10 ^ r.length) 10,←Nat.mul_assoc]
  exact Nat.mul_le_mul_right _ (by omega)
theorem r2_ {l:List UInt8} (h:l.all isD=true) (hl:l.length≤9) : x9_ 0 l < 1000000000:=by
 have h1:=c0m l 0 h
 have h2:10 ^ l.length≤10 ^ 9:=Nat.pow_le_pow_right (by decide) hl
 omega
theorem z8_:∀ (k n:Nat),n < 10 ^ (k+1)→(decDigits n).length≤k+1
 | 0,n,h=>by
  rw [decDigits,dif_pos (by simpa using h)]
  simp
 | k+1,n,h=>by
  rw [decDigits]
  split
  ·simp
  ·have hp:10 ^ (k+1+1)=10 ^ (k+1)*10:=Nat.pow_succ ..
   have:=z8_ k (n / 10) (by omega)
   simp
   omega
theorem z9_ (l:List UInt8) : (mkB l).size=l.length:=by simp [mkB,ByteArray.size]
def c4z (m:Nat) : List UInt8:=if m=0 then [] else decDigits m
theorem d1v:c4z 0=[]:=rfl
theorem a3w {m:Nat} (h:m≠0) : c4z m=decDigits m:=if_neg h
theorem b0t {m:Nat} (h:m≠0) : c4z m=c4z (m / 10)++[UInt8.ofNat (48+m % 10)]:=by
 rw [a3w h,decDigits]
 split
 ·rename_i h2
  rw [show m / 10=0 by omega,d1v,show m % 10=m by omega]
  rfl
 ·rename_i h2
  rw [a3w (show m / 10≠0 by omega)]
def c3w (ds:List UInt8) (one:Bool) : Option Nat:=if ds=[]∨9 < ds.length∨(ds.head? = some 48∧one=false)∨ds.all isD=false then none else some (x9_ 0 ds)
def a1t:List UInt8→Option Int
 | []=>none
 | c::r=>if c=45 then (c3w r false).map (fun u:Nat=>-(u:Int)) else (c3w (c::r) r.isEmpty).map (fun u:Nat=>(u:Int))
theorem b5l {ds:List UInt8} {one:Bool} {u:Nat} (h:c3w ds one=some u) : ds≠[]∧ds.length≤9∧(ds.head? = some 48→one=true)∧ds.all isD=true∧u=x9_ 0 ds:=by
 unfold c3w at h
 split at h
 ·cases h
 ·rename_i hn
  simp only [not_or,Bool.not_eq_false,Nat.not_lt,not_and] at hn
  injection h with h
  exact ⟨hn.1,hn.2.1,hn.2.2.1,hn.2.2.2,h.symm⟩
theorem a1u {ds:List UInt8} {one:Bool} (h1:ds≠[]) (h2:ds.length≤9) (h3:ds.head? = some 48→one=true) (h4:ds.all isD=true) : c3w ds one=some (x9_ 0 ds):=by
 unfold c3w
 rw [if_neg]
 simp only [not_or,Bool.not_eq_false,Nat.not_lt,not_and]
 exact ⟨h1,h2,h3,h4⟩
def l6_ (l:List UInt8) : Bool:=match atoiAll l with | .ok v=>decide (itoa v=l)&&decide ((trimPrefix l [45]).length≤9)|_=>false
theorem b5m:∀ (r:List UInt8) (acc:Nat),r.all isD=true→(acc+1)*10 ^ r.length≤1000000000000→parseUint10 acc r = .ok (x9_ acc r)
 | [],acc,_,_=>by rw [o9_];rfl
 | b::r,acc,h,hb=>by
  rw [List.all_cons,Bool.and_eq_true] at h
  have hd:=h.1
  simp only [isD,Bool.and_eq_true,decide_eq_true_eq] at hd
  rw [List.length_cons,Nat.pow_succ,Nat.mul_comm (10 ^ r.length) 10,←Nat.mul_assoc] at hb
  have hp:0 < 10 ^ r.length:=Nat.pow_pos (by decide)
  have h1:(acc+1)*10≤1000000000000:=Nat.le_trans (Nat.le_mul_of_pos_right _ hp) hb
  rw [parseUint10,if_pos hd,if_neg (by omega),if_neg (by omega),k2_]
  exact b5m r _ h.2 (Nat.le_trans (Nat.mul_le_mul_right _ (by omega)) hb)
theorem a6v {l:List UInt8} (h:l.all isD=true) (hl:l.length≤9) : parseUint10 0 l = .ok (x9_ 0 l):=by
 refine b5m l 0 h ?_
 have:10 ^ l.length≤10 ^ 9:=Nat.pow_le_pow_right (by decide) hl
 omega
theorem a5b {b:UInt8} (h:isD b=true) : 48≤b.toNat∧b.toNat≤57:=by simpa [isD] using h
theorem c8x {b:UInt8} {r:List UInt8} (h:(b::r).all isD=true) (h0:b.toNat≠48) : 0 < x9_ 0 (b::r):=by
 have:=a0q h h0
 apply Nat.pos_of_ne_zero
 intro hz
 rw [hz,u7_] at this
 injection this with h1 _
 rw [←h1] at h0
 exact h0 rfl
theorem u8_ {ds:List UInt8} {one:Bool} (h:ds=[]∨9 < ds.length∨(ds.head? = some 48∧one=false)∨ds.all isD=false) : c3w ds one=none:=if_pos h
theorem a5c {ds:List UInt8} {k:Nat} (h:k < ds.length) : x9_ 0 (ds.take (k+1))=x9_ 0 (ds.take k)*10+(ds[k].toNat - 48):=by
 rw [List.take_add_one,List.getElem?_eq_getElem h]
 show x9_ 0 (ds.take k++[ds[k]])=_
 rw [b5k,k2_,o9_]
theorem b5n {l:List UInt8} {v:Int} (h:a1t l=some v) : atoiAll l = .ok v∧itoa v=l∧(trimPrefix l [45]).length≤9:=by
 cases l with
 | nil=>cases h
 | cons c r=>
  rw [a1t] at h
  by_cases hc:c=45
  ·subst hc
   rw [if_pos rfl,Option.map_eq_some_iff] at h
   obtain ⟨u,hm,rfl⟩:=h
   obtain ⟨n1,n2,n3,n4,n5⟩:=b5l hm
   cases r with
   | nil=>exact absurd rfl n1
   | cons b t=>
    have hb:b.toNat≠48:=fun e=>by
     have:b=48:=UInt8.toNat_inj.1 e
     have:=n3 (by rw [this];rfl)
     cases this
    have hpos:=c8x n4 hb
    have hlt:=r2_ n4 n2
    have hpa:=a6v n4 n2
    have hnv:=a0q n4 hb
    rw [←n5] at hpos hlt hpa hnv
    refine ⟨?_,?_,?_⟩
    ·unfold atoiAll
     have e45:(45:UInt8).toNat=45:=rfl
     simp only [e45,or_true,if_true,parseMag,List.cons_ne_nil,if_false,hpa,not_true_eq_false,false_and,true_and]
     rw [if_neg (by omega)]
    ·rw [itoa_neg u hpos,hnv]
    ·simp only [trimPrefix,hasPrefix,List.isPrefixOf,beq_self_eq_true,Bool.true_and,if_true,List.length_cons,List.length_nil,List.drop_succ_cons,List.drop_zero]
     exact n2
  ·rw [if_neg hc,Option.map_eq_some_iff] at h
   obtain ⟨u,hm,rfl⟩:=h
   obtain ⟨n1,n2,n3,n4,n5⟩:=b5l hm
   have hcd:=a5b (List.all_eq_true.1 n4 c (by simp))
   have hlt:=r2_ n4 n2
   have hpa:=a6v n4 n2
   have hnv:decDigits (x9_ 0 (c::r))=c::r:=by
    by_cases h48:c.toNat=48
    ·have hc48:c=48:=UInt8.toNat_inj.1 h48
     have hr:=n3 (by rw [hc48];rfl)
     cases r with
     | nil=>
      rw [k2_,o9_,h48]
      simp only [Nat.zero_mul,Nat.zero_add,Nat.sub_self]
      rw [u7_,hc48]
     | cons _ _=>simp at hr
    ·exact a0q n4 h48
   rw [←n5] at hlt hpa hnv
   refine ⟨?_,?_,?_⟩
   ·unfold atoiAll
    have q1:¬c.toNat=43:=by omega
    have q2:¬c.toNat=45:=by omega
    simp only [q1,q2,or_self,if_false,parseMag,List.cons_ne_nil,hpa,not_false_eq_true,true_and,false_and]
    rw [if_neg (by omega)]
   ·rw [itoa_nonneg,hnv]
   ·have hp:hasPrefix (c::r) [45]=false:=by
     simp only [hasPrefix,List.isPrefixOf,Bool.and_true,beq_eq_false_iff_ne]
     exact fun e=>hc e.symm
    unfold trimPrefix
    rw [hp]
    simpa using n2
theorem b5o {l:List UInt8} {v:Int} (h1:itoa v=l) (h2:(trimPrefix l [45]).length≤9) : a1t l=some v:=by
 by_cases hv:v < 0
 ·obtain ⟨u,rfl,hu⟩ : ∃ u:Nat,v = -(u:Int)∧1≤u:=⟨v.natAbs,by omega,by omega⟩
  rw [itoa_neg u hu] at h1
  subst h1
  obtain ⟨b,r,hb,hb2⟩:=a5a u hu
  simp only [trimPrefix,hasPrefix,List.isPrefixOf,beq_self_eq_true,Bool.true_and,if_true,List.length_cons,List.length_nil,List.drop_succ_cons,List.drop_zero] at h2
  rw [a1t,if_pos rfl,a1u (a4z u) h2 (fun e=>?_) (a2o u),a6s]
  ·rfl
  ·rw [hb] at e
   simp only [List.head?_cons,Option.some.injEq] at e
   rw [e] at hb2
   exact absurd hb2 (by decide)
 ·obtain ⟨u,rfl⟩ : ∃ u:Nat,v=(u:Int):=⟨v.toNat,by omega⟩
  rw [itoa_nonneg] at h1
  subst h1
  have hall:=a2o u
  cases hd:decDigits u with
  | nil=>exact absurd hd (a4z u)
  | cons b r=>
   rw [hd] at hall h2
   have hbd:=a5b (List.all_eq_true.1 hall b (by simp))
   have hb45:¬b=45:=fun e=>by rw [e] at hbd;exact absurd hbd.1 (by decide)
   have hp:hasPrefix (b::r) [45]=false:=by
    simp only [hasPrefix,List.isPrefixOf,Bool.and_true,beq_eq_false_iff_ne]
    exact fun e=>hb45 e.symm
   unfold trimPrefix at h2
   rw [hp] at h2
   have hval:x9_ 0 (b::r)=u:=by rw [←hd];exact a6s u
   rw [a1t,if_neg hb45,a1u (by simp) (by simpa using h2) (fun e=>?_) hall,hval]
   ·rfl
   ·simp only [List.head?_cons,Option.some.injEq] at e
    by_cases hu:u=0
    ·subst hu
     rw [u7_] at hd
     injection hd with _ hr
     rw [←hr]
     rfl
    ·obtain ⟨b',r',g1,g2⟩:=a5a u (by omega)
     rw [hd] at g1
     injection g1 with g1 _
     rw [←g1,e] at g2
     exact absurd g2 (by decide)
theorem q0_ (l:List UInt8) : l6_ l=(a1t l).isSome:=by
 cases h:a1t l with
 | some v=>
  obtain ⟨h1,h2,h3⟩:=b5n h
  unfold l6_
  rw [h1]
  simp [h2,h3]
 | none=>
  unfold l6_
  cases ha:atoiAll l with
  | ok v=>
   simp only [Option.isSome_none,Bool.and_eq_false_iff,decide_eq_false_iff_not]
   by_cases h1:itoa v=l
   ·refine .inr fun h2=>?_
    rw [b5o h1 h2] at h
    cases h
   ·exact .inl h1
  | range=>rfl
  | _=>rfl
end Go.Proofs.YtoibondihdhnoaaGreatDoor
