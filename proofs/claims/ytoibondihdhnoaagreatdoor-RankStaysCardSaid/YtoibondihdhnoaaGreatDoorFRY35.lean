/- Texts in one: Plain laws of texts: cutting at a byte, decimal numerals; no program in sight. -/
import Derived.Lib.SplitLaws
import Derived.Lib.ItoaMem
import Derived.Lib.AtoiAll
import Derived.Lib.Strings
namespace Go.Proofs.YtoibondihdhnoaaGreatDoor
open Go.Lib
def att (p:List UInt8) : List (List UInt8)→List (List UInt8)
 | []=>[p]
 | h::t=>(p++h)::t
def gO (c:UInt8) : List UInt8→List (List UInt8)
 | []=>[[]]
 | x::r=>if x=c then []::gO c r else att [x] (gO c r)
theorem Lv (c:UInt8) : ∀ l,gO c l≠[]
 | []=>by simp [gO]
 | x::r=>by
  rw [gO];split
  ·simp
  ·cases h:gO c r<;>simp [att]
theorem FO {c:UInt8} : ∀ {l:List UInt8},c∉l→gO c l=[l]
 | [],_=>rfl
 | x::r,h=>by
  have hx:¬x=c:=fun e=>h (by simp [e]);rw [gO,if_neg hx,FO fun e=>h (by simp [e])];rfl
theorem FQ {c:UInt8} {b:List UInt8} : ∀ {a:List UInt8},c∉a→gO c (a++c::b)=a::gO c b
 | [],_=>by simp [gO]
 | x::a,h=>by
  have hx:¬x=c:=fun e=>h (by simp [e]);rw [List.cons_append,gO,if_neg hx,FQ fun e=>h (by simp [e])];rfl
theorem FR (c:UInt8) : ∀ l,(gO c l).length≤l.length+1
 | []=>by simp [gO]
 | x::r=>by
  have:=FR c r;rw [gO];split
  ·simp;omega
  ·cases h:gO c r with
   | nil=>simp [att]
   | cons a t=>rw [h] at this;simp [att] at this ⊢;omega
theorem FT (c:UInt8) : ∀ l,∀ p∈gO c l,p.length≤l.length
 | [],p,h=>by simp [gO] at h;simp [h]
 | x::r,p,h=>by
  have ih:=FT c r;rw [gO] at h;split at h
  ·rcases List.mem_cons.1 h with rfl|h
   ·simp
   ·have:=ih p h;simp;omega
  ·cases hc:gO c r with
   | nil=>exact absurd hc (Lv c r)
   | cons a t=>
    rw [hc] at h ih;simp only [att] at h;rcases List.mem_cons.1 h with rfl|h
    ·have:=ih a (by simp);simp;omega
    ·have:=ih p (by simp [h]);simp;omega
def yU (c:UInt8) (l:List UInt8) : Nat→Nat
 | 0=>0
 | k+1=>if l[k]? = some c then k+1 else yU c l k
def B5 (c:UInt8) (l:List UInt8) : Nat→List (List UInt8)
 | 0=>[]
 | k+1=>if l[k]? = some c then B5 c l k++[(l.drop (yU c l k)).take (k - yU c l k)] else B5 c l k
def mkB (l:List UInt8) : ByteArray:=⟨l.toArray⟩
theorem FU {c:UInt8} : ∀ {l:List UInt8},index l [c] = -1→c∉l
 | [],_=>by simp
 | x::r,h=>by
  rw [index] at h;have hp:([c] : List UInt8).isPrefixOf (x::r)=(c == x):=by simp [List.isPrefixOf]
  rw [hp] at h;split at h
  ·cases h
  ·rename_i hx;split at h
   ·rename_i h2;have ih:=FU (by simpa using h2);simp only [List.mem_cons,not_or];exact ⟨by simpa using hx,ih⟩
   ·have:=index_ge r [c];rename_i h2;simp only [beq_iff_eq] at h2;omega
theorem FV {c:UInt8} : ∀ {l:List UInt8} {i:Nat},index l [c]=i→∃ b,l=l.take i++c::b∧c∉l.take i∧b=l.drop (i+1)
 | [],i,h=>by simp [index] at h
 | x::r,i,h=>by
  rw [index] at h;have hp:([c] : List UInt8).isPrefixOf (x::r)=(c == x):=by simp [List.isPrefixOf]
  rw [hp] at h;split at h
  ·rename_i hx;have hx:c=x:=by simpa using hx
   have hi:i=0:=by omega
   subst hi hx;exact ⟨r,by simp,by simp,by simp⟩
  ·rename_i hx;split at h
   ·omega
   ·rename_i h2;obtain ⟨j,rfl⟩ : ∃ j,i=j+1:=⟨i - 1,by have:=index_ge r [c];simp only [beq_iff_eq] at h2;omega⟩
    obtain ⟨b,h3,h4,h5⟩:=FV (c:=c) (l:=r) (i:=j) (by omega);refine ⟨b,?_,?_,by simpa using h5⟩
    ·rw [List.take_succ_cons,List.cons_append,←h3]
    ·rw [List.take_succ_cons,List.mem_cons,not_or];exact ⟨by simpa using hx,h4⟩
theorem FW (s:ByteArray) (i j:Nat) : s.extract i j=mkB ((s.data.toList.drop i).take (j - i)):=extract_eq s i j
theorem B6 (c:UInt8) : ∀ (k:Nat) (s:ByteArray),countB s ⟨#[c]⟩=k→splitB ⟨#[c]⟩ 0 k s=(gO c s.data.toList).map mkB
 | 0,s,h=>by
  have bD:c∉s.data.toList:=by
   have h2:s.data.toList.count c=0:=by rw [←count_one];exact h
   exact List.count_eq_zero.1 h2
  rw [FO bD];rfl
 | k+1,s,h=>by
  have h2:s.data.toList.count c=k+1:=by rw [←count_one];exact h
  rcases indexB_cases s ⟨#[c]⟩ with vZ|⟨i,vZ,eT⟩
  ·have:=FU (show index s.data.toList [c] = -1 from vZ);rw [List.count_eq_zero.2 this] at h2;omega
  ·obtain ⟨b,h3,h4,h5⟩:=FV (show index s.data.toList [c]=i from vZ);have aM:(⟨#[c]⟩ : ByteArray).size=1:=rfl;have Lw:=countB_hit s ⟨#[c]⟩ i (by rw [aM];exact Nat.le_refl _) vZ;rw [splitB_hit _ _ _ s i vZ,aM,B6 c k _ (by rw [aM] at Lw;omega)];rw [show gO c s.data.toList=s.data.toList.take i::gO c b by
    conv=>lhs;rw [h3]
    exact FQ h4]
   have e1:s.extract 0 (i+0)=mkB (s.data.toList.take i):=by rw [FW];simp
   have e2:s.extract (i+1) s.size=mkB b:=by
    have hs:s.size=s.data.toList.length:=size_eq s;rw [FW,h5,List.take_of_length_le (by rw [List.length_drop];omega)]
   rw [List.map_cons,e1,e2];rfl
def dig (b:UInt8) : Nat:=b.toNat - 48
def FX (acc:Nat) (l:List UInt8) : Nat:=l.foldl (fun a b=>a*10+dig b) acc
theorem Lx (acc:Nat) : FX acc []=acc:=List.foldl_nil ..
theorem FY (l:List UInt8) : (mkB l).size=l.length:=by simp [mkB,ByteArray.size]
def oQ (l:List UInt8) : Bool:=match atoiAll l with | .ok v=>decide (itoa v=l)&&decide ((trimPrefix l [45]).length≤9)|_=>false
end Go.Proofs.YtoibondihdhnoaaGreatDoor
