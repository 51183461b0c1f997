/- Texts in one: Plain laws of texts: cutting at a byte, decimal numerals; no program in sight. -/
import Derived.Lib.SplitLaws
import Derived.Lib.ItoaMem
import Derived.Lib.AtoiAll
import Derived.Lib.Strings
namespace Go.Proofs.YtoibondihdhnoaaGreatDoor
open Go.Lib
def att (p:List UInt8) : List (List UInt8)→List (List UInt8)
 | []=>[p]
 | h::t=>(p++h)::t
def fy (c:UInt8) : List UInt8→List (List UInt8)
 | []=>[[]]
 | x::r=>if x=c then []::fy c r else att [x] (fy c r)
theorem F7 (c:UInt8) : ∀ l,fy c l≠[]
 | []=>by simp [fy]
 | x::r=>by
  rw [fy];split
  ·simp
  ·cases h:fy c r<;>simp [att]
theorem yB {c:UInt8} : ∀ {l:List UInt8},c∉l→fy c l=[l]
 | [],_=>rfl
 | x::r,h=>by
  have hx:¬x=c:=fun e=>h (by simp [e]);rw [fy,if_neg hx,yB fun e=>h (by simp [e])];rfl
theorem BH {c:UInt8} {b:List UInt8} : ∀ {a:List UInt8},c∉a→fy c (a++c::b)=a::fy c b
 | [],_=>by simp [fy]
 | x::a,h=>by
  have hx:¬x=c:=fun e=>h (by simp [e]);rw [List.cons_append,fy,if_neg hx,BH fun e=>h (by simp [e])];rfl
theorem F8 (c:UInt8) : ∀ l,(fy c l).length≤l.length+1
 | []=>by simp [fy]
 | x::r=>by
  have:=F8 c r;rw [fy];split
  ·simp;omega
  ·cases h:fy c r with
   | nil=>simp [att]
   | cons a t=>rw [h] at this;simp [att] at this ⊢;omega
theorem F9 (c:UInt8) : ∀ l,∀ p∈fy c l,p.length≤l.length
 | [],p,h=>by simp [fy] at h;simp [h]
 | x::r,p,h=>by
  have ih:=F9 c r;rw [fy] at h;split at h
  ·rcases List.mem_cons.1 h with rfl|h
   ·simp
   ·have:=ih p h;simp;omega
  ·cases hc:fy c r with
   | nil=>exact absurd hc (F7 c r)
   | cons a t=>
    rw [hc] at h ih;simp only [att] at h;rcases List.mem_cons.1 h with rfl|h
    ·have:=ih a (by simp);simp;omega
    ·have:=ih p (by simp [h]);simp;omega
def yC (c:UInt8) (l:List UInt8) : Nat→Nat
 | 0=>0
 | k+1=>if l[k]? = some c then k+1 else yC c l k
def BI (c:UInt8) (l:List UInt8) : Nat→List (List UInt8)
 | 0=>[]
 | k+1=>if l[k]? = some c then BI c l k++[(l.drop (yC c l k)).take (k - yC c l k)] else BI c l k
def mkB (l:List UInt8) : ByteArray:=⟨l.toArray⟩
theorem F_ {c:UInt8} : ∀ {l:List UInt8},index l [c] = -1→c∉l
 | [],_=>by simp
 | x::r,h=>by
  rw [index] at h;have hp:([c] : List UInt8).isPrefixOf (x::r)=(c == x):=by simp [List.isPrefixOf]
  rw [hp] at h;split at h
  ·cases h
  ·rename_i hx;split at h
   ·rename_i h2;have ih:=F_ (by simpa using h2);simp only [List.mem_cons,not_or];exact ⟨by simpa using hx,ih⟩
   ·have:=index_ge r [c];rename_i h2;simp only [beq_iff_eq] at h2;omega
theorem Ga {c:UInt8} : ∀ {l:List UInt8} {i:Nat},index l [c]=i→∃ b,l=l.take i++c::b∧c∉l.take i∧b=l.drop (i+1)
 | [],i,h=>by simp [index] at h
 | x::r,i,h=>by
  rw [index] at h;have hp:([c] : List UInt8).isPrefixOf (x::r)=(c == x):=by simp [List.isPrefixOf]
  rw [hp] at h;split at h
  ·rename_i hx;have hx:c=x:=by simpa using hx
   have hi:i=0:=by omega
   subst hi hx;exact ⟨r,by simp,by simp,by simp⟩
  ·rename_i hx;split at h
   ·omega
   ·rename_i h2;obtain ⟨j,rfl⟩ : ∃ j,i=j+1:=⟨i - 1,by have:=index_ge r [c];simp only [beq_iff_eq] at h2;omega⟩
    obtain ⟨b,h3,h4,h5⟩:=Ga (c:=c) (l:=r) (i:=j) (by omega);refine ⟨b,?_,?_,by simpa using h5⟩
    ·rw [List.take_succ_cons,List.cons_append,←h3]
    ·rw [List.take_succ_cons,List.mem_cons,not_or];exact ⟨by simpa using hx,h4⟩
theorem Gb (s:ByteArray) (i j:Nat) : s.extract i j=mkB ((s.data.toList.drop i).take (j - i)):=extract_eq s i j
theorem BJ (c:UInt8) : ∀ (k:Nat) (s:ByteArray),countB s ⟨#[c]⟩=k→splitB ⟨#[c]⟩ 0 k s=(fy c s.data.toList).map mkB
 | 0,s,h=>by
  have bg:c∉s.data.toList:=by
   have h2:s.data.toList.count c=0:=by rw [←count_one];exact h
   exact List.count_eq_zero.1 h2
  rw [yB bg];rfl
 | k+1,s,h=>by
  have h2:s.data.toList.count c=k+1:=by rw [←count_one];exact h
  rcases indexB_cases s ⟨#[c]⟩ with vK|⟨i,vK,fg⟩
  ·have:=F_ (show index s.data.toList [c] = -1 from vK);rw [List.count_eq_zero.2 this] at h2;omega
  ·obtain ⟨b,h3,h4,h5⟩:=Ga (show index s.data.toList [c]=i from vK);have aM:(⟨#[c]⟩ : ByteArray).size=1:=rfl;have LN:=countB_hit s ⟨#[c]⟩ i (by rw [aM];exact Nat.le_refl _) vK;rw [splitB_hit _ _ _ s i vK,aM,BJ c k _ (by rw [aM] at LN;omega)];rw [show fy c s.data.toList=s.data.toList.take i::fy c b by
    conv=>lhs;rw [h3]
    exact BH h4]
   have e1:s.extract 0 (i+0)=mkB (s.data.toList.take i):=by rw [Gb];simp
   have e2:s.extract (i+1) s.size=mkB b:=by
    have hs:s.size=s.data.toList.length:=size_eq s;rw [Gb,h5,List.take_of_length_le (by rw [List.length_drop];omega)]
   rw [List.map_cons,e1,e2];rfl
def isD (b:UInt8) : Bool:=decide (48≤b.toNat)&&decide (b.toNat≤57)
def dig (b:UInt8) : Nat:=b.toNat - 48
def iU (acc:Nat) (l:List UInt8) : Nat:=l.foldl (fun a b=>a*10+dig b) acc
theorem pW (acc:Nat) (b:UInt8) (r:List UInt8) : iU acc (b::r)=iU (acc*10+(b.toNat - 48)) r:=List.foldl_cons ..
theorem qJ (acc:Nat) : iU acc []=acc:=List.foldl_nil ..
theorem LO (a b:List UInt8) : ∀ acc,iU acc (a++b)=iU (iU acc a) b:=by
 induction a with
 | nil=>intro acc;rw [qJ,List.nil_append]
 | cons x r ih=>intro acc;rw [List.cons_append,pW,pW,ih]
theorem tO {d:Nat} (h:d < 10) : (UInt8.ofNat (48+d)).toNat=48+d:=by
 generalize hn:48+d=n;have iG:n < 256:=by omega
 exact UInt8.toNat_ofNat_of_lt' iG
theorem Gc:∀ n,iU 0 (decDigits n)=n:=by
 intro n;induction n using Nat.strongRecOn with
 | _ n ih=>
  rw [decDigits];split
  ·rename_i h;rw [pW,qJ,tO h];omega
  ·rename_i h;rw [LO,ih (n / 10) (by omega)];rw [pW,qJ,tO (show n % 10 < 10 by omega)];omega
theorem BK:∀ n,(decDigits n).all isD=true:=by
 intro n;induction n using Nat.strongRecOn with
 | _ n ih=>
  rw [decDigits];split
  ·rename_i h;rw [List.all_cons,List.all_nil,Bool.and_true];unfold isD;rw [tO h];simp;omega
  ·rename_i h;rw [List.all_append,ih (n / 10) (by omega),List.all_cons,List.all_nil,Bool.and_true,Bool.true_and];unfold isD;rw [tO (show n % 10 < 10 by omega)];simp;omega
theorem BL (n:Nat) : decDigits n≠[]:=by
 rw [decDigits];split<;>simp
theorem Gd:∀ n,0 < n→∃ b r,decDigits n=b::r∧49≤b.toNat:=by
 intro n;induction n using Nat.strongRecOn with
 | _ n ih=>
  intro hn;rw [decDigits];split
  ·rename_i h;exact ⟨_,_,rfl,by rw [tO h];omega⟩
  ·rename_i h;obtain ⟨b,r,h1,h2⟩:=ih (n / 10) (by omega) (by omega);exact ⟨b,r++[UInt8.ofNat (48+n % 10)],by rw [h1];rfl,h2⟩
theorem BM:decDigits 0=[48]:=by rw [decDigits];rfl
theorem Ge {b:UInt8} (h:isD b=true) : UInt8.ofNat (48+(b.toNat - 48))=b:=by
 simp only [isD,Bool.and_eq_true,decide_eq_true_eq] at h;apply UInt8.toNat_inj.1;rw [tO (d:=b.toNat - 48) (by omega)];omega
theorem Gf:∀ (r:List UInt8) (n:Nat),0 < n→r.all isD=true→decDigits (iU n r)=decDigits n++r
 | [],n,_,_=>by rw [qJ,List.append_nil]
 | b::r,n,hn,h=>by
  rw [List.all_cons,Bool.and_eq_true] at h;have hd:=h.1;simp only [isD,Bool.and_eq_true,decide_eq_true_eq] at hd;rw [pW,Gf r _ (by omega) h.2];have e:decDigits (n*10+(b.toNat - 48))=decDigits n++[b]:=by
   rw [decDigits,dif_neg (by omega),show (n*10+(b.toNat - 48)) / 10=n by omega,show (n*10+(b.toNat - 48)) % 10=b.toNat - 48 by omega,Ge h.1]
  rw [e,List.append_assoc];rfl
theorem BN {b:UInt8} {r:List UInt8} (h:(b::r).all isD=true) (h0:b.toNat≠48) : decDigits (iU 0 (b::r))=b::r:=by
 rw [List.all_cons,Bool.and_eq_true] at h;have hd:=h.1;simp only [isD,Bool.and_eq_true,decide_eq_true_eq] at hd;rw [pW,Gf r _ (by omega) h.2,Nat.zero_mul,Nat.zero_add,decDigits,dif_pos (by omega),Ge h.1];rfl
theorem Gg:∀ (r:List UInt8) (n:Nat),r.all isD=true→iU n r < (n+1)*10 ^ r.length
 | [],n,_=>by rw [qJ];simp
 | b::r,n,h=>by
  rw [List.all_cons,Bool.and_eq_true] at h;have hd:=h.1;simp only [isD,Bool.and_eq_true,decide_eq_true_eq] at hd;have ih:=Gg r (n*10+(b.toNat - 48)) h.2;rw [pW,List.length_cons,Nat.pow_succ];refine Nat.lt_of_lt_of_le ih ?_;rw [Nat.mul_comm (10 ^ r.length) 10,←Nat.mul_assoc];exact Nat.mul_le_mul_right _ (by omega)
theorem Gh {l:List UInt8} (h:l.all isD=true) (hl:l.length≤9) : iU 0 l < 1000000000:=by
 have h1:=Gg l 0 h;have h2:10 ^ l.length≤10 ^ 9:=Nat.pow_le_pow_right (by decide) hl;omega
theorem BO:∀ (k n:Nat),n < 10 ^ (k+1)→(decDigits n).length≤k+1
 | 0,n,h=>by
  rw [decDigits,dif_pos (by simpa using h)];simp
 | k+1,n,h=>by
  rw [decDigits];split
  ·simp
  ·have hp:10 ^ (k+1+1)=10 ^ (k+1)*10:=Nat.pow_succ ..;have:=BO k (n / 10) (by omega);simp;omega
theorem Gi (l:List UInt8) : (mkB l).size=l.length:=by simp [mkB,ByteArray.size]
def tP (ds:List UInt8) (one:Bool) : Option Nat:=if ds=[]∨9 < ds.length∨(ds.head? = some 48∧one=false)∨ds.all isD=false then none else some (iU 0 ds)
def lN:List UInt8→Option Int
 | []=>none
 | c::r=>if c=45 then (tP r false).map (fun u:Nat=>-(u:Int)) else (tP (c::r) r.isEmpty).map (fun u:Nat=>(u:Int))
theorem Gj {ds:List UInt8} {one:Bool} {u:Nat} (h:tP ds one=some u) : ds≠[]∧ds.length≤9∧(ds.head? = some 48→one=true)∧ds.all isD=true∧u=iU 0 ds:=by
 unfold tP at h;split at h
 ·cases h
 ·rename_i hn;simp only [not_or,Bool.not_eq_false,Nat.not_lt,not_and] at hn;injection h with h
  exact ⟨hn.1,hn.2.1,hn.2.2.1,hn.2.2.2,h.symm⟩
theorem Gk {ds:List UInt8} {one:Bool} (h1:ds≠[]) (h2:ds.length≤9) (h3:ds.head? = some 48→one=true) (h4:ds.all isD=true) : tP ds one=some (iU 0 ds):=by
 unfold tP;rw [if_neg];simp only [not_or,Bool.not_eq_false,Nat.not_lt,not_and];exact ⟨h1,h2,h3,h4⟩
def kE (l:List UInt8) : Bool:=match atoiAll l with | .ok v=>decide (itoa v=l)&&decide ((trimPrefix l [45]).length≤9)|_=>false
theorem Gl:∀ (r:List UInt8) (acc:Nat),r.all isD=true→(acc+1)*10 ^ r.length≤1000000000000→parseUint10 acc r = .ok (iU acc r)
 | [],acc,_,_=>by rw [qJ];rfl
 | b::r,acc,h,hb=>by
  rw [List.all_cons,Bool.and_eq_true] at h;have hd:=h.1;simp only [isD,Bool.and_eq_true,decide_eq_true_eq] at hd;rw [List.length_cons,Nat.pow_succ,Nat.mul_comm (10 ^ r.length) 10,←Nat.mul_assoc] at hb;have hp:0 < 10 ^ r.length:=Nat.pow_pos (by decide);have h1:(acc+1)*10≤1000000000000:=Nat.le_trans (Nat.le_mul_of_pos_right _ hp) hb;rw [parseUint10,if_pos hd,if_neg (by omega),if_neg (by omega),pW];exact Gl r _ h.2 (Nat.le_trans (Nat.mul_le_mul_right _ (by omega)) hb)
theorem Gm {l:List UInt8} (h:l.all isD=true) (hl:l.length≤9) : parseUint10 0 l = .ok (iU 0 l):=by
 refine Gl l 0 h ?_;have:10 ^ l.length≤10 ^ 9:=Nat.pow_le_pow_right (by decide) hl;omega
theorem Gn {b:UInt8} (h:isD b=true) : 48≤b.toNat∧b.toNat≤57:=by simpa [isD] using h
theorem LP {b:UInt8} {r:List UInt8} (h:(b::r).all isD=true) (h0:b.toNat≠48) : 0 < iU 0 (b::r):=by
 have:=BN h h0;apply Nat.pos_of_ne_zero;intro hz;rw [hz,BM] at this;injection this with h1 _
 rw [←h1] at h0;exact h0 rfl
theorem Gp {l:List UInt8} {v:Int} (h:lN l=some v) : atoiAll l = .ok v∧itoa v=l∧(trimPrefix l [45]).length≤9:=by
 cases l with
 | nil=>cases h
 | cons c r=>
  rw [lN] at h;by_cases hc:c=45
  ·subst hc;rw [if_pos rfl,Option.map_eq_some_iff] at h;obtain ⟨u,hm,rfl⟩:=h;obtain ⟨n1,n2,n3,n4,n5⟩:=Gj hm;cases r with
   | nil=>exact absurd rfl n1
   | cons b t=>
    have hb:b.toNat≠48:=fun e=>by
     have:b=48:=UInt8.toNat_inj.1 e;have:=n3 (by rw [this];rfl);cases this
    have bY:=LP n4 hb;have ao:=Gh n4 n2;have vL:=Gm n4 n2;have vM:=BN n4 hb;rw [←n5] at bY ao vL vM;refine ⟨?_,?_,?_⟩
    ·unfold atoiAll;have BP:(45:UInt8).toNat=45:=rfl;simp only [BP,or_true,if_true,parseMag,List.cons_ne_nil,if_false,vL,not_true_eq_false,false_and,true_and];rw [if_neg (by omega)]
    ·rw [itoa_neg u bY,vM]
    ·simp only [trimPrefix,hasPrefix,List.isPrefixOf,beq_self_eq_true,Bool.true_and,if_true,List.length_cons,List.length_nil,List.drop_succ_cons,List.drop_zero];exact n2
  ·rw [if_neg hc,Option.map_eq_some_iff] at h;obtain ⟨u,hm,rfl⟩:=h;obtain ⟨n1,n2,n3,n4,n5⟩:=Gj hm;have vN:=Gn (List.all_eq_true.1 n4 c (by simp));have ao:=Gh n4 n2;have vL:=Gm n4 n2;have vM:decDigits (iU 0 (c::r))=c::r:=by
    by_cases BQ:c.toNat=48
    ·have vO:c=48:=UInt8.toNat_inj.1 BQ;have hr:=n3 (by rw [vO];rfl);cases r with
     | nil=>
      rw [pW,qJ,BQ];simp only [Nat.zero_mul,Nat.zero_add,Nat.sub_self];rw [BM,vO]
     | cons _ _=>simp at hr
    ·exact BN n4 BQ
   rw [←n5] at ao vL vM;refine ⟨?_,?_,?_⟩
   ·unfold atoiAll;have q1:¬c.toNat=43:=by omega
    have q2:¬c.toNat=45:=by omega
    simp only [q1,q2,or_self,if_false,parseMag,List.cons_ne_nil,vL,not_false_eq_true,true_and,false_and];rw [if_neg (by omega)]
   ·rw [itoa_nonneg,vM]
   ·have hp:hasPrefix (c::r) [45]=false:=by
     simp only [hasPrefix,List.isPrefixOf,Bool.and_true,beq_eq_false_iff_ne];exact fun e=>hc e.symm
    unfold trimPrefix;rw [hp];simpa using n2
theorem Gq {l:List UInt8} {v:Int} (h1:itoa v=l) (h2:(trimPrefix l [45]).length≤9) : lN l=some v:=by
 by_cases hv:v < 0
 ·obtain ⟨u,rfl,hu⟩ : ∃ u:Nat,v = -(u:Int)∧1≤u:=⟨v.natAbs,by omega,by omega⟩
  rw [itoa_neg u hu] at h1;subst h1;obtain ⟨b,r,hb,hb2⟩:=Gd u hu;simp only [trimPrefix,hasPrefix,List.isPrefixOf,beq_self_eq_true,Bool.true_and,if_true,List.length_cons,List.length_nil,List.drop_succ_cons,List.drop_zero] at h2;rw [lN,if_pos rfl,Gk (BL u) h2 (fun e=>?_) (BK u),Gc]
  ·rfl
  ·rw [hb] at e;simp only [List.head?_cons,Option.some.injEq] at e;rw [e] at hb2;exact absurd hb2 (by decide)
 ·obtain ⟨u,rfl⟩ : ∃ u:Nat,v=(u:Int):=⟨v.toNat,by omega⟩
  rw [itoa_nonneg] at h1;subst h1;have aE:=BK u;cases hd:decDigits u with
  | nil=>exact absurd hd (BL u)
  | cons b r=>
   rw [hd] at aE h2;have kT:=Gn (List.all_eq_true.1 aE b (by simp));have vP:¬b=45:=fun e=>by rw [e] at kT;exact absurd kT.1 (by decide)
   have hp:hasPrefix (b::r) [45]=false:=by
    simp only [hasPrefix,List.isPrefixOf,Bool.and_true,beq_eq_false_iff_ne];exact fun e=>vP e.symm
   unfold trimPrefix at h2;rw [hp] at h2;have eW:iU 0 (b::r)=u:=by rw [←hd];exact Gc u
   rw [lN,if_neg vP,Gk (by simp) (by simpa using h2) (fun e=>?_) aE,eW]
   ·rfl
   ·simp only [List.head?_cons,Option.some.injEq] at e;by_cases hu:u=0
    ·subst hu;rw [BM] at hd;injection hd with _ hr
     rw [←hr];rfl
    ·obtain ⟨b',r',g1,g2⟩:=Gd u (by omega);rw [hd] at g1;injection g1 with g1 _
     rw [←g1,e] at g2;exact absurd g2 (by decide)
theorem vQ (l:List UInt8) : kE l=(lN l).isSome:=by
 cases h:lN l with
 | some v=>
  obtain ⟨h1,h2,h3⟩:=Gp h;unfold kE;rw [h1];simp [h2,h3]
 | none=>
  unfold kE;cases ha:atoiAll l with
  | ok v=>
   simp only [Option.isSome_none,Bool.and_eq_false_iff,decide_eq_false_iff_not];by_cases h1:itoa v=l
   ·refine .inr fun h2=>?_;rw [Gq h1 h2] at h;cases h
   ·exact .inl h1
  | range=>rfl
  | _=>rfl
end Go.Proofs.YtoibondihdhnoaaGreatDoor
