/- Texts in one: Chapter 4: how often cars were taken for good; no condition. -/
import Derived.Test.YtoibondihdhnoaaGreatDoorFRQ32
namespace Go.Proofs.YtoibondihdhnoaaGreatDoor
open Go.RowKit
def r9 (c:ByteArray) : List Ev→Int
 | []=>0
 | x::l=>(if x.car=c then (if x.kind=1 then 1 else if x.kind=5 then -1 else 0) else 0)+r9 c l
def iH (c:ByteArray) : List Ev→Int
 | []=>-1
 | x::l=>if x.car=c then x.kind else iH c l
def oP (c:ByteArray) : List Ev→Int
 | []=>0
 | x::l=>(if x.car=c∧x.kind=1∧iH c l≠5 then 1 else 0)+oP c l
theorem Gh {r:Ru} {s:St} (hi:Inv r s) {x:Ev} (h:apE r s x=0) {c:ByteArray} (hc:c∈(apU r s x).1.tk.map (·.car)) : (c∈s.tk.map (·.car)∧(c=x.car→x.kind≠0∧x.kind≠5))∨c=x.car∧x.kind=1:=by
 obtain ⟨h1,h2,h3,ER,pt⟩:=parts h;unfold apU at hc;rw [(AF (r:=r) (cA 0 (doS r s x x.rank.toNat).q) (atS (doS r s x x.rank.toNat) x.time) (doM r s x x.rank.toNat)).2] at hc;change c∈(doS r s x x.rank.toNat).tk.map (·.car) at hc;have vU:∀ {c},c∈((s.tk.filter fun t=>decide (t.car≠x.car)).map (·.car))→c∈s.tk.map (·.car)∧c≠x.car:=fun {c} hm=>by
  obtain ⟨t,ht,rfl⟩:=List.mem_map.1 hm;have:=List.mem_filter.1 ht;exact ⟨List.mem_map_of_mem this.1,by simpa using this.2⟩
 unfold doE at h3;unfold doS at hc;by_cases k0:x.kind=0
 ·rw [if_pos k0] at hc;unfold tg at hc;simp only at hc;rw [u_ hi.once] at hc;have:=vU hc;exact .inl ⟨this.1,fun he=>absurd he this.2⟩
 rw [if_neg k0] at hc h3;by_cases k1:x.kind=1
 ·rw [if_pos k1] at hc;unfold rG at hc;simp only [List.map_append,List.map_cons,List.map_nil,List.mem_append,List.mem_singleton] at hc;rcases hc with hc|hc
  ·exact .inl ⟨hc,fun _=>⟨k0,by omega⟩⟩
  ·exact .inr ⟨hc,k1⟩
 rw [if_neg k1] at hc h3;by_cases k2:x.kind=2
 ·rw [if_pos k2] at hc;exact .inl ⟨hc,fun _=>⟨k0,by omega⟩⟩
 rw [if_neg k2] at hc h3;by_cases k3:x.kind=3
 ·rw [if_pos k3] at hc;exact .inl ⟨hc,fun _=>⟨k0,by omega⟩⟩
 rw [if_neg k3] at hc h3;by_cases k4:x.kind=4
 ·rw [if_pos k4] at hc;exact .inl ⟨hc,fun _=>⟨k0,by omega⟩⟩
 rw [if_neg k4] at hc h3;unfold lv at h3;split at h3
 ·cases h3
 ·rename_i jc;unfold tf at hc;simp only at hc;rw [xE hi.once x fun hh=>jc (.inl hh)] at hc;have:=vU hc;exact .inl ⟨this.1,fun he=>absurd he this.2⟩
theorem BX {r:Ru} (hr:RuOK r) {c:ByteArray} : ∀ (l:List Ev) (i:Nat) (s:St),Inv r s→(goP r i l s).2.2=0→c∉s.tk.map (·.car)→iH c l≠5
 | [],_,_,_,_,_=>by simp [iH]
 | x::l,i,s,hi,h,hc=>by
  obtain ⟨h1,h2⟩:=qx h;rw [iH];split
  ·rename_i he;intro h5;obtain ⟨_,_,h3,_,_⟩:=parts h1;unfold doE at h3;rw [if_neg (by omega),if_neg (by omega),if_neg (by omega),if_neg (by omega),if_neg (by omega)] at h3;unfold lv at h3;split at h3
   ·cases h3
   ·rename_i jc;exact jc (.inl (oF.2 (by rw [he];exact hc)))
  ·rename_i he;refine BX hr l (i+1) _ (hi.ap hr h1).1 h2 fun hm=>?_;rcases Gh hi h1 hm with h3|h3
   ·exact hc h3.1
   ·exact he h3.1.symm
theorem MH {s:St} (h:Once (eV s)) {c:ByteArray} (hq:c∈s.q.flatten) : c∉s.tk.map (·.car):=fun hm=>by
 have h1:=jA.2 hq;have h2:=jA.2 hm;have h3:=h c;rw [ij] at h3;omega
theorem Gi {r:Ru} (hr:RuOK r) {c:ByteArray} (cU:c≠ByteArray.empty) : ∀ (l:List Ev) (i:Nat) (s:St),Inv r s→(goP r i l s).2.2=0→r9 c l=oP c l - if iH c l=5 then 1 else 0
 | [],_,_,_,_=>by simp [r9,oP,iH]
 | x::l,i,s,hi,h=>by
  obtain ⟨h1,h2⟩:=qx h;have bD:=(hi.ap hr h1).1;have ih:=Gi hr cU l (i+1) _ bD h2;rw [r9,oP,iH];by_cases he:x.car=c
  ·rw [if_pos he,if_pos he];have h4:x.kind≠4:=fun h4=>cU (by rw [←he];exact (E9 (parts h1).1).1 h4);by_cases k1:x.kind=1
   ·rw [if_pos k1,if_neg (c:=x.kind=5) (by omega)];by_cases h5:iH c l=5
    ·rw [if_pos h5] at ih;rw [if_neg fun hh=>hh.2.2 h5];omega
    ·rw [if_neg h5] at ih;rw [if_pos ⟨he,k1,h5⟩];omega
   ·have hn:c∉(apU r s x).1.tk.map (·.car):=fun hm=>by
     rcases Gh hi h1 hm with h3|h3
     ·have h5:=h3.2 he.symm;have a_:=vo hi.len h1 h5.1 h4;have je:=tr (parts h1).1;obtain ⟨g1,g2,g3,g5,g6⟩:=parts h1;have hk:x.rank.toNat < s.q.length:=by rw [hi.len];exact g6
      unfold doE at g3;rw [if_neg h5.1,if_neg k1] at g3;have hq:x.car∈s.q.flatten:=by
       by_cases k2:x.kind=2
       ·rw [if_pos k2] at g3;obtain ⟨t,e⟩:=ql g3;exact jA.1 (vn hk (by rw [e];simp))
       ·rw [if_neg k2,if_pos (by omega)] at g3;unfold qk at g3;have hn:¬fp (qat s.q x.rank.toNat) x.car < 0:=fun hh=>by
         rw [if_pos hh] at g3;cases g3
        exact jA.1 (vn hk (Classical.byContradiction fun hc=>hn (th.2 hc)))
      exact MH hi.once hq (by rw [he];exact h3.1)
     ·exact k1 h3.2
    have h5:=BX hr l (i+1) _ bD h2 hn;rw [if_neg h5] at ih;rw [if_neg k1,if_neg (c:=x.car=c∧x.kind=1∧iH c l≠5) fun hh=>k1 hh.2.1];by_cases k5:x.kind=5
    ·rw [if_pos k5,if_pos k5];omega
    ·rw [if_neg k5,if_neg k5];omega
  ·rw [if_neg he,if_neg he,if_neg fun hh=>he hh.1];omega
theorem Gj {r:Ru} (hr:RuOK r) {c:ByteArray} (cU:c≠ByteArray.empty) {l:List Ev} (h:(goP r 0 l (st0 r)).2.2=0) : r9 c l=oP c l:=by
 have h1:=Gi hr cU l 0 (st0 r) (Inv.st0 hr) h;have h2:=BX hr (c:=c) l 0 (st0 r) (Inv.st0 hr) h (by show c∉[].map _;simp);rw [if_neg h2] at h1;omega
def gA (c:ByteArray) (l:List Ev) : Nat→Int
 | 0=>0
 | k+1=>gA c l k+if (aA l k).car=c∧(aA l k).kind=1∧iH c (l.drop (k+1))≠5 then 1 else 0
theorem yV {l:List Ev} {k:Nat} (h:k < l.length) : l.drop k=aA l k::l.drop (k+1):=by
 rw [jK h];exact List.drop_eq_getElem_cons h
theorem Gk (c:ByteArray) (l:List Ev) : ∀ k,k≤l.length→gA c l k+oP c (l.drop k)=oP c l
 | 0,_=>by simp [gA]
 | k+1,h=>by
  have ih:=Gk c l k (by omega);rw [yV (by omega:k < l.length),oP] at ih;rw [gA];omega
theorem Gl (c:ByteArray) (l:List Ev) : gA c l l.length=oP c l:=by
 have:=Gk c l l.length (Nat.le_refl _);rw [List.drop_length] at this;simpa [oP] using this
theorem MI {c:ByteArray} {l:List Ev} {k:Nat} (h:k < l.length) : iH c (l.drop k)=if (aA l k).car=c then (aA l k).kind else iH c (l.drop (k+1)):=by
 rw [yV h,iH]
theorem Gm (c:ByteArray) (l:List Ev) : ∀ k,0≤gA c l k∧gA c l k≤k
 | 0=>by simp [gA]
 | k+1=>by
  have:=Gm c l k;rw [gA];split<;>omega
def ji (l:List Ev) (k:Nat) : Bool:=decide ((aA l k).kind=0)
def eR (l:List Ev) (k:Nat) : Int:=gA (aA l k).car l l.length
def fr (l:List Ev) : Nat→Option (Int×Int)
 | 0=>none
 | k+1=>if ji l k=true then some (match fr l k with|none=>(eR l k,eR l k)|some p=>(min p.1 (eR l k),max p.2 (eR l k))) else fr l k
theorem vV {l:List Ev} : ∀ {k:Nat},fr l k=none↔∀ j,j < k→ji l j=false
 | 0=>⟨fun _ j h=>by omega,fun _=>rfl⟩
 | k+1=>by
  rw [fr];by_cases h:ji l k=true
  ·rw [if_pos h];refine ⟨fun hh=>(by cases hh),fun hh=>?_⟩;rw [hh k (by omega)] at h;cases h
  ·rw [if_neg h,vV];constructor
   ·intro hh j hj;by_cases he:j=k
    ·rw [he];simpa using h
    ·exact hh j (by omega)
   ·exact fun hh j hj=>hh j (by omega)
theorem yW {l:List Ev} : ∀ {k:Nat} {p:Int×Int},fr l k=some p→(∃ j,j < k∧ji l j=true∧eR l j=p.1)∧(∃ j,j < k∧ji l j=true∧eR l j=p.2)∧∀ j,j < k→ji l j=true→p.1≤eR l j∧eR l j≤p.2
 | 0,p,h=>by cases h
 | k+1,p,h=>by
  rw [fr] at h;by_cases ha:ji l k=true
  ·rw [if_pos ha] at h;have hp:=Option.some.inj h;clear h;cases hs:fr l k with
   | none=>
    rw [hs] at hp;subst hp;have bz:=vV.1 hs;refine ⟨⟨k,by omega,ha,rfl⟩,⟨k,by omega,ha,rfl⟩,fun j hj r_=>?_⟩;by_cases he:j=k
    ·rw [he];exact ⟨Int.le_refl _,Int.le_refl _⟩
    ·rw [bz j (by omega)] at r_;cases r_
   | some q=>
    rw [hs] at hp;subst hp;obtain ⟨⟨a,a1,a2,a3⟩,⟨b,b1,b2,b3⟩,aD⟩:=yW hs;simp only;refine ⟨?_,?_,fun j hj r_=>?_⟩
    ·by_cases hm:q.1≤eR l k
     ·exact ⟨a,by omega,a2,by rw [a3];omega⟩
     ·exact ⟨k,by omega,ha,by omega⟩
    ·by_cases hm:eR l k≤q.2
     ·exact ⟨b,by omega,b2,by rw [b3];omega⟩
     ·exact ⟨k,by omega,ha,by omega⟩
    ·by_cases he:j=k
     ·subst he;omega
     ·have:=aD j (by omega) r_;omega
  ·rw [if_neg ha] at h;obtain ⟨⟨a,a1,a2,a3⟩,⟨b,b1,b2,b3⟩,aD⟩:=yW h;refine ⟨⟨a,by omega,a2,a3⟩,⟨b,by omega,b2,b3⟩,fun j hj r_=>?_⟩;by_cases he:j=k
   ·subst he;exact absurd r_ ha
   ·exact aD j (by omega) r_
end Go.Proofs.YtoibondihdhnoaaGreatDoor
