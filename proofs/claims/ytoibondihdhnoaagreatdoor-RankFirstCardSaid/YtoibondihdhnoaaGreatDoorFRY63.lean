/- Texts in one: Chapter 4: first come, first served; no condition. -/
import Derived.Test.YtoibondihdhnoaaGreatDoorFRY31
namespace Go.Proofs.YtoibondihdhnoaaGreatDoor
open Go.RowKit
def wY (r:Ru) (n:Nat) : Prop:=(rat r.ranks n).feeder = -1∧∀ k,k < r.ranks.length→(rat r.ranks k).feeder≠n
theorem PE {r:Ru} {s:St} (hr:RuOK r) (hl:s.q.length=r.ranks.length) {n k:Nat} (ha:wY r n) (hk:k < r.ranks.length) (hf:(rat r.ranks k).feeder≠-1) : qat (upS r s k).q n=qat s.q n:=by
 obtain ⟨g1,g2,g3⟩:=hr.feedN hk hf;have h1:n≠k:=fun h=>hf (h▸ha.1);have h2:n≠feedN r k:=fun h=>ha.2 k hk (by rw [g1,h]);show qat (upQ s.q k (feedN r k)) n=_;unfold upQ;rw [mz (by simp;omega),if_neg h1,mz (by omega),if_neg h2]
theorem H5 {r:Ru} (hr:RuOK r) {n:Nat} (ha:wY r n) : ∀ (m:Nat) (s:St) (g:List Sg),s.q.length=r.ranks.length→qat (bZ r m s g).1.q n=qat s.q n
 | 0,_,_,_=>rfl
 | m+1,s,g,hl=>by
  rw [bZ];split
  ·rfl
  ·rename_i hn;obtain ⟨k,e,hk,hp⟩:=kH hn;rw [e,Int.toNat_natCast];obtain ⟨h1,h2,h3⟩:=kG hp;rw [H5 hr ha m _ _ (by show (upQ _ _ _).length=_;rw [xN,hl]),PE hr hl ha hk h1]
theorem PF (r:Ru) (s:St) (x:Ev) (k:Nat) : (doS r s x k).q.length=s.q.length:=by
 unfold doS rT ps tM qm upS tL;split
 ·simp
 ·split
  ·simp
  ·split
   ·simp
   ·split
    ·simp
    ·split
     ·exact xN _ _ _
     ·simp
theorem PG {r:Ru} {s:St} (hr:RuOK r) (hl:s.q.length=r.ranks.length) {n:Nat} (ha:wY r n) (x:Ev) : qat (apU r s x).1.q n=qat (doS r s x x.rank.toNat).q n:=
 H5 hr ha _ _ _ (by show (doS r s x x.rank.toNat).q.length=_;rw [PF,hl])
def eV (n:Nat) : List Ev→List ByteArray
 | []=>[]
 | x::l=>if x.kind=0∧x.rank=n then x.car::eV n l else eV n l
def lH (n:Nat) : List Ev→List ByteArray
 | []=>[]
 | x::l=>if x.kind=1∧x.rank=n then x.car::lH n l else lH n l
theorem H6 {r:Ru} (hr:RuOK r) {n:Nat} (hn:n < r.ranks.length) (ha:wY r n) : ∀ (l:List Ev) (i:Nat) (s:St),Inv r s→(∀ x∈l,x.kind=0∨x.kind=1)→(goP r i l s).2.2=0→lH n l <+: qat s.q n++eV n l
 | [],_,_,_,_,_=>by simp [lH]
 | x::l,i,s,hi,hk,h=>by
  obtain ⟨h1,h2⟩:=uh h;have ih:=H6 hr hn ha l (i+1) _ (hi.ap hr h1).1 (fun y hy=>hk y (by simp [hy])) h2;rw [PG hr hi.len ha] at ih;obtain ⟨g1,g2,g3,g4,g5⟩:=parts h1;have aL:n < s.q.length:=by rw [hi.len];exact hn
  have ca:x.rank.toNat < s.q.length:=by rw [hi.len];exact g5
  unfold doS at ih;unfold doE at g3;rw [lH,eV];rcases hk x (by simp) with k0|k1
  ·rw [if_pos k0] at ih;rw [if_neg (by omega)];unfold rT at ih;simp only at ih;rw [mz ca] at ih;by_cases he:x.rank=n
   ·rw [if_pos ⟨k0,he⟩];have e:x.rank.toNat=n:=by omega
    rw [e,if_pos rfl,List.append_assoc] at ih;exact ih
   ·rw [if_neg fun hh=>he hh.2];rw [if_neg (by omega)] at ih;exact ih
  ·rw [if_neg (by omega),if_pos k1] at ih g3;rw [if_neg (c:=x.kind=0∧x.rank=n) (by omega)];unfold ps at ih;simp only at ih;rw [mz ca] at ih;by_cases he:x.rank=n
   ·rw [if_pos ⟨k1,he⟩];have e:x.rank.toNat=n:=by omega
    rw [e] at ih g3;rw [if_pos rfl] at ih;unfold jz at g3;rw [cm] at g3;obtain ⟨t,et⟩:=oE g3.1;rw [et] at ih ⊢;rw [List.tail_cons] at ih;rw [List.cons_append];exact (List.prefix_cons_inj _).2 ih
   ·rw [if_neg fun hh=>he hh.2];rw [if_neg (by omega)] at ih;exact ih
theorem PH {r:Ru} (hr:RuOK r) {n:Nat} (hn:n < r.ranks.length) (ha:wY r n) {l:List Ev} (hk:∀ x∈l,x.kind=0∨x.kind=1) (h:(goP r 0 l (st0 r)).2.2=0) : lH n l <+: eV n l:=by
 have:=H6 hr hn ha l 0 (st0 r) (Inv.st0 hr) hk h;change lH n l <+: qat (List.replicate _ []) n++eV n l at this;rwa [xT,List.nil_append] at this
theorem H7 (log:List Ev) (n:Nat) : ∀ (l:List Ev) (i:Nat),((fI log i l).filter fun w=>decide (w.rank=(n:Int))).map (·.car)=lH n l
 | [],_=>rfl
 | x::l,i=>by
  rw [fI,lH,List.filter_append,List.map_append,H7 log n l (i+1)];by_cases k1:x.kind=1
  ·rw [if_pos k1];by_cases he:x.rank=n
   ·rw [if_pos ⟨k1,he⟩];simp [he]
   ·rw [if_neg fun hh=>he hh.2];simp [he]
  ·rw [if_neg k1,if_neg fun hh=>k1 hh.1];rfl
end Go.Proofs.YtoibondihdhnoaaGreatDoor
