/- Texts in one: Chapter 4: the diary of a log; no condition. -/
import Derived.Test.YtoibondihdhnoaaGreatDoorFRF31
namespace Go.Proofs.YtoibondihdhnoaaGreatDoor
open Go.RowKit
abbrev KV:Type:=List (Value×Value)
theorem c3m {a:ByteArray} {k:Value} (h:k0_ (.string a) k=true) : k = .string a:=by
 cases k<;>simp [k0_] at h;rw [h]
theorem a7z (a b:ByteArray) (v:Value) : ∀ m,u9_ (.string a) (a5w (.string b) v m)=if a=b then some v else u9_ (.string a) m
 | []=>by
  simp only [a5w,u9_];by_cases h:a=b<;>simp [k0_,h]
 | (k,u)::r=>by
  have ih:=a7z a b v r;simp only [a5w];by_cases hb:k0_ (.string b) k=true
  ·have:=c3m hb;subst this;rw [if_pos hb];simp only [u9_];by_cases h:a=b<;>simp [k0_,h]
  ·rw [if_neg hb];simp only [u9_];rw [ih];by_cases h:a=b
   ·subst h;simp [hb]
   ·simp [h]
def c1p (m:KV) (c:ByteArray) : Int:=match u9_ (.string c) m with|some (.int _ v)=>v|_=>0
def c7b (m:KV) (c:ByteArray) (v:Int) : KV:=a5w (.string c) (.int .i64 (c1p m c+v)) m
def NumOK (m:KV) (n:Nat) : Prop:=∀ c,u9_ (.string c) m=none∨∃ v:Int,u9_ (.string c) m=some (.int .i64 v)∧-(n:Int)≤v∧v≤n
theorem NumOK.at_ {m:KV} {n:Nat} (h:NumOK m n) (c:ByteArray) : (u9_ (.string c) m).getD (.int .i64 0) = .int .i64 (c1p m c)∧-(n:Int)≤c1p m c∧c1p m c≤n:=by
 unfold c1p;rcases h c with h1|⟨v,h1,h2,h3⟩
 ·rw [h1];exact ⟨rfl,by simp,by simp⟩
 ·rw [h1];exact ⟨rfl,h2,h3⟩
theorem NumOK.upd {m:KV} {n:Nat} (h:NumOK m n) (c:ByteArray) {v:Int} (h1 : -((n+1:Nat) : Int)≤v) (h2:v≤((n+1:Nat) : Int)) : NumOK (a5w (.string c) (.int .i64 v) m) (n+1):=fun d=>by
 rw [a7z];by_cases hd:d=c
 ·rw [if_pos hd];exact .inr ⟨v,rfl,h1,h2⟩
 ·rw [if_neg hd];rcases h d with h3|⟨u,h3,h4,h5⟩
  ·exact .inl h3
  ·exact .inr ⟨u,h3,by omega,by omega⟩
theorem NumOK.next {m:KV} {n:Nat} (h:NumOK m n) : NumOK m (n+1):=fun d=>by
 rcases h d with h3|⟨u,h3,h4,h5⟩
 ·exact .inl h3
 ·exact .inr ⟨u,h3,by omega,by omega⟩
theorem NumOK.add {m:KV} {n:Nat} (h:NumOK m n) (c:ByteArray) {v:Int} (h1 : -1≤v) (h2:v≤1) : NumOK (c7b m c v) (n+1):=by
 have:=h.at_ c;exact h.upd c (by omega) (by omega)
structure Dy where
 st:List Sy
 op:KV
 wt:List Wt
 sv:KV
def m5_ (log:List Ev) (d:Dy) (i:Nat) (x:Ev) : Dy:=
 if x.kind=4 then d
 else if x.kind=0 then ⟨d.st++[⟨x.car,i,-1,0⟩],a5w (.string x.car) (.int .i64 d.st.length) d.op,d.wt,c7b d.sv x.car 0⟩
 else ⟨j0_ x.car (s0_ x i) d.st,d.op,d.wt++q9_ log d.st x,if x.kind=1 then c7b d.sv x.car 1 else if x.kind=5 then c7b d.sv x.car (-1) else d.sv⟩
theorem b4g (log:List Ev) (d:Dy) (i:Nat) (x:Ev) : (m5_ log d i x).st=a7c d.st i x:=by
 unfold m5_ a7c;split
 ·rfl
 ·split<;>rfl
theorem a4e {c:ByteArray} {f:Sy→Sy} : ∀ {a:List Sy} {y:Sy},y∈j0_ c f a→y∈a∨∃ z∈a,y=f z
 | [],_,h=>by simp [j0_] at h
 | z::a,y,h=>by
  unfold j0_ at h;split at h
  ·rcases List.mem_cons.1 h with h|h
   ·exact .inl (List.mem_cons.2 (.inl h))
   ·rcases a4e h with h|⟨u,h,e⟩
    ·exact .inl (List.mem_cons_of_mem _ h)
    ·exact .inr ⟨u,List.mem_cons_of_mem _ h,e⟩
  ·split at h
   ·rcases List.mem_cons.1 h with h|h
    ·exact .inr ⟨z,List.mem_cons_self ..,h⟩
    ·exact .inl (List.mem_cons_of_mem _ h)
   ·exact .inl h
theorem a4f {c:ByteArray} {f:Sy→Sy} : ∀ (a:List Sy),(j0_ c f a).length=a.length
 | []=>rfl
 | z::a=>by
  unfold j0_;split
  ·simp [a4f a]
  ·split<;>rfl
structure DyOK (log:List Ev) (i:Nat) (d:Dy) : Prop where
 op:∀ c,i9_ c d.st=true→u9_ (.string c) d.op=some (.int .i64 (a8j c 0 d.st))
 st:∀ y∈d.st,0≤y.came∧y.came < i∧(0≤(c6_ log y.came.toNat).time∧(c6_ log y.came.toNat).time≤604800)∧0≤y.decl∧y.decl≤i
 sl:d.st.length≤i
 wl:d.wt.length≤i
 sv:NumOK d.sv i
theorem DyOK.zero (log:List Ev) : DyOK log 0 ⟨[],[],[],[]⟩:=
 ⟨fun c h=>by simp [i9_] at h,fun y h=>by simp at h,Nat.le_refl _,Nat.le_refl _,fun c=>.inl rfl⟩
theorem c3n {x:Ev} {i:Nat} {y:Sy} {log:List Ev} (h:0≤y.came∧y.came < i∧(0≤(c6_ log y.came.toNat).time∧(c6_ log y.came.toNat).time≤604800)∧0≤y.decl∧y.decl≤i) :
  0≤(s0_ x i y).came∧(s0_ x i y).came < ((i+1:Nat) : Int)∧(0≤(c6_ log (s0_ x i y).came.toNat).time∧(c6_ log (s0_ x i y).came.toNat).time≤604800)∧0≤(s0_ x i y).decl∧(s0_ x i y).decl≤((i+1:Nat) : Int):=by
 obtain ⟨h1,h2,h3,h4,h5⟩:=h;unfold s0_;split
 ·exact ⟨h1,by simp only;omega,h3,h4,by simp only;omega⟩
 ·split
  ·exact ⟨h1,by simp only;omega,h3,by simp only;omega,by simp only;omega⟩
  ·split
   ·exact ⟨h1,by simp only;omega,h3,h4,by simp only;omega⟩
   ·split
    ·exact ⟨h1,by simp only;omega,h3,h4,by simp only;omega⟩
    ·exact ⟨h1,by omega,h3,h4,by omega⟩
theorem b5y (log:List Ev) (a:List Sy) (x:Ev) : (q9_ log a x).length≤1:=by
 unfold q9_;split
 ·exact Nat.le_refl _
 ·exact Nat.zero_le _
theorem DyOK.step {log:List Ev} {i:Nat} {d:Dy} (h:DyOK log i d) {x:Ev} (hx:x=c6_ log i) (ht:0≤x.time∧x.time≤604800) : DyOK log (i+1) (m5_ log d i x):=by
 obtain ⟨h1,h2,h3,h4,h5⟩:=h;have hup:∀ y∈d.st,0≤y.came∧y.came < ((i+1:Nat) : Int)∧(0≤(c6_ log y.came.toNat).time∧(c6_ log y.came.toNat).time≤604800)∧0≤y.decl∧y.decl≤((i+1:Nat) : Int):=fun y hy=>by
  obtain ⟨g1,g2,g3,g4,g5⟩:=h2 y hy;exact ⟨g1,by omega,g3,g4,by omega⟩
 unfold m5_;split
 ·exact ⟨h1,hup,by omega,by omega,h5.next⟩
 ·split
  ·refine ⟨fun c hc=>?_,fun y hy=>?_,?_,by simp only;omega,h5.add _ (by decide) (by decide)⟩
   ·simp only at hc ⊢;rw [a7z,a7d (d:=x.car) rfl];by_cases h:c=x.car
    ·subst h;rw [if_pos rfl,if_pos rfl,Nat.zero_add]
    ·rw [if_neg h,if_neg (Ne.symm h)];refine h1 c ?_;rw [x6_] at hc;simpa [i9_,Ne.symm h] using hc
   ·rcases List.mem_append.1 hy with hy|hy
    ·exact hup y hy
    ·rw [List.mem_singleton.1 hy];simp only [Int.toNat_natCast];rw [←hx];exact ⟨by omega,by omega,ht,by omega,by omega⟩
   ·simp only [List.length_append,List.length_cons,List.length_nil];omega
  ·refine ⟨fun c hc=>?_,fun y hy=>?_,?_,?_,?_⟩
   ·simp only at hc ⊢;rw [x7_ (x5_ x i)] at hc;rw [a7e (x5_ x i)];exact h1 c hc
   ·rcases a4e hy with hy|⟨z,hz,rfl⟩
    ·exact hup y hy
    ·exact c3n (h2 z hz)
   ·simp only [a4f];omega
   ·have:=b5y log d.st x;simp only [List.length_append];omega
   ·simp only;split
    ·exact h5.add _ (by decide) (by decide)
    ·split
     ·exact h5.add _ (by decide) (by decide)
     ·exact h5.next
end Go.Proofs.YtoibondihdhnoaaGreatDoor
