/- Texts in one: Walks: a state is copied. -/
import Derived.Test.YtoibondihdhnoaaGreatDoorFRC46
import Derived.Test.YtoibondihdhnoaaGreatDoorFRC45
import Derived.Test.YtoibondihdhnoaaGreatDoorFRC31
import Derived.Test.YtoibondihdhnoaaGreatDoorFRC34
import Derived.Test.YtoibondihdhnoaaGreatDoorFRC49
import Derived.Test.YtoibondihdhnoaaGreatDoorFRC20
import Derived.Test.YtoibondihdhnoaaGreatDoorFRC25
namespace Go.Proofs.YtoibondihdhnoaaGreatDoor
open Go.RowKit
set_option maxRecDepth 100000
set_option maxHeartbeats 4000000
def c3b (s:St) (k:Nat) : List ByteArray:=(s.q.take k).flatten
@[go_sem] theorem d1k (s:St) : c3b s 0=[]:=by simp [c3b]
def c9o (s:St) (k:Nat) : List ByteArray:=s.q.flatten++(s.tk.take k).map (·.car)
@[go_sem] theorem d1l (s:St) : c9o s 0=c3b s s.q.length:=by simp [c9o,c3b]
def d2z (L:List ByteArray) : KV:=L.foldl (fun m c=>a5p (.string c) (.bool true) m) []
@[go_sem] theorem d2q:d2z []=[]:=rfl
theorem VC.args {P:Program} {f:FuncId} {args args':List AV} {r:AV} (h:VC P f args r) (hl:args'.length=args.length) (ha:∀ (i:Nat) (a a':AV),args[i]? = some a→args'[i]? = some a'→∀ (w:World) (M:Nat→Nat→Prop) (v:Value),V0 w M a' v→V0 w M a v) : VC P f args' r:=
 ⟨h.1,fun w M vs hM hvl hv=>h.2 w M vs hM (hvl.trans hl) fun i a v hi hvi=>by
  have hlt:i < args'.length:=by
   rw [hl];exact (List.getElem?_eq_some_iff.1 hi).1
  exact ha i a _ hi (List.getElem?_eq_getElem hlt) w M v (hv i _ v (List.getElem?_eq_getElem hlt) hvi)⟩
def cpT (es:List (List AV)) (tm:Int) (M:Nat→Nat→Prop) (w:World) (i:Nat) (v:Value) (w':World) : Prop:=
 if i=2 then ∃ b,v = .slice (some b) 0 0
 else if i=5 then OwnRow w w' M 148 3 (decide (es=[])) es v
 else if i=6 then ∃ v5,v = .agg #[.slice none 0 0,v5,.int .i64 tm]∧OwnRow w w' M 148 3 (decide (es=[])) es v5
 else ∃ b,v = .pointer (some ⟨b,0,none⟩)∧w.heap.size≤b∧w'.heap[b]? = some (.cells #[.slice none 0 0,.slice none 0 0,.int .i64 0] 32 (0,0))
theorem b9i (es:List (List AV)) (tm:Int) (M:Nat→Nat→Prop) (w:World) (i:Nat) (v:Value) (w1 w2:World) (h:cpT es tm M w i v w1) (hb:Below w1.heap.size w1 w2) : cpT es tm M w i v w2:=by
 unfold cpT at h ⊢;split
 ·rename_i h2;rwa [if_pos h2] at h
 rename_i h2;rw [if_neg h2] at h;split
 ·rename_i h5;rw [if_pos h5] at h;exact h.later hb
 rename_i h5;rw [if_neg h5] at h;split
 ·rename_i h6;rw [if_pos h6] at h;obtain ⟨v5,e,h⟩:=h;exact ⟨v5,e,h.later hb⟩
 ·rename_i h6;rw [if_neg h6] at h;obtain ⟨b,e,h1,h3⟩:=h;exact ⟨b,e,h1,(hb.block b (Array.getElem?_eq_some_iff.1 h3).1).trans h3⟩
theorem c6x (x:Tk) : (Tk.av x).length=3∧∀ c∈Tk.av x,∃ u,c = .lit u∧u.oneCell'=true:=by
 refine ⟨rfl,fun c hc=>?_⟩;simp only [Tk.av,List.mem_cons,List.not_mem_nil,or_false] at hc;rcases hc with rfl|rfl|rfl<;>exact ⟨_,rfl,rfl⟩
def d1m (s:St) (k:Nat) : List (List AV):=(c7_ (s.q.take k)).map fun l=>[AV.sl 1 l]
@[go_sem] theorem d1n (s:St) : d1m s 0=[]:=rfl
def woN (l:List ByteArray) (s:ByteArray) (k:Nat) : List ByteArray:=woT (l.take k) s
theorem c3c {l:List ByteArray} {s:ByteArray} {k:Nat} (h:k < l.length) : woN l s (k+1)=if l[k]=s then woN l s k else woN l s k++[l[k]]:=by
 unfold woN woT;rw [a1b h,List.filter_append];by_cases e:l[k]=s
 ·simp [e]
 ·simp [e]
theorem c6y (l:List ByteArray) (s:ByteArray) (k:Nat) : (woN l s k).length≤k:=by
 unfold woN woT;exact Nat.le_trans (List.length_filter_le _ _) (by simp;omega)
theorem c6z (l:List ByteArray) (s:ByteArray) : woN l s l.length=woT l s:=by
 unfold woN;rw [List.take_length]
def wkN (l:List Tk) (s:ByteArray) (k:Nat) : List Tk:=woK (l.take k) s
theorem c3d {l:List Tk} {s:ByteArray} {k:Nat} (h:k < l.length) : wkN l s (k+1)=if (k8_ l k).car=s then wkN l s k else wkN l s k++[k8_ l k]:=by
 rw [j4_ h];unfold wkN woK;rw [a1b h,List.filter_append];by_cases e:l[k].car=s
 ·simp [e]
 ·simp [e]
theorem c7a (l:List Tk) (s:ByteArray) (k:Nat) : (wkN l s k).length≤k:=by
 unfold wkN woK;exact Nat.le_trans (List.length_filter_le _ _) (by simp;omega)
theorem c7b (l:List Tk) (s:ByteArray) : wkN l s l.length=woK l s:=by
 unfold wkN;rw [List.take_length]
theorem c3e (l:List ByteArray) : ∀ (k:Nat) (x:List AV),(l.map j6_)[k]? = some x→x.length=1∧∀ c∈x,f5_ c=true:=fun k x hx=>by
 obtain ⟨y,hy,rfl⟩:=f4_ hx;exact ⟨rfl,by simp [j6_,f5_,Value.oneCell']⟩
theorem c7c (l:List Tk) : ∀ (k:Nat) (x:List AV),(l.map Tk.av)[k]? = some x→x.length=3∧∀ c∈x,f5_ c=true:=fun k x hx=>by
 obtain ⟨y,hy,rfl⟩:=f4_ hx;exact ⟨rfl,by simp [Tk.av,f5_,Value.oneCell']⟩
theorem b9j (l:List ByteArray) (s:ByteArray) (hl:l.length≤1000000) : VCo Tryz.prog 132 [t9_ l,S s] 9 1 (decide (woT l s=[])) ((woT l s).map j6_):=by
 rw [←c6z];have e0:woN l s 0=[]:=rfl;refine b0e Tryz.func132 rfl (by kernel_rfl) (by kernel_rfl) rfl Tryz.results132 (by decide) (c3e _) fun M0 w0=>?_;simp only [Tryz.ntmps132,b1_];repeat' first|(with_reducible first|apply a8_|apply a3_|apply a9_|apply a1_|refine a2_ [5] ?_)|((with_reducible refine a0_ fun X Y=>?_);go_simp;refine Y _ ?_;clear Y X)
 apply c1a [0,1] (fun k=>[(6,I k),(5,.osl 0)]) (fun k=>([some (.arr 9 1 (decide (woN l s k=[])) ((woN l s k).map j6_))] : Hp))  (l.length)
 ·go_simp<;>exact rfl
 ·go_simp
 ·intro k hk K hK;obtain ⟨w1,w2,w3,w4,w5,w6⟩:=ixs (m:=k) (by omega);have hs:=c3c (s:=s) hk;have hb:(woN l s k).length+1≤1000000000:=by have:=c6y l s k;omega
  clear e0;by_cases e:l[k]=s
  ·rw [if_pos e] at hs;have HS:=Lib.hid hs;clear hs;repeat' first|(with_reducible first|apply a8_|apply a3_|apply b0_|apply a9_|apply b2_|apply a1_|refine a2_ [] ?_)|((with_reducible refine a7_ ?_ ?_);(focus (go_simp;done)))|((with_reducible refine a5_ ?_ ?_);(focus (go_simp;done)))|((with_reducible refine a0_ fun X Y=>?_);go_simp;refine Y _ ?_;clear Y X)
   refine hK _ ?_;rw [HS.out];go_simp
  ·rw [if_neg e] at hs;have HS:=Lib.hid hs;clear hs;repeat' first|(with_reducible first|apply a8_|apply a3_|apply b0_|apply a9_|apply b2_|apply a1_|refine a2_ [] ?_)|((with_reducible refine a7_ ?_ ?_);(focus (go_simp;done)))|((with_reducible refine a0_ fun X Y=>?_);go_simp;refine Y _ ?_;clear Y X)
   refine hK _ ?_;rw [HS.out];go_simp
 ·intro K;clear e0;repeat' first|(with_reducible first|apply a8_|apply a3_|apply c3_|apply c2_|apply e1_|apply b6_|apply a1_|refine a2_ [] ?_)|((with_reducible refine a5_ ?_ ?_);(focus (go_simp;done)))|((with_reducible refine a0_ fun X Y=>?_);go_simp;refine Y _ ?_;clear Y X)
  exact ⟨0,rfl,rfl⟩
theorem b9k (l:List Tk) (s:ByteArray) (hl:l.length≤1000000) : VCo Tryz.prog 131 [.sl 3 (l.map Tk.av),S s] 148 3 (decide (woK l s=[])) ((woK l s).map Tk.av):=by
 rw [←c7b];have e0:wkN l s 0=[]:=rfl;refine b0e Tryz.func131 rfl (by kernel_rfl) (by kernel_rfl) rfl Tryz.results131 (by decide) (c7c _) fun M0 w0=>?_;simp only [Tryz.ntmps131,b1_];repeat' first|(with_reducible first|apply a8_|apply a3_|apply a9_|apply a1_|refine a2_ [5] ?_)|((with_reducible refine a0_ fun X Y=>?_);go_simp;refine Y _ ?_;clear Y X)
 apply c1a [0,1] (fun k=>[(6,I k),(5,.osl 0)]) (fun k=>([some (.arr 148 3 (decide (wkN l s k=[])) ((wkN l s k).map Tk.av))] : Hp))  (l.length)
 ·go_simp<;>exact rfl
 ·go_simp
 ·intro k hk K hK;obtain ⟨w1,w2,w3,w4,w5,w6⟩:=ixs (m:=k) (by omega);have hs:=c3d (s:=s) hk;have hb:(wkN l s k).length+1≤1000000000:=by have:=c7a l s k;omega
  clear e0;by_cases e:(k8_ l k).car=s
  ·rw [if_pos e] at hs;have HS:=Lib.hid hs;clear hs;repeat' first|(with_reducible first|apply a8_|apply a3_|apply b0_|apply a9_|apply b2_|apply a1_|refine a2_ [] ?_)|((with_reducible refine a7_ ?_ ?_);(focus (go_simp;done)))|((with_reducible refine a5_ ?_ ?_);(focus (go_simp;done)))|((with_reducible refine a0_ fun X Y=>?_);go_simp;refine Y _ ?_;clear Y X)
   refine hK _ ?_;rw [HS.out];go_simp
  ·rw [if_neg e] at hs;have HS:=Lib.hid hs;clear hs;repeat' first|(with_reducible first|apply a8_|apply a3_|apply b0_|apply a9_|apply b2_|apply a1_|refine a2_ [] ?_)|((with_reducible refine a7_ ?_ ?_);(focus (go_simp;done)))|((with_reducible refine a0_ fun X Y=>?_);go_simp;refine Y _ ?_;clear Y X)
   refine hK _ ?_;rw [HS.out];go_simp
 ·intro K;clear e0;repeat' first|(with_reducible first|apply a8_|apply a3_|apply c3_|apply c2_|apply e1_|apply b6_|apply a1_|refine a2_ [] ?_)|((with_reducible refine a5_ ?_ ?_);(focus (go_simp;done)))|((with_reducible refine a0_ fun X Y=>?_);go_simp;refine Y _ ?_;clear Y X)
  exact ⟨0,rfl,rfl⟩
theorem a4d (l:List ByteArray) (s:ByteArray) (hl:l.length≤1000000) : VC Tryz.prog 132 [t9_ l,S s] (t9_ (woT l s)):=a1n (b9j l s hl)
theorem b0a (l:List Tk) (s:ByteArray) (hl:l.length≤1000000) : VC Tryz.prog 131 [.sl 3 (l.map Tk.av),S s] (.sl 3 ((woK l s).map Tk.av)):=a1n (b9k l s hl)
theorem c9p (r:Ru) (s:St) (tm:Int) (k:Nat) (car:ByteArray) (hk:k < s.q.length) (hr:r.ranks.length=s.q.length) (hf:s4_ r s.q.length) (hql:s.q.length≤1000000) (hqs:∀ k,k < s.q.length→(qat s.q k).length≤1000000) (_htl:s.tk.length≤1000000) : VC Tryz.prog 67 [c4_ r,e9_ s,.agg [I 0,I tm,I (k:Int),S car]] (I (fst [unl (decide (s.time≤tm)) 9,doE r s ⟨0,tm,(k:Int),car⟩ k])):=by
 have hk2:k < r.ranks.length:=by omega
 have hfk:=hf k hk;clear hf;by_cases ht:s.time≤tm
 ·have ht2:¬tm < s.time:=by omega
  have g:=c9m s car hql hqs;by_cases hsp:0≤j1_ s.q car
  ·rw [show fst [unl (decide (s.time≤tm)) 9,doE r s ⟨0,tm,(k:Int),car⟩ k]=5 by simp [doE,h6_,fst,unl,hsp,ht]];generalize j1_ s.q car=SK at *;generalize a4x s.q car=FP at *;refine b7_ Tryz.func67 rfl (by kernel_rfl) (by kernel_rfl) rfl fun M0 w0=>?_;simp only [Tryz.ntmps67,Tryz.results67,b1_];repeat' first|(with_reducible first|apply a8_|apply a3_|apply b0_|apply a1_|refine a2_ [] ?_)|((with_reducible refine a5_ ?_ ?_);(focus (go_simp;done)))|((with_reducible refine a0_ fun X Y=>?_);go_simp;refine Y _ ?_;clear Y X)
   refine h2_ 14 [] [⟨12,8,[.string ⟨#[]⟩,.int .i64 0,.int .i64 0,.bool false],none,[]⟩] (by kernel_rfl) (by kernel_rfl) (by kernel_rfl) (by go_simp) (by go_simp) ?_;simp only [List.take,List.drop];repeat (first|(refine c8_ rfl ?_)|((with_reducible refine c9_ rfl fun X Y=>?_);go_simp;refine Y _ (by go_simp) ?_;clear Y X)|(with_reducible apply e5_))
   refine ⟨by go_simp,?_⟩;simp only [i5_,j5_,Slot.end_,List.cons_append,List.nil_append];repeat' first|(with_reducible first|apply a8_|apply a3_|apply b4_|apply c2_|apply a9_|apply c5_|apply a1_|refine a2_ [] ?_)|((with_reducible refine a7_ ?_ ?_);(focus (go_simp;done)))|((with_reducible refine a0_ fun X Y=>?_);go_simp;(first|(with_reducible refine ⟨_,g,?_⟩)|skip);refine Y _ ?_;clear Y X)
   go_simp
  by_cases h1:(rat r.ranks k).feeder = -1
  ·clear hfk;by_cases hfull:((qat s.q k).length:Int) < (rat r.ranks k).places
   ·have hfu:¬(rat r.ranks k).places≤(qat s.q k).length:=by omega
    rw [show fst [unl (decide (s.time≤tm)) 9,doE r s ⟨0,tm,(k:Int),car⟩ k]=0 by simp [doE,h6_,k4_,e3_,feedN,fst,unl,hsp,h1,hfull,ht]];generalize j1_ s.q car=SK at *;generalize a4x s.q car=FP at *;refine b7_ Tryz.func67 rfl (by kernel_rfl) (by kernel_rfl) rfl fun M0 w0=>?_;simp only [Tryz.ntmps67,Tryz.results67,b1_];repeat' first|(with_reducible first|apply a8_|apply a3_|apply b0_|apply a1_|refine a2_ [] ?_)|((with_reducible refine a5_ ?_ ?_);(focus (go_simp;done)))|((with_reducible refine a0_ fun X Y=>?_);go_simp;refine Y _ ?_;clear Y X)
    refine h2_ 14 [] [⟨12,8,[.string ⟨#[]⟩,.int .i64 0,.int .i64 0,.bool false],none,[]⟩] (by kernel_rfl) (by kernel_rfl) (by kernel_rfl) (by go_simp) (by go_simp) ?_;simp only [List.take,List.drop];repeat (first|(refine c8_ rfl ?_)|((with_reducible refine c9_ rfl fun X Y=>?_);go_simp;refine Y _ (by go_simp) ?_;clear Y X)|(with_reducible apply e5_))
    refine ⟨by go_simp,?_⟩;simp only [i5_,j5_,Slot.end_,List.cons_append,List.nil_append];repeat' first|(with_reducible first|apply a8_|apply a3_|apply c2_|apply b0_|apply a9_|apply b2_|apply a1_|refine a2_ [] ?_)|((with_reducible refine a7_ ?_ ?_);(focus (go_simp;done)))|((with_reducible refine a5_ ?_ ?_);(focus (go_simp;done)))|((with_reducible refine a0_ fun X Y=>?_);go_simp;(first|(with_reducible refine ⟨_,g,?_⟩)|skip);refine Y _ ?_;clear Y X)
    go_simp
   ·have hfu:(rat r.ranks k).places≤(qat s.q k).length:=by omega
    rw [show fst [unl (decide (s.time≤tm)) 9,doE r s ⟨0,tm,(k:Int),car⟩ k]=16 by simp [doE,h6_,k4_,e3_,feedN,fst,unl,hsp,h1,hfull,ht]];generalize j1_ s.q car=SK at *;generalize a4x s.q car=FP at *;refine b7_ Tryz.func67 rfl (by kernel_rfl) (by kernel_rfl) rfl fun M0 w0=>?_;simp only [Tryz.ntmps67,Tryz.results67,b1_];repeat' first|(with_reducible first|apply a8_|apply a3_|apply b0_|apply a1_|refine a2_ [] ?_)|((with_reducible refine a5_ ?_ ?_);(focus (go_simp;done)))|((with_reducible refine a0_ fun X Y=>?_);go_simp;refine Y _ ?_;clear Y X)
    refine h2_ 14 [] [⟨12,8,[.string ⟨#[]⟩,.int .i64 0,.int .i64 0,.bool false],none,[]⟩] (by kernel_rfl) (by kernel_rfl) (by kernel_rfl) (by go_simp) (by go_simp) ?_;simp only [List.take,List.drop];repeat (first|(refine c8_ rfl ?_)|((with_reducible refine c9_ rfl fun X Y=>?_);go_simp;refine Y _ (by go_simp) ?_;clear Y X)|(with_reducible apply e5_))
    refine ⟨by go_simp,?_⟩;simp only [i5_,j5_,Slot.end_,List.cons_append,List.nil_append];repeat' first|(with_reducible first|apply a8_|apply a3_|apply b4_|apply c2_|apply b0_|apply a9_|apply c5_|apply a1_|refine a2_ [] ?_)|((with_reducible refine a7_ ?_ ?_);(focus (go_simp;done)))|((with_reducible refine a5_ ?_ ?_);(focus (go_simp;done)))|((with_reducible refine a0_ fun X Y=>?_);go_simp;(first|(with_reducible refine ⟨_,g,?_⟩)|skip);refine Y _ ?_;clear Y X)
    go_simp
  obtain ⟨f0,fl⟩:=hfk h1;clear hfk;obtain ⟨f,hfe⟩ : ∃ f:Nat,(rat r.ranks k).feeder=f:=⟨(rat r.ranks k).feeder.toNat,by omega⟩
  rw [hfe] at fl h1;simp only [Int.toNat_natCast] at fl;clear f0;by_cases h4:0 < (qat s.q f).length
  ·have h5:¬qat s.q f=[]:=fun h=>by rw [h] at h4;simp at h4
   rw [show fst [unl (decide (s.time≤tm)) 9,doE r s ⟨0,tm,(k:Int),car⟩ k]=13 by simp [doE,h6_,k4_,feedN,fst,unl,hsp,h1,hfe,h4,ht]];generalize j1_ s.q car=SK at *;generalize a4x s.q car=FP at *;refine b7_ Tryz.func67 rfl (by kernel_rfl) (by kernel_rfl) rfl fun M0 w0=>?_;simp only [Tryz.ntmps67,Tryz.results67,b1_];repeat' first|(with_reducible first|apply a8_|apply a3_|apply b0_|apply a1_|refine a2_ [] ?_)|((with_reducible refine a5_ ?_ ?_);(focus (go_simp;done)))|((with_reducible refine a0_ fun X Y=>?_);go_simp;refine Y _ ?_;clear Y X)
   refine h2_ 14 [] [⟨12,8,[.string ⟨#[]⟩,.int .i64 0,.int .i64 0,.bool false],none,[]⟩] (by kernel_rfl) (by kernel_rfl) (by kernel_rfl) (by go_simp) (by go_simp) ?_;simp only [List.take,List.drop];repeat (first|(refine c8_ rfl ?_)|((with_reducible refine c9_ rfl fun X Y=>?_);go_simp;refine Y _ (by go_simp) ?_;clear Y X)|(with_reducible apply e5_))
   refine ⟨by go_simp,?_⟩;simp only [i5_,j5_,Slot.end_,List.cons_append,List.nil_append];repeat' first|(with_reducible first|apply a8_|apply a3_|apply b4_|apply c2_|apply b0_|apply a9_|apply c5_|apply a1_|refine a2_ [] ?_)|((with_reducible refine a7_ ?_ ?_);(focus (go_simp;done)))|((with_reducible refine a5_ ?_ ?_);(focus (go_simp;done)))|((with_reducible refine a0_ fun X Y=>?_);go_simp;(first|(with_reducible refine ⟨_,g,?_⟩)|skip);refine Y _ ?_;clear Y X)
   go_simp
  ·have h5:qat s.q f=[]:=List.eq_nil_of_length_eq_zero (by omega);by_cases hfull:((qat s.q k).length:Int) < (rat r.ranks k).places
   ·have hfu:¬(rat r.ranks k).places≤(qat s.q k).length:=by omega
    rw [show fst [unl (decide (s.time≤tm)) 9,doE r s ⟨0,tm,(k:Int),car⟩ k]=0 by simp [doE,h6_,k4_,e3_,feedN,fst,unl,hsp,h1,hfe,h5,hfull,ht]];generalize j1_ s.q car=SK at *;generalize a4x s.q car=FP at *;refine b7_ Tryz.func67 rfl (by kernel_rfl) (by kernel_rfl) rfl fun M0 w0=>?_;simp only [Tryz.ntmps67,Tryz.results67,b1_];repeat' first|(with_reducible first|apply a8_|apply a3_|apply b0_|apply a1_|refine a2_ [] ?_)|((with_reducible refine a5_ ?_ ?_);(focus (go_simp;done)))|((with_reducible refine a0_ fun X Y=>?_);go_simp;refine Y _ ?_;clear Y X)
    refine h2_ 14 [] [⟨12,8,[.string ⟨#[]⟩,.int .i64 0,.int .i64 0,.bool false],none,[]⟩] (by kernel_rfl) (by kernel_rfl) (by kernel_rfl) (by go_simp) (by go_simp) ?_;simp only [List.take,List.drop];repeat (first|(refine c8_ rfl ?_)|((with_reducible refine c9_ rfl fun X Y=>?_);go_simp;refine Y _ (by go_simp) ?_;clear Y X)|(with_reducible apply e5_))
    refine ⟨by go_simp,?_⟩;simp only [i5_,j5_,Slot.end_,List.cons_append,List.nil_append];repeat' first|(with_reducible first|apply a8_|apply a3_|apply c2_|apply b0_|apply a9_|apply b2_|apply a1_|refine a2_ [] ?_)|((with_reducible refine a7_ ?_ ?_);(focus (go_simp;done)))|((with_reducible refine a5_ ?_ ?_);(focus (go_simp;done)))|((with_reducible refine a0_ fun X Y=>?_);go_simp;(first|(with_reducible refine ⟨_,g,?_⟩)|skip);refine Y _ ?_;clear Y X)
    go_simp
   ·have hfu:(rat r.ranks k).places≤(qat s.q k).length:=by omega
    rw [show fst [unl (decide (s.time≤tm)) 9,doE r s ⟨0,tm,(k:Int),car⟩ k]=16 by simp [doE,h6_,k4_,e3_,feedN,fst,unl,hsp,h1,hfe,h5,hfull,ht]];generalize j1_ s.q car=SK at *;generalize a4x s.q car=FP at *;refine b7_ Tryz.func67 rfl (by kernel_rfl) (by kernel_rfl) rfl fun M0 w0=>?_;simp only [Tryz.ntmps67,Tryz.results67,b1_];repeat' first|(with_reducible first|apply a8_|apply a3_|apply b0_|apply a1_|refine a2_ [] ?_)|((with_reducible refine a5_ ?_ ?_);(focus (go_simp;done)))|((with_reducible refine a0_ fun X Y=>?_);go_simp;refine Y _ ?_;clear Y X)
    refine h2_ 14 [] [⟨12,8,[.string ⟨#[]⟩,.int .i64 0,.int .i64 0,.bool false],none,[]⟩] (by kernel_rfl) (by kernel_rfl) (by kernel_rfl) (by go_simp) (by go_simp) ?_;simp only [List.take,List.drop];repeat (first|(refine c8_ rfl ?_)|((with_reducible refine c9_ rfl fun X Y=>?_);go_simp;refine Y _ (by go_simp) ?_;clear Y X)|(with_reducible apply e5_))
    refine ⟨by go_simp,?_⟩;simp only [i5_,j5_,Slot.end_,List.cons_append,List.nil_append];repeat' first|(with_reducible first|apply a8_|apply a3_|apply b4_|apply c2_|apply b0_|apply a9_|apply c5_|apply a1_|refine a2_ [] ?_)|((with_reducible refine a7_ ?_ ?_);(focus (go_simp;done)))|((with_reducible refine a5_ ?_ ?_);(focus (go_simp;done)))|((with_reducible refine a0_ fun X Y=>?_);go_simp;(first|(with_reducible refine ⟨_,g,?_⟩)|skip);refine Y _ ?_;clear Y X)
    go_simp
 ·have ht2:tm < s.time:=by omega
  rw [show fst [unl (decide (s.time≤tm)) 9,doE r s ⟨0,tm,(k:Int),car⟩ k]=9 by simp [fst,unl,ht]];refine b7_ Tryz.func67 rfl (by kernel_rfl) (by kernel_rfl) rfl fun M0 w0=>?_;simp only [Tryz.ntmps67,Tryz.results67,b1_];repeat' first|(with_reducible first|apply a8_|apply a3_|apply b4_|apply c2_|apply a1_|refine a2_ [] ?_)|((with_reducible refine a7_ ?_ ?_);(focus (go_simp;done)))|((with_reducible refine a0_ fun X Y=>?_);go_simp;refine Y _ ?_;clear Y X)
  go_simp
theorem c9q (r:Ru) (s:St) (tm:Int) (k:Nat) (car:ByteArray) (hk:k < s.q.length) (hr:r.ranks.length=s.q.length) (hf:s4_ r s.q.length) (_hql:s.q.length≤1000000) (_hqs:∀ k,k < s.q.length→(qat s.q k).length≤1000000) (htl:s.tk.length≤1000000) : VC Tryz.prog 67 [c4_ r,e9_ s,.agg [I 1,I tm,I (k:Int),S car]] (I (fst [unl (decide (s.time≤tm)) 9,doE r s ⟨1,tm,(k:Int),car⟩ k])):=by
 have hk2:k < r.ranks.length:=by omega
 have hfk:=hf k hk;clear hf;by_cases ht:s.time≤tm
 ·have ht2:¬tm < s.time:=by omega
  clear hfk;by_cases hq0:(qat s.q k).length=0
  ·have hq1:qat s.q k=[]:=List.eq_nil_of_length_eq_zero hq0;rw [show fst [unl (decide (s.time≤tm)) 9,doE r s ⟨1,tm,(k:Int),car⟩ k]=12 by simp [doE,o9_,p9_,fst,unl,hq1,ht]];refine b7_ Tryz.func67 rfl (by kernel_rfl) (by kernel_rfl) rfl fun M0 w0=>?_;simp only [Tryz.ntmps67,Tryz.results67,b1_];repeat' first|(with_reducible first|apply a8_|apply a3_|apply b0_|apply a1_|refine a2_ [] ?_)|((with_reducible refine a5_ ?_ ?_);(focus (go_simp;done)))|((with_reducible refine a0_ fun X Y=>?_);go_simp;refine Y _ ?_;clear Y X)
   refine h2_ 14 [] [⟨12,8,[.string ⟨#[]⟩,.int .i64 0,.int .i64 0,.bool false],none,[]⟩] (by kernel_rfl) (by kernel_rfl) (by kernel_rfl) (by go_simp) (by go_simp) ?_;simp only [List.take,List.drop];repeat (first|(refine c8_ rfl ?_)|((with_reducible refine c9_ rfl fun X Y=>?_);go_simp;refine Y _ (by go_simp) ?_;clear Y X)|(with_reducible apply e5_))
   refine ⟨by go_simp,?_⟩;simp only [i5_,j5_,Slot.end_,List.cons_append,List.nil_append];repeat' first|(with_reducible first|apply a8_|apply a3_|apply b4_|apply c2_|apply b0_|apply a9_|apply c5_|apply a1_|refine a2_ [] ?_)|((with_reducible refine a7_ ?_ ?_);(focus (go_simp;done)))|((with_reducible refine a5_ ?_ ?_);(focus (go_simp;done)))|((with_reducible refine a0_ fun X Y=>?_);go_simp;refine Y _ ?_;clear Y X)
   go_simp
  have hq1:¬qat s.q k=[]:=fun h=>by rw [h] at hq0;simp at hq0
  have hq2:0 < (qat s.q k).length:=by omega
  have e0:(qat s.q k)[0]=tat (qat s.q k) 0:=(i0_ hq2).symm;by_cases hh:tat (qat s.q k) 0=car
  ·by_cases h40:(s.tk.length:Int) < 40
   ·have h41:¬40≤(s.tk.length:Int):=by omega
    rw [show fst [unl (decide (s.time≤tm)) 9,doE r s ⟨1,tm,(k:Int),car⟩ k]=0 by simp [doE,o9_,p9_,fst,unl,hq0,hh,h40,ht]];refine b7_ Tryz.func67 rfl (by kernel_rfl) (by kernel_rfl) rfl fun M0 w0=>?_;simp only [Tryz.ntmps67,Tryz.results67,b1_];repeat' first|(with_reducible first|apply a8_|apply a3_|apply b0_|apply a1_|refine a2_ [] ?_)|((with_reducible refine a5_ ?_ ?_);(focus (go_simp;done)))|((with_reducible refine a0_ fun X Y=>?_);go_simp;refine Y _ ?_;clear Y X)
    refine h2_ 14 [] [⟨12,8,[.string ⟨#[]⟩,.int .i64 0,.int .i64 0,.bool false],none,[]⟩] (by kernel_rfl) (by kernel_rfl) (by kernel_rfl) (by go_simp) (by go_simp) ?_;simp only [List.take,List.drop];repeat (first|(refine c8_ rfl ?_)|((with_reducible refine c9_ rfl fun X Y=>?_);go_simp;refine Y _ (by go_simp) ?_;clear Y X)|(with_reducible apply e5_))
    refine ⟨by go_simp,?_⟩;simp only [i5_,j5_,Slot.end_,List.cons_append,List.nil_append];repeat' first|(with_reducible first|apply a8_|apply a3_|apply c2_|apply b0_|apply a9_|apply b2_|apply a1_|refine a2_ [] ?_|apply a6_)|((with_reducible refine a7_ ?_ ?_);(focus (go_simp;done)))|((with_reducible refine a5_ ?_ ?_);(focus (go_simp;done)))|((with_reducible first|refine a0_ fun X Y=>?_|refine a4_ fun X Y=>?_);go_simp;refine Y _ ?_;clear Y X)|((refine b5_ 6 6 [] rfl (by kernel_rfl) (by kernel_rfl) ?_);simp only [List.take,List.drop])
    go_simp
   ·have h41:40≤(s.tk.length:Int):=by omega
    rw [show fst [unl (decide (s.time≤tm)) 9,doE r s ⟨1,tm,(k:Int),car⟩ k]=8 by simp [doE,o9_,p9_,fst,unl,hq0,hh,h40,ht]];refine b7_ Tryz.func67 rfl (by kernel_rfl) (by kernel_rfl) rfl fun M0 w0=>?_;simp only [Tryz.ntmps67,Tryz.results67,b1_];repeat' first|(with_reducible first|apply a8_|apply a3_|apply b0_|apply a1_|refine a2_ [] ?_)|((with_reducible refine a5_ ?_ ?_);(focus (go_simp;done)))|((with_reducible refine a0_ fun X Y=>?_);go_simp;refine Y _ ?_;clear Y X)
    refine h2_ 14 [] [⟨12,8,[.string ⟨#[]⟩,.int .i64 0,.int .i64 0,.bool false],none,[]⟩] (by kernel_rfl) (by kernel_rfl) (by kernel_rfl) (by go_simp) (by go_simp) ?_;simp only [List.take,List.drop];repeat (first|(refine c8_ rfl ?_)|((with_reducible refine c9_ rfl fun X Y=>?_);go_simp;refine Y _ (by go_simp) ?_;clear Y X)|(with_reducible apply e5_))
    refine ⟨by go_simp,?_⟩;simp only [i5_,j5_,Slot.end_,List.cons_append,List.nil_append];repeat' first|(with_reducible first|apply a8_|apply a3_|apply b4_|apply c2_|apply b0_|apply a9_|apply c5_|apply a1_|refine a2_ [] ?_|apply a6_)|((with_reducible refine a7_ ?_ ?_);(focus (go_simp;done)))|((with_reducible refine a5_ ?_ ?_);(focus (go_simp;done)))|((with_reducible first|refine a0_ fun X Y=>?_|refine a4_ fun X Y=>?_);go_simp;refine Y _ ?_;clear Y X)|((refine b5_ 6 6 [] rfl (by kernel_rfl) (by kernel_rfl) ?_);simp only [List.take,List.drop])
    go_simp
  ·rw [show fst [unl (decide (s.time≤tm)) 9,doE r s ⟨1,tm,(k:Int),car⟩ k]=13 by simp [doE,o9_,p9_,fst,unl,hq0,hh,ht]];refine b7_ Tryz.func67 rfl (by kernel_rfl) (by kernel_rfl) rfl fun M0 w0=>?_;simp only [Tryz.ntmps67,Tryz.results67,b1_];repeat' first|(with_reducible first|apply a8_|apply a3_|apply b0_|apply a1_|refine a2_ [] ?_)|((with_reducible refine a5_ ?_ ?_);(focus (go_simp;done)))|((with_reducible refine a0_ fun X Y=>?_);go_simp;refine Y _ ?_;clear Y X)
   refine h2_ 14 [] [⟨12,8,[.string ⟨#[]⟩,.int .i64 0,.int .i64 0,.bool false],none,[]⟩] (by kernel_rfl) (by kernel_rfl) (by kernel_rfl) (by go_simp) (by go_simp) ?_;simp only [List.take,List.drop];repeat (first|(refine c8_ rfl ?_)|((with_reducible refine c9_ rfl fun X Y=>?_);go_simp;refine Y _ (by go_simp) ?_;clear Y X)|(with_reducible apply e5_))
   refine ⟨by go_simp,?_⟩;simp only [i5_,j5_,Slot.end_,List.cons_append,List.nil_append];repeat' first|(with_reducible first|apply a8_|apply a3_|apply b4_|apply c2_|apply b0_|apply a9_|apply c5_|apply a1_|refine a2_ [] ?_|apply a6_)|((with_reducible refine a7_ ?_ ?_);(focus (go_simp;done)))|((with_reducible refine a5_ ?_ ?_);(focus (go_simp;done)))|((with_reducible first|refine a0_ fun X Y=>?_|refine a4_ fun X Y=>?_);go_simp;refine Y _ ?_;clear Y X)|((refine b5_ 6 6 [] rfl (by kernel_rfl) (by kernel_rfl) ?_);simp only [List.take,List.drop])
   go_simp
 ·have ht2:tm < s.time:=by omega
  rw [show fst [unl (decide (s.time≤tm)) 9,doE r s ⟨1,tm,(k:Int),car⟩ k]=9 by simp [fst,unl,ht]];refine b7_ Tryz.func67 rfl (by kernel_rfl) (by kernel_rfl) rfl fun M0 w0=>?_;simp only [Tryz.ntmps67,Tryz.results67,b1_];repeat' first|(with_reducible first|apply a8_|apply a3_|apply b4_|apply c2_|apply a1_|refine a2_ [] ?_)|((with_reducible refine a7_ ?_ ?_);(focus (go_simp;done)))|((with_reducible refine a0_ fun X Y=>?_);go_simp;refine Y _ ?_;clear Y X)
  go_simp
theorem c9r (r:Ru) (s:St) (tm:Int) (k:Nat) (car:ByteArray) (hk:k < s.q.length) (hr:r.ranks.length=s.q.length) (hf:s4_ r s.q.length) (_hql:s.q.length≤1000000) (_hqs:∀ k,k < s.q.length→(qat s.q k).length≤1000000) (_htl:s.tk.length≤1000000) : VC Tryz.prog 67 [c4_ r,e9_ s,.agg [I 2,I tm,I (k:Int),S car]] (I (fst [unl (decide (s.time≤tm)) 9,doE r s ⟨2,tm,(k:Int),car⟩ k])):=by
 have hk2:k < r.ranks.length:=by omega
 have hfk:=hf k hk;clear hf;by_cases ht:s.time≤tm
 ·have ht2:¬tm < s.time:=by omega
  clear hfk;by_cases hq0:(qat s.q k).length=0
  ·have hq1:qat s.q k=[]:=List.eq_nil_of_length_eq_zero hq0;rw [show fst [unl (decide (s.time≤tm)) 9,doE r s ⟨2,tm,(k:Int),car⟩ k]=12 by simp [doE,p9_,fst,unl,hq1,ht]];refine b7_ Tryz.func67 rfl (by kernel_rfl) (by kernel_rfl) rfl fun M0 w0=>?_;simp only [Tryz.ntmps67,Tryz.results67,b1_];repeat' first|(with_reducible first|apply a8_|apply a3_|apply b0_|apply a1_|refine a2_ [] ?_)|((with_reducible refine a5_ ?_ ?_);(focus (go_simp;done)))|((with_reducible refine a0_ fun X Y=>?_);go_simp;refine Y _ ?_;clear Y X)
   refine h2_ 14 [] [⟨12,8,[.string ⟨#[]⟩,.int .i64 0,.int .i64 0,.bool false],none,[]⟩] (by kernel_rfl) (by kernel_rfl) (by kernel_rfl) (by go_simp) (by go_simp) ?_;simp only [List.take,List.drop];repeat (first|(refine c8_ rfl ?_)|((with_reducible refine c9_ rfl fun X Y=>?_);go_simp;refine Y _ (by go_simp) ?_;clear Y X)|(with_reducible apply e5_))
   refine ⟨by go_simp,?_⟩;simp only [i5_,j5_,Slot.end_,List.cons_append,List.nil_append];repeat' first|(with_reducible first|apply a8_|apply a3_|apply b4_|apply c2_|apply a9_|apply c5_|apply a1_|refine a2_ [] ?_)|((with_reducible refine a7_ ?_ ?_);(focus (go_simp;done)))|((with_reducible refine a5_ ?_ ?_);(focus (go_simp;done)))|((with_reducible refine a0_ fun X Y=>?_);go_simp;refine Y _ ?_;clear Y X)
   go_simp
  have hq1:¬qat s.q k=[]:=fun h=>by rw [h] at hq0;simp at hq0
  have hq2:0 < (qat s.q k).length:=by omega
  have e0:(qat s.q k)[0]=tat (qat s.q k) 0:=(i0_ hq2).symm;by_cases hh:tat (qat s.q k) 0=car
  ·rw [show fst [unl (decide (s.time≤tm)) 9,doE r s ⟨2,tm,(k:Int),car⟩ k]=0 by simp [doE,p9_,fst,unl,hq0,hh,ht]];refine b7_ Tryz.func67 rfl (by kernel_rfl) (by kernel_rfl) rfl fun M0 w0=>?_;simp only [Tryz.ntmps67,Tryz.results67,b1_];repeat' first|(with_reducible first|apply a8_|apply a3_|apply b0_|apply a1_|refine a2_ [] ?_)|((with_reducible refine a5_ ?_ ?_);(focus (go_simp;done)))|((with_reducible refine a0_ fun X Y=>?_);go_simp;refine Y _ ?_;clear Y X)
   refine h2_ 14 [] [⟨12,8,[.string ⟨#[]⟩,.int .i64 0,.int .i64 0,.bool false],none,[]⟩] (by kernel_rfl) (by kernel_rfl) (by kernel_rfl) (by go_simp) (by go_simp) ?_;simp only [List.take,List.drop];repeat (first|(refine c8_ rfl ?_)|((with_reducible refine c9_ rfl fun X Y=>?_);go_simp;refine Y _ (by go_simp) ?_;clear Y X)|(with_reducible apply e5_))
   refine ⟨by go_simp,?_⟩;simp only [i5_,j5_,Slot.end_,List.cons_append,List.nil_append];repeat' first|(with_reducible first|apply a8_|apply a3_|apply c2_|apply b0_|apply a9_|apply b2_|apply a1_|refine a2_ [] ?_|apply a6_)|((with_reducible refine a7_ ?_ ?_);(focus (go_simp;done)))|((with_reducible refine a5_ ?_ ?_);(focus (go_simp;done)))|((with_reducible first|refine a0_ fun X Y=>?_|refine a4_ fun X Y=>?_);go_simp;refine Y _ ?_;clear Y X)|((refine b5_ 6 6 [] rfl (by kernel_rfl) (by kernel_rfl) ?_);simp only [List.take,List.drop])
   go_simp
  ·rw [show fst [unl (decide (s.time≤tm)) 9,doE r s ⟨2,tm,(k:Int),car⟩ k]=13 by simp [doE,p9_,fst,unl,hq0,hh,ht]];refine b7_ Tryz.func67 rfl (by kernel_rfl) (by kernel_rfl) rfl fun M0 w0=>?_;simp only [Tryz.ntmps67,Tryz.results67,b1_];repeat' first|(with_reducible first|apply a8_|apply a3_|apply b0_|apply a1_|refine a2_ [] ?_)|((with_reducible refine a5_ ?_ ?_);(focus (go_simp;done)))|((with_reducible refine a0_ fun X Y=>?_);go_simp;refine Y _ ?_;clear Y X)
   refine h2_ 14 [] [⟨12,8,[.string ⟨#[]⟩,.int .i64 0,.int .i64 0,.bool false],none,[]⟩] (by kernel_rfl) (by kernel_rfl) (by kernel_rfl) (by go_simp) (by go_simp) ?_;simp only [List.take,List.drop];repeat (first|(refine c8_ rfl ?_)|((with_reducible refine c9_ rfl fun X Y=>?_);go_simp;refine Y _ (by go_simp) ?_;clear Y X)|(with_reducible apply e5_))
   refine ⟨by go_simp,?_⟩;simp only [i5_,j5_,Slot.end_,List.cons_append,List.nil_append];repeat' first|(with_reducible first|apply a8_|apply a3_|apply b4_|apply c2_|apply b0_|apply a9_|apply c5_|apply a1_|refine a2_ [] ?_|apply a6_)|((with_reducible refine a7_ ?_ ?_);(focus (go_simp;done)))|((with_reducible refine a5_ ?_ ?_);(focus (go_simp;done)))|((with_reducible first|refine a0_ fun X Y=>?_|refine a4_ fun X Y=>?_);go_simp;refine Y _ ?_;clear Y X)|((refine b5_ 6 6 [] rfl (by kernel_rfl) (by kernel_rfl) ?_);simp only [List.take,List.drop])
   go_simp
 ·have ht2:tm < s.time:=by omega
  rw [show fst [unl (decide (s.time≤tm)) 9,doE r s ⟨2,tm,(k:Int),car⟩ k]=9 by simp [fst,unl,ht]];refine b7_ Tryz.func67 rfl (by kernel_rfl) (by kernel_rfl) rfl fun M0 w0=>?_;simp only [Tryz.ntmps67,Tryz.results67,b1_];repeat' first|(with_reducible first|apply a8_|apply a3_|apply b4_|apply c2_|apply a1_|refine a2_ [] ?_)|((with_reducible refine a7_ ?_ ?_);(focus (go_simp;done)))|((with_reducible refine a0_ fun X Y=>?_);go_simp;refine Y _ ?_;clear Y X)
  go_simp
theorem c9s (r:Ru) (s:St) (tm:Int) (k:Nat) (car:ByteArray) (hk:k < s.q.length) (hr:r.ranks.length=s.q.length) (hf:s4_ r s.q.length) (_hql:s.q.length≤1000000) (hqs:∀ k,k < s.q.length→(qat s.q k).length≤1000000) (_htl:s.tk.length≤1000000) : VC Tryz.prog 67 [c4_ r,e9_ s,.agg [I 3,I tm,I (k:Int),S car]] (I (fst [unl (decide (s.time≤tm)) 9,doE r s ⟨3,tm,(k:Int),car⟩ k])):=by
 have hk2:k < r.ranks.length:=by omega
 have hfk:=hf k hk;clear hf;by_cases ht:s.time≤tm
 ·have ht2:¬tm < s.time:=by omega
  clear hfk;have g:=b8w (qat s.q k) car (hqs k hk);have hany:a4z (isT (qat s.q k) car) 0 (qat s.q k).length=decide (0≤a1q (qat s.q k) car):=(a6n _ _).symm;rw [hany] at g;by_cases hi:a1q (qat s.q k) car < 0
  ·have hi2:¬0≤a1q (qat s.q k) car:=by omega
   rw [decide_eq_false hi2] at g;rw [show fst [unl (decide (s.time≤tm)) 9,doE r s ⟨3,tm,(k:Int),car⟩ k]=6 by simp [doE,a3f,fst,unl,hi,ht]];refine b7_ Tryz.func67 rfl (by kernel_rfl) (by kernel_rfl) rfl fun M0 w0=>?_;simp only [Tryz.ntmps67,Tryz.results67,b1_];repeat' first|(with_reducible first|apply a8_|apply a3_|apply b0_|apply a1_|refine a2_ [] ?_)|((with_reducible refine a5_ ?_ ?_);(focus (go_simp;done)))|((with_reducible refine a0_ fun X Y=>?_);go_simp;refine Y _ ?_;clear Y X)
   refine h2_ 14 [] [⟨12,8,[.string ⟨#[]⟩,.int .i64 0,.int .i64 0,.bool false],none,[]⟩] (by kernel_rfl) (by kernel_rfl) (by kernel_rfl) (by go_simp) (by go_simp) ?_;simp only [List.take,List.drop];repeat (first|(refine c8_ rfl ?_)|((with_reducible refine c9_ rfl fun X Y=>?_);go_simp;refine Y _ (by go_simp) ?_;clear Y X)|(with_reducible apply e5_))
   refine ⟨by go_simp,?_⟩;simp only [i5_,j5_,Slot.end_,List.cons_append,List.nil_append];repeat' first|(with_reducible first|apply a8_|apply a3_|apply b4_|apply c2_|apply a9_|apply c5_|apply a1_|refine a2_ [] ?_)|((with_reducible refine a7_ ?_ ?_);(focus (go_simp;done)))|((with_reducible refine a5_ ?_ ?_);(focus (go_simp;done)))|((with_reducible refine a0_ fun X Y=>?_);go_simp;(first|(with_reducible refine ⟨_,g,?_⟩)|skip);refine Y _ ?_;clear Y X)
   go_simp
  ·have hi2:0≤a1q (qat s.q k) car:=by omega
   rw [decide_eq_true hi2] at g;rw [show fst [unl (decide (s.time≤tm)) 9,doE r s ⟨3,tm,(k:Int),car⟩ k]=0 by simp [doE,a3f,fst,unl,hi,ht]];refine b7_ Tryz.func67 rfl (by kernel_rfl) (by kernel_rfl) rfl fun M0 w0=>?_;simp only [Tryz.ntmps67,Tryz.results67,b1_];repeat' first|(with_reducible first|apply a8_|apply a3_|apply b0_|apply a1_|refine a2_ [] ?_)|((with_reducible refine a5_ ?_ ?_);(focus (go_simp;done)))|((with_reducible refine a0_ fun X Y=>?_);go_simp;refine Y _ ?_;clear Y X)
   refine h2_ 14 [] [⟨12,8,[.string ⟨#[]⟩,.int .i64 0,.int .i64 0,.bool false],none,[]⟩] (by kernel_rfl) (by kernel_rfl) (by kernel_rfl) (by go_simp) (by go_simp) ?_;simp only [List.take,List.drop];repeat (first|(refine c8_ rfl ?_)|((with_reducible refine c9_ rfl fun X Y=>?_);go_simp;refine Y _ (by go_simp) ?_;clear Y X)|(with_reducible apply e5_))
   refine ⟨by go_simp,?_⟩;simp only [i5_,j5_,Slot.end_,List.cons_append,List.nil_append];repeat' first|(with_reducible first|apply a8_|apply a3_|apply c2_|apply b0_|apply a9_|apply b2_|apply a1_|refine a2_ [] ?_)|((with_reducible refine a7_ ?_ ?_);(focus (go_simp;done)))|((with_reducible refine a5_ ?_ ?_);(focus (go_simp;done)))|((with_reducible refine a0_ fun X Y=>?_);go_simp;(first|(with_reducible refine ⟨_,g,?_⟩)|skip);refine Y _ ?_;clear Y X)
   go_simp
 ·have ht2:tm < s.time:=by omega
  rw [show fst [unl (decide (s.time≤tm)) 9,doE r s ⟨3,tm,(k:Int),car⟩ k]=9 by simp [fst,unl,ht]];refine b7_ Tryz.func67 rfl (by kernel_rfl) (by kernel_rfl) rfl fun M0 w0=>?_;simp only [Tryz.ntmps67,Tryz.results67,b1_];repeat' first|(with_reducible first|apply a8_|apply a3_|apply b4_|apply c2_|apply a1_|refine a2_ [] ?_)|((with_reducible refine a7_ ?_ ?_);(focus (go_simp;done)))|((with_reducible refine a0_ fun X Y=>?_);go_simp;refine Y _ ?_;clear Y X)
  go_simp
theorem c9t (r:Ru) (s:St) (tm:Int) (k:Nat) (car:ByteArray) (hk:k < s.q.length) (hr:r.ranks.length=s.q.length) (hf:s4_ r s.q.length) (_hql:s.q.length≤1000000) (_hqs:∀ k,k < s.q.length→(qat s.q k).length≤1000000) (_htl:s.tk.length≤1000000) : VC Tryz.prog 67 [c4_ r,e9_ s,.agg [I 4,I tm,I (k:Int),S car]] (I (fst [unl (decide (s.time≤tm)) 9,doE r s ⟨4,tm,(k:Int),car⟩ k])):=by
 have hk2:k < r.ranks.length:=by omega
 have hfk:=hf k hk;clear hf;by_cases ht:s.time≤tm
 ·have ht2:¬tm < s.time:=by omega
  by_cases h1:(rat r.ranks k).feeder = -1
  ·clear hfk;rw [show fst [unl (decide (s.time≤tm)) 9,doE r s ⟨4,tm,(k:Int),car⟩ k]=6 by simp [doE,w3_,fst,unl,h1,ht]];refine b7_ Tryz.func67 rfl (by kernel_rfl) (by kernel_rfl) rfl fun M0 w0=>?_;simp only [Tryz.ntmps67,Tryz.results67,b1_];repeat' first|(with_reducible first|apply a8_|apply a3_|apply b0_|apply a1_|refine a2_ [] ?_)|((with_reducible refine a5_ ?_ ?_);(focus (go_simp;done)))|((with_reducible refine a0_ fun X Y=>?_);go_simp;refine Y _ ?_;clear Y X)
   refine h2_ 14 [] [⟨12,8,[.string ⟨#[]⟩,.int .i64 0,.int .i64 0,.bool false],none,[]⟩] (by kernel_rfl) (by kernel_rfl) (by kernel_rfl) (by go_simp) (by go_simp) ?_;simp only [List.take,List.drop];repeat (first|(refine c8_ rfl ?_)|((with_reducible refine c9_ rfl fun X Y=>?_);go_simp;refine Y _ (by go_simp) ?_;clear Y X)|(with_reducible apply e5_))
   refine ⟨by go_simp,?_⟩;simp only [i5_,j5_,Slot.end_,List.cons_append,List.nil_append];repeat' first|(with_reducible first|apply a8_|apply a3_|apply b4_|apply c2_|apply a9_|apply c5_|apply a1_|refine a2_ [] ?_)|((with_reducible refine a7_ ?_ ?_);(focus (go_simp;done)))|((with_reducible refine a5_ ?_ ?_);(focus (go_simp;done)))|((with_reducible refine a0_ fun X Y=>?_);go_simp;refine Y _ ?_;clear Y X)
   go_simp
  obtain ⟨f0,fl⟩:=hfk h1;clear hfk;obtain ⟨f,hfe⟩ : ∃ f:Nat,(rat r.ranks k).feeder=f:=⟨(rat r.ranks k).feeder.toNat,by omega⟩
  rw [hfe] at fl h1;simp only [Int.toNat_natCast] at fl;clear f0;cases h2:(rat r.ranks k).called
  ·rw [show fst [unl (decide (s.time≤tm)) 9,doE r s ⟨4,tm,(k:Int),car⟩ k]=22 by simp [doE,w3_,fst,unl,h1,h2,hfe,ht]];refine b7_ Tryz.func67 rfl (by kernel_rfl) (by kernel_rfl) rfl fun M0 w0=>?_;simp only [Tryz.ntmps67,Tryz.results67,b1_];repeat' first|(with_reducible first|apply a8_|apply a3_|apply b0_|apply a1_|refine a2_ [] ?_)|((with_reducible refine a5_ ?_ ?_);(focus (go_simp;done)))|((with_reducible refine a0_ fun X Y=>?_);go_simp;refine Y _ ?_;clear Y X)
   refine h2_ 14 [] [⟨12,8,[.string ⟨#[]⟩,.int .i64 0,.int .i64 0,.bool false],none,[]⟩] (by kernel_rfl) (by kernel_rfl) (by kernel_rfl) (by go_simp) (by go_simp) ?_;simp only [List.take,List.drop];repeat (first|(refine c8_ rfl ?_)|((with_reducible refine c9_ rfl fun X Y=>?_);go_simp;refine Y _ (by go_simp) ?_;clear Y X)|(with_reducible apply e5_))
   refine ⟨by go_simp,?_⟩;simp only [i5_,j5_,Slot.end_,List.cons_append,List.nil_append];repeat' first|(with_reducible first|apply a8_|apply a3_|apply b4_|apply c2_|apply b0_|apply a9_|apply c5_|apply a1_|refine a2_ [] ?_)|((with_reducible refine a7_ ?_ ?_);(focus (go_simp;done)))|((with_reducible refine a5_ ?_ ?_);(focus (go_simp;done)))|((with_reducible refine a0_ fun X Y=>?_);go_simp;refine Y _ ?_;clear Y X)
   go_simp
  by_cases h4:0 < (qat s.q f).length
  ·have h5:¬qat s.q f=[]:=fun h=>by rw [h] at h4;simp at h4
   by_cases hfull:((qat s.q k).length:Int) < (rat r.ranks k).places
   ·have hfu:¬(rat r.ranks k).places≤(qat s.q k).length:=by omega
    rw [show fst [unl (decide (s.time≤tm)) 9,doE r s ⟨4,tm,(k:Int),car⟩ k]=0 by simp [doE,w3_,e3_,feedN,fst,unl,h1,h2,hfe,h4,hfull,ht]];refine b7_ Tryz.func67 rfl (by kernel_rfl) (by kernel_rfl) rfl fun M0 w0=>?_;simp only [Tryz.ntmps67,Tryz.results67,b1_];repeat' first|(with_reducible first|apply a8_|apply a3_|apply b0_|apply a1_|refine a2_ [] ?_)|((with_reducible refine a5_ ?_ ?_);(focus (go_simp;done)))|((with_reducible refine a0_ fun X Y=>?_);go_simp;refine Y _ ?_;clear Y X)
    refine h2_ 14 [] [⟨12,8,[.string ⟨#[]⟩,.int .i64 0,.int .i64 0,.bool false],none,[]⟩] (by kernel_rfl) (by kernel_rfl) (by kernel_rfl) (by go_simp) (by go_simp) ?_;simp only [List.take,List.drop];repeat (first|(refine c8_ rfl ?_)|((with_reducible refine c9_ rfl fun X Y=>?_);go_simp;refine Y _ (by go_simp) ?_;clear Y X)|(with_reducible apply e5_))
    refine ⟨by go_simp,?_⟩;simp only [i5_,j5_,Slot.end_,List.cons_append,List.nil_append];repeat' first|(with_reducible first|apply a8_|apply a3_|apply c2_|apply b0_|apply a9_|apply b2_|apply a1_|refine a2_ [] ?_)|((with_reducible refine a7_ ?_ ?_);(focus (go_simp;done)))|((with_reducible refine a5_ ?_ ?_);(focus (go_simp;done)))|((with_reducible refine a0_ fun X Y=>?_);go_simp;refine Y _ ?_;clear Y X)
    go_simp
   ·have hfu:(rat r.ranks k).places≤(qat s.q k).length:=by omega
    rw [show fst [unl (decide (s.time≤tm)) 9,doE r s ⟨4,tm,(k:Int),car⟩ k]=16 by simp [doE,w3_,e3_,feedN,fst,unl,h1,h2,hfe,h4,hfull,ht]];refine b7_ Tryz.func67 rfl (by kernel_rfl) (by kernel_rfl) rfl fun M0 w0=>?_;simp only [Tryz.ntmps67,Tryz.results67,b1_];repeat' first|(with_reducible first|apply a8_|apply a3_|apply b0_|apply a1_|refine a2_ [] ?_)|((with_reducible refine a5_ ?_ ?_);(focus (go_simp;done)))|((with_reducible refine a0_ fun X Y=>?_);go_simp;refine Y _ ?_;clear Y X)
    refine h2_ 14 [] [⟨12,8,[.string ⟨#[]⟩,.int .i64 0,.int .i64 0,.bool false],none,[]⟩] (by kernel_rfl) (by kernel_rfl) (by kernel_rfl) (by go_simp) (by go_simp) ?_;simp only [List.take,List.drop];repeat (first|(refine c8_ rfl ?_)|((with_reducible refine c9_ rfl fun X Y=>?_);go_simp;refine Y _ (by go_simp) ?_;clear Y X)|(with_reducible apply e5_))
    refine ⟨by go_simp,?_⟩;simp only [i5_,j5_,Slot.end_,List.cons_append,List.nil_append];repeat' first|(with_reducible first|apply a8_|apply a3_|apply b4_|apply c2_|apply b0_|apply a9_|apply c5_|apply a1_|refine a2_ [] ?_)|((with_reducible refine a7_ ?_ ?_);(focus (go_simp;done)))|((with_reducible refine a5_ ?_ ?_);(focus (go_simp;done)))|((with_reducible refine a0_ fun X Y=>?_);go_simp;refine Y _ ?_;clear Y X)
    go_simp
  ·have h5:qat s.q f=[]:=List.eq_nil_of_length_eq_zero (by omega);rw [show fst [unl (decide (s.time≤tm)) 9,doE r s ⟨4,tm,(k:Int),car⟩ k]=12 by simp [doE,w3_,feedN,fst,unl,h1,h2,hfe,h5,ht]];refine b7_ Tryz.func67 rfl (by kernel_rfl) (by kernel_rfl) rfl fun M0 w0=>?_;simp only [Tryz.ntmps67,Tryz.results67,b1_];repeat' first|(with_reducible first|apply a8_|apply a3_|apply b0_|apply a1_|refine a2_ [] ?_)|((with_reducible refine a5_ ?_ ?_);(focus (go_simp;done)))|((with_reducible refine a0_ fun X Y=>?_);go_simp;refine Y _ ?_;clear Y X)
   refine h2_ 14 [] [⟨12,8,[.string ⟨#[]⟩,.int .i64 0,.int .i64 0,.bool false],none,[]⟩] (by kernel_rfl) (by kernel_rfl) (by kernel_rfl) (by go_simp) (by go_simp) ?_;simp only [List.take,List.drop];repeat (first|(refine c8_ rfl ?_)|((with_reducible refine c9_ rfl fun X Y=>?_);go_simp;refine Y _ (by go_simp) ?_;clear Y X)|(with_reducible apply e5_))
   refine ⟨by go_simp,?_⟩;simp only [i5_,j5_,Slot.end_,List.cons_append,List.nil_append];repeat' first|(with_reducible first|apply a8_|apply a3_|apply b4_|apply c2_|apply b0_|apply a9_|apply c5_|apply a1_|refine a2_ [] ?_)|((with_reducible refine a7_ ?_ ?_);(focus (go_simp;done)))|((with_reducible refine a5_ ?_ ?_);(focus (go_simp;done)))|((with_reducible refine a0_ fun X Y=>?_);go_simp;refine Y _ ?_;clear Y X)
   go_simp
 ·have ht2:tm < s.time:=by omega
  rw [show fst [unl (decide (s.time≤tm)) 9,doE r s ⟨4,tm,(k:Int),car⟩ k]=9 by simp [fst,unl,ht]];refine b7_ Tryz.func67 rfl (by kernel_rfl) (by kernel_rfl) rfl fun M0 w0=>?_;simp only [Tryz.ntmps67,Tryz.results67,b1_];repeat' first|(with_reducible first|apply a8_|apply a3_|apply b4_|apply c2_|apply a1_|refine a2_ [] ?_)|((with_reducible refine a7_ ?_ ?_);(focus (go_simp;done)))|((with_reducible refine a0_ fun X Y=>?_);go_simp;refine Y _ ?_;clear Y X)
  go_simp
theorem c9u (r:Ru) (s:St) (tm:Int) (k:Nat) (car:ByteArray) (hk:k < s.q.length) (hr:r.ranks.length=s.q.length) (hf:s4_ r s.q.length) (_hql:s.q.length≤1000000) (_hqs:∀ k,k < s.q.length→(qat s.q k).length≤1000000) (htl:s.tk.length≤1000000) (hto:∀ i,i < s.tk.length→IntKind.i64.wrap (tm - (k8_ s.tk i).time)=tm - (k8_ s.tk i).time) : VC Tryz.prog 67 [c4_ r,e9_ s,.agg [I 5,I tm,I (k:Int),S car]] (I (fst [unl (decide (s.time≤tm)) 9,doE r s ⟨5,tm,(k:Int),car⟩ k])):=by
 have hk2:k < r.ranks.length:=by omega
 have hfk:=hf k hk;clear hf;by_cases ht:s.time≤tm
 ·have ht2:¬tm < s.time:=by omega
  clear hfk;have g:=b9a s car htl;by_cases hi:a0a s.tk car < 0
  ·rw [show fst [unl (decide (s.time≤tm)) 9,doE r s ⟨5,tm,(k:Int),car⟩ k]=6 by simp [doE,a2p,fst,unl,hi,ht]];refine b7_ Tryz.func67 rfl (by kernel_rfl) (by kernel_rfl) rfl fun M0 w0=>?_;simp only [Tryz.ntmps67,Tryz.results67,b1_];repeat' first|(with_reducible first|apply a8_|apply a3_|apply b0_|apply a1_|refine a2_ [] ?_)|((with_reducible refine a5_ ?_ ?_);(focus (go_simp;done)))|((with_reducible refine a0_ fun X Y=>?_);go_simp;refine Y _ ?_;clear Y X)
   refine h2_ 14 [] [⟨12,8,[.string ⟨#[]⟩,.int .i64 0,.int .i64 0,.bool false],none,[]⟩] (by kernel_rfl) (by kernel_rfl) (by kernel_rfl) (by go_simp) (by go_simp) ?_;simp only [List.take,List.drop];repeat (first|(refine c8_ rfl ?_)|((with_reducible refine c9_ rfl fun X Y=>?_);go_simp;refine Y _ (by go_simp) ?_;clear Y X)|(with_reducible apply e5_))
   refine ⟨by go_simp,?_⟩;simp only [i5_,j5_,Slot.end_,List.cons_append,List.nil_append];repeat' first|(with_reducible first|apply a8_|apply a3_|apply b4_|apply c2_|apply a9_|apply c5_|apply a1_|refine a2_ [] ?_|apply a6_)|((with_reducible refine a7_ ?_ ?_);(focus (go_simp;done)))|((with_reducible refine a5_ ?_ ?_);(focus (go_simp;done)))|((with_reducible first|refine a0_ fun X Y=>?_|refine a4_ fun X Y=>?_);go_simp;(first|(with_reducible refine ⟨_,g,?_⟩)|skip);refine Y _ ?_;clear Y X)|((refine b5_ 13 13 [] rfl (by kernel_rfl) (by kernel_rfl) ?_);simp only [List.take,List.drop])
   go_simp
  obtain ⟨i,ei,hil,_⟩:=a1x (Classical.byContradiction fun hh=>hi (p4_.2 hh));have eto:c7z s ⟨5,tm,(k:Int),car⟩=k8_ s.tk i:=by unfold c7z;rw [ei,Int.toNat_natCast]
  rw [ei] at g;have hi0:¬(i:Int) < 0:=by omega
  by_cases hrk:(k8_ s.tk i).rank=k
  ·have hwr:=hto i hil;by_cases hlt:tm - (k8_ s.tk i).time≤r.ret
   ·have hlt2:¬r.ret < tm - (k8_ s.tk i).time:=by omega
    by_cases hfull:((qat s.q k).length:Int) < (rat r.ranks k).places
    ·have hfu:¬(rat r.ranks k).places≤(qat s.q k).length:=by omega
     rw [show fst [unl (decide (s.time≤tm)) 9,doE r s ⟨5,tm,(k:Int),car⟩ k]=0 by simp [doE,a2p,e3_,fst,unl,ei,hi0,eto,hrk,hlt,hfull,ht]];refine b7_ Tryz.func67 rfl (by kernel_rfl) (by kernel_rfl) rfl fun M0 w0=>?_;simp only [Tryz.ntmps67,Tryz.results67,b1_];repeat' first|(with_reducible first|apply a8_|apply a3_|apply b0_|apply a1_|refine a2_ [] ?_)|((with_reducible refine a5_ ?_ ?_);(focus (go_simp;done)))|((with_reducible refine a0_ fun X Y=>?_);go_simp;refine Y _ ?_;clear Y X)
     refine h2_ 14 [] [⟨12,8,[.string ⟨#[]⟩,.int .i64 0,.int .i64 0,.bool false],none,[]⟩] (by kernel_rfl) (by kernel_rfl) (by kernel_rfl) (by go_simp) (by go_simp) ?_;simp only [List.take,List.drop];repeat (first|(refine c8_ rfl ?_)|((with_reducible refine c9_ rfl fun X Y=>?_);go_simp;refine Y _ (by go_simp) ?_;clear Y X)|(with_reducible apply e5_))
     refine ⟨by go_simp,?_⟩;simp only [i5_,j5_,Slot.end_,List.cons_append,List.nil_append];repeat' first|(with_reducible first|apply a8_|apply a3_|apply c2_|apply b0_|apply a9_|apply b2_|apply a1_|refine a2_ [] ?_|apply a6_)|((with_reducible refine a7_ ?_ ?_);(focus (go_simp;done)))|((with_reducible refine a5_ ?_ ?_);(focus (go_simp;done)))|((with_reducible first|refine a0_ fun X Y=>?_|refine a4_ fun X Y=>?_);go_simp;(first|(with_reducible refine ⟨_,g,?_⟩)|skip);refine Y _ ?_;clear Y X)|((refine b5_ 12 12 [] rfl (by kernel_rfl) (by kernel_rfl) ?_);simp only [List.take,List.drop])|((refine b5_ 13 13 [] rfl (by kernel_rfl) (by kernel_rfl) ?_);simp only [List.take,List.drop])
     go_simp
    ·have hfu:(rat r.ranks k).places≤(qat s.q k).length:=by omega
     rw [show fst [unl (decide (s.time≤tm)) 9,doE r s ⟨5,tm,(k:Int),car⟩ k]=16 by simp [doE,a2p,e3_,fst,unl,ei,hi0,eto,hrk,hlt,hfull,ht]];refine b7_ Tryz.func67 rfl (by kernel_rfl) (by kernel_rfl) rfl fun M0 w0=>?_;simp only [Tryz.ntmps67,Tryz.results67,b1_];repeat' first|(with_reducible first|apply a8_|apply a3_|apply b0_|apply a1_|refine a2_ [] ?_)|((with_reducible refine a5_ ?_ ?_);(focus (go_simp;done)))|((with_reducible refine a0_ fun X Y=>?_);go_simp;refine Y _ ?_;clear Y X)
     refine h2_ 14 [] [⟨12,8,[.string ⟨#[]⟩,.int .i64 0,.int .i64 0,.bool false],none,[]⟩] (by kernel_rfl) (by kernel_rfl) (by kernel_rfl) (by go_simp) (by go_simp) ?_;simp only [List.take,List.drop];repeat (first|(refine c8_ rfl ?_)|((with_reducible refine c9_ rfl fun X Y=>?_);go_simp;refine Y _ (by go_simp) ?_;clear Y X)|(with_reducible apply e5_))
     refine ⟨by go_simp,?_⟩;simp only [i5_,j5_,Slot.end_,List.cons_append,List.nil_append];repeat' first|(with_reducible first|apply a8_|apply a3_|apply b4_|apply c2_|apply b0_|apply a9_|apply c5_|apply a1_|refine a2_ [] ?_|apply a6_)|((with_reducible refine a7_ ?_ ?_);(focus (go_simp;done)))|((with_reducible refine a5_ ?_ ?_);(focus (go_simp;done)))|((with_reducible first|refine a0_ fun X Y=>?_|refine a4_ fun X Y=>?_);go_simp;(first|(with_reducible refine ⟨_,g,?_⟩)|skip);refine Y _ ?_;clear Y X)|((refine b5_ 12 12 [] rfl (by kernel_rfl) (by kernel_rfl) ?_);simp only [List.take,List.drop])|((refine b5_ 13 13 [] rfl (by kernel_rfl) (by kernel_rfl) ?_);simp only [List.take,List.drop])
     go_simp
   ·have hlt2:r.ret < tm - (k8_ s.tk i).time:=by omega
    rw [show fst [unl (decide (s.time≤tm)) 9,doE r s ⟨5,tm,(k:Int),car⟩ k]=25 by simp [doE,a2p,fst,unl,ei,hi0,eto,hrk,hlt,ht]];refine b7_ Tryz.func67 rfl (by kernel_rfl) (by kernel_rfl) rfl fun M0 w0=>?_;simp only [Tryz.ntmps67,Tryz.results67,b1_];repeat' first|(with_reducible first|apply a8_|apply a3_|apply b0_|apply a1_|refine a2_ [] ?_)|((with_reducible refine a5_ ?_ ?_);(focus (go_simp;done)))|((with_reducible refine a0_ fun X Y=>?_);go_simp;refine Y _ ?_;clear Y X)
    refine h2_ 14 [] [⟨12,8,[.string ⟨#[]⟩,.int .i64 0,.int .i64 0,.bool false],none,[]⟩] (by kernel_rfl) (by kernel_rfl) (by kernel_rfl) (by go_simp) (by go_simp) ?_;simp only [List.take,List.drop];repeat (first|(refine c8_ rfl ?_)|((with_reducible refine c9_ rfl fun X Y=>?_);go_simp;refine Y _ (by go_simp) ?_;clear Y X)|(with_reducible apply e5_))
    refine ⟨by go_simp,?_⟩;simp only [i5_,j5_,Slot.end_,List.cons_append,List.nil_append];repeat' first|(with_reducible first|apply a8_|apply a3_|apply b4_|apply c2_|apply b0_|apply a9_|apply c5_|apply a1_|refine a2_ [] ?_|apply a6_)|((with_reducible refine a7_ ?_ ?_);(focus (go_simp;done)))|((with_reducible refine a5_ ?_ ?_);(focus (go_simp;done)))|((with_reducible first|refine a0_ fun X Y=>?_|refine a4_ fun X Y=>?_);go_simp;(first|(with_reducible refine ⟨_,g,?_⟩)|skip);refine Y _ ?_;clear Y X)|((refine b5_ 12 12 [] rfl (by kernel_rfl) (by kernel_rfl) ?_);simp only [List.take,List.drop])|((refine b5_ 13 13 [] rfl (by kernel_rfl) (by kernel_rfl) ?_);simp only [List.take,List.drop])
    go_simp
  ·rw [show fst [unl (decide (s.time≤tm)) 9,doE r s ⟨5,tm,(k:Int),car⟩ k]=6 by simp [doE,a2p,fst,unl,ei,hi0,eto,hrk,ht]];refine b7_ Tryz.func67 rfl (by kernel_rfl) (by kernel_rfl) rfl fun M0 w0=>?_;simp only [Tryz.ntmps67,Tryz.results67,b1_];repeat' first|(with_reducible first|apply a8_|apply a3_|apply b0_|apply a1_|refine a2_ [] ?_)|((with_reducible refine a5_ ?_ ?_);(focus (go_simp;done)))|((with_reducible refine a0_ fun X Y=>?_);go_simp;refine Y _ ?_;clear Y X)
   refine h2_ 14 [] [⟨12,8,[.string ⟨#[]⟩,.int .i64 0,.int .i64 0,.bool false],none,[]⟩] (by kernel_rfl) (by kernel_rfl) (by kernel_rfl) (by go_simp) (by go_simp) ?_;simp only [List.take,List.drop];repeat (first|(refine c8_ rfl ?_)|((with_reducible refine c9_ rfl fun X Y=>?_);go_simp;refine Y _ (by go_simp) ?_;clear Y X)|(with_reducible apply e5_))
   refine ⟨by go_simp,?_⟩;simp only [i5_,j5_,Slot.end_,List.cons_append,List.nil_append];repeat' first|(with_reducible first|apply a8_|apply a3_|apply b4_|apply c2_|apply a9_|apply c5_|apply a1_|refine a2_ [] ?_|apply a6_)|((with_reducible refine a7_ ?_ ?_);(focus (go_simp;done)))|((with_reducible refine a5_ ?_ ?_);(focus (go_simp;done)))|((with_reducible first|refine a0_ fun X Y=>?_|refine a4_ fun X Y=>?_);go_simp;(first|(with_reducible refine ⟨_,g,?_⟩)|skip);refine Y _ ?_;clear Y X)|((refine b5_ 13 13 [] rfl (by kernel_rfl) (by kernel_rfl) ?_);simp only [List.take,List.drop])
   go_simp
 ·have ht2:tm < s.time:=by omega
  rw [show fst [unl (decide (s.time≤tm)) 9,doE r s ⟨5,tm,(k:Int),car⟩ k]=9 by simp [fst,unl,ht]];refine b7_ Tryz.func67 rfl (by kernel_rfl) (by kernel_rfl) rfl fun M0 w0=>?_;simp only [Tryz.ntmps67,Tryz.results67,b1_];repeat' first|(with_reducible first|apply a8_|apply a3_|apply b4_|apply c2_|apply a1_|refine a2_ [] ?_)|((with_reducible refine a7_ ?_ ?_);(focus (go_simp;done)))|((with_reducible refine a0_ fun X Y=>?_);go_simp;refine Y _ ?_;clear Y X)
  go_simp
theorem b5n (r:Ru) (s:St) (x:Ev) (hr:RuOK r) (hi:Inv r s) (hx:evE r x=0) : VC Tryz.prog 67 [c4_ r,e9_ s,evA x] (I (fst [unl (decide (s.time≤x.time)) 9,doE r s x x.rank.toNat])):=by
 have h1:=b6t hx;obtain ⟨h2,h3⟩:=b6u hx;have h4:=c1p hx;have hk:x.rank.toNat < s.q.length:=by rw [hi.len];omega
 have hlen:r.ranks.length=s.q.length:=hi.len.symm;have hfo:s4_ r s.q.length:=by rw [hi.len];exact hr.feed
 have h6:s.q.length≤6:=by rw [hi.len];exact hr.n6
 have hqs:∀ j,j < s.q.length→(qat s.q j).length≤1000000:=fun j hj=>by
  have:=hi.fit j hj;have:=hr.pl j (by omega);omega
 have htl:=hi.tkl;have hto:∀ i,i < s.tk.length→IntKind.i64.wrap (x.time - (k8_ s.tk i).time)=x.time - (k8_ s.tk i).time:=fun i hil=>by
  have:=hi.tkt _ (List.getElem_mem hil);rw [←j4_ hil] at this;have:=hi.t0;exact g9_ (by omega) (by omega)
 obtain ⟨kd,tm,rk,car⟩:=x;simp only at h1 h2 h3 h4 hk hto ⊢;obtain ⟨k,rfl⟩ : ∃ k:Nat,rk=k:=⟨rk.toNat,by omega⟩
 rw [Int.toNat_natCast] at hk ⊢;have hk6:kd=0∨kd=1∨kd=2∨kd=3∨kd=4∨kd=5:=by omega
 rcases hk6 with rfl|rfl|rfl|rfl|rfl|rfl
 ·exact c9p r s tm k car hk hlen hfo (by omega) hqs (by omega)
 ·exact c9q r s tm k car hk hlen hfo (by omega) hqs (by omega)
 ·exact c9r r s tm k car hk hlen hfo (by omega) hqs (by omega)
 ·exact c9s r s tm k car hk hlen hfo (by omega) hqs (by omega)
 ·exact c9t r s tm k car hk hlen hfo (by omega) hqs (by omega)
 ·exact c9u r s tm k car hk hlen hfo (by omega) hqs (by omega) hto
end Go.Proofs.YtoibondihdhnoaaGreatDoor
