/- Texts in one: Walks: a state is copied. -/
import Derived.Test.YtoibondihdhnoaaGreatDoorFRP9
import Derived.Test.YtoibondihdhnoaaGreatDoorFRP48
import Derived.Test.YtoibondihdhnoaaGreatDoorFRP50
import Derived.Test.YtoibondihdhnoaaGreatDoorFRP21
import Derived.Test.YtoibondihdhnoaaGreatDoorFRP26
namespace Go.Proofs.YtoibondihdhnoaaGreatDoor
open Go.RowKit
set_option maxRecDepth 100000
set_option maxHeartbeats 4000000
def cpT (es:List (List AV)) (tm:Int) (M:Nat→Nat→Prop) (w:World) (i:Nat) (v:Value) (w':World) : Prop:=
 if i=2 then ∃ b,v = .slice (some b) 0 0
 else if i=5 then OwnRow w w' M 148 3 (decide (es=[])) es v
 else if i=6 then ∃ v5,v = .agg #[.slice none 0 0,v5,.int .i64 tm]∧OwnRow w w' M 148 3 (decide (es=[])) es v5
 else ∃ b,v = .pointer (some ⟨b,0,none⟩)∧w.heap.size≤b∧w'.heap[b]? = some (.cells #[.slice none 0 0,.slice none 0 0,.int .i64 0] 32 (0,0))
theorem OE (es:List (List AV)) (tm:Int) (M:Nat→Nat→Prop) (w:World) (i:Nat) (v:Value) (w1 w2:World) (h:cpT es tm M w i v w1) (hb:Below w1.heap.size w1 w2) : cpT es tm M w i v w2:=by
 unfold cpT at h ⊢;split
 ·rename_i h2;rwa [if_pos h2] at h
 rename_i h2;rw [if_neg h2] at h;split
 ·rename_i h5;rw [if_pos h5] at h;exact h.later hb
 rename_i h5;rw [if_neg h5] at h;split
 ·rename_i h6;rw [if_pos h6] at h;obtain ⟨v5,e,h⟩:=h;exact ⟨v5,e,h.later hb⟩
 ·rename_i h6;rw [if_neg h6] at h;obtain ⟨b,e,h1,h3⟩:=h;exact ⟨b,e,h1,(hb.block b (Array.getElem?_eq_some_iff.1 h3).1).trans h3⟩
theorem OF (x:Tk) : (Tk.av x).length=3∧∀ c∈Tk.av x,∃ u,c = .lit u∧u.oneCell'=true:=by
 refine ⟨rfl,fun c hc=>?_⟩;simp only [Tk.av,List.mem_cons,List.not_mem_nil,or_false] at hc;rcases hc with rfl|rfl|rfl<;>exact ⟨_,rfl,rfl⟩
def kl (s:St) (k:Nat) : List (List AV):=(bL (s.q.take k)).map fun l=>[AV.sl 1 l]
theorem OG {s:St} {k:Nat} (h:k < s.q.length) : kl s (k+1)=kl s k++[[.sl 1 ((qat s.q k).map bK)]]:=by
 unfold kl bL;rw [lL h,List.map_append,List.map_append,ft h];rfl
theorem OH {s:St} {k:Nat} (h:k≤s.q.length) : (kl s k).length=k:=by
 unfold kl bL;rw [List.length_map,List.length_map,List.length_take];omega
@[go_sem] theorem Sq (s:St) : kl s 0=[]:=rfl
theorem OI (s:St) : kl s s.q.length=(bL s.q).map fun l=>[AV.sl 1 l]:=by
 unfold kl;rw [List.take_length]
def woN (l:List ByteArray) (s:ByteArray) (k:Nat) : List ByteArray:=woT (l.take k) s
theorem OJ {l:List ByteArray} {s:ByteArray} {k:Nat} (h:k < l.length) : woN l s (k+1)=if l[k]=s then woN l s k else woN l s k++[l[k]]:=by
 unfold woN woT;rw [lL h,List.filter_append];by_cases e:l[k]=s
 ·simp [e]
 ·simp [e]
theorem OK (l:List ByteArray) (s:ByteArray) (k:Nat) : (woN l s k).length≤k:=by
 unfold woN woT;exact Nat.le_trans (List.length_filter_le _ _) (by simp;omega)
theorem OL (l:List ByteArray) (s:ByteArray) : woN l s l.length=woT l s:=by
 unfold woN;rw [List.take_length]
def wkN (l:List Tk) (s:ByteArray) (k:Nat) : List Tk:=woK (l.take k) s
theorem OM {l:List Tk} {s:ByteArray} {k:Nat} (h:k < l.length) : wkN l s (k+1)=if (aS l k).car=s then wkN l s k else wkN l s k++[aS l k]:=by
 rw [gS h];unfold wkN woK;rw [lL h,List.filter_append];by_cases e:l[k].car=s
 ·simp [e]
 ·simp [e]
theorem ON (l:List Tk) (s:ByteArray) (k:Nat) : (wkN l s k).length≤k:=by
 unfold wkN woK;exact Nat.le_trans (List.length_filter_le _ _) (by simp;omega)
theorem OO (l:List Tk) (s:ByteArray) : wkN l s l.length=woK l s:=by
 unfold wkN;rw [List.take_length]
theorem OP (l:List ByteArray) : ∀ (k:Nat) (x:List AV),(l.map bK)[k]? = some x→x.length=1∧∀ c∈x,cN c=true:=fun k x hx=>by
 obtain ⟨y,hy,rfl⟩:=ec hx;exact ⟨rfl,by simp [bK,cN,Value.oneCell']⟩
theorem OQ (l:List Tk) : ∀ (k:Nat) (x:List AV),(l.map Tk.av)[k]? = some x→x.length=3∧∀ c∈x,cN c=true:=fun k x hx=>by
 obtain ⟨y,hy,rfl⟩:=ec hx;exact ⟨rfl,by simp [Tk.av,cN,Value.oneCell']⟩
theorem OR (l:List ByteArray) (s:ByteArray) (hl:l.length≤1000000) : VCo Tryz.prog 132 [gG l,S s] 9 1 (decide (woT l s=[])) ((woT l s).map bK):=by
 rw [←OL];have e0:woN l s 0=[]:=rfl;refine u9 Tryz.func132 rfl (by kernel_rfl) (by kernel_rfl) rfl Tryz.results132 (by decide) (OP _) fun M0 w0=>?_;simp only [Tryz.ntmps132,aF];repeat' with_reducible first|apply af|apply ae|apply aB|apply aa|refine ah [5] ?_|(apply ab;intro X Y;go_simp;apply Y;clear Y X)
 apply kQ [0,1] (fun k=>[(6,I k),(5,.osl 0)]) (fun k=>([some (.arr 9 1 (decide (woN l s k=[])) ((woN l s k).map bK))] : Hp))  (l.length)
 ·go_simp<;>exact rfl
 ·go_simp
 ·intro k hk K hK;obtain ⟨w1,w2,w3,w4,w5,w6⟩:=ixs (m:=k) (by omega);have hs:=OJ (s:=s) hk;have hb:(woN l s k).length+1≤1000000000:=by have:=OK l s k;omega
  clear e0;by_cases e:l[k]=s
  ·rw [if_pos e] at hs;have HS:=Lib.hid hs;clear hs;repeat' with_reducible first|apply af|apply ae|apply au|apply aB|apply bp|apply aa|refine ah [] ?_|(apply aw;·go_simp)|(apply ar;·go_simp)|(apply ab;intro X Y;go_simp;apply Y;clear Y X)
   refine hK _ ?_;rw [HS.out];go_simp
  ·rw [if_neg e] at hs;have HS:=Lib.hid hs;clear hs;repeat' with_reducible first|apply af|apply ae|apply au|apply aB|apply bp|apply aa|refine ah [] ?_|(apply aw;·go_simp)|(apply ab;intro X Y;go_simp;apply Y;clear Y X)
   refine hK _ ?_;rw [HS.out];go_simp
 ·intro K;clear e0;repeat' with_reducible first|apply af|apply ae|apply bP|apply ax|apply bQ|apply bT|apply aa|refine ah [] ?_|(apply ar;·go_simp)|(apply ab;intro X Y;go_simp;apply Y;clear Y X)
  exact ⟨0,rfl,rfl⟩
theorem OS (l:List Tk) (s:ByteArray) (hl:l.length≤1000000) : VCo Tryz.prog 131 [.sl 3 (l.map Tk.av),S s] 148 3 (decide (woK l s=[])) ((woK l s).map Tk.av):=by
 rw [←OO];have e0:wkN l s 0=[]:=rfl;refine u9 Tryz.func131 rfl (by kernel_rfl) (by kernel_rfl) rfl Tryz.results131 (by decide) (OQ _) fun M0 w0=>?_;simp only [Tryz.ntmps131,aF];repeat' with_reducible first|apply af|apply ae|apply aB|apply aa|refine ah [5] ?_|(apply ab;intro X Y;go_simp;apply Y;clear Y X)
 apply kQ [0,1] (fun k=>[(6,I k),(5,.osl 0)]) (fun k=>([some (.arr 148 3 (decide (wkN l s k=[])) ((wkN l s k).map Tk.av))] : Hp))  (l.length)
 ·go_simp<;>exact rfl
 ·go_simp
 ·intro k hk K hK;obtain ⟨w1,w2,w3,w4,w5,w6⟩:=ixs (m:=k) (by omega);have hs:=OM (s:=s) hk;have hb:(wkN l s k).length+1≤1000000000:=by have:=ON l s k;omega
  clear e0;by_cases e:(aS l k).car=s
  ·rw [if_pos e] at hs;have HS:=Lib.hid hs;clear hs;repeat' with_reducible first|apply af|apply ae|apply au|apply aB|apply bp|apply aa|refine ah [] ?_|(apply aw;·go_simp)|(apply ar;·go_simp)|(apply ab;intro X Y;go_simp;apply Y;clear Y X)
   refine hK _ ?_;rw [HS.out];go_simp
  ·rw [if_neg e] at hs;have HS:=Lib.hid hs;clear hs;repeat' with_reducible first|apply af|apply ae|apply au|apply aB|apply bp|apply aa|refine ah [] ?_|(apply aw;·go_simp)|(apply ab;intro X Y;go_simp;apply Y;clear Y X)
   refine hK _ ?_;rw [HS.out];go_simp
 ·intro K;clear e0;repeat' with_reducible first|apply af|apply ae|apply bP|apply ax|apply bQ|apply bT|apply aa|refine ah [] ?_|(apply ar;·go_simp)|(apply ab;intro X Y;go_simp;apply Y;clear Y X)
  exact ⟨0,rfl,rfl⟩
theorem CR (l:List ByteArray) (s:ByteArray) (hl:l.length≤1000000) : VC Tryz.prog 132 [gG l,S s] (gG (woT l s)):=zm (OR l s hl)
theorem H8 (l:List Tk) (s:ByteArray) (hl:l.length≤1000000) : VC Tryz.prog 131 [.sl 3 (l.map Tk.av),S s] (.sl 3 ((woK l s).map Tk.av)):=zm (OS l s hl)
theorem OT (r:Ru) (s:St) (tm:Int) (k:Nat) (car:ByteArray) (hk:k < s.q.length) (hr:r.ranks.length=s.q.length) (hf:kt r s.q.length) (ie:s.q.length≤1000000) (dJ:∀ k,k < s.q.length→(qat s.q k).length≤1000000) (_htl:s.tk.length≤1000000) : VC Tryz.prog 67 [cY r,cT s,.agg [I 0,I tm,I (k:Int),S car]] (I (fst [unl (decide (s.time≤tm)) 9,doE r s ⟨0,tm,(k:Int),car⟩ k])):=by
 have cA:k < r.ranks.length:=by omega
 have fV:=hf k hk;clear hf;by_cases ht:s.time≤tm
 ·have jl:¬tm < s.time:=by omega
  have g:=NQ s car ie dJ;by_cases gq:0≤eb s.q car
  ·rw [show fst [unl (decide (s.time≤tm)) 9,doE r s ⟨0,tm,(k:Int),car⟩ k]=5 by simp [doE,iT,fst,unl,gq,ht]];generalize eb s.q car=SK at *;generalize pk s.q car=FP at *;refine aP Tryz.func67 rfl (by kernel_rfl) rfl fun M0 w0=>?_;simp only [Tryz.ntmps67,Tryz.results67,aF];repeat' with_reducible first|apply af|apply ae|apply au|apply aa|refine ah [] ?_|(apply ar;·go_simp)|(apply ab;intro X Y;go_simp;apply Y;clear Y X)
   refine fR 14 [] [⟨12,8,[.string ⟨#[]⟩,.int .i64 0,.int .i64 0,.bool false],none,[]⟩] (by kernel_rfl) (by go_simp) ?_;simp only [az];repeat (first|(refine fc rfl ?_)|((with_reducible refine fe rfl fun X Y=>?_);go_simp;refine Y _ (by go_simp) ?_;clear Y X)|(with_reducible apply ff))
   refine ⟨by go_simp,?_⟩;simp only [dV,eh,Slot.end_,List.cons_append,List.nil_append];repeat' with_reducible first|apply af|apply ae|apply aZ|apply ax|apply aB|apply cX|apply aa|refine ah [] ?_|(apply aw;·go_simp)|(apply ab;intro X Y;go_simp;(first|(refine ⟨_,g,?_⟩)|skip);apply Y;clear Y X)
   go_simp
  by_cases h1:(rat r.ranks k).feeder = -1
  ·clear fV;by_cases aW:((qat s.q k).length:Int) < (rat r.ranks k).places
   ·have sF:¬(rat r.ranks k).places≤(qat s.q k).length:=by omega
    rw [show fst [unl (decide (s.time≤tm)) 9,doE r s ⟨0,tm,(k:Int),car⟩ k]=0 by simp [doE,iT,iL,ch,feedN,fst,unl,gq,h1,aW,ht]];generalize eb s.q car=SK at *;generalize pk s.q car=FP at *;refine aP Tryz.func67 rfl (by kernel_rfl) rfl fun M0 w0=>?_;simp only [Tryz.ntmps67,Tryz.results67,aF];repeat' with_reducible first|apply af|apply ae|apply au|apply aa|refine ah [] ?_|(apply ar;·go_simp)|(apply ab;intro X Y;go_simp;apply Y;clear Y X)
    refine fR 14 [] [⟨12,8,[.string ⟨#[]⟩,.int .i64 0,.int .i64 0,.bool false],none,[]⟩] (by kernel_rfl) (by go_simp) ?_;simp only [az];repeat (first|(refine fc rfl ?_)|((with_reducible refine fe rfl fun X Y=>?_);go_simp;refine Y _ (by go_simp) ?_;clear Y X)|(with_reducible apply ff))
    refine ⟨by go_simp,?_⟩;simp only [dV,eh,Slot.end_,List.cons_append,List.nil_append];repeat' with_reducible first|apply af|apply ae|apply ax|apply au|apply aB|apply bp|apply aa|refine ah [] ?_|(apply aw;·go_simp)|(apply ar;·go_simp)|(apply ab;intro X Y;go_simp;(first|(refine ⟨_,g,?_⟩)|skip);apply Y;clear Y X)
    go_simp
   ·have sF:(rat r.ranks k).places≤(qat s.q k).length:=by omega
    rw [show fst [unl (decide (s.time≤tm)) 9,doE r s ⟨0,tm,(k:Int),car⟩ k]=16 by simp [doE,iT,iL,ch,feedN,fst,unl,gq,h1,aW,ht]];generalize eb s.q car=SK at *;generalize pk s.q car=FP at *;refine aP Tryz.func67 rfl (by kernel_rfl) rfl fun M0 w0=>?_;simp only [Tryz.ntmps67,Tryz.results67,aF];repeat' with_reducible first|apply af|apply ae|apply au|apply aa|refine ah [] ?_|(apply ar;·go_simp)|(apply ab;intro X Y;go_simp;apply Y;clear Y X)
    refine fR 14 [] [⟨12,8,[.string ⟨#[]⟩,.int .i64 0,.int .i64 0,.bool false],none,[]⟩] (by kernel_rfl) (by go_simp) ?_;simp only [az];repeat (first|(refine fc rfl ?_)|((with_reducible refine fe rfl fun X Y=>?_);go_simp;refine Y _ (by go_simp) ?_;clear Y X)|(with_reducible apply ff))
    refine ⟨by go_simp,?_⟩;simp only [dV,eh,Slot.end_,List.cons_append,List.nil_append];repeat' with_reducible first|apply af|apply ae|apply aZ|apply ax|apply au|apply aB|apply cX|apply aa|refine ah [] ?_|(apply aw;·go_simp)|(apply ar;·go_simp)|(apply ab;intro X Y;go_simp;(first|(refine ⟨_,g,?_⟩)|skip);apply Y;clear Y X)
    go_simp
  obtain ⟨f0,fl⟩:=fV h1;clear fV;obtain ⟨f,iz⟩ : ∃ f:Nat,(rat r.ranks k).feeder=f:=⟨(rat r.ranks k).feeder.toNat,by omega⟩
  rw [iz] at fl h1;simp only [Int.toNat_natCast] at fl;clear f0;by_cases h4:0 < (qat s.q f).length
  ·have h5:¬qat s.q f=[]:=fun h=>by rw [h] at h4;simp at h4
   rw [show fst [unl (decide (s.time≤tm)) 9,doE r s ⟨0,tm,(k:Int),car⟩ k]=13 by simp [doE,iT,iL,feedN,fst,unl,gq,h1,iz,h4,ht]];generalize eb s.q car=SK at *;generalize pk s.q car=FP at *;refine aP Tryz.func67 rfl (by kernel_rfl) rfl fun M0 w0=>?_;simp only [Tryz.ntmps67,Tryz.results67,aF];repeat' with_reducible first|apply af|apply ae|apply au|apply aa|refine ah [] ?_|(apply ar;·go_simp)|(apply ab;intro X Y;go_simp;apply Y;clear Y X)
   refine fR 14 [] [⟨12,8,[.string ⟨#[]⟩,.int .i64 0,.int .i64 0,.bool false],none,[]⟩] (by kernel_rfl) (by go_simp) ?_;simp only [az];repeat (first|(refine fc rfl ?_)|((with_reducible refine fe rfl fun X Y=>?_);go_simp;refine Y _ (by go_simp) ?_;clear Y X)|(with_reducible apply ff))
   refine ⟨by go_simp,?_⟩;simp only [dV,eh,Slot.end_,List.cons_append,List.nil_append];repeat' with_reducible first|apply af|apply ae|apply aZ|apply ax|apply au|apply aB|apply cX|apply aa|refine ah [] ?_|(apply aw;·go_simp)|(apply ar;·go_simp)|(apply ab;intro X Y;go_simp;(first|(refine ⟨_,g,?_⟩)|skip);apply Y;clear Y X)
   go_simp
  ·have h5:qat s.q f=[]:=List.eq_nil_of_length_eq_zero (by omega);by_cases aW:((qat s.q k).length:Int) < (rat r.ranks k).places
   ·have sF:¬(rat r.ranks k).places≤(qat s.q k).length:=by omega
    rw [show fst [unl (decide (s.time≤tm)) 9,doE r s ⟨0,tm,(k:Int),car⟩ k]=0 by simp [doE,iT,iL,ch,feedN,fst,unl,gq,h1,iz,h5,aW,ht]];generalize eb s.q car=SK at *;generalize pk s.q car=FP at *;refine aP Tryz.func67 rfl (by kernel_rfl) rfl fun M0 w0=>?_;simp only [Tryz.ntmps67,Tryz.results67,aF];repeat' with_reducible first|apply af|apply ae|apply au|apply aa|refine ah [] ?_|(apply ar;·go_simp)|(apply ab;intro X Y;go_simp;apply Y;clear Y X)
    refine fR 14 [] [⟨12,8,[.string ⟨#[]⟩,.int .i64 0,.int .i64 0,.bool false],none,[]⟩] (by kernel_rfl) (by go_simp) ?_;simp only [az];repeat (first|(refine fc rfl ?_)|((with_reducible refine fe rfl fun X Y=>?_);go_simp;refine Y _ (by go_simp) ?_;clear Y X)|(with_reducible apply ff))
    refine ⟨by go_simp,?_⟩;simp only [dV,eh,Slot.end_,List.cons_append,List.nil_append];repeat' with_reducible first|apply af|apply ae|apply ax|apply au|apply aB|apply bp|apply aa|refine ah [] ?_|(apply aw;·go_simp)|(apply ar;·go_simp)|(apply ab;intro X Y;go_simp;(first|(refine ⟨_,g,?_⟩)|skip);apply Y;clear Y X)
    go_simp
   ·have sF:(rat r.ranks k).places≤(qat s.q k).length:=by omega
    rw [show fst [unl (decide (s.time≤tm)) 9,doE r s ⟨0,tm,(k:Int),car⟩ k]=16 by simp [doE,iT,iL,ch,feedN,fst,unl,gq,h1,iz,h5,aW,ht]];generalize eb s.q car=SK at *;generalize pk s.q car=FP at *;refine aP Tryz.func67 rfl (by kernel_rfl) rfl fun M0 w0=>?_;simp only [Tryz.ntmps67,Tryz.results67,aF];repeat' with_reducible first|apply af|apply ae|apply au|apply aa|refine ah [] ?_|(apply ar;·go_simp)|(apply ab;intro X Y;go_simp;apply Y;clear Y X)
    refine fR 14 [] [⟨12,8,[.string ⟨#[]⟩,.int .i64 0,.int .i64 0,.bool false],none,[]⟩] (by kernel_rfl) (by go_simp) ?_;simp only [az];repeat (first|(refine fc rfl ?_)|((with_reducible refine fe rfl fun X Y=>?_);go_simp;refine Y _ (by go_simp) ?_;clear Y X)|(with_reducible apply ff))
    refine ⟨by go_simp,?_⟩;simp only [dV,eh,Slot.end_,List.cons_append,List.nil_append];repeat' with_reducible first|apply af|apply ae|apply aZ|apply ax|apply au|apply aB|apply cX|apply aa|refine ah [] ?_|(apply aw;·go_simp)|(apply ar;·go_simp)|(apply ab;intro X Y;go_simp;(first|(refine ⟨_,g,?_⟩)|skip);apply Y;clear Y X)
    go_simp
 ·have jl:tm < s.time:=by omega
  rw [show fst [unl (decide (s.time≤tm)) 9,doE r s ⟨0,tm,(k:Int),car⟩ k]=9 by simp [fst,unl,ht]];refine aP Tryz.func67 rfl (by kernel_rfl) rfl fun M0 w0=>?_;simp only [Tryz.ntmps67,Tryz.results67,aF];repeat' with_reducible first|apply af|apply ae|apply aZ|apply ax|apply aa|refine ah [] ?_|(apply aw;·go_simp)|(apply ab;intro X Y;go_simp;apply Y;clear Y X)
  go_simp
theorem OU (r:Ru) (s:St) (tm:Int) (k:Nat) (car:ByteArray) (hk:k < s.q.length) (hr:r.ranks.length=s.q.length) (hf:kt r s.q.length) (_hql:s.q.length≤1000000) (_hqs:∀ k,k < s.q.length→(qat s.q k).length≤1000000) (vz:s.tk.length≤1000000) : VC Tryz.prog 67 [cY r,cT s,.agg [I 1,I tm,I (k:Int),S car]] (I (fst [unl (decide (s.time≤tm)) 9,doE r s ⟨1,tm,(k:Int),car⟩ k])):=by
 have cA:k < r.ranks.length:=by omega
 have fV:=hf k hk;clear hf;by_cases ht:s.time≤tm
 ·have jl:¬tm < s.time:=by omega
  clear fV;by_cases kY:(qat s.q k).length=0
  ·have pn:qat s.q k=[]:=List.eq_nil_of_length_eq_zero kY;rw [show fst [unl (decide (s.time≤tm)) 9,doE r s ⟨1,tm,(k:Int),car⟩ k]=12 by simp [doE,kX,gT,fst,unl,pn,ht]];refine aP Tryz.func67 rfl (by kernel_rfl) rfl fun M0 w0=>?_;simp only [Tryz.ntmps67,Tryz.results67,aF];repeat' with_reducible first|apply af|apply ae|apply au|apply aa|refine ah [] ?_|(apply ar;·go_simp)|(apply ab;intro X Y;go_simp;apply Y;clear Y X)
   refine fR 14 [] [⟨12,8,[.string ⟨#[]⟩,.int .i64 0,.int .i64 0,.bool false],none,[]⟩] (by kernel_rfl) (by go_simp) ?_;simp only [az];repeat (first|(refine fc rfl ?_)|((with_reducible refine fe rfl fun X Y=>?_);go_simp;refine Y _ (by go_simp) ?_;clear Y X)|(with_reducible apply ff))
   refine ⟨by go_simp,?_⟩;simp only [dV,eh,Slot.end_,List.cons_append,List.nil_append];repeat' with_reducible first|apply af|apply ae|apply aZ|apply ax|apply au|apply aB|apply cX|apply aa|refine ah [] ?_|(apply aw;·go_simp)|(apply ar;·go_simp)|(apply ab;intro X Y;go_simp;apply Y;clear Y X)
   go_simp
  have pn:¬qat s.q k=[]:=fun h=>by rw [h] at kY;simp at kY
  have CS:0 < (qat s.q k).length:=by omega
  have e0:(qat s.q k)[0]=tat (qat s.q k) 0:=(dp CS).symm;by_cases hh:tat (qat s.q k) 0=car
  ·by_cases tF:(s.tk.length:Int) < 40
   ·have OV:¬40≤(s.tk.length:Int):=by omega
    rw [show fst [unl (decide (s.time≤tm)) 9,doE r s ⟨1,tm,(k:Int),car⟩ k]=0 by simp [doE,kX,gT,fst,unl,kY,hh,tF,ht]];refine aP Tryz.func67 rfl (by kernel_rfl) rfl fun M0 w0=>?_;simp only [Tryz.ntmps67,Tryz.results67,aF];repeat' with_reducible first|apply af|apply ae|apply au|apply aa|refine ah [] ?_|(apply ar;·go_simp)|(apply ab;intro X Y;go_simp;apply Y;clear Y X)
    refine fR 14 [] [⟨12,8,[.string ⟨#[]⟩,.int .i64 0,.int .i64 0,.bool false],none,[]⟩] (by kernel_rfl) (by go_simp) ?_;simp only [az];repeat (first|(refine fc rfl ?_)|((with_reducible refine fe rfl fun X Y=>?_);go_simp;refine Y _ (by go_simp) ?_;clear Y X)|(with_reducible apply ff))
    refine ⟨by go_simp,?_⟩;simp only [dV,eh,Slot.end_,List.cons_append,List.nil_append];repeat' first|(with_reducible first|apply af|apply ae|apply ax|apply au|apply aB|apply bp|apply aa|refine ah [] ?_|apply aT|(apply aw;·go_simp)|(apply ar;·go_simp)|((first|apply ab|apply aU);intro X Y;go_simp;apply Y;clear Y X))|((refine bc 6 6 [] rfl (by kernel_rfl) ?_);simp only [az])
    go_simp
   ·have OV:40≤(s.tk.length:Int):=by omega
    rw [show fst [unl (decide (s.time≤tm)) 9,doE r s ⟨1,tm,(k:Int),car⟩ k]=8 by simp [doE,kX,gT,fst,unl,kY,hh,tF,ht]];refine aP Tryz.func67 rfl (by kernel_rfl) rfl fun M0 w0=>?_;simp only [Tryz.ntmps67,Tryz.results67,aF];repeat' with_reducible first|apply af|apply ae|apply au|apply aa|refine ah [] ?_|(apply ar;·go_simp)|(apply ab;intro X Y;go_simp;apply Y;clear Y X)
    refine fR 14 [] [⟨12,8,[.string ⟨#[]⟩,.int .i64 0,.int .i64 0,.bool false],none,[]⟩] (by kernel_rfl) (by go_simp) ?_;simp only [az];repeat (first|(refine fc rfl ?_)|((with_reducible refine fe rfl fun X Y=>?_);go_simp;refine Y _ (by go_simp) ?_;clear Y X)|(with_reducible apply ff))
    refine ⟨by go_simp,?_⟩;simp only [dV,eh,Slot.end_,List.cons_append,List.nil_append];repeat' first|(with_reducible first|apply af|apply ae|apply aZ|apply ax|apply au|apply aB|apply cX|apply aa|refine ah [] ?_|apply aT|(apply aw;·go_simp)|(apply ar;·go_simp)|((first|apply ab|apply aU);intro X Y;go_simp;apply Y;clear Y X))|((refine bc 6 6 [] rfl (by kernel_rfl) ?_);simp only [az])
    go_simp
  ·rw [show fst [unl (decide (s.time≤tm)) 9,doE r s ⟨1,tm,(k:Int),car⟩ k]=13 by simp [doE,kX,gT,fst,unl,kY,hh,ht]];refine aP Tryz.func67 rfl (by kernel_rfl) rfl fun M0 w0=>?_;simp only [Tryz.ntmps67,Tryz.results67,aF];repeat' with_reducible first|apply af|apply ae|apply au|apply aa|refine ah [] ?_|(apply ar;·go_simp)|(apply ab;intro X Y;go_simp;apply Y;clear Y X)
   refine fR 14 [] [⟨12,8,[.string ⟨#[]⟩,.int .i64 0,.int .i64 0,.bool false],none,[]⟩] (by kernel_rfl) (by go_simp) ?_;simp only [az];repeat (first|(refine fc rfl ?_)|((with_reducible refine fe rfl fun X Y=>?_);go_simp;refine Y _ (by go_simp) ?_;clear Y X)|(with_reducible apply ff))
   refine ⟨by go_simp,?_⟩;simp only [dV,eh,Slot.end_,List.cons_append,List.nil_append];repeat' first|(with_reducible first|apply af|apply ae|apply aZ|apply ax|apply au|apply aB|apply cX|apply aa|refine ah [] ?_|apply aT|(apply aw;·go_simp)|(apply ar;·go_simp)|((first|apply ab|apply aU);intro X Y;go_simp;apply Y;clear Y X))|((refine bc 6 6 [] rfl (by kernel_rfl) ?_);simp only [az])
   go_simp
 ·have jl:tm < s.time:=by omega
  rw [show fst [unl (decide (s.time≤tm)) 9,doE r s ⟨1,tm,(k:Int),car⟩ k]=9 by simp [fst,unl,ht]];refine aP Tryz.func67 rfl (by kernel_rfl) rfl fun M0 w0=>?_;simp only [Tryz.ntmps67,Tryz.results67,aF];repeat' with_reducible first|apply af|apply ae|apply aZ|apply ax|apply aa|refine ah [] ?_|(apply aw;·go_simp)|(apply ab;intro X Y;go_simp;apply Y;clear Y X)
  go_simp
theorem OW (r:Ru) (s:St) (tm:Int) (k:Nat) (car:ByteArray) (hk:k < s.q.length) (hr:r.ranks.length=s.q.length) (hf:kt r s.q.length) (_hql:s.q.length≤1000000) (_hqs:∀ k,k < s.q.length→(qat s.q k).length≤1000000) (_htl:s.tk.length≤1000000) : VC Tryz.prog 67 [cY r,cT s,.agg [I 2,I tm,I (k:Int),S car]] (I (fst [unl (decide (s.time≤tm)) 9,doE r s ⟨2,tm,(k:Int),car⟩ k])):=by
 have cA:k < r.ranks.length:=by omega
 have fV:=hf k hk;clear hf;by_cases ht:s.time≤tm
 ·have jl:¬tm < s.time:=by omega
  clear fV;by_cases kY:(qat s.q k).length=0
  ·have pn:qat s.q k=[]:=List.eq_nil_of_length_eq_zero kY;rw [show fst [unl (decide (s.time≤tm)) 9,doE r s ⟨2,tm,(k:Int),car⟩ k]=12 by simp [doE,gT,fst,unl,pn,ht]];refine aP Tryz.func67 rfl (by kernel_rfl) rfl fun M0 w0=>?_;simp only [Tryz.ntmps67,Tryz.results67,aF];repeat' with_reducible first|apply af|apply ae|apply au|apply aa|refine ah [] ?_|(apply ar;·go_simp)|(apply ab;intro X Y;go_simp;apply Y;clear Y X)
   refine fR 14 [] [⟨12,8,[.string ⟨#[]⟩,.int .i64 0,.int .i64 0,.bool false],none,[]⟩] (by kernel_rfl) (by go_simp) ?_;simp only [az];repeat (first|(refine fc rfl ?_)|((with_reducible refine fe rfl fun X Y=>?_);go_simp;refine Y _ (by go_simp) ?_;clear Y X)|(with_reducible apply ff))
   refine ⟨by go_simp,?_⟩;simp only [dV,eh,Slot.end_,List.cons_append,List.nil_append];repeat' with_reducible first|apply af|apply ae|apply aZ|apply ax|apply aB|apply cX|apply aa|refine ah [] ?_|(apply aw;·go_simp)|(apply ar;·go_simp)|(apply ab;intro X Y;go_simp;apply Y;clear Y X)
   go_simp
  have pn:¬qat s.q k=[]:=fun h=>by rw [h] at kY;simp at kY
  have CS:0 < (qat s.q k).length:=by omega
  have e0:(qat s.q k)[0]=tat (qat s.q k) 0:=(dp CS).symm;by_cases hh:tat (qat s.q k) 0=car
  ·rw [show fst [unl (decide (s.time≤tm)) 9,doE r s ⟨2,tm,(k:Int),car⟩ k]=0 by simp [doE,gT,fst,unl,kY,hh,ht]];refine aP Tryz.func67 rfl (by kernel_rfl) rfl fun M0 w0=>?_;simp only [Tryz.ntmps67,Tryz.results67,aF];repeat' with_reducible first|apply af|apply ae|apply au|apply aa|refine ah [] ?_|(apply ar;·go_simp)|(apply ab;intro X Y;go_simp;apply Y;clear Y X)
   refine fR 14 [] [⟨12,8,[.string ⟨#[]⟩,.int .i64 0,.int .i64 0,.bool false],none,[]⟩] (by kernel_rfl) (by go_simp) ?_;simp only [az];repeat (first|(refine fc rfl ?_)|((with_reducible refine fe rfl fun X Y=>?_);go_simp;refine Y _ (by go_simp) ?_;clear Y X)|(with_reducible apply ff))
   refine ⟨by go_simp,?_⟩;simp only [dV,eh,Slot.end_,List.cons_append,List.nil_append];repeat' first|(with_reducible first|apply af|apply ae|apply ax|apply au|apply aB|apply bp|apply aa|refine ah [] ?_|apply aT|(apply aw;·go_simp)|(apply ar;·go_simp)|((first|apply ab|apply aU);intro X Y;go_simp;apply Y;clear Y X))|((refine bc 6 6 [] rfl (by kernel_rfl) ?_);simp only [az])
   go_simp
  ·rw [show fst [unl (decide (s.time≤tm)) 9,doE r s ⟨2,tm,(k:Int),car⟩ k]=13 by simp [doE,gT,fst,unl,kY,hh,ht]];refine aP Tryz.func67 rfl (by kernel_rfl) rfl fun M0 w0=>?_;simp only [Tryz.ntmps67,Tryz.results67,aF];repeat' with_reducible first|apply af|apply ae|apply au|apply aa|refine ah [] ?_|(apply ar;·go_simp)|(apply ab;intro X Y;go_simp;apply Y;clear Y X)
   refine fR 14 [] [⟨12,8,[.string ⟨#[]⟩,.int .i64 0,.int .i64 0,.bool false],none,[]⟩] (by kernel_rfl) (by go_simp) ?_;simp only [az];repeat (first|(refine fc rfl ?_)|((with_reducible refine fe rfl fun X Y=>?_);go_simp;refine Y _ (by go_simp) ?_;clear Y X)|(with_reducible apply ff))
   refine ⟨by go_simp,?_⟩;simp only [dV,eh,Slot.end_,List.cons_append,List.nil_append];repeat' first|(with_reducible first|apply af|apply ae|apply aZ|apply ax|apply au|apply aB|apply cX|apply aa|refine ah [] ?_|apply aT|(apply aw;·go_simp)|(apply ar;·go_simp)|((first|apply ab|apply aU);intro X Y;go_simp;apply Y;clear Y X))|((refine bc 6 6 [] rfl (by kernel_rfl) ?_);simp only [az])
   go_simp
 ·have jl:tm < s.time:=by omega
  rw [show fst [unl (decide (s.time≤tm)) 9,doE r s ⟨2,tm,(k:Int),car⟩ k]=9 by simp [fst,unl,ht]];refine aP Tryz.func67 rfl (by kernel_rfl) rfl fun M0 w0=>?_;simp only [Tryz.ntmps67,Tryz.results67,aF];repeat' with_reducible first|apply af|apply ae|apply aZ|apply ax|apply aa|refine ah [] ?_|(apply aw;·go_simp)|(apply ab;intro X Y;go_simp;apply Y;clear Y X)
  go_simp
theorem OX (r:Ru) (s:St) (tm:Int) (k:Nat) (car:ByteArray) (hk:k < s.q.length) (hr:r.ranks.length=s.q.length) (hf:kt r s.q.length) (_hql:s.q.length≤1000000) (dJ:∀ k,k < s.q.length→(qat s.q k).length≤1000000) (_htl:s.tk.length≤1000000) : VC Tryz.prog 67 [cY r,cT s,.agg [I 3,I tm,I (k:Int),S car]] (I (fst [unl (decide (s.time≤tm)) 9,doE r s ⟨3,tm,(k:Int),car⟩ k])):=by
 have cA:k < r.ranks.length:=by omega
 have fV:=hf k hk;clear hf;by_cases ht:s.time≤tm
 ·have jl:¬tm < s.time:=by omega
  clear fV;have g:=NA (qat s.q k) car (dJ k hk);have iJ:fU (isT (qat s.q k) car) 0 (qat s.q k).length=decide (0≤fH (qat s.q k) car):=(vC _ _).symm;rw [iJ] at g;by_cases hi:fH (qat s.q k) car < 0
  ·have bM:¬0≤fH (qat s.q k) car:=by omega
   rw [decide_eq_false bM] at g;rw [show fst [unl (decide (s.time≤tm)) 9,doE r s ⟨3,tm,(k:Int),car⟩ k]=6 by simp [doE,tB,fst,unl,hi,ht]];refine aP Tryz.func67 rfl (by kernel_rfl) rfl fun M0 w0=>?_;simp only [Tryz.ntmps67,Tryz.results67,aF];repeat' with_reducible first|apply af|apply ae|apply au|apply aa|refine ah [] ?_|(apply ar;·go_simp)|(apply ab;intro X Y;go_simp;apply Y;clear Y X)
   refine fR 14 [] [⟨12,8,[.string ⟨#[]⟩,.int .i64 0,.int .i64 0,.bool false],none,[]⟩] (by kernel_rfl) (by go_simp) ?_;simp only [az];repeat (first|(refine fc rfl ?_)|((with_reducible refine fe rfl fun X Y=>?_);go_simp;refine Y _ (by go_simp) ?_;clear Y X)|(with_reducible apply ff))
   refine ⟨by go_simp,?_⟩;simp only [dV,eh,Slot.end_,List.cons_append,List.nil_append];repeat' with_reducible first|apply af|apply ae|apply aZ|apply ax|apply aB|apply cX|apply aa|refine ah [] ?_|(apply aw;·go_simp)|(apply ar;·go_simp)|(apply ab;intro X Y;go_simp;(first|(refine ⟨_,g,?_⟩)|skip);apply Y;clear Y X)
   go_simp
  ·have bM:0≤fH (qat s.q k) car:=by omega
   rw [decide_eq_true bM] at g;rw [show fst [unl (decide (s.time≤tm)) 9,doE r s ⟨3,tm,(k:Int),car⟩ k]=0 by simp [doE,tB,fst,unl,hi,ht]];refine aP Tryz.func67 rfl (by kernel_rfl) rfl fun M0 w0=>?_;simp only [Tryz.ntmps67,Tryz.results67,aF];repeat' with_reducible first|apply af|apply ae|apply au|apply aa|refine ah [] ?_|(apply ar;·go_simp)|(apply ab;intro X Y;go_simp;apply Y;clear Y X)
   refine fR 14 [] [⟨12,8,[.string ⟨#[]⟩,.int .i64 0,.int .i64 0,.bool false],none,[]⟩] (by kernel_rfl) (by go_simp) ?_;simp only [az];repeat (first|(refine fc rfl ?_)|((with_reducible refine fe rfl fun X Y=>?_);go_simp;refine Y _ (by go_simp) ?_;clear Y X)|(with_reducible apply ff))
   refine ⟨by go_simp,?_⟩;simp only [dV,eh,Slot.end_,List.cons_append,List.nil_append];repeat' with_reducible first|apply af|apply ae|apply ax|apply au|apply aB|apply bp|apply aa|refine ah [] ?_|(apply aw;·go_simp)|(apply ar;·go_simp)|(apply ab;intro X Y;go_simp;(first|(refine ⟨_,g,?_⟩)|skip);apply Y;clear Y X)
   go_simp
 ·have jl:tm < s.time:=by omega
  rw [show fst [unl (decide (s.time≤tm)) 9,doE r s ⟨3,tm,(k:Int),car⟩ k]=9 by simp [fst,unl,ht]];refine aP Tryz.func67 rfl (by kernel_rfl) rfl fun M0 w0=>?_;simp only [Tryz.ntmps67,Tryz.results67,aF];repeat' with_reducible first|apply af|apply ae|apply aZ|apply ax|apply aa|refine ah [] ?_|(apply aw;·go_simp)|(apply ab;intro X Y;go_simp;apply Y;clear Y X)
  go_simp
theorem OY (r:Ru) (s:St) (tm:Int) (k:Nat) (car:ByteArray) (hk:k < s.q.length) (hr:r.ranks.length=s.q.length) (hf:kt r s.q.length) (_hql:s.q.length≤1000000) (_hqs:∀ k,k < s.q.length→(qat s.q k).length≤1000000) (_htl:s.tk.length≤1000000) : VC Tryz.prog 67 [cY r,cT s,.agg [I 4,I tm,I (k:Int),S car]] (I (fst [unl (decide (s.time≤tm)) 9,doE r s ⟨4,tm,(k:Int),car⟩ k])):=by
 have cA:k < r.ranks.length:=by omega
 have fV:=hf k hk;clear hf;by_cases ht:s.time≤tm
 ·have jl:¬tm < s.time:=by omega
  by_cases h1:(rat r.ranks k).feeder = -1
  ·clear fV;rw [show fst [unl (decide (s.time≤tm)) 9,doE r s ⟨4,tm,(k:Int),car⟩ k]=6 by simp [doE,jI,fst,unl,h1,ht]];refine aP Tryz.func67 rfl (by kernel_rfl) rfl fun M0 w0=>?_;simp only [Tryz.ntmps67,Tryz.results67,aF];repeat' with_reducible first|apply af|apply ae|apply au|apply aa|refine ah [] ?_|(apply ar;·go_simp)|(apply ab;intro X Y;go_simp;apply Y;clear Y X)
   refine fR 14 [] [⟨12,8,[.string ⟨#[]⟩,.int .i64 0,.int .i64 0,.bool false],none,[]⟩] (by kernel_rfl) (by go_simp) ?_;simp only [az];repeat (first|(refine fc rfl ?_)|((with_reducible refine fe rfl fun X Y=>?_);go_simp;refine Y _ (by go_simp) ?_;clear Y X)|(with_reducible apply ff))
   refine ⟨by go_simp,?_⟩;simp only [dV,eh,Slot.end_,List.cons_append,List.nil_append];repeat' with_reducible first|apply af|apply ae|apply aZ|apply ax|apply aB|apply cX|apply aa|refine ah [] ?_|(apply aw;·go_simp)|(apply ar;·go_simp)|(apply ab;intro X Y;go_simp;apply Y;clear Y X)
   go_simp
  obtain ⟨f0,fl⟩:=fV h1;clear fV;obtain ⟨f,iz⟩ : ∃ f:Nat,(rat r.ranks k).feeder=f:=⟨(rat r.ranks k).feeder.toNat,by omega⟩
  rw [iz] at fl h1;simp only [Int.toNat_natCast] at fl;clear f0;cases h2:(rat r.ranks k).called
  ·rw [show fst [unl (decide (s.time≤tm)) 9,doE r s ⟨4,tm,(k:Int),car⟩ k]=22 by simp [doE,jI,fst,unl,h1,h2,iz,ht]];refine aP Tryz.func67 rfl (by kernel_rfl) rfl fun M0 w0=>?_;simp only [Tryz.ntmps67,Tryz.results67,aF];repeat' with_reducible first|apply af|apply ae|apply au|apply aa|refine ah [] ?_|(apply ar;·go_simp)|(apply ab;intro X Y;go_simp;apply Y;clear Y X)
   refine fR 14 [] [⟨12,8,[.string ⟨#[]⟩,.int .i64 0,.int .i64 0,.bool false],none,[]⟩] (by kernel_rfl) (by go_simp) ?_;simp only [az];repeat (first|(refine fc rfl ?_)|((with_reducible refine fe rfl fun X Y=>?_);go_simp;refine Y _ (by go_simp) ?_;clear Y X)|(with_reducible apply ff))
   refine ⟨by go_simp,?_⟩;simp only [dV,eh,Slot.end_,List.cons_append,List.nil_append];repeat' with_reducible first|apply af|apply ae|apply aZ|apply ax|apply au|apply aB|apply cX|apply aa|refine ah [] ?_|(apply aw;·go_simp)|(apply ar;·go_simp)|(apply ab;intro X Y;go_simp;apply Y;clear Y X)
   go_simp
  by_cases h4:0 < (qat s.q f).length
  ·have h5:¬qat s.q f=[]:=fun h=>by rw [h] at h4;simp at h4
   by_cases aW:((qat s.q k).length:Int) < (rat r.ranks k).places
   ·have sF:¬(rat r.ranks k).places≤(qat s.q k).length:=by omega
    rw [show fst [unl (decide (s.time≤tm)) 9,doE r s ⟨4,tm,(k:Int),car⟩ k]=0 by simp [doE,jI,ch,feedN,fst,unl,h1,h2,iz,h4,aW,ht]];refine aP Tryz.func67 rfl (by kernel_rfl) rfl fun M0 w0=>?_;simp only [Tryz.ntmps67,Tryz.results67,aF];repeat' with_reducible first|apply af|apply ae|apply au|apply aa|refine ah [] ?_|(apply ar;·go_simp)|(apply ab;intro X Y;go_simp;apply Y;clear Y X)
    refine fR 14 [] [⟨12,8,[.string ⟨#[]⟩,.int .i64 0,.int .i64 0,.bool false],none,[]⟩] (by kernel_rfl) (by go_simp) ?_;simp only [az];repeat (first|(refine fc rfl ?_)|((with_reducible refine fe rfl fun X Y=>?_);go_simp;refine Y _ (by go_simp) ?_;clear Y X)|(with_reducible apply ff))
    refine ⟨by go_simp,?_⟩;simp only [dV,eh,Slot.end_,List.cons_append,List.nil_append];repeat' with_reducible first|apply af|apply ae|apply ax|apply au|apply aB|apply bp|apply aa|refine ah [] ?_|(apply aw;·go_simp)|(apply ar;·go_simp)|(apply ab;intro X Y;go_simp;apply Y;clear Y X)
    go_simp
   ·have sF:(rat r.ranks k).places≤(qat s.q k).length:=by omega
    rw [show fst [unl (decide (s.time≤tm)) 9,doE r s ⟨4,tm,(k:Int),car⟩ k]=16 by simp [doE,jI,ch,feedN,fst,unl,h1,h2,iz,h4,aW,ht]];refine aP Tryz.func67 rfl (by kernel_rfl) rfl fun M0 w0=>?_;simp only [Tryz.ntmps67,Tryz.results67,aF];repeat' with_reducible first|apply af|apply ae|apply au|apply aa|refine ah [] ?_|(apply ar;·go_simp)|(apply ab;intro X Y;go_simp;apply Y;clear Y X)
    refine fR 14 [] [⟨12,8,[.string ⟨#[]⟩,.int .i64 0,.int .i64 0,.bool false],none,[]⟩] (by kernel_rfl) (by go_simp) ?_;simp only [az];repeat (first|(refine fc rfl ?_)|((with_reducible refine fe rfl fun X Y=>?_);go_simp;refine Y _ (by go_simp) ?_;clear Y X)|(with_reducible apply ff))
    refine ⟨by go_simp,?_⟩;simp only [dV,eh,Slot.end_,List.cons_append,List.nil_append];repeat' with_reducible first|apply af|apply ae|apply aZ|apply ax|apply au|apply aB|apply cX|apply aa|refine ah [] ?_|(apply aw;·go_simp)|(apply ar;·go_simp)|(apply ab;intro X Y;go_simp;apply Y;clear Y X)
    go_simp
  ·have h5:qat s.q f=[]:=List.eq_nil_of_length_eq_zero (by omega);rw [show fst [unl (decide (s.time≤tm)) 9,doE r s ⟨4,tm,(k:Int),car⟩ k]=12 by simp [doE,jI,feedN,fst,unl,h1,h2,iz,h5,ht]];refine aP Tryz.func67 rfl (by kernel_rfl) rfl fun M0 w0=>?_;simp only [Tryz.ntmps67,Tryz.results67,aF];repeat' with_reducible first|apply af|apply ae|apply au|apply aa|refine ah [] ?_|(apply ar;·go_simp)|(apply ab;intro X Y;go_simp;apply Y;clear Y X)
   refine fR 14 [] [⟨12,8,[.string ⟨#[]⟩,.int .i64 0,.int .i64 0,.bool false],none,[]⟩] (by kernel_rfl) (by go_simp) ?_;simp only [az];repeat (first|(refine fc rfl ?_)|((with_reducible refine fe rfl fun X Y=>?_);go_simp;refine Y _ (by go_simp) ?_;clear Y X)|(with_reducible apply ff))
   refine ⟨by go_simp,?_⟩;simp only [dV,eh,Slot.end_,List.cons_append,List.nil_append];repeat' with_reducible first|apply af|apply ae|apply aZ|apply ax|apply au|apply aB|apply cX|apply aa|refine ah [] ?_|(apply aw;·go_simp)|(apply ar;·go_simp)|(apply ab;intro X Y;go_simp;apply Y;clear Y X)
   go_simp
 ·have jl:tm < s.time:=by omega
  rw [show fst [unl (decide (s.time≤tm)) 9,doE r s ⟨4,tm,(k:Int),car⟩ k]=9 by simp [fst,unl,ht]];refine aP Tryz.func67 rfl (by kernel_rfl) rfl fun M0 w0=>?_;simp only [Tryz.ntmps67,Tryz.results67,aF];repeat' with_reducible first|apply af|apply ae|apply aZ|apply ax|apply aa|refine ah [] ?_|(apply aw;·go_simp)|(apply ab;intro X Y;go_simp;apply Y;clear Y X)
  go_simp
theorem OZ (r:Ru) (s:St) (tm:Int) (k:Nat) (car:ByteArray) (hk:k < s.q.length) (hr:r.ranks.length=s.q.length) (hf:kt r s.q.length) (_hql:s.q.length≤1000000) (_hqs:∀ k,k < s.q.length→(qat s.q k).length≤1000000) (vz:s.tk.length≤1000000) (zw:∀ i,i < s.tk.length→IntKind.i64.wrap (tm - (aS s.tk i).time)=tm - (aS s.tk i).time) : VC Tryz.prog 67 [cY r,cT s,.agg [I 5,I tm,I (k:Int),S car]] (I (fst [unl (decide (s.time≤tm)) 9,doE r s ⟨5,tm,(k:Int),car⟩ k])):=by
 have cA:k < r.ranks.length:=by omega
 have fV:=hf k hk;clear hf;by_cases ht:s.time≤tm
 ·have jl:¬tm < s.time:=by omega
  clear fV;have g:=NS s car vz;by_cases hi:eK s.tk car < 0
  ·rw [show fst [unl (decide (s.time≤tm)) 9,doE r s ⟨5,tm,(k:Int),car⟩ k]=6 by simp [doE,nM,fst,unl,hi,ht]];refine aP Tryz.func67 rfl (by kernel_rfl) rfl fun M0 w0=>?_;simp only [Tryz.ntmps67,Tryz.results67,aF];repeat' with_reducible first|apply af|apply ae|apply au|apply aa|refine ah [] ?_|(apply ar;·go_simp)|(apply ab;intro X Y;go_simp;apply Y;clear Y X)
   refine fR 14 [] [⟨12,8,[.string ⟨#[]⟩,.int .i64 0,.int .i64 0,.bool false],none,[]⟩] (by kernel_rfl) (by go_simp) ?_;simp only [az];repeat (first|(refine fc rfl ?_)|((with_reducible refine fe rfl fun X Y=>?_);go_simp;refine Y _ (by go_simp) ?_;clear Y X)|(with_reducible apply ff))
   refine ⟨by go_simp,?_⟩;simp only [dV,eh,Slot.end_,List.cons_append,List.nil_append];repeat' first|(with_reducible first|apply af|apply ae|apply aZ|apply ax|apply aB|apply cX|apply aa|refine ah [] ?_|apply aT|(apply aw;·go_simp)|(apply ar;·go_simp)|((first|apply ab|apply aU);intro X Y;go_simp;(first|(refine ⟨_,g,?_⟩)|skip);apply Y;clear Y X))|((refine bc 13 13 [] rfl (by kernel_rfl) ?_);simp only [az])
   go_simp
  obtain ⟨i,ei,cz,_⟩:=tE (Classical.byContradiction fun hh=>hi (qD.2 hh));have zx:tD s ⟨5,tm,(k:Int),car⟩=aS s.tk i:=by unfold tD;rw [ei,Int.toNat_natCast]
  rw [ei] at g;have rY:¬(i:Int) < 0:=by omega
  by_cases tG:(aS s.tk i).rank=k
  ·have Sr:=zw i cz;by_cases ao:tm - (aS s.tk i).time≤r.ret
   ·have lj:¬r.ret < tm - (aS s.tk i).time:=by omega
    by_cases aW:((qat s.q k).length:Int) < (rat r.ranks k).places
    ·have sF:¬(rat r.ranks k).places≤(qat s.q k).length:=by omega
     rw [show fst [unl (decide (s.time≤tm)) 9,doE r s ⟨5,tm,(k:Int),car⟩ k]=0 by simp [doE,nM,ch,fst,unl,ei,rY,zx,tG,ao,aW,ht]];refine aP Tryz.func67 rfl (by kernel_rfl) rfl fun M0 w0=>?_;simp only [Tryz.ntmps67,Tryz.results67,aF];repeat' with_reducible first|apply af|apply ae|apply au|apply aa|refine ah [] ?_|(apply ar;·go_simp)|(apply ab;intro X Y;go_simp;apply Y;clear Y X)
     refine fR 14 [] [⟨12,8,[.string ⟨#[]⟩,.int .i64 0,.int .i64 0,.bool false],none,[]⟩] (by kernel_rfl) (by go_simp) ?_;simp only [az];repeat (first|(refine fc rfl ?_)|((with_reducible refine fe rfl fun X Y=>?_);go_simp;refine Y _ (by go_simp) ?_;clear Y X)|(with_reducible apply ff))
     refine ⟨by go_simp,?_⟩;simp only [dV,eh,Slot.end_,List.cons_append,List.nil_append];repeat' first|(with_reducible first|apply af|apply ae|apply ax|apply au|apply aB|apply bp|apply aa|refine ah [] ?_|apply aT|(apply aw;·go_simp)|(apply ar;·go_simp)|((first|apply ab|apply aU);intro X Y;go_simp;(first|(refine ⟨_,g,?_⟩)|skip);apply Y;clear Y X))|((refine bc 12 12 [] rfl (by kernel_rfl) ?_);simp only [az])|((refine bc 13 13 [] rfl (by kernel_rfl) ?_);simp only [az])
     go_simp
    ·have sF:(rat r.ranks k).places≤(qat s.q k).length:=by omega
     rw [show fst [unl (decide (s.time≤tm)) 9,doE r s ⟨5,tm,(k:Int),car⟩ k]=16 by simp [doE,nM,ch,fst,unl,ei,rY,zx,tG,ao,aW,ht]];refine aP Tryz.func67 rfl (by kernel_rfl) rfl fun M0 w0=>?_;simp only [Tryz.ntmps67,Tryz.results67,aF];repeat' with_reducible first|apply af|apply ae|apply au|apply aa|refine ah [] ?_|(apply ar;·go_simp)|(apply ab;intro X Y;go_simp;apply Y;clear Y X)
     refine fR 14 [] [⟨12,8,[.string ⟨#[]⟩,.int .i64 0,.int .i64 0,.bool false],none,[]⟩] (by kernel_rfl) (by go_simp) ?_;simp only [az];repeat (first|(refine fc rfl ?_)|((with_reducible refine fe rfl fun X Y=>?_);go_simp;refine Y _ (by go_simp) ?_;clear Y X)|(with_reducible apply ff))
     refine ⟨by go_simp,?_⟩;simp only [dV,eh,Slot.end_,List.cons_append,List.nil_append];repeat' first|(with_reducible first|apply af|apply ae|apply aZ|apply ax|apply au|apply aB|apply cX|apply aa|refine ah [] ?_|apply aT|(apply aw;·go_simp)|(apply ar;·go_simp)|((first|apply ab|apply aU);intro X Y;go_simp;(first|(refine ⟨_,g,?_⟩)|skip);apply Y;clear Y X))|((refine bc 12 12 [] rfl (by kernel_rfl) ?_);simp only [az])|((refine bc 13 13 [] rfl (by kernel_rfl) ?_);simp only [az])
     go_simp
   ·have lj:r.ret < tm - (aS s.tk i).time:=by omega
    rw [show fst [unl (decide (s.time≤tm)) 9,doE r s ⟨5,tm,(k:Int),car⟩ k]=25 by simp [doE,nM,fst,unl,ei,rY,zx,tG,ao,ht]];refine aP Tryz.func67 rfl (by kernel_rfl) rfl fun M0 w0=>?_;simp only [Tryz.ntmps67,Tryz.results67,aF];repeat' with_reducible first|apply af|apply ae|apply au|apply aa|refine ah [] ?_|(apply ar;·go_simp)|(apply ab;intro X Y;go_simp;apply Y;clear Y X)
    refine fR 14 [] [⟨12,8,[.string ⟨#[]⟩,.int .i64 0,.int .i64 0,.bool false],none,[]⟩] (by kernel_rfl) (by go_simp) ?_;simp only [az];repeat (first|(refine fc rfl ?_)|((with_reducible refine fe rfl fun X Y=>?_);go_simp;refine Y _ (by go_simp) ?_;clear Y X)|(with_reducible apply ff))
    refine ⟨by go_simp,?_⟩;simp only [dV,eh,Slot.end_,List.cons_append,List.nil_append];repeat' first|(with_reducible first|apply af|apply ae|apply aZ|apply ax|apply au|apply aB|apply cX|apply aa|refine ah [] ?_|apply aT|(apply aw;·go_simp)|(apply ar;·go_simp)|((first|apply ab|apply aU);intro X Y;go_simp;(first|(refine ⟨_,g,?_⟩)|skip);apply Y;clear Y X))|((refine bc 12 12 [] rfl (by kernel_rfl) ?_);simp only [az])|((refine bc 13 13 [] rfl (by kernel_rfl) ?_);simp only [az])
    go_simp
  ·rw [show fst [unl (decide (s.time≤tm)) 9,doE r s ⟨5,tm,(k:Int),car⟩ k]=6 by simp [doE,nM,fst,unl,ei,rY,zx,tG,ht]];refine aP Tryz.func67 rfl (by kernel_rfl) rfl fun M0 w0=>?_;simp only [Tryz.ntmps67,Tryz.results67,aF];repeat' with_reducible first|apply af|apply ae|apply au|apply aa|refine ah [] ?_|(apply ar;·go_simp)|(apply ab;intro X Y;go_simp;apply Y;clear Y X)
   refine fR 14 [] [⟨12,8,[.string ⟨#[]⟩,.int .i64 0,.int .i64 0,.bool false],none,[]⟩] (by kernel_rfl) (by go_simp) ?_;simp only [az];repeat (first|(refine fc rfl ?_)|((with_reducible refine fe rfl fun X Y=>?_);go_simp;refine Y _ (by go_simp) ?_;clear Y X)|(with_reducible apply ff))
   refine ⟨by go_simp,?_⟩;simp only [dV,eh,Slot.end_,List.cons_append,List.nil_append];repeat' first|(with_reducible first|apply af|apply ae|apply aZ|apply ax|apply aB|apply cX|apply aa|refine ah [] ?_|apply aT|(apply aw;·go_simp)|(apply ar;·go_simp)|((first|apply ab|apply aU);intro X Y;go_simp;(first|(refine ⟨_,g,?_⟩)|skip);apply Y;clear Y X))|((refine bc 13 13 [] rfl (by kernel_rfl) ?_);simp only [az])
   go_simp
 ·have jl:tm < s.time:=by omega
  rw [show fst [unl (decide (s.time≤tm)) 9,doE r s ⟨5,tm,(k:Int),car⟩ k]=9 by simp [fst,unl,ht]];refine aP Tryz.func67 rfl (by kernel_rfl) rfl fun M0 w0=>?_;simp only [Tryz.ntmps67,Tryz.results67,aF];repeat' with_reducible first|apply af|apply ae|apply aZ|apply ax|apply aa|refine ah [] ?_|(apply aw;·go_simp)|(apply ab;intro X Y;go_simp;apply Y;clear Y X)
  go_simp
theorem O0 (r:Ru) (s:St) (x:Ev) (hr:RuOK r) (hi:Inv r s) (hx:evE r x=0) : VC Tryz.prog 67 [cY r,cT s,evA x] (I (fst [unl (decide (s.time≤x.time)) 9,doE r s x x.rank.toNat])):=by
 have h1:=x_ hx;obtain ⟨h2,h3⟩:=rW hx;have h4:=ya hx;have hk:x.rank.toNat < s.q.length:=by rw [hi.len];omega
 have hlen:r.ranks.length=s.q.length:=hi.len.symm;have mT:kt r s.q.length:=by rw [hi.len];exact hr.feed
 have h6:s.q.length≤6:=by rw [hi.len];exact hr.n6
 have dJ:∀ j,j < s.q.length→(qat s.q j).length≤1000000:=fun j hj=>by
  have:=hi.fit j hj;have:=hr.pl j (by omega);omega
 have vz:=hi.tkl;have zw:∀ i,i < s.tk.length→IntKind.i64.wrap (x.time - (aS s.tk i).time)=x.time - (aS s.tk i).time:=fun i cz=>by
  have:=hi.tkt _ (List.getElem_mem cz);rw [←gS cz] at this;have:=hi.t0;exact iu (by omega) (by omega)
 obtain ⟨kd,tm,rk,car⟩:=x;simp only at h1 h2 h3 h4 hk zw ⊢;obtain ⟨k,rfl⟩ : ∃ k:Nat,rk=k:=⟨rk.toNat,by omega⟩
 rw [Int.toNat_natCast] at hk ⊢;have pJ:kd=0∨kd=1∨kd=2∨kd=3∨kd=4∨kd=5:=by omega
 rcases pJ with rfl|rfl|rfl|rfl|rfl|rfl
 ·exact OT r s tm k car hk hlen mT (by omega) dJ (by omega)
 ·exact OU r s tm k car hk hlen mT (by omega) dJ (by omega)
 ·exact OW r s tm k car hk hlen mT (by omega) dJ (by omega)
 ·exact OX r s tm k car hk hlen mT (by omega) dJ (by omega)
 ·exact OY r s tm k car hk hlen mT (by omega) dJ (by omega)
 ·exact OZ r s tm k car hk hlen mT (by omega) dJ (by omega) zw
end Go.Proofs.YtoibondihdhnoaaGreatDoor
