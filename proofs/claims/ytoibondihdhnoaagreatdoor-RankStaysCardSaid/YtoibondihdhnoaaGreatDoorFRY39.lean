/- Texts in one: The last sighting of a car: a loop over slices.Backward, at the world's level. -/
import Derived.Test.YtoibondihdhnoaaGreatDoorFRY34
import Derived.Test.YtoibondihdhnoaaGreatDoorFRY35
import Derived.Test.YtoibondihdhnoaaGreatDoorFRY32
import Derived.Test.YtoibondihdhnoaaGreatDoorFRY33
import Derived.Test.YtoibondihdhnoaaGreatDoorFRY8
import Derived.Lib.ItoaLen
import Derived.Test.YtoibondihdhnoaaGreatDoorFRY31
import Derived.RangeFuncNested
import Derived.RangeFuncBox
import Derived.RangeFuncLeaves
import Derived.Shelf.Abstract
import Derived.OwnWalkIn
import Derived.TacticsInMore
import Derived.LoopNIn
import Derived.LoopIn
namespace Go.Proofs.YtoibondihdhnoaaGreatDoor
open Go.RowKit
set_option maxRecDepth 100000
set_option maxHeartbeats 1000000
def txL (l:List UInt8) : List AV:=[S (mkB l)]
attribute [go_sem] txL
theorem uj (s:ByteArray) : s.data.toList.length=s.size:=(Lib.size_eq s).symm
@[go_sem] theorem Q3:FX 0 []=0:=Lx 0
@[go_sem] theorem Q4 (c:UInt8) (l:List UInt8) : yU c l 0=0:=rfl
@[go_sem] theorem Q5 (c:UInt8) (l:List UInt8) : B5 c l 0=[]:=rfl
@[go_sem] theorem Q6:mkB []=⟨#[]⟩:=rfl
def jY (n:Int) : ByteArray:=mkB (Lib.itoa n)
end Go.Proofs.YtoibondihdhnoaaGreatDoor
namespace Go.Proofs.YtoibondihdhnoaaGreatDoor
open Go.RowKit Go.Shelf
set_option maxRecDepth 100000
set_option maxHeartbeats 1000000
def jF (c:UInt8) (s:ByteArray) : List ByteArray:=(gO c s.data.toList).map mkB
theorem FZ (c:UInt8) (s:ByteArray) : (jF c s).length≤s.size+1:=by
 have:=FR c s.data.toList;rw [uj] at this;simpa [jF] using this
theorem Ly {c:UInt8} {s p:ByteArray} (h:p∈jF c s) : p.size≤s.size:=by
 obtain ⟨l,hl,rfl⟩:=List.mem_map.1 h;have:=FT c _ l hl;rw [FY,←uj];exact this
theorem LA (w:World) (k:Nat) (os:Array Obj) : Below w.heap.size w (Sort.grow (w.drewN k) os):=
 ⟨rfl,rfl,rfl,by show w.heap.size≤(w.heap++os).size;rw [Array.size_append];omega,fun j hj=>by show (w.heap++os)[j]? = _;rw [Array.getElem?_append_left hj]⟩
theorem yV {f:FuncId} {a r:AV} (hg:lL Tryz.prog f=true) (h:∀ w M v1,MOK w M→V0 w M a v1→Calls Tryz.prog f #[v1] w fun e w'=>∃ v,e = .returned v∧Below w.heap.size w w'∧V0 w' M r v) : VC Tryz.prog f [a] r:=
 ⟨hg,fun w M vs hM hl hv=>by
  obtain ⟨v1,rfl⟩:=List.length_eq_one_iff.1 hl;exact h w M v1 hM (hv 0 a v1 rfl rfl)⟩
theorem F0 {f:FuncId} {a b r:AV} (hg:lL Tryz.prog f=true) (h:∀ w M v1 v2,MOK w M→V0 w M a v1→V0 w M b v2→Calls Tryz.prog f #[v1,v2] w fun e w'=>∃ v,e = .returned v∧Below w.heap.size w w'∧V0 w' M r v) : VC Tryz.prog f [a,b] r:=
 ⟨hg,fun w M vs hM hl hv=>by
  match vs,hl with
  | [v1,v2],_=>exact h w M v1 v2 hM (hv 0 a v1 rfl rfl) (hv 1 b v2 rfl rfl)⟩
theorem gf {w:World} {M:Nat→Nat→Prop} (h:MOK w M) : x_ w:=h.2.2.2
theorem LB (c:UInt8) (s:ByteArray) : (jF c s).length=Lib.countB s ⟨#[c]⟩+1:=by
 have h:=Lib.splitB_all ⟨#[c]⟩ (Nat.le_refl _) 0 _ s rfl;rw [B6 c _ s rfl] at h;exact h
theorem F1 (s:ByteArray) (c:UInt8) (hs:s.size≤1000000) : VC Tryz.prog 105 [S s,S ⟨#[c]⟩] (iT (jF c s)):=
 F0 (by kernel_rfl) fun w M v1 v2 hM h1 h2=>by
  obtain rfl:=V0.lit_inv h1;obtain rfl:=V0.lit_inv h2;obtain ⟨m,hm⟩:=(gf hM).1;refine (Any.strings_Split Lp (by kernel_rfl) s ⟨#[c]⟩ m w (by omega) hm (Nat.le_refl _)).mono fun e w' ⟨he,hw⟩=>⟨_,he,?_,?_⟩
  ·rw [hw];exact (Below.refl _ w).alloc (Nat.le_refl _) _
  ·have hl:=LB c s;have hp:Lib.splitB ⟨#[c]⟩ 0 (Lib.countB s ⟨#[c]⟩) s=jF c s:=B6 c _ s rfl;have vQ:((jF c s).map bL).length=Lib.countB s ⟨#[c]⟩+1:=by rw [List.length_map,hl]
   rw [hw,hp,←vQ];refine .sl 1 _ _ _ 0 (fun k _=>.string (tat (jF c s) k)) (fun hn=>?_) (by simp) (fun _ _ _ _ oY=>absurd (hM.1 _ _ oY) (Nat.lt_irrefl _)) (Nat.le_refl _) (fun k x hx=>?_) (fun k x j d hx hd=>?_) (fun k j hk hj=>?_) (fun k x j d hx hd=>?_)
   ·rw [hn] at vQ;simp at vQ
   ·obtain ⟨y,_,rfl⟩:=ea hx;rfl
   ·obtain ⟨y,_,rfl⟩:=ea hx;rw [show bL y=[S y] from rfl,List.getElem?_singleton] at hd;split at hd
    ·injection hd with hd
     subst hd;rfl
    ·cases hd
   ·rw [List.length_map] at hk;have kL:j=0:=by omega
    subst kL;rw [show 0+k*1+0=k by omega];refine (BL w _ _ k).trans ?_;simp [hk,tat]
   ·obtain ⟨y,hy,rfl⟩:=ea hx;rw [show bL y=[S y] from rfl,List.getElem?_singleton] at hd;split at hd
    ·injection hd with hd
     subst hd;simp only [tat,List.getD,hy,Option.getD_some];exact .lit _
    ·cases hd
theorem LC (s q:ByteArray) : VC Tryz.prog 151 [S s,S q] (S (mkB (Lib.trimPrefix s.data.toList q.data.toList))):=
 F0 (by kernel_rfl) fun w M v1 v2 hM h1 h2=>by
  obtain rfl:=V0.lit_inv h1;obtain rfl:=V0.lit_inv h2;exact (Any.strings_TrimPrefix Lr s q w).mono fun e w' ⟨he,hw⟩=>⟨_,he,hw▸Below.refl _ _,.lit _⟩
theorem yW (n:Int) (h : -9223372036854775808≤n∧n≤9223372036854775807) : VC Tryz.prog 103 [I n] (S (jY n)):=
 yV (by kernel_rfl) fun w M v1 hM h1=>by
  obtain rfl:=V0.lit_inv h1;refine (Any.strconv_Itoa Lt n h.1 h.2 w (gf hM).2.1).mono fun e w' ⟨he,k,os,hw⟩=>⟨_,he,?_,.lit _⟩
  rw [hw];exact LA w k os
theorem LD (s:ByteArray) (hs:s.size≤1000000) (v:Int) (h:Lib.atoiAll s.data.toList = .ok v) : VC Tryz.prog 150 [S s] (.tup [I v,.lit .nilIface]):=
 yV (by kernel_rfl) fun w M v1 hM h1=>by
  obtain rfl:=V0.lit_inv h1;refine (Any.strconv_Atoi_ok B4 s (by omega) v h w).mono fun e w' ⟨he,hw⟩=>⟨_,he,?_,?_⟩
  ·rcases hw with rfl|⟨t,rfl⟩
   ·exact Below.refl _ _
   ·exact Lib.bytesWorld_below _ _ _
  ·refine .tup _ [_,_] rfl fun i a u ha hu=>?_;match i with
   | 0=>cases ha;cases hu;exact .lit _
   | 1=>cases ha;cases hu;exact .lit _
   | n+2=>cases ha
theorem LF (s:ByteArray) (hs:s.size≤1000000) (h1:∀ v,Lib.atoiAll s.data.toList≠.ok v) (h2:Lib.atoiAll s.data.toList≠.range) : VC Tryz.prog 150 [S s] (.tup [I 0,.iface (laysAtoi_ren.t 168) .any]):=
 yV (by kernel_rfl) fun w M v1 hM h0=>by
  obtain rfl:=V0.lit_inv h0;obtain ⟨t,q,hc⟩:=(gf hM).2.2.1;have LG:Calls Tryz.prog 150 #[.string s] w fun e w'=>∃ n,e = .returned (.tuple #[.int .i64 0,.iface (laysAtoi_ren.t 168) (.pointer (some ⟨n,0,none⟩))])∧Below w.heap.size w w':=by
   cases hx:Lib.atoiAll s.data.toList with
   | ok v=>exact absurd hx (h1 v)
   | range=>exact absurd hx h2
   | _=>exact (Any.strconv_Atoi_syntax B4 s (by omega) hx _ w hc (.inr ⟨_,_,rfl⟩)).mono fun e w' ⟨N,he,_,_,hw⟩=>⟨N,he,hw⟩
  refine LG.mono fun e w' ⟨N,he,hw⟩=>⟨_,he,hw,?_⟩
  refine .tup _ [_,_] rfl fun i a u ha hu=>?_;match i with
  | 0=>cases ha;cases hu;exact .lit _
  | 1=>cases ha;cases hu;exact .iface _ _ _ (.any _)
  | n+2=>cases ha
theorem LH (s:ByteArray) (hs:s.size≤1000000) (h:Lib.atoiAll s.data.toList = .range) : VC Tryz.prog 150 [S s] (.tup [I (Lib.atoiSat s.data.toList),.iface (laysAtoi_ren.t 168) .any]):=
 yV (by kernel_rfl) fun w M v1 hM h1=>by
  obtain rfl:=V0.lit_inv h1;obtain ⟨t,q,hc⟩:=(gf hM).2.2.2;refine (Any.strconv_Atoi_range B4 s (by omega) h _ w hc (.inr ⟨_,_,rfl⟩)).mono fun e w' ⟨N,he,_,_,hw⟩=>⟨_,he,hw,?_⟩
  refine .tup _ [_,_] rfl fun i a u ha hu=>?_;match i with
  | 0=>cases ha;cases hu;exact .lit _
  | 1=>cases ha;cases hu;exact .iface _ _ _ (.any _)
  | n+2=>cases ha
theorem F2:Builder.Extra Tryz.prog FI where
 sizeBuilder:=by kernel_rfl
 liesBuilder:=by kernel_rfl
 t5:=Tryz.underlying5
 a5:=Tryz.isAgg5
 z5:=Tryz.sizeOf5
 v5:=Tryz.zeroValue5
 infoByte:=by kernel_rfl
 cellsByte:=by kernel_rfl
 sizeByte:=by kernel_rfl
 neB5:=by decide
def bl (b:ByteArray) : List UInt8:=b.data.toList
def ly (l:List ByteArray) (sep:ByteArray) : ByteArray:=⟨(Lib.join (l.map bl) (bl sep)).toArray⟩
theorem yX (l:List ByteArray) (sep:ByteArray) (h:(Lib.join (l.map bl) (bl sep)).length≤1000000000) (hl:l.length≤1000000000) : VC Tryz.prog 102 [iT l,S sep] (S (ly l sep)):=
 LI (by kernel_rfl) fun w M v1 v2 h1 h2=>by
  obtain rfl:=V0.lit_inv h2;change V0 w M (.sl 1 (l.map bL)) v1 at h1;generalize cO:l.map bL=es at h1;cases h1 with
  | slNil _ A cap=>
   have hl:l=[]:=List.map_eq_nil_iff.1 cO;subst hl;exact (Any.strings_Join_none FJ F2 A cap sep w).mono fun e w' ⟨he,hw⟩=>⟨_,he,hw▸Below.refl _ _,by exact .lit _⟩
  | sl _ _ cap b o u ax hb hM dy aM h1 hc hv=>
   have hlen:es.length=l.length:=by rw [←cO,List.length_map]
   have de:∀ (j:Nat) (x:ByteArray),l[j]? = some x→w.cell? { block:=b,off:=o+j } = some (.string x):=fun j x hx=>by
    have bB:=(List.getElem?_eq_some_iff.1 hx).1;have h3:=hv j (bL x) 0 (S x) (by rw [←cO];simp [hx]) rfl;have h4:=hc j 0 (by omega) (by decide);rw [V0.lit_inv h3,Nat.mul_one,Nat.add_zero] at h4;exact h4
   rw [hlen] at dy ⊢;exact (Any.strings_Join FJ F2 b o cap l sep w de hb (by omega) dy (Nat.le_trans h (by decide))).mono fun e w' ⟨he,hw⟩=>⟨_,he,hw,.lit _⟩
def uk (l:List UInt8) : Int:=match Lib.atoiAll l with | .ok v=>v | .range=>Lib.atoiSat l|_=>0
theorem F3 (s:ByteArray) (hs:s.size≤1000000) : VC Tryz.prog 109 [S s] (.tup [I (uk s.data.toList),B (oQ s.data.toList)]):=by
 unfold uk oQ;have jr:=LF s hs;have jd:=LH s hs;have dM:=LD s hs;have hb:=@Lib.atoiAll_bounds s.data.toList;have g3:=LC s ⟨#[45]⟩;have LJ:(⟨#[45]⟩ : ByteArray).data.toList=[45]:=rfl;rw [LJ] at g3;have aM:=FY (Lib.trimPrefix s.data.toList [45]);have hd:∀ v,(jY v=s)↔(Lib.itoa v=s.data.toList):=fun v=>by
  unfold jY;constructor
  ·intro h;rw [←h];rfl
  ·intro h;rw [h];rfl
 generalize Lib.trimPrefix s.data.toList [45]=X at *;generalize Lib.atoiSat s.data.toList=sat at *;cases hx:Lib.atoiAll s.data.toList with
 | ok v=>
  have g1:=dM v hx;have g2:=yW v (hb hx);have v_:=hd v;clear jr jd dM hb hd hx;simp only;generalize Lib.itoa v=Y at *;generalize jY v=D at *;generalize mkB X=T at *;by_cases h1:D=s
  ·have lv:=v_.1 h1;rw [decide_eq_true lv,Bool.true_and];by_cases h2:X.length≤9
   ·have h3:((T.size:Nat) : Int)≤9:=by omega
    rw [decide_eq_true h2];clear v_ lv h2 aM;subst h1;refine aJ Tryz.func109 rfl (by kernel_rfl) rfl fun M0 w0=>?_;simp only [Tryz.ntmps109,Tryz.results109,aC];repeat' with_reducible first|apply af|apply ae|apply aw|apply aa|refine ah [] ?_|(apply ab;intro Z U;go_simp;(first|(refine ⟨_,g1,?_⟩)|(refine ⟨_,g2,?_⟩)|(refine ⟨_,g3,?_⟩)|skip);apply U;clear U Z)
    go_simp
   ·have h3:¬((T.size:Nat) : Int)≤9:=by omega
    rw [decide_eq_false h2];clear v_ lv h2 aM;subst h1;refine aJ Tryz.func109 rfl (by kernel_rfl) rfl fun M0 w0=>?_;simp only [Tryz.ntmps109,Tryz.results109,aC];repeat' with_reducible first|apply af|apply ae|apply aw|apply aa|refine ah [] ?_|(apply ab;intro Z U;go_simp;(first|(refine ⟨_,g1,?_⟩)|(refine ⟨_,g2,?_⟩)|(refine ⟨_,g3,?_⟩)|skip);apply U;clear U Z)
    go_simp
  ·have lv:¬Y=s.data.toList:=fun e=>h1 (v_.2 e);rw [decide_eq_false lv,Bool.false_and];clear v_ lv;refine aJ Tryz.func109 rfl (by kernel_rfl) rfl fun M0 w0=>?_;simp only [Tryz.ntmps109,Tryz.results109,aC];repeat' with_reducible first|apply af|apply ae|apply aw|apply aa|refine ah [] ?_|(apply ab;intro Z U;go_simp;(first|(refine ⟨_,g1,?_⟩)|(refine ⟨_,g2,?_⟩)|skip);apply U;clear U Z)
   go_simp
 | range=>
  have g1:=jd hx;clear jr jd dM hb hd hx g3 aM;simp only;refine aJ Tryz.func109 rfl (by kernel_rfl) rfl fun M0 w0=>?_;simp only [Tryz.ntmps109,Tryz.results109,aC];repeat' with_reducible first|apply af|apply ae|apply aw|apply aa|refine ah [] ?_|(apply ab;intro Z U;go_simp;(first|(refine ⟨_,g1,?_⟩)|skip);apply U;clear U Z)
  go_simp
 | _=>
  have g1:=jr (fun v=>by rw [hx];intro h;cases h) (by rw [hx];intro h;cases h);clear jr jd dM hb hd hx g3 aM;simp only;refine aJ Tryz.func109 rfl (by kernel_rfl) rfl fun M0 w0=>?_;simp only [Tryz.ntmps109,Tryz.results109,aC];repeat' with_reducible first|apply af|apply ae|apply aw|apply aa|refine ah [] ?_|(apply ab;intro Z U;go_simp;(first|(refine ⟨_,g1,?_⟩)|skip);apply U;clear U Z)
  go_simp
theorem LK (x y:List UInt8) (r:List (List UInt8)) (s:List UInt8) : Lib.join (x::y::r) s=x++(s++Lib.join (y::r) s):=by
 rw [Lib.join_cons,Lib.join_cons];simp [Lib.joinTail]
theorem F4 (sep:List UInt8) (B:Nat) : ∀ (L:List (List UInt8)),(∀ x∈L,x.length≤B)→(Lib.join L sep).length≤L.length*(B+sep.length)
 | [],_=>by simp [Lib.join]
 | [x],h=>by
  have:=h x (by simp);have e:Lib.join [x] sep=x:=by simp [Lib.join]
  rw [e];simp;omega
 | x::y::r,h=>by
  have h1:=h x (by simp);have h2:=F4 sep B (y::r) fun z hz=>h z (List.mem_cons_of_mem _ hz);rw [LK,List.length_append,List.length_append,List.length_cons,Nat.add_mul,Nat.one_mul];omega
def i64 (n:Int) : Prop:=-9223372036854775808≤n∧n≤9223372036854775807
structure SmallS (s:St) : Prop where
 nq:s.q.length≤300
 q1:∀ l∈s.q,l.length≤300∧∀ c∈l,c.size≤1000
 nt:s.tk.length≤300
 t1:∀ t∈s.tk,t.car.size≤1000∧i64 t.rank∧i64 t.time
 tm:i64 s.time
def mD (t:Tk) : ByteArray:=ly [t.car,jY t.rank,jY t.time] ⟨#[58]⟩
def sx (s:St) : ByteArray:=ly (s.tk.map mD) ⟨#[32]⟩
def jG (s:St) (k:Nat) : List ByteArray:=jY s.time::(s.q.take k).map fun l=>ly l ⟨#[32]⟩
def B7 (s:St) : ByteArray:=ly (jG s s.q.length++[sx s]) ⟨#[124]⟩
theorem yY {l:List ByteArray} {s:ByteArray} {B:Nat} (h:∀ x∈l,x.size≤B) : (Lib.join (l.map bl) (bl s)).length≤l.length*(B+s.size):=by
 have:=F4 (bl s) B (l.map bl) fun x hx=>by
  obtain ⟨y,hy,rfl⟩:=List.mem_map.1 hx;have h1:=h y hy;have h2:(bl y).length=y.size:=uj y;omega
 rw [List.length_map,show (bl s).length=s.size from uj s] at this;exact this
theorem wc (l:List ByteArray) (s:ByteArray) : (ly l s).size=(Lib.join (l.map bl) (bl s)).length:=by
 unfold ly;rw [←uj]
theorem B8 {n:Int} (h:i64 n) : (jY n).size≤21:=by
 have:=Lib.itoa_length_le n h.1 h.2;rw [←uj];exact this
theorem yZ {s:St} {k:Nat} (h:k≤s.q.length) : (jG s k).length=k+1:=by simp [jG,List.length_take];omega
theorem LL {s:St} {k:Nat} (h:k < s.q.length) : jG s (k+1)=jG s k++[ly (qat s.q k) ⟨#[32]⟩]:=by
 rw [jG,jG,ub h,List.map_append,List.cons_append,gM h];rfl
def kS (s:St) (k:Nat) : List ByteArray:=(s.tk.take k).map mD
theorem B9 {s:St} {k:Nat} (h:k≤s.tk.length) : (kS s k).length=k:=by simp [kS,List.length_take];omega
theorem LM {s:St} {k:Nat} (h:k < s.tk.length) : kS s (k+1)=kS s k++[mD (cj s.tk k)]:=by
 rw [kS,kS,ub h,List.map_append,lk h];rfl
theorem LN (s:St) (h:SmallS s) : VC Tryz.prog 61 [dH s] (S (B7 s)):=by
 have hq:=h.q1;have ht:=h.t1;have F5:=h.nq;have F6:=h.nt;have bq:∀ k,k < s.q.length→(ly (qat s.q k) ⟨#[32]⟩).size≤301000:=fun k hk=>by
  obtain ⟨h1,h2⟩:=hq _ (List.getElem_mem hk);rw [wc,gM hk];refine Nat.le_trans (yY h2) ?_;have:s.q[k].length*(1000+(⟨#[32]⟩ : ByteArray).size)≤300*1001:=Nat.mul_le_mul h1 (Nat.le_refl _);omega
 have bt:∀ k,k < s.tk.length→(mD (cj s.tk k)).size≤3003:=fun k hk=>by
  obtain ⟨h1,h2,h3⟩:=ht _ (List.getElem_mem hk);unfold mD;rw [wc,lk hk];refine Nat.le_trans (yY (B:=1000) fun x hx=>?_) (Nat.le_refl _);simp only [List.mem_cons,List.not_mem_nil,or_false] at hx;rcases hx with rfl|rfl|rfl
  ·exact h1
  ·exact Nat.le_trans (B8 h2) (by omega)
  ·exact Nat.le_trans (B8 h3) (by omega)
 have y2:kS s s.tk.length=s.tk.map mD:=by rw [kS,List.take_length]
 have qy:∀ x∈kS s s.tk.length,x.size≤3003:=fun x hx=>by
  rw [y2] at hx;obtain ⟨y,hy,rfl⟩:=List.mem_map.1 hx;obtain ⟨k,hk,rfl⟩:=List.getElem_of_mem hy;rw [←lk hk];exact bt k hk
 have F7:(Lib.join ((kS s s.tk.length).map bl) (bl ⟨#[32]⟩)).length≤901200:=by
  refine Nat.le_trans (yY qy) ?_;rw [B9 (Nat.le_refl _)];exact Nat.mul_le_mul F6 (Nat.le_refl _)
 have LO:(sx s).size≤901200:=by
  unfold sx;rw [wc,←y2];exact F7
 have aF:∀ x∈jG s s.q.length++[sx s],x.size≤1000000:=fun x hx=>by
  rcases List.mem_append.1 hx with hx|hx
  ·rw [jG,List.take_length] at hx;rcases List.mem_cons.1 hx with rfl|hx
   ·exact Nat.le_trans (B8 h.tm) (by omega)
   ·obtain ⟨y,hy,rfl⟩:=List.mem_map.1 hx;obtain ⟨k,hk,rfl⟩:=List.getElem_of_mem hy;have:=bq k hk;rw [gM hk] at this;omega
  ·simp at hx;rw [hx];omega
 have we:(Lib.join ((jG s s.q.length++[sx s]).map bl) (bl ⟨#[124]⟩)).length≤1000000000:=by
  refine Nat.le_trans (yY aF) ?_;rw [List.length_append,yZ (Nat.le_refl _)];have:(s.q.length+1+1)*(1000000+1)≤302*1000001:=Nat.mul_le_mul (by omega) (Nat.le_refl _);simp only [List.length_cons,List.length_nil];have e:(⟨#[124]⟩ : ByteArray).size=1:=rfl;rw [e];omega
 have g0:=yW s.time h.tm;have LP:=Lib.hid (yX (kS s s.tk.length) ⟨#[32]⟩ (by omega) (by rw [B9 (Nat.le_refl _)];omega));have LQ:=Lib.hid (yX (jG s s.q.length++[sx s]) ⟨#[124]⟩ we (by rw [List.length_append,yZ (Nat.le_refl _)];simp;omega));have HQ:Hid (∀ k,k < s.q.length→VC Tryz.prog 102 [iT (qat s.q k),S ⟨#[32]⟩] (S (ly (qat s.q k) ⟨#[32]⟩))):=Lib.hid fun k hk=>by
  obtain ⟨h1,h2⟩:=hq _ (List.getElem_mem hk);rw [←gM hk] at h1 h2;have:=bq k hk;rw [wc] at this;exact yX (qat s.q k) ⟨#[32]⟩ (Nat.le_trans this (by omega)) (by omega)
 have HT:Hid (∀ k,k < s.tk.length→VC Tryz.prog 103 [I (cj s.tk k).rank] (S (jY (cj s.tk k).rank))∧VC Tryz.prog 103 [I (cj s.tk k).time] (S (jY (cj s.tk k).time))∧VC Tryz.prog 102 [iT [(cj s.tk k).car,jY (cj s.tk k).rank,jY (cj s.tk k).time],S ⟨#[58]⟩] (S (mD (cj s.tk k)))):=Lib.hid fun k hk=>by
  obtain ⟨h1,h2,h3⟩:=ht _ (List.getElem_mem hk);rw [←lk hk] at h2 h3;have:=bt k hk;unfold mD at this;rw [wc] at this;exact ⟨yW _ h2,yW _ h3,yX [(cj s.tk k).car,jY (cj s.tk k).rank,jY (cj s.tk k).time] ⟨#[58]⟩ (Nat.le_trans this (by omega)) (by simp)⟩
 have HE:=Lib.hid y2;unfold B7;unfold sx at *;clear hq ht bq bt qy F7 LO aF we y2 h;generalize hR:ly (jG s s.q.length++[ly (s.tk.map mD) ⟨#[32]⟩]) ⟨#[124]⟩=R at *;clear hR;refine aJ Tryz.func61 rfl (by kernel_rfl) rfl fun M0 w0=>?_;simp only [Tryz.ntmps61,Tryz.results61,aC];have e0:jG s 0=[jY s.time]:=rfl;have e1:kS s 0=[]:=rfl;repeat' with_reducible first|apply af|apply ae|apply az|apply aa|refine ah [12] ?_|(apply ab;intro Z U;go_simp;(first|(refine ⟨_,g0,?_⟩)|skip);apply U;clear U Z)
 apply k8 [1,14,15] (fun k=>[(16,I k),(3,.osl 0)]) (fun k=>([some (.arr 9 1 false ((jG s k).map bL))] : Hp))  (s.q.length)
 ·go_simp<;>exact rfl
 ·go_simp
 ·intro k hk K hK;obtain ⟨w1,w2,w3,w4,w5,w6⟩:=ixs (m:=k) (by omega);have HS:=Lib.hid (LL hk);have aL:=yZ (s:=s) (k:=k) (by omega);have hb:(jG s k).length+1≤1000000000:=by omega
  clear aL;have gj:=HQ.out k hk;generalize ly (qat s.q k) ⟨#[32]⟩=J at *;repeat' with_reducible first|apply af|apply ae|apply ao|apply az|apply aY|apply aa|refine ah [] ?_|(apply au;·go_simp)|(apply ab;intro Z U;go_simp;(first|(refine ⟨_,gj,?_⟩)|skip);apply U;clear U Z)
  refine hK _ ?_;rw [HS.out];go_simp
 ·intro K;repeat' with_reducible first|apply af|apply ae|apply bE|apply bF|apply az|apply bG|apply aa|refine ah [6] ?_|(apply aj;·go_simp)|(apply ab;intro Z U;go_simp;apply U;clear U Z)
  apply k8 [3,27,28] (fun k=>[(29,I k),(6,.osl 1)]) (fun k=>([some (.arr 9 1 false ((jG s s.q.length).map bL)),some (.arr 9 1 (decide (kS s k=[])) ((kS s k).map bL))] : Hp))  (s.tk.length)
  ·go_simp<;>exact rfl
  ·go_simp
  ·intro k hk K hK;obtain ⟨w1,w2,w3,w4,w5,w6⟩:=ixs (m:=k) (by omega);have HS:=Lib.hid (LM hk);have aL:=B9 (s:=s) (k:=k) (by omega);have hb:(kS s k).length+1≤1000000000:=by omega
   clear aL;obtain ⟨g1,g2,g3⟩:=HT.out k hk;generalize mD (cj s.tk k)=J at *;generalize jY (cj s.tk k).rank=D1 at *;generalize jY (cj s.tk k).time=D2 at *;repeat' with_reducible apply af
   refine ah [] ?_;repeat' with_reducible first|apply af|apply ae|apply ao|apply az|apply aa|(apply au;·go_simp)|(apply ab;intro Z U;go_simp;apply U;clear U Z)
   refine ah [] ?_;repeat' with_reducible first|apply ae|apply aa|(apply ab;intro Z U;go_simp;apply U;clear U Z)
   refine rR 12 [45] 1 [] (by kernel_rfl) (by kernel_rfl) (by kernel_rfl) (by kernel_rfl) rfl ⟨rfl,rfl⟩ rfl ?_;simp only [aA];repeat' first|with_reducible apply aP|((with_reducible apply aO);intro Z U;go_simp;(first|(with_reducible refine ⟨_,g1,?_⟩)|(with_reducible refine ⟨_,g2,?_⟩)|(refine ⟨_,g3,?_⟩)|skip);apply U;clear U Z)
   refine ⟨_,by go_simp,by go_simp;exact rfl,?_,?_⟩
   ·intro t ht;simp at ht
   go_simp;repeat' with_reducible first|apply ae|apply aY|apply aa|refine ah [] ?_|(apply ab;intro Z U;go_simp;apply U;clear U Z)
   refine hK _ ?_;rw [HS.out];go_simp
  ·intro K;have hj:=LP.out;rw [HE.out] at hj ⊢;have mK:=LQ.out;generalize ly (s.tk.map mD) ⟨#[32]⟩=J at *;generalize s.tk.map mD=TT at *;have hb:(jG s s.q.length).length+1≤1000000000:=by rw [yZ (Nat.le_refl _)];omega
   generalize jG s s.q.length=SP at *;have e2:(SP++[J]).map bL=SP.map bL++[[S J]]:=by simp [bL]
   unfold iT at mK;rw [e2] at mK;repeat' first|(with_reducible first|apply af|apply ae|apply bE|apply aw|apply bF|apply bG|apply aa|refine ah [] ?_|(apply aj;·go_simp))|((with_reducible apply ab);intro Z U;go_simp;(first|(refine ⟨_,⟨hj,rfl⟩,?_⟩)|(refine ⟨_,⟨mK,rfl⟩,?_⟩)|skip);apply U;clear U Z)
   go_simp
attribute [local go_sem] Oper.semAt_some
set_option maxRecDepth 100000
set_option maxHeartbeats 4000000
def jZ {α:Type} (f:Nat→α) (k:Nat) : List α:=(List.range k).map f
theorem F8 {α:Type} (f:Nat→α) (k:Nat) : jZ f (k+1)=jZ f k++[f k]:=by simp [jZ,List.range_succ]
theorem LR {α:Type} (f:Nat→α) (k:Nat) : (jZ f k).length=k:=by simp [jZ]
def sgV (x:Sg) : Value:=.agg #[.int .i64 x.kind,.int .i64 x.rank,.string x.car]
def bkF (zs:List Sg) (k:Nat) : Nat×Sg:=(zs.length - 1 - k,aI zs (zs.length - 1 - k))
def SgC (W:World) (b off:Nat) (zs:List Sg) : Prop:=∀ j,j < zs.length→W.cell? ⟨b,off+j*3,none⟩=some (.int .i64 (aI zs j).kind)∧W.cell? ⟨b,off+j*3+1,none⟩=some (.int .i64 (aI zs j).rank)∧W.cell? ⟨b,off+j*3+2,none⟩=some (.string (aI zs j).car)
theorem LS (F:Fence) (n:Nat) (hf:F.fn 159) (l6:F.round=none) (hn:1≤n) (l Bs n₀ b off cap:Nat) (zs:List Sg) (ji:zs.length≤1000000) (_hcap:zs.length≤cap) (hb:b < n₀) (J Jx:List (Nat×Sg)→World→Prop)
  (hY:∀ pre x W,J pre W→pre.length < zs.length→YieldAt F (n - 1) Tryz.prog l #[.int .i64 (x.1:Int),sgV x.2] W fun e W'=>
   (e = .returned (.bool true)∧J (pre++[x]) W'∧Below n₀ W W')∨(e = .returned (.bool false)∧Jx (pre++[x]) W'))
  (W:World) (y4:W.cell? ⟨Bs,0,none⟩=some (.slice (some ⟨b,off,none⟩) zs.length cap)) (LU:Bs < n₀) (hc:SgC W b off zs) (h0:J [] W) :
  CallsIn F n Tryz.prog 159 #[.func (.yield l) #[] #[],.pointer (some ⟨Bs,0,none⟩)] W fun e W'=>(∃ v,e = .returned v) ∧
   ((∃ ys,ys=jZ (bkF zs) zs.length∧J ys W')∨(∃ pre,(∃ k,k≤zs.length∧pre=jZ (bkF zs) k)∧Jx pre W')):=by
 have t40:=Tryz.underlying40;have a40:=Tryz.isAgg40;have z40:=Tryz.sizeOf40;have t45:=Tryz.underlying45;have LV:=Tryz.isAgg45;have LW:=Tryz.sizeOf45;refine callsIn_of_wp Tryz.func159 rfl hf ?_ l6;simp only [Tryz.ntmps159,List.size_toArray,List.length_cons,List.length_nil,Nat.reduceAdd,Nat.reduceSub,Array.replicate_succ,Array.replicate_zero,List.push_toArray,List.append_toArray,List.nil_append,List.cons_append];have B_:IntKind.i64.wrap ((zs.length:Int) - 1)=(zs.length:Int) - 1:=fM (by omega) (by omega);gi_wp2
 gi_loopw [3] (fun i wr=>∃ m:Nat,m≤zs.length∧i = .int .i64 ((m:Int) - 1)∧J (jZ (bkF zs) (zs.length - m)) wr∧Below n₀ W wr)
  (fun i _=>(intOf i+1).toNat)
 case atStart=>
  refine ⟨zs.length,Nat.le_refl _,?_,?_,Below.refl _ _⟩
  ·first|rfl|simp [B_]|skip
  ·rw [Nat.sub_self];exact h0
 case round=>
  obtain ⟨m,hm,rfl,y7,gp⟩:=hrel;have LX:wr.cell? ⟨Bs,0,none⟩=some (.slice (some ⟨b,off,none⟩) zs.length cap):=(gp.cell (p:=⟨Bs,0,none⟩) LU).trans y4;cases m with
  | zero=>
   gi_wp2
   go_end0
   exact ⟨⟨_,rfl⟩,.inl ⟨_,rfl,y7⟩⟩
  | succ q=>
   have hq:q < zs.length:=by omega
   have e1:((q+1:Nat) : Int) - 1=(q:Int):=by omega
   rw [e1];obtain ⟨c0,c1,c2⟩:=hc q hq;have d0:=(gp.cell (p:=⟨b,off+q*3,none⟩) hb).trans c0;have d1:=(gp.cell (p:=⟨b,off+q*3+1,none⟩) hb).trans c1;have d2:=(gp.cell (p:=⟨b,off+q*3+2,none⟩) hb).trans c2;have pC:IntKind.i64.wrap ((q:Int) - 1)=(q:Int) - 1:=fM (by omega) (by omega);have eF:bkF zs (zs.length - (q+1))=(q,aI zs q):=by
    unfold bkF;rw [show zs.length - 1 - (zs.length - (q+1))=q by omega]
   obtain ⟨fn,tmps,assign,body,hy,hR⟩:=hY _ (q,aI zs q) wr y7 (by rw [LR];omega);unfold sgV at hy;dsimp only at hy;have eU:jZ (bkF zs) (zs.length - q)=jZ (bkF zs) (zs.length - (q+1))++[(q,aI zs q)]:=by
    rw [show zs.length - q=(zs.length - (q+1))+1 by omega,F8,eF]
   gi_wp2
   refine hR.mono ?_;rintro e W3 (⟨rfl,LY,lg⟩|⟨rfl,Ca⟩)
   ·gi_wp2
    go_roundw
    case rel=>
     refine ⟨q,by omega,?_,by rw [eU];exact LY,gp.trans lg⟩;first|rfl|simp [pC]
    case measure=>simp [intOf]
   ·gi_wp2
    refine bodyPost_ret (results_none rfl _ _ _) rfl ?_;exact ⟨⟨_,rfl⟩,.inr ⟨_,⟨zs.length - q,by omega,eU.symm⟩,Ca⟩⟩
theorem LZ (F:Fence) (n:Nat) (hf:F.fn 141) (l6:F.round=none) (a:Option Addr) (len cap:Nat) (w:World) :
  CallsIn F n Tryz.prog 141 #[.slice a len cap] w fun e w'=>e = .returned (.func (.func 159) #[] #[.pointer (some ⟨w.heap.size,0,none⟩)])∧w'=w.alloc (.cells #[.slice a len cap] 40):=by
 refine callsIn_of_wp Tryz.func141 rfl hf ?_ l6;simp only [Tryz.ntmps141,List.size_toArray,List.length_cons,List.length_nil,Nat.reduceAdd,Nat.reduceSub,Array.replicate_succ,Array.replicate_zero,List.push_toArray,List.append_toArray,List.nil_append,List.cons_append];gi_wp2
 go_ret
 exact ⟨rfl,rfl⟩
theorem L0 (F:Fence) (n:Nat) (hf:F.fn 159) (l6:F.round=none) (l Bs:Nat) (A:Option Addr) (cap:Nat) (J:List (Nat×Sg)→World→Prop) (W:World) (y4:W.cell? ⟨Bs,0,none⟩=some (.slice A 0 cap)) (h0:J [] W) :
  CallsIn F n Tryz.prog 159 #[.func (.yield l) #[] #[],.pointer (some ⟨Bs,0,none⟩)] W fun e W'=>(∃ v,e = .returned v)∧J [] W':=by
 have t40:=Tryz.underlying40;have a40:=Tryz.isAgg40;have z40:=Tryz.sizeOf40;refine callsIn_of_wp Tryz.func159 rfl hf ?_ l6;simp only [Tryz.ntmps159,List.size_toArray,List.length_cons,List.length_nil,Nat.reduceAdd,Nat.reduceSub,Array.replicate_succ,Array.replicate_zero,List.push_toArray,List.append_toArray,List.nil_append,List.cons_append];have B_:IntKind.i64.wrap (0 - 1) = -1:=rfl;gi_wp2
 gi_loopw [3] (fun i wr=>i = .int .i64 (-1)∧J [] wr) (fun _ _=>0)
 case atStart=>exact ⟨by first|rfl|simp [B_],h0⟩
 case round=>
  obtain ⟨rfl,y7⟩:=hrel;gi_wp2
  go_end0
  exact ⟨⟨_,rfl⟩,y7⟩
def SgsV (n₀:Nat) (W:World) (sv:Value) (zs:List Sg) : Prop:=
 (∃ A cap,sv = .slice A 0 cap∧zs=[])∨∃ b off cap,sv = .slice (some ⟨b,off,none⟩) zs.length cap∧b < n₀∧zs.length≤cap∧SgC W b off zs
theorem SgC.below {n₀:Nat} {A B:World} (h:Below n₀ A B) {b off:Nat} {zs:List Sg} (hb:b < n₀) (hc:SgC A b off zs) : SgC B b off zs:=fun j hj=>by
 obtain ⟨c0,c1,c2⟩:=hc j hj;exact ⟨(h.cell (p:=⟨b,off+j*3,none⟩) hb).trans c0,(h.cell (p:=⟨b,off+j*3+1,none⟩) hb).trans c1,(h.cell (p:=⟨b,off+j*3+2,none⟩) hb).trans c2⟩
theorem SgsV.below {n₀ n₁:Nat} {A B:World} (h:Below n₀ A B) (hn:n₀≤n₁) {sv:Value} {zs:List Sg} : SgsV n₀ A sv zs→SgsV n₁ B sv zs
 | .inl e=>.inl e
 | .inr ⟨b,off,cap,e,hb,hl,hc⟩=>.inr ⟨b,off,cap,e,by omega,hl,hc.below h hb⟩
theorem L2 (F:Fence) (n:Nat) (hf:F.fn 159) (l6:F.round=none) (hn:1≤n) (Bs n₀:Nat) (sv:Value) (zs:List Sg) (ji:zs.length≤1000000) (w:World) (y4:Bs < n₀) (L3:n₀≤w.heap.size)
  (hc:w.cell? ⟨Bs,0,none⟩=some sv) (hI:SgsV n₀ w sv zs) :
  SeqStopsK F n Tryz.prog 159 #[.pointer (some ⟨Bs,0,none⟩)] (fun x:Nat×Sg=>#[Value.int .i64 (x.1:Int),sgV x.2]) (Below n₀) (fun ys=>ys=jZ (bkF zs) zs.length)
   (fun pre=>∃ k,k≤zs.length∧pre=jZ (bkF zs) k) zs.length w:=fun l J Jx W hW _ _ hY h0=>by
 have gY:=(hW.cell (p:=⟨Bs,0,none⟩) (show Bs < w.heap.size by omega)).trans hc;rcases hI.below (hW.mono L3) (Nat.le_refl _) with ⟨A,cap,rfl,rfl⟩|⟨b,off,cap,rfl,hb,hl,bW⟩
 ·exact (L0 F n hf l6 l Bs A cap J W gY h0).mono fun e W' ⟨he,hj⟩=>⟨he,.inl ⟨_,rfl,hj⟩⟩
 ·exact LS F n hf l6 hn l Bs n₀ b off cap zs ji hl hb J Jx hY W gY y4 bW h0
attribute [local go_sem] Oper.semAt_some
set_option maxRecDepth 100000
set_option maxHeartbeats 4000000
theorem L4 (Bx:Nat) (t:TypeId) (cs:Array Value) {W W':World} {row:Option Nat} (h:Bk W Bx t cs) (hg:W.grownBy W' row) (hr:∀ r,row=some r→∃ o:Obj,W.heap[r]? = some o∧o.isCells=false) : Bk W' Bx t cs:=by
 refine Bk.grown h hg fun e=>?_;obtain ⟨o,ho,hc⟩:=hr Bx e.symm;have h':W.heap[Bx]? = some (.cells cs t (0,0)):=h;rw [h'] at ho;injection ho with ho
 subst ho;cases hc
theorem L5 (F:Fence) (n:Nat) (L6:F.fn 92) (L7:F.fn 141) (F9:F.fn 159) (l6:F.round=none) (hn:3≤n)
  (a:Option Addr) (len cap:Nat) (zs:List Sg) (R:Int) (c:ByteArray) (ji:zs.length≤1000000) (w:World) (hI:SgsV w.heap.size w (.slice a len cap) zs) :
  CallsIn F n Tryz.prog 92 #[.slice a len cap,.int .i64 R,.string c] w fun e W'=>
   ((e = .returned (.int .i64 (-1))∧∀ p∈jZ (bkF zs) zs.length,ir p.2 R c=false) ∨
    (∃ k,k < zs.length∧e = .returned (.int .i64 ((bkF zs k).1:Int))∧ir (bkF zs k).2 R c=true∧∀ p∈jZ (bkF zs) k,ir p.2 R c=false))∧Below w.heap.size w W':=by
 have h1:1≤n:=by omega
 have t45:=Tryz.underlying45;have LV:=Tryz.isAgg45;have LW:=Tryz.sizeOf45;have Q7:=Tryz.zeroValue45;refine callsIn_of_wp_marks Tryz.func92 rfl L6 ?_ l6;simp only [Tryz.ntmps92,List.size_toArray,List.length_cons,List.length_nil,Nat.reduceAdd,Nat.reduceSub,Array.replicate_succ,Array.replicate_zero,List.push_toArray,List.append_toArray,List.nil_append,List.cons_append];gi_wp2_with (gi_at_call 141;refine (LZ F (n - 1) L7 l6 _ _ _ _).mono ?_;rintro e w' ⟨rfl,rfl⟩)
 have bR:=((Boxed.new w 3 (.int .i64 R)).alloc (.cells #[.string c] 9)).alloc (.cells #[.int .i64 0] 3) |>.alloc (.cells #[.slice a len cap] 40)
 have bC:=((Boxed.new (w.alloc (.cells #[.int .i64 R] 3)) 9 (.string c)).alloc (.cells #[.int .i64 0] 3)).alloc (.cells #[.slice a len cap] 40);have bO:=(Boxed.new ((w.alloc (.cells #[.int .i64 R] 3)).alloc (.cells #[.string c] 9)) 3 (.int .i64 0)).alloc (.cells #[.slice a len cap] 40);have bS:=Boxed.new (((w.alloc (.cells #[.int .i64 R] 3)).alloc (.cells #[.string c] 9)).alloc (.cells #[.int .i64 0] 3)) 40 (.slice a len cap);simp only [World.size_alloc] at bR bC bO bS;have nE:Below w.heap.size w ((((w.alloc (.cells #[.int .i64 R] 3)).alloc (.cells #[.string c] 9)).alloc (.cells #[.int .i64 0] 3)).alloc (.cells #[.slice a len cap] 40)):=((((Below.refl _ w).alloc (Nat.le_refl _) _).alloc (by simp) _).alloc (by simp;omega) _).alloc (by simp;omega) _;have aM:((((w.alloc (.cells #[.int .i64 R] 3)).alloc (.cells #[.string c] 9)).alloc (.cells #[.int .i64 0] 3)).alloc (.cells #[.slice a len cap] 40)).heap.size=w.heap.size+4:=by simp
 obtain ⟨W0,F_⟩ : ∃ W0,(((w.alloc (.cells #[.int .i64 R] 3)).alloc (.cells #[.string c] 9)).alloc (.cells #[.int .i64 0] 3)).alloc (.cells #[.slice a len cap] 40)=W0:=⟨_,rfl⟩
 rw [F_] at bR bC bO bS nE aM ⊢;clear F_;refine wpIn_rangeFunc_ownH l6 h1 (gf:=159) (lb:=#[.pointer (some ⟨w.heap.size+1+1+1,0,none⟩)]) rfl F9 (enters_of Tryz.func159 (by kernel_rfl) rfl)
  (L2 F (n - 1) F9 l6 (by omega) (w.heap.size+1+1+1) (w.heap.size+4) (.slice a len cap) zs ji W0 (by omega) (by omega) bS.cell (hI.below nE (by omega))) belowK_t (belowK_b (by omega)) (Below.refl _ _) (fun _=>rfl)
  (fun pre W=>((((∀ p∈pre,ir p.2 R c=false)∧Boxed W (w.heap.size+1+1) 3 (.int .i64 0))∧Boxed W w.heap.size 3 (.int .i64 R))∧Boxed W (w.heap.size+1) 9 (.string c))∧Below (w.heap.size+4) W0 W)
  (fun cd pre W=>((cd = .ret∧∃ wg last,pre=wg++[last]∧(∀ p∈wg,ir p.2 R c=false)∧ir last.2 R c=true∧Boxed W (w.heap.size+1+1) 3 (.int .i64 (last.1:Int))))∧Below w.heap.size w W)
  (OwnFrom.and (OwnFrom.and (OwnFrom.and (OwnFrom.and (ownFrom_pure _ _) (Own.from (boxed_own _ _ _) _)) (Own.from (boxed_own _ _ _) _)) (Own.from (boxed_own _ _ _) _)) (ownFrom_below (by omega) (by omega)))
  (fun cd=>OwnFrom.and (Own.from (fun s A B row hs hg hr=>by obtain ⟨hc,wg,last,e1,e2,e3,e4⟩:=hs;exact ⟨hc,wg,last,e1,e2,e3,boxed_own _ 3 (fun (_:Unit)=>Value.int .i64 (last.1:Int)) () A B row e4 hg hr⟩) _) (ownFrom_below (Nat.le_refl _) (by omega)))
  ⟨⟨⟨⟨by simp,bO⟩,bR⟩,bC⟩,Below.refl _ _⟩
  (fun x a' W=>∃ Bx,w.heap.size+4≤Bx∧Bk W Bx 45 #[.int .i64 x.2.kind,.int .i64 x.2.rank,.string x.2.car]∧a' = { tmps:=#[.slice a len cap,.int .i64 R,.string c,undef,.pointer (some ⟨w.heap.size,0,none⟩),.pointer (some ⟨w.heap.size+1,0,none⟩),.pointer (some ⟨w.heap.size+1+1,0,none⟩),.int .i64 (x.1:Int),.pointer (some ⟨Bx,0,none⟩),.slice a len cap,.func (.func 159) #[] #[.pointer (some ⟨w.heap.size+1+1+1,0,none⟩)],.int .i64 (x.1:Int),sgV x.2,undef,undef,undef,undef,undef,undef,undef,undef,undef,undef,undef],defers:=[] })
  (fun x a' _ X Y row hs hg hr=>by obtain ⟨Bx,e1,e2,e3⟩:=hs;exact ⟨Bx,e1,L4 Bx _ _ e2 hg (fun r e=>(hr r e).2),e3⟩)
  ?assign ?body ?done ?stop
 case assign=>
  rintro l pre x W K ⟨⟨⟨⟨hp,b1⟩,b2⟩,b3⟩,mj⟩ hK;have hle:w.heap.size+4≤W.heap.size:=by have:=mj.size;omega
  unfold sgV;gi_wp2
  exact hK _ _ ((KeepsOthers.alloc _ _).from _) ((Below.refl _ W).alloc hle _) ⟨⟨⟨⟨hp,b1.alloc _⟩,b2.alloc _⟩,b3.alloc _⟩,mj.alloc hle _⟩ ⟨W.heap.size,hle,Bk.new W _ _,rfl⟩
 case body=>
  rintro l pre x a' W hl _ ⟨⟨⟨⟨hp,b1⟩,b2⟩,b3⟩,mj⟩ ⟨Bx,Q8,bX,rfl⟩ aq;have x0:W.cell? ⟨Bx,0,none⟩=some (.int .i64 x.2.kind):=bX.cell 0;have x1:W.cell? ⟨Bx,1,none⟩=some (.int .i64 x.2.rank):=bX.cell 1;have x2:W.cell? ⟨Bx,2,none⟩=some (.string x.2.car):=bX.cell 2;have c1:=b1.cell;have f1:=b1.frozen;have c2:=b2.cell;have c3:=b3.cell;have hW:Below w.heap.size w W:=nE.trans (mj.mono (by omega));have bD:¬(x.2.rank=R∧x.2.car=c)→∀ p∈pre++[x],ir p.2 R c=false:=fun hh p sy=>by
   rcases List.mem_append.1 sy with h|h
   ·exact hp p h
   ·simp at h;subst h;cases hs:ir p.2 R c
    ·rfl
    ·exact absurd (pN.1 hs) hh
  gi_wp2
  ·rename_i h1 h2;exact ⟨(KeepsOthers.setCell _ _ _).from _,⟨rfl,pre,x,rfl,hp,pN.2 ⟨h1,L8.1 h2⟩,b1.set _⟩,hW.setCell (p:=⟨w.heap.size+1+1,0,none⟩) (show w.heap.size≤w.heap.size+1+1 by omega) _⟩
  ·rename_i h1 h2;exact ⟨KeepsFrom.refl _ _,Below.refl _ _,⟨⟨⟨bD fun hh=>by rw [hh.2] at h2;simp at h2,b1⟩,b2⟩,b3⟩,mj⟩
  ·rename_i h1;exact ⟨KeepsFrom.refl _ _,Below.refl _ _,⟨⟨⟨bD fun hh=>h1 hh.1,b1⟩,b2⟩,b3⟩,mj⟩
 case done=>
  rintro D ys W hD rfl ⟨⟨⟨⟨hp,b1⟩,b2⟩,b3⟩,mj⟩ hK;have c1:=b1.cell;have f1:=b1.frozen;have hW:Below w.heap.size w W:=nE.trans (mj.mono (by omega));gi_wp2
  have Cb:=(KeepsOthers.setCell W ⟨w.heap.size+1+1,0,none⟩ (.int .i64 (-1))).same D _ hK rfl;refine ⟨by simp,.inl ⟨_,_,rfl,run_takeDeferred Cb,?_⟩⟩;have wh:=cell_kept (b1.set (.int .i64 (-1))).cell (grownBy_putObj' _ D (.deferred none)) (fun r e=>by cases e;exact ⟨_,Cb,rfl⟩);refine ⟨.int .i64 (-1),?_,.inl ⟨rfl,hp⟩,(hW.setCell (p:=⟨w.heap.size+1+1,0,none⟩) (show w.heap.size≤w.heap.size+1+1 by omega) _).trans (belowK_b (w:=w) (Nat.le_refl _) _ D _ _ (by omega) Cb rfl rfl)⟩;simp [results,Tryz.f92,go_sem,wh]
 case stop=>
  rintro D cd pre W hD ⟨k,hk,rfl⟩ ⟨⟨rfl,wg,last,e1,e2,e3,b1⟩,mj⟩ hK;gi_wp2
  refine ⟨by simp,.inl ⟨_,_,rfl,run_takeDeferred hK,?_⟩⟩;have wh:=cell_kept b1.cell (grownBy_putObj' _ D (.deferred none)) (fun r e=>by cases e;exact ⟨_,hK,rfl⟩);obtain ⟨k',rfl⟩ : ∃ k',k=k'+1:=by
   cases k with
   | zero=>simp [jZ] at e1
   | succ k'=>exact ⟨k',rfl⟩
  rw [F8] at e1;obtain ⟨rfl,e5⟩:=List.append_inj' e1 rfl;obtain rfl:bkF zs k'=last:=by simpa using e5
  refine ⟨.int .i64 ((bkF zs k').1:Int),?_,.inr ⟨k',by omega,rfl,e3,e2⟩,mj.trans (belowK_b (w:=w) (Nat.le_refl _) W D _ _ (by omega) hK rfl rfl)⟩;simp [results,Tryz.f92,go_sem,wh]
set_option maxHeartbeats 2000000
theorem L9 {w:World} {M:Nat→Nat→Prop} {l:List Sg} {v:Value} (h:V0 w M (.sl 3 (l.map Sg.av)) v) : SgsV w.heap.size w v l:=by
 generalize he:l.map Sg.av=es at h;cases h with
 | slNil _ A cap=>
  exact .inl ⟨A,cap,rfl,List.map_eq_nil_iff.1 he⟩
 | sl _ _ cap b o u ax hb hM dy aM h1 hc hv=>
  subst he;rw [List.length_map] at dy hc ⊢;refine .inr ⟨b,o,cap,rfl,hb,dy,fun j hj=>?_⟩;have hx:(l.map Sg.av)[j]? = some (Sg.av (aI l j)):=by rw [List.getElem?_map,List.getElem?_eq_getElem hj,y8 hj];rfl
  have e0:=hv j _ 0 (I (aI l j).kind) hx rfl;have e1:=hv j _ 1 (I (aI l j).rank) hx rfl;have e2:=hv j _ 2 (S (aI l j).car) hx rfl;rw [←V0.lit_inv e0,←V0.lit_inv e1,←V0.lit_inv e2];exact ⟨hc j 0 hj (by decide),hc j 1 hj (by decide),hc j 2 hj (by decide)⟩
theorem L_ {L:List Sg} {R:Int} {c:ByteArray} {k:Nat} (h:∀ j,j < k→ir (aI L j) R c=false) : gZ L R c k = -1:=by
 rcases ug L R c k with ⟨h1,_⟩|⟨j,_,h2,h3,_⟩
 ·exact h1
 ·rw [h j h2] at h3;cases h3
theorem Ma {L:List Sg} {R:Int} {c:ByteArray} {k i:Nat} (hi:i < k) (hs:ir (aI L i) R c=true) (h:∀ j,i < j→j < k→ir (aI L j) R c=false) : gZ L R c k=i:=by
 rcases ug L R c k with ⟨_,h2⟩|⟨j,h1,h2,h3,h4⟩
 ·rw [h2 i hi] at hs;cases hs
 ·have:j=i:=by
   rcases Nat.lt_trichotomy i j with hh|hh|hh
   ·rw [h j hh h2] at h3;cases h3
   ·exact hh.symm
   ·rw [h4 i hh hi] at hs;cases hs
  rw [h1,this]
theorem Mb (l:List Sg) (R:Int) (c:ByteArray) (hl:l.length≤1000000) : VC Tryz.prog 92 [.sl 3 (l.map Sg.av),I R,S c] (I (gZ l R c l.length)):=by
 refine ⟨by kernel_rfl,fun w M vs hM ix hv=>?_⟩;obtain ⟨v1,v2,v3,rfl⟩ : ∃ v1 v2 v3,vs=[v1,v2,v3]:=by
  rcases vs with _|⟨a,_|⟨b,_|⟨c,_|⟨_,_⟩⟩⟩⟩
  all_goals first|exact ⟨a,b,c,rfl⟩|(simp at ix)
 have cR:=hv 0 _ _ rfl rfl;obtain rfl:=V0.lit_inv (hv 1 _ _ rfl rfl);obtain rfl:=V0.lit_inv (hv 2 _ _ rfl rfl);have hI:=L9 cR;obtain ⟨A,n,cap,rfl⟩:=cR.sl_form;have h:=(L5 { fn:=fun _=>True } 3 trivial trivial trivial rfl (Nat.le_refl _) A n cap l R c hl w hI).calls (fun k d hd=>by cases hd);refine h.mono ?_;rintro e w' ⟨he,hb⟩;have dW:∀ (p:Nat×Sg) (k:Nat),p∈jZ (bkF l) k↔∃ j,j < k∧bkF l j=p:=fun p k=>by simp [jZ]
 rcases he with ⟨rfl,hn⟩|⟨k,hk,rfl,hs,hn⟩
 ·refine ⟨_,rfl,hb,?_⟩;rw [L_ fun j hj=>?_]
  ·exact .lit _
  ·have:=hn (bkF l (l.length - 1 - j)) ((dW _ _).2 ⟨l.length - 1 - j,by omega,rfl⟩);unfold bkF at this;rwa [show l.length - 1 - (l.length - 1 - j)=j by omega] at this
 ·refine ⟨_,rfl,hb,?_⟩;have e:gZ l R c l.length=((bkF l k).1:Int):=by
   refine Ma (by unfold bkF;simp only;omega) hs fun j h1 h2=>?_;unfold bkF at h1;simp only at h1;have:=hn (bkF l (l.length - 1 - j)) ((dW _ _).2 ⟨l.length - 1 - j,by omega,rfl⟩);unfold bkF at this;rwa [show l.length - 1 - (l.length - 1 - j)=j by omega] at this
  rw [e];exact .lit _
end Go.Proofs.YtoibondihdhnoaaGreatDoor
namespace Go.Proofs.YtoibondihdhnoaaGreatDoor
open Go.RowKit
set_option maxRecDepth 100000
set_option maxHeartbeats 2000000
theorem Md {l:List Sg} {k j:Nat} (h:j < k) : aI (l.take k) j=aI l j:=by
 unfold aI;rw [List.getD_eq_getElem?_getD,List.getElem?_take_of_lt h,List.getD_eq_getElem?_getD]
theorem Ga {L L':List Sg} {R:Int} {c:ByteArray} : ∀ {k:Nat},(∀ j,j < k→aI L j=aI L' j)→gZ L R c k=gZ L' R c k
 | 0,_=>rfl
 | k+1,h=>by rw [gZ,gZ,h k (by omega),Ga fun j hj=>h j (by omega)]
theorem wi (l:List Sg) (k:Nat) (R:Int) (c:ByteArray) (hk:k≤l.length) (hl:l.length≤1000000) : VC Tryz.prog 92 [.sl 3 ((l.map Sg.av).take k),I R,S c] (I (gZ l R c k)):=by
 have h:=Mb (l.take k) R c (by rw [List.length_take];omega);rw [List.length_take,Nat.min_eq_left hk,List.map_take,Ga fun j hj=>Md hj] at h;exact h
def iat (l:List Int) (k:Nat) : Int:=l.getD k 0
theorem Gb {l:List Int} {k:Nat} (h:k < l.length) : iat l k=l[k]:=by simp [iat,h]
theorem Me (l:List Int) (x:Int) (hl:l.length≤1000000) : VC Tryz.prog 140 [.sl 1 (l.map eK),I x] (I (ixP (fun j=>decide (iat l j=x)) 0 l.length)):=by
 obtain ⟨R,hR⟩ : ∃ R,ixP (fun j=>decide (iat l j=x)) 0 l.length=R:=⟨_,rfl⟩
 rw [hR];have HR:=Lib.hid hR;clear hR;refine aJ Tryz.func140 rfl (by kernel_rfl) rfl fun M0 w0=>?_;simp only [Tryz.ntmps140,Tryz.results140,aC];repeat' with_reducible first|apply af|apply ae|apply az|apply aa|refine ah [] ?_|(apply ab;intro Z U;go_simp;apply U;clear U Z)
 apply ef [0,1,7] (fun k=>[(8,I k)]) (fun k=>([] : Hp)) (fun j=>decide (iat l j=x)) (l.length)
 ·go_simp<;>exact rfl
 ·go_simp
 ·intro k hk HB HP K hK;obtain ⟨w1,w2,w3,w4,w5,w6⟩:=ixs (m:=k) (by omega);have hp:¬x=l[k]:=fun h=>by
   have:=HP.out;simp only [Gb hk,h] at this;simp at this
  repeat' with_reducible first|apply af|apply ae|apply ao|apply az|apply aY|apply aa|refine ah [] ?_|(apply au;·go_simp)|(apply aj;·go_simp)|(apply ab;intro Z U;go_simp;apply U;clear U Z)
  refine hK _ ?_;go_simp
 ·intro k hk HB HP K;have hp:x=l[k]:=by
   have:=HP.out;rw [Gb hk] at this;exact (of_decide_eq_true this).symm
  have e:=HR.out;rw [kp hk HB.out HP.out] at e;subst e;repeat' with_reducible first|apply af|apply ae|apply aR|apply aw|apply ao|apply az|apply cB|apply aa|refine ah [] ?_|(apply au;·go_simp)|(apply ab;intro Z U;go_simp;apply U;clear U Z)
  go_simp
 ·intro HB K;have e:=HR.out;rw [kQ HB.out] at e;subst e;repeat (with_reducible first|apply af|apply ae|apply bE|apply aw|apply bF|apply bG|apply aa|refine ah [] ?_|(apply aj;·go_simp)|(apply ab;intro Z U;go_simp;apply U;clear U Z))
  go_simp
theorem Mf (l:List Int) (x:Int) (hl:l.length≤1000000) : VC Tryz.prog 87 [.sl 1 (l.map eK),I x] (B (gz (fun j=>decide (iat l j=x)) 0 l.length)):=by
 have g:=Me l x hl;rw [←yK];generalize ixP (fun j=>decide (iat l j=x)) 0 l.length=R at *;refine aJ Tryz.func87 rfl (by kernel_rfl) rfl fun M0 w0=>?_;simp only [Tryz.ntmps87,Tryz.results87,aC];repeat' with_reducible first|apply af|apply ae|apply aw|apply aa|refine ah [] ?_|(apply ab;intro Z U;go_simp;(first|(refine ⟨_,g,?_⟩)|skip);apply U;clear U Z)
 go_simp
theorem Mg (x:Int) : gz (fun j=>decide (iat [0,1,2,3] j=x)) 0 4=inR x 0 3:=by
 by_cases h:0≤x∧x≤3
 ·rw [pw.2 h];have hx:x=((x.toNat:Nat) : Int):=by omega
  refine nB (k:=x.toNat) (by omega) ?_;have:x=0∨x=1∨x=2∨x=3:=by omega
  rcases this with rfl|rfl|rfl|rfl<;>rfl
 ·have hf:inR x 0 3=false:=by
   cases hh:inR x 0 3
   ·rfl
   ·exact absurd (pw.1 hh) h
  rw [hf];refine qC fun j hj=>decide_eq_false fun he=>h ?_;have:j=0∨j=1∨j=2∨j=3:=by omega
  rcases this with rfl|rfl|rfl|rfl<;>simp [iat] at he<;>omega
theorem Gc (x:Int) : VC Tryz.prog 87 [.sl 1 [[I 0],[I 1],[I 2],[I 3]],I x] (B (inR x 0 3)):=by
 have:=Mf [0,1,2,3] x (by decide);rwa [show ([0,1,2,3] : List Int).length=4 from rfl,Mg] at this
def sgE (l:List Sg) (k:Nat) : Int:=fst [unl (inR (aI l k).kind 0 3) 15,unl (inR (aI l k).rank 0 5) 2,unl (dj (aI l k).car) 4]
def qL (l:List Sg) : Int:=if 200 < l.length then 8 else (ko (sgE l) 0 l.length).2
def ovE (l:List Sg) : Int:=if qL l≠0 then qL l else if sn l < 0 then 12 else 0
def ovT (l:List Sg) : AV:=if ovE l≠0 then .agg [I 0,I 0,I 0] else .agg [I (nD l (sn l).toNat),I (jOf l (sn l).toNat),I (sn l)]
theorem Gd (l:List Sg) (hl:l.length≤1000000) (hc:∀ k,k < l.length→(aI l k).car.size≤1000) : VC Tryz.prog 27 [Ge l] (.tup [ovT l,I (ovE l)]):=by
 obtain ⟨E,hE⟩ : ∃ E,ovE l=E:=⟨_,rfl⟩
 obtain ⟨T,hT⟩ : ∃ T,ovT l=T:=⟨_,rfl⟩
 rw [hE,hT];by_cases h2:200 < l.length
 ·have e1:ovE l=8:=by unfold ovE qL;rw [if_pos h2,if_pos (by decide)]
  have e2:ovT l = .agg [I 0,I 0,I 0]:=by unfold ovT;rw [e1,if_pos (by decide)]
  rw [e1] at hE;rw [e2] at hT;subst hE hT;have h3:(200:Int) < (l.length:Int):=by omega
  clear hc e1 e2;refine aJ Tryz.func27 rfl (by kernel_rfl) rfl fun M0 w0=>?_;simp only [Tryz.ntmps27,Tryz.results27,aC];repeat' with_reducible first|apply af|apply ae|apply aR|apply aw|apply aa|refine ah [] ?_|(apply au;·go_simp)|(apply ab;intro Z U;go_simp;apply U;clear U Z)
  go_simp
 have HE:=Lib.hid hE;have HT:=Lib.hid hT;have HC:=Lib.hid hc;have h3:¬(200:Int) < (l.length:Int):=by omega
 clear hE hT hc;refine aJ Tryz.func27 rfl (by kernel_rfl) rfl fun M0 w0=>?_;simp only [Tryz.ntmps27,Tryz.results27,aC];repeat' with_reducible first|apply af|apply ae|apply ao|apply az|apply aa|refine ah [] ?_|(apply aj;·go_simp)|(apply ab;intro Z U;go_simp;apply U;clear U Z)
 apply ef [0,2,17,18] (fun k=>[(19,I k)]) (fun k=>([some (.box [I 0,I 0,I 0])] : Hp)) (fun k=>!decide (sgE l k=0)) (l.length)
 ·go_simp<;>exact rfl
 ·go_simp
 ·intro k hk HB HP K hK;obtain ⟨w1,w2,w3,w4,w5,w6⟩:=ixs (m:=k) (by omega);have i1:=Gc (aI l k).kind;have i2:=np (aI l k).rank 0 5;have i3:=tW (aI l k).car (HC.out k hk);have u1:=bY (inR (aI l k).kind 0 3) 15;have u2:=bY (inR (aI l k).rank 0 5) 2;have u3:=bY (dj (aI l k).car) 4;have g3:VC Tryz.prog 88 [.sl 1 ([unl (inR (aI l k).kind 0 3) 15,unl (inR (aI l k).rank 0 5) 2,unl (dj (aI l k).car) 4].map eK)] (I (sgE l k)):=fF _ rfl rfl;have he:sgE l k=0:=by simpa using HP.out
  rw [he] at g3;clear he;generalize inR (aI l k).kind 0 3=D1 at *;generalize inR (aI l k).rank 0 5=D2 at *;generalize dj (aI l k).car=D3 at *;generalize unl D1 15=A1 at *;generalize unl D2 2=A2 at *;generalize unl D3 4=A3 at *;repeat' first|(with_reducible first|apply af|apply ae|apply ao|apply az|apply aY|apply aa|refine ah [] ?_|apply aP|(apply au;·go_simp)|(apply aj;·go_simp))|((with_reducible first|apply ab|apply aO);intro Z U;go_simp;(first|(refine ⟨_,i1,?_⟩)|(with_reducible refine ⟨_,i2,?_⟩)|(with_reducible refine ⟨_,i3,?_⟩)|(with_reducible refine ⟨_,u1,?_⟩)|(with_reducible refine ⟨_,u2,?_⟩)|(with_reducible refine ⟨_,u3,?_⟩)|(refine ⟨_,g3,?_⟩)|skip);apply U;clear U Z)|((refine bf 13 13 [] rfl (by kernel_rfl) ?_);simp only [aA])
  refine hK _ ?_;go_simp
 ·intro k hk HB HP K;have i1:=Gc (aI l k).kind;have i2:=np (aI l k).rank 0 5;have i3:=tW (aI l k).car (HC.out k hk);have u1:=bY (inR (aI l k).kind 0 3) 15;have u2:=bY (inR (aI l k).rank 0 5) 2;have u3:=bY (dj (aI l k).car) 4;have g3:VC Tryz.prog 88 [.sl 1 ([unl (inR (aI l k).kind 0 3) 15,unl (inR (aI l k).rank 0 5) 2,unl (dj (aI l k).car) 4].map eK)] (I (sgE l k)):=fF _ rfl rfl;have ax:sgE l k≠0:=by simpa using HP.out
  have e1:ovE l=sgE l k:=by
   unfold ovE qL;rw [if_neg h2,BR hk HB.out HP.out,if_pos ax]
  have e2:ovT l = .agg [I 0,I 0,I 0]:=by unfold ovT;rw [e1,if_pos ax]
  have hE:=HE.out;have hT:=HT.out;rw [e1] at hE;rw [e2] at hT;subst hE hT;clear e1 e2 HE HT;generalize sgE l k=E at *;generalize inR (aI l k).kind 0 3=D1 at *;generalize inR (aI l k).rank 0 5=D2 at *;generalize dj (aI l k).car=D3 at *;generalize unl D1 15=A1 at *;generalize unl D2 2=A2 at *;generalize unl D3 4=A3 at *;repeat' first|(with_reducible first|apply af|apply ae|apply aR|apply aw|apply ao|apply az|apply cB|apply aa|refine ah [] ?_|apply aP|(apply au;·go_simp))|((with_reducible first|apply ab|apply aO);intro Z U;go_simp;(first|(refine ⟨_,i1,?_⟩)|(with_reducible refine ⟨_,i2,?_⟩)|(with_reducible refine ⟨_,i3,?_⟩)|(with_reducible refine ⟨_,u1,?_⟩)|(with_reducible refine ⟨_,u2,?_⟩)|(with_reducible refine ⟨_,u3,?_⟩)|(refine ⟨_,g3,?_⟩)|skip);apply U;clear U Z)|((refine bf 13 13 [] rfl (by kernel_rfl) ?_);simp only [aA])
  go_simp
 intro Mh K;have hS:qL l=0:=by
  unfold qL;rw [if_neg h2,yM l.length 0 (fun j hj=>Mh.out j (by omega))]
 have HS:=Lib.hid hS;clear hS;repeat' with_reducible first|apply af|apply ae|apply bE|apply bF|apply az|apply bG|apply aa|refine ah [] ?_|(apply aj;·go_simp)|(apply ab;intro Z U;go_simp;apply U;clear U Z)
 apply ef [0,2,44,45] (fun k=>[(46,I k)]) (fun k=>([some (.box [I 0,I 0,I 0])] : Hp)) (yP l) (l.length)
 ·go_simp<;>exact rfl
 ·go_simp
 ·intro k hk HB HP K hK;obtain ⟨w1,w2,w3,w4,w5,w6⟩:=ixs (m:=k) (by omega);have cw:k≤l.length:=by omega
  have lg:(k:Int)≤(l.length:Int):=by omega
  have gl:VC Tryz.prog 92 [.sl 3 ((l.map Sg.av).take k),I (aI l k).rank,S (aI l k).car] (I (jOf l k)):=wi l k _ _ cw hl;have hp:¬0≤nD l k:=of_decide_eq_false HP.out;by_cases iO:(aI l k).kind=1
  ·by_cases hg:lZ l k=true
   ·obtain ⟨j,ej,hj⟩:=yR (show 0≤jOf l k by unfold lZ at hg;simp only [Bool.and_eq_true,decide_eq_true_eq] at hg;exact hg.1);have kE:(aI l j).kind=0:=by
     unfold lZ at hg;rw [ej,Int.toNat_natCast] at hg;simp only [Bool.and_eq_true,decide_eq_true_eq] at hg;exact hg.2
    have hf:nD l k=ixP (okI l k) 0 j:=by unfold nD;rw [if_pos ⟨iO,hg⟩,ej,Int.toNat_natCast]
    rw [hf] at hp;rw [ej] at gl;have Cc:=Lib.hid hp;clear hp hf hg ej;have bB:j < l.length:=by omega
    have mK:j≤l.length:=by omega
    have Bm:(j:Int)≤(l.length:Int):=by omega
    have iV:min j l.length=j:=by omega
    obtain ⟨y,hy⟩ : ∃ y,aI l k=y:=⟨_,rfl⟩
    rw [hy] at iO gl;obtain ⟨k0,l7⟩ : ∃ k0,k0=k:=⟨_,rfl⟩
    have HK:=Lib.hid l7;clear l7;repeat' first|(with_reducible first|apply af|apply ae|apply ao|apply az|apply aa|refine ah [] ?_|apply aP|(apply au;·go_simp)|(apply aj;·go_simp)|((first|apply ab|apply aO);intro Z U;go_simp;(first|(refine ⟨_,gl,?_⟩)|skip);apply U;clear U Z))|((refine bf 9 9 [] rfl (by kernel_rfl) ?_);simp only [aA])
    apply ef [0,2,8,9,10,44,45,46,74,75] (fun k=>[(76,I k)]) (fun k=>([some (.box [I 0,I 0,I 0]),some (.box [I 1,I y.rank,S y.car])] : Hp)) (okI l k0) (j)
    ·go_simp<;>exact rfl
    ·go_simp
    ·intro i hi j0 jj K2 gP;have bJ:i < k:=by omega
     have cu:i < l.length:=by omega
     obtain ⟨x1,x2,x3,x4,x5,x6⟩:=ixs (m:=i) (by omega);have gi:VC Tryz.prog 92 [.sl 3 ((l.map Sg.av).take k),I (aI l i).rank,S (aI l i).car] (I (gZ l (aI l i).rank (aI l i).car k)):=wi l k _ _ cw hl;have ho:=jj.out;rw [HK.out] at ho;unfold okI at ho;rw [hy] at ho;by_cases q1:(aI l i).kind=0
     ·by_cases q2:(aI l i).rank=y.rank
      ·by_cases q3:(aI l i).car=y.car
       ·clear ho;repeat' first|(with_reducible first|apply af|apply ae|apply ao|apply az|apply aY|apply aa|refine ah [] ?_|apply aP|(apply au;·go_simp)|(apply aj;·go_simp)|((first|apply ab|apply aO);intro Z U;go_simp;apply U;clear U Z))|((refine bf 29 29 [] rfl (by kernel_rfl) ?_);simp only [aA])
        refine gP _ ?_;go_simp
       ·have q4:¬gZ l (aI l i).rank (aI l i).car k=i:=by
         rw [decide_eq_true q1,decide_eq_true q2,decide_eq_false q3] at ho;simpa using ho
        generalize gZ l (aI l i).rank (aI l i).car k=Q at *;clear ho;rw [q2] at gi;repeat' first|(with_reducible first|apply af|apply ae|apply ao|apply az|apply aY|apply aa|refine ah [] ?_|apply aP|(apply au;·go_simp)|(apply aj;·go_simp)|((first|apply ab|apply aO);intro Z U;go_simp;(first|(refine ⟨_,gi,?_⟩)|skip);apply U;clear U Z))|((refine bf 29 29 [] rfl (by kernel_rfl) ?_);simp only [aA])
        refine gP _ ?_;go_simp
      ·clear ho;repeat' first|(with_reducible first|apply af|apply ae|apply ao|apply az|apply aY|apply aa|refine ah [] ?_|apply aP|(apply au;·go_simp)|(apply aj;·go_simp)|((first|apply ab|apply aO);intro Z U;go_simp;apply U;clear U Z))|((refine bf 29 29 [] rfl (by kernel_rfl) ?_);simp only [aA])
       refine gP _ ?_;go_simp
     ·clear ho;repeat' first|(with_reducible first|apply af|apply ae|apply ao|apply az|apply aY|apply aa|refine ah [] ?_|apply aP|(apply au;·go_simp)|(apply aj;·go_simp)|((first|apply ab|apply aO);intro Z U;go_simp;apply U;clear U Z))|((refine bf 29 29 [] rfl (by kernel_rfl) ?_);simp only [aA])
      refine gP _ ?_;go_simp
    ·intro i hi j0 jj K2;have:=kp hi j0.out jj.out;have h5:=Cc.out;rw [←HK.out,this] at h5;exact absurd (by omega) h5
    ·intro j0 K2;repeat' with_reducible first|apply af|apply ae|apply bE|apply bF|apply aY|apply bG|apply aa|refine ah [] ?_|(apply aj;·go_simp)|(apply ab;intro Z U;go_simp;apply U;clear U Z)
     refine hK _ ?_;go_simp
   ·have Gf:jOf l k < 0∨∃ j:Nat,jOf l k=j∧j < k∧¬(aI l j).kind=0:=by
     by_cases h0:0≤jOf l k
     ·obtain ⟨j,ej,hj⟩:=yR h0;refine .inr ⟨j,ej,hj,fun hh=>hg ?_⟩;unfold lZ;rw [ej,Int.toNat_natCast,hh];simp
     ·exact .inl (by omega)
    rcases Gf with Gf|⟨j,ej,hj,kE⟩
    ·generalize jOf l k=J at *;clear hp hg;repeat' first|(with_reducible first|apply af|apply ae|apply bE|apply ao|apply bF|apply az|apply bG|apply aa|refine ah [] ?_|apply aP|(apply au;·go_simp)|(apply aj;·go_simp)|((first|apply ab|apply aO);intro Z U;go_simp;(first|(refine ⟨_,gl,?_⟩)|skip);apply U;clear U Z))|((refine bf 9 9 [] rfl (by kernel_rfl) ?_);simp only [aA])
     refine hK _ ?_;go_simp
    ·rw [ej] at gl;have bB:j < l.length:=by omega
     clear hp hg ej;repeat' first|(with_reducible first|apply af|apply ae|apply bE|apply ao|apply bF|apply az|apply bG|apply aa|refine ah [] ?_|apply aP|(apply au;·go_simp)|(apply aj;·go_simp)|((first|apply ab|apply aO);intro Z U;go_simp;(first|(refine ⟨_,gl,?_⟩)|skip);apply U;clear U Z))|((refine bf 9 9 [] rfl (by kernel_rfl) ?_);simp only [aA])
     refine hK _ ?_;go_simp
  ·clear hp gl;repeat' with_reducible first|apply af|apply ae|apply bE|apply ao|apply bF|apply az|apply bG|apply aa|refine ah [] ?_|(apply au;·go_simp)|(apply ab;intro Z U;go_simp;apply U;clear U Z)
   refine hK _ ?_;go_simp
 ·intro k hk HB HP K;obtain ⟨w1,w2,w3,w4,w5,w6⟩:=ixs (m:=k) (by omega);have cw:k≤l.length:=by omega
  have lg:(k:Int)≤(l.length:Int):=by omega
  have gl:VC Tryz.prog 92 [.sl 3 ((l.map Sg.av).take k),I (aI l k).rank,S (aI l k).car] (I (jOf l k)):=wi l k _ _ cw hl;have hp:0≤nD l k:=of_decide_eq_true HP.out;have eE:(aI l k).kind=1∧lZ l k=true:=Classical.byContradiction fun hh=>by
   unfold nD at hp;rw [if_neg hh] at hp;omega
  obtain ⟨iO,hg⟩:=eE;obtain ⟨j,ej,hj⟩:=yR (show 0≤jOf l k by unfold lZ at hg;simp only [Bool.and_eq_true,decide_eq_true_eq] at hg;exact hg.1);have kE:(aI l j).kind=0:=by
   unfold lZ at hg;rw [ej,Int.toNat_natCast] at hg;simp only [Bool.and_eq_true,decide_eq_true_eq] at hg;exact hg.2
  have hf:nD l k=ixP (okI l k) 0 j:=by unfold nD;rw [if_pos ⟨iO,hg⟩,ej,Int.toNat_natCast]
  have eO:sn l=(k:Int):=kp hk HB.out HP.out;have e1:ovE l=0:=by unfold ovE;rw [HS.out,if_neg (by simp),eO,if_neg (by omega)]
  have e2:ovT l = .agg [I (nD l k),I (jOf l k),I (k:Int)]:=by unfold ovT;rw [e1,if_neg (by simp),eO,Int.toNat_natCast]
  have hE:=HE.out;have hT:=HT.out;rw [e1] at hE;rw [e2,ej,hf] at hT;rw [hf] at hp;rw [ej] at gl;have Cc:=Lib.hid hp;have Mi:=Lib.hid hT;subst hE;clear hp hf hg ej e1 e2 eO hT HE HT;have bB:j < l.length:=by omega
  have mK:j≤l.length:=by omega
  have Bm:(j:Int)≤(l.length:Int):=by omega
  have iV:min j l.length=j:=by omega
  obtain ⟨y,hy⟩ : ∃ y,aI l k=y:=⟨_,rfl⟩
  rw [hy] at iO gl;obtain ⟨k0,l7⟩ : ∃ k0,k0=k:=⟨_,rfl⟩
  have HK:=Lib.hid l7;clear l7;repeat' first|(with_reducible first|apply af|apply ae|apply ao|apply az|apply aa|refine ah [] ?_|apply aP|(apply au;·go_simp)|(apply aj;·go_simp)|((first|apply ab|apply aO);intro Z U;go_simp;(first|(refine ⟨_,gl,?_⟩)|skip);apply U;clear U Z))|((refine bf 9 9 [] rfl (by kernel_rfl) ?_);simp only [aA])
  apply ef [0,2,8,9,10,44,45,46,74,75] (fun k=>[(76,I k)]) (fun k=>([some (.box [I 0,I 0,I 0]),some (.box [I 1,I y.rank,S y.car])] : Hp)) (okI l k0) (j)
  ·go_simp<;>exact rfl
  ·go_simp
  ·intro i hi j0 jj K2 gP;have bJ:i < k:=by omega
   have cu:i < l.length:=by omega
   obtain ⟨x1,x2,x3,x4,x5,x6⟩:=ixs (m:=i) (by omega);have gi:VC Tryz.prog 92 [.sl 3 ((l.map Sg.av).take k),I (aI l i).rank,S (aI l i).car] (I (gZ l (aI l i).rank (aI l i).car k)):=wi l k _ _ cw hl;have ho:=jj.out;rw [HK.out] at ho;unfold okI at ho;rw [hy] at ho;by_cases q1:(aI l i).kind=0
   ·by_cases q2:(aI l i).rank=y.rank
    ·by_cases q3:(aI l i).car=y.car
     ·clear ho;repeat' first|(with_reducible first|apply af|apply ae|apply ao|apply az|apply aY|apply aa|refine ah [] ?_|apply aP|(apply au;·go_simp)|(apply aj;·go_simp)|((first|apply ab|apply aO);intro Z U;go_simp;apply U;clear U Z))|((refine bf 29 29 [] rfl (by kernel_rfl) ?_);simp only [aA])
      refine gP _ ?_;go_simp
     ·have q4:¬gZ l (aI l i).rank (aI l i).car k=i:=by
       rw [decide_eq_true q1,decide_eq_true q2,decide_eq_false q3] at ho;simpa using ho
      generalize gZ l (aI l i).rank (aI l i).car k=Q at *;clear ho;rw [q2] at gi;repeat' first|(with_reducible first|apply af|apply ae|apply ao|apply az|apply aY|apply aa|refine ah [] ?_|apply aP|(apply au;·go_simp)|(apply aj;·go_simp)|((first|apply ab|apply aO);intro Z U;go_simp;(first|(refine ⟨_,gi,?_⟩)|skip);apply U;clear U Z))|((refine bf 29 29 [] rfl (by kernel_rfl) ?_);simp only [aA])
      refine gP _ ?_;go_simp
    ·clear ho;repeat' first|(with_reducible first|apply af|apply ae|apply ao|apply az|apply aY|apply aa|refine ah [] ?_|apply aP|(apply au;·go_simp)|(apply aj;·go_simp)|((first|apply ab|apply aO);intro Z U;go_simp;apply U;clear U Z))|((refine bf 29 29 [] rfl (by kernel_rfl) ?_);simp only [aA])
     refine gP _ ?_;go_simp
   ·clear ho;repeat' first|(with_reducible first|apply af|apply ae|apply ao|apply az|apply aY|apply aa|refine ah [] ?_|apply aP|(apply au;·go_simp)|(apply aj;·go_simp)|((first|apply ab|apply aO);intro Z U;go_simp;apply U;clear U Z))|((refine bf 29 29 [] rfl (by kernel_rfl) ?_);simp only [aA])
    refine gP _ ?_;go_simp
  ·intro i hi j0 jj K2;have bJ:i < k:=by omega
   have cu:i < l.length:=by omega
   obtain ⟨x1,x2,x3,x4,x5,x6⟩:=ixs (m:=i) (by omega);have gi:VC Tryz.prog 92 [.sl 3 ((l.map Sg.av).take k),I (aI l i).rank,S (aI l i).car] (I (gZ l (aI l i).rank (aI l i).car k)):=wi l k _ _ cw hl;have ho:=jj.out;rw [HK.out] at ho;unfold okI at ho;rw [hy] at ho;simp only [Bool.and_eq_true,decide_eq_true_eq,Bool.not_eq_true',decide_eq_false_iff_not] at ho;obtain ⟨⟨⟨q1,q2⟩,q3⟩,q4⟩:=ho;rw [q4,q2] at gi;have hT:=Mi.out;rw [←HK.out,kp hi j0.out jj.out,HK.out] at hT;subst hT;clear q4;repeat' first|(with_reducible first|apply af|apply ae|apply aR|apply aw|apply ao|apply az|apply cB|apply aa|refine ah [] ?_|apply aP|(apply au;·go_simp)|((first|apply ab|apply aO);intro Z U;go_simp;(first|(refine ⟨_,gi,?_⟩)|skip);apply U;clear U Z))|((refine bf 29 29 [] rfl (by kernel_rfl) ?_);simp only [aA])
   go_simp
  ·intro j0 K2;have h5:=Cc.out;rw [←HK.out,kQ j0.out] at h5;exact absurd h5 (by decide)
 ·intro HB K;have e0:sn l = -1:=kQ HB.out;have e1:ovE l=12:=by unfold ovE;rw [HS.out,if_neg (by simp),e0,if_pos (by decide)]
  have e2:ovT l = .agg [I 0,I 0,I 0]:=by unfold ovT;rw [e1,if_pos (by decide)]
  have hE:=HE.out;have hT:=HT.out;rw [e1] at hE;rw [e2] at hT;subst hE hT;clear e1 e2 e0 HE HT;repeat' with_reducible first|apply af|apply ae|apply bE|apply aw|apply bF|apply bG|apply aa|refine ah [] ?_|(apply aj;·go_simp)|(apply ab;intro Z U;go_simp;apply U;clear U Z)
  go_simp
end Go.Proofs.YtoibondihdhnoaaGreatDoor
