/- Texts in one: The last sighting of a car: a loop over slices.Backward, at the world's level. -/
import Derived.Test.YtoibondihdhnoaaGreatDoorFRK35
import Derived.Test.YtoibondihdhnoaaGreatDoorFRK36
import Derived.Test.YtoibondihdhnoaaGreatDoorFRK33
import Derived.Test.YtoibondihdhnoaaGreatDoorFRK34
import Derived.Test.YtoibondihdhnoaaGreatDoorFRK9
import Derived.Lib.ItoaLen
import Derived.Test.YtoibondihdhnoaaGreatDoorFRK32
import Derived.RangeFuncNested
import Derived.RangeFuncBox
import Derived.RangeFuncLeaves
import Derived.Shelf.Abstract
import Derived.OwnWalkIn
import Derived.TacticsInMore
import Derived.LoopNIn
import Derived.LoopIn
namespace Go.Proofs.YtoibondihdhnoaaGreatDoor
open Go.RowKit
set_option maxRecDepth 100000
set_option maxHeartbeats 1000000
def txL (l:List UInt8) : List AV:=[S (mkB l)]
attribute [go_sem] txL
theorem tQ (s:ByteArray) : s.data.toList.length=s.size:=(Lib.size_eq s).symm
@[go_sem] theorem Qv:Ft 0 []=0:=KG 0
@[go_sem] theorem Qw (c:UInt8) (l:List UInt8) : yo c l 0=0:=rfl
@[go_sem] theorem Qx (c:UInt8) (l:List UInt8) : Bm c l 0=[]:=rfl
@[go_sem] theorem Qy:mkB []=⟨#[]⟩:=rfl
def j_ (n:Int) : ByteArray:=mkB (Lib.itoa n)
end Go.Proofs.YtoibondihdhnoaaGreatDoor
namespace Go.Proofs.YtoibondihdhnoaaGreatDoor
open Go.RowKit Go.Shelf
set_option maxRecDepth 100000
set_option maxHeartbeats 1000000
def jL (c:UInt8) (s:ByteArray) : List ByteArray:=(gY c s.data.toList).map mkB
theorem FV (c:UInt8) (s:ByteArray) : (jL c s).length≤s.size+1:=by
 have:=Fm c s.data.toList;rw [tQ] at this;simpa [jL] using this
theorem Lu {c:UInt8} {s p:ByteArray} (h:p∈jL c s) : p.size≤s.size:=by
 obtain ⟨l,hl,rfl⟩:=List.mem_map.1 h;have:=Fo c _ l hl;rw [Fu,←tQ];exact this
theorem Lv (w:World) (k:Nat) (os:Array Obj) : Below w.heap.size w (Sort.grow (w.drewN k) os):=
 ⟨rfl,rfl,rfl,by show w.heap.size≤(w.heap++os).size;rw [Array.size_append];omega,fun j hj=>by show (w.heap++os)[j]? = _;rw [Array.getElem?_append_left hj]⟩
theorem yT {f:FuncId} {a r:AV} (hg:lP Tryz.prog f=true) (h:∀ w M v1,MOK w M→V0 w M a v1→Calls Tryz.prog f #[v1] w fun e w'=>∃ v,e = .returned v∧Below w.heap.size w w'∧V0 w' M r v) : VC Tryz.prog f [a] r:=
 ⟨hg,fun w M vs hM hl hv=>by
  obtain ⟨v1,rfl⟩:=List.length_eq_one_iff.1 hl;exact h w M v1 hM (hv 0 a v1 rfl rfl)⟩
theorem FW {f:FuncId} {a b r:AV} (hg:lP Tryz.prog f=true) (h:∀ w M v1 v2,MOK w M→V0 w M a v1→V0 w M b v2→Calls Tryz.prog f #[v1,v2] w fun e w'=>∃ v,e = .returned v∧Below w.heap.size w w'∧V0 w' M r v) : VC Tryz.prog f [a,b] r:=
 ⟨hg,fun w M vs hM hl hv=>by
  match vs,hl with
  | [v1,v2],_=>exact h w M v1 v2 hM (hv 0 a v1 rfl rfl) (hv 1 b v2 rfl rfl)⟩
theorem gf {w:World} {M:Nat→Nat→Prop} (h:MOK w M) : yq w:=h.2.2.2
theorem Lw (c:UInt8) (s:ByteArray) : (jL c s).length=Lib.countB s ⟨#[c]⟩+1:=by
 have h:=Lib.splitB_all ⟨#[c]⟩ (Nat.le_refl _) 0 _ s rfl;rw [Bn c _ s rfl] at h;exact h
theorem FX (s:ByteArray) (c:UInt8) (hs:s.size≤1000000) : VC Tryz.prog 105 [S s,S ⟨#[c]⟩] (iP (jL c s)):=
 FW (by kernel_rfl) fun w M v1 v2 hM h1 h2=>by
  obtain rfl:=V0.lit_inv h1;obtain rfl:=V0.lit_inv h2;obtain ⟨m,hm⟩:=(gf hM).1;refine (Any.strings_Split Kx (by kernel_rfl) s ⟨#[c]⟩ m w (by omega) hm (Nat.le_refl _)).mono fun e w' ⟨he,hw⟩=>⟨_,he,?_,?_⟩
  ·rw [hw];exact (Below.refl _ w).alloc (Nat.le_refl _) _
  ·have hl:=Lw c s;have hp:Lib.splitB ⟨#[c]⟩ 0 (Lib.countB s ⟨#[c]⟩) s=jL c s:=Bn c _ s rfl;have vG:((jL c s).map bU).length=Lib.countB s ⟨#[c]⟩+1:=by rw [List.length_map,hl]
   rw [hw,hp,←vG];refine .sl 1 _ _ _ 0 (fun k _=>.string (tat (jL c s) k)) (fun hn=>?_) (by simp) (fun _ _ _ _ pA=>absurd (hM.1 _ _ pA) (Nat.lt_irrefl _)) (Nat.le_refl _) (fun k x hx=>?_) (fun k x j d hx hd=>?_) (fun k j hk hj=>?_) (fun k x j d hx hd=>?_)
   ·rw [hn] at vG;simp at vG
   ·obtain ⟨y,_,rfl⟩:=dT hx;rfl
   ·obtain ⟨y,_,rfl⟩:=dT hx;rw [show bU y=[S y] from rfl,List.getElem?_singleton] at hd;split at hd
    ·injection hd with hd
     subst hd;rfl
    ·cases hd
   ·rw [List.length_map] at hk;have l5:j=0:=by omega
    subst l5;rw [show 0+k*1+0=k by omega];refine (BL w _ _ k).trans ?_;simp [hk,tat]
   ·obtain ⟨y,hy,rfl⟩:=dT hx;rw [show bU y=[S y] from rfl,List.getElem?_singleton] at hd;split at hd
    ·injection hd with hd
     subst hd;simp only [tat,List.getD,hy,Option.getD_some];exact .lit _
    ·cases hd
theorem Lx (s q:ByteArray) : VC Tryz.prog 151 [S s,S q] (S (mkB (Lib.trimPrefix s.data.toList q.data.toList))):=
 FW (by kernel_rfl) fun w M v1 v2 hM h1 h2=>by
  obtain rfl:=V0.lit_inv h1;obtain rfl:=V0.lit_inv h2;exact (Any.strings_TrimPrefix Kz s q w).mono fun e w' ⟨he,hw⟩=>⟨_,he,hw▸Below.refl _ _,.lit _⟩
theorem yU (n:Int) (h : -9223372036854775808≤n∧n≤9223372036854775807) : VC Tryz.prog 103 [I n] (S (j_ n)):=
 yT (by kernel_rfl) fun w M v1 hM h1=>by
  obtain rfl:=V0.lit_inv h1;refine (Any.strconv_Itoa KB n h.1 h.2 w (gf hM).2.1).mono fun e w' ⟨he,k,os,hw⟩=>⟨_,he,?_,.lit _⟩
  rw [hw];exact Lv w k os
theorem Ly (s:ByteArray) (hs:s.size≤1000000) (v:Int) (h:Lib.atoiAll s.data.toList = .ok v) : VC Tryz.prog 150 [S s] (.tup [I v,.lit .nilIface]):=
 yT (by kernel_rfl) fun w M v1 hM h1=>by
  obtain rfl:=V0.lit_inv h1;refine (Any.strconv_Atoi_ok Bi s (by omega) v h w).mono fun e w' ⟨he,hw⟩=>⟨_,he,?_,?_⟩
  ·rcases hw with rfl|⟨t,rfl⟩
   ·exact Below.refl _ _
   ·exact Lib.bytesWorld_below _ _ _
  ·refine .tup _ [_,_] rfl fun i a u ha hu=>?_;match i with
   | 0=>cases ha;cases hu;exact .lit _
   | 1=>cases ha;cases hu;exact .lit _
   | n+2=>cases ha
theorem LA (s:ByteArray) (hs:s.size≤1000000) (h1:∀ v,Lib.atoiAll s.data.toList≠.ok v) (h2:Lib.atoiAll s.data.toList≠.range) : VC Tryz.prog 150 [S s] (.tup [I 0,.iface (laysAtoi_ren.t 168) .any]):=
 yT (by kernel_rfl) fun w M v1 hM h0=>by
  obtain rfl:=V0.lit_inv h0;obtain ⟨t,q,hc⟩:=(gf hM).2.2.1;have LB:Calls Tryz.prog 150 #[.string s] w fun e w'=>∃ n,e = .returned (.tuple #[.int .i64 0,.iface (laysAtoi_ren.t 168) (.pointer (some ⟨n,0,none⟩))])∧Below w.heap.size w w':=by
   cases hx:Lib.atoiAll s.data.toList with
   | ok v=>exact absurd hx (h1 v)
   | range=>exact absurd hx h2
   | _=>exact (Any.strconv_Atoi_syntax Bi s (by omega) hx _ w hc (.inr ⟨_,_,rfl⟩)).mono fun e w' ⟨N,he,_,_,hw⟩=>⟨N,he,hw⟩
  refine LB.mono fun e w' ⟨N,he,hw⟩=>⟨_,he,hw,?_⟩
  refine .tup _ [_,_] rfl fun i a u ha hu=>?_;match i with
  | 0=>cases ha;cases hu;exact .lit _
  | 1=>cases ha;cases hu;exact .iface _ _ _ (.any _)
  | n+2=>cases ha
theorem LC (s:ByteArray) (hs:s.size≤1000000) (h:Lib.atoiAll s.data.toList = .range) : VC Tryz.prog 150 [S s] (.tup [I (Lib.atoiSat s.data.toList),.iface (laysAtoi_ren.t 168) .any]):=
 yT (by kernel_rfl) fun w M v1 hM h1=>by
  obtain rfl:=V0.lit_inv h1;obtain ⟨t,q,hc⟩:=(gf hM).2.2.2;refine (Any.strconv_Atoi_range Bi s (by omega) h _ w hc (.inr ⟨_,_,rfl⟩)).mono fun e w' ⟨N,he,_,_,hw⟩=>⟨_,he,hw,?_⟩
  refine .tup _ [_,_] rfl fun i a u ha hu=>?_;match i with
  | 0=>cases ha;cases hu;exact .lit _
  | 1=>cases ha;cases hu;exact .iface _ _ _ (.any _)
  | n+2=>cases ha
theorem FY:Builder.Extra Tryz.prog Ff where
 sizeBuilder:=by kernel_rfl
 liesBuilder:=by kernel_rfl
 t5:=Tryz.underlying5
 a5:=Tryz.isAgg5
 z5:=Tryz.sizeOf5
 v5:=Tryz.zeroValue5
 infoByte:=by kernel_rfl
 cellsByte:=by kernel_rfl
 sizeByte:=by kernel_rfl
 neB5:=by decide
def bl (b:ByteArray) : List UInt8:=b.data.toList
def lE (l:List ByteArray) (sep:ByteArray) : ByteArray:=⟨(Lib.join (l.map bl) (bl sep)).toArray⟩
theorem yV (l:List ByteArray) (sep:ByteArray) (h:(Lib.join (l.map bl) (bl sep)).length≤1000000000) (hl:l.length≤1000000000) : VC Tryz.prog 102 [iP l,S sep] (S (lE l sep)):=
 LD (by kernel_rfl) fun w M v1 v2 h1 h2=>by
  obtain rfl:=V0.lit_inv h2;change V0 w M (.sl 1 (l.map bU)) v1 at h1;generalize cL:l.map bU=es at h1;cases h1 with
  | slNil _ A cap=>
   have hl:l=[]:=List.map_eq_nil_iff.1 cL;subst hl;exact (Any.strings_Join_none Fg FY A cap sep w).mono fun e w' ⟨he,hw⟩=>⟨_,he,hw▸Below.refl _ _,by exact .lit _⟩
  | sl _ _ cap b o u au hb hM dC aL h1 hc hv=>
   have hlen:es.length=l.length:=by rw [←cL,List.length_map]
   have dq:∀ (j:Nat) (x:ByteArray),l[j]? = some x→w.cell? { block:=b,off:=o+j } = some (.string x):=fun j x hx=>by
    have bI:=(List.getElem?_eq_some_iff.1 hx).1;have h3:=hv j (bU x) 0 (S x) (by rw [←cL];simp [hx]) rfl;have h4:=hc j 0 (by omega) (by decide);rw [V0.lit_inv h3,Nat.mul_one,Nat.add_zero] at h4;exact h4
   rw [hlen] at dC ⊢;exact (Any.strings_Join Fg FY b o cap l sep w dq hb (by omega) dC (Nat.le_trans h (by decide))).mono fun e w' ⟨he,hw⟩=>⟨_,he,hw,.lit _⟩
def tR (l:List UInt8) : Int:=match Lib.atoiAll l with | .ok v=>v | .range=>Lib.atoiSat l|_=>0
theorem FZ (s:ByteArray) (hs:s.size≤1000000) : VC Tryz.prog 109 [S s] (.tup [I (tR s.data.toList),B (oP s.data.toList)]):=by
 unfold tR oP;have jz:=LA s hs;have ji:=LC s hs;have ea:=Ly s hs;have hb:=@Lib.atoiAll_bounds s.data.toList;have g3:=Lx s ⟨#[45]⟩;have LF:(⟨#[45]⟩ : ByteArray).data.toList=[45]:=rfl;rw [LF] at g3;have aL:=Fu (Lib.trimPrefix s.data.toList [45]);have hd:∀ v,(j_ v=s)↔(Lib.itoa v=s.data.toList):=fun v=>by
  unfold j_;constructor
  ·intro h;rw [←h];rfl
  ·intro h;rw [h];rfl
 generalize Lib.trimPrefix s.data.toList [45]=X at *;generalize Lib.atoiSat s.data.toList=sat at *;cases hx:Lib.atoiAll s.data.toList with
 | ok v=>
  have g1:=ea v hx;have g2:=yU v (hb hx);have vO:=hd v;clear jz ji ea hb hd hx;simp only;generalize Lib.itoa v=Y at *;generalize j_ v=D at *;generalize mkB X=T at *;by_cases h1:D=s
  ·have lD:=vO.1 h1;rw [decide_eq_true lD,Bool.true_and];by_cases h2:X.length≤9
   ·have h3:((T.size:Nat) : Int)≤9:=by omega
    rw [decide_eq_true h2];clear vO lD h2 aL;subst h1;refine aQ Tryz.func109 rfl (by kernel_rfl) rfl fun M0 w0=>?_;simp only [Tryz.ntmps109,Tryz.results109,aB];repeat' with_reducible first|apply af|apply ae|apply az|apply aa|refine ah [] ?_|(apply ab;intro Z U;go_simp;(first|(refine ⟨_,g1,?_⟩)|(refine ⟨_,g2,?_⟩)|(refine ⟨_,g3,?_⟩)|skip);apply U;clear U Z)
    go_simp
   ·have h3:¬((T.size:Nat) : Int)≤9:=by omega
    rw [decide_eq_false h2];clear vO lD h2 aL;subst h1;refine aQ Tryz.func109 rfl (by kernel_rfl) rfl fun M0 w0=>?_;simp only [Tryz.ntmps109,Tryz.results109,aB];repeat' with_reducible first|apply af|apply ae|apply az|apply aa|refine ah [] ?_|(apply ab;intro Z U;go_simp;(first|(refine ⟨_,g1,?_⟩)|(refine ⟨_,g2,?_⟩)|(refine ⟨_,g3,?_⟩)|skip);apply U;clear U Z)
    go_simp
  ·have lD:¬Y=s.data.toList:=fun e=>h1 (vO.2 e);rw [decide_eq_false lD,Bool.false_and];clear vO lD;refine aQ Tryz.func109 rfl (by kernel_rfl) rfl fun M0 w0=>?_;simp only [Tryz.ntmps109,Tryz.results109,aB];repeat' with_reducible first|apply af|apply ae|apply az|apply aa|refine ah [] ?_|(apply ab;intro Z U;go_simp;(first|(refine ⟨_,g1,?_⟩)|(refine ⟨_,g2,?_⟩)|skip);apply U;clear U Z)
   go_simp
 | range=>
  have g1:=ji hx;clear jz ji ea hb hd hx g3 aL;simp only;refine aQ Tryz.func109 rfl (by kernel_rfl) rfl fun M0 w0=>?_;simp only [Tryz.ntmps109,Tryz.results109,aB];repeat' with_reducible first|apply af|apply ae|apply az|apply aa|refine ah [] ?_|(apply ab;intro Z U;go_simp;(first|(refine ⟨_,g1,?_⟩)|skip);apply U;clear U Z)
  go_simp
 | _=>
  have g1:=jz (fun v=>by rw [hx];intro h;cases h) (by rw [hx];intro h;cases h);clear jz ji ea hb hd hx g3 aL;simp only;refine aQ Tryz.func109 rfl (by kernel_rfl) rfl fun M0 w0=>?_;simp only [Tryz.ntmps109,Tryz.results109,aB];repeat' with_reducible first|apply af|apply ae|apply az|apply aa|refine ah [] ?_|(apply ab;intro Z U;go_simp;(first|(refine ⟨_,g1,?_⟩)|skip);apply U;clear U Z)
  go_simp
theorem LG (x y:List UInt8) (r:List (List UInt8)) (s:List UInt8) : Lib.join (x::y::r) s=x++(s++Lib.join (y::r) s):=by
 rw [Lib.join_cons,Lib.join_cons];simp [Lib.joinTail]
theorem F0 (sep:List UInt8) (B:Nat) : ∀ (L:List (List UInt8)),(∀ x∈L,x.length≤B)→(Lib.join L sep).length≤L.length*(B+sep.length)
 | [],_=>by simp [Lib.join]
 | [x],h=>by
  have:=h x (by simp);have e:Lib.join [x] sep=x:=by simp [Lib.join]
  rw [e];simp;omega
 | x::y::r,h=>by
  have h1:=h x (by simp);have h2:=F0 sep B (y::r) fun z hz=>h z (List.mem_cons_of_mem _ hz);rw [LG,List.length_append,List.length_append,List.length_cons,Nat.add_mul,Nat.one_mul];omega
def i64 (n:Int) : Prop:=-9223372036854775808≤n∧n≤9223372036854775807
structure SmallS (s:St) : Prop where
 nq:s.q.length≤300
 q1:∀ l∈s.q,l.length≤300∧∀ c∈l,c.size≤1000
 nt:s.tk.length≤300
 t1:∀ t∈s.tk,t.car.size≤1000∧i64 t.rank∧i64 t.time
 tm:i64 s.time
def mJ (t:Tk) : ByteArray:=lE [t.car,j_ t.rank,j_ t.time] ⟨#[58]⟩
def sq (s:St) : ByteArray:=lE (s.tk.map mJ) ⟨#[32]⟩
def jM (s:St) (k:Nat) : List ByteArray:=j_ s.time::(s.q.take k).map fun l=>lE l ⟨#[32]⟩
def BP (s:St) : ByteArray:=lE (jM s s.q.length++[sq s]) ⟨#[124]⟩
theorem yW {l:List ByteArray} {s:ByteArray} {B:Nat} (h:∀ x∈l,x.size≤B) : (Lib.join (l.map bl) (bl s)).length≤l.length*(B+s.size):=by
 have:=F0 (bl s) B (l.map bl) fun x hx=>by
  obtain ⟨y,hy,rfl⟩:=List.mem_map.1 hx;have h1:=h y hy;have h2:(bl y).length=y.size:=tQ y;omega
 rw [List.length_map,show (bl s).length=s.size from tQ s] at this;exact this
theorem vP (l:List ByteArray) (s:ByteArray) : (lE l s).size=(Lib.join (l.map bl) (bl s)).length:=by
 unfold lE;rw [←tQ]
theorem BQ {n:Int} (h:i64 n) : (j_ n).size≤21:=by
 have:=Lib.itoa_length_le n h.1 h.2;rw [←tQ];exact this
theorem yX {s:St} {k:Nat} (h:k≤s.q.length) : (jM s k).length=k+1:=by simp [jM,List.length_take];omega
theorem LH {s:St} {k:Nat} (h:k < s.q.length) : jM s (k+1)=jM s k++[lE (qat s.q k) ⟨#[32]⟩]:=by
 rw [jM,jM,lA h,List.map_append,List.cons_append,eM h];rfl
def k8 (s:St) (k:Nat) : List ByteArray:=(s.tk.take k).map mJ
theorem BR {s:St} {k:Nat} (h:k≤s.tk.length) : (k8 s k).length=k:=by simp [k8,List.length_take];omega
theorem LI {s:St} {k:Nat} (h:k < s.tk.length) : k8 s (k+1)=k8 s k++[mJ (aI s.tk k)]:=by
 rw [k8,k8,lA h,List.map_append,gb h];rfl
theorem LJ (s:St) (h:SmallS s) : VC Tryz.prog 61 [da s] (S (BP s)):=by
 have hq:=h.q1;have ht:=h.t1;have tS:=h.nq;have vQ:=h.nt;have bq:∀ k,k < s.q.length→(lE (qat s.q k) ⟨#[32]⟩).size≤301000:=fun k hk=>by
  obtain ⟨h1,h2⟩:=hq _ (List.getElem_mem hk);rw [vP,eM hk];refine Nat.le_trans (yW h2) ?_;have:s.q[k].length*(1000+(⟨#[32]⟩ : ByteArray).size)≤300*1001:=Nat.mul_le_mul h1 (Nat.le_refl _);omega
 have bt:∀ k,k < s.tk.length→(mJ (aI s.tk k)).size≤3003:=fun k hk=>by
  obtain ⟨h1,h2,h3⟩:=ht _ (List.getElem_mem hk);unfold mJ;rw [vP,gb hk];refine Nat.le_trans (yW (B:=1000) fun x hx=>?_) (Nat.le_refl _);simp only [List.mem_cons,List.not_mem_nil,or_false] at hx;rcases hx with rfl|rfl|rfl
  ·exact h1
  ·exact Nat.le_trans (BQ h2) (by omega)
  ·exact Nat.le_trans (BQ h3) (by omega)
 have yY:k8 s s.tk.length=s.tk.map mJ:=by rw [k8,List.take_length]
 have ja:∀ x∈k8 s s.tk.length,x.size≤3003:=fun x hx=>by
  rw [yY] at hx;obtain ⟨y,hy,rfl⟩:=List.mem_map.1 hx;obtain ⟨k,hk,rfl⟩:=List.getElem_of_mem hy;rw [←gb hk];exact bt k hk
 have F1:(Lib.join ((k8 s s.tk.length).map bl) (bl ⟨#[32]⟩)).length≤901200:=by
  refine Nat.le_trans (yW ja) ?_;rw [BR (Nat.le_refl _)];exact Nat.mul_le_mul vQ (Nat.le_refl _)
 have LK:(sq s).size≤901200:=by
  unfold sq;rw [vP,←yY];exact F1
 have aG:∀ x∈jM s s.q.length++[sq s],x.size≤1000000:=fun x hx=>by
  rcases List.mem_append.1 hx with hx|hx
  ·rw [jM,List.take_length] at hx;rcases List.mem_cons.1 hx with rfl|hx
   ·exact Nat.le_trans (BQ h.tm) (by omega)
   ·obtain ⟨y,hy,rfl⟩:=List.mem_map.1 hx;obtain ⟨k,hk,rfl⟩:=List.getElem_of_mem hy;have:=bq k hk;rw [eM hk] at this;omega
  ·simp at hx;rw [hx];omega
 have vR:(Lib.join ((jM s s.q.length++[sq s]).map bl) (bl ⟨#[124]⟩)).length≤1000000000:=by
  refine Nat.le_trans (yW aG) ?_;rw [List.length_append,yX (Nat.le_refl _)];have:(s.q.length+1+1)*(1000000+1)≤302*1000001:=Nat.mul_le_mul (by omega) (Nat.le_refl _);simp only [List.length_cons,List.length_nil];have e:(⟨#[124]⟩ : ByteArray).size=1:=rfl;rw [e];omega
 have g0:=yU s.time h.tm;have LL:=Lib.hid (yV (k8 s s.tk.length) ⟨#[32]⟩ (by omega) (by rw [BR (Nat.le_refl _)];omega));have LM:=Lib.hid (yV (jM s s.q.length++[sq s]) ⟨#[124]⟩ vR (by rw [List.length_append,yX (Nat.le_refl _)];simp;omega));have HQ:Hid (∀ k,k < s.q.length→VC Tryz.prog 102 [iP (qat s.q k),S ⟨#[32]⟩] (S (lE (qat s.q k) ⟨#[32]⟩))):=Lib.hid fun k hk=>by
  obtain ⟨h1,h2⟩:=hq _ (List.getElem_mem hk);rw [←eM hk] at h1 h2;have:=bq k hk;rw [vP] at this;exact yV (qat s.q k) ⟨#[32]⟩ (Nat.le_trans this (by omega)) (by omega)
 have HT:Hid (∀ k,k < s.tk.length→VC Tryz.prog 103 [I (aI s.tk k).rank] (S (j_ (aI s.tk k).rank))∧VC Tryz.prog 103 [I (aI s.tk k).time] (S (j_ (aI s.tk k).time))∧VC Tryz.prog 102 [iP [(aI s.tk k).car,j_ (aI s.tk k).rank,j_ (aI s.tk k).time],S ⟨#[58]⟩] (S (mJ (aI s.tk k)))):=Lib.hid fun k hk=>by
  obtain ⟨h1,h2,h3⟩:=ht _ (List.getElem_mem hk);rw [←gb hk] at h2 h3;have:=bt k hk;unfold mJ at this;rw [vP] at this;exact ⟨yU _ h2,yU _ h3,yV [(aI s.tk k).car,j_ (aI s.tk k).rank,j_ (aI s.tk k).time] ⟨#[58]⟩ (Nat.le_trans this (by omega)) (by simp)⟩
 have HE:=Lib.hid yY;unfold BP;unfold sq at *;clear hq ht bq bt ja F1 LK aG vR yY h;generalize hR:lE (jM s s.q.length++[lE (s.tk.map mJ) ⟨#[32]⟩]) ⟨#[124]⟩=R at *;clear hR;refine aQ Tryz.func61 rfl (by kernel_rfl) rfl fun M0 w0=>?_;simp only [Tryz.ntmps61,Tryz.results61,aB];have e0:jM s 0=[j_ s.time]:=rfl;have e1:k8 s 0=[]:=rfl;repeat' with_reducible first|apply af|apply ae|apply aA|apply aa|refine ah [12] ?_|(apply ab;intro Z U;go_simp;(first|(refine ⟨_,g0,?_⟩)|skip);apply U;clear U Z)
 apply mu [1,14,15] (fun k=>[(16,I k),(3,.osl 0)]) (fun k=>([some (.arr 9 1 false ((jM s k).map bU))] : Hp))  (s.q.length)
 ·go_simp<;>exact rfl
 ·go_simp
 ·intro k hk K hK;obtain ⟨w1,w2,w3,w4,w5,w6⟩:=ixs (m:=k) (by omega);have HS:=Lib.hid (LH hk);have aJ:=yX (s:=s) (k:=k) (by omega);have hb:(jM s k).length+1≤1000000000:=by omega
  clear aJ;have gj:=HQ.out k hk;generalize lE (qat s.q k) ⟨#[32]⟩=J at *;repeat' with_reducible first|apply af|apply ae|apply ar|apply aA|apply bf|apply aa|refine ah [] ?_|(apply aw;·go_simp)|(apply ab;intro Z U;go_simp;(first|(refine ⟨_,gj,?_⟩)|skip);apply U;clear U Z)
  refine hK _ ?_;rw [HS.out];go_simp
 ·intro K;repeat' with_reducible first|apply af|apply ae|apply bP|apply bQ|apply aA|apply bT|apply aa|refine ah [6] ?_|(apply ak;·go_simp)|(apply ab;intro Z U;go_simp;apply U;clear U Z)
  apply mu [3,27,28] (fun k=>[(29,I k),(6,.osl 1)]) (fun k=>([some (.arr 9 1 false ((jM s s.q.length).map bU)),some (.arr 9 1 (decide (k8 s k=[])) ((k8 s k).map bU))] : Hp))  (s.tk.length)
  ·go_simp<;>exact rfl
  ·go_simp
  ·intro k hk K hK;obtain ⟨w1,w2,w3,w4,w5,w6⟩:=ixs (m:=k) (by omega);have HS:=Lib.hid (LI hk);have aJ:=BR (s:=s) (k:=k) (by omega);have hb:(k8 s k).length+1≤1000000000:=by omega
   clear aJ;obtain ⟨g1,g2,g3⟩:=HT.out k hk;generalize mJ (aI s.tk k)=J at *;generalize j_ (aI s.tk k).rank=D1 at *;generalize j_ (aI s.tk k).time=D2 at *;repeat' with_reducible apply af
   refine ah [] ?_;repeat' with_reducible first|apply af|apply ae|apply ar|apply aA|apply aa|(apply aw;·go_simp)|(apply ab;intro Z U;go_simp;apply U;clear U Z)
   refine ah [] ?_;repeat' with_reducible first|apply ae|apply aa|(apply ab;intro Z U;go_simp;apply U;clear U Z)
   refine qv 12 [45] 1 [] (by kernel_rfl) (by kernel_rfl) (by kernel_rfl) (by kernel_rfl) rfl ⟨rfl,rfl⟩ rfl ?_;simp only [ax];repeat' first|with_reducible apply aR|((with_reducible apply aS);intro Z U;go_simp;(first|(with_reducible refine ⟨_,g1,?_⟩)|(with_reducible refine ⟨_,g2,?_⟩)|(refine ⟨_,g3,?_⟩)|skip);apply U;clear U Z)
   refine ⟨_,by go_simp,by go_simp;exact rfl,?_,?_⟩
   ·intro t ht;simp at ht
   go_simp;repeat' with_reducible first|apply ae|apply bf|apply aa|refine ah [] ?_|(apply ab;intro Z U;go_simp;apply U;clear U Z)
   refine hK _ ?_;rw [HS.out];go_simp
  ·intro K;have hj:=LL.out;rw [HE.out] at hj ⊢;have nw:=LM.out;generalize lE (s.tk.map mJ) ⟨#[32]⟩=J at *;generalize s.tk.map mJ=TT at *;have hb:(jM s s.q.length).length+1≤1000000000:=by rw [yX (Nat.le_refl _)];omega
   generalize jM s s.q.length=SP at *;have e2:(SP++[J]).map bU=SP.map bU++[[S J]]:=by simp [bU]
   unfold iP at nw;rw [e2] at nw;repeat' first|(with_reducible first|apply af|apply ae|apply bP|apply az|apply bQ|apply bT|apply aa|refine ah [] ?_|(apply ak;·go_simp))|((with_reducible apply ab);intro Z U;go_simp;(first|(refine ⟨_,⟨hj,rfl⟩,?_⟩)|(refine ⟨_,⟨nw,rfl⟩,?_⟩)|skip);apply U;clear U Z)
   go_simp
attribute [local go_sem] Oper.semAt_some
set_option maxRecDepth 100000
set_option maxHeartbeats 4000000
def ka {α:Type} (f:Nat→α) (k:Nat) : List α:=(List.range k).map f
theorem F2 {α:Type} (f:Nat→α) (k:Nat) : ka f (k+1)=ka f k++[f k]:=by simp [ka,List.range_succ]
theorem LN {α:Type} (f:Nat→α) (k:Nat) : (ka f k).length=k:=by simp [ka]
def sgV (x:Sg) : Value:=.agg #[.int .i64 x.kind,.int .i64 x.rank,.string x.car]
def bkF (zs:List Sg) (k:Nat) : Nat×Sg:=(zs.length - 1 - k,aU zs (zs.length - 1 - k))
def SgC (W:World) (b off:Nat) (zs:List Sg) : Prop:=∀ j,j < zs.length→W.cell? ⟨b,off+j*3,none⟩=some (.int .i64 (aU zs j).kind)∧W.cell? ⟨b,off+j*3+1,none⟩=some (.int .i64 (aU zs j).rank)∧W.cell? ⟨b,off+j*3+2,none⟩=some (.string (aU zs j).car)
theorem LO (F:Fence) (n:Nat) (hf:F.fn 159) (l7:F.round=none) (hn:1≤n) (l Bs n₀ b off cap:Nat) (zs:List Sg) (jr:zs.length≤1000000) (_hcap:zs.length≤cap) (hb:b < n₀) (J Jx:List (Nat×Sg)→World→Prop)
  (hY:∀ pre x W,J pre W→pre.length < zs.length→YieldAt F (n - 1) Tryz.prog l #[.int .i64 (x.1:Int),sgV x.2] W fun e W'=>
   (e = .returned (.bool true)∧J (pre++[x]) W'∧Below n₀ W W')∨(e = .returned (.bool false)∧Jx (pre++[x]) W'))
  (W:World) (yZ:W.cell? ⟨Bs,0,none⟩=some (.slice (some ⟨b,off,none⟩) zs.length cap)) (LP:Bs < n₀) (hc:SgC W b off zs) (h0:J [] W) :
  CallsIn F n Tryz.prog 159 #[.func (.yield l) #[] #[],.pointer (some ⟨Bs,0,none⟩)] W fun e W'=>(∃ v,e = .returned v) ∧
   ((∃ ys,ys=ka (bkF zs) zs.length∧J ys W')∨(∃ pre,(∃ k,k≤zs.length∧pre=ka (bkF zs) k)∧Jx pre W')):=by
 have t40:=Tryz.underlying40;have a40:=Tryz.isAgg40;have z40:=Tryz.sizeOf40;have t45:=Tryz.underlying45;have LQ:=Tryz.isAgg45;have LR:=Tryz.sizeOf45;refine callsIn_of_wp Tryz.func159 rfl hf ?_ l7;simp only [Tryz.ntmps159,List.size_toArray,List.length_cons,List.length_nil,Nat.reduceAdd,Nat.reduceSub,Array.replicate_succ,Array.replicate_zero,List.push_toArray,List.append_toArray,List.nil_append,List.cons_append];have BS:IntKind.i64.wrap ((zs.length:Int) - 1)=(zs.length:Int) - 1:=gZ (by omega) (by omega);gi_wp2
 gi_loopw [3] (fun i wr=>∃ m:Nat,m≤zs.length∧i = .int .i64 ((m:Int) - 1)∧J (ka (bkF zs) (zs.length - m)) wr∧Below n₀ W wr)
  (fun i _=>(intOf i+1).toNat)
 case atStart=>
  refine ⟨zs.length,Nat.le_refl _,?_,?_,Below.refl _ _⟩
  ·first|rfl|simp [BS]|skip
  ·rw [Nat.sub_self];exact h0
 case round=>
  obtain ⟨m,hm,rfl,y2,gB⟩:=hrel;have LS:wr.cell? ⟨Bs,0,none⟩=some (.slice (some ⟨b,off,none⟩) zs.length cap):=(gB.cell (p:=⟨Bs,0,none⟩) LP).trans yZ;cases m with
  | zero=>
   gi_wp2
   go_end0
   exact ⟨⟨_,rfl⟩,.inl ⟨_,rfl,y2⟩⟩
  | succ q=>
   have hq:q < zs.length:=by omega
   have e1:((q+1:Nat) : Int) - 1=(q:Int):=by omega
   rw [e1];obtain ⟨c0,c1,c2⟩:=hc q hq;have d0:=(gB.cell (p:=⟨b,off+q*3,none⟩) hb).trans c0;have d1:=(gB.cell (p:=⟨b,off+q*3+1,none⟩) hb).trans c1;have d2:=(gB.cell (p:=⟨b,off+q*3+2,none⟩) hb).trans c2;have pG:IntKind.i64.wrap ((q:Int) - 1)=(q:Int) - 1:=gZ (by omega) (by omega);have eF:bkF zs (zs.length - (q+1))=(q,aU zs q):=by
    unfold bkF;rw [show zs.length - 1 - (zs.length - (q+1))=q by omega]
   obtain ⟨fn,tmps,assign,body,hy,hR⟩:=hY _ (q,aU zs q) wr y2 (by rw [LN];omega);unfold sgV at hy;dsimp only at hy;have eU:ka (bkF zs) (zs.length - q)=ka (bkF zs) (zs.length - (q+1))++[(q,aU zs q)]:=by
    rw [show zs.length - q=(zs.length - (q+1))+1 by omega,F2,eF]
   gi_wp2
   refine hR.mono ?_;rintro e W3 (⟨rfl,LU,oH⟩|⟨rfl,BT⟩)
   ·gi_wp2
    go_roundw
    case rel=>
     refine ⟨q,by omega,?_,by rw [eU];exact LU,gB.trans oH⟩;first|rfl|simp [pG]
    case measure=>simp [intOf]
   ·gi_wp2
    refine bodyPost_ret (results_none rfl _ _ _) rfl ?_;exact ⟨⟨_,rfl⟩,.inr ⟨_,⟨zs.length - q,by omega,eU.symm⟩,BT⟩⟩
theorem LV (F:Fence) (n:Nat) (hf:F.fn 141) (l7:F.round=none) (a:Option Addr) (len cap:Nat) (w:World) :
  CallsIn F n Tryz.prog 141 #[.slice a len cap] w fun e w'=>e = .returned (.func (.func 159) #[] #[.pointer (some ⟨w.heap.size,0,none⟩)])∧w'=w.alloc (.cells #[.slice a len cap] 40):=by
 refine callsIn_of_wp Tryz.func141 rfl hf ?_ l7;simp only [Tryz.ntmps141,List.size_toArray,List.length_cons,List.length_nil,Nat.reduceAdd,Nat.reduceSub,Array.replicate_succ,Array.replicate_zero,List.push_toArray,List.append_toArray,List.nil_append,List.cons_append];gi_wp2
 go_ret
 exact ⟨rfl,rfl⟩
theorem LW (F:Fence) (n:Nat) (hf:F.fn 159) (l7:F.round=none) (l Bs:Nat) (A:Option Addr) (cap:Nat) (J:List (Nat×Sg)→World→Prop) (W:World) (yZ:W.cell? ⟨Bs,0,none⟩=some (.slice A 0 cap)) (h0:J [] W) :
  CallsIn F n Tryz.prog 159 #[.func (.yield l) #[] #[],.pointer (some ⟨Bs,0,none⟩)] W fun e W'=>(∃ v,e = .returned v)∧J [] W':=by
 have t40:=Tryz.underlying40;have a40:=Tryz.isAgg40;have z40:=Tryz.sizeOf40;refine callsIn_of_wp Tryz.func159 rfl hf ?_ l7;simp only [Tryz.ntmps159,List.size_toArray,List.length_cons,List.length_nil,Nat.reduceAdd,Nat.reduceSub,Array.replicate_succ,Array.replicate_zero,List.push_toArray,List.append_toArray,List.nil_append,List.cons_append];have BS:IntKind.i64.wrap (0 - 1) = -1:=rfl;gi_wp2
 gi_loopw [3] (fun i wr=>i = .int .i64 (-1)∧J [] wr) (fun _ _=>0)
 case atStart=>exact ⟨by first|rfl|simp [BS],h0⟩
 case round=>
  obtain ⟨rfl,y2⟩:=hrel;gi_wp2
  go_end0
  exact ⟨⟨_,rfl⟩,y2⟩
def SgsV (n₀:Nat) (W:World) (sv:Value) (zs:List Sg) : Prop:=
 (∃ A cap,sv = .slice A 0 cap∧zs=[])∨∃ b off cap,sv = .slice (some ⟨b,off,none⟩) zs.length cap∧b < n₀∧zs.length≤cap∧SgC W b off zs
theorem SgC.below {n₀:Nat} {A B:World} (h:Below n₀ A B) {b off:Nat} {zs:List Sg} (hb:b < n₀) (hc:SgC A b off zs) : SgC B b off zs:=fun j hj=>by
 obtain ⟨c0,c1,c2⟩:=hc j hj;exact ⟨(h.cell (p:=⟨b,off+j*3,none⟩) hb).trans c0,(h.cell (p:=⟨b,off+j*3+1,none⟩) hb).trans c1,(h.cell (p:=⟨b,off+j*3+2,none⟩) hb).trans c2⟩
theorem SgsV.below {n₀ n₁:Nat} {A B:World} (h:Below n₀ A B) (hn:n₀≤n₁) {sv:Value} {zs:List Sg} : SgsV n₀ A sv zs→SgsV n₁ B sv zs
 | .inl e=>.inl e
 | .inr ⟨b,off,cap,e,hb,hl,hc⟩=>.inr ⟨b,off,cap,e,by omega,hl,hc.below h hb⟩
theorem LX (F:Fence) (n:Nat) (hf:F.fn 159) (l7:F.round=none) (hn:1≤n) (Bs n₀:Nat) (sv:Value) (zs:List Sg) (jr:zs.length≤1000000) (w:World) (yZ:Bs < n₀) (LY:n₀≤w.heap.size)
  (hc:w.cell? ⟨Bs,0,none⟩=some sv) (hI:SgsV n₀ w sv zs) :
  SeqStopsK F n Tryz.prog 159 #[.pointer (some ⟨Bs,0,none⟩)] (fun x:Nat×Sg=>#[Value.int .i64 (x.1:Int),sgV x.2]) (Below n₀) (fun ys=>ys=ka (bkF zs) zs.length)
   (fun pre=>∃ k,k≤zs.length∧pre=ka (bkF zs) k) zs.length w:=fun l J Jx W hW _ _ hY h0=>by
 have ie:=(hW.cell (p:=⟨Bs,0,none⟩) (show Bs < w.heap.size by omega)).trans hc;rcases hI.below (hW.mono LY) (Nat.le_refl _) with ⟨A,cap,rfl,rfl⟩|⟨b,off,cap,rfl,hb,hl,bM⟩
 ·exact (LW F n hf l7 l Bs A cap J W ie h0).mono fun e W' ⟨he,hj⟩=>⟨he,.inl ⟨_,rfl,hj⟩⟩
 ·exact LO F n hf l7 hn l Bs n₀ b off cap zs jr hl hb J Jx hY W ie yZ bM h0
attribute [local go_sem] Oper.semAt_some
set_option maxRecDepth 100000
set_option maxHeartbeats 4000000
theorem LZ (Bx:Nat) (t:TypeId) (cs:Array Value) {W W':World} {row:Option Nat} (h:Bk W Bx t cs) (hg:W.grownBy W' row) (hr:∀ r,row=some r→∃ o:Obj,W.heap[r]? = some o∧o.isCells=false) : Bk W' Bx t cs:=by
 refine Bk.grown h hg fun e=>?_;obtain ⟨o,ho,hc⟩:=hr Bx e.symm;have h':W.heap[Bx]? = some (.cells cs t (0,0)):=h;rw [h'] at ho;injection ho with ho
 subst ho;cases hc
theorem L0 (F:Fence) (n:Nat) (L1:F.fn 92) (L2:F.fn 141) (F3:F.fn 159) (l7:F.round=none) (hn:3≤n)
  (a:Option Addr) (len cap:Nat) (zs:List Sg) (R:Int) (c:ByteArray) (jr:zs.length≤1000000) (w:World) (hI:SgsV w.heap.size w (.slice a len cap) zs) :
  CallsIn F n Tryz.prog 92 #[.slice a len cap,.int .i64 R,.string c] w fun e W'=>
   ((e = .returned (.int .i64 (-1))∧∀ p∈ka (bkF zs) zs.length,jo p.2 R c=false) ∨
    (∃ k,k < zs.length∧e = .returned (.int .i64 ((bkF zs k).1:Int))∧jo (bkF zs k).2 R c=true∧∀ p∈ka (bkF zs) k,jo p.2 R c=false))∧Below w.heap.size w W':=by
 have h1:1≤n:=by omega
 have t45:=Tryz.underlying45;have LQ:=Tryz.isAgg45;have LR:=Tryz.sizeOf45;have Qz:=Tryz.zeroValue45;refine callsIn_of_wp_marks Tryz.func92 rfl L1 ?_ l7;simp only [Tryz.ntmps92,List.size_toArray,List.length_cons,List.length_nil,Nat.reduceAdd,Nat.reduceSub,Array.replicate_succ,Array.replicate_zero,List.push_toArray,List.append_toArray,List.nil_append,List.cons_append];gi_wp2_with (gi_at_call 141;refine (LV F (n - 1) L2 l7 _ _ _ _).mono ?_;rintro e w' ⟨rfl,rfl⟩)
 have bR:=((Boxed.new w 3 (.int .i64 R)).alloc (.cells #[.string c] 9)).alloc (.cells #[.int .i64 0] 3) |>.alloc (.cells #[.slice a len cap] 40)
 have bC:=((Boxed.new (w.alloc (.cells #[.int .i64 R] 3)) 9 (.string c)).alloc (.cells #[.int .i64 0] 3)).alloc (.cells #[.slice a len cap] 40);have bO:=(Boxed.new ((w.alloc (.cells #[.int .i64 R] 3)).alloc (.cells #[.string c] 9)) 3 (.int .i64 0)).alloc (.cells #[.slice a len cap] 40);have bS:=Boxed.new (((w.alloc (.cells #[.int .i64 R] 3)).alloc (.cells #[.string c] 9)).alloc (.cells #[.int .i64 0] 3)) 40 (.slice a len cap);simp only [World.size_alloc] at bR bC bO bS;have nJ:Below w.heap.size w ((((w.alloc (.cells #[.int .i64 R] 3)).alloc (.cells #[.string c] 9)).alloc (.cells #[.int .i64 0] 3)).alloc (.cells #[.slice a len cap] 40)):=((((Below.refl _ w).alloc (Nat.le_refl _) _).alloc (by simp) _).alloc (by simp;omega) _).alloc (by simp;omega) _;have aL:((((w.alloc (.cells #[.int .i64 R] 3)).alloc (.cells #[.string c] 9)).alloc (.cells #[.int .i64 0] 3)).alloc (.cells #[.slice a len cap] 40)).heap.size=w.heap.size+4:=by simp
 obtain ⟨W0,F4⟩ : ∃ W0,(((w.alloc (.cells #[.int .i64 R] 3)).alloc (.cells #[.string c] 9)).alloc (.cells #[.int .i64 0] 3)).alloc (.cells #[.slice a len cap] 40)=W0:=⟨_,rfl⟩
 rw [F4] at bR bC bO bS nJ aL ⊢;clear F4;refine wpIn_rangeFunc_ownH l7 h1 (gf:=159) (lb:=#[.pointer (some ⟨w.heap.size+1+1+1,0,none⟩)]) rfl F3 (enters_of Tryz.func159 (by kernel_rfl) rfl)
  (LX F (n - 1) F3 l7 (by omega) (w.heap.size+1+1+1) (w.heap.size+4) (.slice a len cap) zs jr W0 (by omega) (by omega) bS.cell (hI.below nJ (by omega))) belowK_t (belowK_b (by omega)) (Below.refl _ _) (fun _=>rfl)
  (fun pre W=>((((∀ p∈pre,jo p.2 R c=false)∧Boxed W (w.heap.size+1+1) 3 (.int .i64 0))∧Boxed W w.heap.size 3 (.int .i64 R))∧Boxed W (w.heap.size+1) 9 (.string c))∧Below (w.heap.size+4) W0 W)
  (fun cd pre W=>((cd = .ret∧∃ vS last,pre=vS++[last]∧(∀ p∈vS,jo p.2 R c=false)∧jo last.2 R c=true∧Boxed W (w.heap.size+1+1) 3 (.int .i64 (last.1:Int))))∧Below w.heap.size w W)
  (OwnFrom.and (OwnFrom.and (OwnFrom.and (OwnFrom.and (ownFrom_pure _ _) (Own.from (boxed_own _ _ _) _)) (Own.from (boxed_own _ _ _) _)) (Own.from (boxed_own _ _ _) _)) (ownFrom_below (by omega) (by omega)))
  (fun cd=>OwnFrom.and (Own.from (fun s A B row hs hg hr=>by obtain ⟨hc,vS,last,e1,e2,e3,e4⟩:=hs;exact ⟨hc,vS,last,e1,e2,e3,boxed_own _ 3 (fun (_:Unit)=>Value.int .i64 (last.1:Int)) () A B row e4 hg hr⟩) _) (ownFrom_below (Nat.le_refl _) (by omega)))
  ⟨⟨⟨⟨by simp,bO⟩,bR⟩,bC⟩,Below.refl _ _⟩
  (fun x a' W=>∃ Bx,w.heap.size+4≤Bx∧Bk W Bx 45 #[.int .i64 x.2.kind,.int .i64 x.2.rank,.string x.2.car]∧a' = { tmps:=#[.slice a len cap,.int .i64 R,.string c,undef,.pointer (some ⟨w.heap.size,0,none⟩),.pointer (some ⟨w.heap.size+1,0,none⟩),.pointer (some ⟨w.heap.size+1+1,0,none⟩),.int .i64 (x.1:Int),.pointer (some ⟨Bx,0,none⟩),.slice a len cap,.func (.func 159) #[] #[.pointer (some ⟨w.heap.size+1+1+1,0,none⟩)],.int .i64 (x.1:Int),sgV x.2,undef,undef,undef,undef,undef,undef,undef,undef,undef,undef,undef],defers:=[] })
  (fun x a' _ X Y row hs hg hr=>by obtain ⟨Bx,e1,e2,e3⟩:=hs;exact ⟨Bx,e1,LZ Bx _ _ e2 hg (fun r e=>(hr r e).2),e3⟩)
  ?assign ?body ?done ?stop
 case assign=>
  rintro l pre x W K ⟨⟨⟨⟨hp,b1⟩,b2⟩,b3⟩,mm⟩ hK;have hle:w.heap.size+4≤W.heap.size:=by have:=mm.size;omega
  unfold sgV;gi_wp2
  exact hK _ _ ((KeepsOthers.alloc _ _).from _) ((Below.refl _ W).alloc hle _) ⟨⟨⟨⟨hp,b1.alloc _⟩,b2.alloc _⟩,b3.alloc _⟩,mm.alloc hle _⟩ ⟨W.heap.size,hle,Bk.new W _ _,rfl⟩
 case body=>
  rintro l pre x a' W hl _ ⟨⟨⟨⟨hp,b1⟩,b2⟩,b3⟩,mm⟩ ⟨Bx,QA,bX,rfl⟩ aq;have x0:W.cell? ⟨Bx,0,none⟩=some (.int .i64 x.2.kind):=bX.cell 0;have x1:W.cell? ⟨Bx,1,none⟩=some (.int .i64 x.2.rank):=bX.cell 1;have x2:W.cell? ⟨Bx,2,none⟩=some (.string x.2.car):=bX.cell 2;have c1:=b1.cell;have f1:=b1.frozen;have c2:=b2.cell;have c3:=b3.cell;have hW:Below w.heap.size w W:=nJ.trans (mm.mono (by omega));have bm:¬(x.2.rank=R∧x.2.car=c)→∀ p∈pre++[x],jo p.2 R c=false:=fun hh p sr=>by
   rcases List.mem_append.1 sr with h|h
   ·exact hp p h
   ·simp at h;subst h;cases hs:jo p.2 R c
    ·rfl
    ·exact absurd (E6.1 hs) hh
  gi_wp2
  ·rename_i h1 h2;exact ⟨(KeepsOthers.setCell _ _ _).from _,⟨rfl,pre,x,rfl,hp,E6.2 ⟨h1,L3.1 h2⟩,b1.set _⟩,hW.setCell (p:=⟨w.heap.size+1+1,0,none⟩) (show w.heap.size≤w.heap.size+1+1 by omega) _⟩
  ·rename_i h1 h2;exact ⟨KeepsFrom.refl _ _,Below.refl _ _,⟨⟨⟨bm fun hh=>by rw [hh.2] at h2;simp at h2,b1⟩,b2⟩,b3⟩,mm⟩
  ·rename_i h1;exact ⟨KeepsFrom.refl _ _,Below.refl _ _,⟨⟨⟨bm fun hh=>h1 hh.1,b1⟩,b2⟩,b3⟩,mm⟩
 case done=>
  rintro D ys W hD rfl ⟨⟨⟨⟨hp,b1⟩,b2⟩,b3⟩,mm⟩ hK;have c1:=b1.cell;have f1:=b1.frozen;have hW:Below w.heap.size w W:=nJ.trans (mm.mono (by omega));gi_wp2
  have BU:=(KeepsOthers.setCell W ⟨w.heap.size+1+1,0,none⟩ (.int .i64 (-1))).same D _ hK rfl;refine ⟨by simp,.inl ⟨_,_,rfl,run_takeDeferred BU,?_⟩⟩;have vT:=cell_kept (b1.set (.int .i64 (-1))).cell (grownBy_putObj' _ D (.deferred none)) (fun r e=>by cases e;exact ⟨_,BU,rfl⟩);refine ⟨.int .i64 (-1),?_,.inl ⟨rfl,hp⟩,(hW.setCell (p:=⟨w.heap.size+1+1,0,none⟩) (show w.heap.size≤w.heap.size+1+1 by omega) _).trans (belowK_b (w:=w) (Nat.le_refl _) _ D _ _ (by omega) BU rfl rfl)⟩;simp [results,Tryz.f92,go_sem,vT]
 case stop=>
  rintro D cd pre W hD ⟨k,hk,rfl⟩ ⟨⟨rfl,vS,last,e1,e2,e3,b1⟩,mm⟩ hK;gi_wp2
  refine ⟨by simp,.inl ⟨_,_,rfl,run_takeDeferred hK,?_⟩⟩;have vT:=cell_kept b1.cell (grownBy_putObj' _ D (.deferred none)) (fun r e=>by cases e;exact ⟨_,hK,rfl⟩);obtain ⟨k',rfl⟩ : ∃ k',k=k'+1:=by
   cases k with
   | zero=>simp [ka] at e1
   | succ k'=>exact ⟨k',rfl⟩
  rw [F2] at e1;obtain ⟨rfl,e5⟩:=List.append_inj' e1 rfl;obtain rfl:bkF zs k'=last:=by simpa using e5
  refine ⟨.int .i64 ((bkF zs k').1:Int),?_,.inr ⟨k',by omega,rfl,e3,e2⟩,mm.trans (belowK_b (w:=w) (Nat.le_refl _) W D _ _ (by omega) hK rfl rfl)⟩;simp [results,Tryz.f92,go_sem,vT]
set_option maxHeartbeats 2000000
theorem L4 {w:World} {M:Nat→Nat→Prop} {l:List Sg} {v:Value} (h:V0 w M (.sl 3 (l.map Sg.av)) v) : SgsV w.heap.size w v l:=by
 generalize he:l.map Sg.av=es at h;cases h with
 | slNil _ A cap=>
  exact .inl ⟨A,cap,rfl,List.map_eq_nil_iff.1 he⟩
 | sl _ _ cap b o u au hb hM dC aL h1 hc hv=>
  subst he;rw [List.length_map] at dC hc ⊢;refine .inr ⟨b,o,cap,rfl,hb,dC,fun j hj=>?_⟩;have hx:(l.map Sg.av)[j]? = some (Sg.av (aU l j)):=by rw [List.getElem?_map,List.getElem?_eq_getElem hj,Dr hj];rfl
  have e0:=hv j _ 0 (I (aU l j).kind) hx rfl;have e1:=hv j _ 1 (I (aU l j).rank) hx rfl;have e2:=hv j _ 2 (S (aU l j).car) hx rfl;rw [←V0.lit_inv e0,←V0.lit_inv e1,←V0.lit_inv e2];exact ⟨hc j 0 hj (by decide),hc j 1 hj (by decide),hc j 2 hj (by decide)⟩
theorem L5 {L:List Sg} {R:Int} {c:ByteArray} {k:Nat} (h:∀ j,j < k→jo (aU L j) R c=false) : ix L R c k = -1:=by
 rcases yl L R c k with ⟨h1,_⟩|⟨j,_,h2,h3,_⟩
 ·exact h1
 ·rw [h j h2] at h3;cases h3
theorem L6 {L:List Sg} {R:Int} {c:ByteArray} {k i:Nat} (hi:i < k) (hs:jo (aU L i) R c=true) (h:∀ j,i < j→j < k→jo (aU L j) R c=false) : ix L R c k=i:=by
 rcases yl L R c k with ⟨_,h2⟩|⟨j,h1,h2,h3,h4⟩
 ·rw [h2 i hi] at hs;cases hs
 ·have:j=i:=by
   rcases Nat.lt_trichotomy i j with hh|hh|hh
   ·rw [h j hh h2] at h3;cases h3
   ·exact hh.symm
   ·rw [h4 i hh hi] at hs;cases hs
  rw [h1,this]
theorem L7 (l:List Sg) (R:Int) (c:ByteArray) (hl:l.length≤1000000) : VC Tryz.prog 92 [.sl 3 (l.map Sg.av),I R,S c] (I (ix l R c l.length)):=by
 refine ⟨by kernel_rfl,fun w M vs hM gJ hv=>?_⟩;obtain ⟨v1,v2,v3,rfl⟩ : ∃ v1 v2 v3,vs=[v1,v2,v3]:=by
  rcases vs with _|⟨a,_|⟨b,_|⟨c,_|⟨_,_⟩⟩⟩⟩
  all_goals first|exact ⟨a,b,c,rfl⟩|(simp at gJ)
 have cz:=hv 0 _ _ rfl rfl;obtain rfl:=V0.lit_inv (hv 1 _ _ rfl rfl);obtain rfl:=V0.lit_inv (hv 2 _ _ rfl rfl);have hI:=L4 cz;obtain ⟨A,n,cap,rfl⟩:=cz.sl_form;have h:=(L0 { fn:=fun _=>True } 3 trivial trivial trivial rfl (Nat.le_refl _) A n cap l R c hl w hI).calls (fun k d hd=>by cases hd);refine h.mono ?_;rintro e w' ⟨he,hb⟩;have c_:∀ (p:Nat×Sg) (k:Nat),p∈ka (bkF l) k↔∃ j,j < k∧bkF l j=p:=fun p k=>by simp [ka]
 rcases he with ⟨rfl,hn⟩|⟨k,hk,rfl,hs,hn⟩
 ·refine ⟨_,rfl,hb,?_⟩;rw [L5 fun j hj=>?_]
  ·exact .lit _
  ·have:=hn (bkF l (l.length - 1 - j)) ((c_ _ _).2 ⟨l.length - 1 - j,by omega,rfl⟩);unfold bkF at this;rwa [show l.length - 1 - (l.length - 1 - j)=j by omega] at this
 ·refine ⟨_,rfl,hb,?_⟩;have e:ix l R c l.length=((bkF l k).1:Int):=by
   refine L6 (by unfold bkF;simp only;omega) hs fun j h1 h2=>?_;unfold bkF at h1;simp only at h1;have:=hn (bkF l (l.length - 1 - j)) ((c_ _ _).2 ⟨l.length - 1 - j,by omega,rfl⟩);unfold bkF at this;rwa [show l.length - 1 - (l.length - 1 - j)=j by omega] at this
  rw [e];exact .lit _
end Go.Proofs.YtoibondihdhnoaaGreatDoor
namespace Go.Proofs.YtoibondihdhnoaaGreatDoor
open Go.RowKit
set_option maxRecDepth 100000
set_option maxHeartbeats 2000000
theorem L8 {l:List Sg} {k j:Nat} (h:j < k) : aU (l.take k) j=aU l j:=by
 unfold aU;rw [List.getD_eq_getElem?_getD,List.getElem?_take_of_lt h,List.getD_eq_getElem?_getD]
theorem F5 {L L':List Sg} {R:Int} {c:ByteArray} : ∀ {k:Nat},(∀ j,j < k→aU L j=aU L' j)→ix L R c k=ix L' R c k
 | 0,_=>rfl
 | k+1,h=>by rw [ix,ix,h k (by omega),F5 fun j hj=>h j (by omega)]
theorem vU (l:List Sg) (k:Nat) (R:Int) (c:ByteArray) (hk:k≤l.length) (hl:l.length≤1000000) : VC Tryz.prog 92 [.sl 3 ((l.map Sg.av).take k),I R,S c] (I (ix l R c k)):=by
 have h:=L7 (l.take k) R c (by rw [List.length_take];omega);rw [List.length_take,Nat.min_eq_left hk,List.map_take,F5 fun j hj=>L8 hj] at h;exact h
def iat (l:List Int) (k:Nat) : Int:=l.getD k 0
theorem F6 {l:List Int} {k:Nat} (h:k < l.length) : iat l k=l[k]:=by simp [iat,h]
theorem L9 (l:List Int) (x:Int) (hl:l.length≤1000000) : VC Tryz.prog 140 [.sl 1 (l.map dN),I x] (I (ixP (fun j=>decide (iat l j=x)) 0 l.length)):=by
 obtain ⟨R,hR⟩ : ∃ R,ixP (fun j=>decide (iat l j=x)) 0 l.length=R:=⟨_,rfl⟩
 rw [hR];have HR:=Lib.hid hR;clear hR;refine aQ Tryz.func140 rfl (by kernel_rfl) rfl fun M0 w0=>?_;simp only [Tryz.ntmps140,Tryz.results140,aB];repeat' with_reducible first|apply af|apply ae|apply aA|apply aa|refine ah [] ?_|(apply ab;intro Z U;go_simp;apply U;clear U Z)
 apply dI [0,1,7] (fun k=>[(8,I k)]) (fun k=>([] : Hp)) (fun j=>decide (iat l j=x)) (l.length)
 ·go_simp<;>exact rfl
 ·go_simp
 ·intro k hk HB HP K hK;obtain ⟨w1,w2,w3,w4,w5,w6⟩:=ixs (m:=k) (by omega);have hp:¬x=l[k]:=fun h=>by
   have:=HP.out;simp only [F6 hk,h] at this;simp at this
  repeat' with_reducible first|apply af|apply ae|apply ar|apply aA|apply bf|apply aa|refine ah [] ?_|(apply aw;·go_simp)|(apply ak;·go_simp)|(apply ab;intro Z U;go_simp;apply U;clear U Z)
  refine hK _ ?_;go_simp
 ·intro k hk HB HP K;have hp:x=l[k]:=by
   have:=HP.out;rw [F6 hk] at this;exact (of_decide_eq_true this).symm
  have e:=HR.out;rw [kr hk HB.out HP.out] at e;subst e;repeat' with_reducible first|apply af|apply ae|apply aT|apply az|apply ar|apply aA|apply cG|apply aa|refine ah [] ?_|(apply aw;·go_simp)|(apply ab;intro Z U;go_simp;apply U;clear U Z)
  go_simp
 ·intro HB K;have e:=HR.out;rw [ll HB.out] at e;subst e;repeat (with_reducible first|apply af|apply ae|apply bP|apply az|apply bQ|apply bT|apply aa|refine ah [] ?_|(apply ak;·go_simp)|(apply ab;intro Z U;go_simp;apply U;clear U Z))
  go_simp
theorem L_ (l:List Int) (x:Int) (hl:l.length≤1000000) : VC Tryz.prog 87 [.sl 1 (l.map dN),I x] (B (gg (fun j=>decide (iat l j=x)) 0 l.length)):=by
 have g:=L9 l x hl;rw [←yh];generalize ixP (fun j=>decide (iat l j=x)) 0 l.length=R at *;refine aQ Tryz.func87 rfl (by kernel_rfl) rfl fun M0 w0=>?_;simp only [Tryz.ntmps87,Tryz.results87,aB];repeat' with_reducible first|apply af|apply ae|apply az|apply aa|refine ah [] ?_|(apply ab;intro Z U;go_simp;(first|(refine ⟨_,g,?_⟩)|skip);apply U;clear U Z)
 go_simp
theorem Ma (x:Int) : gg (fun j=>decide (iat [0,1,2,3] j=x)) 0 4=inR x 0 3:=by
 by_cases h:0≤x∧x≤3
 ·rw [mB.2 h];have hx:x=((x.toNat:Nat) : Int):=by omega
  refine mh (k:=x.toNat) (by omega) ?_;have:x=0∨x=1∨x=2∨x=3:=by omega
  rcases this with rfl|rfl|rfl|rfl<;>rfl
 ·have hf:inR x 0 3=false:=by
   cases hh:inR x 0 3
   ·rfl
   ·exact absurd (mB.1 hh) h
  rw [hf];refine oo fun j hj=>decide_eq_false fun he=>h ?_;have:j=0∨j=1∨j=2∨j=3:=by omega
  rcases this with rfl|rfl|rfl|rfl<;>simp [iat] at he<;>omega
theorem F7 (x:Int) : VC Tryz.prog 87 [.sl 1 [[I 0],[I 1],[I 2],[I 3]],I x] (B (inR x 0 3)):=by
 have:=L_ [0,1,2,3] x (by decide);rwa [show ([0,1,2,3] : List Int).length=4 from rfl,Ma] at this
def sgE (l:List Sg) (k:Nat) : Int:=fst [unl (inR (aU l k).kind 0 3) 15,unl (inR (aU l k).rank 0 5) 2,unl (cI (aU l k).car) 4]
def tT (l:List Sg) : Int:=if 200 < l.length then 8 else (kE (sgE l) 0 l.length).2
def ovE (l:List Sg) : Int:=if tT l≠0 then tT l else if tG l < 0 then 12 else 0
def ovT (l:List Sg) : AV:=if ovE l≠0 then .agg [I 0,I 0,I 0] else .agg [I (oN l (tG l).toNat),I (jOf l (tG l).toNat),I (tG l)]
theorem Mb (l:List Sg) (hl:l.length≤1000000) (hc:∀ k,k < l.length→(aU l k).car.size≤1000) : VC Tryz.prog 27 [Dq l] (.tup [ovT l,I (ovE l)]):=by
 obtain ⟨E,hE⟩ : ∃ E,ovE l=E:=⟨_,rfl⟩
 obtain ⟨T,hT⟩ : ∃ T,ovT l=T:=⟨_,rfl⟩
 rw [hE,hT];by_cases h2:200 < l.length
 ·have e1:ovE l=8:=by unfold ovE tT;rw [if_pos h2,if_pos (by decide)]
  have e2:ovT l = .agg [I 0,I 0,I 0]:=by unfold ovT;rw [e1,if_pos (by decide)]
  rw [e1] at hE;rw [e2] at hT;subst hE hT;have h3:(200:Int) < (l.length:Int):=by omega
  clear hc e1 e2;refine aQ Tryz.func27 rfl (by kernel_rfl) rfl fun M0 w0=>?_;simp only [Tryz.ntmps27,Tryz.results27,aB];repeat' with_reducible first|apply af|apply ae|apply aT|apply az|apply aa|refine ah [] ?_|(apply aw;·go_simp)|(apply ab;intro Z U;go_simp;apply U;clear U Z)
  go_simp
 have HE:=Lib.hid hE;have HT:=Lib.hid hT;have HC:=Lib.hid hc;have h3:¬(200:Int) < (l.length:Int):=by omega
 clear hE hT hc;refine aQ Tryz.func27 rfl (by kernel_rfl) rfl fun M0 w0=>?_;simp only [Tryz.ntmps27,Tryz.results27,aB];repeat' with_reducible first|apply af|apply ae|apply ar|apply aA|apply aa|refine ah [] ?_|(apply ak;·go_simp)|(apply ab;intro Z U;go_simp;apply U;clear U Z)
 apply dI [0,2,17,18] (fun k=>[(19,I k)]) (fun k=>([some (.box [I 0,I 0,I 0])] : Hp)) (fun k=>!decide (sgE l k=0)) (l.length)
 ·go_simp<;>exact rfl
 ·go_simp
 ·intro k hk HB HP K hK;obtain ⟨w1,w2,w3,w4,w5,w6⟩:=ixs (m:=k) (by omega);have i1:=F7 (aU l k).kind;have i2:=kq (aU l k).rank 0 5;have i3:=ri (aU l k).car (HC.out k hk);have u1:=bH (inR (aU l k).kind 0 3) 15;have u2:=bH (inR (aU l k).rank 0 5) 2;have u3:=bH (cI (aU l k).car) 4;have g3:VC Tryz.prog 88 [.sl 1 ([unl (inR (aU l k).kind 0 3) 15,unl (inR (aU l k).rank 0 5) 2,unl (cI (aU l k).car) 4].map dN)] (I (sgE l k)):=eX _ rfl rfl;have he:sgE l k=0:=by simpa using HP.out
  rw [he] at g3;clear he;generalize inR (aU l k).kind 0 3=D1 at *;generalize inR (aU l k).rank 0 5=D2 at *;generalize cI (aU l k).car=D3 at *;generalize unl D1 15=A1 at *;generalize unl D2 2=A2 at *;generalize unl D3 4=A3 at *;repeat' first|(with_reducible first|apply af|apply ae|apply ar|apply aA|apply bf|apply aa|refine ah [] ?_|apply aR|(apply aw;·go_simp)|(apply ak;·go_simp))|((with_reducible first|apply ab|apply aS);intro Z U;go_simp;(first|(refine ⟨_,i1,?_⟩)|(with_reducible refine ⟨_,i2,?_⟩)|(with_reducible refine ⟨_,i3,?_⟩)|(with_reducible refine ⟨_,u1,?_⟩)|(with_reducible refine ⟨_,u2,?_⟩)|(with_reducible refine ⟨_,u3,?_⟩)|(refine ⟨_,g3,?_⟩)|skip);apply U;clear U Z)|((refine bg 13 13 [] rfl (by kernel_rfl) ?_);simp only [ax])
  refine hK _ ?_;go_simp
 ·intro k hk HB HP K;have i1:=F7 (aU l k).kind;have i2:=kq (aU l k).rank 0 5;have i3:=ri (aU l k).car (HC.out k hk);have u1:=bH (inR (aU l k).kind 0 3) 15;have u2:=bH (inR (aU l k).rank 0 5) 2;have u3:=bH (cI (aU l k).car) 4;have g3:VC Tryz.prog 88 [.sl 1 ([unl (inR (aU l k).kind 0 3) 15,unl (inR (aU l k).rank 0 5) 2,unl (cI (aU l k).car) 4].map dN)] (I (sgE l k)):=eX _ rfl rfl;have au:sgE l k≠0:=by simpa using HP.out
  have e1:ovE l=sgE l k:=by
   unfold ovE tT;rw [if_neg h2,Ba hk HB.out HP.out,if_pos au]
  have e2:ovT l = .agg [I 0,I 0,I 0]:=by unfold ovT;rw [e1,if_pos au]
  have hE:=HE.out;have hT:=HT.out;rw [e1] at hE;rw [e2] at hT;subst hE hT;clear e1 e2 HE HT;generalize sgE l k=E at *;generalize inR (aU l k).kind 0 3=D1 at *;generalize inR (aU l k).rank 0 5=D2 at *;generalize cI (aU l k).car=D3 at *;generalize unl D1 15=A1 at *;generalize unl D2 2=A2 at *;generalize unl D3 4=A3 at *;repeat' first|(with_reducible first|apply af|apply ae|apply aT|apply az|apply ar|apply aA|apply cG|apply aa|refine ah [] ?_|apply aR|(apply aw;·go_simp))|((with_reducible first|apply ab|apply aS);intro Z U;go_simp;(first|(refine ⟨_,i1,?_⟩)|(with_reducible refine ⟨_,i2,?_⟩)|(with_reducible refine ⟨_,i3,?_⟩)|(with_reducible refine ⟨_,u1,?_⟩)|(with_reducible refine ⟨_,u2,?_⟩)|(with_reducible refine ⟨_,u3,?_⟩)|(refine ⟨_,g3,?_⟩)|skip);apply U;clear U Z)|((refine bg 13 13 [] rfl (by kernel_rfl) ?_);simp only [ax])
  go_simp
 intro Md K;have hS:tT l=0:=by
  unfold tT;rw [if_neg h2,yj l.length 0 (fun j hj=>Md.out j (by omega))]
 have HS:=Lib.hid hS;clear hS;repeat' with_reducible first|apply af|apply ae|apply bP|apply bQ|apply aA|apply bT|apply aa|refine ah [] ?_|(apply ak;·go_simp)|(apply ab;intro Z U;go_simp;apply U;clear U Z)
 apply dI [0,2,44,45] (fun k=>[(46,I k)]) (fun k=>([some (.box [I 0,I 0,I 0])] : Hp)) (E5 l) (l.length)
 ·go_simp<;>exact rfl
 ·go_simp
 ·intro k hk HB HP K hK;obtain ⟨w1,w2,w3,w4,w5,w6⟩:=ixs (m:=k) (by omega);have cN:k≤l.length:=by omega
  have oH:(k:Int)≤(l.length:Int):=by omega
  have gl:VC Tryz.prog 92 [.sl 3 ((l.map Sg.av).take k),I (aU l k).rank,S (aU l k).car] (I (jOf l k)):=vU l k _ _ cN hl;have hp:¬0≤oN l k:=of_decide_eq_false HP.out;by_cases kW:(aU l k).kind=1
  ·by_cases hg:qE l k=true
   ·obtain ⟨j,ej,hj⟩:=Be (show 0≤jOf l k by unfold qE at hg;simp only [Bool.and_eq_true,decide_eq_true_eq] at hg;exact hg.1);have kT:(aU l j).kind=0:=by
     unfold qE at hg;rw [ej,Int.toNat_natCast] at hg;simp only [Bool.and_eq_true,decide_eq_true_eq] at hg;exact hg.2
    have hf:oN l k=ixP (okI l k) 0 j:=by unfold oN;rw [if_pos ⟨kW,hg⟩,ej,Int.toNat_natCast]
    rw [hf] at hp;rw [ej] at gl;have BW:=Lib.hid hp;clear hp hf hg ej;have bI:j < l.length:=by omega
    have nw:j≤l.length:=by omega
    have AZ:(j:Int)≤(l.length:Int):=by omega
    have jc:min j l.length=j:=by omega
    obtain ⟨y,hy⟩ : ∃ y,aU l k=y:=⟨_,rfl⟩
    rw [hy] at kW gl;obtain ⟨k0,oV⟩ : ∃ k0,k0=k:=⟨_,rfl⟩
    have HK:=Lib.hid oV;clear oV;repeat' first|(with_reducible first|apply af|apply ae|apply ar|apply aA|apply aa|refine ah [] ?_|apply aR|(apply aw;·go_simp)|(apply ak;·go_simp)|((first|apply ab|apply aS);intro Z U;go_simp;(first|(refine ⟨_,gl,?_⟩)|skip);apply U;clear U Z))|((refine bg 9 9 [] rfl (by kernel_rfl) ?_);simp only [ax])
    apply dI [0,2,8,9,10,44,45,46,74,75] (fun k=>[(76,I k)]) (fun k=>([some (.box [I 0,I 0,I 0]),some (.box [I 1,I y.rank,S y.car])] : Hp)) (okI l k0) (j)
    ·go_simp<;>exact rfl
    ·go_simp
    ·intro i hi dz eB K2 fG;have bV:i < k:=by omega
     have cC:i < l.length:=by omega
     obtain ⟨x1,x2,x3,x4,x5,x6⟩:=ixs (m:=i) (by omega);have gi:VC Tryz.prog 92 [.sl 3 ((l.map Sg.av).take k),I (aU l i).rank,S (aU l i).car] (I (ix l (aU l i).rank (aU l i).car k)):=vU l k _ _ cN hl;have ho:=eB.out;rw [HK.out] at ho;unfold okI at ho;rw [hy] at ho;by_cases q1:(aU l i).kind=0
     ·by_cases q2:(aU l i).rank=y.rank
      ·by_cases q3:(aU l i).car=y.car
       ·clear ho;repeat' first|(with_reducible first|apply af|apply ae|apply ar|apply aA|apply bf|apply aa|refine ah [] ?_|apply aR|(apply aw;·go_simp)|(apply ak;·go_simp)|((first|apply ab|apply aS);intro Z U;go_simp;apply U;clear U Z))|((refine bg 29 29 [] rfl (by kernel_rfl) ?_);simp only [ax])
        refine fG _ ?_;go_simp
       ·have q4:¬ix l (aU l i).rank (aU l i).car k=i:=by
         rw [decide_eq_true q1,decide_eq_true q2,decide_eq_false q3] at ho;simpa using ho
        generalize ix l (aU l i).rank (aU l i).car k=Q at *;clear ho;rw [q2] at gi;repeat' first|(with_reducible first|apply af|apply ae|apply ar|apply aA|apply bf|apply aa|refine ah [] ?_|apply aR|(apply aw;·go_simp)|(apply ak;·go_simp)|((first|apply ab|apply aS);intro Z U;go_simp;(first|(refine ⟨_,gi,?_⟩)|skip);apply U;clear U Z))|((refine bg 29 29 [] rfl (by kernel_rfl) ?_);simp only [ax])
        refine fG _ ?_;go_simp
      ·clear ho;repeat' first|(with_reducible first|apply af|apply ae|apply ar|apply aA|apply bf|apply aa|refine ah [] ?_|apply aR|(apply aw;·go_simp)|(apply ak;·go_simp)|((first|apply ab|apply aS);intro Z U;go_simp;apply U;clear U Z))|((refine bg 29 29 [] rfl (by kernel_rfl) ?_);simp only [ax])
       refine fG _ ?_;go_simp
     ·clear ho;repeat' first|(with_reducible first|apply af|apply ae|apply ar|apply aA|apply bf|apply aa|refine ah [] ?_|apply aR|(apply aw;·go_simp)|(apply ak;·go_simp)|((first|apply ab|apply aS);intro Z U;go_simp;apply U;clear U Z))|((refine bg 29 29 [] rfl (by kernel_rfl) ?_);simp only [ax])
      refine fG _ ?_;go_simp
    ·intro i hi dz eB K2;have:=kr hi dz.out eB.out;have h5:=BW.out;rw [←HK.out,this] at h5;exact absurd (by omega) h5
    ·intro dz K2;repeat' with_reducible first|apply af|apply ae|apply bP|apply bQ|apply bf|apply bT|apply aa|refine ah [] ?_|(apply ak;·go_simp)|(apply ab;intro Z U;go_simp;apply U;clear U Z)
     refine hK _ ?_;go_simp
   ·have F8:jOf l k < 0∨∃ j:Nat,jOf l k=j∧j < k∧¬(aU l j).kind=0:=by
     by_cases h0:0≤jOf l k
     ·obtain ⟨j,ej,hj⟩:=Be h0;refine .inr ⟨j,ej,hj,fun hh=>hg ?_⟩;unfold qE;rw [ej,Int.toNat_natCast,hh];simp
     ·exact .inl (by omega)
    rcases F8 with F8|⟨j,ej,hj,kT⟩
    ·generalize jOf l k=J at *;clear hp hg;repeat' first|(with_reducible first|apply af|apply ae|apply bP|apply ar|apply bQ|apply aA|apply bT|apply aa|refine ah [] ?_|apply aR|(apply aw;·go_simp)|(apply ak;·go_simp)|((first|apply ab|apply aS);intro Z U;go_simp;(first|(refine ⟨_,gl,?_⟩)|skip);apply U;clear U Z))|((refine bg 9 9 [] rfl (by kernel_rfl) ?_);simp only [ax])
     refine hK _ ?_;go_simp
    ·rw [ej] at gl;have bI:j < l.length:=by omega
     clear hp hg ej;repeat' first|(with_reducible first|apply af|apply ae|apply bP|apply ar|apply bQ|apply aA|apply bT|apply aa|refine ah [] ?_|apply aR|(apply aw;·go_simp)|(apply ak;·go_simp)|((first|apply ab|apply aS);intro Z U;go_simp;(first|(refine ⟨_,gl,?_⟩)|skip);apply U;clear U Z))|((refine bg 9 9 [] rfl (by kernel_rfl) ?_);simp only [ax])
     refine hK _ ?_;go_simp
  ·clear hp gl;repeat' with_reducible first|apply af|apply ae|apply bP|apply ar|apply bQ|apply aA|apply bT|apply aa|refine ah [] ?_|(apply aw;·go_simp)|(apply ab;intro Z U;go_simp;apply U;clear U Z)
   refine hK _ ?_;go_simp
 ·intro k hk HB HP K;obtain ⟨w1,w2,w3,w4,w5,w6⟩:=ixs (m:=k) (by omega);have cN:k≤l.length:=by omega
  have oH:(k:Int)≤(l.length:Int):=by omega
  have gl:VC Tryz.prog 92 [.sl 3 ((l.map Sg.av).take k),I (aU l k).rank,S (aU l k).car] (I (jOf l k)):=vU l k _ _ cN hl;have hp:0≤oN l k:=of_decide_eq_true HP.out;have eL:(aU l k).kind=1∧qE l k=true:=Classical.byContradiction fun hh=>by
   unfold oN at hp;rw [if_neg hh] at hp;omega
  obtain ⟨kW,hg⟩:=eL;obtain ⟨j,ej,hj⟩:=Be (show 0≤jOf l k by unfold qE at hg;simp only [Bool.and_eq_true,decide_eq_true_eq] at hg;exact hg.1);have kT:(aU l j).kind=0:=by
   unfold qE at hg;rw [ej,Int.toNat_natCast] at hg;simp only [Bool.and_eq_true,decide_eq_true_eq] at hg;exact hg.2
  have hf:oN l k=ixP (okI l k) 0 j:=by unfold oN;rw [if_pos ⟨kW,hg⟩,ej,Int.toNat_natCast]
  have eO:tG l=(k:Int):=kr hk HB.out HP.out;have e1:ovE l=0:=by unfold ovE;rw [HS.out,if_neg (by simp),eO,if_neg (by omega)]
  have e2:ovT l = .agg [I (oN l k),I (jOf l k),I (k:Int)]:=by unfold ovT;rw [e1,if_neg (by simp),eO,Int.toNat_natCast]
  have hE:=HE.out;have hT:=HT.out;rw [e1] at hE;rw [e2,ej,hf] at hT;rw [hf] at hp;rw [ej] at gl;have BW:=Lib.hid hp;have Me:=Lib.hid hT;subst hE;clear hp hf hg ej e1 e2 eO hT HE HT;have bI:j < l.length:=by omega
  have nw:j≤l.length:=by omega
  have AZ:(j:Int)≤(l.length:Int):=by omega
  have jc:min j l.length=j:=by omega
  obtain ⟨y,hy⟩ : ∃ y,aU l k=y:=⟨_,rfl⟩
  rw [hy] at kW gl;obtain ⟨k0,oV⟩ : ∃ k0,k0=k:=⟨_,rfl⟩
  have HK:=Lib.hid oV;clear oV;repeat' first|(with_reducible first|apply af|apply ae|apply ar|apply aA|apply aa|refine ah [] ?_|apply aR|(apply aw;·go_simp)|(apply ak;·go_simp)|((first|apply ab|apply aS);intro Z U;go_simp;(first|(refine ⟨_,gl,?_⟩)|skip);apply U;clear U Z))|((refine bg 9 9 [] rfl (by kernel_rfl) ?_);simp only [ax])
  apply dI [0,2,8,9,10,44,45,46,74,75] (fun k=>[(76,I k)]) (fun k=>([some (.box [I 0,I 0,I 0]),some (.box [I 1,I y.rank,S y.car])] : Hp)) (okI l k0) (j)
  ·go_simp<;>exact rfl
  ·go_simp
  ·intro i hi dz eB K2 fG;have bV:i < k:=by omega
   have cC:i < l.length:=by omega
   obtain ⟨x1,x2,x3,x4,x5,x6⟩:=ixs (m:=i) (by omega);have gi:VC Tryz.prog 92 [.sl 3 ((l.map Sg.av).take k),I (aU l i).rank,S (aU l i).car] (I (ix l (aU l i).rank (aU l i).car k)):=vU l k _ _ cN hl;have ho:=eB.out;rw [HK.out] at ho;unfold okI at ho;rw [hy] at ho;by_cases q1:(aU l i).kind=0
   ·by_cases q2:(aU l i).rank=y.rank
    ·by_cases q3:(aU l i).car=y.car
     ·clear ho;repeat' first|(with_reducible first|apply af|apply ae|apply ar|apply aA|apply bf|apply aa|refine ah [] ?_|apply aR|(apply aw;·go_simp)|(apply ak;·go_simp)|((first|apply ab|apply aS);intro Z U;go_simp;apply U;clear U Z))|((refine bg 29 29 [] rfl (by kernel_rfl) ?_);simp only [ax])
      refine fG _ ?_;go_simp
     ·have q4:¬ix l (aU l i).rank (aU l i).car k=i:=by
       rw [decide_eq_true q1,decide_eq_true q2,decide_eq_false q3] at ho;simpa using ho
      generalize ix l (aU l i).rank (aU l i).car k=Q at *;clear ho;rw [q2] at gi;repeat' first|(with_reducible first|apply af|apply ae|apply ar|apply aA|apply bf|apply aa|refine ah [] ?_|apply aR|(apply aw;·go_simp)|(apply ak;·go_simp)|((first|apply ab|apply aS);intro Z U;go_simp;(first|(refine ⟨_,gi,?_⟩)|skip);apply U;clear U Z))|((refine bg 29 29 [] rfl (by kernel_rfl) ?_);simp only [ax])
      refine fG _ ?_;go_simp
    ·clear ho;repeat' first|(with_reducible first|apply af|apply ae|apply ar|apply aA|apply bf|apply aa|refine ah [] ?_|apply aR|(apply aw;·go_simp)|(apply ak;·go_simp)|((first|apply ab|apply aS);intro Z U;go_simp;apply U;clear U Z))|((refine bg 29 29 [] rfl (by kernel_rfl) ?_);simp only [ax])
     refine fG _ ?_;go_simp
   ·clear ho;repeat' first|(with_reducible first|apply af|apply ae|apply ar|apply aA|apply bf|apply aa|refine ah [] ?_|apply aR|(apply aw;·go_simp)|(apply ak;·go_simp)|((first|apply ab|apply aS);intro Z U;go_simp;apply U;clear U Z))|((refine bg 29 29 [] rfl (by kernel_rfl) ?_);simp only [ax])
    refine fG _ ?_;go_simp
  ·intro i hi dz eB K2;have bV:i < k:=by omega
   have cC:i < l.length:=by omega
   obtain ⟨x1,x2,x3,x4,x5,x6⟩:=ixs (m:=i) (by omega);have gi:VC Tryz.prog 92 [.sl 3 ((l.map Sg.av).take k),I (aU l i).rank,S (aU l i).car] (I (ix l (aU l i).rank (aU l i).car k)):=vU l k _ _ cN hl;have ho:=eB.out;rw [HK.out] at ho;unfold okI at ho;rw [hy] at ho;simp only [Bool.and_eq_true,decide_eq_true_eq,Bool.not_eq_true',decide_eq_false_iff_not] at ho;obtain ⟨⟨⟨q1,q2⟩,q3⟩,q4⟩:=ho;rw [q4,q2] at gi;have hT:=Me.out;rw [←HK.out,kr hi dz.out eB.out,HK.out] at hT;subst hT;clear q4;repeat' first|(with_reducible first|apply af|apply ae|apply aT|apply az|apply ar|apply aA|apply cG|apply aa|refine ah [] ?_|apply aR|(apply aw;·go_simp)|((first|apply ab|apply aS);intro Z U;go_simp;(first|(refine ⟨_,gi,?_⟩)|skip);apply U;clear U Z))|((refine bg 29 29 [] rfl (by kernel_rfl) ?_);simp only [ax])
   go_simp
  ·intro dz K2;have h5:=BW.out;rw [←HK.out,ll dz.out] at h5;exact absurd h5 (by decide)
 ·intro HB K;have e0:tG l = -1:=ll HB.out;have e1:ovE l=12:=by unfold ovE;rw [HS.out,if_neg (by simp),e0,if_pos (by decide)]
  have e2:ovT l = .agg [I 0,I 0,I 0]:=by unfold ovT;rw [e1,if_pos (by decide)]
  have hE:=HE.out;have hT:=HT.out;rw [e1] at hE;rw [e2] at hT;subst hE hT;clear e1 e2 e0 HE HT;repeat' with_reducible first|apply af|apply ae|apply bP|apply az|apply bQ|apply bT|apply aa|refine ah [] ?_|(apply ak;·go_simp)|(apply ab;intro Z U;go_simp;apply U;clear U Z)
  go_simp
end Go.Proofs.YtoibondihdhnoaaGreatDoor
