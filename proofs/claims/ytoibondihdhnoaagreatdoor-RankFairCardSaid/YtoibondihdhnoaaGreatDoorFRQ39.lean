/- Texts in one: Walks: the text of a state. -/
import Derived.Test.YtoibondihdhnoaaGreatDoorFRQ35
import Derived.Test.YtoibondihdhnoaaGreatDoorFRQ36
import Derived.Test.YtoibondihdhnoaaGreatDoorFRQ33
import Derived.Test.YtoibondihdhnoaaGreatDoorFRQ34
import Derived.Test.YtoibondihdhnoaaGreatDoorFRQ9
import Derived.Lib.ItoaLen
namespace Go.Proofs.YtoibondihdhnoaaGreatDoor
open Go.RowKit
set_option maxRecDepth 100000
set_option maxHeartbeats 1000000
def txL (l:List UInt8) : List AV:=[S (mkB l)]
attribute [go_sem] txL
theorem tJ (s:ByteArray) : s.data.toList.length=s.size:=(Lib.size_eq s).symm
@[go_sem] theorem QY:Fv 0 []=0:=KJ 0
@[go_sem] theorem QZ (c:UInt8) (l:List UInt8) : yb c l 0=0:=rfl
@[go_sem] theorem Q3 (c:UInt8) (l:List UInt8) : Bh c l 0=[]:=rfl
@[go_sem] theorem Q4:mkB []=⟨#[]⟩:=rfl
def jZ (n:Int) : ByteArray:=mkB (Lib.itoa n)
end Go.Proofs.YtoibondihdhnoaaGreatDoor
namespace Go.Proofs.YtoibondihdhnoaaGreatDoor
open Go.RowKit Go.Shelf
set_option maxRecDepth 100000
set_option maxHeartbeats 1000000
def jE (c:UInt8) (s:ByteArray) : List ByteArray:=(gN c s.data.toList).map mkB
theorem Fx (c:UInt8) (s:ByteArray) : (jE c s).length≤s.size+1:=by
 have:=Fp c s.data.toList;rw [tJ] at this;simpa [jE] using this
theorem KK {c:UInt8} {s p:ByteArray} (h:p∈jE c s) : p.size≤s.size:=by
 obtain ⟨l,hl,rfl⟩:=List.mem_map.1 h;have:=Fq c _ l hl;rw [Fw,←tJ];exact this
theorem KL (w:World) (k:Nat) (os:Array Obj) : Below w.heap.size w (Sort.grow (w.drewN k) os):=
 ⟨rfl,rfl,rfl,by show w.heap.size≤(w.heap++os).size;rw [Array.size_append];omega,fun j hj=>by show (w.heap++os)[j]? = _;rw [Array.getElem?_append_left hj]⟩
theorem ye {f:FuncId} {a r:AV} (hg:lN Tryz.prog f=true) (h:∀ w M v1,MOK w M→V0 w M a v1→Calls Tryz.prog f #[v1] w fun e w'=>∃ v,e = .returned v∧Below w.heap.size w w'∧V0 w' M r v) : VC Tryz.prog f [a] r:=
 ⟨hg,fun w M vs hM hl hv=>by
  obtain ⟨v1,rfl⟩:=List.length_eq_one_iff.1 hl;exact h w M v1 hM (hv 0 a v1 rfl rfl)⟩
theorem Fy {f:FuncId} {a b r:AV} (hg:lN Tryz.prog f=true) (h:∀ w M v1 v2,MOK w M→V0 w M a v1→V0 w M b v2→Calls Tryz.prog f #[v1,v2] w fun e w'=>∃ v,e = .returned v∧Below w.heap.size w w'∧V0 w' M r v) : VC Tryz.prog f [a,b] r:=
 ⟨hg,fun w M vs hM hl hv=>by
  match vs,hl with
  | [v1,v2],_=>exact h w M v1 v2 hM (hv 0 a v1 rfl rfl) (hv 1 b v2 rfl rfl)⟩
theorem gf {w:World} {M:Nat→Nat→Prop} (h:MOK w M) : yf w:=h.2.2.2
theorem KM (c:UInt8) (s:ByteArray) : (jE c s).length=Lib.countB s ⟨#[c]⟩+1:=by
 have h:=Lib.splitB_all ⟨#[c]⟩ (Nat.le_refl _) 0 _ s rfl;rw [Bi c _ s rfl] at h;exact h
theorem Fz (s:ByteArray) (c:UInt8) (hs:s.size≤1000000) : VC Tryz.prog 105 [S s,S ⟨#[c]⟩] (jm (jE c s)):=
 Fy (by kernel_rfl) fun w M v1 v2 hM h1 h2=>by
  obtain rfl:=V0.lit_inv h1;obtain rfl:=V0.lit_inv h2;obtain ⟨m,hm⟩:=(gf hM).1;refine (Any.strings_Split Kz (by kernel_rfl) s ⟨#[c]⟩ m w (by omega) hm (Nat.le_refl _)).mono fun e w' ⟨he,hw⟩=>⟨_,he,?_,?_⟩
  ·rw [hw];exact (Below.refl _ w).alloc (Nat.le_refl _) _
  ·have hl:=KM c s;have hp:Lib.splitB ⟨#[c]⟩ 0 (Lib.countB s ⟨#[c]⟩) s=jE c s:=Bi c _ s rfl;have vu:((jE c s).map bY).length=Lib.countB s ⟨#[c]⟩+1:=by rw [List.length_map,hl]
   rw [hw,hp,←vu];refine .sl 1 _ _ _ 0 (fun k _=>.string (tat (jE c s) k)) (fun hn=>?_) (by simp) (fun _ _ _ _ mq=>absurd (hM.1 _ _ mq) (Nat.lt_irrefl _)) (Nat.le_refl _) (fun k x hx=>?_) (fun k x j d hx hd=>?_) (fun k j hk hj=>?_) (fun k x j d hx hd=>?_)
   ·rw [hn] at vu;simp at vu
   ·obtain ⟨y,_,rfl⟩:=eo hx;rfl
   ·obtain ⟨y,_,rfl⟩:=eo hx;rw [show bY y=[S y] from rfl,List.getElem?_singleton] at hd;split at hd
    ·injection hd with hd
     subst hd;rfl
    ·cases hd
   ·rw [List.length_map] at hk;have lY:j=0:=by omega
    subst lY;rw [show 0+k*1+0=k by omega];refine (Bj w _ _ k).trans ?_;simp [hk,tat]
   ·obtain ⟨y,hy,rfl⟩:=eo hx;rw [show bY y=[S y] from rfl,List.getElem?_singleton] at hd;split at hd
    ·injection hd with hd
     subst hd;simp only [tat,List.getD,hy,Option.getD_some];exact .lit _
    ·cases hd
theorem KN (s q:ByteArray) : VC Tryz.prog 151 [S s,S q] (S (mkB (Lib.trimPrefix s.data.toList q.data.toList))):=
 Fy (by kernel_rfl) fun w M v1 v2 hM h1 h2=>by
  obtain rfl:=V0.lit_inv h1;obtain rfl:=V0.lit_inv h2;exact (Any.strings_TrimPrefix KB s q w).mono fun e w' ⟨he,hw⟩=>⟨_,he,hw▸Below.refl _ _,.lit _⟩
theorem yg (n:Int) (h : -9223372036854775808≤n∧n≤9223372036854775807) : VC Tryz.prog 103 [I n] (S (jZ n)):=
 ye (by kernel_rfl) fun w M v1 hM h1=>by
  obtain rfl:=V0.lit_inv h1;refine (Any.strconv_Itoa KD n h.1 h.2 w (gf hM).2.1).mono fun e w' ⟨he,k,os,hw⟩=>⟨_,he,?_,.lit _⟩
  rw [hw];exact KL w k os
theorem KO (s:ByteArray) (hs:s.size≤1000000) (v:Int) (h:Lib.atoiAll s.data.toList = .ok v) : VC Tryz.prog 150 [S s] (.tup [I v,.lit .nilIface]):=
 ye (by kernel_rfl) fun w M v1 hM h1=>by
  obtain rfl:=V0.lit_inv h1;refine (Any.strconv_Atoi_ok Bg s (by omega) v h w).mono fun e w' ⟨he,hw⟩=>⟨_,he,?_,?_⟩
  ·rcases hw with rfl|⟨t,rfl⟩
   ·exact Below.refl _ _
   ·exact Lib.bytesWorld_below _ _ _
  ·refine .tup _ [_,_] rfl fun i a u ha hu=>?_;match i with
   | 0=>cases ha;cases hu;exact .lit _
   | 1=>cases ha;cases hu;exact .lit _
   | n+2=>cases ha
theorem KP (s:ByteArray) (hs:s.size≤1000000) (h1:∀ v,Lib.atoiAll s.data.toList≠.ok v) (h2:Lib.atoiAll s.data.toList≠.range) : VC Tryz.prog 150 [S s] (.tup [I 0,.iface (laysAtoi_ren.t 168) .any]):=
 ye (by kernel_rfl) fun w M v1 hM h0=>by
  obtain rfl:=V0.lit_inv h0;obtain ⟨t,q,hc⟩:=(gf hM).2.2.1;have KQ:Calls Tryz.prog 150 #[.string s] w fun e w'=>∃ n,e = .returned (.tuple #[.int .i64 0,.iface (laysAtoi_ren.t 168) (.pointer (some ⟨n,0,none⟩))])∧Below w.heap.size w w':=by
   cases hx:Lib.atoiAll s.data.toList with
   | ok v=>exact absurd hx (h1 v)
   | range=>exact absurd hx h2
   | _=>exact (Any.strconv_Atoi_syntax Bg s (by omega) hx _ w hc (.inr ⟨_,_,rfl⟩)).mono fun e w' ⟨N,he,_,_,hw⟩=>⟨N,he,hw⟩
  refine KQ.mono fun e w' ⟨N,he,hw⟩=>⟨_,he,hw,?_⟩
  refine .tup _ [_,_] rfl fun i a u ha hu=>?_;match i with
  | 0=>cases ha;cases hu;exact .lit _
  | 1=>cases ha;cases hu;exact .iface _ _ _ (.any _)
  | n+2=>cases ha
theorem KR (s:ByteArray) (hs:s.size≤1000000) (h:Lib.atoiAll s.data.toList = .range) : VC Tryz.prog 150 [S s] (.tup [I (Lib.atoiSat s.data.toList),.iface (laysAtoi_ren.t 168) .any]):=
 ye (by kernel_rfl) fun w M v1 hM h1=>by
  obtain rfl:=V0.lit_inv h1;obtain ⟨t,q,hc⟩:=(gf hM).2.2.2;refine (Any.strconv_Atoi_range Bg s (by omega) h _ w hc (.inr ⟨_,_,rfl⟩)).mono fun e w' ⟨N,he,_,_,hw⟩=>⟨_,he,hw,?_⟩
  refine .tup _ [_,_] rfl fun i a u ha hu=>?_;match i with
  | 0=>cases ha;cases hu;exact .lit _
  | 1=>cases ha;cases hu;exact .iface _ _ _ (.any _)
  | n+2=>cases ha
theorem FA:Builder.Extra Tryz.prog Fh where
 sizeBuilder:=by kernel_rfl
 liesBuilder:=by kernel_rfl
 t5:=Tryz.underlying5
 a5:=Tryz.isAgg5
 z5:=Tryz.sizeOf5
 v5:=Tryz.zeroValue5
 infoByte:=by kernel_rfl
 cellsByte:=by kernel_rfl
 sizeByte:=by kernel_rfl
 neB5:=by decide
def bl (b:ByteArray) : List UInt8:=b.data.toList
def ly (l:List ByteArray) (sep:ByteArray) : ByteArray:=⟨(Lib.join (l.map bl) (bl sep)).toArray⟩
theorem yh (l:List ByteArray) (sep:ByteArray) (h:(Lib.join (l.map bl) (bl sep)).length≤1000000000) (hl:l.length≤1000000000) : VC Tryz.prog 102 [jm l,S sep] (S (ly l sep)):=
 KT (by kernel_rfl) fun w M v1 v2 h1 h2=>by
  obtain rfl:=V0.lit_inv h2;change V0 w M (.sl 1 (l.map bY)) v1 at h1;generalize cJ:l.map bY=es at h1;cases h1 with
  | slNil _ A cap=>
   have hl:l=[]:=List.map_eq_nil_iff.1 cJ;subst hl;exact (Any.strings_Join_none Fi FA A cap sep w).mono fun e w' ⟨he,hw⟩=>⟨_,he,hw▸Below.refl _ _,by exact .lit _⟩
  | sl _ _ cap b o u aq hb hM dB aJ h1 hc hv=>
   have hlen:es.length=l.length:=by rw [←cJ,List.length_map]
   have da:∀ (j:Nat) (x:ByteArray),l[j]? = some x→w.cell? { block:=b,off:=o+j } = some (.string x):=fun j x hx=>by
    have bM:=(List.getElem?_eq_some_iff.1 hx).1;have h3:=hv j (bY x) 0 (S x) (by rw [←cJ];simp [hx]) rfl;have h4:=hc j 0 (by omega) (by decide);rw [V0.lit_inv h3,Nat.mul_one,Nat.add_zero] at h4;exact h4
   rw [hlen] at dB ⊢;exact (Any.strings_Join Fi FA b o cap l sep w da hb (by omega) dB (Nat.le_trans h (by decide))).mono fun e w' ⟨he,hw⟩=>⟨_,he,hw,.lit _⟩
def tK (l:List UInt8) : Int:=match Lib.atoiAll l with | .ok v=>v | .range=>Lib.atoiSat l|_=>0
theorem FB (s:ByteArray) (hs:s.size≤1000000) : VC Tryz.prog 109 [S s] (.tup [I (tK s.data.toList),B (oJ s.data.toList)]):=by
 unfold tK oJ;have jq:=KP s hs;have h_:=KR s hs;have dQ:=KO s hs;have hb:=@Lib.atoiAll_bounds s.data.toList;have g3:=KN s ⟨#[45]⟩;have KU:(⟨#[45]⟩ : ByteArray).data.toList=[45]:=rfl;rw [KU] at g3;have aJ:=Fw (Lib.trimPrefix s.data.toList [45]);have hd:∀ v,(jZ v=s)↔(Lib.itoa v=s.data.toList):=fun v=>by
  unfold jZ;constructor
  ·intro h;rw [←h];rfl
  ·intro h;rw [h];rfl
 generalize Lib.trimPrefix s.data.toList [45]=X at *;generalize Lib.atoiSat s.data.toList=sat at *;cases hx:Lib.atoiAll s.data.toList with
 | ok v=>
  have g1:=dQ v hx;have g2:=yg v (hb hx);have vv:=hd v;clear jq h_ dQ hb hd hx;simp only;generalize Lib.itoa v=Y at *;generalize jZ v=D at *;generalize mkB X=T at *;by_cases h1:D=s
  ·have lz:=vv.1 h1;rw [decide_eq_true lz,Bool.true_and];by_cases h2:X.length≤9
   ·have h3:((T.size:Nat) : Int)≤9:=by omega
    rw [decide_eq_true h2];clear vv lz h2 aJ;subst h1;refine aL Tryz.func109 rfl (by kernel_rfl) rfl fun M0 w0=>?_;simp only [Tryz.ntmps109,Tryz.results109,aC];repeat' with_reducible first|apply af|apply ae|apply az|apply aa|refine ah [] ?_|(apply ab;intro Z U;go_simp;(first|(refine ⟨_,g1,?_⟩)|(refine ⟨_,g2,?_⟩)|(refine ⟨_,g3,?_⟩)|skip);apply U;clear U Z)
    go_simp
   ·have h3:¬((T.size:Nat) : Int)≤9:=by omega
    rw [decide_eq_false h2];clear vv lz h2 aJ;subst h1;refine aL Tryz.func109 rfl (by kernel_rfl) rfl fun M0 w0=>?_;simp only [Tryz.ntmps109,Tryz.results109,aC];repeat' with_reducible first|apply af|apply ae|apply az|apply aa|refine ah [] ?_|(apply ab;intro Z U;go_simp;(first|(refine ⟨_,g1,?_⟩)|(refine ⟨_,g2,?_⟩)|(refine ⟨_,g3,?_⟩)|skip);apply U;clear U Z)
    go_simp
  ·have lz:¬Y=s.data.toList:=fun e=>h1 (vv.2 e);rw [decide_eq_false lz,Bool.false_and];clear vv lz;refine aL Tryz.func109 rfl (by kernel_rfl) rfl fun M0 w0=>?_;simp only [Tryz.ntmps109,Tryz.results109,aC];repeat' with_reducible first|apply af|apply ae|apply az|apply aa|refine ah [] ?_|(apply ab;intro Z U;go_simp;(first|(refine ⟨_,g1,?_⟩)|(refine ⟨_,g2,?_⟩)|skip);apply U;clear U Z)
   go_simp
 | range=>
  have g1:=h_ hx;clear jq h_ dQ hb hd hx g3 aJ;simp only;refine aL Tryz.func109 rfl (by kernel_rfl) rfl fun M0 w0=>?_;simp only [Tryz.ntmps109,Tryz.results109,aC];repeat' with_reducible first|apply af|apply ae|apply az|apply aa|refine ah [] ?_|(apply ab;intro Z U;go_simp;(first|(refine ⟨_,g1,?_⟩)|skip);apply U;clear U Z)
  go_simp
 | _=>
  have g1:=jq (fun v=>by rw [hx];intro h;cases h) (by rw [hx];intro h;cases h);clear jq h_ dQ hb hd hx g3 aJ;simp only;refine aL Tryz.func109 rfl (by kernel_rfl) rfl fun M0 w0=>?_;simp only [Tryz.ntmps109,Tryz.results109,aC];repeat' with_reducible first|apply af|apply ae|apply az|apply aa|refine ah [] ?_|(apply ab;intro Z U;go_simp;(first|(refine ⟨_,g1,?_⟩)|skip);apply U;clear U Z)
  go_simp
theorem KW (x y:List UInt8) (r:List (List UInt8)) (s:List UInt8) : Lib.join (x::y::r) s=x++(s++Lib.join (y::r) s):=by
 rw [Lib.join_cons,Lib.join_cons];simp [Lib.joinTail]
theorem FC (sep:List UInt8) (B:Nat) : ∀ (L:List (List UInt8)),(∀ x∈L,x.length≤B)→(Lib.join L sep).length≤L.length*(B+sep.length)
 | [],_=>by simp [Lib.join]
 | [x],h=>by
  have:=h x (by simp);have e:Lib.join [x] sep=x:=by simp [Lib.join]
  rw [e];simp;omega
 | x::y::r,h=>by
  have h1:=h x (by simp);have h2:=FC sep B (y::r) fun z hz=>h z (List.mem_cons_of_mem _ hz);rw [KW,List.length_append,List.length_append,List.length_cons,Nat.add_mul,Nat.one_mul];omega
def i64 (n:Int) : Prop:=-9223372036854775808≤n∧n≤9223372036854775807
structure SmallS (s:St) : Prop where
 nq:s.q.length≤300
 q1:∀ l∈s.q,l.length≤300∧∀ c∈l,c.size≤1000
 nt:s.tk.length≤300
 t1:∀ t∈s.tk,t.car.size≤1000∧i64 t.rank∧i64 t.time
 tm:i64 s.time
def mA (t:Tk) : ByteArray:=ly [t.car,jZ t.rank,jZ t.time] ⟨#[58]⟩
def rS (s:St) : ByteArray:=ly (s.tk.map mA) ⟨#[32]⟩
def jF (s:St) (k:Nat) : List ByteArray:=jZ s.time::(s.q.take k).map fun l=>ly l ⟨#[32]⟩
def Bl (s:St) : ByteArray:=ly (jF s s.q.length++[rS s]) ⟨#[124]⟩
theorem yi {l:List ByteArray} {s:ByteArray} {B:Nat} (h:∀ x∈l,x.size≤B) : (Lib.join (l.map bl) (bl s)).length≤l.length*(B+s.size):=by
 have:=FC (bl s) B (l.map bl) fun x hx=>by
  obtain ⟨y,hy,rfl⟩:=List.mem_map.1 hx;have h1:=h y hy;have h2:(bl y).length=y.size:=tJ y;omega
 rw [List.length_map,show (bl s).length=s.size from tJ s] at this;exact this
theorem vw (l:List ByteArray) (s:ByteArray) : (ly l s).size=(Lib.join (l.map bl) (bl s)).length:=by
 unfold ly;rw [←tJ]
theorem Bm {n:Int} (h:i64 n) : (jZ n).size≤21:=by
 have:=Lib.itoa_length_le n h.1 h.2;rw [←tJ];exact this
theorem yj {s:St} {k:Nat} (h:k≤s.q.length) : (jF s k).length=k+1:=by simp [jF,List.length_take];omega
theorem KX {s:St} {k:Nat} (h:k < s.q.length) : jF s (k+1)=jF s k++[ly (qat s.q k) ⟨#[32]⟩]:=by
 rw [jF,jF,tB h,List.map_append,List.cons_append,iJ h];rfl
def kY (s:St) (k:Nat) : List ByteArray:=(s.tk.take k).map mA
theorem Bn {s:St} {k:Nat} (h:k≤s.tk.length) : (kY s k).length=k:=by simp [kY,List.length_take];omega
theorem KY {s:St} {k:Nat} (h:k < s.tk.length) : kY s (k+1)=kY s k++[mA (cl s.tk k)]:=by
 rw [kY,kY,tB h,List.map_append,lf h];rfl
theorem KZ (s:St) (h:SmallS s) : VC Tryz.prog 61 [dX s] (S (Bl s)):=by
 have hq:=h.q1;have ht:=h.t1;have K6:=h.nq;have K7:=h.nt;have bq:∀ k,k < s.q.length→(ly (qat s.q k) ⟨#[32]⟩).size≤301000:=fun k hk=>by
  obtain ⟨h1,h2⟩:=hq _ (List.getElem_mem hk);rw [vw,iJ hk];refine Nat.le_trans (yi h2) ?_;have:s.q[k].length*(1000+(⟨#[32]⟩ : ByteArray).size)≤300*1001:=Nat.mul_le_mul h1 (Nat.le_refl _);omega
 have bt:∀ k,k < s.tk.length→(mA (cl s.tk k)).size≤3003:=fun k hk=>by
  obtain ⟨h1,h2,h3⟩:=ht _ (List.getElem_mem hk);unfold mA;rw [vw,lf hk];refine Nat.le_trans (yi (B:=1000) fun x hx=>?_) (Nat.le_refl _);simp only [List.mem_cons,List.not_mem_nil,or_false] at hx;rcases hx with rfl|rfl|rfl
  ·exact h1
  ·exact Nat.le_trans (Bm h2) (by omega)
  ·exact Nat.le_trans (Bm h3) (by omega)
 have yk:kY s s.tk.length=s.tk.map mA:=by rw [kY,List.take_length]
 have qy:∀ x∈kY s s.tk.length,x.size≤3003:=fun x hx=>by
  rw [yk] at hx;obtain ⟨y,hy,rfl⟩:=List.mem_map.1 hx;obtain ⟨k,hk,rfl⟩:=List.getElem_of_mem hy;rw [←lf hk];exact bt k hk
 have FD:(Lib.join ((kY s s.tk.length).map bl) (bl ⟨#[32]⟩)).length≤901200:=by
  refine Nat.le_trans (yi qy) ?_;rw [Bn (Nat.le_refl _)];exact Nat.mul_le_mul K7 (Nat.le_refl _)
 have K8:(rS s).size≤901200:=by
  unfold rS;rw [vw,←yk];exact FD
 have aD:∀ x∈jF s s.q.length++[rS s],x.size≤1000000:=fun x hx=>by
  rcases List.mem_append.1 hx with hx|hx
  ·rw [jF,List.take_length] at hx;rcases List.mem_cons.1 hx with rfl|hx
   ·exact Nat.le_trans (Bm h.tm) (by omega)
   ·obtain ⟨y,hy,rfl⟩:=List.mem_map.1 hx;obtain ⟨k,hk,rfl⟩:=List.getElem_of_mem hy;have:=bq k hk;rw [iJ hk] at this;omega
  ·simp at hx;rw [hx];omega
 have vz:(Lib.join ((jF s s.q.length++[rS s]).map bl) (bl ⟨#[124]⟩)).length≤1000000000:=by
  refine Nat.le_trans (yi aD) ?_;rw [List.length_append,yj (Nat.le_refl _)];have:(s.q.length+1+1)*(1000000+1)≤302*1000001:=Nat.mul_le_mul (by omega) (Nat.le_refl _);simp only [List.length_cons,List.length_nil];have e:(⟨#[124]⟩ : ByteArray).size=1:=rfl;rw [e];omega
 have g0:=yg s.time h.tm;have K9:=Lib.hid (yh (kY s s.tk.length) ⟨#[32]⟩ (by omega) (by rw [Bn (Nat.le_refl _)];omega));have K_:=Lib.hid (yh (jF s s.q.length++[rS s]) ⟨#[124]⟩ vz (by rw [List.length_append,yj (Nat.le_refl _)];simp;omega));have HQ:Hid (∀ k,k < s.q.length→VC Tryz.prog 102 [jm (qat s.q k),S ⟨#[32]⟩] (S (ly (qat s.q k) ⟨#[32]⟩))):=Lib.hid fun k hk=>by
  obtain ⟨h1,h2⟩:=hq _ (List.getElem_mem hk);rw [←iJ hk] at h1 h2;have:=bq k hk;rw [vw] at this;exact yh (qat s.q k) ⟨#[32]⟩ (Nat.le_trans this (by omega)) (by omega)
 have HT:Hid (∀ k,k < s.tk.length→VC Tryz.prog 103 [I (cl s.tk k).rank] (S (jZ (cl s.tk k).rank))∧VC Tryz.prog 103 [I (cl s.tk k).time] (S (jZ (cl s.tk k).time))∧VC Tryz.prog 102 [jm [(cl s.tk k).car,jZ (cl s.tk k).rank,jZ (cl s.tk k).time],S ⟨#[58]⟩] (S (mA (cl s.tk k)))):=Lib.hid fun k hk=>by
  obtain ⟨h1,h2,h3⟩:=ht _ (List.getElem_mem hk);rw [←lf hk] at h2 h3;have:=bt k hk;unfold mA at this;rw [vw] at this;exact ⟨yg _ h2,yg _ h3,yh [(cl s.tk k).car,jZ (cl s.tk k).rank,jZ (cl s.tk k).time] ⟨#[58]⟩ (Nat.le_trans this (by omega)) (by simp)⟩
 have HE:=Lib.hid yk;unfold Bl;unfold rS at *;clear hq ht bq bt qy FD K8 aD vz yk h;generalize hR:ly (jF s s.q.length++[ly (s.tk.map mA) ⟨#[32]⟩]) ⟨#[124]⟩=R at *;clear hR;refine aL Tryz.func61 rfl (by kernel_rfl) rfl fun M0 w0=>?_;simp only [Tryz.ntmps61,Tryz.results61,aC];have e0:jF s 0=[jZ s.time]:=rfl;have e1:kY s 0=[]:=rfl;repeat' with_reducible first|apply af|apply ae|apply aE|apply aa|refine ah [12] ?_|(apply ab;intro Z U;go_simp;(first|(refine ⟨_,g0,?_⟩)|skip);apply U;clear U Z)
 apply jQ [1,14,15] (fun k=>[(16,I k),(3,.osl 0)]) (fun k=>([some (.arr 9 1 false ((jF s k).map bY))] : Hp))  (s.q.length)
 ·go_simp<;>exact rfl
 ·go_simp
 ·intro k hk K hK;obtain ⟨w1,w2,w3,w4,w5,w6⟩:=ixs (m:=k) (by omega);have HS:=Lib.hid (KX hk);have aK:=yj (s:=s) (k:=k) (by omega);have hb:(jF s k).length+1≤1000000000:=by omega
  clear aK;have gj:=HQ.out k hk;generalize ly (qat s.q k) ⟨#[32]⟩=J at *;repeat' with_reducible first|apply af|apply ae|apply aw|apply aE|apply bc|apply aa|refine ah [] ?_|(apply ax;·go_simp)|(apply ab;intro Z U;go_simp;(first|(refine ⟨_,gj,?_⟩)|skip);apply U;clear U Z)
  refine hK _ ?_;rw [HS.out];go_simp
 ·intro K;repeat' with_reducible first|apply af|apply ae|apply bU|apply bV|apply aE|apply bW|apply aa|refine ah [6] ?_|(apply ar;·go_simp)|(apply ab;intro Z U;go_simp;apply U;clear U Z)
  apply jQ [3,27,28] (fun k=>[(29,I k),(6,.osl 1)]) (fun k=>([some (.arr 9 1 false ((jF s s.q.length).map bY)),some (.arr 9 1 (decide (kY s k=[])) ((kY s k).map bY))] : Hp))  (s.tk.length)
  ·go_simp<;>exact rfl
  ·go_simp
  ·intro k hk K hK;obtain ⟨w1,w2,w3,w4,w5,w6⟩:=ixs (m:=k) (by omega);have HS:=Lib.hid (KY hk);have aK:=Bn (s:=s) (k:=k) (by omega);have hb:(kY s k).length+1≤1000000000:=by omega
   clear aK;obtain ⟨g1,g2,g3⟩:=HT.out k hk;generalize mA (cl s.tk k)=J at *;generalize jZ (cl s.tk k).rank=D1 at *;generalize jZ (cl s.tk k).time=D2 at *;repeat' with_reducible apply af
   refine ah [] ?_;repeat' with_reducible first|apply af|apply ae|apply aw|apply aE|apply aa|(apply ax;·go_simp)|(apply ab;intro Z U;go_simp;apply U;clear U Z)
   refine ah [] ?_;repeat' with_reducible first|apply ae|apply aa|(apply ab;intro Z U;go_simp;apply U;clear U Z)
   refine rH 12 [45] 1 [] (by kernel_rfl) (by kernel_rfl) (by kernel_rfl) (by kernel_rfl) rfl ⟨rfl,rfl⟩ rfl ?_;simp only [au];repeat' first|with_reducible apply aQ|((with_reducible apply aR);intro Z U;go_simp;(first|(with_reducible refine ⟨_,g1,?_⟩)|(with_reducible refine ⟨_,g2,?_⟩)|(refine ⟨_,g3,?_⟩)|skip);apply U;clear U Z)
   refine ⟨_,by go_simp,by go_simp;exact rfl,?_,?_⟩
   ·intro t ht;simp at ht
   go_simp;repeat' with_reducible first|apply ae|apply bc|apply aa|refine ah [] ?_|(apply ab;intro Z U;go_simp;apply U;clear U Z)
   refine hK _ ?_;rw [HS.out];go_simp
  ·intro K;have hj:=K9.out;rw [HE.out] at hj ⊢;have np:=K_.out;generalize ly (s.tk.map mA) ⟨#[32]⟩=J at *;generalize s.tk.map mA=TT at *;have hb:(jF s s.q.length).length+1≤1000000000:=by rw [yj (Nat.le_refl _)];omega
   generalize jF s s.q.length=SP at *;have e2:(SP++[J]).map bY=SP.map bY++[[S J]]:=by simp [bY]
   unfold jm at np;rw [e2] at np;repeat' first|(with_reducible first|apply af|apply ae|apply bU|apply az|apply bV|apply bW|apply aa|refine ah [] ?_|(apply ar;·go_simp))|((with_reducible apply ab);intro Z U;go_simp;(first|(refine ⟨_,⟨hj,rfl⟩,?_⟩)|(refine ⟨_,⟨np,rfl⟩,?_⟩)|skip);apply U;clear U Z)
   go_simp
end Go.Proofs.YtoibondihdhnoaaGreatDoor
