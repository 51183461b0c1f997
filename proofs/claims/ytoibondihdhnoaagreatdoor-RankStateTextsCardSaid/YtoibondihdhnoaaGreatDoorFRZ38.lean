/- Texts in one: Walks: the text of a state. -/
import Derived.Test.YtoibondihdhnoaaGreatDoorFRZ32
import Derived.Test.YtoibondihdhnoaaGreatDoorFRZ33
import Derived.Test.YtoibondihdhnoaaGreatDoorFRZ36
import Derived.Test.YtoibondihdhnoaaGreatDoorFRZ8
import Derived.Lib.ItoaLen
namespace Go.Proofs.YtoibondihdhnoaaGreatDoor
open Go.RowKit Go.Shelf
set_option maxRecDepth 100000
set_option maxHeartbeats 1000000
def aP (c:UInt8) (s:ByteArray) : List ByteArray:=(dK c s.data.toList).map mkB
theorem mi (c:UInt8) (s:ByteArray) : (aP c s).length≤s.size+1:=by
 have:=Gb c s.data.toList;rw [kZ] at this;simpa [aP] using this
theorem lM {c:UInt8} {s p:ByteArray} (h:p∈aP c s) : p.size≤s.size:=by
 obtain ⟨l,hl,rfl⟩:=List.mem_map.1 h;have:=Gc c _ l hl;rw [tK,←kZ];exact this
theorem qH (s:ByteArray) (c:UInt8) (hs:s.size≤1000000) : VC Tryz.prog 110 [S s,.lit (.int .u8 c.toNat)] (fr (aP c s)):=by
 have:=My s c hs;have e:(aP c s).map cL=(dK c s.data.toList).map txL:=by
  unfold aP;rw [List.map_map];rfl
 rw [fr,e];exact this
theorem tO (s:ByteArray) (hs:s.size≤1000000) : VC Tryz.prog 110 [S s,.lit (.int .u8 32)] (fr (aP 32 s)):=qH s 32 hs
theorem MA (w:World) (k:Nat) (os:Array Obj) : Below w.heap.size w (Sort.grow (w.drewN k) os):=
 ⟨rfl,rfl,rfl,by show w.heap.size≤(w.heap++os).size;rw [Array.size_append];omega,fun j hj=>by show (w.heap++os)[j]? = _;rw [Array.getElem?_append_left hj]⟩
theorem zl {f:FuncId} {a r:AV} (hg:ln Tryz.prog f=true) (h:∀ w M v1,MOK w M→V0 w M a v1→Calls Tryz.prog f #[v1] w fun e w'=>∃ v,e = .returned v∧Below w.heap.size w w'∧V0 w' M r v) : VC Tryz.prog f [a] r:=
 ⟨hg,fun w M vs hM hl hv=>by
  obtain ⟨v1,rfl⟩:=List.length_eq_one_iff.1 hl;exact h w M v1 hM (hv 0 a v1 rfl rfl)⟩
theorem Cw {f:FuncId} {a b r:AV} (hg:ln Tryz.prog f=true) (h:∀ w M v1 v2,MOK w M→V0 w M a v1→V0 w M b v2→Calls Tryz.prog f #[v1,v2] w fun e w'=>∃ v,e = .returned v∧Below w.heap.size w w'∧V0 w' M r v) : VC Tryz.prog f [a,b] r:=
 ⟨hg,fun w M vs hM hl hv=>by
  match vs,hl with
  | [v1,v2],_=>exact h w M v1 v2 hM (hv 0 a v1 rfl rfl) (hv 1 b v2 rfl rfl)⟩
theorem gf {w:World} {M:Nat→Nat→Prop} (h:MOK w M) : yy w:=h.2.2.2
theorem MB (c:UInt8) (s:ByteArray) : (aP c s).length=Lib.countB s ⟨#[c]⟩+1:=by
 have h:=Lib.splitB_all ⟨#[c]⟩ (Nat.le_refl _) 0 _ s rfl;rw [Cm c _ s rfl] at h;exact h
theorem qI (s:ByteArray) (c:UInt8) (hs:s.size≤1000000) : VC Tryz.prog 105 [S s,S ⟨#[c]⟩] (fr (aP c s)):=
 Cw (by kernel_rfl) fun w M v1 v2 hM h1 h2=>by
  obtain rfl:=V0.lit_inv h1;obtain rfl:=V0.lit_inv h2;obtain ⟨m,hm⟩:=(gf hM).1;refine (Any.strings_Split Mj (by kernel_rfl) s ⟨#[c]⟩ m w (by omega) hm (Nat.le_refl _)).mono fun e w' ⟨he,hw⟩=>⟨_,he,?_,?_⟩
  ·rw [hw];exact (Below.refl _ w).alloc (Nat.le_refl _) _
  ·have hl:=MB c s;have hp:Lib.splitB ⟨#[c]⟩ 0 (Lib.countB s ⟨#[c]⟩) s=aP c s:=Cm c _ s rfl;have vz:((aP c s).map cL).length=Lib.countB s ⟨#[c]⟩+1:=by rw [List.length_map,hl]
   rw [hw,hp,←vz];refine .sl 1 _ _ _ 0 (fun k _=>.string (tat (aP c s) k)) (fun hn=>?_) (by simp) (fun _ _ _ _ oA=>absurd (hM.1 _ _ oA) (Nat.lt_irrefl _)) (Nat.le_refl _) (fun k x hx=>?_) (fun k x j d hx hd=>?_) (fun k j hk hj=>?_) (fun k x j d hx hd=>?_)
   ·rw [hn] at vz;simp at vz
   ·obtain ⟨y,_,rfl⟩:=dT hx;rfl
   ·obtain ⟨y,_,rfl⟩:=dT hx;rw [show cL y=[S y] from rfl,List.getElem?_singleton] at hd;split at hd
    ·injection hd with hd
     subst hd;rfl
    ·cases hd
   ·rw [List.length_map] at hk;have n9:j=0:=by omega
    subst n9;rw [show 0+k*1+0=k by omega];refine (BZ w _ _ k).trans ?_;simp [hk,tat]
   ·obtain ⟨y,hy,rfl⟩:=dT hx;rw [show cL y=[S y] from rfl,List.getElem?_singleton] at hd;split at hd
    ·injection hd with hd
     subst hd;simp only [tat,List.getD,hy,Option.getD_some];exact .lit _
    ·cases hd
theorem MC (s q:ByteArray) : VC Tryz.prog 151 [S s,S q] (S (mkB (Lib.trimPrefix s.data.toList q.data.toList))):=
 Cw (by kernel_rfl) fun w M v1 v2 hM h1 h2=>by
  obtain rfl:=V0.lit_inv h1;obtain rfl:=V0.lit_inv h2;exact (Any.strings_TrimPrefix Mm s q w).mono fun e w' ⟨he,hw⟩=>⟨_,he,hw▸Below.refl _ _,.lit _⟩
theorem tP (n:Int) (h : -9223372036854775808≤n∧n≤9223372036854775807) : VC Tryz.prog 103 [I n] (S (ca n)):=
 zl (by kernel_rfl) fun w M v1 hM h1=>by
  obtain rfl:=V0.lit_inv h1;refine (Any.strconv_Itoa Mo n h.1 h.2 w (gf hM).2.1).mono fun e w' ⟨he,k,os,hw⟩=>⟨_,he,?_,.lit _⟩
  rw [hw];exact MA w k os
theorem MD (s:ByteArray) (hs:s.size≤1000000) (v:Int) (h:Lib.atoiAll s.data.toList = .ok v) : VC Tryz.prog 150 [S s] (.tup [I v,.lit .nilIface]):=
 zl (by kernel_rfl) fun w M v1 hM h1=>by
  obtain rfl:=V0.lit_inv h1;refine (Any.strconv_Atoi_ok Cg s (by omega) v h w).mono fun e w' ⟨he,hw⟩=>⟨_,he,?_,?_⟩
  ·rcases hw with rfl|⟨t,rfl⟩
   ·exact Below.refl _ _
   ·exact Lib.bytesWorld_below _ _ _
  ·refine .tup _ [_,_] rfl fun i a u ha hu=>?_;match i with
   | 0=>cases ha;cases hu;exact .lit _
   | 1=>cases ha;cases hu;exact .lit _
   | n+2=>cases ha
theorem ME (s:ByteArray) (hs:s.size≤1000000) (h1:∀ v,Lib.atoiAll s.data.toList≠.ok v) (h2:Lib.atoiAll s.data.toList≠.range) : VC Tryz.prog 150 [S s] (.tup [I 0,.iface (laysAtoi_ren.t 168) .any]):=
 zl (by kernel_rfl) fun w M v1 hM h0=>by
  obtain rfl:=V0.lit_inv h0;obtain ⟨t,q,hc⟩:=(gf hM).2.2.1;have MF:Calls Tryz.prog 150 #[.string s] w fun e w'=>∃ n,e = .returned (.tuple #[.int .i64 0,.iface (laysAtoi_ren.t 168) (.pointer (some ⟨n,0,none⟩))])∧Below w.heap.size w w':=by
   cases hx:Lib.atoiAll s.data.toList with
   | ok v=>exact absurd hx (h1 v)
   | range=>exact absurd hx h2
   | _=>exact (Any.strconv_Atoi_syntax Cg s (by omega) hx _ w hc (.inr ⟨_,_,rfl⟩)).mono fun e w' ⟨N,he,_,_,hw⟩=>⟨N,he,hw⟩
  refine MF.mono fun e w' ⟨N,he,hw⟩=>⟨_,he,hw,?_⟩
  refine .tup _ [_,_] rfl fun i a u ha hu=>?_;match i with
  | 0=>cases ha;cases hu;exact .lit _
  | 1=>cases ha;cases hu;exact .iface _ _ _ (.any _)
  | n+2=>cases ha
theorem MG (s:ByteArray) (hs:s.size≤1000000) (h:Lib.atoiAll s.data.toList = .range) : VC Tryz.prog 150 [S s] (.tup [I (Lib.atoiSat s.data.toList),.iface (laysAtoi_ren.t 168) .any]):=
 zl (by kernel_rfl) fun w M v1 hM h1=>by
  obtain rfl:=V0.lit_inv h1;obtain ⟨t,q,hc⟩:=(gf hM).2.2.2;refine (Any.strconv_Atoi_range Cg s (by omega) h _ w hc (.inr ⟨_,_,rfl⟩)).mono fun e w' ⟨N,he,_,_,hw⟩=>⟨_,he,hw,?_⟩
  refine .tup _ [_,_] rfl fun i a u ha hu=>?_;match i with
  | 0=>cases ha;cases hu;exact .lit _
  | 1=>cases ha;cases hu;exact .iface _ _ _ (.any _)
  | n+2=>cases ha
theorem GA:Builder.Extra Tryz.prog F6 where
 sizeBuilder:=by kernel_rfl
 liesBuilder:=by kernel_rfl
 t5:=Tryz.underlying5
 a5:=Tryz.isAgg5
 z5:=Tryz.sizeOf5
 v5:=Tryz.zeroValue5
 infoByte:=by kernel_rfl
 cellsByte:=by kernel_rfl
 sizeByte:=by kernel_rfl
 neB5:=by decide
def bl (b:ByteArray) : List UInt8:=b.data.toList
def cN (l:List ByteArray) (sep:ByteArray) : ByteArray:=⟨(Lib.join (l.map bl) (bl sep)).toArray⟩
theorem wh (l:List ByteArray) (sep:ByteArray) (h:(Lib.join (l.map bl) (bl sep)).length≤1000000000) (hl:l.length≤1000000000) : VC Tryz.prog 102 [fr l,S sep] (S (cN l sep)):=
 MH (by kernel_rfl) fun w M v1 v2 h1 h2=>by
  obtain rfl:=V0.lit_inv h2;change V0 w M (.sl 1 (l.map cL)) v1 at h1;generalize dp:l.map cL=es at h1;cases h1 with
  | slNil _ A cap=>
   have hl:l=[]:=List.map_eq_nil_iff.1 dp;subst hl;exact (Any.strings_Join_none F7 GA A cap sep w).mono fun e w' ⟨he,hw⟩=>⟨_,he,hw▸Below.refl _ _,by exact .lit _⟩
  | sl _ _ cap b o u aC hb hM dh aM h1 hc hv=>
   have hlen:es.length=l.length:=by rw [←dp,List.length_map]
   have dw:∀ (j:Nat) (x:ByteArray),l[j]? = some x→w.cell? { block:=b,off:=o+j } = some (.string x):=fun j x hx=>by
    have bK:=(List.getElem?_eq_some_iff.1 hx).1;have h3:=hv j (cL x) 0 (S x) (by rw [←dp];simp [hx]) rfl;have h4:=hc j 0 (by omega) (by decide);rw [V0.lit_inv h3,Nat.mul_one,Nat.add_zero] at h4;exact h4
   rw [hlen] at dh ⊢;exact (Any.strings_Join F7 GA b o cap l sep w dw hb (by omega) dh (Nat.le_trans h (by decide))).mono fun e w' ⟨he,hw⟩=>⟨_,he,hw,.lit _⟩
def je (l:List UInt8) : Int:=match Lib.atoiAll l with | .ok v=>v | .range=>Lib.atoiSat l|_=>0
theorem og (s:ByteArray) (hs:s.size≤1000000) : VC Tryz.prog 109 [S s] (.tup [I (je s.data.toList),B (jd s.data.toList)]):=by
 unfold je jd;have jq:=ME s hs;have gC:=MG s hs;have o8:=MD s hs;have hb:=@Lib.atoiAll_bounds s.data.toList;have g3:=MC s ⟨#[45]⟩;have Cr:(⟨#[45]⟩ : ByteArray).data.toList=[45]:=rfl;rw [Cr] at g3;have aM:=tK (Lib.trimPrefix s.data.toList [45]);have hd:∀ v,(ca v=s)↔(Lib.itoa v=s.data.toList):=fun v=>by
  unfold ca;constructor
  ·intro h;rw [←h];rfl
  ·intro h;rw [h];rfl
 generalize Lib.trimPrefix s.data.toList [45]=X at *;generalize Lib.atoiSat s.data.toList=sat at *;cases hx:Lib.atoiAll s.data.toList with
 | ok v=>
  have g1:=o8 v hx;have g2:=tP v (hb hx);have wi:=hd v;clear jq gC o8 hb hd hx;simp only;generalize Lib.itoa v=Y at *;generalize ca v=D at *;generalize mkB X=T at *;by_cases h1:D=s
  ·have kW:=wi.1 h1;rw [decide_eq_true kW,Bool.true_and];by_cases h2:X.length≤9
   ·have h3:((T.size:Nat) : Int)≤9:=by omega
    rw [decide_eq_true h2];clear wi kW h2 aM;subst h1;refine aK Tryz.func109 rfl (by kernel_rfl) rfl fun M0 w0=>?_;simp only [Tryz.ntmps109,Tryz.results109,az];repeat' with_reducible first|apply af|apply ae|apply aq|apply aa|refine ah [] ?_|(apply ab;intro Z U;go_simp;(first|(refine ⟨_,g1,?_⟩)|(refine ⟨_,g2,?_⟩)|(refine ⟨_,g3,?_⟩)|skip);apply U;clear U Z)
    go_simp
   ·have h3:¬((T.size:Nat) : Int)≤9:=by omega
    rw [decide_eq_false h2];clear wi kW h2 aM;subst h1;refine aK Tryz.func109 rfl (by kernel_rfl) rfl fun M0 w0=>?_;simp only [Tryz.ntmps109,Tryz.results109,az];repeat' with_reducible first|apply af|apply ae|apply aq|apply aa|refine ah [] ?_|(apply ab;intro Z U;go_simp;(first|(refine ⟨_,g1,?_⟩)|(refine ⟨_,g2,?_⟩)|(refine ⟨_,g3,?_⟩)|skip);apply U;clear U Z)
    go_simp
  ·have kW:¬Y=s.data.toList:=fun e=>h1 (wi.2 e);rw [decide_eq_false kW,Bool.false_and];clear wi kW;refine aK Tryz.func109 rfl (by kernel_rfl) rfl fun M0 w0=>?_;simp only [Tryz.ntmps109,Tryz.results109,az];repeat' with_reducible first|apply af|apply ae|apply aq|apply aa|refine ah [] ?_|(apply ab;intro Z U;go_simp;(first|(refine ⟨_,g1,?_⟩)|(refine ⟨_,g2,?_⟩)|skip);apply U;clear U Z)
   go_simp
 | range=>
  have g1:=gC hx;clear jq gC o8 hb hd hx g3 aM;simp only;refine aK Tryz.func109 rfl (by kernel_rfl) rfl fun M0 w0=>?_;simp only [Tryz.ntmps109,Tryz.results109,az];repeat' with_reducible first|apply af|apply ae|apply aq|apply aa|refine ah [] ?_|(apply ab;intro Z U;go_simp;(first|(refine ⟨_,g1,?_⟩)|skip);apply U;clear U Z)
  go_simp
 | _=>
  have g1:=jq (fun v=>by rw [hx];intro h;cases h) (by rw [hx];intro h;cases h);clear jq gC o8 hb hd hx g3 aM;simp only;refine aK Tryz.func109 rfl (by kernel_rfl) rfl fun M0 w0=>?_;simp only [Tryz.ntmps109,Tryz.results109,az];repeat' with_reducible first|apply af|apply ae|apply aq|apply aa|refine ah [] ?_|(apply ab;intro Z U;go_simp;(first|(refine ⟨_,g1,?_⟩)|skip);apply U;clear U Z)
  go_simp
theorem zm (x y:List UInt8) (r:List (List UInt8)) (s:List UInt8) : Lib.join (x::y::r) s=x++(s++Lib.join (y::r) s):=by
 rw [Lib.join_cons,Lib.join_cons];simp [Lib.joinTail]
theorem GB (sep:List UInt8) (B:Nat) : ∀ (L:List (List UInt8)),(∀ x∈L,x.length≤B)→(Lib.join L sep).length≤L.length*(B+sep.length)
 | [],_=>by simp [Lib.join]
 | [x],h=>by
  have:=h x (by simp);have e:Lib.join [x] sep=x:=by simp [Lib.join]
  rw [e];simp;omega
 | x::y::r,h=>by
  have h1:=h x (by simp);have h2:=GB sep B (y::r) fun z hz=>h z (List.mem_cons_of_mem _ hz);rw [zm,List.length_append,List.length_append,List.length_cons,Nat.add_mul,Nat.one_mul];omega
def i64 (n:Int) : Prop:=-9223372036854775808≤n∧n≤9223372036854775807
structure SmallS (s:St) : Prop where
 nq:s.q.length≤300
 q1:∀ l∈s.q,l.length≤300∧∀ c∈l,c.size≤1000
 nt:s.tk.length≤300
 t1:∀ t∈s.tk,t.car.size≤1000∧i64 t.rank∧i64 t.time
 tm:i64 s.time
def ef (t:Tk) : ByteArray:=cN [t.car,ca t.rank,ca t.time] ⟨#[58]⟩
def jf (s:St) : ByteArray:=cN (s.tk.map ef) ⟨#[32]⟩
def ft (s:St) (k:Nat) : List ByteArray:=ca s.time::(s.q.take k).map fun l=>cN l ⟨#[32]⟩
def k6 (s:St) : ByteArray:=cN (ft s s.q.length++[jf s]) ⟨#[124]⟩
theorem lN {l:List ByteArray} {s:ByteArray} {B:Nat} (h:∀ x∈l,x.size≤B) : (Lib.join (l.map bl) (bl s)).length≤l.length*(B+s.size):=by
 have:=GB (bl s) B (l.map bl) fun x hx=>by
  obtain ⟨y,hy,rfl⟩:=List.mem_map.1 hx;have h1:=h y hy;have h2:(bl y).length=y.size:=kZ y;omega
 rw [List.length_map,show (bl s).length=s.size from kZ s] at this;exact this
theorem kC (l:List ByteArray) (s:ByteArray) : (cN l s).size=(Lib.join (l.map bl) (bl s)).length:=by
 unfold cN;rw [←kZ]
theorem jY {n:Int} (h:i64 n) : (ca n).size≤21:=by
 have:=Lib.itoa_length_le n h.1 h.2;rw [←kZ];exact this
theorem tQ {s:St} {k:Nat} (h:k≤s.q.length) : (ft s k).length=k+1:=by simp [ft,List.length_take];omega
theorem GC {s:St} {k:Nat} (h:k < s.q.length) : ft s (k+1)=ft s k++[cN (qat s.q k) ⟨#[32]⟩]:=by
 rw [ft,ft,nX h,List.map_append,List.cons_append,fo h];rfl
def im (s:St) (k:Nat) : List ByteArray:=(s.tk.take k).map ef
theorem zn {s:St} {k:Nat} (h:k≤s.tk.length) : (im s k).length=k:=by simp [im,List.length_take];omega
theorem GD {s:St} {k:Nat} (h:k < s.tk.length) : im s (k+1)=im s k++[ef (aH s.tk k)]:=by
 rw [im,im,nX h,List.map_append,fe h];rfl
theorem GF (s:St) (h:SmallS s) : VC Tryz.prog 61 [ez s] (S (k6 s)):=by
 have hq:=h.q1;have ht:=h.t1;have sd:=h.nq;have se:=h.nt;have bq:∀ k,k < s.q.length→(cN (qat s.q k) ⟨#[32]⟩).size≤301000:=fun k hk=>by
  obtain ⟨h1,h2⟩:=hq _ (List.getElem_mem hk);rw [kC,fo hk];refine Nat.le_trans (lN h2) ?_;have:s.q[k].length*(1000+(⟨#[32]⟩ : ByteArray).size)≤300*1001:=Nat.mul_le_mul h1 (Nat.le_refl _);omega
 have bt:∀ k,k < s.tk.length→(ef (aH s.tk k)).size≤3003:=fun k hk=>by
  obtain ⟨h1,h2,h3⟩:=ht _ (List.getElem_mem hk);unfold ef;rw [kC,fe hk];refine Nat.le_trans (lN (B:=1000) fun x hx=>?_) (Nat.le_refl _);simp only [List.mem_cons,List.not_mem_nil,or_false] at hx;rcases hx with rfl|rfl|rfl
  ·exact h1
  ·exact Nat.le_trans (jY h2) (by omega)
  ·exact Nat.le_trans (jY h3) (by omega)
 have sf:im s s.tk.length=s.tk.map ef:=by rw [im,List.take_length]
 have gq:∀ x∈im s s.tk.length,x.size≤3003:=fun x hx=>by
  rw [sf] at hx;obtain ⟨y,hy,rfl⟩:=List.mem_map.1 hx;obtain ⟨k,hk,rfl⟩:=List.getElem_of_mem hy;rw [←fe hk];exact bt k hk
 have GG:(Lib.join ((im s s.tk.length).map bl) (bl ⟨#[32]⟩)).length≤901200:=by
  refine Nat.le_trans (lN gq) ?_;rw [zn (Nat.le_refl _)];exact Nat.mul_le_mul se (Nat.le_refl _)
 have MI:(jf s).size≤901200:=by
  unfold jf;rw [kC,←sf];exact GG
 have ax:∀ x∈ft s s.q.length++[jf s],x.size≤1000000:=fun x hx=>by
  rcases List.mem_append.1 hx with hx|hx
  ·rw [ft,List.take_length] at hx;rcases List.mem_cons.1 hx with rfl|hx
   ·exact Nat.le_trans (jY h.tm) (by omega)
   ·obtain ⟨y,hy,rfl⟩:=List.mem_map.1 hx;obtain ⟨k,hk,rfl⟩:=List.getElem_of_mem hy;have:=bq k hk;rw [fo hk] at this;omega
  ·simp at hx;rw [hx];omega
 have wj:(Lib.join ((ft s s.q.length++[jf s]).map bl) (bl ⟨#[124]⟩)).length≤1000000000:=by
  refine Nat.le_trans (lN ax) ?_;rw [List.length_append,tQ (Nat.le_refl _)];have:(s.q.length+1+1)*(1000000+1)≤302*1000001:=Nat.mul_le_mul (by omega) (Nat.le_refl _);simp only [List.length_cons,List.length_nil];have e:(⟨#[124]⟩ : ByteArray).size=1:=rfl;rw [e];omega
 have g0:=tP s.time h.tm;have MJ:=Lib.hid (wh (im s s.tk.length) ⟨#[32]⟩ (by omega) (by rw [zn (Nat.le_refl _)];omega));have MK:=Lib.hid (wh (ft s s.q.length++[jf s]) ⟨#[124]⟩ wj (by rw [List.length_append,tQ (Nat.le_refl _)];simp;omega));have HQ:Hid (∀ k,k < s.q.length→VC Tryz.prog 102 [fr (qat s.q k),S ⟨#[32]⟩] (S (cN (qat s.q k) ⟨#[32]⟩))):=Lib.hid fun k hk=>by
  obtain ⟨h1,h2⟩:=hq _ (List.getElem_mem hk);rw [←fo hk] at h1 h2;have:=bq k hk;rw [kC] at this;exact wh (qat s.q k) ⟨#[32]⟩ (Nat.le_trans this (by omega)) (by omega)
 have HT:Hid (∀ k,k < s.tk.length→VC Tryz.prog 103 [I (aH s.tk k).rank] (S (ca (aH s.tk k).rank))∧VC Tryz.prog 103 [I (aH s.tk k).time] (S (ca (aH s.tk k).time))∧VC Tryz.prog 102 [fr [(aH s.tk k).car,ca (aH s.tk k).rank,ca (aH s.tk k).time],S ⟨#[58]⟩] (S (ef (aH s.tk k)))):=Lib.hid fun k hk=>by
  obtain ⟨h1,h2,h3⟩:=ht _ (List.getElem_mem hk);rw [←fe hk] at h2 h3;have:=bt k hk;unfold ef at this;rw [kC] at this;exact ⟨tP _ h2,tP _ h3,wh [(aH s.tk k).car,ca (aH s.tk k).rank,ca (aH s.tk k).time] ⟨#[58]⟩ (Nat.le_trans this (by omega)) (by simp)⟩
 have HE:=Lib.hid sf;unfold k6;unfold jf at *;clear hq ht bq bt gq GG MI ax wj sf h;generalize hR:cN (ft s s.q.length++[cN (s.tk.map ef) ⟨#[32]⟩]) ⟨#[124]⟩=R at *;clear hR;refine aK Tryz.func61 rfl (by kernel_rfl) rfl fun M0 w0=>?_;simp only [Tryz.ntmps61,Tryz.results61,az];have e0:ft s 0=[ca s.time]:=rfl;have e1:im s 0=[]:=rfl;repeat' with_reducible first|apply af|apply ae|apply ar|apply aa|refine ah [12] ?_|(apply ab;intro Z U;go_simp;(first|(refine ⟨_,g0,?_⟩)|skip);apply U;clear U Z)
 apply iy [1,14,15] (fun k=>[(16,I k),(3,.osl 0)]) (fun k=>([some (.arr 9 1 false ((ft s k).map cL))] : Hp))  (s.q.length)
 ·go_simp<;>exact rfl
 ·go_simp
 ·intro k hk K hK;obtain ⟨w1,w2,w3,w4,w5,w6⟩:=ixs (m:=k) (by omega);have HS:=Lib.hid (GC hk);have bg:=tQ (s:=s) (k:=k) (by omega);have hb:(ft s k).length+1≤1000000000:=by omega
  clear bg;have gj:=HQ.out k hk;generalize cN (qat s.q k) ⟨#[32]⟩=J at *;repeat' with_reducible first|apply af|apply ae|apply aj|apply ar|apply aT|apply aa|refine ah [] ?_|(apply ao;·go_simp)|(apply ab;intro Z U;go_simp;(first|(refine ⟨_,gj,?_⟩)|skip);apply U;clear U Z)
  refine hK _ ?_;rw [HS.out];go_simp
 ·intro K;repeat' with_reducible first|apply af|apply ae|apply aW|apply aX|apply ar|apply aY|apply aa|refine ah [6] ?_|(apply ak;·go_simp)|(apply ab;intro Z U;go_simp;apply U;clear U Z)
  apply iy [3,27,28] (fun k=>[(29,I k),(6,.osl 1)]) (fun k=>([some (.arr 9 1 false ((ft s s.q.length).map cL)),some (.arr 9 1 (decide (im s k=[])) ((im s k).map cL))] : Hp))  (s.tk.length)
  ·go_simp<;>exact rfl
  ·go_simp
  ·intro k hk K hK;obtain ⟨w1,w2,w3,w4,w5,w6⟩:=ixs (m:=k) (by omega);have HS:=Lib.hid (GD hk);have bg:=zn (s:=s) (k:=k) (by omega);have hb:(im s k).length+1≤1000000000:=by omega
   clear bg;obtain ⟨g1,g2,g3⟩:=HT.out k hk;generalize ef (aH s.tk k)=J at *;generalize ca (aH s.tk k).rank=D1 at *;generalize ca (aH s.tk k).time=D2 at *;repeat' with_reducible apply af
   refine ah [] ?_;repeat' with_reducible first|apply af|apply ae|apply aj|apply ar|apply aa|(apply ao;·go_simp)|(apply ab;intro Z U;go_simp;apply U;clear U Z)
   refine ah [] ?_;repeat' with_reducible first|apply ae|apply aa|(apply ab;intro Z U;go_simp;apply U;clear U Z)
   refine qc 12 [45] 1 [] (by kernel_rfl) (by kernel_rfl) (by kernel_rfl) (by kernel_rfl) rfl ⟨rfl,rfl⟩ rfl ?_;simp only [aA];repeat' first|with_reducible apply aI|((with_reducible apply aJ);intro Z U;go_simp;(first|(with_reducible refine ⟨_,g1,?_⟩)|(with_reducible refine ⟨_,g2,?_⟩)|(refine ⟨_,g3,?_⟩)|skip);apply U;clear U Z)
   refine ⟨_,by go_simp,by go_simp;exact rfl,?_,?_⟩
   ·intro t ht;simp at ht
   go_simp;repeat' with_reducible first|apply ae|apply aT|apply aa|refine ah [] ?_|(apply ab;intro Z U;go_simp;apply U;clear U Z)
   refine hK _ ?_;rw [HS.out];go_simp
  ·intro K;have hj:=MJ.out;rw [HE.out] at hj ⊢;have kK:=MK.out;generalize cN (s.tk.map ef) ⟨#[32]⟩=J at *;generalize s.tk.map ef=TT at *;have hb:(ft s s.q.length).length+1≤1000000000:=by rw [tQ (Nat.le_refl _)];omega
   generalize ft s s.q.length=SP at *;have e2:(SP++[J]).map cL=SP.map cL++[[S J]]:=by simp [cL]
   unfold fr at kK;rw [e2] at kK;repeat' first|(with_reducible first|apply af|apply ae|apply aW|apply aq|apply aX|apply aY|apply aa|refine ah [] ?_|(apply ak;·go_simp))|((with_reducible apply ab);intro Z U;go_simp;(first|(refine ⟨_,⟨hj,rfl⟩,?_⟩)|(refine ⟨_,⟨kK,rfl⟩,?_⟩)|skip);apply U;clear U Z)
   go_simp
end Go.Proofs.YtoibondihdhnoaaGreatDoor
