/- Texts in one: Walks: the text of a state. -/
import Derived.Test.YtoibondihdhnoaaGreatDoorFRP35
import Derived.Test.YtoibondihdhnoaaGreatDoorFRP36
import Derived.Test.YtoibondihdhnoaaGreatDoorFRP33
import Derived.Test.YtoibondihdhnoaaGreatDoorFRP34
import Derived.Test.YtoibondihdhnoaaGreatDoorFRP9
import Derived.Lib.ItoaLen
namespace Go.Proofs.YtoibondihdhnoaaGreatDoor
open Go.RowKit
set_option maxRecDepth 100000
set_option maxHeartbeats 1000000
def txL (l:List UInt8) : List AV:=[S (mkB l)]
attribute [go_sem] txL
theorem pX (s:ByteArray) : s.data.toList.length=s.size:=(Lib.size_eq s).symm
@[go_sem] theorem RY:iU 0 []=0:=qJ 0
@[go_sem] theorem RZ (c:UInt8) (l:List UInt8) : yC c l 0=0:=rfl
@[go_sem] theorem R4 (c:UInt8) (l:List UInt8) : BI c l 0=[]:=rfl
@[go_sem] theorem R5:mkB []=⟨#[]⟩:=rfl
def dr (n:Int) : ByteArray:=mkB (Lib.itoa n)
end Go.Proofs.YtoibondihdhnoaaGreatDoor
namespace Go.Proofs.YtoibondihdhnoaaGreatDoor
open Go.RowKit Go.Shelf
set_option maxRecDepth 100000
set_option maxHeartbeats 1000000
def dh (c:UInt8) (s:ByteArray) : List ByteArray:=(fy c s.data.toList).map mkB
theorem yD (c:UInt8) (s:ByteArray) : (dh c s).length≤s.size+1:=by
 have:=F8 c s.data.toList;rw [pX] at this;simpa [dh] using this
theorem yE {c:UInt8} {s p:ByteArray} (h:p∈dh c s) : p.size≤s.size:=by
 obtain ⟨l,hl,rfl⟩:=List.mem_map.1 h;have:=F9 c _ l hl;rw [Gi,←pX];exact this
theorem LQ (w:World) (k:Nat) (os:Array Obj) : Below w.heap.size w (Sort.grow (w.drewN k) os):=
 ⟨rfl,rfl,rfl,by show w.heap.size≤(w.heap++os).size;rw [Array.size_append];omega,fun j hj=>by show (w.heap++os)[j]? = _;rw [Array.getElem?_append_left hj]⟩
theorem yF {f:FuncId} {a r:AV} (hg:l8 Tryz.prog f=true) (h:∀ w M v1,MOK w M→V0 w M a v1→Calls Tryz.prog f #[v1] w fun e w'=>∃ v,e = .returned v∧Below w.heap.size w w'∧V0 w' M r v) : VC Tryz.prog f [a] r:=
 ⟨hg,fun w M vs hM hl hv=>by
  obtain ⟨v1,rfl⟩:=List.length_eq_one_iff.1 hl;exact h w M v1 hM (hv 0 a v1 rfl rfl)⟩
theorem BR {f:FuncId} {a b r:AV} (hg:l8 Tryz.prog f=true) (h:∀ w M v1 v2,MOK w M→V0 w M a v1→V0 w M b v2→Calls Tryz.prog f #[v1,v2] w fun e w'=>∃ v,e = .returned v∧Below w.heap.size w w'∧V0 w' M r v) : VC Tryz.prog f [a,b] r:=
 ⟨hg,fun w M vs hM hl hv=>by
  match vs,hl with
  | [v1,v2],_=>exact h w M v1 v2 hM (hv 0 a v1 rfl rfl) (hv 1 b v2 rfl rfl)⟩
theorem gf {w:World} {M:Nat→Nat→Prop} (h:MOK w M) : yG w:=h.2.2.2
theorem LR (c:UInt8) (s:ByteArray) : (dh c s).length=Lib.countB s ⟨#[c]⟩+1:=by
 have h:=Lib.splitB_all ⟨#[c]⟩ (Nat.le_refl _) 0 _ s rfl;rw [BJ c _ s rfl] at h;exact h
theorem vR (s:ByteArray) (c:UInt8) (hs:s.size≤1000000) : VC Tryz.prog 105 [S s,S ⟨#[c]⟩] (gG (dh c s)):=
 BR (by kernel_rfl) fun w M v1 v2 hM h1 h2=>by
  obtain rfl:=V0.lit_inv h1;obtain rfl:=V0.lit_inv h2;obtain ⟨m,hm⟩:=(gf hM).1;refine (Any.strings_Split LH (by kernel_rfl) s ⟨#[c]⟩ m w (by omega) hm (Nat.le_refl _)).mono fun e w' ⟨he,hw⟩=>⟨_,he,?_,?_⟩
  ·rw [hw];exact (Below.refl _ w).alloc (Nat.le_refl _) _
  ·have hl:=LR c s;have hp:Lib.splitB ⟨#[c]⟩ 0 (Lib.countB s ⟨#[c]⟩) s=dh c s:=BJ c _ s rfl;have vS:((dh c s).map bK).length=Lib.countB s ⟨#[c]⟩+1:=by rw [List.length_map,hl]
   rw [hw,hp,←vS];refine .sl 1 _ _ _ 0 (fun k _=>.string (tat (dh c s) k)) (fun hn=>?_) (by simp) (fun _ _ _ _ pM=>absurd (hM.1 _ _ pM) (Nat.lt_irrefl _)) (Nat.le_refl _) (fun k x hx=>?_) (fun k x j d hx hd=>?_) (fun k j hk hj=>?_) (fun k x j d hx hd=>?_)
   ·rw [hn] at vS;simp at vS
   ·obtain ⟨y,_,rfl⟩:=ec hx;rfl
   ·obtain ⟨y,_,rfl⟩:=ec hx;rw [show bK y=[S y] from rfl,List.getElem?_singleton] at hd;split at hd
    ·injection hd with hd
     subst hd;rfl
    ·cases hd
   ·rw [List.length_map] at hk;have mm:j=0:=by omega
    subst mm;rw [show 0+k*1+0=k by omega];refine (BS w _ _ k).trans ?_;simp [hk,tat]
   ·obtain ⟨y,hy,rfl⟩:=ec hx;rw [show bK y=[S y] from rfl,List.getElem?_singleton] at hd;split at hd
    ·injection hd with hd
     subst hd;simp only [tat,List.getD,hy,Option.getD_some];exact .lit _
    ·cases hd
theorem LS (s q:ByteArray) : VC Tryz.prog 151 [S s,S q] (S (mkB (Lib.trimPrefix s.data.toList q.data.toList))):=
 BR (by kernel_rfl) fun w M v1 v2 hM h1 h2=>by
  obtain rfl:=V0.lit_inv h1;obtain rfl:=V0.lit_inv h2;exact (Any.strings_TrimPrefix LJ s q w).mono fun e w' ⟨he,hw⟩=>⟨_,he,hw▸Below.refl _ _,.lit _⟩
theorem tQ (n:Int) (h : -9223372036854775808≤n∧n≤9223372036854775807) : VC Tryz.prog 103 [I n] (S (dr n)):=
 yF (by kernel_rfl) fun w M v1 hM h1=>by
  obtain rfl:=V0.lit_inv h1;refine (Any.strconv_Itoa LL n h.1 h.2 w (gf hM).2.1).mono fun e w' ⟨he,k,os,hw⟩=>⟨_,he,?_,.lit _⟩
  rw [hw];exact LQ w k os
theorem LU (s:ByteArray) (hs:s.size≤1000000) (v:Int) (h:Lib.atoiAll s.data.toList = .ok v) : VC Tryz.prog 150 [S s] (.tup [I v,.lit .nilIface]):=
 yF (by kernel_rfl) fun w M v1 hM h1=>by
  obtain rfl:=V0.lit_inv h1;refine (Any.strconv_Atoi_ok BF s (by omega) v h w).mono fun e w' ⟨he,hw⟩=>⟨_,he,?_,?_⟩
  ·rcases hw with rfl|⟨t,rfl⟩
   ·exact Below.refl _ _
   ·exact Lib.bytesWorld_below _ _ _
  ·refine .tup _ [_,_] rfl fun i a u ha hu=>?_;match i with
   | 0=>cases ha;cases hu;exact .lit _
   | 1=>cases ha;cases hu;exact .lit _
   | n+2=>cases ha
theorem LV (s:ByteArray) (hs:s.size≤1000000) (h1:∀ v,Lib.atoiAll s.data.toList≠.ok v) (h2:Lib.atoiAll s.data.toList≠.range) : VC Tryz.prog 150 [S s] (.tup [I 0,.iface (laysAtoi_ren.t 168) .any]):=
 yF (by kernel_rfl) fun w M v1 hM h0=>by
  obtain rfl:=V0.lit_inv h0;obtain ⟨t,q,hc⟩:=(gf hM).2.2.1;have LW:Calls Tryz.prog 150 #[.string s] w fun e w'=>∃ n,e = .returned (.tuple #[.int .i64 0,.iface (laysAtoi_ren.t 168) (.pointer (some ⟨n,0,none⟩))])∧Below w.heap.size w w':=by
   cases hx:Lib.atoiAll s.data.toList with
   | ok v=>exact absurd hx (h1 v)
   | range=>exact absurd hx h2
   | _=>exact (Any.strconv_Atoi_syntax BF s (by omega) hx _ w hc (.inr ⟨_,_,rfl⟩)).mono fun e w' ⟨N,he,_,_,hw⟩=>⟨N,he,hw⟩
  refine LW.mono fun e w' ⟨N,he,hw⟩=>⟨_,he,hw,?_⟩
  refine .tup _ [_,_] rfl fun i a u ha hu=>?_;match i with
  | 0=>cases ha;cases hu;exact .lit _
  | 1=>cases ha;cases hu;exact .iface _ _ _ (.any _)
  | n+2=>cases ha
theorem LX (s:ByteArray) (hs:s.size≤1000000) (h:Lib.atoiAll s.data.toList = .range) : VC Tryz.prog 150 [S s] (.tup [I (Lib.atoiSat s.data.toList),.iface (laysAtoi_ren.t 168) .any]):=
 yF (by kernel_rfl) fun w M v1 hM h1=>by
  obtain rfl:=V0.lit_inv h1;obtain ⟨t,q,hc⟩:=(gf hM).2.2.2;refine (Any.strconv_Atoi_range BF s (by omega) h _ w hc (.inr ⟨_,_,rfl⟩)).mono fun e w' ⟨N,he,_,_,hw⟩=>⟨_,he,hw,?_⟩
  refine .tup _ [_,_] rfl fun i a u ha hu=>?_;match i with
  | 0=>cases ha;cases hu;exact .lit _
  | 1=>cases ha;cases hu;exact .iface _ _ _ (.any _)
  | n+2=>cases ha
theorem Gr:Builder.Extra Tryz.prog F1 where
 sizeBuilder:=by kernel_rfl
 liesBuilder:=by kernel_rfl
 t5:=Tryz.underlying5
 a5:=Tryz.isAgg5
 z5:=Tryz.sizeOf5
 v5:=Tryz.zeroValue5
 infoByte:=by kernel_rfl
 cellsByte:=by kernel_rfl
 sizeByte:=by kernel_rfl
 neB5:=by decide
def bl (b:ByteArray) : List UInt8:=b.data.toList
def fh (l:List ByteArray) (sep:ByteArray) : ByteArray:=⟨(Lib.join (l.map bl) (bl sep)).toArray⟩
theorem vT (l:List ByteArray) (sep:ByteArray) (h:(Lib.join (l.map bl) (bl sep)).length≤1000000000) (hl:l.length≤1000000000) : VC Tryz.prog 102 [gG l,S sep] (S (fh l sep)):=
 LY (by kernel_rfl) fun w M v1 v2 h1 h2=>by
  obtain rfl:=V0.lit_inv h2;change V0 w M (.sl 1 (l.map bK)) v1 at h1;generalize cI:l.map bK=es at h1;cases h1 with
  | slNil _ A cap=>
   have hl:l=[]:=List.map_eq_nil_iff.1 cI;subst hl;exact (Any.strings_Join_none F2 Gr A cap sep w).mono fun e w' ⟨he,hw⟩=>⟨_,he,hw▸Below.refl _ _,by exact .lit _⟩
  | sl _ _ cap b o u aq hb hM dy aM h1 hc hv=>
   have hlen:es.length=l.length:=by rw [←cI,List.length_map]
   have dk:∀ (j:Nat) (x:ByteArray),l[j]? = some x→w.cell? { block:=b,off:=o+j } = some (.string x):=fun j x hx=>by
    have b_:=(List.getElem?_eq_some_iff.1 hx).1;have h3:=hv j (bK x) 0 (S x) (by rw [←cI];simp [hx]) rfl;have h4:=hc j 0 (by omega) (by decide);rw [V0.lit_inv h3,Nat.mul_one,Nat.add_zero] at h4;exact h4
   rw [hlen] at dy ⊢;exact (Any.strings_Join F2 Gr b o cap l sep w dk hb (by omega) dy (Nat.le_trans h (by decide))).mono fun e w' ⟨he,hw⟩=>⟨_,he,hw,.lit _⟩
def lO (l:List UInt8) : Int:=match Lib.atoiAll l with | .ok v=>v | .range=>Lib.atoiSat l|_=>0
theorem vU (s:ByteArray) (hs:s.size≤1000000) : VC Tryz.prog 109 [S s] (.tup [I (lO s.data.toList),B (kE s.data.toList)]):=by
 unfold lO kE;have jz:=LV s hs;have iG:=LX s hs;have dW:=LU s hs;have hb:=@Lib.atoiAll_bounds s.data.toList;have g3:=LS s ⟨#[45]⟩;have BP:(⟨#[45]⟩ : ByteArray).data.toList=[45]:=rfl;rw [BP] at g3;have aM:=Gi (Lib.trimPrefix s.data.toList [45]);have hd:∀ v,(dr v=s)↔(Lib.itoa v=s.data.toList):=fun v=>by
  unfold dr;constructor
  ·intro h;rw [←h];rfl
  ·intro h;rw [h];rfl
 generalize Lib.trimPrefix s.data.toList [45]=X at *;generalize Lib.atoiSat s.data.toList=sat at *;cases hx:Lib.atoiAll s.data.toList with
 | ok v=>
  have g1:=dW v hx;have g2:=tQ v (hb hx);have vV:=hd v;clear jz iG dW hb hd hx;simp only;generalize Lib.itoa v=Y at *;generalize dr v=D at *;generalize mkB X=T at *;by_cases h1:D=s
  ·have lP:=vV.1 h1;rw [decide_eq_true lP,Bool.true_and];by_cases h2:X.length≤9
   ·have h3:((T.size:Nat) : Int)≤9:=by omega
    rw [decide_eq_true h2];clear vV lP h2 aM;subst h1;refine aP Tryz.func109 rfl (by kernel_rfl) rfl fun M0 w0=>?_;simp only [Tryz.ntmps109,Tryz.results109,aF];repeat' with_reducible first|apply af|apply ae|apply ax|apply aa|refine ah [] ?_|(apply ab;intro Z U;go_simp;(first|(refine ⟨_,g1,?_⟩)|(refine ⟨_,g2,?_⟩)|(refine ⟨_,g3,?_⟩)|skip);apply U;clear U Z)
    go_simp
   ·have h3:¬((T.size:Nat) : Int)≤9:=by omega
    rw [decide_eq_false h2];clear vV lP h2 aM;subst h1;refine aP Tryz.func109 rfl (by kernel_rfl) rfl fun M0 w0=>?_;simp only [Tryz.ntmps109,Tryz.results109,aF];repeat' with_reducible first|apply af|apply ae|apply ax|apply aa|refine ah [] ?_|(apply ab;intro Z U;go_simp;(first|(refine ⟨_,g1,?_⟩)|(refine ⟨_,g2,?_⟩)|(refine ⟨_,g3,?_⟩)|skip);apply U;clear U Z)
    go_simp
  ·have lP:¬Y=s.data.toList:=fun e=>h1 (vV.2 e);rw [decide_eq_false lP,Bool.false_and];clear vV lP;refine aP Tryz.func109 rfl (by kernel_rfl) rfl fun M0 w0=>?_;simp only [Tryz.ntmps109,Tryz.results109,aF];repeat' with_reducible first|apply af|apply ae|apply ax|apply aa|refine ah [] ?_|(apply ab;intro Z U;go_simp;(first|(refine ⟨_,g1,?_⟩)|(refine ⟨_,g2,?_⟩)|skip);apply U;clear U Z)
   go_simp
 | range=>
  have g1:=iG hx;clear jz iG dW hb hd hx g3 aM;simp only;refine aP Tryz.func109 rfl (by kernel_rfl) rfl fun M0 w0=>?_;simp only [Tryz.ntmps109,Tryz.results109,aF];repeat' with_reducible first|apply af|apply ae|apply ax|apply aa|refine ah [] ?_|(apply ab;intro Z U;go_simp;(first|(refine ⟨_,g1,?_⟩)|skip);apply U;clear U Z)
  go_simp
 | _=>
  have g1:=jz (fun v=>by rw [hx];intro h;cases h) (by rw [hx];intro h;cases h);clear jz iG dW hb hd hx g3 aM;simp only;refine aP Tryz.func109 rfl (by kernel_rfl) rfl fun M0 w0=>?_;simp only [Tryz.ntmps109,Tryz.results109,aF];repeat' with_reducible first|apply af|apply ae|apply ax|apply aa|refine ah [] ?_|(apply ab;intro Z U;go_simp;(first|(refine ⟨_,g1,?_⟩)|skip);apply U;clear U Z)
  go_simp
theorem yH (x y:List UInt8) (r:List (List UInt8)) (s:List UInt8) : Lib.join (x::y::r) s=x++(s++Lib.join (y::r) s):=by
 rw [Lib.join_cons,Lib.join_cons];simp [Lib.joinTail]
theorem Gs (sep:List UInt8) (B:Nat) : ∀ (L:List (List UInt8)),(∀ x∈L,x.length≤B)→(Lib.join L sep).length≤L.length*(B+sep.length)
 | [],_=>by simp [Lib.join]
 | [x],h=>by
  have:=h x (by simp);have e:Lib.join [x] sep=x:=by simp [Lib.join]
  rw [e];simp;omega
 | x::y::r,h=>by
  have h1:=h x (by simp);have h2:=Gs sep B (y::r) fun z hz=>h z (List.mem_cons_of_mem _ hz);rw [yH,List.length_append,List.length_append,List.length_cons,Nat.add_mul,Nat.one_mul];omega
def i64 (n:Int) : Prop:=-9223372036854775808≤n∧n≤9223372036854775807
structure SmallS (s:St) : Prop where
 nq:s.q.length≤300
 q1:∀ l∈s.q,l.length≤300∧∀ c∈l,c.size≤1000
 nt:s.tk.length≤300
 t1:∀ t∈s.tk,t.car.size≤1000∧i64 t.rank∧i64 t.time
 tm:i64 s.time
def gK (t:Tk) : ByteArray:=fh [t.car,dr t.rank,dr t.time] ⟨#[58]⟩
def j8 (s:St) : ByteArray:=fh (s.tk.map gK) ⟨#[32]⟩
def ig (s:St) (k:Nat) : List ByteArray:=dr s.time::(s.q.take k).map fun l=>fh l ⟨#[32]⟩
def o7 (s:St) : ByteArray:=fh (ig s s.q.length++[j8 s]) ⟨#[124]⟩
theorem qK {l:List ByteArray} {s:ByteArray} {B:Nat} (h:∀ x∈l,x.size≤B) : (Lib.join (l.map bl) (bl s)).length≤l.length*(B+s.size):=by
 have:=Gs (bl s) B (l.map bl) fun x hx=>by
  obtain ⟨y,hy,rfl⟩:=List.mem_map.1 hx;have h1:=h y hy;have h2:(bl y).length=y.size:=pX y;omega
 rw [List.length_map,show (bl s).length=s.size from pX s] at this;exact this
theorem o8 (l:List ByteArray) (s:ByteArray) : (fh l s).size=(Lib.join (l.map bl) (bl s)).length:=by
 unfold fh;rw [←pX]
theorem o9 {n:Int} (h:i64 n) : (dr n).size≤21:=by
 have:=Lib.itoa_length_le n h.1 h.2;rw [←pX];exact this
theorem vW {s:St} {k:Nat} (h:k≤s.q.length) : (ig s k).length=k+1:=by simp [ig,List.length_take];omega
theorem LZ {s:St} {k:Nat} (h:k < s.q.length) : ig s (k+1)=ig s k++[fh (qat s.q k) ⟨#[32]⟩]:=by
 rw [ig,ig,lL h,List.map_append,List.cons_append,ft h];rfl
def k_ (s:St) (k:Nat) : List ByteArray:=(s.tk.take k).map gK
theorem BT {s:St} {k:Nat} (h:k≤s.tk.length) : (k_ s k).length=k:=by simp [k_,List.length_take];omega
theorem L0 {s:St} {k:Nat} (h:k < s.tk.length) : k_ s (k+1)=k_ s k++[gK (aS s.tk k)]:=by
 rw [k_,k_,lL h,List.map_append,gS h];rfl
theorem Gt (s:St) (h:SmallS s) : VC Tryz.prog 61 [cT s] (S (o7 s)):=by
 have hq:=h.q1;have ht:=h.t1;have yI:=h.nq;have yJ:=h.nt;have bq:∀ k,k < s.q.length→(fh (qat s.q k) ⟨#[32]⟩).size≤301000:=fun k hk=>by
  obtain ⟨h1,h2⟩:=hq _ (List.getElem_mem hk);rw [o8,ft hk];refine Nat.le_trans (qK h2) ?_;have:s.q[k].length*(1000+(⟨#[32]⟩ : ByteArray).size)≤300*1001:=Nat.mul_le_mul h1 (Nat.le_refl _);omega
 have bt:∀ k,k < s.tk.length→(gK (aS s.tk k)).size≤3003:=fun k hk=>by
  obtain ⟨h1,h2,h3⟩:=ht _ (List.getElem_mem hk);unfold gK;rw [o8,gS hk];refine Nat.le_trans (qK (B:=1000) fun x hx=>?_) (Nat.le_refl _);simp only [List.mem_cons,List.not_mem_nil,or_false] at hx;rcases hx with rfl|rfl|rfl
  ·exact h1
  ·exact Nat.le_trans (o9 h2) (by omega)
  ·exact Nat.le_trans (o9 h3) (by omega)
 have yK:k_ s s.tk.length=s.tk.map gK:=by rw [k_,List.take_length]
 have lQ:∀ x∈k_ s s.tk.length,x.size≤3003:=fun x hx=>by
  rw [yK] at hx;obtain ⟨y,hy,rfl⟩:=List.mem_map.1 hx;obtain ⟨k,hk,rfl⟩:=List.getElem_of_mem hy;rw [←gS hk];exact bt k hk
 have Gu:(Lib.join ((k_ s s.tk.length).map bl) (bl ⟨#[32]⟩)).length≤901200:=by
  refine Nat.le_trans (qK lQ) ?_;rw [BT (Nat.le_refl _)];exact Nat.mul_le_mul yJ (Nat.le_refl _)
 have L1:(j8 s).size≤901200:=by
  unfold j8;rw [o8,←yK];exact Gu
 have aE:∀ x∈ig s s.q.length++[j8 s],x.size≤1000000:=fun x hx=>by
  rcases List.mem_append.1 hx with hx|hx
  ·rw [ig,List.take_length] at hx;rcases List.mem_cons.1 hx with rfl|hx
   ·exact Nat.le_trans (o9 h.tm) (by omega)
   ·obtain ⟨y,hy,rfl⟩:=List.mem_map.1 hx;obtain ⟨k,hk,rfl⟩:=List.getElem_of_mem hy;have:=bq k hk;rw [ft hk] at this;omega
  ·simp at hx;rw [hx];omega
 have vX:(Lib.join ((ig s s.q.length++[j8 s]).map bl) (bl ⟨#[124]⟩)).length≤1000000000:=by
  refine Nat.le_trans (qK aE) ?_;rw [List.length_append,vW (Nat.le_refl _)];have:(s.q.length+1+1)*(1000000+1)≤302*1000001:=Nat.mul_le_mul (by omega) (Nat.le_refl _);simp only [List.length_cons,List.length_nil];have e:(⟨#[124]⟩ : ByteArray).size=1:=rfl;rw [e];omega
 have g0:=tQ s.time h.tm;have L2:=Lib.hid (vT (k_ s s.tk.length) ⟨#[32]⟩ (by omega) (by rw [BT (Nat.le_refl _)];omega));have L3:=Lib.hid (vT (ig s s.q.length++[j8 s]) ⟨#[124]⟩ vX (by rw [List.length_append,vW (Nat.le_refl _)];simp;omega));have HQ:Hid (∀ k,k < s.q.length→VC Tryz.prog 102 [gG (qat s.q k),S ⟨#[32]⟩] (S (fh (qat s.q k) ⟨#[32]⟩))):=Lib.hid fun k hk=>by
  obtain ⟨h1,h2⟩:=hq _ (List.getElem_mem hk);rw [←ft hk] at h1 h2;have:=bq k hk;rw [o8] at this;exact vT (qat s.q k) ⟨#[32]⟩ (Nat.le_trans this (by omega)) (by omega)
 have HT:Hid (∀ k,k < s.tk.length→VC Tryz.prog 103 [I (aS s.tk k).rank] (S (dr (aS s.tk k).rank))∧VC Tryz.prog 103 [I (aS s.tk k).time] (S (dr (aS s.tk k).time))∧VC Tryz.prog 102 [gG [(aS s.tk k).car,dr (aS s.tk k).rank,dr (aS s.tk k).time],S ⟨#[58]⟩] (S (gK (aS s.tk k)))):=Lib.hid fun k hk=>by
  obtain ⟨h1,h2,h3⟩:=ht _ (List.getElem_mem hk);rw [←gS hk] at h2 h3;have:=bt k hk;unfold gK at this;rw [o8] at this;exact ⟨tQ _ h2,tQ _ h3,vT [(aS s.tk k).car,dr (aS s.tk k).rank,dr (aS s.tk k).time] ⟨#[58]⟩ (Nat.le_trans this (by omega)) (by simp)⟩
 have HE:=Lib.hid yK;unfold o7;unfold j8 at *;clear hq ht bq bt lQ Gu L1 aE vX yK h;generalize hR:fh (ig s s.q.length++[fh (s.tk.map gK) ⟨#[32]⟩]) ⟨#[124]⟩=R at *;clear hR;refine aP Tryz.func61 rfl (by kernel_rfl) rfl fun M0 w0=>?_;simp only [Tryz.ntmps61,Tryz.results61,aF];have e0:ig s 0=[dr s.time]:=rfl;have e1:k_ s 0=[]:=rfl;repeat' with_reducible first|apply af|apply ae|apply aB|apply aa|refine ah [12] ?_|(apply ab;intro Z U;go_simp;(first|(refine ⟨_,g0,?_⟩)|skip);apply U;clear U Z)
 apply kQ [1,14,15] (fun k=>[(16,I k),(3,.osl 0)]) (fun k=>([some (.arr 9 1 false ((ig s k).map bK))] : Hp))  (s.q.length)
 ·go_simp<;>exact rfl
 ·go_simp
 ·intro k hk K hK;obtain ⟨w1,w2,w3,w4,w5,w6⟩:=ixs (m:=k) (by omega);have HS:=Lib.hid (LZ hk);have aK:=vW (s:=s) (k:=k) (by omega);have hb:(ig s k).length+1≤1000000000:=by omega
  clear aK;have gj:=HQ.out k hk;generalize fh (qat s.q k) ⟨#[32]⟩=J at *;repeat' with_reducible first|apply af|apply ae|apply au|apply aB|apply bp|apply aa|refine ah [] ?_|(apply aw;·go_simp)|(apply ab;intro Z U;go_simp;(first|(refine ⟨_,gj,?_⟩)|skip);apply U;clear U Z)
  refine hK _ ?_;rw [HS.out];go_simp
 ·intro K;repeat' with_reducible first|apply af|apply ae|apply bP|apply bQ|apply aB|apply bT|apply aa|refine ah [6] ?_|(apply ar;·go_simp)|(apply ab;intro Z U;go_simp;apply U;clear U Z)
  apply kQ [3,27,28] (fun k=>[(29,I k),(6,.osl 1)]) (fun k=>([some (.arr 9 1 false ((ig s s.q.length).map bK)),some (.arr 9 1 (decide (k_ s k=[])) ((k_ s k).map bK))] : Hp))  (s.tk.length)
  ·go_simp<;>exact rfl
  ·go_simp
  ·intro k hk K hK;obtain ⟨w1,w2,w3,w4,w5,w6⟩:=ixs (m:=k) (by omega);have HS:=Lib.hid (L0 hk);have aK:=BT (s:=s) (k:=k) (by omega);have hb:(k_ s k).length+1≤1000000000:=by omega
   clear aK;obtain ⟨g1,g2,g3⟩:=HT.out k hk;generalize gK (aS s.tk k)=J at *;generalize dr (aS s.tk k).rank=D1 at *;generalize dr (aS s.tk k).time=D2 at *;repeat' with_reducible apply af
   refine ah [] ?_;repeat' with_reducible first|apply af|apply ae|apply au|apply aB|apply aa|(apply aw;·go_simp)|(apply ab;intro Z U;go_simp;apply U;clear U Z)
   refine ah [] ?_;repeat' with_reducible first|apply ae|apply aa|(apply ab;intro Z U;go_simp;apply U;clear U Z)
   refine Fb 12 [45] 1 [] (by kernel_rfl) (by kernel_rfl) (by kernel_rfl) (by kernel_rfl) rfl ⟨rfl,rfl⟩ rfl ?_;simp only [az];repeat' first|with_reducible apply aT|((with_reducible apply aU);intro Z U;go_simp;(first|(with_reducible refine ⟨_,g1,?_⟩)|(with_reducible refine ⟨_,g2,?_⟩)|(refine ⟨_,g3,?_⟩)|skip);apply U;clear U Z)
   refine ⟨_,by go_simp,by go_simp;exact rfl,?_,?_⟩
   ·intro t ht;simp at ht
   go_simp;repeat' with_reducible first|apply ae|apply bp|apply aa|refine ah [] ?_|(apply ab;intro Z U;go_simp;apply U;clear U Z)
   refine hK _ ?_;rw [HS.out];go_simp
  ·intro K;have hj:=L2.out;rw [HE.out] at hj ⊢;have lG:=L3.out;generalize fh (s.tk.map gK) ⟨#[32]⟩=J at *;generalize s.tk.map gK=TT at *;have hb:(ig s s.q.length).length+1≤1000000000:=by rw [vW (Nat.le_refl _)];omega
   generalize ig s s.q.length=SP at *;have e2:(SP++[J]).map bK=SP.map bK++[[S J]]:=by simp [bK]
   unfold gG at lG;rw [e2] at lG;repeat' first|(with_reducible first|apply af|apply ae|apply bP|apply ax|apply bQ|apply bT|apply aa|refine ah [] ?_|(apply ar;·go_simp))|((with_reducible apply ab);intro Z U;go_simp;(first|(refine ⟨_,⟨hj,rfl⟩,?_⟩)|(refine ⟨_,⟨lG,rfl⟩,?_⟩)|skip);apply U;clear U Z)
   go_simp
end Go.Proofs.YtoibondihdhnoaaGreatDoor
