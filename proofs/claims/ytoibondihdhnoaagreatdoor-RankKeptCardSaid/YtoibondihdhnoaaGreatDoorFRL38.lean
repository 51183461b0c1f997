/- Texts in one: Walks: the text of a state. -/
import Derived.Test.YtoibondihdhnoaaGreatDoorFRL34
import Derived.Test.YtoibondihdhnoaaGreatDoorFRL35
import Derived.Test.YtoibondihdhnoaaGreatDoorFRL32
import Derived.Test.YtoibondihdhnoaaGreatDoorFRL33
import Derived.Lib.ItoaLen
namespace Go.Proofs.YtoibondihdhnoaaGreatDoor
open Go.RowKit
set_option maxRecDepth 100000
set_option maxHeartbeats 1000000
def txL (l:List UInt8) : List AV:=[S (mkB l)]
attribute [go_sem] txL
theorem a5k (s:ByteArray) : s.data.toList.length=s.size:=(Lib.size_eq s).symm
@[go_sem] theorem d3g:d2r 0 []=0:=c2o 0
@[go_sem] theorem d0t (c:UInt8) (l:List UInt8) : b3c c l 0=0:=rfl
@[go_sem] theorem d1g (c:UInt8) (l:List UInt8) : c6j c l 0=[]:=rfl
@[go_sem] theorem d1h:mkB []=⟨#[]⟩:=rfl
def a8z (n:Int) : ByteArray:=mkB (Lib.itoa n)
end Go.Proofs.YtoibondihdhnoaaGreatDoor
namespace Go.Proofs.YtoibondihdhnoaaGreatDoor
open Go.RowKit Go.Shelf
set_option maxRecDepth 100000
set_option maxHeartbeats 1000000
def l7_ (c:UInt8) (s:ByteArray) : List ByteArray:=(a2v c s.data.toList).map mkB
theorem a5l (c:UInt8) (s:ByteArray) : (l7_ c s).length≤s.size+1:=by
 have:=b3b c s.data.toList;rw [a5k] at this;simpa [l7_] using this
theorem b1b {c:UInt8} {s p:ByteArray} (h:p∈l7_ c s) : p.size≤s.size:=by
 obtain ⟨l,hl,rfl⟩:=List.mem_map.1 h;have:=a8x c _ l hl;rw [b3d,←a5k];exact this
theorem b1c (w:World) (k:Nat) (os:Array Obj) : Below w.heap.size w (Sort.grow (w.drewN k) os):=
 ⟨rfl,rfl,rfl,by show w.heap.size≤(w.heap++os).size;rw [Array.size_append];omega,fun j hj=>by show (w.heap++os)[j]? = _;rw [Array.getElem?_append_left hj]⟩
theorem a7e {f:FuncId} {a r:AV} (hg:a2m Tryz.prog f=true) (h:∀ w M v1,MOK w M→V0 w M a v1→Calls Tryz.prog f #[v1] w fun e w'=>∃ v,e = .returned v∧Below w.heap.size w w'∧V0 w' M r v) : VC Tryz.prog f [a] r:=
 ⟨hg,fun w M vs hM hl hv=>by
  obtain ⟨v1,rfl⟩:=List.length_eq_one_iff.1 hl;exact h w M v1 hM (hv 0 a v1 rfl rfl)⟩
theorem b8e {f:FuncId} {a b r:AV} (hg:a2m Tryz.prog f=true) (h:∀ w M v1 v2,MOK w M→V0 w M a v1→V0 w M b v2→Calls Tryz.prog f #[v1,v2] w fun e w'=>∃ v,e = .returned v∧Below w.heap.size w w'∧V0 w' M r v) : VC Tryz.prog f [a,b] r:=
 ⟨hg,fun w M vs hM hl hv=>by
  match vs,hl with
  | [v1,v2],_=>exact h w M v1 v2 hM (hv 0 a v1 rfl rfl) (hv 1 b v2 rfl rfl)⟩
theorem gf {w:World} {M:Nat→Nat→Prop} (h:MOK w M) : c2w w:=h.2.2.2
theorem a9a (c:UInt8) (s:ByteArray) : (l7_ c s).length=Lib.countB s ⟨#[c]⟩+1:=by
 have h:=Lib.splitB_all ⟨#[c]⟩ (Nat.le_refl _) 0 _ s rfl;rw [a3o c _ s rfl] at h;exact h
theorem b8f (s:ByteArray) (c:UInt8) (hs:s.size≤1000000) : VC Tryz.prog 105 [S s,S ⟨#[c]⟩] (a0i (l7_ c s)):=
 b8e (by kernel_rfl) fun w M v1 v2 hM h1 h2=>by
  obtain rfl:=V0.lit_inv h1;obtain rfl:=V0.lit_inv h2;obtain ⟨m,hm⟩:=(gf hM).1;refine (Any.strings_Split b7z (by kernel_rfl) s ⟨#[c]⟩ m w (by omega) hm (Nat.le_refl _)).mono fun e w' ⟨he,hw⟩=>⟨_,he,?_,?_⟩
  ·rw [hw];exact (Below.refl _ w).alloc (Nat.le_refl _) _
  ·have hl:=a9a c s;have hp:Lib.splitB ⟨#[c]⟩ 0 (Lib.countB s ⟨#[c]⟩) s=l7_ c s:=a3o c _ s rfl;have hlm:((l7_ c s).map r0_).length=Lib.countB s ⟨#[c]⟩+1:=by rw [List.length_map,hl]
   rw [hw,hp,←hlm];refine .sl 1 _ _ _ 0 (fun k _=>.string (tat (l7_ c s) k)) (fun hn=>?_) (by simp) (fun _ _ _ _ hmm=>absurd (hM.1 _ _ hmm) (Nat.lt_irrefl _)) (Nat.le_refl _) (fun k x hx=>?_) (fun k x j d hx hd=>?_) (fun k j hk hj=>?_) (fun k x j d hx hd=>?_)
   ·rw [hn] at hlm;simp at hlm
   ·obtain ⟨y,_,rfl⟩:=f1_ hx;rfl
   ·obtain ⟨y,_,rfl⟩:=f1_ hx;rw [show r0_ y=[S y] from rfl,List.getElem?_singleton] at hd;split at hd
    ·injection hd with hd
     subst hd;rfl
    ·cases hd
   ·rw [List.length_map] at hk;have hj0:j=0:=by omega
    subst hj0;rw [show 0+k*1+0=k by omega];refine (a3v w _ _ k).trans ?_;simp [hk,tat]
   ·obtain ⟨y,hy,rfl⟩:=f1_ hx;rw [show r0_ y=[S y] from rfl,List.getElem?_singleton] at hd;split at hd
    ·injection hd with hd
     subst hd;simp only [tat,List.getD,hy,Option.getD_some];exact .lit _
    ·cases hd
theorem a9b (s q:ByteArray) : VC Tryz.prog 151 [S s,S q] (S (mkB (Lib.trimPrefix s.data.toList q.data.toList))):=
 b8e (by kernel_rfl) fun w M v1 v2 hM h1 h2=>by
  obtain rfl:=V0.lit_inv h1;obtain rfl:=V0.lit_inv h2;exact (Any.strings_TrimPrefix b8a s q w).mono fun e w' ⟨he,hw⟩=>⟨_,he,hw▸Below.refl _ _,.lit _⟩
theorem a7f (n:Int) (h : -9223372036854775808≤n∧n≤9223372036854775807) : VC Tryz.prog 103 [I n] (S (a8z n)):=
 a7e (by kernel_rfl) fun w M v1 hM h1=>by
  obtain rfl:=V0.lit_inv h1;refine (Any.strconv_Itoa b8b n h.1 h.2 w (gf hM).2.1).mono fun e w' ⟨he,k,os,hw⟩=>⟨_,he,?_,.lit _⟩
  rw [hw];exact b1c w k os
theorem c2p (s:ByteArray) (hs:s.size≤1000000) (v:Int) (h:Lib.atoiAll s.data.toList = .ok v) : VC Tryz.prog 150 [S s] (.tup [I v,.lit .nilIface]):=
 a7e (by kernel_rfl) fun w M v1 hM h1=>by
  obtain rfl:=V0.lit_inv h1;refine (Any.strconv_Atoi_ok a7c s (by omega) v h w).mono fun e w' ⟨he,hw⟩=>⟨_,he,?_,?_⟩
  ·rcases hw with rfl|⟨t,rfl⟩
   ·exact Below.refl _ _
   ·exact Lib.bytesWorld_below _ _ _
  ·refine .tup _ [_,_] rfl fun i a u ha hu=>?_;match i with
   | 0=>cases ha;cases hu;exact .lit _
   | 1=>cases ha;cases hu;exact .lit _
   | n+2=>cases ha
theorem b8g (s:ByteArray) (hs:s.size≤1000000) (h1:∀ v,Lib.atoiAll s.data.toList≠.ok v) (h2:Lib.atoiAll s.data.toList≠.range) : VC Tryz.prog 150 [S s] (.tup [I 0,.iface (laysAtoi_ren.t 168) .any]):=
 a7e (by kernel_rfl) fun w M v1 hM h0=>by
  obtain rfl:=V0.lit_inv h0;obtain ⟨t,q,hc⟩:=(gf hM).2.2.1;have hsy:Calls Tryz.prog 150 #[.string s] w fun e w'=>∃ n,e = .returned (.tuple #[.int .i64 0,.iface (laysAtoi_ren.t 168) (.pointer (some ⟨n,0,none⟩))])∧Below w.heap.size w w':=by
   cases hx:Lib.atoiAll s.data.toList with
   | ok v=>exact absurd hx (h1 v)
   | range=>exact absurd hx h2
   | _=>exact (Any.strconv_Atoi_syntax a7c s (by omega) hx _ w hc (.inr ⟨_,_,rfl⟩)).mono fun e w' ⟨N,he,_,_,hw⟩=>⟨N,he,hw⟩
  refine hsy.mono fun e w' ⟨N,he,hw⟩=>⟨_,he,hw,?_⟩
  refine .tup _ [_,_] rfl fun i a u ha hu=>?_;match i with
  | 0=>cases ha;cases hu;exact .lit _
  | 1=>cases ha;cases hu;exact .iface _ _ _ (.any _)
  | n+2=>cases ha
theorem b8h (s:ByteArray) (hs:s.size≤1000000) (h:Lib.atoiAll s.data.toList = .range) : VC Tryz.prog 150 [S s] (.tup [I (Lib.atoiSat s.data.toList),.iface (laysAtoi_ren.t 168) .any]):=
 a7e (by kernel_rfl) fun w M v1 hM h1=>by
  obtain rfl:=V0.lit_inv h1;obtain ⟨t,q,hc⟩:=(gf hM).2.2.2;refine (Any.strconv_Atoi_range a7c s (by omega) h _ w hc (.inr ⟨_,_,rfl⟩)).mono fun e w' ⟨N,he,_,_,hw⟩=>⟨_,he,hw,?_⟩
  refine .tup _ [_,_] rfl fun i a u ha hu=>?_;match i with
  | 0=>cases ha;cases hu;exact .lit _
  | 1=>cases ha;cases hu;exact .iface _ _ _ (.any _)
  | n+2=>cases ha
theorem a9c:Builder.Extra Tryz.prog a2b where
 sizeBuilder:=by kernel_rfl
 liesBuilder:=by kernel_rfl
 t5:=Tryz.underlying5
 a5:=Tryz.isAgg5
 z5:=Tryz.sizeOf5
 v5:=Tryz.zeroValue5
 infoByte:=by kernel_rfl
 cellsByte:=by kernel_rfl
 sizeByte:=by kernel_rfl
 neB5:=by decide
def bl (b:ByteArray) : List UInt8:=b.data.toList
def a0z (l:List ByteArray) (sep:ByteArray) : ByteArray:=⟨(Lib.join (l.map bl) (bl sep)).toArray⟩
theorem b3e (l:List ByteArray) (sep:ByteArray) (h:(Lib.join (l.map bl) (bl sep)).length≤1000000000) (hl:l.length≤1000000000) : VC Tryz.prog 102 [a0i l,S sep] (S (a0z l sep)):=
 d0g (by kernel_rfl) fun w M v1 v2 h1 h2=>by
  obtain rfl:=V0.lit_inv h2;change V0 w M (.sl 1 (l.map r0_)) v1 at h1;generalize hes:l.map r0_=es at h1;cases h1 with
  | slNil _ A cap=>
   have hl:l=[]:=List.map_eq_nil_iff.1 hes;subst hl;exact (Any.strings_Join_none b2z a9c A cap sep w).mono fun e w' ⟨he,hw⟩=>⟨_,he,hw▸Below.refl _ _,by exact .lit _⟩
  | sl _ _ cap b o u hne hb hM hcap hsz h1 hc hv=>
   have hlen:es.length=l.length:=by rw [←hes,List.length_map]
   have hcells:∀ (j:Nat) (x:ByteArray),l[j]? = some x→w.cell? { block:=b,off:=o+j } = some (.string x):=fun j x hx=>by
    have hjl:=(List.getElem?_eq_some_iff.1 hx).1;have h3:=hv j (r0_ x) 0 (S x) (by rw [←hes];simp [hx]) rfl;have h4:=hc j 0 (by omega) (by decide);rw [V0.lit_inv h3,Nat.mul_one,Nat.add_zero] at h4;exact h4
   rw [hlen] at hcap ⊢;exact (Any.strings_Join b2z a9c b o cap l sep w hcells hb (by omega) hcap (Nat.le_trans h (by decide))).mono fun e w' ⟨he,hw⟩=>⟨_,he,hw,.lit _⟩
def b5i (l:List UInt8) : Int:=match Lib.atoiAll l with | .ok v=>v | .range=>Lib.atoiSat l|_=>0
theorem b3f (s:ByteArray) (hs:s.size≤1000000) : VC Tryz.prog 109 [S s] (.tup [I (b5i s.data.toList),B (y6_ s.data.toList)]):=by
 unfold b5i y6_;have hn1:=b8g s hs;have hn2:=b8h s hs;have hn3:=c2p s hs;have hb:=@Lib.atoiAll_bounds s.data.toList;have g3:=a9b s ⟨#[45]⟩;have e45:(⟨#[45]⟩ : ByteArray).data.toList=[45]:=rfl;rw [e45] at g3;have hsz:=b3d (Lib.trimPrefix s.data.toList [45]);have hd:∀ v,(a8z v=s)↔(Lib.itoa v=s.data.toList):=fun v=>by
  unfold a8z;constructor
  ·intro h;rw [←h];rfl
  ·intro h;rw [h];rfl
 generalize Lib.trimPrefix s.data.toList [45]=X at *;generalize Lib.atoiSat s.data.toList=sat at *;cases hx:Lib.atoiAll s.data.toList with
 | ok v=>
  have g1:=hn3 v hx;have g2:=a7f v (hb hx);have hdv:=hd v;clear hn1 hn2 hn3 hb hd hx;simp only;generalize Lib.itoa v=Y at *;generalize a8z v=D at *;generalize mkB X=T at *;by_cases h1:D=s
  ·have h1':=hdv.1 h1;rw [decide_eq_true h1',Bool.true_and];by_cases h2:X.length≤9
   ·have h3:((T.size:Nat) : Int)≤9:=by omega
    rw [decide_eq_true h2];clear hdv h1' h2 hsz;subst h1;refine c4_ Tryz.func109 rfl (by kernel_rfl) (by kernel_rfl) rfl fun M0 w0=>?_;simp only [Tryz.ntmps109,Tryz.results109,b4_];repeat' first|(with_reducible first|apply a8_|apply a3_|apply c2_|apply a1_|refine a2_ [] ?_)|((with_reducible refine a0_ fun Z U=>?_);go_simp;(first|(with_reducible refine ⟨_,g1,?_⟩)|(with_reducible refine ⟨_,g2,?_⟩)|(with_reducible refine ⟨_,g3,?_⟩)|skip);refine U _ ?_;clear U Z)
    go_simp
   ·have h3:¬((T.size:Nat) : Int)≤9:=by omega
    rw [decide_eq_false h2];clear hdv h1' h2 hsz;subst h1;refine c4_ Tryz.func109 rfl (by kernel_rfl) (by kernel_rfl) rfl fun M0 w0=>?_;simp only [Tryz.ntmps109,Tryz.results109,b4_];repeat' first|(with_reducible first|apply a8_|apply a3_|apply c2_|apply a1_|refine a2_ [] ?_)|((with_reducible refine a0_ fun Z U=>?_);go_simp;(first|(with_reducible refine ⟨_,g1,?_⟩)|(with_reducible refine ⟨_,g2,?_⟩)|(with_reducible refine ⟨_,g3,?_⟩)|skip);refine U _ ?_;clear U Z)
    go_simp
  ·have h1':¬Y=s.data.toList:=fun e=>h1 (hdv.2 e);rw [decide_eq_false h1',Bool.false_and];clear hdv h1';refine c4_ Tryz.func109 rfl (by kernel_rfl) (by kernel_rfl) rfl fun M0 w0=>?_;simp only [Tryz.ntmps109,Tryz.results109,b4_];repeat' first|(with_reducible first|apply a8_|apply a3_|apply c2_|apply a1_|refine a2_ [] ?_)|((with_reducible refine a0_ fun Z U=>?_);go_simp;(first|(with_reducible refine ⟨_,g1,?_⟩)|(with_reducible refine ⟨_,g2,?_⟩)|skip);refine U _ ?_;clear U Z)
   go_simp
 | range=>
  have g1:=hn2 hx;clear hn1 hn2 hn3 hb hd hx g3 hsz;simp only;refine c4_ Tryz.func109 rfl (by kernel_rfl) (by kernel_rfl) rfl fun M0 w0=>?_;simp only [Tryz.ntmps109,Tryz.results109,b4_];repeat' first|(with_reducible first|apply a8_|apply a3_|apply c2_|apply a1_|refine a2_ [] ?_)|((with_reducible refine a0_ fun Z U=>?_);go_simp;(first|(with_reducible refine ⟨_,g1,?_⟩)|skip);refine U _ ?_;clear U Z)
  go_simp
 | _=>
  have g1:=hn1 (fun v=>by rw [hx];intro h;cases h) (by rw [hx];intro h;cases h);clear hn1 hn2 hn3 hb hd hx g3 hsz;simp only;refine c4_ Tryz.func109 rfl (by kernel_rfl) (by kernel_rfl) rfl fun M0 w0=>?_;simp only [Tryz.ntmps109,Tryz.results109,b4_];repeat' first|(with_reducible first|apply a8_|apply a3_|apply c2_|apply a1_|refine a2_ [] ?_)|((with_reducible refine a0_ fun Z U=>?_);go_simp;(first|(with_reducible refine ⟨_,g1,?_⟩)|skip);refine U _ ?_;clear U Z)
  go_simp
theorem c2q (x y:List UInt8) (r:List (List UInt8)) (s:List UInt8) : Lib.join (x::y::r) s=x++(s++Lib.join (y::r) s):=by
 rw [Lib.join_cons,Lib.join_cons];simp [Lib.joinTail]
theorem b8i (sep:List UInt8) (B:Nat) : ∀ (L:List (List UInt8)),(∀ x∈L,x.length≤B)→(Lib.join L sep).length≤L.length*(B+sep.length)
 | [],_=>by simp [Lib.join]
 | [x],h=>by
  have:=h x (by simp);have e:Lib.join [x] sep=x:=by simp [Lib.join]
  rw [e];simp;omega
 | x::y::r,h=>by
  have h1:=h x (by simp);have h2:=b8i sep B (y::r) fun z hz=>h z (List.mem_cons_of_mem _ hz);rw [c2q,List.length_append,List.length_append,List.length_cons,Nat.add_mul,Nat.one_mul];omega
def i64 (n:Int) : Prop:=-9223372036854775808≤n∧n≤9223372036854775807
structure SmallS (s:St) : Prop where
 nq:s.q.length≤300
 q1:∀ l∈s.q,l.length≤300∧∀ c∈l,c.size≤1000
 nt:s.tk.length≤300
 t1:∀ t∈s.tk,t.car.size≤1000∧i64 t.rank∧i64 t.time
 tm:i64 s.time
def u1_ (t:Tk) : ByteArray:=a0z [t.car,a8z t.rank,a8z t.time] ⟨#[58]⟩
def z9_ (s:St) : ByteArray:=a0z (s.tk.map u1_) ⟨#[32]⟩
def g0_ (s:St) (k:Nat) : List ByteArray:=a8z s.time::(s.q.take k).map fun l=>a0z l ⟨#[32]⟩
def b8j (s:St) : ByteArray:=a0z (g0_ s s.q.length++[z9_ s]) ⟨#[124]⟩
theorem a2w {l:List ByteArray} {s:ByteArray} {B:Nat} (h:∀ x∈l,x.size≤B) : (Lib.join (l.map bl) (bl s)).length≤l.length*(B+s.size):=by
 have:=b8i (bl s) B (l.map bl) fun x hx=>by
  obtain ⟨y,hy,rfl⟩:=List.mem_map.1 hx;have h1:=h y hy;have h2:(bl y).length=y.size:=a5k y;omega
 rw [List.length_map,show (bl s).length=s.size from a5k s] at this;exact this
theorem r9_ (l:List ByteArray) (s:ByteArray) : (a0z l s).size=(Lib.join (l.map bl) (bl s)).length:=by
 unfold a0z;rw [←a5k]
theorem b8k {n:Int} (h:i64 n) : (a8z n).size≤21:=by
 have:=Lib.itoa_length_le n h.1 h.2;rw [←a5k];exact this
theorem a7g {s:St} {k:Nat} (h:k≤s.q.length) : (g0_ s k).length=k+1:=by simp [g0_,List.length_take];omega
theorem c2r {s:St} {k:Nat} (h:k < s.q.length) : g0_ s (k+1)=g0_ s k++[a0z (qat s.q k) ⟨#[32]⟩]:=by
 rw [g0_,g0_,k0_ h,List.map_append,List.cons_append,f5_ h];rfl
def h7_ (s:St) (k:Nat) : List ByteArray:=(s.tk.take k).map u1_
theorem b1d {s:St} {k:Nat} (h:k≤s.tk.length) : (h7_ s k).length=k:=by simp [h7_,List.length_take];omega
theorem c2s {s:St} {k:Nat} (h:k < s.tk.length) : h7_ s (k+1)=h7_ s k++[u1_ (d6_ s.tk k)]:=by
 rw [h7_,h7_,k0_ h,List.map_append,e5_ h];rfl
theorem a7h (s:St) (h:SmallS s) : VC Tryz.prog 61 [j0_ s] (S (b8j s)):=by
 have hq:=h.q1;have ht:=h.t1;have hnq:=h.nq;have hnt:=h.nt;have bq:∀ k,k < s.q.length→(a0z (qat s.q k) ⟨#[32]⟩).size≤301000:=fun k hk=>by
  obtain ⟨h1,h2⟩:=hq _ (List.getElem_mem hk);rw [r9_,f5_ hk];refine Nat.le_trans (a2w h2) ?_;have:s.q[k].length*(1000+(⟨#[32]⟩ : ByteArray).size)≤300*1001:=Nat.mul_le_mul h1 (Nat.le_refl _);omega
 have bt:∀ k,k < s.tk.length→(u1_ (d6_ s.tk k)).size≤3003:=fun k hk=>by
  obtain ⟨h1,h2,h3⟩:=ht _ (List.getElem_mem hk);unfold u1_;rw [r9_,e5_ hk];refine Nat.le_trans (a2w (B:=1000) fun x hx=>?_) (Nat.le_refl _);simp only [List.mem_cons,List.not_mem_nil,or_false] at hx;rcases hx with rfl|rfl|rfl
  ·exact h1
  ·exact Nat.le_trans (b8k h2) (by omega)
  ·exact Nat.le_trans (b8k h3) (by omega)
 have etk:h7_ s s.tk.length=s.tk.map u1_:=by rw [h7_,List.take_length]
 have hts:∀ x∈h7_ s s.tk.length,x.size≤3003:=fun x hx=>by
  rw [etk] at hx;obtain ⟨y,hy,rfl⟩:=List.mem_map.1 hx;obtain ⟨k,hk,rfl⟩:=List.getElem_of_mem hy;rw [←e5_ hk];exact bt k hk
 have lts:(Lib.join ((h7_ s s.tk.length).map bl) (bl ⟨#[32]⟩)).length≤901200:=by
  refine Nat.le_trans (a2w hts) ?_;rw [b1d (Nat.le_refl _)];exact Nat.mul_le_mul hnt (Nat.le_refl _)
 have bts:(z9_ s).size≤901200:=by
  unfold z9_;rw [r9_,←etk];exact lts
 have hall:∀ x∈g0_ s s.q.length++[z9_ s],x.size≤1000000:=fun x hx=>by
  rcases List.mem_append.1 hx with hx|hx
  ·rw [g0_,List.take_length] at hx;rcases List.mem_cons.1 hx with rfl|hx
   ·exact Nat.le_trans (b8k h.tm) (by omega)
   ·obtain ⟨y,hy,rfl⟩:=List.mem_map.1 hx;obtain ⟨k,hk,rfl⟩:=List.getElem_of_mem hy;have:=bq k hk;rw [f5_ hk] at this;omega
  ·simp at hx;rw [hx];omega
 have lall:(Lib.join ((g0_ s s.q.length++[z9_ s]).map bl) (bl ⟨#[124]⟩)).length≤1000000000:=by
  refine Nat.le_trans (a2w hall) ?_;rw [List.length_append,a7g (Nat.le_refl _)];have:(s.q.length+1+1)*(1000000+1)≤302*1000001:=Nat.mul_le_mul (by omega) (Nat.le_refl _);simp only [List.length_cons,List.length_nil];have e:(⟨#[124]⟩ : ByteArray).size=1:=rfl;rw [e];omega
 have g0:=a7f s.time h.tm;have HJ1:=Lib.hid (b3e (h7_ s s.tk.length) ⟨#[32]⟩ (by omega) (by rw [b1d (Nat.le_refl _)];omega));have HJ2:=Lib.hid (b3e (g0_ s s.q.length++[z9_ s]) ⟨#[124]⟩ lall (by rw [List.length_append,a7g (Nat.le_refl _)];simp;omega));have HQ:Hid (∀ k,k < s.q.length→VC Tryz.prog 102 [a0i (qat s.q k),S ⟨#[32]⟩] (S (a0z (qat s.q k) ⟨#[32]⟩))):=Lib.hid fun k hk=>by
  obtain ⟨h1,h2⟩:=hq _ (List.getElem_mem hk);rw [←f5_ hk] at h1 h2;have:=bq k hk;rw [r9_] at this;exact b3e (qat s.q k) ⟨#[32]⟩ (Nat.le_trans this (by omega)) (by omega)
 have HT:Hid (∀ k,k < s.tk.length→VC Tryz.prog 103 [I (d6_ s.tk k).rank] (S (a8z (d6_ s.tk k).rank))∧VC Tryz.prog 103 [I (d6_ s.tk k).time] (S (a8z (d6_ s.tk k).time))∧VC Tryz.prog 102 [a0i [(d6_ s.tk k).car,a8z (d6_ s.tk k).rank,a8z (d6_ s.tk k).time],S ⟨#[58]⟩] (S (u1_ (d6_ s.tk k)))):=Lib.hid fun k hk=>by
  obtain ⟨h1,h2,h3⟩:=ht _ (List.getElem_mem hk);rw [←e5_ hk] at h2 h3;have:=bt k hk;unfold u1_ at this;rw [r9_] at this;exact ⟨a7f _ h2,a7f _ h3,b3e [(d6_ s.tk k).car,a8z (d6_ s.tk k).rank,a8z (d6_ s.tk k).time] ⟨#[58]⟩ (Nat.le_trans this (by omega)) (by simp)⟩
 have HE:=Lib.hid etk;unfold b8j;unfold z9_ at *;clear hq ht bq bt hts lts bts hall lall etk h;generalize hR:a0z (g0_ s s.q.length++[a0z (s.tk.map u1_) ⟨#[32]⟩]) ⟨#[124]⟩=R at *;clear hR;refine c4_ Tryz.func61 rfl (by kernel_rfl) (by kernel_rfl) rfl fun M0 w0=>?_;simp only [Tryz.ntmps61,Tryz.results61,b4_];have e0:g0_ s 0=[a8z s.time]:=rfl;have e1:h7_ s 0=[]:=rfl;repeat' first|(with_reducible first|apply a8_|apply a3_|apply a9_|apply a1_|refine a2_ [12] ?_)|((with_reducible refine a0_ fun Z U=>?_);go_simp;(first|(with_reducible refine ⟨_,g0,?_⟩)|skip);refine U _ ?_;clear U Z)
 apply c1b [1,14,15] (fun k=>[(16,I k),(3,.osl 0)]) (fun k=>([some (.arr 9 1 false ((g0_ s k).map r0_))] : Hp))  (s.q.length)
 ·go_simp<;>exact rfl
 ·go_simp
 ·intro k hk K hK;obtain ⟨w1,w2,w3,w4,w5,w6⟩:=ixs (m:=k) (by omega);have HS:=Lib.hid (c2r hk);have hnl:=a7g (s:=s) (k:=k) (by omega);have hb:(g0_ s k).length+1≤1000000000:=by omega
  clear hnl;have gj:=HQ.out k hk;generalize a0z (qat s.q k) ⟨#[32]⟩=J at *;repeat' first|(with_reducible first|apply a8_|apply a3_|apply b1_|apply a9_|apply b5_|apply a1_|refine a2_ [] ?_)|((with_reducible refine a7_ ?_ ?_);(focus (go_simp;done)))|((with_reducible refine a0_ fun Z U=>?_);go_simp;(first|(with_reducible refine ⟨_,gj,?_⟩)|skip);refine U _ ?_;clear U Z)
  refine hK _ ?_;rw [HS.out];go_simp
 ·intro K;repeat' first|(with_reducible first|apply a8_|apply a3_|apply c1_|apply e0_|apply a9_|apply b6_|apply a1_|refine a2_ [6] ?_)|((with_reducible refine a6_ ?_ ?_);(focus (go_simp;done)))|((with_reducible refine a0_ fun Z U=>?_);go_simp;refine U _ ?_;clear U Z)
  apply c1b [3,27,28] (fun k=>[(29,I k),(6,.osl 1)]) (fun k=>([some (.arr 9 1 false ((g0_ s s.q.length).map r0_)),some (.arr 9 1 (decide (h7_ s k=[])) ((h7_ s k).map r0_))] : Hp))  (s.tk.length)
  ·go_simp<;>exact rfl
  ·go_simp
  ·intro k hk K hK;obtain ⟨w1,w2,w3,w4,w5,w6⟩:=ixs (m:=k) (by omega);have HS:=Lib.hid (c2s hk);have hnl:=b1d (s:=s) (k:=k) (by omega);have hb:(h7_ s k).length+1≤1000000000:=by omega
   clear hnl;obtain ⟨g1,g2,g3⟩:=HT.out k hk;generalize u1_ (d6_ s.tk k)=J at *;generalize a8z (d6_ s.tk k).rank=D1 at *;generalize a8z (d6_ s.tk k).time=D2 at *;repeat' with_reducible apply a8_
   refine a2_ [] ?_;repeat' first|(with_reducible first|apply a8_|apply a3_|apply b1_|apply a9_|apply a1_)|((with_reducible refine a7_ ?_ ?_);(focus (go_simp;done)))|((with_reducible refine a0_ fun Z U=>?_);go_simp;refine U _ ?_;clear U Z)
   refine a2_ [] ?_;repeat' first|(with_reducible first|apply a3_|apply a1_)|((with_reducible refine a0_ fun Z U=>?_);go_simp;refine U _ ?_;clear U Z)
   refine a2j 12 [45] 1 [] (by kernel_rfl) (by kernel_rfl) (by kernel_rfl) (by kernel_rfl) rfl ⟨rfl,rfl⟩ rfl ?_;simp only [List.take,List.drop];repeat' first|with_reducible apply a5_|((with_reducible refine a4_ fun Z U=>?_);go_simp;(first|(with_reducible refine ⟨_,g1,?_⟩)|(with_reducible refine ⟨_,g2,?_⟩)|(refine ⟨_,g3,?_⟩)|skip);refine U _ ?_;clear U Z)
   refine ⟨_,by go_simp,by go_simp;exact rfl,?_,?_⟩
   ·intro t ht;simp at ht
   go_simp;repeat' first|(with_reducible first|apply a3_|apply b5_|apply a1_|refine a2_ [] ?_)|((with_reducible refine a0_ fun Z U=>?_);go_simp;refine U _ ?_;clear U Z)
   refine hK _ ?_;rw [HS.out];go_simp
  ·intro K;have hj:=HJ1.out;rw [HE.out] at hj ⊢;have hj2:=HJ2.out;generalize a0z (s.tk.map u1_) ⟨#[32]⟩=J at *;generalize s.tk.map u1_=TT at *;have hb:(g0_ s s.q.length).length+1≤1000000000:=by rw [a7g (Nat.le_refl _)];omega
   generalize g0_ s s.q.length=SP at *;have e2:(SP++[J]).map r0_=SP.map r0_++[[S J]]:=by simp [r0_]
   unfold a0i at hj2;rw [e2] at hj2;repeat' first|(with_reducible first|apply a8_|apply a3_|apply c1_|apply c2_|apply e0_|apply b6_|apply a1_|refine a2_ [] ?_)|((with_reducible refine a6_ ?_ ?_);(focus (go_simp;done)))|((with_reducible refine a0_ fun Z U=>?_);go_simp;(first|(refine ⟨_,⟨hj,rfl⟩,?_⟩)|(refine ⟨_,⟨hj2,rfl⟩,?_⟩)|skip);refine U _ ?_;clear U Z)
   go_simp
end Go.Proofs.YtoibondihdhnoaaGreatDoor
