/- Texts in one: Texts and numerals by the library's functions: cut at a byte, joined, read and written; the world's facts are those of the package variables that the walks read. -/
import Derived.Test.YtoibondihdhnoaaGreatDoorFRN34
import Derived.Test.YtoibondihdhnoaaGreatDoorFRN35
import Derived.Test.YtoibondihdhnoaaGreatDoorFRN32
import Derived.Test.YtoibondihdhnoaaGreatDoorFRN33
namespace Go.Proofs.YtoibondihdhnoaaGreatDoor
open Go.RowKit
set_option maxRecDepth 100000
set_option maxHeartbeats 1000000
def txL (l:List UInt8) : List AV:=[S (mkB l)]
attribute [go_sem] txL
theorem a5k (s:ByteArray) : s.data.toList.length=s.size:=(Lib.size_eq s).symm
@[go_sem] theorem d3t:d3e 0 []=0:=c2r 0
@[go_sem] theorem d1g (c:UInt8) (l:List UInt8) : b3l c l 0=0:=rfl
@[go_sem] theorem d1t (c:UInt8) (l:List UInt8) : c6r c l 0=[]:=rfl
@[go_sem] theorem d1u:mkB []=⟨#[]⟩:=rfl
def a9e (n:Int) : ByteArray:=mkB (Lib.itoa n)
end Go.Proofs.YtoibondihdhnoaaGreatDoor
namespace Go.Proofs.YtoibondihdhnoaaGreatDoor
open Go.RowKit Go.Shelf
set_option maxRecDepth 100000
set_option maxHeartbeats 1000000
def l8_ (c:UInt8) (s:ByteArray) : List ByteArray:=(a3d c s.data.toList).map mkB
theorem a5l (c:UInt8) (s:ByteArray) : (l8_ c s).length≤s.size+1:=by
 have:=b3k c s.data.toList;rw [a5k] at this;simpa [l8_] using this
theorem b1k {c:UInt8} {s p:ByteArray} (h:p∈l8_ c s) : p.size≤s.size:=by
 obtain ⟨l,hl,rfl⟩:=List.mem_map.1 h;have:=a9c c _ l hl;rw [b3m,←a5k];exact this
theorem b1l (w:World) (k:Nat) (os:Array Obj) : Below w.heap.size w (Sort.grow (w.drewN k) os):=
 ⟨rfl,rfl,rfl,by show w.heap.size≤(w.heap++os).size;rw [Array.size_append];omega,fun j hj=>by show (w.heap++os)[j]? = _;rw [Array.getElem?_append_left hj]⟩
theorem a7f {f:FuncId} {a r:AV} (hg:a2s Tryz.prog f=true) (h:∀ w M v1,MOK w M→V0 w M a v1→Calls Tryz.prog f #[v1] w fun e w'=>∃ v,e = .returned v∧Below w.heap.size w w'∧V0 w' M r v) : VC Tryz.prog f [a] r:=
 ⟨hg,fun w M vs hM hl hv=>by
  obtain ⟨v1,rfl⟩:=List.length_eq_one_iff.1 hl;exact h w M v1 hM (hv 0 a v1 rfl rfl)⟩
theorem b8i {f:FuncId} {a b r:AV} (hg:a2s Tryz.prog f=true) (h:∀ w M v1 v2,MOK w M→V0 w M a v1→V0 w M b v2→Calls Tryz.prog f #[v1,v2] w fun e w'=>∃ v,e = .returned v∧Below w.heap.size w w'∧V0 w' M r v) : VC Tryz.prog f [a,b] r:=
 ⟨hg,fun w M vs hM hl hv=>by
  match vs,hl with
  | [v1,v2],_=>exact h w M v1 v2 hM (hv 0 a v1 rfl rfl) (hv 1 b v2 rfl rfl)⟩
theorem gf {w:World} {M:Nat→Nat→Prop} (h:MOK w M) : c2z w:=h.2.2.2
theorem a9f (c:UInt8) (s:ByteArray) : (l8_ c s).length=Lib.countB s ⟨#[c]⟩+1:=by
 have h:=Lib.splitB_all ⟨#[c]⟩ (Nat.le_refl _) 0 _ s rfl;rw [a3u c _ s rfl] at h;exact h
theorem b8j (s:ByteArray) (c:UInt8) (hs:s.size≤1000000) : VC Tryz.prog 105 [S s,S ⟨#[c]⟩] (r5_ (l8_ c s)):=
 b8i (by kernel_rfl) fun w M v1 v2 hM h1 h2=>by
  obtain rfl:=V0.lit_inv h1;obtain rfl:=V0.lit_inv h2;obtain ⟨m,hm⟩:=(gf hM).1;refine (Any.strings_Split b8d (by kernel_rfl) s ⟨#[c]⟩ m w (by omega) hm (Nat.le_refl _)).mono fun e w' ⟨he,hw⟩=>⟨_,he,?_,?_⟩
  ·rw [hw];exact (Below.refl _ w).alloc (Nat.le_refl _) _
  ·have hl:=a9f c s;have hp:Lib.splitB ⟨#[c]⟩ 0 (Lib.countB s ⟨#[c]⟩) s=l8_ c s:=a3u c _ s rfl;have hlm:((l8_ c s).map n5_).length=Lib.countB s ⟨#[c]⟩+1:=by rw [List.length_map,hl]
   rw [hw,hp,←hlm];refine .sl 1 _ _ _ 0 (fun k _=>.string (tat (l8_ c s) k)) (fun hn=>?_) (by simp) (fun _ _ _ _ hmm=>absurd (hM.1 _ _ hmm) (Nat.lt_irrefl _)) (Nat.le_refl _) (fun k x hx=>?_) (fun k x j d hx hd=>?_) (fun k j hk hj=>?_) (fun k x j d hx hd=>?_)
   ·rw [hn] at hlm;simp at hlm
   ·obtain ⟨y,_,rfl⟩:=f2_ hx;rfl
   ·obtain ⟨y,_,rfl⟩:=f2_ hx;rw [show n5_ y=[S y] from rfl,List.getElem?_singleton] at hd;split at hd
    ·injection hd with hd
     subst hd;rfl
    ·cases hd
   ·rw [List.length_map] at hk;have hj0:j=0:=by omega
    subst hj0;rw [show 0+k*1+0=k by omega];refine (a4b w _ _ k).trans ?_;simp [hk,tat]
   ·obtain ⟨y,hy,rfl⟩:=f2_ hx;rw [show n5_ y=[S y] from rfl,List.getElem?_singleton] at hd;split at hd
    ·injection hd with hd
     subst hd;simp only [tat,List.getD,hy,Option.getD_some];exact .lit _
    ·cases hd
theorem a9g (s q:ByteArray) : VC Tryz.prog 151 [S s,S q] (S (mkB (Lib.trimPrefix s.data.toList q.data.toList))):=
 b8i (by kernel_rfl) fun w M v1 v2 hM h1 h2=>by
  obtain rfl:=V0.lit_inv h1;obtain rfl:=V0.lit_inv h2;exact (Any.strings_TrimPrefix b8e s q w).mono fun e w' ⟨he,hw⟩=>⟨_,he,hw▸Below.refl _ _,.lit _⟩
theorem a7g (n:Int) (h : -9223372036854775808≤n∧n≤9223372036854775807) : VC Tryz.prog 103 [I n] (S (a9e n)):=
 a7f (by kernel_rfl) fun w M v1 hM h1=>by
  obtain rfl:=V0.lit_inv h1;refine (Any.strconv_Itoa b8f n h.1 h.2 w (gf hM).2.1).mono fun e w' ⟨he,k,os,hw⟩=>⟨_,he,?_,.lit _⟩
  rw [hw];exact b1l w k os
theorem c2s (s:ByteArray) (hs:s.size≤1000000) (v:Int) (h:Lib.atoiAll s.data.toList = .ok v) : VC Tryz.prog 150 [S s] (.tup [I v,.lit .nilIface]):=
 a7f (by kernel_rfl) fun w M v1 hM h1=>by
  obtain rfl:=V0.lit_inv h1;refine (Any.strconv_Atoi_ok a7d s (by omega) v h w).mono fun e w' ⟨he,hw⟩=>⟨_,he,?_,?_⟩
  ·rcases hw with rfl|⟨t,rfl⟩
   ·exact Below.refl _ _
   ·exact Lib.bytesWorld_below _ _ _
  ·refine .tup _ [_,_] rfl fun i a u ha hu=>?_;match i with
   | 0=>cases ha;cases hu;exact .lit _
   | 1=>cases ha;cases hu;exact .lit _
   | n+2=>cases ha
theorem b8k (s:ByteArray) (hs:s.size≤1000000) (h1:∀ v,Lib.atoiAll s.data.toList≠.ok v) (h2:Lib.atoiAll s.data.toList≠.range) : VC Tryz.prog 150 [S s] (.tup [I 0,.iface (laysAtoi_ren.t 168) .any]):=
 a7f (by kernel_rfl) fun w M v1 hM h0=>by
  obtain rfl:=V0.lit_inv h0;obtain ⟨t,q,hc⟩:=(gf hM).2.2.1;have hsy:Calls Tryz.prog 150 #[.string s] w fun e w'=>∃ n,e = .returned (.tuple #[.int .i64 0,.iface (laysAtoi_ren.t 168) (.pointer (some ⟨n,0,none⟩))])∧Below w.heap.size w w':=by
   cases hx:Lib.atoiAll s.data.toList with
   | ok v=>exact absurd hx (h1 v)
   | range=>exact absurd hx h2
   | _=>exact (Any.strconv_Atoi_syntax a7d s (by omega) hx _ w hc (.inr ⟨_,_,rfl⟩)).mono fun e w' ⟨N,he,_,_,hw⟩=>⟨N,he,hw⟩
  refine hsy.mono fun e w' ⟨N,he,hw⟩=>⟨_,he,hw,?_⟩
  refine .tup _ [_,_] rfl fun i a u ha hu=>?_;match i with
  | 0=>cases ha;cases hu;exact .lit _
  | 1=>cases ha;cases hu;exact .iface _ _ _ (.any _)
  | n+2=>cases ha
theorem b8l (s:ByteArray) (hs:s.size≤1000000) (h:Lib.atoiAll s.data.toList = .range) : VC Tryz.prog 150 [S s] (.tup [I (Lib.atoiSat s.data.toList),.iface (laysAtoi_ren.t 168) .any]):=
 a7f (by kernel_rfl) fun w M v1 hM h1=>by
  obtain rfl:=V0.lit_inv h1;obtain ⟨t,q,hc⟩:=(gf hM).2.2.2;refine (Any.strconv_Atoi_range a7d s (by omega) h _ w hc (.inr ⟨_,_,rfl⟩)).mono fun e w' ⟨N,he,_,_,hw⟩=>⟨_,he,hw,?_⟩
  refine .tup _ [_,_] rfl fun i a u ha hu=>?_;match i with
  | 0=>cases ha;cases hu;exact .lit _
  | 1=>cases ha;cases hu;exact .iface _ _ _ (.any _)
  | n+2=>cases ha
theorem a9h:Builder.Extra Tryz.prog a2g where
 sizeBuilder:=by kernel_rfl
 liesBuilder:=by kernel_rfl
 t5:=Tryz.underlying5
 a5:=Tryz.isAgg5
 z5:=Tryz.sizeOf5
 v5:=Tryz.zeroValue5
 infoByte:=by kernel_rfl
 cellsByte:=by kernel_rfl
 sizeByte:=by kernel_rfl
 neB5:=by decide
def bl (b:ByteArray) : List UInt8:=b.data.toList
def a1e (l:List ByteArray) (sep:ByteArray) : ByteArray:=⟨(Lib.join (l.map bl) (bl sep)).toArray⟩
theorem b3n (l:List ByteArray) (sep:ByteArray) (h:(Lib.join (l.map bl) (bl sep)).length≤1000000000) (hl:l.length≤1000000000) : VC Tryz.prog 102 [r5_ l,S sep] (S (a1e l sep)):=
 d0w (by kernel_rfl) fun w M v1 v2 h1 h2=>by
  obtain rfl:=V0.lit_inv h2;change V0 w M (.sl 1 (l.map n5_)) v1 at h1;generalize hes:l.map n5_=es at h1;cases h1 with
  | slNil _ A cap=>
   have hl:l=[]:=List.map_eq_nil_iff.1 hes;subst hl;exact (Any.strings_Join_none b3i a9h A cap sep w).mono fun e w' ⟨he,hw⟩=>⟨_,he,hw▸Below.refl _ _,by exact .lit _⟩
  | sl _ _ cap b o u hne hb hM hcap hsz h1 hc hv=>
   have hlen:es.length=l.length:=by rw [←hes,List.length_map]
   have hcells:∀ (j:Nat) (x:ByteArray),l[j]? = some x→w.cell? { block:=b,off:=o+j } = some (.string x):=fun j x hx=>by
    have hjl:=(List.getElem?_eq_some_iff.1 hx).1;have h3:=hv j (n5_ x) 0 (S x) (by rw [←hes];simp [hx]) rfl;have h4:=hc j 0 (by omega) (by decide);rw [V0.lit_inv h3,Nat.mul_one,Nat.add_zero] at h4;exact h4
   rw [hlen] at hcap ⊢;exact (Any.strings_Join b3i a9h b o cap l sep w hcells hb (by omega) hcap (Nat.le_trans h (by decide))).mono fun e w' ⟨he,hw⟩=>⟨_,he,hw,.lit _⟩
def b5q (l:List UInt8) : Int:=match Lib.atoiAll l with | .ok v=>v | .range=>Lib.atoiSat l|_=>0
theorem b3o (s:ByteArray) (hs:s.size≤1000000) : VC Tryz.prog 109 [S s] (.tup [I (b5q s.data.toList),B (z1_ s.data.toList)]):=by
 unfold b5q z1_;have hn1:=b8k s hs;have hn2:=b8l s hs;have hn3:=c2s s hs;have hb:=@Lib.atoiAll_bounds s.data.toList;have g3:=a9g s ⟨#[45]⟩;have e45:(⟨#[45]⟩ : ByteArray).data.toList=[45]:=rfl;rw [e45] at g3;have hsz:=b3m (Lib.trimPrefix s.data.toList [45]);have hd:∀ v,(a9e v=s)↔(Lib.itoa v=s.data.toList):=fun v=>by
  unfold a9e;constructor
  ·intro h;rw [←h];rfl
  ·intro h;rw [h];rfl
 generalize Lib.trimPrefix s.data.toList [45]=X at *;generalize Lib.atoiSat s.data.toList=sat at *;cases hx:Lib.atoiAll s.data.toList with
 | ok v=>
  have g1:=hn3 v hx;have g2:=a7g v (hb hx);have hdv:=hd v;clear hn1 hn2 hn3 hb hd hx;simp only;generalize Lib.itoa v=Y at *;generalize a9e v=D at *;generalize mkB X=T at *;by_cases h1:D=s
  ·have h1':=hdv.1 h1;rw [decide_eq_true h1',Bool.true_and];by_cases h2:X.length≤9
   ·have h3:((T.size:Nat) : Int)≤9:=by omega
    rw [decide_eq_true h2];clear hdv h1' h2 hsz;subst h1;refine c2_ Tryz.func109 rfl (by kernel_rfl) (by kernel_rfl) rfl fun M0 w0=>?_;simp only [Tryz.ntmps109,Tryz.results109,b4_];repeat' first|(with_reducible first|apply a8_|apply a3_|apply c4_|apply a1_|refine a2_ [] ?_)|((with_reducible refine a0_ fun Z U=>?_);go_simp;(first|(with_reducible refine ⟨_,g1,?_⟩)|(with_reducible refine ⟨_,g2,?_⟩)|(with_reducible refine ⟨_,g3,?_⟩)|skip);refine U _ ?_;clear U Z)
    go_simp
   ·have h3:¬((T.size:Nat) : Int)≤9:=by omega
    rw [decide_eq_false h2];clear hdv h1' h2 hsz;subst h1;refine c2_ Tryz.func109 rfl (by kernel_rfl) (by kernel_rfl) rfl fun M0 w0=>?_;simp only [Tryz.ntmps109,Tryz.results109,b4_];repeat' first|(with_reducible first|apply a8_|apply a3_|apply c4_|apply a1_|refine a2_ [] ?_)|((with_reducible refine a0_ fun Z U=>?_);go_simp;(first|(with_reducible refine ⟨_,g1,?_⟩)|(with_reducible refine ⟨_,g2,?_⟩)|(with_reducible refine ⟨_,g3,?_⟩)|skip);refine U _ ?_;clear U Z)
    go_simp
  ·have h1':¬Y=s.data.toList:=fun e=>h1 (hdv.2 e);rw [decide_eq_false h1',Bool.false_and];clear hdv h1';refine c2_ Tryz.func109 rfl (by kernel_rfl) (by kernel_rfl) rfl fun M0 w0=>?_;simp only [Tryz.ntmps109,Tryz.results109,b4_];repeat' first|(with_reducible first|apply a8_|apply a3_|apply c4_|apply a1_|refine a2_ [] ?_)|((with_reducible refine a0_ fun Z U=>?_);go_simp;(first|(with_reducible refine ⟨_,g1,?_⟩)|(with_reducible refine ⟨_,g2,?_⟩)|skip);refine U _ ?_;clear U Z)
   go_simp
 | range=>
  have g1:=hn2 hx;clear hn1 hn2 hn3 hb hd hx g3 hsz;simp only;refine c2_ Tryz.func109 rfl (by kernel_rfl) (by kernel_rfl) rfl fun M0 w0=>?_;simp only [Tryz.ntmps109,Tryz.results109,b4_];repeat' first|(with_reducible first|apply a8_|apply a3_|apply c4_|apply a1_|refine a2_ [] ?_)|((with_reducible refine a0_ fun Z U=>?_);go_simp;(first|(with_reducible refine ⟨_,g1,?_⟩)|skip);refine U _ ?_;clear U Z)
  go_simp
 | _=>
  have g1:=hn1 (fun v=>by rw [hx];intro h;cases h) (by rw [hx];intro h;cases h);clear hn1 hn2 hn3 hb hd hx g3 hsz;simp only;refine c2_ Tryz.func109 rfl (by kernel_rfl) (by kernel_rfl) rfl fun M0 w0=>?_;simp only [Tryz.ntmps109,Tryz.results109,b4_];repeat' first|(with_reducible first|apply a8_|apply a3_|apply c4_|apply a1_|refine a2_ [] ?_)|((with_reducible refine a0_ fun Z U=>?_);go_simp;(first|(with_reducible refine ⟨_,g1,?_⟩)|skip);refine U _ ?_;clear U Z)
  go_simp
theorem c2t (x y:List UInt8) (r:List (List UInt8)) (s:List UInt8) : Lib.join (x::y::r) s=x++(s++Lib.join (y::r) s):=by
 rw [Lib.join_cons,Lib.join_cons];simp [Lib.joinTail]
theorem b8m (sep:List UInt8) (B:Nat) : ∀ (L:List (List UInt8)),(∀ x∈L,x.length≤B)→(Lib.join L sep).length≤L.length*(B+sep.length)
 | [],_=>by simp [Lib.join]
 | [x],h=>by
  have:=h x (by simp);have e:Lib.join [x] sep=x:=by simp [Lib.join]
  rw [e];simp;omega
 | x::y::r,h=>by
  have h1:=h x (by simp);have h2:=b8m sep B (y::r) fun z hz=>h z (List.mem_cons_of_mem _ hz);rw [c2t,List.length_append,List.length_append,List.length_cons,Nat.add_mul,Nat.one_mul];omega
end Go.Proofs.YtoibondihdhnoaaGreatDoor
