/- Texts in one: Chapter 4: what its functions compute, as plain functions; no condition. -/
import Derived.Test.YtoibondihdhnoaaDoorFRX5
namespace Go.Proofs.YtoibondihdhnoaaDoor
open Go.RowKit
section
variable {P:Program} {M0:Nat→Nat→Prop} {w0:Bas} {N:Nm} {st:VS} {Q:Exit→VS→Prop}
theorem b6_ {id:Nat} {l:List Oper} (len n:Nat) (ow:List Nat) (_hl:l.length=len) (hm:P.follows .mixedOrders=true) (hB:c8q l n=true) (h:a5q P l (l.take n) st fun st'=>y2_ P ow l (l.drop n) st' (Q .normal)) :
  VWp P M0 w0 N (.region id l.toArray true) Q st:=a6h n ow hm hB h
def IsL (x y:List AV) : Prop:=x=y
theorem a0c {c:Code} {α:Type} (keep:List Nat) (F:α→List (Nat×AV)) (H:α→Hp) (Inv:α→Prop) (μ:α→Nat) (x0:α) (hI:Inv x0) {vals:List AV} (_hv:IsL (keep.map (lkp st.s)) vals) (h0:Le st ⟨F x0++keep.zip vals,H x0⟩)
  (round:∀ x,Inv x→∀ K:VS→Prop,(∀ st' y,Inv y→μ y < μ x→Le st' ⟨F y++keep.zip vals,H y⟩→K st')→VWp P M0 w0 N c (a2n K Q) ⟨F x++keep.zip vals,H x⟩) : VWp P M0 w0 N (.loop c) Q st:=
 c4p (fun x=>⟨F x++keep.zip vals,H x⟩) Inv μ x0 hI h0 round
theorem y4_ {c:Code} (keep:List Nat) (F:Nat→List (Nat×AV)) (H:Nat→Hp) (p:Nat→Bool) (n:Nat) {vals:List AV} (hv:IsL (keep.map (lkp st.s)) vals) (h0:Le st ⟨F 0++keep.zip vals,H 0⟩)
  (go:∀ k,k < n→Hid (∀ j,j < k→p j=false)→Hid (p k=false)→∀ K:VS→Prop,(∀ st',Le st' ⟨F (k+1)++keep.zip vals,H (k+1)⟩→K st')→VWp P M0 w0 N c (a2n K Q) ⟨F k++keep.zip vals,H k⟩)
  (hit:∀ k,k < n→Hid (∀ j,j < k→p j=false)→Hid (p k=true)→∀ K:VS→Prop,VWp P M0 w0 N c (a2n K Q) ⟨F k++keep.zip vals,H k⟩)
  (out:Hid (∀ j,j < n→p j=false)→∀ K:VS→Prop,VWp P M0 w0 N c (a2n K Q) ⟨F n++keep.zip vals,H n⟩) : VWp P M0 w0 N (.loop c) Q st:=by
 refine a0c keep F H (fun k=>k≤n∧∀ j,j < k→p j=false) (fun k=>n - k) 0 ⟨Nat.zero_le _,fun j h=>by omega⟩ hv h0 ?_;rintro k ⟨hk,hb⟩ K hK;by_cases hlt:k < n
 ·cases hp:p k
  ·refine go k hlt (Lib.hid hb) (Lib.hid hp) K fun st' hle=>hK st' (k+1) ⟨hlt,fun j hj=>?_⟩ (by omega) hle;by_cases he:j=k
   ·rw [he];exact hp
   ·exact hb j (by omega)
  ·exact hit k hlt (Lib.hid hb) (Lib.hid hp) K
 ·obtain rfl:k=n:=by omega
  exact out (Lib.hid hb) K
end
section
variable {P:Program} {M0:Nat→Nat→Prop} {w0:Bas} {N:Nm} {st:VS} {Q:Exit→VS→Prop}
theorem b3d {c:Code} (keep:List Nat) (F:Nat→List (Nat×AV)) (H:Nat→Hp) (n:Nat) {vals:List AV} (hv:IsL (keep.map (lkp st.s)) vals) (h0:Le st ⟨F 0++keep.zip vals,H 0⟩)
  (go:∀ k,k < n→∀ K:VS→Prop,(∀ st',Le st' ⟨F (k+1)++keep.zip vals,H (k+1)⟩→K st')→VWp P M0 w0 N c (a2n K Q) ⟨F k++keep.zip vals,H k⟩)
  (out:∀ K:VS→Prop,VWp P M0 w0 N c (a2n K Q) ⟨F n++keep.zip vals,H n⟩) : VWp P M0 w0 N (.loop c) Q st:=
 y4_ keep F H (fun _=>false) n hv h0 (fun k hk _ _=>go k hk) (fun _ _ _ h=>by cases h.out) fun _=>out
end
structure Rk where
 name:ByteArray
 places:Int
 feeder:Int
 called:Bool
instance:Inhabited Rk:=⟨⟨ByteArray.empty,0,0,false⟩⟩
@[go_sem] def Rk.av (x:Rk) : List AV:=[S x.name,I x.places,I x.feeder,B x.called]
def rat (l:List Rk) (k:Nat) : Rk:=l.getD k default
theorem c9p {l:List Rk} {k:Nat} (h:k < l.length) : rat l k=l[k]:=by simp [rat,h]
structure Ru where
 ranks:List Rk
 back:Int
 ret:Int
abbrev c4_ (r:Ru) : AV:=.agg [.sl 4 (r.ranks.map Rk.av),I r.back,I r.ret]
structure Tk where
 car:ByteArray
 rank:Int
 time:Int
instance:Inhabited Tk:=⟨⟨ByteArray.empty,0,0⟩⟩
@[go_sem] def Tk.av (x:Tk) : List AV:=[S x.car,I x.rank,I x.time]
def d8_ (l:List Tk) (k:Nat) : Tk:=l.getD k default
theorem f5_ {l:List Tk} {k:Nat} (h:k < l.length) : d8_ l k=l[k]:=by simp [d8_,h]
structure Ev where
 kind:Int
 time:Int
 rank:Int
 car:ByteArray
instance:Inhabited Ev:=⟨⟨0,0,0,ByteArray.empty⟩⟩
@[go_sem] def Ev.av (x:Ev) : List AV:=[I x.kind,I x.time,I x.rank,S x.car]
abbrev evA (x:Ev) : AV:=.agg [I x.kind,I x.time,I x.rank,S x.car]
abbrev w2_ (l:List Ev) : AV:=.sl 4 (l.map Ev.av)
def e6_ (l:List Ev) (k:Nat) : Ev:=l.getD k default
theorem o7_ {l:List Ev} {k:Nat} (h:k < l.length) : e6_ l k=l[k]:=by simp [e6_,h]
structure Sg where
 kind:Int
 rank:Int
 car:ByteArray
instance:Inhabited Sg:=⟨⟨0,0,ByteArray.empty⟩⟩
@[go_sem] def Sg.av (x:Sg) : List AV:=[I x.kind,I x.rank,S x.car]
abbrev d4v (l:List Sg) : AV:=.sl 3 (l.map Sg.av)
def f1_ (l:List Sg) (k:Nat) : Sg:=l.getD k default
theorem b5j {l:List Sg} {k:Nat} (h:k < l.length) : f1_ l k=l[k]:=by simp [f1_,h]
abbrev a3n (l:List ByteArray) : AV:=.sl 1 (l.map l1_)
abbrev f0_:AV:=.lit (.slice none 0 0)
def d3_ (q:List (List ByteArray)) : List (List (List AV)):=q.map fun l=>l.map l1_
abbrev g8_ (q:List (List ByteArray)) : AV:=.sl 1 ((d3_ q).map fun l=>[.sl 1 l])
theorem q6_ (q:List (List ByteArray)) : (d3_ q).length=q.length:=by simp [d3_]
def qat (q:List (List ByteArray)) (k:Nat) : List ByteArray:=q.getD k []
theorem f3_ {q:List (List ByteArray)} {k:Nat} (h:k < q.length) : qat q k=q[k]:=by simp [qat,h]
theorem c1v {q:List (List ByteArray)} {k:Nat} : (d3_ q).getD k []=(qat q k).map l1_:=by
 unfold d3_ qat;rw [List.getD_eq_getElem?_getD,List.getElem?_map,List.getD_eq_getElem?_getD];cases q[k]?<;>rfl
theorem i4_ {q:List (List ByteArray)} {k:Nat} {l:List ByteArray} : (d3_ q).set k (l.map l1_)=d3_ (q.set k l):=by
 unfold d3_;rw [List.map_set]
theorem c5e {q:List (List ByteArray)} {k:Nat} (h:k < (d3_ q).length) : (d3_ q)[k]=(qat q k).map l1_:=by
 have hq:k < q.length:=by rw [←q6_];exact h
 rw [f3_ hq];simp [d3_]
theorem d3x {l:List Rk} {k:Nat} (h:k < l.length) : l[k]=rat l k:=(c9p h).symm
theorem d3y {l:List Tk} {k:Nat} (h:k < l.length) : l[k]=d8_ l k:=(f5_ h).symm
theorem d3z {l:List Ev} {k:Nat} (h:k < l.length) : l[k]=e6_ l k:=(o7_ h).symm
theorem d4a {l:List Sg} {k:Nat} (h:k < l.length) : l[k]=f1_ l k:=(b5j h).symm
attribute [go_sem] q6_ c1v c5e d3x d3y d3z d4a
structure St where
 q:List (List ByteArray)
 tk:List Tk
 time:Int
abbrev c9_ (s:St) : AV:=.agg [g8_ s.q,.sl 3 (s.tk.map Tk.av),I s.time]
abbrev b7i (r:Ru) (s:St) (mv:List Sg) : AV:=.vp [g8_ s.q,.sl 3 (s.tk.map Tk.av),I s.time,.sl 4 (r.ranks.map Rk.av),I r.back,I r.ret,.sl 3 (mv.map Sg.av)]
theorem ixs {m:Nat} (h:m≤1000000000) : IntKind.i64.wrap (m:Int)=m∧IntKind.i64.wrap ((m:Int)+1)=m+1∧((m:Int)+1).toNat=m+1∧(0:Int)≤(m:Int)+1∧(0:Int) < (m:Int)+1∧IntKind.i64.wrap ((m:Int)+1+1)=m+1+1:=
 ⟨h3_ (by omega) (by omega),h3_ (by omega) (by omega),by omega,by omega,by omega,h3_ (by omega) (by omega)⟩
theorem d4b:IntKind.i64.wrap 1=1:=rfl
attribute [go_sem] d4b
def a5w (p:Nat→Bool) (k n:Nat) : Bool:=(List.range n).any fun j=>p (k+j)
theorem m7_ {p:Nat→Bool} {k n:Nat} (hk:k < n) (h:p k=true) : a5w p 0 n=true:=by
 unfold a5w;rw [List.any_eq_true];exact ⟨k,List.mem_range.2 hk,by simpa using h⟩
theorem r7_ {p:Nat→Bool} {n:Nat} (h:∀ j,j < n→p j=false) : a5w p 0 n=false:=by
 unfold a5w;rw [List.any_eq_false];intro j hj;simp [h j (List.mem_range.1 hj)]
def ixP (p:Nat→Bool) (k:Nat) : Nat→Int
 | 0=>-1
 | n+1=>if p k then k else ixP p (k+1) n
theorem b5k {p:Nat→Bool} : ∀ (n k i:Nat),k≤i→i < k+n→(∀ j,k≤j→j < i→p j=false)→p i=true→ixP p k n=i
 | 0,k,i,h1,h2,_,_=>by omega
 | n+1,k,i,h1,h2,hb,hp=>by
  rw [ixP];by_cases he:k=i
  ·subst he;rw [if_pos hp]
  ·rw [if_neg (by simp [hb k (Nat.le_refl k) (by omega)])];exact b5k n (k+1) i (by omega) (by omega) (fun j h3 h4=>hb j (by omega) h4) hp
theorem n0_ {p:Nat→Bool} {k n:Nat} (hk:k < n) (hb:∀ j,j < k→p j=false) (hp:p k=true) : ixP p 0 n=k:=b5k n 0 k (Nat.zero_le k) (by omega) (fun j _ h=>hb j h) hp
theorem b5l {p:Nat→Bool} : ∀ (n k:Nat),(∀ j,k≤j→j < k+n→p j=false)→ixP p k n = -1
 | 0,_,_=>rfl
 | n+1,k,h=>by
  rw [ixP,if_neg (by simp [h k (Nat.le_refl k) (by omega)])];exact b5l n (k+1) fun j h1 h2=>h j (by omega) (by omega)
theorem p7_ {p:Nat→Bool} {n:Nat} (h:∀ j,j < n→p j=false) : ixP p 0 n = -1:=b5l n 0 fun j _ h2=>h j (by omega)
theorem t8_ (p:Nat→Bool) (n:Nat) : (ixP p 0 n = -1∧∀ j,j < n→p j=false)∨∃ k,k < n∧ixP p 0 n=k∧p k=true∧∀ j,j < k→p j=false:=by
 by_cases h:∀ j,j < n→p j=false
 ·exact .inl ⟨p7_ h,h⟩
 ·right;have hex:∃ j,j < n∧p j=true:=by
   apply Classical.byContradiction;intro hn;refine h fun j hj=>?_;cases hp:p j
   ·rfl
   ·exact absurd ⟨j,hj,hp⟩ hn
  obtain ⟨k,hk,hmin⟩ : ∃ k,(k < n∧p k=true)∧∀ j,j < k→¬(j < n∧p j=true):=by
   obtain ⟨j,hj⟩:=hex;induction j using Nat.strongRecOn with
   | ind j ih=>
    by_cases h2:∃ i,i < j∧(i < n∧p i=true)
    ·obtain ⟨i,hi,hi2⟩:=h2;exact ih i hi hi2
    ·exact ⟨j,hj,fun i hi hi2=>h2 ⟨i,hi,hi2⟩⟩
  have hb:∀ j,j < k→p j=false:=fun j hj=>by
   cases hp:p j
   ·rfl
   ·exact absurd ⟨by omega,hp⟩ (hmin j hj)
  exact ⟨k,hk.1,n0_ hk.1 hb hk.2,hk.2,hb⟩
set_option maxRecDepth 100000
set_option maxHeartbeats 1000000
def tat (l:List ByteArray) (k:Nat) : ByteArray:=l.getD k ByteArray.empty
theorem e7_ {l:List ByteArray} {k:Nat} (h:k < l.length) : tat l k=l[k]:=by simp [tat,h]
def isT (l:List ByteArray) (s:ByteArray) (j:Nat) : Bool:=decide (tat l j=s)
theorem a8x (l:List ByteArray) (s:ByteArray) (hl:l.length≤1000000) : VC Tryd.prog 120 [a3n l,S s] (I (ixP (isT l s) 0 l.length)):=by
 obtain ⟨R,hR⟩ : ∃ R,ixP (isT l s) 0 l.length=R:=⟨_,rfl⟩
 rw [hR];have HR:=Lib.hid hR;clear hR;refine c0_ Tryd.func120 rfl (by kernel_rfl) (by kernel_rfl) rfl fun M0 w0=>?_;simp only [Tryd.ntmps120,Tryd.results120,b5_];repeat' first|(with_reducible first|apply a9_|apply a3_|apply a8_|apply a1_|refine a2_ [] ?_)|((with_reducible refine a0_ fun X Y=>?_);go_simp;refine Y _ ?_;clear Y X)
 apply y4_ [0,1,7] (fun k=>[(8,I k)]) (fun k=>([] : Hp)) (isT l s) (l.length)
 ·go_simp<;>exact rfl
 ·go_simp
 ·intro k hk HB HP K hK;obtain ⟨w1,w2,w3,w4,w5,w6⟩:=ixs (m:=k) (by omega);have hp:¬s=l[k]:=fun h=>by
   have:=HP.out;rw [isT,e7_ hk,h] at this;simp at this
  repeat' first|(with_reducible first|apply a9_|apply a3_|apply b0_|apply a8_|apply b1_|apply a1_|refine a2_ [] ?_)|((with_reducible refine a7_ ?_ ?_);(focus (go_simp;done)))|((with_reducible refine a6_ ?_ ?_);(focus (go_simp;done)))|((with_reducible refine a0_ fun X Y=>?_);go_simp;refine Y _ ?_;clear Y X)
  refine hK _ ?_;go_simp
 ·intro k hk HB HP K;have hp:s=l[k]:=by
   have:=HP.out;rw [isT,e7_ hk] at this;simpa using (of_decide_eq_true this).symm
  have e:=HR.out;rw [n0_ hk HB.out HP.out] at e;subst e;repeat' first|(with_reducible first|apply a9_|apply a3_|apply b4_|apply c5_|apply b0_|apply a8_|apply c2_|apply a1_|refine a2_ [] ?_)|((with_reducible refine a7_ ?_ ?_);(focus (go_simp;done)))|((with_reducible refine a0_ fun X Y=>?_);go_simp;refine Y _ ?_;clear Y X)
  go_simp
 ·intro HB K;have e:=HR.out;rw [p7_ HB.out] at e;subst e;repeat (first|(with_reducible first|apply a9_|apply a3_|apply b8_|apply c5_|apply d4_|apply b7_|apply a1_|refine a2_ [] ?_)|((with_reducible refine a6_ ?_ ?_);(focus (go_simp;done)))|((with_reducible refine a0_ fun X Y=>?_);go_simp;refine Y _ ?_;clear Y X))
  go_simp
def f4_ (r:Ru) (s:St) (k:Nat) : Bool:=decide (((qat s.q k).length:Int) < (rat r.ranks k).places)
def a0d (r:Ru) (s:St) (k:Nat) : Bool:=decide ((rat r.ranks k).feeder≠-1)&&!(rat r.ranks k).called&&f4_ r s k&&decide (0 < (qat s.q (rat r.ranks k).feeder.toNat).length)
def q7_ (r:Ru) (n:Nat) : Prop:=∀ k,k < n→(rat r.ranks k).feeder≠-1→0≤(rat r.ranks k).feeder∧(rat r.ranks k).feeder.toNat < n
theorem a1c (r:Ru) (s:St) (mv:List Sg) (k:Nat) (hk:k < s.q.length) (hr:r.ranks.length=s.q.length) : VC Tryd.prog 77 [b7i r s mv,I (k:Int)] (B (f4_ r s k)):=by
 have hk2:k < r.ranks.length:=by omega
 unfold f4_;refine c0_ Tryd.func77 rfl (by kernel_rfl) (by kernel_rfl) rfl fun M0 w0=>?_;simp only [Tryd.ntmps77,Tryd.results77,b5_];repeat' first|(with_reducible first|apply a9_|apply a3_|apply c5_|apply a1_|refine a2_ [] ?_|apply a5_)|((with_reducible first|refine a0_ fun X Y=>?_|refine a4_ fun X Y=>?_);go_simp;refine Y _ ?_;clear Y X)|((refine b6_ 20 20 [] rfl (by kernel_rfl) (by kernel_rfl) ?_);simp only [List.take,List.drop])
 go_simp
theorem c1w (r:Ru) (s:St) (mv:List Sg) (k:Nat) (hk:k < s.q.length) (hr:r.ranks.length=s.q.length) (hf:q7_ r s.q.length) : VC Tryd.prog 69 [b7i r s mv,I (k:Int)] (B (a0d r s k)):=by
 have hk2:k < r.ranks.length:=by omega
 have g:=a1c r s mv k hk hr;have hfk:=hf k hk;unfold a0d;generalize f4_ r s k=F at *;clear hf;by_cases h1:(rat r.ranks k).feeder = -1
 ·clear hfk;refine c0_ Tryd.func69 rfl (by kernel_rfl) (by kernel_rfl) rfl fun M0 w0=>?_;simp only [Tryd.ntmps69,Tryd.results69,b5_];repeat' first|(with_reducible first|apply a9_|apply a3_|apply c5_|apply a1_|refine a2_ [] ?_|apply a5_)|((with_reducible first|refine a0_ fun X Y=>?_|refine a4_ fun X Y=>?_);go_simp;refine Y _ ?_;clear Y X)|((refine b6_ 27 27 [] rfl (by kernel_rfl) (by kernel_rfl) ?_);simp only [List.take,List.drop])
  go_simp
 ·obtain ⟨f0,fl⟩:=hfk h1;clear hfk;obtain ⟨f,hf⟩ : ∃ f:Nat,(rat r.ranks k).feeder=f:=⟨(rat r.ranks k).feeder.toNat,by omega⟩
  rw [hf] at fl h1;simp only [Int.toNat_natCast] at fl;clear f0;cases h2:(rat r.ranks k).called
  ·cases F
   ·refine c0_ Tryd.func69 rfl (by kernel_rfl) (by kernel_rfl) rfl fun M0 w0=>?_;simp only [Tryd.ntmps69,Tryd.results69,b5_];repeat' first|(with_reducible first|apply a9_|apply a3_|apply c5_|apply a1_|refine a2_ [] ?_|apply a5_)|((with_reducible first|refine a0_ fun X Y=>?_|refine a4_ fun X Y=>?_);go_simp;(first|(with_reducible refine ⟨_,g,?_⟩)|skip);refine Y _ ?_;clear Y X)|((refine b6_ 27 27 [] rfl (by kernel_rfl) (by kernel_rfl) ?_);simp only [List.take,List.drop])
    go_simp
   ·refine c0_ Tryd.func69 rfl (by kernel_rfl) (by kernel_rfl) rfl fun M0 w0=>?_;simp only [Tryd.ntmps69,Tryd.results69,b5_];repeat' first|(with_reducible first|apply a9_|apply a3_|apply c5_|apply a1_|refine a2_ [] ?_|apply a5_)|((with_reducible first|refine a0_ fun X Y=>?_|refine a4_ fun X Y=>?_);go_simp;(first|(with_reducible refine ⟨_,g,?_⟩)|skip);refine Y _ ?_;clear Y X)|((refine b6_ 27 27 [] rfl (by kernel_rfl) (by kernel_rfl) ?_);simp only [List.take,List.drop])
    go_simp
  ·refine c0_ Tryd.func69 rfl (by kernel_rfl) (by kernel_rfl) rfl fun M0 w0=>?_;simp only [Tryd.ntmps69,Tryd.results69,b5_];repeat' first|(with_reducible first|apply a9_|apply a3_|apply c5_|apply a1_|refine a2_ [] ?_|apply a5_)|((with_reducible first|refine a0_ fun X Y=>?_|refine a4_ fun X Y=>?_);go_simp;refine Y _ ?_;clear Y X)|((refine b6_ 27 27 [] rfl (by kernel_rfl) (by kernel_rfl) ?_);simp only [List.take,List.drop])
   go_simp
def f9_ (r:Ru) (s:St) : Int:=ixP (a0d r s) 0 r.ranks.length
theorem c1x (r:Ru) (s:St) (mv:List Sg) (hl:r.ranks.length≤1000000) (hr:r.ranks.length=s.q.length) (hf:q7_ r s.q.length) : VC Tryd.prog 52 [b7i r s mv] (I (f9_ r s)):=by
 obtain ⟨R,hR⟩ : ∃ R,f9_ r s=R:=⟨_,rfl⟩
 rw [hR];unfold f9_ at hR;have HR:=Lib.hid hR;have HF:=Lib.hid hf;clear hR hf;refine c0_ Tryd.func52 rfl (by kernel_rfl) (by kernel_rfl) rfl fun M0 w0=>?_;simp only [Tryd.ntmps52,Tryd.results52,b5_];repeat' first|(with_reducible first|apply a9_|apply a3_|apply a8_|apply a1_|refine a2_ [] ?_)|((with_reducible refine a0_ fun X Y=>?_);go_simp;refine Y _ ?_;clear Y X)
 apply y4_ [0,9] (fun k=>[(10,I k)]) (fun k=>([] : Hp)) (a0d r s) (r.ranks.length)
 ·go_simp<;>exact rfl
 ·go_simp
 ·intro k hk HB HP K hK;obtain ⟨w1,w2,w3,w4,w5,w6⟩:=ixs (m:=k) (by omega);have hk2:k < s.q.length:=by omega
  have g:=c1w r s mv k hk2 hr HF.out;rw [HP.out] at g;repeat' first|(with_reducible first|apply a9_|apply a3_|apply b0_|apply a8_|apply b1_|apply a1_|refine a2_ [] ?_)|((with_reducible refine a7_ ?_ ?_);(focus (go_simp;done)))|((with_reducible refine a6_ ?_ ?_);(focus (go_simp;done)))|((with_reducible refine a0_ fun X Y=>?_);go_simp;(first|(with_reducible refine ⟨_,g,?_⟩)|skip);refine Y _ ?_;clear Y X)
  refine hK _ ?_;go_simp
 ·intro k hk HB HP K;have hk2:k < s.q.length:=by omega
  have g:=c1w r s mv k hk2 hr HF.out;rw [HP.out] at g;have e:=HR.out;rw [n0_ hk HB.out HP.out] at e;subst e;repeat' first|(with_reducible first|apply a9_|apply a3_|apply b4_|apply c5_|apply b0_|apply a8_|apply c2_|apply a1_|refine a2_ [] ?_)|((with_reducible refine a7_ ?_ ?_);(focus (go_simp;done)))|((with_reducible refine a0_ fun X Y=>?_);go_simp;(first|(with_reducible refine ⟨_,g,?_⟩)|skip);refine Y _ ?_;clear Y X)
  go_simp
 ·intro HB K;have e:=HR.out;rw [p7_ HB.out] at e;subst e;repeat (first|(with_reducible first|apply a9_|apply a3_|apply b8_|apply c5_|apply d4_|apply b7_|apply a1_|refine a2_ [] ?_)|((with_reducible refine a6_ ?_ ?_);(focus (go_simp;done)))|((with_reducible refine a0_ fun X Y=>?_);go_simp;refine Y _ ?_;clear Y X))
  go_simp
def a1q (l:List ByteArray) (s:ByteArray) : Int:=ixP (isT l s) 0 l.length
def inQ (q:List (List ByteArray)) (s:ByteArray) (k:Nat) : Bool:=decide (0≤a1q (qat q k) s)
def k7_ (q:List (List ByteArray)) (s:ByteArray) : Int:=ixP (inQ q s) 0 q.length
def b7j (q:List (List ByteArray)) (s:ByteArray) : AV:=if 0≤k7_ q s then .tup [.agg [I (k7_ q s),I (a1q (qat q (k7_ q s).toNat) s)],B true] else .tup [.agg [I 0,I 0],B false]
theorem b1k (r:Ru) (s:St) (mv:List Sg) (car:ByteArray) (hl:s.q.length≤1000000) (hq:∀ k,k < s.q.length→(qat s.q k).length≤1000000) : VC Tryd.prog 115 [b7i r s mv,S car] (b7j s.q car):=by
 obtain ⟨R,hR⟩ : ∃ R,b7j s.q car=R:=⟨_,rfl⟩
 rw [hR];have HR:=Lib.hid hR;have HQ:=Lib.hid hq;clear hR hq;refine c0_ Tryd.func115 rfl (by kernel_rfl) (by kernel_rfl) rfl fun M0 w0=>?_;simp only [Tryd.ntmps115,Tryd.results115,b5_];repeat' first|(with_reducible first|apply a9_|apply a3_|apply a8_|apply a1_|refine a2_ [] ?_)|((with_reducible refine a0_ fun X Y=>?_);go_simp;refine Y _ ?_;clear Y X)
 apply y4_ [1,4,13,14] (fun k=>[(15,I k)]) (fun k=>([some (.box [I 0,I 0])] : Hp)) (inQ s.q car) (s.q.length)
 ·go_simp<;>exact rfl
 ·go_simp
 ·intro k hk HB HP K hK;obtain ⟨w1,w2,w3,w4,w5,w6⟩:=ixs (m:=k) (by omega);have g:=a8x (qat s.q k) car (HQ.out k hk);have hp:¬0≤ixP (isT (qat s.q k) car) 0 (qat s.q k).length:=of_decide_eq_false HP.out;generalize ixP (isT (qat s.q k) car) 0 (qat s.q k).length=E at *;repeat' first|(with_reducible first|apply a9_|apply a3_|apply b0_|apply a8_|apply b1_|apply a1_|refine a2_ [] ?_)|((with_reducible refine a7_ ?_ ?_);(focus (go_simp;done)))|((with_reducible refine a6_ ?_ ?_);(focus (go_simp;done)))|((with_reducible refine a0_ fun X Y=>?_);go_simp;(first|(with_reducible refine ⟨_,g,?_⟩)|skip);refine Y _ ?_;clear Y X)
  refine hK _ ?_;go_simp
 ·intro k hk HB HP K;have g:=a8x (qat s.q k) car (HQ.out k hk);have hp:0≤ixP (isT (qat s.q k) car) 0 (qat s.q k).length:=of_decide_eq_true HP.out;have e:=HR.out;have e1:k7_ s.q car=k:=n0_ hk HB.out HP.out;unfold b7j at e;rw [e1,if_pos (by omega),Int.toNat_natCast,a1q] at e;generalize ixP (isT (qat s.q k) car) 0 (qat s.q k).length=E at *;subst e;repeat' first|(with_reducible first|apply a9_|apply a3_|apply b4_|apply c5_|apply b0_|apply a8_|apply c2_|apply a1_|refine a2_ [] ?_)|((with_reducible refine a7_ ?_ ?_);(focus (go_simp;done)))|((with_reducible refine a0_ fun X Y=>?_);go_simp;(first|(with_reducible refine ⟨_,g,?_⟩)|skip);refine Y _ ?_;clear Y X)
  go_simp
 ·intro HB K;have e:=HR.out;have e1:k7_ s.q car = -1:=p7_ HB.out;unfold b7j at e;rw [e1,if_neg (by decide)] at e;subst e;repeat (first|(with_reducible first|apply a9_|apply a3_|apply b8_|apply c5_|apply d4_|apply b7_|apply a1_|refine a2_ [] ?_)|((with_reducible refine a6_ ?_ ?_);(focus (go_simp;done)))|((with_reducible refine a0_ fun X Y=>?_);go_simp;refine Y _ ?_;clear Y X))
  go_simp
def c1y (l:List Tk) (s:ByteArray) (j:Nat) : Bool:=decide ((d8_ l j).car=s)
def a0v (l:List Tk) (s:ByteArray) : Int:=ixP (c1y l s) 0 l.length
theorem c1z (x:Tk) (s:ByteArray) : VC Tryd.prog 122 [.agg [S x.car,I x.rank,I x.time],.vp [S s]] (B (decide (x.car=s))):=by
 refine c0_ Tryd.func122 rfl (by kernel_rfl) (by kernel_rfl) rfl fun M0 w0=>?_;simp only [Tryd.ntmps122,Tryd.results122,b5_];repeat' first|(with_reducible first|apply a9_|apply a3_|apply c5_|apply a1_|refine a2_ [] ?_)|((with_reducible refine a0_ fun X Y=>?_);go_simp;refine Y _ ?_;clear Y X)
 go_simp
theorem c2a (l:List Tk) (s:ByteArray) (hl:l.length≤1000000) : VC Tryd.prog 121 [.sl 3 (l.map Tk.av),.fn (.func 122) [] [.vp [S s]]] (I (a0v l s)):=by
 obtain ⟨R,hR⟩ : ∃ R,a0v l s=R:=⟨_,rfl⟩
 rw [hR];unfold a0v at hR;have HR:=Lib.hid hR;clear hR;refine c0_ Tryd.func121 rfl (by kernel_rfl) (by kernel_rfl) rfl fun M0 w0=>?_;simp only [Tryd.ntmps121,Tryd.results121,b5_];repeat' first|(with_reducible first|apply a9_|apply a3_|apply a8_|apply a1_|refine a2_ [] ?_)|((with_reducible refine a0_ fun X Y=>?_);go_simp;refine Y _ ?_;clear Y X)
 apply y4_ [0,1,7] (fun k=>[(8,I k)]) (fun k=>([] : Hp)) (c1y l s) (l.length)
 ·go_simp<;>exact rfl
 ·go_simp
 ·intro k hk HB HP K hK;obtain ⟨w1,w2,w3,w4,w5,w6⟩:=ixs (m:=k) (by omega);have g:=c1z (d8_ l k) s;have hp:=HP.out;unfold c1y at hp;rw [hp] at g;clear hp;repeat' first|(with_reducible first|apply a9_|apply a3_|apply b0_|apply a8_|apply b1_|apply a1_|refine a2_ [] ?_)|((with_reducible refine a7_ ?_ ?_);(focus (go_simp;done)))|((with_reducible refine a6_ ?_ ?_);(focus (go_simp;done)))|((with_reducible refine a0_ fun X Y=>?_);go_simp;(first|(refine ⟨_,g,?_⟩)|skip);refine Y _ ?_;clear Y X)
  refine hK _ ?_;go_simp
 ·intro k hk HB HP K;have g:=c1z (d8_ l k) s;have hp:=HP.out;unfold c1y at hp;rw [hp] at g;clear hp;have e:=HR.out;rw [n0_ hk HB.out HP.out] at e;subst e;repeat' first|(with_reducible first|apply a9_|apply a3_|apply b4_|apply c5_|apply b0_|apply a8_|apply c2_|apply a1_|refine a2_ [] ?_)|((with_reducible refine a7_ ?_ ?_);(focus (go_simp;done)))|((with_reducible refine a0_ fun X Y=>?_);go_simp;(first|(refine ⟨_,g,?_⟩)|skip);refine Y _ ?_;clear Y X)
  go_simp
 ·intro HB K;have e:=HR.out;rw [p7_ HB.out] at e;subst e;repeat (first|(with_reducible first|apply a9_|apply a3_|apply b8_|apply c5_|apply d4_|apply b7_|apply a1_|refine a2_ [] ?_)|((with_reducible refine a6_ ?_ ?_);(focus (go_simp;done)))|((with_reducible refine a0_ fun X Y=>?_);go_simp;refine Y _ ?_;clear Y X))
  go_simp
theorem a0e (r:Ru) (s:St) (mv:List Sg) (car:ByteArray) (hl:s.tk.length≤1000000) : VC Tryd.prog 116 [b7i r s mv,S car] (I (a0v s.tk car)):=by
 have g:=c2a s.tk car hl;generalize a0v s.tk car=E at *;refine c0_ Tryd.func116 rfl (by kernel_rfl) (by kernel_rfl) rfl fun M0 w0=>?_;simp only [Tryd.ntmps116,Tryd.results116,b5_];repeat' first|(with_reducible first|apply a9_|apply a3_|apply c5_|apply a1_|refine a2_ [] ?_)|((with_reducible refine a0_ fun X Y=>?_);go_simp;(first|(refine ⟨_,g,?_⟩)|skip);refine Y _ ?_;clear Y X)
 go_simp
def q8_ (q:List ByteArray) (car:ByteArray) : Int:=if q.length=0 then 12 else unl (decide (tat q 0=car)) 13
theorem a2v (r:Ru) (s:St) (mv:List Sg) (x:Ev) (k:Nat) (hx:x.rank=k) (hk:k < s.q.length) : VC Tryd.prog 118 [b7i r s mv,evA x] (I (q8_ (qat s.q k) x.car)):=by
 unfold q8_;by_cases h0:(qat s.q k).length=0
 ·rw [if_pos h0];refine c0_ Tryd.func118 rfl (by kernel_rfl) (by kernel_rfl) rfl fun M0 w0=>?_;simp only [Tryd.ntmps118,Tryd.results118,b5_];repeat' first|(with_reducible first|apply a9_|apply a3_|apply b4_|apply c5_|apply a1_|refine a2_ [] ?_|apply a5_)|((with_reducible refine a7_ ?_ ?_);(focus (go_simp;done)))|((with_reducible first|refine a0_ fun X Y=>?_|refine a4_ fun X Y=>?_);go_simp;refine Y _ ?_;clear Y X)|((refine b6_ 10 10 [] rfl (by kernel_rfl) (by kernel_rfl) ?_);simp only [List.take,List.drop])
  go_simp
 ·rw [if_neg h0];have hp:0 < (qat s.q k).length:=by omega
  have g:=b3_ (decide (tat (qat s.q k) 0=x.car)) 13;have ht:=e7_ hp;generalize unl (decide (tat (qat s.q k) 0=x.car)) 13=E at *;rw [ht] at g;refine c0_ Tryd.func118 rfl (by kernel_rfl) (by kernel_rfl) rfl fun M0 w0=>?_;simp only [Tryd.ntmps118,Tryd.results118,b5_];repeat' first|(with_reducible first|apply a9_|apply a3_|apply c5_|apply b0_|apply a1_|refine a2_ [] ?_|apply a5_)|((with_reducible refine a6_ ?_ ?_);(focus (go_simp;done)))|((with_reducible first|refine a0_ fun X Y=>?_|refine a4_ fun X Y=>?_);go_simp;(first|(with_reducible refine ⟨_,g,?_⟩)|skip);refine Y _ ?_;clear Y X)|((refine b6_ 8 8 [] rfl (by kernel_rfl) (by kernel_rfl) ?_);simp only [List.take,List.drop])|((refine b6_ 10 10 [] rfl (by kernel_rfl) (by kernel_rfl) ?_);simp only [List.take,List.drop])
  go_simp
end Go.Proofs.YtoibondihdhnoaaDoor
