/- Texts in one: Walks on rows of texts: copies, several rows behind one another. -/
import Derived.Test.YtoibondihdhnoaaGreatDoorFRF8
import Derived.Test.YtoibondihdhnoaaGreatDoorFRF14
import Derived.Test.YtoibondihdhnoaaGreatDoorFRF12
import Derived.Test.YtoibondihdhnoaaGreatDoorFRF1
namespace Go.Proofs.YtoibondihdhnoaaGreatDoor
open Go.RowKit
set_option maxRecDepth 100000
set_option maxHeartbeats 2000000
def e4_ (r:Ru) (s:St) (mv:List Sg) (n1 n2:Bool) : Hp:=
 [some (.box [.osl 1,.osl 2,I s.time,.sl 4 (r.ranks.map Rk.av),I r.back,I r.ret,.osl 3]),some (.bag 62 1 false none (c8_ s.q)),some (.arr 148 3 n1 (s.tk.map Tk.av)),some (.arr 45 3 n2 (mv.map Sg.av))]
theorem a0m (l:List ByteArray) (c:ByteArray) : l.map i7_++[[S c]]=(l++[c]).map i7_:=by simp [i7_]
theorem a0w (l:List ByteArray) : (l.map i7_).tail=l.tail.map i7_:=List.map_tail.symm
def upQ (q:List (List ByteArray)) (k f:Nat) : List (List ByteArray):=(q.set f (qat q f).tail).set k (qat q k++[tat (qat q f) 0])
def upM (q:List (List ByteArray)) (k f:Nat) : List Sg:=[⟨3,f,tat (qat q f) 0⟩,⟨0,k,tat (qat q f) 0⟩]
theorem c2b {q:List (List ByteArray)} {k f:Nat} : ((c8_ q).set f ((qat q f).map i7_).tail).set k ((qat q k).map i7_++[[S (tat (qat q f) 0)]])=c8_ (upQ q k f):=by
 rw [a0m,a0w,h8_,h8_];rfl
theorem d3h (r:Ru) (s:St) (mv:List Sg) (n1 n2:Bool) (k f:Nat) (hk:k < s.q.length) (hr:r.ranks.length=s.q.length) (hf:(rat r.ranks k).feeder=f) (hfl:f < s.q.length) (hne:f≠k) (hp:0 < (qat s.q f).length) (hq:(qat s.q k).length+1≤1000000000) (hm:mv.length+2≤1000000000) :
  VH Tryz.prog 157 (e4_ r s mv n1 n2) [.ref 0 0,I (k:Int)] [0] (e4_ r ⟨upQ s.q k f,s.tk,s.time⟩ (mv++upM s.q k f) n1 false) (.tup []):=by
 have hk2:k < r.ranks.length:=by omega
 have ht:=h9_ hp;have hp1:1≤(qat s.q f).length:=hp;refine g1_ Tryz.func157 rfl (by kernel_rfl) rfl (fun _=>by kernel_rfl) fun M0 w0 vs=>?_;simp only [Tryz.ntmps157,Tryz.results157,b1_];unfold e4_;repeat' with_reducible apply a8_
 refine a2_ [] ?_;repeat' first|(with_reducible first|apply a8_|apply a3_|apply a1_)|((with_reducible refine a0_ fun X Y=>?_);go_simp;refine Y _ ?_;clear Y X)
 refine a2_ [] ?_;repeat' first|(with_reducible first|apply a8_|apply a3_|apply a1_)|((with_reducible refine a0_ fun X Y=>?_);go_simp;refine Y _ ?_;clear Y X)
 refine a5h 16 [] (by kernel_rfl) (by kernel_rfl) ?_;simp only [List.take,List.drop];repeat' first|(with_reducible first|apply a8_|apply a3_|apply a1_|apply a6_)|((with_reducible first|refine a0_ fun X Y=>?_|refine a4_ fun X Y=>?_);go_simp;refine Y _ ?_;clear Y X)
 refine w8_ 16 [0,41,41,42,42,43,43,44,44,45,1,46] (by kernel_rfl) (by kernel_rfl) (by kernel_rfl) (unW 1) (r2_ 1) rfl ⟨rfl,rfl⟩ ?_;simp only [List.take];repeat' first|with_reducible apply a6_|((with_reducible refine a4_ fun X Y=>?_);go_simp;refine Y _ ?_;clear Y X)
 refine ⟨_,_,a5j (id:=1) (k:=k) (es:=(qat s.q k).map i7_) (c:=S (tat (qat s.q f) 0)) (by exact rfl) (by exact rfl) (by go_simp) (by go_simp) c8i ti9 (by exact rfl) (by go_simp),?_,?_,?_⟩
 ·simp only [List.forall_mem_cons];go_simp
 ·repeat' first|with_reducible apply a6_|((with_reducible refine a4_ fun X Y=>?_);go_simp;refine Y _ ?_;clear Y X)
  simp only [List.forall_mem_cons];go_simp
 go_simp;refine c3_ [] 2 ⟨rfl,rfl⟩ ?_;simp only [List.take,List.drop];repeat' first|with_reducible apply a1_|((with_reducible refine a0_ fun X Y=>?_);go_simp;refine Y _ ?_;clear Y X)
 apply d5_;repeat' with_reducible apply a3_
 refine a2_ [] ?_;repeat' first|with_reducible apply a1_|((with_reducible refine a0_ fun X Y=>?_);go_simp;refine Y _ ?_;clear Y X)
 go_simp;refine ⟨?_,?_⟩
 ·rw [←ht];exact c2b
 ·simp [upM,ht,Sg.av]
set_option maxHeartbeats 1000000
theorem c9g (n:Nat) (hn:n≤100000) : VCo Tryz.prog 236 [.lit (.slice none 0 0),I n] 9 1 (decide (n=0)) []:=by
 refine ⟨by kernel_rfl,by decide,fun k x hk=>by simp at hk,?_⟩;intro w M vs hM hvl hv;obtain ⟨v1,v2,rfl⟩ : ∃ v1 v2,vs=[v1,v2]:=by
  rcases vs with _|⟨v,_|⟨v2,_|⟨_,_⟩⟩⟩
  ·simp at hvl
  ·simp at hvl
  ·exact ⟨v,v2,rfl⟩
  ·simp at hvl
 obtain rfl:=V0.lit_inv (hv 0 _ _ rfl rfl);obtain rfl:=V0.lit_inv (hv 1 _ _ rfl rfl);by_cases h0:n=0
 ·subst h0;have hcon:=Any8.slices_Grow_room a6k none 0 0 0 w (by omega) (by omega) (by omega) (by omega);change Calls Tryz.prog 236 _ _ _ at hcon;refine hcon.mono ?_;rintro en w' ⟨rfl,rfl⟩;exact ⟨_,rfl,Below.refl _ _,⟨none,rfl⟩,rfl⟩
 ·obtain ⟨d,i0,z,hd,hi,hz,h1z,hti⟩:=c2_ ti9;injection hti with q1 q2 q3 q4 q5 q6 q7 q8 q9
  have hsz:z.cells.size=1:=by
   rw [←Array.length_toList,←q9];rfl
  have hcon:=Any8.slices_Grow_grow a6k i0 z hi hz (by omega) none 0 0 n [] w (by omega) (by omega) (by rw [←q3];omega) (by omega) (by simp) (fun _=>rfl) (fun a h=>by cases h);change Calls Tryz.prog 236 _ _ _ at hcon;refine hcon.mono ?_;rintro en w' ⟨rfl,rfl⟩;have g1:=grownCap_ge w n 0 9;have g2:=grownCap_le_maxLen w n 0 9 (by simp only [maxLen];omega);have e25:growLays_ren.t 25=9:=rfl;rw [e25] at *;simp only [Nat.zero_add] at *;generalize grownCap w n 0 9=G at *;refine ⟨_,rfl,?_,?_⟩
  ·exact a2z (show Below w.heap.size w w.drew from ⟨rfl,rfl,rfl,Nat.le_refl _,fun _ _=>rfl⟩) _
  ·unfold OwnRow;rw [if_neg (by simpa using h0)];refine ⟨w.heap.size,G,_,rfl,Nat.le_refl _,heap_alloc_new w.drew _,?_,Nat.zero_le _,g2,fun k x j c hk=>by simp at hk⟩;simp [Builtin.zeroCells,hsz];omega
theorem c5v:VC Tryz.prog 236 [.lit (.slice none 0 0),I 0] (.lit (.slice none 0 0)):=by
 refine ⟨by kernel_rfl,fun w M vs hM hvl hv=>?_⟩;obtain ⟨v1,v2,rfl⟩ : ∃ v1 v2,vs=[v1,v2]:=by
  rcases vs with _|⟨v,_|⟨v2,_|⟨_,_⟩⟩⟩
  ·simp at hvl
  ·simp at hvl
  ·exact ⟨v,v2,rfl⟩
  ·simp at hvl
 obtain rfl:=V0.lit_inv (hv 0 _ _ rfl rfl);obtain rfl:=V0.lit_inv (hv 1 _ _ rfl rfl);have hcon:=Any8.slices_Grow_room a6k none 0 0 0 w (by omega) (by omega) (by omega) (by omega);change Calls Tryz.prog 236 _ _ _ at hcon;refine hcon.mono ?_;rintro en w' ⟨rfl,rfl⟩;exact ⟨_,rfl,Below.refl _ _,.lit _⟩
theorem c5w {P:Program} {f:FuncId} {args:List AV} {e sz:Nat} (h:VC P f args (.lit (.slice none 0 0))) (hsz:0 < sz) : VCo P f args e sz true []:=
 ⟨h.1,hsz,fun k x hk=>by simp at hk,fun w M vs hM hl hv=>(h.2 w M vs hM hl hv).mono fun en w' ⟨v,he,hb,hr⟩=>⟨v,he,hb,⟨none,V0.lit_inv hr⟩,rfl⟩⟩
def a8m (L:List (List (List AV))) (k:Nat) : Nat:=(L.take k).flatten.length
def a5b (L:List (List (List AV))) (k:Nat) : List (List AV):=(L.take k).flatten
theorem a5k {L:List (List (List AV))} {k:Nat} (h:k < L.length) : a5b L (k+1)=a5b L k++L[k]:=by
 unfold a5b;rw [List.take_succ_eq_append_getElem h,List.flatten_append];simp
theorem a8n {L:List (List (List AV))} {k:Nat} (h:k < L.length) : a8m L (k+1)=a8m L k+L[k].length:=by
 have:=congrArg List.length (a5k h);simpa [a8m,a5b] using this
theorem b7a {L:List (List (List AV))} : a5b L L.length=L.flatten:=by simp [a5b]
theorem b7b {L:List (List (List AV))} {k:Nat} : a8m L k≤L.flatten.length:=by
 unfold a8m;have:L.flatten=(L.take k).flatten++(L.drop k).flatten:=by rw [←List.flatten_append,List.take_append_drop]
 rw [this,List.length_append];omega
abbrev c5x (L:List (List (List AV))) : AV:=.sl 1 (L.map fun l=>[.sl 1 l])
theorem b7c (L:List (List (List AV))) (h1:∀ x∈L.flatten,x.length=1∧∀ c∈x,f5_ c=true) (hn:L.flatten.length≤100000) (hl:L.length≤1000) (h0:0 < L.flatten.length) : VCo Tryz.prog 233 [c5x L] 9 1 false L.flatten:=by
 obtain ⟨n,hen⟩ : ∃ n,L.flatten.length=n:=⟨_,rfl⟩
 have hsl:∀ k,a8m L k≤n:=fun k=>by rw [←hen];exact b7b
 have hflat:a8m L L.length=n:=by rw [←hen];simp [a8m]
 rw [hen] at hn h0;have HG:=Lib.hid (c9g n hn);have H1:=Lib.hid h1;have HN:=Lib.hid hn;have HS:=Lib.hid hsl;clear hsl hen;have HF:=Lib.hid hflat;have hs0:a8m L 0=0:=rfl;clear h1 hn hflat;refine b0p Tryz.func233 rfl (by kernel_rfl) (by kernel_rfl) rfl Tryz.results233 (by decide) (fun k x hx=>H1.out x (List.mem_of_getElem? hx)) fun M0 w0=>?_;simp only [Tryz.ntmps233,b1_];repeat' first|(with_reducible first|apply a8_|apply a3_|apply a9_|apply a1_|refine a2_ [] ?_)|((with_reducible refine a0_ fun X Y=>?_);go_simp;refine Y _ ?_;clear Y X)
 apply b6q [0,9,10] (fun k=>[(11,I (k:Int)),(3,I (a8m L k:Int))]) (fun k=>([] : Hp))  (L.length)
 ·go_simp<;>exact rfl
 ·go_simp
 ·intro k hk K hK;obtain ⟨w1,w2,w3,w4,w5,w6⟩:=ixs (m:=k) (by omega);have e1:=a8n hk;have e2:=HS.out (k+1);have hb:a8m L k+L[k].length≤100000:=by have:=HN.out;omega
  have hw:=g8_ (x:=(a8m L k:Int)+(L[k].length:Int)) (by omega) (by omega);have hno:¬((a8m L k:Int)+(L[k].length:Int) < 0):=by omega
  have e3:(a8m L (k+1) : Int)=(a8m L k:Int)+(L[k].length:Int):=by rw [e1,Int.natCast_add]
  have E3:=Lib.hid e3;clear e1 e2 e3 hb;repeat' first|(with_reducible first|apply a8_|apply a3_|apply b0_|apply a9_|apply b3_|apply a1_|refine a2_ [] ?_)|((with_reducible refine a7_ ?_ ?_);(focus (go_simp;done)))|((with_reducible refine a5_ ?_ ?_);(focus (go_simp;done)))|((with_reducible refine a0_ fun X Y=>?_);go_simp;refine Y _ ?_;clear Y X)
  refine hK _ ?_;rw [E3.out];go_simp
 ·intro K;have e:=HF.out;have hg:=HG.out;rw [show decide (n=0)=false from decide_eq_false (by omega)] at hg;rw [e];clear e;have hz0:a5b L 0=[]:=rfl;repeat' first|(with_reducible first|apply a8_|apply a3_|apply c4_|apply d9_|apply a9_|apply b6_|apply a1_|refine a2_ [24] ?_)|((with_reducible refine a5_ ?_ ?_);(focus (go_simp;done)))|((with_reducible refine a0_ fun X Y=>?_);go_simp;(first|(refine ⟨_,_,.inl ⟨_,hg,?_⟩⟩)|skip);refine Y _ ?_;clear Y X)
  apply b6q [25,26] (fun k=>[(27,I (k:Int)),(6,.osl 0)]) (fun k=>([some (.arr 9 1 false (a5b L k))] : Hp))  (L.length)
  ·go_simp<;>exact rfl
  ·go_simp
  ·intro k hk K hK;obtain ⟨w1,w2,w3,w4,w5,w6⟩:=ixs (m:=k) (by omega);have e1:=Lib.hid (a5k hk);have hb:(a5b L k).length+L[k].length≤1000000000:=by
    have h2:=a8n hk;have h3:=HS.out (k+1);have:=HN.out;unfold a8m at h2 h3;unfold a5b;omega
   repeat' first|(with_reducible first|apply a8_|apply a3_|apply b0_|apply a9_|apply b3_|apply a1_|refine a2_ [] ?_)|((with_reducible refine a7_ ?_ ?_);(focus (go_simp;done)))|((with_reducible refine a0_ fun X Y=>?_);go_simp;refine Y _ ?_;clear Y X)
   refine hK _ ?_;rw [e1.out];go_simp
  ·intro K;rw [b7a];repeat' first|(with_reducible first|apply a8_|apply a3_|apply c4_|apply c1_|apply d9_|apply b6_|apply a1_|refine a2_ [] ?_)|((with_reducible refine a5_ ?_ ?_);(focus (go_simp;done)))|((with_reducible refine a0_ fun X Y=>?_);go_simp;refine Y _ ?_;clear Y X)
   exact ⟨0,rfl,rfl⟩
theorem b7d (L:List (List (List AV))) (hl:L.length≤1000) (h0:L.flatten.length=0) : VC Tryz.prog 233 [c5x L] (.lit (.slice none 0 0)):=by
 have hsum:∀ k,a8m L k=0:=fun k=>by have:=b7b (L:=L) (k:=k);omega
 have hnil:∀ k (h:k < L.length),L[k]=[]:=fun k h=>by
  have:=List.length_eq_zero_iff.1 h0;rw [List.flatten_eq_nil_iff] at this;exact this _ (List.getElem_mem h)
 have HN:=Lib.hid hnil;clear hnil h0;have hw0:IntKind.i64.wrap 0=0:=rfl;obtain ⟨d,i0,z,hd,hi,hz,h1z,hti⟩:=c2_ ti9;refine b7_ Tryz.func233 rfl (by kernel_rfl) (by kernel_rfl) rfl fun M0 w0=>?_;simp only [Tryz.ntmps233,Tryz.results233,b1_];repeat' first|(with_reducible first|apply a8_|apply a3_|apply a9_|apply a1_|refine a2_ [] ?_)|((with_reducible refine a0_ fun X Y=>?_);go_simp;refine Y _ ?_;clear Y X)
 apply b6q [0,9,10] (fun k=>[(11,I (k:Int)),(3,I 0)]) (fun k=>([] : Hp))  (L.length)
 ·go_simp<;>exact rfl
 ·go_simp
 ·intro k hk K hK;obtain ⟨w1,w2,w3,w4,w5,w6⟩:=ixs (m:=k) (by omega);have e:=HN.out k hk;repeat' first|(with_reducible first|apply a8_|apply a3_|apply b0_|apply a9_|apply b3_|apply a1_|refine a2_ [] ?_)|((with_reducible refine a7_ ?_ ?_);(focus (go_simp;done)))|((with_reducible refine a5_ ?_ ?_);(focus (go_simp;done)))|((with_reducible refine a0_ fun X Y=>?_);go_simp;refine Y _ ?_;clear Y X)
  refine hK _ ?_;go_simp
 ·intro K;repeat' first|(with_reducible first|apply a8_|apply a3_|apply c4_|apply d9_|apply a9_|apply b6_|apply a1_|refine a2_ [] ?_)|((with_reducible refine a5_ ?_ ?_);(focus (go_simp;done)))|((with_reducible refine a0_ fun X Y=>?_);go_simp;(first|(refine ⟨_,c5v,?_⟩)|skip);refine Y _ ?_;clear Y X)
  apply b6q [25,26] (fun k=>[(27,I (k:Int)),(6,.lit (.slice none 0 0))]) (fun k=>([] : Hp))  (L.length)
  ·go_simp<;>exact rfl
  ·go_simp
  ·intro k hk K hK;obtain ⟨w1,w2,w3,w4,w5,w6⟩:=ixs (m:=k) (by omega);have e:=HN.out k hk;repeat' with_reducible apply a8_
   refine a2_ [] ?_;repeat' first|(with_reducible first|apply a8_|apply a3_|apply b0_|apply a9_|apply a1_)|((with_reducible refine a7_ ?_ ?_);(focus (go_simp;done)))|((with_reducible refine a0_ fun X Y=>?_);go_simp;refine Y _ ?_;clear Y X)
   refine a2_ [] ?_;repeat' first|(with_reducible first|apply a3_|apply a1_)|((with_reducible refine a0_ fun X Y=>?_);go_simp;refine Y _ ?_;clear Y X)
   refine c7_ (c3_ [] 2 ⟨rfl,rfl⟩ ?_);simp only [List.take,List.drop];repeat' first|with_reducible apply a1_|((with_reducible refine a0_ fun X Y=>?_);go_simp;refine Y _ ?_;clear Y X)
   refine c5u (sz:=1) ⟨rfl,rfl,rfl⟩ Tryz.underlying62 hi (by go_simp) (by go_simp) ?_;refine c3_ [] 1 ⟨rfl,rfl⟩ ?_;simp only [List.take,List.drop];repeat' first|with_reducible apply a1_|((with_reducible refine a0_ fun X Y=>?_);go_simp;refine Y _ ?_;clear Y X)
   apply d5_;repeat' with_reducible first|apply a3_|apply b3_
   refine a2_ [] ?_;repeat' first|(with_reducible first|apply a3_|apply a1_)|((with_reducible refine a0_ fun X Y=>?_);go_simp;refine Y _ ?_;clear Y X)
   refine hK _ ?_;go_simp
  ·intro K;repeat' first|(with_reducible first|apply a8_|apply a3_|apply c4_|apply c1_|apply d9_|apply b6_|apply a1_|refine a2_ [] ?_)|((with_reducible refine a5_ ?_ ?_);(focus (go_simp;done)))|((with_reducible refine a0_ fun X Y=>?_);go_simp;refine Y _ ?_;clear Y X)
   go_simp
theorem b2w (L:List (List (List AV))) (h1:∀ x∈L.flatten,x.length=1∧∀ c∈x,f5_ c=true) (hn:L.flatten.length≤100000) (hl:L.length≤1000) : VCo Tryz.prog 233 [c5x L] 9 1 (decide (L.flatten.length=0)) L.flatten:=by
 by_cases h0:L.flatten.length=0
 ·rw [decide_eq_true h0,List.length_eq_zero_iff.1 h0];exact c5w (b7d L hl h0) (by decide)
 ·rw [decide_eq_false h0];exact b7c L h1 hn hl (by omega)
end Go.Proofs.YtoibondihdhnoaaGreatDoor
