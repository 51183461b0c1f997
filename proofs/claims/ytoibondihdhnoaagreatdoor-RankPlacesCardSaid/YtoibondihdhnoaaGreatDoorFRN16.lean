/- Texts in one: Walks on rows of texts: copies, several rows behind one another. -/
import Derived.Test.YtoibondihdhnoaaGreatDoorFRN8
import Derived.Test.YtoibondihdhnoaaGreatDoorFRN14
import Derived.Test.YtoibondihdhnoaaGreatDoorFRN12
import Derived.Test.YtoibondihdhnoaaGreatDoorFRN1
namespace Go.Proofs.YtoibondihdhnoaaGreatDoor
open Go.RowKit
set_option maxRecDepth 100000
set_option maxHeartbeats 2000000
def e4_ (r:Ru) (s:St) (mv:List Sg) (n1 n2:Bool) : Hp:=
 [some (.box [.osl 1,.osl 2,I s.time,.sl 4 (r.ranks.map Rk.av),I r.back,I r.ret,.osl 3]),some (.bag 62 1 false none (f3_ s.q)),some (.arr 148 3 n1 (s.tk.map Tk.av)),some (.arr 45 3 n2 (mv.map Sg.av))]
theorem a3k (l:List ByteArray) (c:ByteArray) : l.map n5_++[[S c]]=(l++[c]).map n5_:=by simp [n5_]
theorem a2y (l:List ByteArray) : (l.map n5_).tail=l.tail.map n5_:=List.map_tail.symm
def upQ (q:List (List ByteArray)) (k f:Nat) : List (List ByteArray):=(q.set f (qat q f).tail).set k (qat q k++[tat (qat q f) 0])
def upM (q:List (List ByteArray)) (k f:Nat) : List Sg:=[⟨3,f,tat (qat q f) 0⟩,⟨0,k,tat (qat q f) 0⟩]
theorem c2b {q:List (List ByteArray)} {k f:Nat} : ((f3_ q).set f ((qat q f).map n5_).tail).set k ((qat q k).map n5_++[[S (tat (qat q f) 0)]])=f3_ (upQ q k f):=by
 rw [a3k,a2y,i2_,i2_];rfl
theorem d2z (r:Ru) (s:St) (mv:List Sg) (n1 n2:Bool) (k f:Nat) (hk:k < s.q.length) (hr:r.ranks.length=s.q.length) (hf:(rat r.ranks k).feeder=f) (hfl:f < s.q.length) (hne:f≠k) (hp:0 < (qat s.q f).length) (hq:(qat s.q k).length+1≤1000000000) (hm:mv.length+2≤1000000000) :
  VH Tryz.prog 157 (e4_ r s mv n1 n2) [.ref 0 0,I (k:Int)] [0] (e4_ r ⟨upQ s.q k f,s.tk,s.time⟩ (mv++upM s.q k f) n1 false) (.tup []):=by
 have hk2:k < r.ranks.length:=by omega
 have ht:=c9_ hp;have hp1:1≤(qat s.q f).length:=hp;refine g4_ Tryz.func157 rfl (by kernel_rfl) rfl (fun _=>by kernel_rfl) fun M0 w0 vs=>?_;simp only [Tryz.ntmps157,Tryz.results157,b4_];unfold e4_;repeat' with_reducible apply a8_
 refine a2_ [] ?_;repeat' first|(with_reducible first|apply a8_|apply a3_|apply a1_)|((with_reducible refine a0_ fun X Y=>?_);go_simp;refine Y _ ?_;clear Y X)
 refine a2_ [] ?_;repeat' first|(with_reducible first|apply a8_|apply a3_|apply a1_)|((with_reducible refine a0_ fun X Y=>?_);go_simp;refine Y _ ?_;clear Y X)
 refine a2v 16 [] (by kernel_rfl) (by kernel_rfl) ?_;simp only [List.take,List.drop];repeat' first|(with_reducible first|apply a8_|apply a3_|apply a1_|apply a5_)|((with_reducible first|refine a0_ fun X Y=>?_|refine a4_ fun X Y=>?_);go_simp;refine Y _ ?_;clear Y X)
 refine y9_ 16 [0,41,41,42,42,43,43,44,44,45,1,46] (by kernel_rfl) (by kernel_rfl) (by kernel_rfl) (unW 1) (r1_ 1) rfl ⟨rfl,rfl⟩ ?_;simp only [List.take];repeat' first|with_reducible apply a5_|((with_reducible refine a4_ fun X Y=>?_);go_simp;refine Y _ ?_;clear Y X)
 refine ⟨_,_,a8h (id:=1) (k:=k) (es:=(qat s.q k).map n5_) (c:=S (tat (qat s.q f) 0)) (by exact rfl) (by exact rfl) (by go_simp) (by go_simp) d0v ti9 (by exact rfl) (by go_simp),?_,?_,?_⟩
 ·simp only [List.forall_mem_cons];go_simp
 ·repeat' first|with_reducible apply a5_|((with_reducible refine a4_ fun X Y=>?_);go_simp;refine Y _ ?_;clear Y X)
  simp only [List.forall_mem_cons];go_simp
 go_simp;refine c0_ [] 2 ⟨rfl,rfl⟩ ?_;simp only [List.take,List.drop];repeat' first|with_reducible apply a1_|((with_reducible refine a0_ fun X Y=>?_);go_simp;refine Y _ ?_;clear Y X)
 apply d6_;repeat' with_reducible apply a3_
 refine a2_ [] ?_;repeat' first|with_reducible apply a1_|((with_reducible refine a0_ fun X Y=>?_);go_simp;refine Y _ ?_;clear Y X)
 go_simp;refine ⟨?_,?_⟩
 ·rw [←ht];exact c2b
 ·simp [upM,ht,Sg.av]
set_option maxHeartbeats 1000000
theorem c9j (n:Nat) (hn:n≤100000) : VCo Tryz.prog 236 [.lit (.slice none 0 0),I n] 9 1 (decide (n=0)) []:=by
 refine ⟨by kernel_rfl,by decide,fun k x hk=>by simp at hk,?_⟩;intro w M vs hM hvl hv;obtain ⟨v1,v2,rfl⟩ : ∃ v1 v2,vs=[v1,v2]:=by
  rcases vs with _|⟨v,_|⟨v2,_|⟨_,_⟩⟩⟩
  ·simp at hvl
  ·simp at hvl
  ·exact ⟨v,v2,rfl⟩
  ·simp at hvl
 obtain rfl:=V0.lit_inv (hv 0 _ _ rfl rfl);obtain rfl:=V0.lit_inv (hv 1 _ _ rfl rfl);by_cases h0:n=0
 ·subst h0;have hcon:=Any8.slices_Grow_room a6f none 0 0 0 w (by omega) (by omega) (by omega) (by omega);change Calls Tryz.prog 236 _ _ _ at hcon;refine hcon.mono ?_;rintro en w' ⟨rfl,rfl⟩;exact ⟨_,rfl,Below.refl _ _,⟨none,rfl⟩,rfl⟩
 ·obtain ⟨d,i0,z,hd,hi,hz,h1z,hti⟩:=c1_ ti9;injection hti with q1 q2 q3 q4 q5 q6 q7 q8 q9
  have hsz:z.cells.size=1:=by
   rw [←Array.length_toList,←q9];rfl
  have hcon:=Any8.slices_Grow_grow a6f i0 z hi hz (by omega) none 0 0 n [] w (by omega) (by omega) (by rw [←q3];omega) (by omega) (by simp) (fun _=>rfl) (fun a h=>by cases h);change Calls Tryz.prog 236 _ _ _ at hcon;refine hcon.mono ?_;rintro en w' ⟨rfl,rfl⟩;have g1:=grownCap_ge w n 0 9;have g2:=grownCap_le_maxLen w n 0 9 (by simp only [maxLen];omega);have e25:growLays_ren.t 25=9:=rfl;rw [e25] at *;simp only [Nat.zero_add] at *;generalize grownCap w n 0 9=G at *;refine ⟨_,rfl,?_,?_⟩
  ·exact x5_ (show Below w.heap.size w w.drew from ⟨rfl,rfl,rfl,Nat.le_refl _,fun _ _=>rfl⟩) _
  ·unfold OwnRow;rw [if_neg (by simpa using h0)];refine ⟨w.heap.size,G,_,rfl,Nat.le_refl _,heap_alloc_new w.drew _,?_,Nat.zero_le _,g2,fun k x j c hk=>by simp at hk⟩;simp [Builtin.zeroCells,hsz];omega
theorem c5v:VC Tryz.prog 236 [.lit (.slice none 0 0),I 0] (.lit (.slice none 0 0)):=by
 refine ⟨by kernel_rfl,fun w M vs hM hvl hv=>?_⟩;obtain ⟨v1,v2,rfl⟩ : ∃ v1 v2,vs=[v1,v2]:=by
  rcases vs with _|⟨v,_|⟨v2,_|⟨_,_⟩⟩⟩
  ·simp at hvl
  ·simp at hvl
  ·exact ⟨v,v2,rfl⟩
  ·simp at hvl
 obtain rfl:=V0.lit_inv (hv 0 _ _ rfl rfl);obtain rfl:=V0.lit_inv (hv 1 _ _ rfl rfl);have hcon:=Any8.slices_Grow_room a6f none 0 0 0 w (by omega) (by omega) (by omega) (by omega);change Calls Tryz.prog 236 _ _ _ at hcon;refine hcon.mono ?_;rintro en w' ⟨rfl,rfl⟩;exact ⟨_,rfl,Below.refl _ _,.lit _⟩
theorem c5w {P:Program} {f:FuncId} {args:List AV} {e sz:Nat} (h:VC P f args (.lit (.slice none 0 0))) (hsz:0 < sz) : VCo P f args e sz true []:=
 ⟨h.1,hsz,fun k x hk=>by simp at hk,fun w M vs hM hl hv=>(h.2 w M vs hM hl hv).mono fun en w' ⟨v,he,hb,hr⟩=>⟨v,he,hb,⟨none,V0.lit_inv hr⟩,rfl⟩⟩
def a8i (L:List (List (List AV))) (k:Nat) : Nat:=(L.take k).flatten.length
def a4s (L:List (List (List AV))) (k:Nat) : List (List AV):=(L.take k).flatten
theorem a5d {L:List (List (List AV))} {k:Nat} (h:k < L.length) : a4s L (k+1)=a4s L k++L[k]:=by
 unfold a4s;rw [List.take_succ_eq_append_getElem h,List.flatten_append];simp
theorem a8j {L:List (List (List AV))} {k:Nat} (h:k < L.length) : a8i L (k+1)=a8i L k+L[k].length:=by
 have:=congrArg List.length (a5d h);simpa [a8i,a4s] using this
theorem b7d {L:List (List (List AV))} : a4s L L.length=L.flatten:=by simp [a4s]
theorem b7e {L:List (List (List AV))} {k:Nat} : a8i L k≤L.flatten.length:=by
 unfold a8i;have:L.flatten=(L.take k).flatten++(L.drop k).flatten:=by rw [←List.flatten_append,List.take_append_drop]
 rw [this,List.length_append];omega
abbrev c5x (L:List (List (List AV))) : AV:=.sl 1 (L.map fun l=>[.sl 1 l])
theorem b7f (L:List (List (List AV))) (h1:∀ x∈L.flatten,x.length=1∧∀ c∈x,f7_ c=true) (hn:L.flatten.length≤100000) (hl:L.length≤1000) (h0:0 < L.flatten.length) : VCo Tryz.prog 233 [c5x L] 9 1 false L.flatten:=by
 obtain ⟨n,hen⟩ : ∃ n,L.flatten.length=n:=⟨_,rfl⟩
 have hsl:∀ k,a8i L k≤n:=fun k=>by rw [←hen];exact b7e
 have hflat:a8i L L.length=n:=by rw [←hen];simp [a8i]
 rw [hen] at hn h0;have HG:=Lib.hid (c9j n hn);have H1:=Lib.hid h1;have HN:=Lib.hid hn;have HS:=Lib.hid hsl;clear hsl hen;have HF:=Lib.hid hflat;have hs0:a8i L 0=0:=rfl;clear h1 hn hflat;refine c0r Tryz.func233 rfl (by kernel_rfl) (by kernel_rfl) rfl Tryz.results233 (by decide) (fun k x hx=>H1.out x (List.mem_of_getElem? hx)) fun M0 w0=>?_;simp only [Tryz.ntmps233,b4_];repeat' first|(with_reducible first|apply a8_|apply a3_|apply a9_|apply a1_|refine a2_ [] ?_)|((with_reducible refine a0_ fun X Y=>?_);go_simp;refine Y _ ?_;clear Y X)
 apply b4o [0,9,10] (fun k=>[(11,I (k:Int)),(3,I (a8i L k:Int))]) (fun k=>([] : Hp))  (L.length)
 ·go_simp<;>exact rfl
 ·go_simp
 ·intro k hk K hK;obtain ⟨w1,w2,w3,w4,w5,w6⟩:=ixs (m:=k) (by omega);have e1:=a8j hk;have e2:=HS.out (k+1);have hb:a8i L k+L[k].length≤100000:=by have:=HN.out;omega
  have hw:=g0_ (x:=(a8i L k:Int)+(L[k].length:Int)) (by omega) (by omega);have hno:¬((a8i L k:Int)+(L[k].length:Int) < 0):=by omega
  have e3:(a8i L (k+1) : Int)=(a8i L k:Int)+(L[k].length:Int):=by rw [e1,Int.natCast_add]
  have E3:=Lib.hid e3;clear e1 e2 e3 hb;repeat' first|(with_reducible first|apply a8_|apply a3_|apply b1_|apply a9_|apply b3_|apply a1_|refine a2_ [] ?_)|((with_reducible refine a7_ ?_ ?_);(focus (go_simp;done)))|((with_reducible refine a6_ ?_ ?_);(focus (go_simp;done)))|((with_reducible refine a0_ fun X Y=>?_);go_simp;refine Y _ ?_;clear Y X)
  refine hK _ ?_;rw [E3.out];go_simp
 ·intro K;have e:=HF.out;have hg:=HG.out;rw [show decide (n=0)=false from decide_eq_false (by omega)] at hg;rw [e];clear e;have hz0:a4s L 0=[]:=rfl;repeat' first|(with_reducible first|apply a8_|apply a3_|apply b8_|apply d0_|apply a9_|apply b7_|apply a1_|refine a2_ [24] ?_)|((with_reducible refine a6_ ?_ ?_);(focus (go_simp;done)))|((with_reducible refine a0_ fun X Y=>?_);go_simp;(first|(refine ⟨_,_,.inl ⟨_,hg,?_⟩⟩)|skip);refine Y _ ?_;clear Y X)
  apply b4o [25,26] (fun k=>[(27,I (k:Int)),(6,.osl 0)]) (fun k=>([some (.arr 9 1 false (a4s L k))] : Hp))  (L.length)
  ·go_simp<;>exact rfl
  ·go_simp
  ·intro k hk K hK;obtain ⟨w1,w2,w3,w4,w5,w6⟩:=ixs (m:=k) (by omega);have e1:=Lib.hid (a5d hk);have hb:(a4s L k).length+L[k].length≤1000000000:=by
    have h2:=a8j hk;have h3:=HS.out (k+1);have:=HN.out;unfold a8i at h2 h3;unfold a4s;omega
   repeat' first|(with_reducible first|apply a8_|apply a3_|apply b1_|apply a9_|apply b3_|apply a1_|refine a2_ [] ?_)|((with_reducible refine a7_ ?_ ?_);(focus (go_simp;done)))|((with_reducible refine a0_ fun X Y=>?_);go_simp;refine Y _ ?_;clear Y X)
   refine hK _ ?_;rw [e1.out];go_simp
  ·intro K;rw [b7d];repeat' first|(with_reducible first|apply a8_|apply a3_|apply b8_|apply c4_|apply d0_|apply b7_|apply a1_|refine a2_ [] ?_)|((with_reducible refine a6_ ?_ ?_);(focus (go_simp;done)))|((with_reducible refine a0_ fun X Y=>?_);go_simp;refine Y _ ?_;clear Y X)
   exact ⟨0,rfl,rfl⟩
theorem b7g (L:List (List (List AV))) (hl:L.length≤1000) (h0:L.flatten.length=0) : VC Tryz.prog 233 [c5x L] (.lit (.slice none 0 0)):=by
 have hsum:∀ k,a8i L k=0:=fun k=>by have:=b7e (L:=L) (k:=k);omega
 have hnil:∀ k (h:k < L.length),L[k]=[]:=fun k h=>by
  have:=List.length_eq_zero_iff.1 h0;rw [List.flatten_eq_nil_iff] at this;exact this _ (List.getElem_mem h)
 have HN:=Lib.hid hnil;clear hnil h0;have hw0:IntKind.i64.wrap 0=0:=rfl;obtain ⟨d,i0,z,hd,hi,hz,h1z,hti⟩:=c1_ ti9;refine c2_ Tryz.func233 rfl (by kernel_rfl) (by kernel_rfl) rfl fun M0 w0=>?_;simp only [Tryz.ntmps233,Tryz.results233,b4_];repeat' first|(with_reducible first|apply a8_|apply a3_|apply a9_|apply a1_|refine a2_ [] ?_)|((with_reducible refine a0_ fun X Y=>?_);go_simp;refine Y _ ?_;clear Y X)
 apply b4o [0,9,10] (fun k=>[(11,I (k:Int)),(3,I 0)]) (fun k=>([] : Hp))  (L.length)
 ·go_simp<;>exact rfl
 ·go_simp
 ·intro k hk K hK;obtain ⟨w1,w2,w3,w4,w5,w6⟩:=ixs (m:=k) (by omega);have e:=HN.out k hk;repeat' first|(with_reducible first|apply a8_|apply a3_|apply b1_|apply a9_|apply b3_|apply a1_|refine a2_ [] ?_)|((with_reducible refine a7_ ?_ ?_);(focus (go_simp;done)))|((with_reducible refine a6_ ?_ ?_);(focus (go_simp;done)))|((with_reducible refine a0_ fun X Y=>?_);go_simp;refine Y _ ?_;clear Y X)
  refine hK _ ?_;go_simp
 ·intro K;repeat' first|(with_reducible first|apply a8_|apply a3_|apply b8_|apply d0_|apply a9_|apply b7_|apply a1_|refine a2_ [] ?_)|((with_reducible refine a6_ ?_ ?_);(focus (go_simp;done)))|((with_reducible refine a0_ fun X Y=>?_);go_simp;(first|(refine ⟨_,c5v,?_⟩)|skip);refine Y _ ?_;clear Y X)
  apply b4o [25,26] (fun k=>[(27,I (k:Int)),(6,.lit (.slice none 0 0))]) (fun k=>([] : Hp))  (L.length)
  ·go_simp<;>exact rfl
  ·go_simp
  ·intro k hk K hK;obtain ⟨w1,w2,w3,w4,w5,w6⟩:=ixs (m:=k) (by omega);have e:=HN.out k hk;repeat' with_reducible apply a8_
   refine a2_ [] ?_;repeat' first|(with_reducible first|apply a8_|apply a3_|apply b1_|apply a9_|apply a1_)|((with_reducible refine a7_ ?_ ?_);(focus (go_simp;done)))|((with_reducible refine a0_ fun X Y=>?_);go_simp;refine Y _ ?_;clear Y X)
   refine a2_ [] ?_;repeat' first|(with_reducible first|apply a3_|apply a1_)|((with_reducible refine a0_ fun X Y=>?_);go_simp;refine Y _ ?_;clear Y X)
   refine c7_ (c0_ [] 2 ⟨rfl,rfl⟩ ?_);simp only [List.take,List.drop];repeat' first|with_reducible apply a1_|((with_reducible refine a0_ fun X Y=>?_);go_simp;refine Y _ ?_;clear Y X)
   refine c5t (sz:=1) ⟨rfl,rfl,rfl⟩ Tryz.underlying62 hi (by go_simp) (by go_simp) ?_;refine c0_ [] 1 ⟨rfl,rfl⟩ ?_;simp only [List.take,List.drop];repeat' first|with_reducible apply a1_|((with_reducible refine a0_ fun X Y=>?_);go_simp;refine Y _ ?_;clear Y X)
   apply d6_;repeat' with_reducible first|apply a3_|apply b3_
   refine a2_ [] ?_;repeat' first|(with_reducible first|apply a3_|apply a1_)|((with_reducible refine a0_ fun X Y=>?_);go_simp;refine Y _ ?_;clear Y X)
   refine hK _ ?_;go_simp
  ·intro K;repeat' first|(with_reducible first|apply a8_|apply a3_|apply b8_|apply c4_|apply d0_|apply b7_|apply a1_|refine a2_ [] ?_)|((with_reducible refine a6_ ?_ ?_);(focus (go_simp;done)))|((with_reducible refine a0_ fun X Y=>?_);go_simp;refine Y _ ?_;clear Y X)
   go_simp
theorem b2t (L:List (List (List AV))) (h1:∀ x∈L.flatten,x.length=1∧∀ c∈x,f7_ c=true) (hn:L.flatten.length≤100000) (hl:L.length≤1000) : VCo Tryz.prog 233 [c5x L] 9 1 (decide (L.flatten.length=0)) L.flatten:=by
 by_cases h0:L.flatten.length=0
 ·rw [decide_eq_true h0,List.length_eq_zero_iff.1 h0];exact c5w (b7g L hl h0) (by decide)
 ·rw [decide_eq_false h0];exact b7f L h1 hn hl (by omega)
end Go.Proofs.YtoibondihdhnoaaGreatDoor
