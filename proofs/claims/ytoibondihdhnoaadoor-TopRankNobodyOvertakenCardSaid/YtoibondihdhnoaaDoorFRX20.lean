/- Texts in one: slices.Clone at rows of texts and of cars that were taken. -/
import Derived.Test.YtoibondihdhnoaaDoorFRX7
import Derived.Test.YtoibondihdhnoaaDoorFRX17
import Derived.Test.YtoibondihdhnoaaDoorFRX15
import Derived.Test.YtoibondihdhnoaaDoorFRX11
import Derived.Lib.LazyBuf
namespace Go.Proofs.YtoibondihdhnoaaDoor
open Go.RowKit
set_option maxRecDepth 100000
set_option maxHeartbeats 2000000
def f6_ (r:Ru) (s:St) (mv:List Sg) (n1 n2:Bool) : Hp:=
 [some (.box [.osl 1,.osl 2,I s.time,.sl 4 (r.ranks.map Rk.av),I r.back,I r.ret,.osl 3]),some (.bag 81 1 false none (d3_ s.q)),some (.arr 85 3 n1 (s.tk.map Tk.av)),some (.arr 60 3 n2 (mv.map Sg.av))]
theorem a1e (l:List ByteArray) (c:ByteArray) : l.map l1_++[[S c]]=(l++[c]).map l1_:=by simp [l1_]
theorem a1u (l:List ByteArray) : (l.map l1_).tail=l.tail.map l1_:=List.map_tail.symm
def upQ (q:List (List ByteArray)) (k f:Nat) : List (List ByteArray):=(q.set f (qat q f).tail).set k (qat q k++[tat (qat q f) 0])
def upM (q:List (List ByteArray)) (k f:Nat) : List Sg:=[⟨3,f,tat (qat q f) 0⟩,⟨0,k,tat (qat q f) 0⟩]
theorem c2x {q:List (List ByteArray)} {k f:Nat} : ((d3_ q).set f ((qat q f).map l1_).tail).set k ((qat q k).map l1_++[[S (tat (qat q f) 0)]])=d3_ (upQ q k f):=by
 rw [a1e,a1u,i4_,i4_];rfl
theorem d4f (r:Ru) (s:St) (mv:List Sg) (n1 n2:Bool) (k f:Nat) (hk:k < s.q.length) (hr:r.ranks.length=s.q.length) (hf:(rat r.ranks k).feeder=f) (hfl:f < s.q.length) (hne:f≠k) (hp:0 < (qat s.q f).length) (hq:(qat s.q k).length+1≤1000000000) (hm:mv.length+2≤1000000000) :
  VH Tryd.prog 56 (f6_ r s mv n1 n2) [.ref 0 0,I (k:Int)] [0] (f6_ r ⟨upQ s.q k f,s.tk,s.time⟩ (mv++upM s.q k f) n1 false) (.tup []):=by
 have hk2:k < r.ranks.length:=by omega
 have ht:=e7_ hp;have hp1:1≤(qat s.q f).length:=hp;refine i8_ Tryd.func56 rfl (by kernel_rfl) rfl (fun _=>by kernel_rfl) fun M0 w0 vs=>?_;simp only [Tryd.ntmps56,Tryd.results56,b5_];unfold f6_;repeat' with_reducible apply a9_
 refine a2_ [] ?_;repeat' first|(with_reducible first|apply a9_|apply a3_|apply a1_)|((with_reducible refine a0_ fun X Y=>?_);go_simp;refine Y _ ?_;clear Y X)
 refine a2_ [] ?_;repeat' first|(with_reducible first|apply a9_|apply a3_|apply a1_)|((with_reducible refine a0_ fun X Y=>?_);go_simp;refine Y _ ?_;clear Y X)
 refine a6h 16 [] (by kernel_rfl) (by kernel_rfl) ?_;simp only [List.take,List.drop];repeat' first|(with_reducible first|apply a9_|apply a3_|apply a1_|apply a5_)|((with_reducible first|refine a0_ fun X Y=>?_|refine a4_ fun X Y=>?_);go_simp;refine Y _ ?_;clear Y X)
 refine x7_ 16 [0,41,41,42,42,43,43,44,44,45,1,46] (by kernel_rfl) (by kernel_rfl) (by kernel_rfl) (unW 1) (s5_ 1) rfl ⟨rfl,rfl⟩ ?_;simp only [List.take];repeat' first|with_reducible apply a5_|((with_reducible refine a4_ fun X Y=>?_);go_simp;refine Y _ ?_;clear Y X)
 refine ⟨_,_,a6n (id:=1) (k:=k) (es:=(qat s.q k).map l1_) (c:=S (tat (qat s.q f) 0)) (by exact rfl) (by exact rfl) (by go_simp) (by go_simp) c8r ti9 (by exact rfl) (by go_simp),?_,?_,?_⟩
 ·simp only [List.forall_mem_cons];go_simp
 ·repeat' first|with_reducible apply a5_|((with_reducible refine a4_ fun X Y=>?_);go_simp;refine Y _ ?_;clear Y X)
  simp only [List.forall_mem_cons];go_simp
 go_simp;refine b9_ [] 2 ⟨rfl,rfl⟩ ?_;simp only [List.take,List.drop];repeat' first|with_reducible apply a1_|((with_reducible refine a0_ fun X Y=>?_);go_simp;refine Y _ ?_;clear Y X)
 apply e3_;repeat' with_reducible apply a3_
 refine a2_ [] ?_;repeat' first|with_reducible apply a1_|((with_reducible refine a0_ fun X Y=>?_);go_simp;refine Y _ ?_;clear Y X)
 go_simp;refine ⟨?_,?_⟩
 ·rw [←ht];exact c2x
 ·simp [upM,ht,Sg.av]
set_option maxHeartbeats 1000000
theorem d0i (n:Nat) (hn:n≤100000) : VCo Tryd.prog 123 [.lit (.slice none 0 0),I n] 9 1 (decide (n=0)) []:=by
 refine ⟨by kernel_rfl,by decide,fun k x hk=>by simp at hk,?_⟩;intro w M vs hM hvl hv;obtain ⟨v1,v2,rfl⟩ : ∃ v1 v2,vs=[v1,v2]:=by
  rcases vs with _|⟨v,_|⟨v2,_|⟨_,_⟩⟩⟩
  ·simp at hvl
  ·simp at hvl
  ·exact ⟨v,v2,rfl⟩
  ·simp at hvl
 obtain rfl:=V0.lit_inv (hv 0 _ _ rfl rfl);obtain rfl:=V0.lit_inv (hv 1 _ _ rfl rfl);by_cases h0:n=0
 ·subst h0;have hcon:=Any8.slices_Grow_room a7p none 0 0 0 w (by omega) (by omega) (by omega) (by omega);change Calls Tryd.prog 123 _ _ _ at hcon;refine hcon.mono ?_;rintro en w' ⟨rfl,rfl⟩;exact ⟨_,rfl,Below.refl _ _,⟨none,rfl⟩,rfl⟩
 ·obtain ⟨d,i0,z,hd,hi,hz,h1z,hti⟩:=c1_ ti9;injection hti with q1 q2 q3 q4 q5 q6 q7 q8 q9
  have hsz:z.cells.size=1:=by
   rw [←Array.length_toList,←q9];rfl
  have hcon:=Any8.slices_Grow_grow a7p i0 z hi hz (by omega) none 0 0 n [] w (by omega) (by omega) (by rw [←q3];omega) (by omega) (by simp) (fun _=>rfl) (fun a h=>by cases h);change Calls Tryd.prog 123 _ _ _ at hcon;refine hcon.mono ?_;rintro en w' ⟨rfl,rfl⟩;have g1:=grownCap_ge w n 0 9;have g2:=grownCap_le_maxLen w n 0 9 (by simp only [maxLen];omega);have e25:growLays_ren.t 25=9:=rfl;rw [e25] at *;simp only [Nat.zero_add] at *;generalize grownCap w n 0 9=G at *;refine ⟨_,rfl,?_,?_⟩
  ·exact a0g (show Below w.heap.size w w.drew from ⟨rfl,rfl,rfl,Nat.le_refl _,fun _ _=>rfl⟩) _
  ·unfold OwnRow;rw [if_neg (by simpa using h0)];refine ⟨w.heap.size,G,_,rfl,Nat.le_refl _,heap_alloc_new w.drew _,?_,Nat.zero_le _,g2,fun k x j c hk=>by simp at hk⟩;simp [Builtin.zeroCells,hsz];omega
theorem c6t:VC Tryd.prog 123 [.lit (.slice none 0 0),I 0] (.lit (.slice none 0 0)):=by
 refine ⟨by kernel_rfl,fun w M vs hM hvl hv=>?_⟩;obtain ⟨v1,v2,rfl⟩ : ∃ v1 v2,vs=[v1,v2]:=by
  rcases vs with _|⟨v,_|⟨v2,_|⟨_,_⟩⟩⟩
  ·simp at hvl
  ·simp at hvl
  ·exact ⟨v,v2,rfl⟩
  ·simp at hvl
 obtain rfl:=V0.lit_inv (hv 0 _ _ rfl rfl);obtain rfl:=V0.lit_inv (hv 1 _ _ rfl rfl);have hcon:=Any8.slices_Grow_room a7p none 0 0 0 w (by omega) (by omega) (by omega) (by omega);change Calls Tryd.prog 123 _ _ _ at hcon;refine hcon.mono ?_;rintro en w' ⟨rfl,rfl⟩;exact ⟨_,rfl,Below.refl _ _,.lit _⟩
theorem c6u {P:Program} {f:FuncId} {args:List AV} {e sz:Nat} (h:VC P f args (.lit (.slice none 0 0))) (hsz:0 < sz) : VCo P f args e sz true []:=
 ⟨h.1,hsz,fun k x hk=>by simp at hk,fun w M vs hM hl hv=>(h.2 w M vs hM hl hv).mono fun en w' ⟨v,he,hb,hr⟩=>⟨v,he,hb,⟨none,V0.lit_inv hr⟩,rfl⟩⟩
def a9f (L:List (List (List AV))) (k:Nat) : Nat:=(L.take k).flatten.length
def a5z (L:List (List (List AV))) (k:Nat) : List (List AV):=(L.take k).flatten
theorem a6p {L:List (List (List AV))} {k:Nat} (h:k < L.length) : a5z L (k+1)=a5z L k++L[k]:=by
 unfold a5z;rw [List.take_succ_eq_append_getElem h,List.flatten_append];simp
theorem a9g {L:List (List (List AV))} {k:Nat} (h:k < L.length) : a9f L (k+1)=a9f L k+L[k].length:=by
 have:=congrArg List.length (a6p h);simpa [a9f,a5z] using this
theorem b8f {L:List (List (List AV))} : a5z L L.length=L.flatten:=by simp [a5z]
theorem b8g {L:List (List (List AV))} {k:Nat} : a9f L k≤L.flatten.length:=by
 unfold a9f;have:L.flatten=(L.take k).flatten++(L.drop k).flatten:=by rw [←List.flatten_append,List.take_append_drop]
 rw [this,List.length_append];omega
abbrev c6v (L:List (List (List AV))) : AV:=.sl 1 (L.map fun l=>[.sl 1 l])
theorem b8h (L:List (List (List AV))) (h1:∀ x∈L.flatten,x.length=1∧∀ c∈x,g6_ c=true) (hn:L.flatten.length≤100000) (hl:L.length≤1000) (h0:0 < L.flatten.length) : VCo Tryd.prog 119 [c6v L] 9 1 false L.flatten:=by
 obtain ⟨n,hen⟩ : ∃ n,L.flatten.length=n:=⟨_,rfl⟩
 have hsl:∀ k,a9f L k≤n:=fun k=>by rw [←hen];exact b8g
 have hflat:a9f L L.length=n:=by rw [←hen];simp [a9f]
 rw [hen] at hn h0;have HG:=Lib.hid (d0i n hn);have H1:=Lib.hid h1;have HN:=Lib.hid hn;have HS:=Lib.hid hsl;clear hsl hen;have HF:=Lib.hid hflat;have hs0:a9f L 0=0:=rfl;clear h1 hn hflat;refine b0t Tryd.func119 rfl (by kernel_rfl) (by kernel_rfl) rfl Tryd.results119 (by decide) (fun k x hx=>H1.out x (List.mem_of_getElem? hx)) fun M0 w0=>?_;simp only [Tryd.ntmps119,b5_];repeat' first|(with_reducible first|apply a9_|apply a3_|apply a8_|apply a1_|refine a2_ [] ?_)|((with_reducible refine a0_ fun X Y=>?_);go_simp;refine Y _ ?_;clear Y X)
 apply b3d [0,9,10] (fun k=>[(11,I (k:Int)),(3,I (a9f L k:Int))]) (fun k=>([] : Hp))  (L.length)
 ·go_simp<;>exact rfl
 ·go_simp
 ·intro k hk K hK;obtain ⟨w1,w2,w3,w4,w5,w6⟩:=ixs (m:=k) (by omega);have e1:=a9g hk;have e2:=HS.out (k+1);have hb:a9f L k+L[k].length≤100000:=by have:=HN.out;omega
  have hw:=h3_ (x:=(a9f L k:Int)+(L[k].length:Int)) (by omega) (by omega);have hno:¬((a9f L k:Int)+(L[k].length:Int) < 0):=by omega
  have e3:(a9f L (k+1) : Int)=(a9f L k:Int)+(L[k].length:Int):=by rw [e1,Int.natCast_add]
  have E3:=Lib.hid e3;clear e1 e2 e3 hb;repeat' first|(with_reducible first|apply a9_|apply a3_|apply b0_|apply a8_|apply b1_|apply a1_|refine a2_ [] ?_)|((with_reducible refine a7_ ?_ ?_);(focus (go_simp;done)))|((with_reducible refine a6_ ?_ ?_);(focus (go_simp;done)))|((with_reducible refine a0_ fun X Y=>?_);go_simp;refine Y _ ?_;clear Y X)
  refine hK _ ?_;rw [E3.out];go_simp
 ·intro K;have e:=HF.out;have hg:=HG.out;rw [show decide (n=0)=false from decide_eq_false (by omega)] at hg;rw [e];clear e;have hz0:a5z L 0=[]:=rfl;repeat' first|(with_reducible first|apply a9_|apply a3_|apply b8_|apply d4_|apply a8_|apply b7_|apply a1_|refine a2_ [24] ?_)|((with_reducible refine a6_ ?_ ?_);(focus (go_simp;done)))|((with_reducible refine a0_ fun X Y=>?_);go_simp;(first|(refine ⟨_,_,.inl ⟨_,hg,?_⟩⟩)|skip);refine Y _ ?_;clear Y X)
  apply b3d [25,26] (fun k=>[(27,I (k:Int)),(6,.osl 0)]) (fun k=>([some (.arr 9 1 false (a5z L k))] : Hp))  (L.length)
  ·go_simp<;>exact rfl
  ·go_simp
  ·intro k hk K hK;obtain ⟨w1,w2,w3,w4,w5,w6⟩:=ixs (m:=k) (by omega);have e1:=Lib.hid (a6p hk);have hb:(a5z L k).length+L[k].length≤1000000000:=by
    have h2:=a9g hk;have h3:=HS.out (k+1);have:=HN.out;unfold a9f at h2 h3;unfold a5z;omega
   repeat' first|(with_reducible first|apply a9_|apply a3_|apply b0_|apply a8_|apply b1_|apply a1_|refine a2_ [] ?_)|((with_reducible refine a7_ ?_ ?_);(focus (go_simp;done)))|((with_reducible refine a0_ fun X Y=>?_);go_simp;refine Y _ ?_;clear Y X)
   refine hK _ ?_;rw [e1.out];go_simp
  ·intro K;rw [b8f];repeat' first|(with_reducible first|apply a9_|apply a3_|apply b8_|apply c5_|apply d4_|apply b7_|apply a1_|refine a2_ [] ?_)|((with_reducible refine a6_ ?_ ?_);(focus (go_simp;done)))|((with_reducible refine a0_ fun X Y=>?_);go_simp;refine Y _ ?_;clear Y X)
   exact ⟨0,rfl,rfl⟩
theorem b8i (L:List (List (List AV))) (hl:L.length≤1000) (h0:L.flatten.length=0) : VC Tryd.prog 119 [c6v L] (.lit (.slice none 0 0)):=by
 have hsum:∀ k,a9f L k=0:=fun k=>by have:=b8g (L:=L) (k:=k);omega
 have hnil:∀ k (h:k < L.length),L[k]=[]:=fun k h=>by
  have:=List.length_eq_zero_iff.1 h0;rw [List.flatten_eq_nil_iff] at this;exact this _ (List.getElem_mem h)
 have HN:=Lib.hid hnil;clear hnil h0;have hw0:IntKind.i64.wrap 0=0:=rfl;obtain ⟨d,i0,z,hd,hi,hz,h1z,hti⟩:=c1_ ti9;refine c0_ Tryd.func119 rfl (by kernel_rfl) (by kernel_rfl) rfl fun M0 w0=>?_;simp only [Tryd.ntmps119,Tryd.results119,b5_];repeat' first|(with_reducible first|apply a9_|apply a3_|apply a8_|apply a1_|refine a2_ [] ?_)|((with_reducible refine a0_ fun X Y=>?_);go_simp;refine Y _ ?_;clear Y X)
 apply b3d [0,9,10] (fun k=>[(11,I (k:Int)),(3,I 0)]) (fun k=>([] : Hp))  (L.length)
 ·go_simp<;>exact rfl
 ·go_simp
 ·intro k hk K hK;obtain ⟨w1,w2,w3,w4,w5,w6⟩:=ixs (m:=k) (by omega);have e:=HN.out k hk;repeat' first|(with_reducible first|apply a9_|apply a3_|apply b0_|apply a8_|apply b1_|apply a1_|refine a2_ [] ?_)|((with_reducible refine a7_ ?_ ?_);(focus (go_simp;done)))|((with_reducible refine a6_ ?_ ?_);(focus (go_simp;done)))|((with_reducible refine a0_ fun X Y=>?_);go_simp;refine Y _ ?_;clear Y X)
  refine hK _ ?_;go_simp
 ·intro K;repeat' first|(with_reducible first|apply a9_|apply a3_|apply b8_|apply d4_|apply a8_|apply b7_|apply a1_|refine a2_ [] ?_)|((with_reducible refine a6_ ?_ ?_);(focus (go_simp;done)))|((with_reducible refine a0_ fun X Y=>?_);go_simp;(first|(refine ⟨_,c6t,?_⟩)|skip);refine Y _ ?_;clear Y X)
  apply b3d [25,26] (fun k=>[(27,I (k:Int)),(6,.lit (.slice none 0 0))]) (fun k=>([] : Hp))  (L.length)
  ·go_simp<;>exact rfl
  ·go_simp
  ·intro k hk K hK;obtain ⟨w1,w2,w3,w4,w5,w6⟩:=ixs (m:=k) (by omega);have e:=HN.out k hk;repeat' with_reducible apply a9_
   refine a2_ [] ?_;repeat' first|(with_reducible first|apply a9_|apply a3_|apply b0_|apply a8_|apply a1_)|((with_reducible refine a7_ ?_ ?_);(focus (go_simp;done)))|((with_reducible refine a0_ fun X Y=>?_);go_simp;refine Y _ ?_;clear Y X)
   refine a2_ [] ?_;repeat' first|(with_reducible first|apply a3_|apply a1_)|((with_reducible refine a0_ fun X Y=>?_);go_simp;refine Y _ ?_;clear Y X)
   refine c6_ (b9_ [] 2 ⟨rfl,rfl⟩ ?_);simp only [List.take,List.drop];repeat' first|with_reducible apply a1_|((with_reducible refine a0_ fun X Y=>?_);go_simp;refine Y _ ?_;clear Y X)
   refine c6s (sz:=1) ⟨rfl,rfl,rfl⟩ Tryd.underlying81 hi (by go_simp) (by go_simp) ?_;refine b9_ [] 1 ⟨rfl,rfl⟩ ?_;simp only [List.take,List.drop];repeat' first|with_reducible apply a1_|((with_reducible refine a0_ fun X Y=>?_);go_simp;refine Y _ ?_;clear Y X)
   apply e3_;repeat' with_reducible first|apply a3_|apply b1_
   refine a2_ [] ?_;repeat' first|(with_reducible first|apply a3_|apply a1_)|((with_reducible refine a0_ fun X Y=>?_);go_simp;refine Y _ ?_;clear Y X)
   refine hK _ ?_;go_simp
  ·intro K;repeat' first|(with_reducible first|apply a9_|apply a3_|apply b8_|apply c5_|apply d4_|apply b7_|apply a1_|refine a2_ [] ?_)|((with_reducible refine a6_ ?_ ?_);(focus (go_simp;done)))|((with_reducible refine a0_ fun X Y=>?_);go_simp;refine Y _ ?_;clear Y X)
   go_simp
theorem b3o (L:List (List (List AV))) (h1:∀ x∈L.flatten,x.length=1∧∀ c∈x,g6_ c=true) (hn:L.flatten.length≤100000) (hl:L.length≤1000) : VCo Tryd.prog 119 [c6v L] 9 1 (decide (L.flatten.length=0)) L.flatten:=by
 by_cases h0:L.flatten.length=0
 ·rw [decide_eq_true h0,List.length_eq_zero_iff.1 h0];exact c6u (b8i L hl h0) (by decide)
 ·rw [decide_eq_false h0];exact b8h L h1 hn hl (by omega)
theorem b3p {P:Program} {w:World} {t ty e:TypeId} {i:TypeInfo} {z:Value} {sz:Nat} (ht:P.underlying t=some (.slice e)) (hi:P.info? e=some i) (hz:i.zero=some z) (hs:i.size=sz) (hzs:z.cells.size=sz) (hby:i.bytes≤100000) (hsz:0 < sz)
  {M:Nat→Nat→Prop} {es:List (List AV)} {a:Addr} {n c:Nat} (hv:V0 w M (.sl sz es) (.slice (some a) n c)) (hn:es.length≤1000000000) :
  ∃ v' w',(Builtin.append_ #[t,t] ty #[.slice (some ⟨w.heap.size,0,none⟩) 0 0,.slice (some a) n c]).run P (w.alloc (.cells #[] e)) = .ok v' w'∧Below w.heap.size w w'∧OwnRow w w' M e sz (decide (es=[])) es v':=by
 have hb0:Below w.heap.size w (w.alloc (.cells #[] e)):=(Below.refl _ w).alloc (Nat.le_refl _) _;cases hv with
 | slNil _ _ _=>
  have hr:=a4s (P:=P) (ty:=ty) ht hi ⟨w.heap.size,0,none⟩ (some a) c (w.alloc (.cells #[] e));exact ⟨_,_,hr,hb0,⟨_,rfl⟩,rfl⟩
 | sl _ _ _ b o u hne hb hM hcap hsz' h1 hc hvv=>
  have hpos:0 < es.length:=List.length_pos_iff.2 hne;have hbytes:es.length*i.bytes≤281474976710656:=by
   have:es.length*i.bytes≤1000000000*100000:=Nat.mul_le_mul hn hby;omega
  have e1:=a5j (P:=P) (w:=w.alloc (.cells #[] e)) (ty:=ty) ht hi ⟨w.heap.size,0,none⟩ (some ⟨b,o,none⟩) es.length c hpos hbytes hn;obtain ⟨N,hN⟩ : ∃ N:List Value,N=(List.range (es.length*sz)).map fun j=>u (j / sz) (j % sz):=⟨_,rfl⟩
  have hNl:N.length=es.length*sz:=by rw [hN];simp
  have hNat:∀ j,j < es.length*sz→N[j]? = some (u (j / sz) (j % sz)):=fun j hj=>by rw [hN];simp [hj]
  have hdiv:∀ j,j < es.length*sz→j / sz < es.length∧j % sz < sz∧j / sz*sz+j % sz=j:=fun j hj=>⟨Nat.div_lt_of_lt_mul (by rw [Nat.mul_comm];exact hj),Nat.mod_lt _ hsz,by rw [Nat.mul_comm];exact Nat.div_add_mod j sz⟩
  have hcell:∀ j v,N[j]? = some v→(w.alloc (.cells #[] e)).cell? ((⟨b,o,none⟩ : Addr).add j)=some v:=fun j v hj=>by
   have hjl:j < es.length*sz:=by rw [←hNl];exact (List.getElem?_eq_some_iff.1 hj).1
   rw [hNat j hjl] at hj;obtain rfl:=Option.some.inj hj;obtain ⟨d1,d2,d3⟩:=hdiv j hjl;have:=hc _ _ d1 d2;have e3:o+j=o+j / sz*sz+j % sz:=by omega
   rw [g1_];show World.cell? _ ⟨b,o+j,none⟩=_;rw [e3];exact l9_ (hb0.block b hb) this
  have hr:=run_append_nil (P:=P) (w:=w.alloc (.cells #[] e)) t ty e i z ht hi hz ⟨b,o,none⟩ es.length c N (by rw [hNl,hs]) hcell hpos (by omega) hbytes;have hge:=grownCap_ge (w.alloc (.cells #[] e)) es.length 0 e;have hcm:=grownCap_le_maxLen (w.alloc (.cells #[] e)) es.length 0 e (by simp only [maxLen];omega);generalize grownCap (w.alloc (.cells #[] e)) es.length 0 e=G at *;refine ⟨_,_,e1.trans hr,?_,?_⟩
  ·exact a0g hb0.drew _
  ·rw [decide_eq_false hne];unfold OwnRow;rw [if_neg (by simp)];have hle:(w.alloc (.cells #[] e)).drew.heap.size=w.heap.size+1:=by simp
   refine ⟨(w.alloc (.cells #[] e)).heap.size,G,_,rfl,by simp,heap_alloc_new (w.alloc (.cells #[] e)).drew _,?_,hge,hcm,fun k x j cc hk hj=>?_⟩
   ·rw [Array.size_append,size_zeroCells,hzs,List.size_toArray,hNl,←Nat.add_mul];congr 1;omega
   ·have hkl:=(List.getElem?_eq_some_iff.1 hk).1;have hjl:j < sz:=by rw [←hsz' k x hk];exact (List.getElem?_eq_some_iff.1 hj).1
    have hlt:k*sz+j < es.length*sz:=by
     have:(k+1)*sz≤es.length*sz:=Nat.mul_le_mul_right _ hkl;rw [Nat.add_mul] at this;omega
    have hq:(k*sz+j) / sz=k∧(k*sz+j) % sz=j:=by
     rw [Nat.add_comm,Nat.add_mul_div_right _ _ hsz,Nat.add_mul_mod_self_right,Nat.div_eq_of_lt hjl,Nat.mod_eq_of_lt hjl];exact ⟨Nat.zero_add k,rfl⟩
    refine ⟨u k j,?_,?_⟩
    ·rw [Array.getElem?_append_left (by rw [List.size_toArray,hNl];exact hlt),List.getElem?_toArray,hNat _ hlt,hq.1,hq.2]
    ·refine (hvv k x j cc hk hj).keep ((Keeps.of_below (M:=M) (a0g hb0.drew _))) fun b' j' hb' hn hm=>?_;rcases hm with hm|hm
     ·exact hn hm
     ·simp at hm;omega
theorem v1_ {P:Program} {ops:Array Oper} {Q:Exit→Act→World→Prop} {rest:List Oper} {a:Act} {w w1:World} {o:Oper} {x y:Operand} {t d:Nat} {vx vy v:Value} (ho:o.op = .call ⟨.builtin .append,#[x,y],#[t,t]⟩) (hg:o.guard=none) (hd:o.dst=some d) (hx:a.eval x=vx) (hy:a.eval y=vy)
  (hr:(Builtin.append_ #[t,t] o.type #[vx,vy]).run P w = .ok v w1) (k:wpList P ops Q rest (a.put (some d) v) w1) : wpList P ops Q (o::rest) a w:=by
 obtain ⟨dst,op,ty,pos,after,guard⟩:=o;simp only at ho hg hd hr;subst ho hg hd hx hy;refine wpList_step fun X Y=>?_;simp only [Region.wanted,if_true];unfold Oper.wp;simp only [execOp,resolve,invoke,builtin,Sem.run_bind,Sem.run_pure,Result.andThen_ok,List.map_toArray,List.map_cons,List.map_nil,hr,Oper.upon];exact Y _ _ k
theorem b5t (w:World) (c:Nat) : Calls Tryd.prog 53 #[.slice none 0 c] w fun e w'=>e = .returned (.slice none 0 0)∧w'=w:=by
 have q:∀ (w:World) (a:Option Addr) (n c n' c':Nat),(binOp .eql 81 (.slice a n c) (.slice none n' c')).run Tryd.prog w = .ok (.bool a.isNone) w:=fun w a n c n' c'=>Lib.run_eql_slice_nil w _ _ a n c n' c' Tryd.underlying81;go_enter Tryd.func53,Tryd.ntmps53
 go_wp2
 go_ret
 exact ⟨rfl,rfl⟩
theorem b1v (w:World) (a:Addr) (n c:Nat) (v':Value) (w1:World) (hA:(Builtin.append_ #[81,81] 81 #[.slice (some ⟨w.heap.size,0,none⟩) 0 0,.slice (some a) n c]).run Tryd.prog (w.alloc (.cells #[] 9)) = .ok v' w1) :
  Calls Tryd.prog 53 #[.slice (some a) n c] w fun e w'=>e = .returned v'∧w'=w1:=by
 have q:∀ (w:World) (a:Option Addr) (n c n' c':Nat),(binOp .eql 81 (.slice a n c) (.slice none n' c')).run Tryd.prog w = .ok (.bool a.isNone) w:=fun w a n c n' c'=>Lib.run_eql_slice_nil w _ _ a n c n' c' Tryd.underlying81;have u22:∀ w,Sem.run Tryd.prog (underlying 81) w = .ok (TypeDesc.slice 9) w:=run_underlying Tryd.underlying81;obtain ⟨i0,hi⟩ : ∃ i,Tryd.prog.info? 9=some i:=Option.isSome_iff_exists.1 (by kernel_rfl);go_enter Tryd.func53,Tryd.ntmps53
 go_wp2_with (refine v1_ rfl rfl rfl rfl rfl hA ?_)
 go_ret
 exact ⟨rfl,rfl⟩
theorem c2y (es:List (List AV)) (h1:∀ (k:Nat) (x:List AV),es[k]? = some x→x.length=1∧∀ c∈x,g6_ c=true) (hn:es.length≤1000000000) : VCo Tryd.prog 53 [.sl 1 es] 9 1 (decide (es=[])) es:=by
 refine ⟨by kernel_rfl,by decide,h1,fun w M vs hM hvl hv=>?_⟩;obtain ⟨v1,rfl⟩ : ∃ v1,vs=[v1]:=by
  rcases vs with _|⟨v,_|⟨_,_⟩⟩
  ·simp at hvl
  ·exact ⟨v,rfl⟩
  ·simp at hvl
 have hv0:=hv 0 _ _ rfl rfl;obtain ⟨A,n,c,rfl⟩:=hv0.sl_form;cases A with
 | none=>
  have e0:es=[]∧n=0:=by
   cases hv0 with
   | slNil=>exact ⟨rfl,rfl⟩
  obtain ⟨rfl,rfl⟩:=e0;refine (b5t w c).mono ?_;rintro en w' ⟨rfl,rfl⟩;exact ⟨_,rfl,Below.refl _ _,⟨none,rfl⟩,rfl⟩
 | some a=>
  obtain ⟨d,i0,z,hd,hi,hz,h1z,hti⟩:=c1_ ti9;injection hti with q1 q2 q3 q4 q5 q6 q7 q8 q9
  have hzs:z.cells.size=1:=by
   rw [←Array.length_toList,←q9];rfl
  obtain ⟨v',w1,hr,hb,ho⟩:=b3p (P:=Tryd.prog) (ty:=81) Tryd.underlying81 hi hz q2.symm hzs (by rw [←q3];decide) (by decide) hv0 hn;refine (b1v w a n c v' w1 hr).mono ?_;rintro en w' ⟨rfl,rfl⟩;exact ⟨_,rfl,hb,ho⟩
theorem b5u (w:World) (c:Nat) : Calls Tryd.prog 54 #[.slice none 0 c] w fun e w'=>e = .returned (.slice none 0 0)∧w'=w:=by
 have q:∀ (w:World) (a:Option Addr) (n c n' c':Nat),(binOp .eql 43 (.slice a n c) (.slice none n' c')).run Tryd.prog w = .ok (.bool a.isNone) w:=fun w a n c n' c'=>Lib.run_eql_slice_nil w _ _ a n c n' c' Tryd.underlying43;go_enter Tryd.func54,Tryd.ntmps54
 go_wp2
 go_ret
 exact ⟨rfl,rfl⟩
theorem b1w (w:World) (a:Addr) (n c:Nat) (v':Value) (w1:World) (hA:(Builtin.append_ #[43,43] 43 #[.slice (some ⟨w.heap.size,0,none⟩) 0 0,.slice (some a) n c]).run Tryd.prog (w.alloc (.cells #[] 85)) = .ok v' w1) :
  Calls Tryd.prog 54 #[.slice (some a) n c] w fun e w'=>e = .returned v'∧w'=w1:=by
 have q:∀ (w:World) (a:Option Addr) (n c n' c':Nat),(binOp .eql 43 (.slice a n c) (.slice none n' c')).run Tryd.prog w = .ok (.bool a.isNone) w:=fun w a n c n' c'=>Lib.run_eql_slice_nil w _ _ a n c n' c' Tryd.underlying43;have u22:∀ w,Sem.run Tryd.prog (underlying 43) w = .ok (TypeDesc.slice 85) w:=run_underlying Tryd.underlying43;obtain ⟨i0,hi⟩ : ∃ i,Tryd.prog.info? 85=some i:=Option.isSome_iff_exists.1 (by kernel_rfl);go_enter Tryd.func54,Tryd.ntmps54
 go_wp2_with (refine v1_ rfl rfl rfl rfl rfl hA ?_)
 go_ret
 exact ⟨rfl,rfl⟩
theorem c2z (es:List (List AV)) (h1:∀ (k:Nat) (x:List AV),es[k]? = some x→x.length=3∧∀ c∈x,g6_ c=true) (hn:es.length≤1000000000) : VCo Tryd.prog 54 [.sl 3 es] 85 3 (decide (es=[])) es:=by
 refine ⟨by kernel_rfl,by decide,h1,fun w M vs hM hvl hv=>?_⟩;obtain ⟨v1,rfl⟩ : ∃ v1,vs=[v1]:=by
  rcases vs with _|⟨v,_|⟨_,_⟩⟩
  ·simp at hvl
  ·exact ⟨v,rfl⟩
  ·simp at hvl
 have hv0:=hv 0 _ _ rfl rfl;obtain ⟨A,n,c,rfl⟩:=hv0.sl_form;cases A with
 | none=>
  have e0:es=[]∧n=0:=by
   cases hv0 with
   | slNil=>exact ⟨rfl,rfl⟩
  obtain ⟨rfl,rfl⟩:=e0;refine (b5u w c).mono ?_;rintro en w' ⟨rfl,rfl⟩;exact ⟨_,rfl,Below.refl _ _,⟨none,rfl⟩,rfl⟩
 | some a=>
  obtain ⟨d,i0,z,hd,hi,hz,h1z,hti⟩:=c1_ d2m;injection hti with q1 q2 q3 q4 q5 q6 q7 q8 q9
  have hzs:z.cells.size=3:=by
   rw [←Array.length_toList,←q9];rfl
  obtain ⟨v',w1,hr,hb,ho⟩:=b3p (P:=Tryd.prog) (ty:=43) Tryd.underlying43 hi hz q2.symm hzs (by rw [←q3];decide) (by decide) hv0 hn;refine (b1w w a n c v' w1 hr).mono ?_;rintro en w' ⟨rfl,rfl⟩;exact ⟨_,rfl,hb,ho⟩
end Go.Proofs.YtoibondihdhnoaaDoor
