/- Texts in one: Walks on rows of texts: copies, several rows behind one another. -/
import Derived.Test.YtoibondihdhnoaaGreatDoorFRQ9
import Derived.Test.YtoibondihdhnoaaGreatDoorFRQ10
import Derived.Test.YtoibondihdhnoaaGreatDoorFRQ15
import Derived.Test.YtoibondihdhnoaaGreatDoorFRQ13
import Derived.Test.YtoibondihdhnoaaGreatDoorFRQ1
namespace Go.Proofs.YtoibondihdhnoaaGreatDoor
open Go.RowKit
set_option maxRecDepth 100000
set_option maxHeartbeats 2000000
def ct (r:Ru) (s:St) (mv:List Sg) (n1 n2:Bool) : Hp:=
 [some (.box [.osl 1,.osl 2,I s.time,.sl 4 (r.ranks.map Rk.av),I r.back,I r.ret,.osl 3]),some (.bag 62 1 false none (bA s.q)),some (.arr 148 3 n1 (s.tk.map Tk.av)),some (.arr 45 3 n2 (mv.map Sg.av))]
theorem ry (l:List ByteArray) (c:ByteArray) : l.map bY++[[S c]]=(l++[c]).map bY:=by simp [bY]
theorem uN (l:List ByteArray) : (l.map bY).tail=l.tail.map bY:=List.map_tail.symm
def upQ (q:List (List ByteArray)) (k f:Nat) : List (List ByteArray):=(q.set f (qat q f).tail).set k (qat q k++[tat (qat q f) 0])
def upM (q:List (List ByteArray)) (k f:Nat) : List Sg:=[⟨3,f,tat (qat q f) 0⟩,⟨0,k,tat (qat q f) 0⟩]
theorem I5 {q:List (List ByteArray)} {k f:Nat} : ((bA q).set f ((qat q f).map bY).tail).set k ((qat q k).map bY++[[S (tat (qat q f) 0)]])=bA (upQ q k f):=by
 rw [ry,uN,lK,lK];rfl
theorem D7 (r:Ru) (s:St) (mv:List Sg) (n1 n2:Bool) (k f:Nat) (hk:k < s.q.length) (hr:r.ranks.length=s.q.length) (hf:(rat r.ranks k).feeder=f) (cX:f < s.q.length) (aq:f≠k) (hp:0 < (qat s.q f).length) (hq:(qat s.q k).length+1≤1000000000) (hm:mv.length+2≤1000000000) :
  VH Tryz.prog 157 (ct r s mv n1 n2) [.ref 0 0,I (k:Int)] [0] (ct r ⟨upQ s.q k f,s.tk,s.time⟩ (mv++upM s.q k f) n1 false) (.tup []):=by
 have cI:k < r.ranks.length:=by omega
 have ht:=iK hp;have uO:1≤(qat s.q f).length:=hp;refine dn Tryz.func157 rfl (by kernel_rfl) rfl (fun _=>by kernel_rfl) fun M0 w0 vs=>?_;simp only [Tryz.ntmps157,Tryz.results157,aC];unfold ct;repeat' with_reducible apply af
 refine ah [] ?_;repeat' with_reducible first|apply af|apply ae|apply aa|(apply ab;intro X Y;go_simp;apply Y;clear Y X)
 refine ah [] ?_;repeat' with_reducible first|apply af|apply ae|apply aa|(apply ab;intro X Y;go_simp;apply Y;clear Y X)
 refine oB 16 [] (by kernel_rfl) (by kernel_rfl) ?_;simp only [au];repeat' with_reducible first|apply af|apply ae|apply aa|apply aQ|((first|apply ab|apply aR);intro X Y;go_simp;apply Y;clear Y X)
 refine mV 16 [0,41,41,42,42,43,43,44,44,45,1,46] (by kernel_rfl) (by kernel_rfl) (by kernel_rfl) (unW 1) (nc 1) rfl ⟨rfl,rfl⟩ ?_;simp only [List.take];repeat' with_reducible first|apply aQ|(apply aR;intro X Y;go_simp;apply Y;clear Y X)
 refine ⟨_,_,sY (id:=1) (k:=k) (es:=(qat s.q k).map bY) (c:=S (tat (qat s.q f) 0)) (by exact rfl) (by exact rfl) (by go_simp) (by go_simp) rz ti9 (by exact rfl) (by go_simp),?_,?_,?_⟩
 ·simp only [List.forall_mem_cons];go_simp
 ·repeat' with_reducible first|apply aQ|(apply aR;intro X Y;go_simp;apply Y;clear Y X)
  simp only [List.forall_mem_cons];go_simp
 go_simp;refine bb [] 2 ⟨rfl,rfl⟩ ?_;simp only [au];repeat' with_reducible first|apply aa|(apply ab;intro X Y;go_simp;apply Y;clear Y X)
 apply cF;repeat' with_reducible apply ae
 refine ah [] ?_;repeat' with_reducible first|apply aa|(apply ab;intro X Y;go_simp;apply Y;clear Y X)
 go_simp;refine ⟨?_,?_⟩
 ·rw [←ht];exact I5
 ·simp [upM,ht,Sg.av]
set_option maxHeartbeats 1000000
theorem I6 (n:Nat) (hn:n≤100000) : VCo Tryz.prog 236 [.lit (.slice none 0 0),I n] 9 1 (decide (n=0)) []:=by
 refine ⟨by kernel_rfl,by decide,fun k x hk=>by simp at hk,?_⟩;intro w M vs hM iw hv;obtain ⟨v1,v2,rfl⟩ : ∃ v1 v2,vs=[v1,v2]:=by
  rcases vs with _|⟨v,_|⟨v2,_|⟨_,_⟩⟩⟩
  ·simp at iw
  ·simp at iw
  ·exact ⟨v,v2,rfl⟩
  ·simp at iw
 obtain rfl:=V0.lit_inv (hv 0 _ _ rfl rfl);obtain rfl:=V0.lit_inv (hv 1 _ _ rfl rfl);by_cases h0:n=0
 ·subst h0;have gQ:=Any8.slices_Grow_room zE none 0 0 0 w (by omega) (by omega) (by omega) (by omega);change Calls Tryz.prog 236 _ _ _ at gQ;refine gQ.mono ?_;rintro en w' ⟨rfl,rfl⟩;exact ⟨_,rfl,Below.refl _ _,⟨none,rfl⟩,rfl⟩
 ·obtain ⟨d,i0,z,hd,hi,hz,fK,aV⟩:=ff ti9;injection aV with q1 q2 q3 q4 q5 q6 q7 q8 q9
  have aJ:z.cells.size=1:=by
   rw [←Array.length_toList,←q9];rfl
  have gQ:=Any8.slices_Grow_grow zE i0 z hi hz (by omega) none 0 0 n [] w (by omega) (by omega) (by rw [←q3];omega) (by omega) (by simp) (fun _=>rfl) (fun a h=>by cases h);change Calls Tryz.prog 236 _ _ _ at gQ;refine gQ.mono ?_;rintro en w' ⟨rfl,rfl⟩;have g1:=grownCap_ge w n 0 9;have g2:=grownCap_le_maxLen w n 0 9 (by simp only [maxLen];omega);have I7:growLays_ren.t 25=9:=rfl;rw [I7] at *;simp only [Nat.zero_add] at *;generalize grownCap w n 0 9=G at *;refine ⟨_,rfl,?_,?_⟩
  ·exact xq (show Below w.heap.size w w.drew from ⟨rfl,rfl,rfl,Nat.le_refl _,fun _ _=>rfl⟩) _
  ·unfold OwnRow;rw [if_neg (by simpa using h0)];refine ⟨w.heap.size,G,_,rfl,Nat.le_refl _,heap_alloc_new w.drew _,?_,Nat.zero_le _,g2,fun k x j c hk=>by simp at hk⟩;simp [Builtin.zeroCells,aJ];omega
theorem I8:VC Tryz.prog 236 [.lit (.slice none 0 0),I 0] (.lit (.slice none 0 0)):=by
 refine ⟨by kernel_rfl,fun w M vs hM iw hv=>?_⟩;obtain ⟨v1,v2,rfl⟩ : ∃ v1 v2,vs=[v1,v2]:=by
  rcases vs with _|⟨v,_|⟨v2,_|⟨_,_⟩⟩⟩
  ·simp at iw
  ·simp at iw
  ·exact ⟨v,v2,rfl⟩
  ·simp at iw
 obtain rfl:=V0.lit_inv (hv 0 _ _ rfl rfl);obtain rfl:=V0.lit_inv (hv 1 _ _ rfl rfl);have gQ:=Any8.slices_Grow_room zE none 0 0 0 w (by omega) (by omega) (by omega) (by omega);change Calls Tryz.prog 236 _ _ _ at gQ;refine gQ.mono ?_;rintro en w' ⟨rfl,rfl⟩;exact ⟨_,rfl,Below.refl _ _,.lit _⟩
theorem I9 {P:Program} {f:FuncId} {args:List AV} {e sz:Nat} (h:VC P f args (.lit (.slice none 0 0))) (aJ:0 < sz) : VCo P f args e sz true []:=
 ⟨h.1,aJ,fun k x hk=>by simp at hk,fun w M vs hM hl hv=>(h.2 w M vs hM hl hv).mono fun en w' ⟨v,he,hb,hr⟩=>⟨v,he,hb,⟨none,V0.lit_inv hr⟩,rfl⟩⟩
def jP (L:List (List (List AV))) (k:Nat) : Nat:=(L.take k).flatten.length
def oC (L:List (List (List AV))) (k:Nat) : List (List AV):=(L.take k).flatten
theorem D8 {L:List (List (List AV))} {k:Nat} (h:k < L.length) : oC L (k+1)=oC L k++L[k]:=by
 unfold oC;rw [List.take_succ_eq_append_getElem h,List.flatten_append];simp
theorem D9 {L:List (List (List AV))} {k:Nat} (h:k < L.length) : jP L (k+1)=jP L k+L[k].length:=by
 have:=congrArg List.length (D8 h);simpa [jP,oC] using this
theorem I_ {L:List (List (List AV))} : oC L L.length=L.flatten:=by simp [oC]
theorem D_ {L:List (List (List AV))} {k:Nat} : jP L k≤L.flatten.length:=by
 unfold jP;have:L.flatten=(L.take k).flatten++(L.drop k).flatten:=by rw [←List.flatten_append,List.take_append_drop]
 rw [this,List.length_append];omega
abbrev Ai (L:List (List (List AV))) : AV:=.sl 1 (L.map fun l=>[.sl 1 l])
theorem Ja (L:List (List (List AV))) (h1:∀ x∈L.flatten,x.length=1∧∀ c∈x,cP c=true) (hn:L.flatten.length≤100000) (hl:L.length≤1000) (h0:0 < L.flatten.length) : VCo Tryz.prog 233 [Ai L] 9 1 false L.flatten:=by
 obtain ⟨n,rA⟩ : ∃ n,L.flatten.length=n:=⟨_,rfl⟩
 have qd:∀ k,jP L k≤n:=fun k=>by rw [←rA];exact D_
 have qe:jP L L.length=n:=by rw [←rA];simp [jP]
 rw [rA] at hn h0;have HG:=Lib.hid (I6 n hn);have H1:=Lib.hid h1;have HN:=Lib.hid hn;have HS:=Lib.hid qd;clear qd rA;have HF:=Lib.hid qe;have QN:jP L 0=0:=rfl;clear h1 hn qe;refine uP Tryz.func233 rfl (by kernel_rfl) (by kernel_rfl) rfl Tryz.results233 (by decide) (fun k x hx=>H1.out x (List.mem_of_getElem? hx)) fun M0 w0=>?_;simp only [Tryz.ntmps233,aC];repeat' with_reducible first|apply af|apply ae|apply aE|apply aa|refine ah [] ?_|(apply ab;intro X Y;go_simp;apply Y;clear Y X)
 apply jQ [0,9,10] (fun k=>[(11,I (k:Int)),(3,I (jP L k:Int))]) (fun k=>([] : Hp))  (L.length)
 ·go_simp<;>exact rfl
 ·go_simp
 ·intro k hk K hK;obtain ⟨w1,w2,w3,w4,w5,w6⟩:=ixs (m:=k) (by omega);have e1:=D9 hk;have e2:=HS.out (k+1);have hb:jP L k+L[k].length≤100000:=by have:=HN.out;omega
  have hw:=gG (x:=(jP L k:Int)+(L[k].length:Int)) (by omega) (by omega);have bz:¬((jP L k:Int)+(L[k].length:Int) < 0):=by omega
  have e3:(jP L (k+1) : Int)=(jP L k:Int)+(L[k].length:Int):=by rw [e1,Int.natCast_add]
  have E3:=Lib.hid e3;clear e1 e2 e3 hb;repeat' with_reducible first|apply af|apply ae|apply aw|apply aE|apply bc|apply aa|refine ah [] ?_|(apply ax;·go_simp)|(apply ar;·go_simp)|(apply ab;intro X Y;go_simp;apply Y;clear Y X)
  refine hK _ ?_;rw [E3.out];go_simp
 ·intro K;have e:=HF.out;have hg:=HG.out;rw [show decide (n=0)=false from decide_eq_false (by omega)] at hg;rw [e];clear e;have QO:oC L 0=[]:=rfl;repeat' first|(with_reducible first|apply af|apply ae|apply bU|apply bV|apply aE|apply bW|apply aa|refine ah [24] ?_|(apply ar;·go_simp))|((with_reducible apply ab);intro X Y;go_simp;(first|(refine ⟨_,_,.inl ⟨_,hg,?_⟩⟩)|skip);apply Y;clear Y X)
  apply jQ [25,26] (fun k=>[(27,I (k:Int)),(6,.osl 0)]) (fun k=>([some (.arr 9 1 false (oC L k))] : Hp))  (L.length)
  ·go_simp<;>exact rfl
  ·go_simp
  ·intro k hk K hK;obtain ⟨w1,w2,w3,w4,w5,w6⟩:=ixs (m:=k) (by omega);have e1:=Lib.hid (D8 hk);have hb:(oC L k).length+L[k].length≤1000000000:=by
    have h2:=D9 hk;have h3:=HS.out (k+1);have:=HN.out;unfold jP at h2 h3;unfold oC;omega
   repeat' with_reducible first|apply af|apply ae|apply aw|apply aE|apply bc|apply aa|refine ah [] ?_|(apply ax;·go_simp)|(apply ab;intro X Y;go_simp;apply Y;clear Y X)
   refine hK _ ?_;rw [e1.out];go_simp
  ·intro K;rw [I_];repeat' with_reducible first|apply af|apply ae|apply bU|apply az|apply bV|apply bW|apply aa|refine ah [] ?_|(apply ar;·go_simp)|(apply ab;intro X Y;go_simp;apply Y;clear Y X)
   exact ⟨0,rfl,rfl⟩
theorem Jb (L:List (List (List AV))) (hl:L.length≤1000) (h0:L.flatten.length=0) : VC Tryz.prog 233 [Ai L] (.lit (.slice none 0 0)):=by
 have Jc:∀ k,jP L k=0:=fun k=>by have:=D_ (L:=L) (k:=k);omega
 have dE:∀ k (h:k < L.length),L[k]=[]:=fun k h=>by
  have:=List.length_eq_zero_iff.1 h0;rw [List.flatten_eq_nil_iff] at this;exact this _ (List.getElem_mem h)
 have HN:=Lib.hid dE;clear dE h0;have Jd:IntKind.i64.wrap 0=0:=rfl;obtain ⟨d,i0,z,hd,hi,hz,fK,aV⟩:=ff ti9;refine aL Tryz.func233 rfl (by kernel_rfl) rfl fun M0 w0=>?_;simp only [Tryz.ntmps233,Tryz.results233,aC];repeat' with_reducible first|apply af|apply ae|apply aE|apply aa|refine ah [] ?_|(apply ab;intro X Y;go_simp;apply Y;clear Y X)
 apply jQ [0,9,10] (fun k=>[(11,I (k:Int)),(3,I 0)]) (fun k=>([] : Hp))  (L.length)
 ·go_simp<;>exact rfl
 ·go_simp
 ·intro k hk K hK;obtain ⟨w1,w2,w3,w4,w5,w6⟩:=ixs (m:=k) (by omega);have e:=HN.out k hk;repeat' with_reducible first|apply af|apply ae|apply aw|apply aE|apply bc|apply aa|refine ah [] ?_|(apply ax;·go_simp)|(apply ar;·go_simp)|(apply ab;intro X Y;go_simp;apply Y;clear Y X)
  refine hK _ ?_;go_simp
 ·intro K;repeat' first|(with_reducible first|apply af|apply ae|apply bU|apply bV|apply aE|apply bW|apply aa|refine ah [] ?_|(apply ar;·go_simp))|((with_reducible apply ab);intro X Y;go_simp;(first|(refine ⟨_,I8,?_⟩)|skip);apply Y;clear Y X)
  apply jQ [25,26] (fun k=>[(27,I (k:Int)),(6,.lit (.slice none 0 0))]) (fun k=>([] : Hp))  (L.length)
  ·go_simp<;>exact rfl
  ·go_simp
  ·intro k hk K hK;obtain ⟨w1,w2,w3,w4,w5,w6⟩:=ixs (m:=k) (by omega);have e:=HN.out k hk;repeat' with_reducible apply af
   refine ah [] ?_;repeat' with_reducible first|apply af|apply ae|apply aw|apply aE|apply aa|(apply ax;·go_simp)|(apply ab;intro X Y;go_simp;apply Y;clear Y X)
   refine ah [] ?_;repeat' with_reducible first|apply ae|apply aa|(apply ab;intro X Y;go_simp;apply Y;clear Y X)
   refine dm (bb [] 2 ⟨rfl,rfl⟩ ?_);simp only [au];repeat' with_reducible first|apply aa|(apply ab;intro X Y;go_simp;apply Y;clear Y X)
   refine IY (sz:=1) ⟨rfl,rfl,rfl⟩ Tryz.underlying62 hi (by go_simp) (by go_simp) ?_;refine bb [] 1 ⟨rfl,rfl⟩ ?_;simp only [au];repeat' with_reducible first|apply aa|(apply ab;intro X Y;go_simp;apply Y;clear Y X)
   apply cF;repeat' with_reducible first|apply ae|apply bc
   refine ah [] ?_;repeat' with_reducible first|apply ae|apply aa|(apply ab;intro X Y;go_simp;apply Y;clear Y X)
   refine hK _ ?_;go_simp
  ·intro K;repeat' with_reducible first|apply af|apply ae|apply bU|apply az|apply bV|apply bW|apply aa|refine ah [] ?_|(apply ar;·go_simp)|(apply ab;intro X Y;go_simp;apply Y;clear Y X)
   go_simp
theorem Ea (L:List (List (List AV))) (h1:∀ x∈L.flatten,x.length=1∧∀ c∈x,cP c=true) (hn:L.flatten.length≤100000) (hl:L.length≤1000) : VCo Tryz.prog 233 [Ai L] 9 1 (decide (L.flatten.length=0)) L.flatten:=by
 by_cases h0:L.flatten.length=0
 ·rw [decide_eq_true h0,List.length_eq_zero_iff.1 h0];exact I9 (Jb L hl h0) (by decide)
 ·rw [decide_eq_false h0];exact Ja L h1 hn hl (by omega)
end Go.Proofs.YtoibondihdhnoaaGreatDoor
