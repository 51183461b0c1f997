/- Texts in one: slices.Clone at rows of texts and of cars that were taken. -/
import Derived.Test.YtoibondihdhnoaaGreatDoorFRK9
import Derived.Test.YtoibondihdhnoaaGreatDoorFRK10
import Derived.Test.YtoibondihdhnoaaGreatDoorFRK15
import Derived.Test.YtoibondihdhnoaaGreatDoorFRK13
import Derived.Test.YtoibondihdhnoaaGreatDoorFRK1
import Derived.Lib.LazyBuf
namespace Go.Proofs.YtoibondihdhnoaaGreatDoor
open Go.RowKit
set_option maxRecDepth 100000
set_option maxHeartbeats 2000000
def ct (r:Ru) (s:St) (mv:List Sg) (n1 n2:Bool) : Hp:=
 [some (.box [.osl 1,.osl 2,I s.time,.sl 4 (r.ranks.map Rk.av),I r.back,I r.ret,.osl 3]),some (.bag 62 1 false none (bo s.q)),some (.arr 148 3 n1 (s.tk.map Tk.av)),some (.arr 45 3 n2 (mv.map Sg.av))]
theorem rH (l:List ByteArray) (c:ByteArray) : l.map bU++[[S c]]=(l++[c]).map bU:=by simp [bU]
theorem uP (l:List ByteArray) : (l.map bU).tail=l.tail.map bU:=List.map_tail.symm
def upQ (q:List (List ByteArray)) (k f:Nat) : List (List ByteArray):=(q.set f (qat q f).tail).set k (qat q k++[tat (qat q f) 0])
def upM (q:List (List ByteArray)) (k f:Nat) : List Sg:=[⟨3,f,tat (qat q f) 0⟩,⟨0,k,tat (qat q f) 0⟩]
theorem IT {q:List (List ByteArray)} {k f:Nat} : ((bo q).set f ((qat q f).map bU).tail).set k ((qat q k).map bU++[[S (tat (qat q f) 0)]])=bo (upQ q k f):=by
 rw [rH,uP,lk,lk];rfl
theorem DZ (r:Ru) (s:St) (mv:List Sg) (n1 n2:Bool) (k f:Nat) (hk:k < s.q.length) (hr:r.ranks.length=s.q.length) (hf:(rat r.ranks k).feeder=f) (dh:f < s.q.length) (au:f≠k) (hp:0 < (qat s.q f).length) (hq:(qat s.q k).length+1≤1000000000) (hm:mv.length+2≤1000000000) :
  VH Tryz.prog 157 (ct r s mv n1 n2) [.ref 0 0,I (k:Int)] [0] (ct r ⟨upQ s.q k f,s.tk,s.time⟩ (mv++upM s.q k f) n1 false) (.tup []):=by
 have cN:k < r.ranks.length:=by omega
 have ht:=dE hp;have lT:1≤(qat s.q f).length:=hp;refine dk Tryz.func157 rfl (by kernel_rfl) rfl (fun _=>by kernel_rfl) fun M0 w0 vs=>?_;simp only [Tryz.ntmps157,Tryz.results157,aB];unfold ct;repeat' with_reducible apply af
 refine ah [] ?_;repeat' with_reducible first|apply af|apply ae|apply aa|(apply ab;intro X Y;go_simp;apply Y;clear Y X)
 refine ah [] ?_;repeat' with_reducible first|apply af|apply ae|apply aa|(apply ab;intro X Y;go_simp;apply Y;clear Y X)
 refine oF 16 [] (by kernel_rfl) (by kernel_rfl) ?_;simp only [ax];repeat' with_reducible first|apply af|apply ae|apply aa|apply aR|((first|apply ab|apply aS);intro X Y;go_simp;apply Y;clear Y X)
 refine mZ 16 [0,41,41,42,42,43,43,44,44,45,1,46] (by kernel_rfl) (by kernel_rfl) (by kernel_rfl) (unW 1) (ni 1) rfl ⟨rfl,rfl⟩ ?_;simp only [List.take];repeat' with_reducible first|apply aR|(apply aS;intro X Y;go_simp;apply Y;clear Y X)
 refine ⟨_,_,s_ (id:=1) (k:=k) (es:=(qat s.q k).map bU) (c:=S (tat (qat s.q f) 0)) (by exact rfl) (by exact rfl) (by go_simp) (by go_simp) rI ti9 (by exact rfl) (by go_simp),?_,?_,?_⟩
 ·simp only [List.forall_mem_cons];go_simp
 ·repeat' with_reducible first|apply aR|(apply aS;intro X Y;go_simp;apply Y;clear Y X)
  simp only [List.forall_mem_cons];go_simp
 go_simp;refine bz [] 2 ⟨rfl,rfl⟩ ?_;simp only [ax];repeat' with_reducible first|apply aa|(apply ab;intro X Y;go_simp;apply Y;clear Y X)
 apply cR;repeat' with_reducible apply ae
 refine ah [] ?_;repeat' with_reducible first|apply aa|(apply ab;intro X Y;go_simp;apply Y;clear Y X)
 go_simp;refine ⟨?_,?_⟩
 ·rw [←ht];exact IT
 ·simp [upM,ht,Sg.av]
set_option maxHeartbeats 1000000
theorem IU (n:Nat) (hn:n≤100000) : VCo Tryz.prog 236 [.lit (.slice none 0 0),I n] 9 1 (decide (n=0)) []:=by
 refine ⟨by kernel_rfl,by decide,fun k x hk=>by simp at hk,?_⟩;intro w M vs hM gJ hv;obtain ⟨v1,v2,rfl⟩ : ∃ v1 v2,vs=[v1,v2]:=by
  rcases vs with _|⟨v,_|⟨v2,_|⟨_,_⟩⟩⟩
  ·simp at gJ
  ·simp at gJ
  ·exact ⟨v,v2,rfl⟩
  ·simp at gJ
 obtain rfl:=V0.lit_inv (hv 0 _ _ rfl rfl);obtain rfl:=V0.lit_inv (hv 1 _ _ rfl rfl);by_cases h0:n=0
 ·subst h0;have fV:=Any8.slices_Grow_room zH none 0 0 0 w (by omega) (by omega) (by omega) (by omega);change Calls Tryz.prog 236 _ _ _ at fV;refine fV.mono ?_;rintro en w' ⟨rfl,rfl⟩;exact ⟨_,rfl,Below.refl _ _,⟨none,rfl⟩,rfl⟩
 ·obtain ⟨d,i0,z,hd,hi,hz,fp,aY⟩:=eS ti9;injection aY with q1 q2 q3 q4 q5 q6 q7 q8 q9
  have aL:z.cells.size=1:=by
   rw [←Array.length_toList,←q9];rfl
  have fV:=Any8.slices_Grow_grow zH i0 z hi hz (by omega) none 0 0 n [] w (by omega) (by omega) (by rw [←q3];omega) (by omega) (by simp) (fun _=>rfl) (fun a h=>by cases h);change Calls Tryz.prog 236 _ _ _ at fV;refine fV.mono ?_;rintro en w' ⟨rfl,rfl⟩;have g1:=grownCap_ge w n 0 9;have g2:=grownCap_le_maxLen w n 0 9 (by simp only [maxLen];omega);have IV:growLays_ren.t 25=9:=rfl;rw [IV] at *;simp only [Nat.zero_add] at *;generalize grownCap w n 0 9=G at *;refine ⟨_,rfl,?_,?_⟩
  ·exact th (show Below w.heap.size w w.drew from ⟨rfl,rfl,rfl,Nat.le_refl _,fun _ _=>rfl⟩) _
  ·unfold OwnRow;rw [if_neg (by simpa using h0)];refine ⟨w.heap.size,G,_,rfl,Nat.le_refl _,heap_alloc_new w.drew _,?_,Nat.zero_le _,g2,fun k x j c hk=>by simp at hk⟩;simp [Builtin.zeroCells,aL];omega
theorem IW:VC Tryz.prog 236 [.lit (.slice none 0 0),I 0] (.lit (.slice none 0 0)):=by
 refine ⟨by kernel_rfl,fun w M vs hM gJ hv=>?_⟩;obtain ⟨v1,v2,rfl⟩ : ∃ v1 v2,vs=[v1,v2]:=by
  rcases vs with _|⟨v,_|⟨v2,_|⟨_,_⟩⟩⟩
  ·simp at gJ
  ·simp at gJ
  ·exact ⟨v,v2,rfl⟩
  ·simp at gJ
 obtain rfl:=V0.lit_inv (hv 0 _ _ rfl rfl);obtain rfl:=V0.lit_inv (hv 1 _ _ rfl rfl);have fV:=Any8.slices_Grow_room zH none 0 0 0 w (by omega) (by omega) (by omega) (by omega);change Calls Tryz.prog 236 _ _ _ at fV;refine fV.mono ?_;rintro en w' ⟨rfl,rfl⟩;exact ⟨_,rfl,Below.refl _ _,.lit _⟩
theorem IX {P:Program} {f:FuncId} {args:List AV} {e sz:Nat} (h:VC P f args (.lit (.slice none 0 0))) (aL:0 < sz) : VCo P f args e sz true []:=
 ⟨h.1,aL,fun k x hk=>by simp at hk,fun w M vs hM hl hv=>(h.2 w M vs hM hl hv).mono fun en w' ⟨v,he,hb,hr⟩=>⟨v,he,hb,⟨none,V0.lit_inv hr⟩,rfl⟩⟩
def jW (L:List (List (List AV))) (k:Nat) : Nat:=(L.take k).flatten.length
def oG (L:List (List (List AV))) (k:Nat) : List (List AV):=(L.take k).flatten
theorem D0 {L:List (List (List AV))} {k:Nat} (h:k < L.length) : oG L (k+1)=oG L k++L[k]:=by
 unfold oG;rw [List.take_succ_eq_append_getElem h,List.flatten_append];simp
theorem D7 {L:List (List (List AV))} {k:Nat} (h:k < L.length) : jW L (k+1)=jW L k+L[k].length:=by
 have:=congrArg List.length (D0 h);simpa [jW,oG] using this
theorem IY {L:List (List (List AV))} : oG L L.length=L.flatten:=by simp [oG]
theorem D8 {L:List (List (List AV))} {k:Nat} : jW L k≤L.flatten.length:=by
 unfold jW;have:L.flatten=(L.take k).flatten++(L.drop k).flatten:=by rw [←List.flatten_append,List.take_append_drop]
 rw [this,List.length_append];omega
abbrev Ao (L:List (List (List AV))) : AV:=.sl 1 (L.map fun l=>[.sl 1 l])
theorem IZ (L:List (List (List AV))) (h1:∀ x∈L.flatten,x.length=1∧∀ c∈x,cV c=true) (hn:L.flatten.length≤100000) (hl:L.length≤1000) (h0:0 < L.flatten.length) : VCo Tryz.prog 233 [Ao L] 9 1 false L.flatten:=by
 obtain ⟨n,xv⟩ : ∃ n,L.flatten.length=n:=⟨_,rfl⟩
 have ky:∀ k,jW L k≤n:=fun k=>by rw [←xv];exact D8
 have qm:jW L L.length=n:=by rw [←xv];simp [jW]
 rw [xv] at hn h0;have HG:=Lib.hid (IU n hn);have H1:=Lib.hid h1;have HN:=Lib.hid hn;have HS:=Lib.hid ky;clear ky xv;have HF:=Lib.hid qm;have Qa:jW L 0=0:=rfl;clear h1 hn qm;refine xw Tryz.func233 rfl (by kernel_rfl) (by kernel_rfl) rfl Tryz.results233 (by decide) (fun k x hx=>H1.out x (List.mem_of_getElem? hx)) fun M0 w0=>?_;simp only [Tryz.ntmps233,aB];repeat' with_reducible first|apply af|apply ae|apply aA|apply aa|refine ah [] ?_|(apply ab;intro X Y;go_simp;apply Y;clear Y X)
 apply mu [0,9,10] (fun k=>[(11,I (k:Int)),(3,I (jW L k:Int))]) (fun k=>([] : Hp))  (L.length)
 ·go_simp<;>exact rfl
 ·go_simp
 ·intro k hk K hK;obtain ⟨w1,w2,w3,w4,w5,w6⟩:=ixs (m:=k) (by omega);have e1:=D7 hk;have e2:=HS.out (k+1);have hb:jW L k+L[k].length≤100000:=by have:=HN.out;omega
  have hw:=gZ (x:=(jW L k:Int)+(L[k].length:Int)) (by omega) (by omega);have bm:¬((jW L k:Int)+(L[k].length:Int) < 0):=by omega
  have e3:(jW L (k+1) : Int)=(jW L k:Int)+(L[k].length:Int):=by rw [e1,Int.natCast_add]
  have E3:=Lib.hid e3;clear e1 e2 e3 hb;repeat' with_reducible first|apply af|apply ae|apply ar|apply aA|apply bf|apply aa|refine ah [] ?_|(apply aw;·go_simp)|(apply ak;·go_simp)|(apply ab;intro X Y;go_simp;apply Y;clear Y X)
  refine hK _ ?_;rw [E3.out];go_simp
 ·intro K;have e:=HF.out;have hg:=HG.out;rw [show decide (n=0)=false from decide_eq_false (by omega)] at hg;rw [e];clear e;have Qb:oG L 0=[]:=rfl;repeat' first|(with_reducible first|apply af|apply ae|apply bP|apply bQ|apply aA|apply bT|apply aa|refine ah [24] ?_|(apply ak;·go_simp))|((with_reducible apply ab);intro X Y;go_simp;(first|(refine ⟨_,_,.inl ⟨_,hg,?_⟩⟩)|skip);apply Y;clear Y X)
  apply mu [25,26] (fun k=>[(27,I (k:Int)),(6,.osl 0)]) (fun k=>([some (.arr 9 1 false (oG L k))] : Hp))  (L.length)
  ·go_simp<;>exact rfl
  ·go_simp
  ·intro k hk K hK;obtain ⟨w1,w2,w3,w4,w5,w6⟩:=ixs (m:=k) (by omega);have e1:=Lib.hid (D0 hk);have hb:(oG L k).length+L[k].length≤1000000000:=by
    have h2:=D7 hk;have h3:=HS.out (k+1);have:=HN.out;unfold jW at h2 h3;unfold oG;omega
   repeat' with_reducible first|apply af|apply ae|apply ar|apply aA|apply bf|apply aa|refine ah [] ?_|(apply aw;·go_simp)|(apply ab;intro X Y;go_simp;apply Y;clear Y X)
   refine hK _ ?_;rw [e1.out];go_simp
  ·intro K;rw [IY];repeat' with_reducible first|apply af|apply ae|apply bP|apply az|apply bQ|apply bT|apply aa|refine ah [] ?_|(apply ak;·go_simp)|(apply ab;intro X Y;go_simp;apply Y;clear Y X)
   exact ⟨0,rfl,rfl⟩
theorem I0 (L:List (List (List AV))) (hl:L.length≤1000) (h0:L.flatten.length=0) : VC Tryz.prog 233 [Ao L] (.lit (.slice none 0 0)):=by
 have I1:∀ k,jW L k=0:=fun k=>by have:=D8 (L:=L) (k:=k);omega
 have dZ:∀ k (h:k < L.length),L[k]=[]:=fun k h=>by
  have:=List.length_eq_zero_iff.1 h0;rw [List.flatten_eq_nil_iff] at this;exact this _ (List.getElem_mem h)
 have HN:=Lib.hid dZ;clear dZ h0;have Qc:IntKind.i64.wrap 0=0:=rfl;obtain ⟨d,i0,z,hd,hi,hz,fp,aY⟩:=eS ti9;refine aQ Tryz.func233 rfl (by kernel_rfl) rfl fun M0 w0=>?_;simp only [Tryz.ntmps233,Tryz.results233,aB];repeat' with_reducible first|apply af|apply ae|apply aA|apply aa|refine ah [] ?_|(apply ab;intro X Y;go_simp;apply Y;clear Y X)
 apply mu [0,9,10] (fun k=>[(11,I (k:Int)),(3,I 0)]) (fun k=>([] : Hp))  (L.length)
 ·go_simp<;>exact rfl
 ·go_simp
 ·intro k hk K hK;obtain ⟨w1,w2,w3,w4,w5,w6⟩:=ixs (m:=k) (by omega);have e:=HN.out k hk;repeat' with_reducible first|apply af|apply ae|apply ar|apply aA|apply bf|apply aa|refine ah [] ?_|(apply aw;·go_simp)|(apply ak;·go_simp)|(apply ab;intro X Y;go_simp;apply Y;clear Y X)
  refine hK _ ?_;go_simp
 ·intro K;repeat' first|(with_reducible first|apply af|apply ae|apply bP|apply bQ|apply aA|apply bT|apply aa|refine ah [] ?_|(apply ak;·go_simp))|((with_reducible apply ab);intro X Y;go_simp;(first|(refine ⟨_,IW,?_⟩)|skip);apply Y;clear Y X)
  apply mu [25,26] (fun k=>[(27,I (k:Int)),(6,.lit (.slice none 0 0))]) (fun k=>([] : Hp))  (L.length)
  ·go_simp<;>exact rfl
  ·go_simp
  ·intro k hk K hK;obtain ⟨w1,w2,w3,w4,w5,w6⟩:=ixs (m:=k) (by omega);have e:=HN.out k hk;repeat' with_reducible apply af
   refine ah [] ?_;repeat' with_reducible first|apply af|apply ae|apply ar|apply aA|apply aa|(apply aw;·go_simp)|(apply ab;intro X Y;go_simp;apply Y;clear Y X)
   refine ah [] ?_;repeat' with_reducible first|apply ae|apply aa|(apply ab;intro X Y;go_simp;apply Y;clear Y X)
   refine dB (bz [] 2 ⟨rfl,rfl⟩ ?_);simp only [ax];repeat' with_reducible first|apply aa|(apply ab;intro X Y;go_simp;apply Y;clear Y X)
   refine IK (sz:=1) ⟨rfl,rfl,rfl⟩ Tryz.underlying62 hi (by go_simp) (by go_simp) ?_;refine bz [] 1 ⟨rfl,rfl⟩ ?_;simp only [ax];repeat' with_reducible first|apply aa|(apply ab;intro X Y;go_simp;apply Y;clear Y X)
   apply cR;repeat' with_reducible first|apply ae|apply bf
   refine ah [] ?_;repeat' with_reducible first|apply ae|apply aa|(apply ab;intro X Y;go_simp;apply Y;clear Y X)
   refine hK _ ?_;go_simp
  ·intro K;repeat' with_reducible first|apply af|apply ae|apply bP|apply az|apply bQ|apply bT|apply aa|refine ah [] ?_|(apply ak;·go_simp)|(apply ab;intro X Y;go_simp;apply Y;clear Y X)
   go_simp
theorem D9 (L:List (List (List AV))) (h1:∀ x∈L.flatten,x.length=1∧∀ c∈x,cV c=true) (hn:L.flatten.length≤100000) (hl:L.length≤1000) : VCo Tryz.prog 233 [Ao L] 9 1 (decide (L.flatten.length=0)) L.flatten:=by
 by_cases h0:L.flatten.length=0
 ·rw [decide_eq_true h0,List.length_eq_zero_iff.1 h0];exact IX (I0 L hl h0) (by decide)
 ·rw [decide_eq_false h0];exact IZ L h1 hn hl (by omega)
theorem D_ {P:Program} {w:World} {t ty e:TypeId} {i:TypeInfo} {z:Value} {sz:Nat} (ht:P.underlying t=some (.slice e)) (hi:P.info? e=some i) (hz:i.zero=some z) (hs:i.size=sz) (eT:z.cells.size=sz) (gL:i.bytes≤100000) (aL:0 < sz)
  {M:Nat→Nat→Prop} {es:List (List AV)} {a:Addr} {n c:Nat} (hv:V0 w M (.sl sz es) (.slice (some a) n c)) (hn:es.length≤1000000000) :
  ∃ v' w',(Builtin.append_ #[t,t] ty #[.slice (some ⟨w.heap.size,0,none⟩) 0 0,.slice (some a) n c]).run P (w.alloc (.cells #[] e)) = .ok v' w'∧Below w.heap.size w w'∧OwnRow w w' M e sz (decide (es=[])) es v':=by
 have hb0:Below w.heap.size w (w.alloc (.cells #[] e)):=(Below.refl _ w).alloc (Nat.le_refl _) _;cases hv with
 | slNil _ _ _=>
  have hr:=DO (P:=P) (ty:=ty) ht hi ⟨w.heap.size,0,none⟩ (some a) c (w.alloc (.cells #[] e));exact ⟨_,_,hr,hb0,⟨_,rfl⟩,rfl⟩
 | sl _ _ _ b o u au hb hM dC iD h1 hc iu=>
  have cu:0 < es.length:=List.length_pos_iff.2 au;have dp:es.length*i.bytes≤281474976710656:=by
   have:es.length*i.bytes≤1000000000*100000:=Nat.mul_le_mul hn gL;omega
  have e1:=Ap (P:=P) (w:=w.alloc (.cells #[] e)) (ty:=ty) ht hi ⟨w.heap.size,0,none⟩ (some ⟨b,o,none⟩) es.length c cu dp hn;obtain ⟨N,hN⟩ : ∃ N:List Value,N=(List.range (es.length*sz)).map fun j=>u (j / sz) (j % sz):=⟨_,rfl⟩
  have pv:N.length=es.length*sz:=by rw [hN];simp
  have nk:∀ j,j < es.length*sz→N[j]? = some (u (j / sz) (j % sz)):=fun j hj=>by rw [hN];simp [hj]
  have hdiv:∀ j,j < es.length*sz→j / sz < es.length∧j % sz < sz∧j / sz*sz+j % sz=j:=fun j hj=>⟨Nat.div_lt_of_lt_mul (by rw [Nat.mul_comm];exact hj),Nat.mod_lt _ aL,by rw [Nat.mul_comm];exact Nat.div_add_mod j sz⟩
  have aD:∀ j v,N[j]? = some v→(w.alloc (.cells #[] e)).cell? ((⟨b,o,none⟩ : Addr).add j)=some v:=fun j v hj=>by
   have bI:j < es.length*sz:=by rw [←pv];exact (List.getElem?_eq_some_iff.1 hj).1
   rw [nk j bI] at hj;obtain rfl:=Option.some.inj hj;obtain ⟨d1,d2,d3⟩:=hdiv j bI;have:=hc _ _ d1 d2;have e3:o+j=o+j / sz*sz+j % sz:=by omega
   rw [jk];show World.cell? _ ⟨b,o+j,none⟩=_;rw [e3];exact tj (hb0.block b hb) this
  have hr:=run_append_nil (P:=P) (w:=w.alloc (.cells #[] e)) t ty e i z ht hi hz ⟨b,o,none⟩ es.length c N (by rw [pv,hs]) aD cu (by omega) dp;have du:=grownCap_ge (w.alloc (.cells #[] e)) es.length 0 e;have fO:=grownCap_le_maxLen (w.alloc (.cells #[] e)) es.length 0 e (by simp only [maxLen];omega);generalize grownCap (w.alloc (.cells #[] e)) es.length 0 e=G at *;refine ⟨_,_,e1.trans hr,?_,?_⟩
  ·exact th hb0.drew _
  ·rw [decide_eq_false au];unfold OwnRow;rw [if_neg (by simp)];have hle:(w.alloc (.cells #[] e)).drew.heap.size=w.heap.size+1:=by simp
   refine ⟨(w.alloc (.cells #[] e)).heap.size,G,_,rfl,by simp,heap_alloc_new (w.alloc (.cells #[] e)).drew _,?_,du,fO,fun k x j cc hk hj=>?_⟩
   ·rw [Array.size_append,size_zeroCells,eT,List.size_toArray,pv,←Nat.add_mul];congr 1;omega
   ·have cF:=(List.getElem?_eq_some_iff.1 hk).1;have bI:j < sz:=by rw [←iD k x hk];exact (List.getElem?_eq_some_iff.1 hj).1
    have aq:k*sz+j < es.length*sz:=by
     have:(k+1)*sz≤es.length*sz:=Nat.mul_le_mul_right _ cF;rw [Nat.add_mul] at this;omega
    have hq:(k*sz+j) / sz=k∧(k*sz+j) % sz=j:=by
     rw [Nat.add_comm,Nat.add_mul_div_right _ _ aL,Nat.add_mul_mod_self_right,Nat.div_eq_of_lt bI,Nat.mod_eq_of_lt bI];exact ⟨Nat.zero_add k,rfl⟩
    refine ⟨u k j,?_,?_⟩
    ·rw [Array.getElem?_append_left (by rw [List.size_toArray,pv];exact aq),List.getElem?_toArray,nk _ aq,hq.1,hq.2]
    ·refine (iu k x j cc hk hj).keep ((Keeps.of_below (M:=M) (th hb0.drew _))) fun b' j' fo hn hm=>?_;rcases hm with hm|hm
     ·exact hn hm
     ·simp at hm;omega
theorem Ea {P:Program} {ops:Array Oper} {Q:Exit→Act→World→Prop} {rest:List Oper} {a:Act} {w w1:World} {o:Oper} {x y:Operand} {t d:Nat} {vx vy v:Value} (ho:o.op = .call ⟨.builtin .append,#[x,y],#[t,t]⟩) (hg:o.guard=none) (hd:o.dst=some d) (hx:a.eval x=vx) (hy:a.eval y=vy)
  (hr:(Builtin.append_ #[t,t] o.type #[vx,vy]).run P w = .ok v w1) (k:wpList P ops Q rest (a.put (some d) v) w1) : wpList P ops Q (o::rest) a w:=by
 obtain ⟨dst,op,ty,pos,after,guard⟩:=o;simp only at ho hg hd hr;subst ho hg hd hx hy;refine wpList_step fun X Y=>?_;simp only [Region.wanted,if_true];unfold Oper.wp;simp only [execOp,resolve,invoke,builtin,Sem.run_bind,Sem.run_pure,Result.andThen_ok,List.map_toArray,List.map_cons,List.map_nil,hr,Oper.upon];exact Y _ _ k
theorem I2 (w:World) (c:Nat) : Calls Tryz.prog 135 #[.slice none 0 c] w fun e w'=>e = .returned (.slice none 0 0)∧w'=w:=by
 have q:∀ (w:World) (a:Option Addr) (n c n' c':Nat),(binOp .eql 62 (.slice a n c) (.slice none n' c')).run Tryz.prog w = .ok (.bool a.isNone) w:=fun w a n c n' c'=>Lib.run_eql_slice_nil w _ _ a n c n' c' Tryz.underlying62;go_enter Tryz.func135,Tryz.ntmps135
 go_wp2
 go_ret
 exact ⟨rfl,rfl⟩
theorem I3 (w:World) (a:Addr) (n c:Nat) (v':Value) (w1:World) (hA:(Builtin.append_ #[62,62] 62 #[.slice (some ⟨w.heap.size,0,none⟩) 0 0,.slice (some a) n c]).run Tryz.prog (w.alloc (.cells #[] 9)) = .ok v' w1) :
  Calls Tryz.prog 135 #[.slice (some a) n c] w fun e w'=>e = .returned v'∧w'=w1:=by
 have q:∀ (w:World) (a:Option Addr) (n c n' c':Nat),(binOp .eql 62 (.slice a n c) (.slice none n' c')).run Tryz.prog w = .ok (.bool a.isNone) w:=fun w a n c n' c'=>Lib.run_eql_slice_nil w _ _ a n c n' c' Tryz.underlying62;have I4:∀ w,Sem.run Tryz.prog (underlying 62) w = .ok (TypeDesc.slice 9) w:=run_underlying Tryz.underlying62;obtain ⟨i0,hi⟩ : ∃ i,Tryz.prog.info? 9=some i:=Option.isSome_iff_exists.1 (by kernel_rfl);go_enter Tryz.func135,Tryz.ntmps135
 go_wp2_with (refine Ea rfl rfl rfl rfl rfl hA ?_)
 go_ret
 exact ⟨rfl,rfl⟩
theorem I5 (es:List (List AV)) (h1:∀ (k:Nat) (x:List AV),es[k]? = some x→x.length=1∧∀ c∈x,cV c=true) (hn:es.length≤1000000000) : VCo Tryz.prog 135 [.sl 1 es] 9 1 (decide (es=[])) es:=by
 refine ⟨by kernel_rfl,by decide,h1,fun w M vs hM gJ hv=>?_⟩;obtain ⟨v1,rfl⟩ : ∃ v1,vs=[v1]:=by
  rcases vs with _|⟨v,_|⟨_,_⟩⟩
  ·simp at gJ
  ·exact ⟨v,rfl⟩
  ·simp at gJ
 have cz:=hv 0 _ _ rfl rfl;obtain ⟨A,n,c,rfl⟩:=cz.sl_form;cases A with
 | none=>
  have e0:es=[]∧n=0:=by
   cases cz with
   | slNil=>exact ⟨rfl,rfl⟩
  obtain ⟨rfl,rfl⟩:=e0;refine (I2 w c).mono ?_;rintro en w' ⟨rfl,rfl⟩;exact ⟨_,rfl,Below.refl _ _,⟨none,rfl⟩,rfl⟩
 | some a=>
  obtain ⟨d,i0,z,hd,hi,hz,fp,aY⟩:=eS ti9;injection aY with q1 q2 q3 q4 q5 q6 q7 q8 q9
  have eT:z.cells.size=1:=by
   rw [←Array.length_toList,←q9];rfl
  obtain ⟨v',w1,hr,hb,ho⟩:=D_ (P:=Tryz.prog) (ty:=62) Tryz.underlying62 hi hz q2.symm eT (by rw [←q3];decide) (by decide) cz hn;refine (I3 w a n c v' w1 hr).mono ?_;rintro en w' ⟨rfl,rfl⟩;exact ⟨_,rfl,hb,ho⟩
theorem I6 (w:World) (c:Nat) : Calls Tryz.prog 156 #[.slice none 0 c] w fun e w'=>e = .returned (.slice none 0 0)∧w'=w:=by
 have q:∀ (w:World) (a:Option Addr) (n c n' c':Nat),(binOp .eql 30 (.slice a n c) (.slice none n' c')).run Tryz.prog w = .ok (.bool a.isNone) w:=fun w a n c n' c'=>Lib.run_eql_slice_nil w _ _ a n c n' c' Tryz.underlying30;go_enter Tryz.func156,Tryz.ntmps156
 go_wp2
 go_ret
 exact ⟨rfl,rfl⟩
theorem I7 (w:World) (a:Addr) (n c:Nat) (v':Value) (w1:World) (hA:(Builtin.append_ #[30,30] 30 #[.slice (some ⟨w.heap.size,0,none⟩) 0 0,.slice (some a) n c]).run Tryz.prog (w.alloc (.cells #[] 148)) = .ok v' w1) :
  Calls Tryz.prog 156 #[.slice (some a) n c] w fun e w'=>e = .returned v'∧w'=w1:=by
 have q:∀ (w:World) (a:Option Addr) (n c n' c':Nat),(binOp .eql 30 (.slice a n c) (.slice none n' c')).run Tryz.prog w = .ok (.bool a.isNone) w:=fun w a n c n' c'=>Lib.run_eql_slice_nil w _ _ a n c n' c' Tryz.underlying30;have I4:∀ w,Sem.run Tryz.prog (underlying 30) w = .ok (TypeDesc.slice 148) w:=run_underlying Tryz.underlying30;obtain ⟨i0,hi⟩ : ∃ i,Tryz.prog.info? 148=some i:=Option.isSome_iff_exists.1 (by kernel_rfl);go_enter Tryz.func156,Tryz.ntmps156
 go_wp2_with (refine Ea rfl rfl rfl rfl rfl hA ?_)
 go_ret
 exact ⟨rfl,rfl⟩
theorem I8 (es:List (List AV)) (h1:∀ (k:Nat) (x:List AV),es[k]? = some x→x.length=3∧∀ c∈x,cV c=true) (hn:es.length≤1000000000) : VCo Tryz.prog 156 [.sl 3 es] 148 3 (decide (es=[])) es:=by
 refine ⟨by kernel_rfl,by decide,h1,fun w M vs hM gJ hv=>?_⟩;obtain ⟨v1,rfl⟩ : ∃ v1,vs=[v1]:=by
  rcases vs with _|⟨v,_|⟨_,_⟩⟩
  ·simp at gJ
  ·exact ⟨v,rfl⟩
  ·simp at gJ
 have cz:=hv 0 _ _ rfl rfl;obtain ⟨A,n,c,rfl⟩:=cz.sl_form;cases A with
 | none=>
  have e0:es=[]∧n=0:=by
   cases cz with
   | slNil=>exact ⟨rfl,rfl⟩
  obtain ⟨rfl,rfl⟩:=e0;refine (I6 w c).mono ?_;rintro en w' ⟨rfl,rfl⟩;exact ⟨_,rfl,Below.refl _ _,⟨none,rfl⟩,rfl⟩
 | some a=>
  obtain ⟨d,i0,z,hd,hi,hz,fp,aY⟩:=eS xy;injection aY with q1 q2 q3 q4 q5 q6 q7 q8 q9
  have eT:z.cells.size=3:=by
   rw [←Array.length_toList,←q9];rfl
  obtain ⟨v',w1,hr,hb,ho⟩:=D_ (P:=Tryz.prog) (ty:=30) Tryz.underlying30 hi hz q2.symm eT (by rw [←q3];decide) (by decide) cz hn;refine (I7 w a n c v' w1 hr).mono ?_;rintro en w' ⟨rfl,rfl⟩;exact ⟨_,rfl,hb,ho⟩
end Go.Proofs.YtoibondihdhnoaaGreatDoor
