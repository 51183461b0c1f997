/- Texts in one: Walks on rows of texts: copies, several rows behind one another. -/
import Derived.Test.YtoibondihdhnoaaGreatDoorFRY8
import Derived.Test.YtoibondihdhnoaaGreatDoorFRY9
import Derived.Test.YtoibondihdhnoaaGreatDoorFRY14
import Derived.Test.YtoibondihdhnoaaGreatDoorFRY12
import Derived.Test.YtoibondihdhnoaaGreatDoorFRY0
namespace Go.Proofs.YtoibondihdhnoaaGreatDoor
open Go.RowKit
set_option maxRecDepth 100000
set_option maxHeartbeats 2000000
def cq (r:Ru) (s:St) (mv:List Sg) (n1 n2:Bool) : Hp:=
 [some (.box [.osl 1,.osl 2,I s.time,.sl 4 (r.ranks.map Rk.av),I r.back,I r.ret,.osl 3]),some (.bag 62 1 false none (bx s.q)),some (.arr 148 3 n1 (s.tk.map Tk.av)),some (.arr 45 3 n2 (mv.map Sg.av))]
theorem rM (l:List ByteArray) (c:ByteArray) : l.map bL++[[S c]]=(l++[c]).map bL:=by simp [bL]
theorem vi (l:List ByteArray) : (l.map bL).tail=l.tail.map bL:=List.map_tail.symm
def upQ (q:List (List ByteArray)) (k f:Nat) : List (List ByteArray):=(q.set f (qat q f).tail).set k (qat q k++[tat (qat q f) 0])
def upM (q:List (List ByteArray)) (k f:Nat) : List Sg:=[⟨3,f,tat (qat q f) 0⟩,⟨0,k,tat (qat q f) 0⟩]
theorem I_ {q:List (List ByteArray)} {k f:Nat} : ((bx q).set f ((qat q f).map bL).tail).set k ((qat q k).map bL++[[S (tat (qat q f) 0)]])=bx (upQ q k f):=by
 rw [rM,vi,lR,lR];rfl
theorem Ea (r:Ru) (s:St) (mv:List Sg) (n1 n2:Bool) (k f:Nat) (hk:k < s.q.length) (hr:r.ranks.length=s.q.length) (hf:(rat r.ranks k).feeder=f) (cM:f < s.q.length) (ax:f≠k) (hp:0 < (qat s.q f).length) (hq:(qat s.q k).length+1≤1000000000) (hm:mv.length+2≤1000000000) :
  VH Tryz.prog 157 (cq r s mv n1 n2) [.ref 0 0,I (k:Int)] [0] (cq r ⟨upQ s.q k f,s.tk,s.time⟩ (mv++upM s.q k f) n1 false) (.tup []):=by
 have cw:k < r.ranks.length:=by omega
 have ht:=ie hp;have vj:1≤(qat s.q f).length:=hp;refine dk Tryz.func157 rfl (by kernel_rfl) rfl (fun _=>by kernel_rfl) fun M0 w0 vs=>?_;simp only [Tryz.ntmps157,Tryz.results157,aC];unfold cq;repeat' with_reducible apply af
 refine ah [] ?_;repeat' with_reducible first|apply af|apply ae|apply aa|(apply ab;intro X Y;go_simp;apply Y;clear Y X)
 refine ah [] ?_;repeat' with_reducible first|apply af|apply ae|apply aa|(apply ab;intro X Y;go_simp;apply Y;clear Y X)
 refine na 16 [] (by kernel_rfl) (by kernel_rfl) ?_;simp only [aA];repeat' with_reducible first|apply af|apply ae|apply aa|apply aP|((first|apply ab|apply aO);intro X Y;go_simp;apply Y;clear Y X)
 refine mQ 16 [0,41,41,42,42,43,43,44,44,45,1,46] (by kernel_rfl) (by kernel_rfl) (by kernel_rfl) (unW 1) (mZ 1) rfl ⟨rfl,rfl⟩ ?_;simp only [List.take];repeat' with_reducible first|apply aP|(apply aO;intro X Y;go_simp;apply Y;clear Y X)
 refine ⟨_,_,tC (id:=1) (k:=k) (es:=(qat s.q k).map bL) (c:=S (tat (qat s.q f) 0)) (by exact rfl) (by exact rfl) (by go_simp) (by go_simp) rN ti9 (by exact rfl) (by go_simp),?_,?_,?_⟩
 ·simp only [List.forall_mem_cons];go_simp
 ·repeat' with_reducible first|apply aP|(apply aO;intro X Y;go_simp;apply Y;clear Y X)
  simp only [List.forall_mem_cons];go_simp
 go_simp;refine bM [] 2 ⟨rfl,rfl⟩ ?_;simp only [aA];repeat' with_reducible first|apply aa|(apply ab;intro X Y;go_simp;apply Y;clear Y X)
 apply da;repeat' with_reducible apply ae
 refine ah [] ?_;repeat' with_reducible first|apply aa|(apply ab;intro X Y;go_simp;apply Y;clear Y X)
 go_simp;refine ⟨?_,?_⟩
 ·rw [←ht];exact I_
 ·simp [upM,ht,Sg.av]
set_option maxHeartbeats 1000000
theorem Ja (n:Nat) (hn:n≤100000) : VCo Tryz.prog 236 [.lit (.slice none 0 0),I n] 9 1 (decide (n=0)) []:=by
 refine ⟨by kernel_rfl,by decide,fun k x hk=>by simp at hk,?_⟩;intro w M vs hM ix hv;obtain ⟨v1,v2,rfl⟩ : ∃ v1 v2,vs=[v1,v2]:=by
  rcases vs with _|⟨v,_|⟨v2,_|⟨_,_⟩⟩⟩
  ·simp at ix
  ·simp at ix
  ·exact ⟨v,v2,rfl⟩
  ·simp at ix
 obtain rfl:=V0.lit_inv (hv 0 _ _ rfl rfl);obtain rfl:=V0.lit_inv (hv 1 _ _ rfl rfl);by_cases h0:n=0
 ·subst h0;have gX:=Any8.slices_Grow_room zY none 0 0 0 w (by omega) (by omega) (by omega) (by omega);change Calls Tryz.prog 236 _ _ _ at gX;refine gX.mono ?_;rintro en w' ⟨rfl,rfl⟩;exact ⟨_,rfl,Below.refl _ _,⟨none,rfl⟩,rfl⟩
 ·obtain ⟨d,i0,z,hd,hi,hz,fE,aV⟩:=e_ ti9;injection aV with q1 q2 q3 q4 q5 q6 q7 q8 q9
  have aM:z.cells.size=1:=by
   rw [←Array.length_toList,←q9];rfl
  have gX:=Any8.slices_Grow_grow zY i0 z hi hz (by omega) none 0 0 n [] w (by omega) (by omega) (by rw [←q3];omega) (by omega) (by simp) (fun _=>rfl) (fun a h=>by cases h);change Calls Tryz.prog 236 _ _ _ at gX;refine gX.mono ?_;rintro en w' ⟨rfl,rfl⟩;have g1:=grownCap_ge w n 0 9;have g2:=grownCap_le_maxLen w n 0 9 (by simp only [maxLen];omega);have Jb:growLays_ren.t 25=9:=rfl;rw [Jb] at *;simp only [Nat.zero_add] at *;generalize grownCap w n 0 9=G at *;refine ⟨_,rfl,?_,?_⟩
  ·exact xd (show Below w.heap.size w w.drew from ⟨rfl,rfl,rfl,Nat.le_refl _,fun _ _=>rfl⟩) _
  ·unfold OwnRow;rw [if_neg (by simpa using h0)];refine ⟨w.heap.size,G,_,rfl,Nat.le_refl _,heap_alloc_new w.drew _,?_,Nat.zero_le _,g2,fun k x j c hk=>by simp at hk⟩;simp [Builtin.zeroCells,aM];omega
theorem Jc:VC Tryz.prog 236 [.lit (.slice none 0 0),I 0] (.lit (.slice none 0 0)):=by
 refine ⟨by kernel_rfl,fun w M vs hM ix hv=>?_⟩;obtain ⟨v1,v2,rfl⟩ : ∃ v1 v2,vs=[v1,v2]:=by
  rcases vs with _|⟨v,_|⟨v2,_|⟨_,_⟩⟩⟩
  ·simp at ix
  ·simp at ix
  ·exact ⟨v,v2,rfl⟩
  ·simp at ix
 obtain rfl:=V0.lit_inv (hv 0 _ _ rfl rfl);obtain rfl:=V0.lit_inv (hv 1 _ _ rfl rfl);have gX:=Any8.slices_Grow_room zY none 0 0 0 w (by omega) (by omega) (by omega) (by omega);change Calls Tryz.prog 236 _ _ _ at gX;refine gX.mono ?_;rintro en w' ⟨rfl,rfl⟩;exact ⟨_,rfl,Below.refl _ _,.lit _⟩
theorem Jd {P:Program} {f:FuncId} {args:List AV} {e sz:Nat} (h:VC P f args (.lit (.slice none 0 0))) (aM:0 < sz) : VCo P f args e sz true []:=
 ⟨h.1,aM,fun k x hk=>by simp at hk,fun w M vs hM hl hv=>(h.2 w M vs hM hl hv).mono fun en w' ⟨v,he,hb,hr⟩=>⟨v,he,hb,⟨none,V0.lit_inv hr⟩,rfl⟩⟩
def jO (L:List (List (List AV))) (k:Nat) : Nat:=(L.take k).flatten.length
def oB (L:List (List (List AV))) (k:Nat) : List (List AV):=(L.take k).flatten
theorem Eb {L:List (List (List AV))} {k:Nat} (h:k < L.length) : oB L (k+1)=oB L k++L[k]:=by
 unfold oB;rw [List.take_succ_eq_append_getElem h,List.flatten_append];simp
theorem Ec {L:List (List (List AV))} {k:Nat} (h:k < L.length) : jO L (k+1)=jO L k+L[k].length:=by
 have:=congrArg List.length (Eb h);simpa [jO,oB] using this
theorem Je {L:List (List (List AV))} : oB L L.length=L.flatten:=by simp [oB]
theorem Ed {L:List (List (List AV))} {k:Nat} : jO L k≤L.flatten.length:=by
 unfold jO;have:L.flatten=(L.take k).flatten++(L.drop k).flatten:=by rw [←List.flatten_append,List.take_append_drop]
 rw [this,List.length_append];omega
abbrev AL (L:List (List (List AV))) : AV:=.sl 1 (L.map fun l=>[.sl 1 l])
theorem Jf (L:List (List (List AV))) (h1:∀ x∈L.flatten,x.length=1∧∀ c∈x,cQ c=true) (hn:L.flatten.length≤100000) (hl:L.length≤1000) (h0:0 < L.flatten.length) : VCo Tryz.prog 233 [AL L] 9 1 false L.flatten:=by
 obtain ⟨n,xA⟩ : ∃ n,L.flatten.length=n:=⟨_,rfl⟩
 have qh:∀ k,jO L k≤n:=fun k=>by rw [←xA];exact Ed
 have qi:jO L L.length=n:=by rw [←xA];simp [jO]
 rw [xA] at hn h0;have HG:=Lib.hid (Ja n hn);have H1:=Lib.hid h1;have HN:=Lib.hid hn;have HS:=Lib.hid qh;clear qh xA;have HF:=Lib.hid qi;have QF:jO L 0=0:=rfl;clear h1 hn qi;refine vk Tryz.func233 rfl (by kernel_rfl) (by kernel_rfl) rfl Tryz.results233 (by decide) (fun k x hx=>H1.out x (List.mem_of_getElem? hx)) fun M0 w0=>?_;simp only [Tryz.ntmps233,aC];repeat' with_reducible first|apply af|apply ae|apply az|apply aa|refine ah [] ?_|(apply ab;intro X Y;go_simp;apply Y;clear Y X)
 apply k8 [0,9,10] (fun k=>[(11,I (k:Int)),(3,I (jO L k:Int))]) (fun k=>([] : Hp))  (L.length)
 ·go_simp<;>exact rfl
 ·go_simp
 ·intro k hk K hK;obtain ⟨w1,w2,w3,w4,w5,w6⟩:=ixs (m:=k) (by omega);have e1:=Ec hk;have e2:=HS.out (k+1);have hb:jO L k+L[k].length≤100000:=by have:=HN.out;omega
  have hw:=fM (x:=(jO L k:Int)+(L[k].length:Int)) (by omega) (by omega);have bD:¬((jO L k:Int)+(L[k].length:Int) < 0):=by omega
  have e3:(jO L (k+1) : Int)=(jO L k:Int)+(L[k].length:Int):=by rw [e1,Int.natCast_add]
  have E3:=Lib.hid e3;clear e1 e2 e3 hb;repeat' with_reducible first|apply af|apply ae|apply ao|apply az|apply aY|apply aa|refine ah [] ?_|(apply au;·go_simp)|(apply aj;·go_simp)|(apply ab;intro X Y;go_simp;apply Y;clear Y X)
  refine hK _ ?_;rw [E3.out];go_simp
 ·intro K;have e:=HF.out;have hg:=HG.out;rw [show decide (n=0)=false from decide_eq_false (by omega)] at hg;rw [e];clear e;have QG:oB L 0=[]:=rfl;repeat' first|(with_reducible first|apply af|apply ae|apply bE|apply bF|apply az|apply bG|apply aa|refine ah [24] ?_|(apply aj;·go_simp))|((with_reducible apply ab);intro X Y;go_simp;(first|(refine ⟨_,_,.inl ⟨_,hg,?_⟩⟩)|skip);apply Y;clear Y X)
  apply k8 [25,26] (fun k=>[(27,I (k:Int)),(6,.osl 0)]) (fun k=>([some (.arr 9 1 false (oB L k))] : Hp))  (L.length)
  ·go_simp<;>exact rfl
  ·go_simp
  ·intro k hk K hK;obtain ⟨w1,w2,w3,w4,w5,w6⟩:=ixs (m:=k) (by omega);have e1:=Lib.hid (Eb hk);have hb:(oB L k).length+L[k].length≤1000000000:=by
    have h2:=Ec hk;have h3:=HS.out (k+1);have:=HN.out;unfold jO at h2 h3;unfold oB;omega
   repeat' with_reducible first|apply af|apply ae|apply ao|apply az|apply aY|apply aa|refine ah [] ?_|(apply au;·go_simp)|(apply ab;intro X Y;go_simp;apply Y;clear Y X)
   refine hK _ ?_;rw [e1.out];go_simp
  ·intro K;rw [Je];repeat' with_reducible first|apply af|apply ae|apply bE|apply aw|apply bF|apply bG|apply aa|refine ah [] ?_|(apply aj;·go_simp)|(apply ab;intro X Y;go_simp;apply Y;clear Y X)
   exact ⟨0,rfl,rfl⟩
theorem Jg (L:List (List (List AV))) (hl:L.length≤1000) (h0:L.flatten.length=0) : VC Tryz.prog 233 [AL L] (.lit (.slice none 0 0)):=by
 have Jh:∀ k,jO L k=0:=fun k=>by have:=Ed (L:=L) (k:=k);omega
 have dB:∀ k (h:k < L.length),L[k]=[]:=fun k h=>by
  have:=List.length_eq_zero_iff.1 h0;rw [List.flatten_eq_nil_iff] at this;exact this _ (List.getElem_mem h)
 have HN:=Lib.hid dB;clear dB h0;have AM:IntKind.i64.wrap 0=0:=rfl;obtain ⟨d,i0,z,hd,hi,hz,fE,aV⟩:=e_ ti9;refine aJ Tryz.func233 rfl (by kernel_rfl) rfl fun M0 w0=>?_;simp only [Tryz.ntmps233,Tryz.results233,aC];repeat' with_reducible first|apply af|apply ae|apply az|apply aa|refine ah [] ?_|(apply ab;intro X Y;go_simp;apply Y;clear Y X)
 apply k8 [0,9,10] (fun k=>[(11,I (k:Int)),(3,I 0)]) (fun k=>([] : Hp))  (L.length)
 ·go_simp<;>exact rfl
 ·go_simp
 ·intro k hk K hK;obtain ⟨w1,w2,w3,w4,w5,w6⟩:=ixs (m:=k) (by omega);have e:=HN.out k hk;repeat' with_reducible first|apply af|apply ae|apply ao|apply az|apply aY|apply aa|refine ah [] ?_|(apply au;·go_simp)|(apply aj;·go_simp)|(apply ab;intro X Y;go_simp;apply Y;clear Y X)
  refine hK _ ?_;go_simp
 ·intro K;repeat' first|(with_reducible first|apply af|apply ae|apply bE|apply bF|apply az|apply bG|apply aa|refine ah [] ?_|(apply aj;·go_simp))|((with_reducible apply ab);intro X Y;go_simp;(first|(refine ⟨_,Jc,?_⟩)|skip);apply Y;clear Y X)
  apply k8 [25,26] (fun k=>[(27,I (k:Int)),(6,.lit (.slice none 0 0))]) (fun k=>([] : Hp))  (L.length)
  ·go_simp<;>exact rfl
  ·go_simp
  ·intro k hk K hK;obtain ⟨w1,w2,w3,w4,w5,w6⟩:=ixs (m:=k) (by omega);have e:=HN.out k hk;repeat' with_reducible apply af
   refine ah [] ?_;repeat' with_reducible first|apply af|apply ae|apply ao|apply az|apply aa|(apply au;·go_simp)|(apply ab;intro X Y;go_simp;apply Y;clear Y X)
   refine ah [] ?_;repeat' with_reducible first|apply ae|apply aa|(apply ab;intro X Y;go_simp;apply Y;clear Y X)
   refine eC (bM [] 2 ⟨rfl,rfl⟩ ?_);simp only [aA];repeat' with_reducible first|apply aa|(apply ab;intro X Y;go_simp;apply Y;clear Y X)
   refine I3 (sz:=1) ⟨rfl,rfl,rfl⟩ Tryz.underlying62 hi (by go_simp) (by go_simp) ?_;refine bM [] 1 ⟨rfl,rfl⟩ ?_;simp only [aA];repeat' with_reducible first|apply aa|(apply ab;intro X Y;go_simp;apply Y;clear Y X)
   apply da;repeat' with_reducible first|apply ae|apply aY
   refine ah [] ?_;repeat' with_reducible first|apply ae|apply aa|(apply ab;intro X Y;go_simp;apply Y;clear Y X)
   refine hK _ ?_;go_simp
  ·intro K;repeat' with_reducible first|apply af|apply ae|apply bE|apply aw|apply bF|apply bG|apply aa|refine ah [] ?_|(apply aj;·go_simp)|(apply ab;intro X Y;go_simp;apply Y;clear Y X)
   go_simp
theorem Ee (L:List (List (List AV))) (h1:∀ x∈L.flatten,x.length=1∧∀ c∈x,cQ c=true) (hn:L.flatten.length≤100000) (hl:L.length≤1000) : VCo Tryz.prog 233 [AL L] 9 1 (decide (L.flatten.length=0)) L.flatten:=by
 by_cases h0:L.flatten.length=0
 ·rw [decide_eq_true h0,List.length_eq_zero_iff.1 h0];exact Jd (Jg L hl h0) (by decide)
 ·rw [decide_eq_false h0];exact Jf L h1 hn hl (by omega)
end Go.Proofs.YtoibondihdhnoaaGreatDoor
