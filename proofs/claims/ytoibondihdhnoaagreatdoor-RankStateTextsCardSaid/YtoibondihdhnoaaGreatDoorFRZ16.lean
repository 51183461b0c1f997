/- Texts in one: Walks on rows of texts: copies, several rows behind one another. -/
import Derived.Test.YtoibondihdhnoaaGreatDoorFRZ8
import Derived.Test.YtoibondihdhnoaaGreatDoorFRZ9
import Derived.Test.YtoibondihdhnoaaGreatDoorFRZ14
import Derived.Test.YtoibondihdhnoaaGreatDoorFRZ12
import Derived.Test.YtoibondihdhnoaaGreatDoorFRZ0
namespace Go.Proofs.YtoibondihdhnoaaGreatDoor
open Go.RowKit
set_option maxRecDepth 100000
set_option maxHeartbeats 2000000
def b8 (r:Ru) (s:St) (mv:List Sg) (n1 n2:Bool) : Hp:=
 [some (.box [.osl 1,.osl 2,I s.time,.sl 4 (r.ranks.map Rk.av),I r.back,I r.ret,.osl 3]),some (.bag 62 1 false none (cA s.q)),some (.arr 148 3 n1 (s.tk.map Tk.av)),some (.arr 45 3 n2 (mv.map Sg.av))]
theorem uK (l:List ByteArray) (c:ByteArray) : l.map cL++[[S c]]=(l++[c]).map cL:=by simp [cL]
theorem xL (l:List ByteArray) : (l.map cL).tail=l.tail.map cL:=List.map_tail.symm
def upQ (q:List (List ByteArray)) (k f:Nat) : List (List ByteArray):=(q.set f (qat q f).tail).set k (qat q k++[tat (qat q f) 0])
def upM (q:List (List ByteArray)) (k f:Nat) : List Sg:=[⟨3,f,tat (qat q f) 0⟩,⟨0,k,tat (qat q f) 0⟩]
theorem J4 {q:List (List ByteArray)} {k f:Nat} : ((cA q).set f ((qat q f).map cL).tail).set k ((qat q k).map cL++[[S (tat (qat q f) 0)]])=cA (upQ q k f):=by
 rw [uK,xL,mG,mG];rfl
theorem Ep (r:Ru) (s:St) (mv:List Sg) (n1 n2:Bool) (k f:Nat) (hk:k < s.q.length) (hr:r.ranks.length=s.q.length) (hf:(rat r.ranks k).feeder=f) (gg:f < s.q.length) (aC:f≠k) (hp:0 < (qat s.q f).length) (hq:(qat s.q k).length+1≤1000000000) (hm:mv.length+2≤1000000000) :
  VH Tryz.prog 157 (b8 r s mv n1 n2) [.ref 0 0,I (k:Int)] [0] (b8 r ⟨upQ s.q k f,s.tk,s.time⟩ (mv++upM s.q k f) n1 false) (.tup []):=by
 have cp:k < r.ranks.length:=by omega
 have ht:=bc hp;have l_:1≤(qat s.q f).length:=hp;refine cZ Tryz.func157 rfl (by kernel_rfl) rfl (fun _=>by kernel_rfl) fun M0 w0 vs=>?_;simp only [Tryz.ntmps157,Tryz.results157,az];unfold b8;repeat' with_reducible apply af
 refine ah [] ?_;repeat' with_reducible first|apply af|apply ae|apply aa|(apply ab;intro X Y;go_simp;apply Y;clear Y X)
 refine ah [] ?_;repeat' with_reducible first|apply af|apply ae|apply aa|(apply ab;intro X Y;go_simp;apply Y;clear Y X)
 refine mH 16 [] (by kernel_rfl) (by kernel_rfl) ?_;simp only [aA];repeat' with_reducible first|apply af|apply ae|apply aa|apply aI|((first|apply ab|apply aJ);intro X Y;go_simp;apply Y;clear Y X)
 refine oJ 16 [0,41,41,42,42,43,43,44,44,45,1,46] (by kernel_rfl) (by kernel_rfl) (by kernel_rfl) (unW 1) (nK 1) rfl ⟨rfl,rfl⟩ ?_;simp only [List.take];repeat' with_reducible first|apply aI|(apply aJ;intro X Y;go_simp;apply Y;clear Y X)
 refine ⟨_,_,uG (id:=1) (k:=k) (es:=(qat s.q k).map cL) (c:=S (tat (qat s.q f) 0)) (by exact rfl) (by exact rfl) (by go_simp) (by go_simp) uL ti9 (by exact rfl) (by go_simp),?_,?_,?_⟩
 ·simp only [List.forall_mem_cons];go_simp
 ·repeat' with_reducible first|apply aI|(apply aJ;intro X Y;go_simp;apply Y;clear Y X)
  simp only [List.forall_mem_cons];go_simp
 go_simp;refine bM [] 2 ⟨rfl,rfl⟩ ?_;simp only [aA];repeat' with_reducible first|apply aa|(apply ab;intro X Y;go_simp;apply Y;clear Y X)
 apply c_;repeat' with_reducible apply ae
 refine ah [] ?_;repeat' with_reducible first|apply aa|(apply ab;intro X Y;go_simp;apply Y;clear Y X)
 go_simp;refine ⟨?_,?_⟩
 ·rw [←ht];exact J4
 ·simp [upM,ht,Sg.av]
set_option maxHeartbeats 1000000
theorem J5 (n:Nat) (hn:n≤100000) : VCo Tryz.prog 236 [.lit (.slice none 0 0),I n] 9 1 (decide (n=0)) []:=by
 refine ⟨by kernel_rfl,by decide,fun k x hk=>by simp at hk,?_⟩;intro w M vs hM iQ hv;obtain ⟨v1,v2,rfl⟩ : ∃ v1 v2,vs=[v1,v2]:=by
  rcases vs with _|⟨v,_|⟨v2,_|⟨_,_⟩⟩⟩
  ·simp at iQ
  ·simp at iQ
  ·exact ⟨v,v2,rfl⟩
  ·simp at iQ
 obtain rfl:=V0.lit_inv (hv 0 _ _ rfl rfl);obtain rfl:=V0.lit_inv (hv 1 _ _ rfl rfl);by_cases h0:n=0
 ·subst h0;have gD:=Any8.slices_Grow_room z8 none 0 0 0 w (by omega) (by omega) (by omega) (by omega);change Calls Tryz.prog 236 _ _ _ at gD;refine gD.mono ?_;rintro en w' ⟨rfl,rfl⟩;exact ⟨_,rfl,Below.refl _ _,⟨none,rfl⟩,rfl⟩
 ·obtain ⟨d,i0,z,hd,hi,hz,fc,aV⟩:=eQ ti9;injection aV with q1 q2 q3 q4 q5 q6 q7 q8 q9
  have aM:z.cells.size=1:=by
   rw [←Array.length_toList,←q9];rfl
  have gD:=Any8.slices_Grow_grow z8 i0 z hi hz (by omega) none 0 0 n [] w (by omega) (by omega) (by rw [←q3];omega) (by omega) (by simp) (fun _=>rfl) (fun a h=>by cases h);change Calls Tryz.prog 236 _ _ _ at gD;refine gD.mono ?_;rintro en w' ⟨rfl,rfl⟩;have g1:=grownCap_ge w n 0 9;have g2:=grownCap_le_maxLen w n 0 9 (by simp only [maxLen];omega);have J6:growLays_ren.t 25=9:=rfl;rw [J6] at *;simp only [Nat.zero_add] at *;generalize grownCap w n 0 9=G at *;refine ⟨_,rfl,?_,?_⟩
  ·exact xq (show Below w.heap.size w w.drew from ⟨rfl,rfl,rfl,Nat.le_refl _,fun _ _=>rfl⟩) _
  ·unfold OwnRow;rw [if_neg (by simpa using h0)];refine ⟨w.heap.size,G,_,rfl,Nat.le_refl _,heap_alloc_new w.drew _,?_,Nat.zero_le _,g2,fun k x j c hk=>by simp at hk⟩;simp [Builtin.zeroCells,aM];omega
theorem J7:VC Tryz.prog 236 [.lit (.slice none 0 0),I 0] (.lit (.slice none 0 0)):=by
 refine ⟨by kernel_rfl,fun w M vs hM iQ hv=>?_⟩;obtain ⟨v1,v2,rfl⟩ : ∃ v1 v2,vs=[v1,v2]:=by
  rcases vs with _|⟨v,_|⟨v2,_|⟨_,_⟩⟩⟩
  ·simp at iQ
  ·simp at iQ
  ·exact ⟨v,v2,rfl⟩
  ·simp at iQ
 obtain rfl:=V0.lit_inv (hv 0 _ _ rfl rfl);obtain rfl:=V0.lit_inv (hv 1 _ _ rfl rfl);have gD:=Any8.slices_Grow_room z8 none 0 0 0 w (by omega) (by omega) (by omega) (by omega);change Calls Tryz.prog 236 _ _ _ at gD;refine gD.mono ?_;rintro en w' ⟨rfl,rfl⟩;exact ⟨_,rfl,Below.refl _ _,.lit _⟩
theorem J8 {P:Program} {f:FuncId} {args:List AV} {e sz:Nat} (h:VC P f args (.lit (.slice none 0 0))) (aM:0 < sz) : VCo P f args e sz true []:=
 ⟨h.1,aM,fun k x hk=>by simp at hk,fun w M vs hM hl hv=>(h.2 w M vs hM hl hv).mono fun en w' ⟨v,he,hb,hr⟩=>⟨v,he,hb,⟨none,V0.lit_inv hr⟩,rfl⟩⟩
def jN (L:List (List (List AV))) (k:Nat) : Nat:=(L.take k).flatten.length
def nN (L:List (List (List AV))) (k:Nat) : List (List AV):=(L.take k).flatten
theorem Er {L:List (List (List AV))} {k:Nat} (h:k < L.length) : nN L (k+1)=nN L k++L[k]:=by
 unfold nN;rw [List.take_succ_eq_append_getElem h,List.flatten_append];simp
theorem Es {L:List (List (List AV))} {k:Nat} (h:k < L.length) : jN L (k+1)=jN L k+L[k].length:=by
 have:=congrArg List.length (Er h);simpa [jN,nN] using this
theorem J9 {L:List (List (List AV))} : nN L L.length=L.flatten:=by simp [nN]
theorem Et {L:List (List (List AV))} {k:Nat} : jN L k≤L.flatten.length:=by
 unfold jN;have:L.flatten=(L.take k).flatten++(L.drop k).flatten:=by rw [←List.flatten_append,List.take_append_drop]
 rw [this,List.length_append];omega
abbrev AR (L:List (List (List AV))) : AV:=.sl 1 (L.map fun l=>[.sl 1 l])
theorem J_ (L:List (List (List AV))) (h1:∀ x∈L.flatten,x.length=1∧∀ c∈x,cY c=true) (hn:L.flatten.length≤100000) (hl:L.length≤1000) (h0:0 < L.flatten.length) : VCo Tryz.prog 233 [AR L] 9 1 false L.flatten:=by
 obtain ⟨n,xM⟩ : ∃ n,L.flatten.length=n:=⟨_,rfl⟩
 have ma:∀ k,jN L k≤n:=fun k=>by rw [←xM];exact Et
 have p9:jN L L.length=n:=by rw [←xM];simp [jN]
 rw [xM] at hn h0;have HG:=Lib.hid (J5 n hn);have H1:=Lib.hid h1;have HN:=Lib.hid hn;have HS:=Lib.hid ma;clear ma xM;have HF:=Lib.hid p9;have RC:jN L 0=0:=rfl;clear h1 hn p9;refine Eu Tryz.func233 rfl (by kernel_rfl) (by kernel_rfl) rfl Tryz.results233 (by decide) (fun k x hx=>H1.out x (List.mem_of_getElem? hx)) fun M0 w0=>?_;simp only [Tryz.ntmps233,az];repeat' with_reducible first|apply af|apply ae|apply ar|apply aa|refine ah [] ?_|(apply ab;intro X Y;go_simp;apply Y;clear Y X)
 apply iy [0,9,10] (fun k=>[(11,I (k:Int)),(3,I (jN L k:Int))]) (fun k=>([] : Hp))  (L.length)
 ·go_simp<;>exact rfl
 ·go_simp
 ·intro k hk K hK;obtain ⟨w1,w2,w3,w4,w5,w6⟩:=ixs (m:=k) (by omega);have e1:=Es hk;have e2:=HS.out (k+1);have hb:jN L k+L[k].length≤100000:=by have:=HN.out;omega
  have hw:=cj (x:=(jN L k:Int)+(L[k].length:Int)) (by omega) (by omega);have bw:¬((jN L k:Int)+(L[k].length:Int) < 0):=by omega
  have e3:(jN L (k+1) : Int)=(jN L k:Int)+(L[k].length:Int):=by rw [e1,Int.natCast_add]
  have E3:=Lib.hid e3;clear e1 e2 e3 hb;repeat' with_reducible first|apply af|apply ae|apply aj|apply ar|apply aT|apply aa|refine ah [] ?_|(apply ao;·go_simp)|(apply ak;·go_simp)|(apply ab;intro X Y;go_simp;apply Y;clear Y X)
  refine hK _ ?_;rw [E3.out];go_simp
 ·intro K;have e:=HF.out;have hg:=HG.out;rw [show decide (n=0)=false from decide_eq_false (by omega)] at hg;rw [e];clear e;have tc:nN L 0=[]:=rfl;repeat' first|(with_reducible first|apply af|apply ae|apply aW|apply aX|apply ar|apply aY|apply aa|refine ah [24] ?_|(apply ak;·go_simp))|((with_reducible apply ab);intro X Y;go_simp;(first|(refine ⟨_,_,.inl ⟨_,hg,?_⟩⟩)|skip);apply Y;clear Y X)
  apply iy [25,26] (fun k=>[(27,I (k:Int)),(6,.osl 0)]) (fun k=>([some (.arr 9 1 false (nN L k))] : Hp))  (L.length)
  ·go_simp<;>exact rfl
  ·go_simp
  ·intro k hk K hK;obtain ⟨w1,w2,w3,w4,w5,w6⟩:=ixs (m:=k) (by omega);have e1:=Lib.hid (Er hk);have hb:(nN L k).length+L[k].length≤1000000000:=by
    have h2:=Es hk;have h3:=HS.out (k+1);have:=HN.out;unfold jN at h2 h3;unfold nN;omega
   repeat' with_reducible first|apply af|apply ae|apply aj|apply ar|apply aT|apply aa|refine ah [] ?_|(apply ao;·go_simp)|(apply ab;intro X Y;go_simp;apply Y;clear Y X)
   refine hK _ ?_;rw [e1.out];go_simp
  ·intro K;rw [J9];repeat' with_reducible first|apply af|apply ae|apply aW|apply aq|apply aX|apply aY|apply aa|refine ah [] ?_|(apply ak;·go_simp)|(apply ab;intro X Y;go_simp;apply Y;clear Y X)
   exact ⟨0,rfl,rfl⟩
theorem Ka (L:List (List (List AV))) (hl:L.length≤1000) (h0:L.flatten.length=0) : VC Tryz.prog 233 [AR L] (.lit (.slice none 0 0)):=by
 have Kb:∀ k,jN L k=0:=fun k=>by have:=Et (L:=L) (k:=k);omega
 have eJ:∀ k (h:k < L.length),L[k]=[]:=fun k h=>by
  have:=List.length_eq_zero_iff.1 h0;rw [List.flatten_eq_nil_iff] at this;exact this _ (List.getElem_mem h)
 have HN:=Lib.hid eJ;clear eJ h0;have RD:IntKind.i64.wrap 0=0:=rfl;obtain ⟨d,i0,z,hd,hi,hz,fc,aV⟩:=eQ ti9;refine aK Tryz.func233 rfl (by kernel_rfl) rfl fun M0 w0=>?_;simp only [Tryz.ntmps233,Tryz.results233,az];repeat' with_reducible first|apply af|apply ae|apply ar|apply aa|refine ah [] ?_|(apply ab;intro X Y;go_simp;apply Y;clear Y X)
 apply iy [0,9,10] (fun k=>[(11,I (k:Int)),(3,I 0)]) (fun k=>([] : Hp))  (L.length)
 ·go_simp<;>exact rfl
 ·go_simp
 ·intro k hk K hK;obtain ⟨w1,w2,w3,w4,w5,w6⟩:=ixs (m:=k) (by omega);have e:=HN.out k hk;repeat' with_reducible first|apply af|apply ae|apply aj|apply ar|apply aT|apply aa|refine ah [] ?_|(apply ao;·go_simp)|(apply ak;·go_simp)|(apply ab;intro X Y;go_simp;apply Y;clear Y X)
  refine hK _ ?_;go_simp
 ·intro K;repeat' first|(with_reducible first|apply af|apply ae|apply aW|apply aX|apply ar|apply aY|apply aa|refine ah [] ?_|(apply ak;·go_simp))|((with_reducible apply ab);intro X Y;go_simp;(first|(refine ⟨_,J7,?_⟩)|skip);apply Y;clear Y X)
  apply iy [25,26] (fun k=>[(27,I (k:Int)),(6,.lit (.slice none 0 0))]) (fun k=>([] : Hp))  (L.length)
  ·go_simp<;>exact rfl
  ·go_simp
  ·intro k hk K hK;obtain ⟨w1,w2,w3,w4,w5,w6⟩:=ixs (m:=k) (by omega);have e:=HN.out k hk;repeat' with_reducible apply af
   refine ah [] ?_;repeat' with_reducible first|apply af|apply ae|apply aj|apply ar|apply aa|(apply ao;·go_simp)|(apply ab;intro X Y;go_simp;apply Y;clear Y X)
   refine ah [] ?_;repeat' with_reducible first|apply ae|apply aa|(apply ab;intro X Y;go_simp;apply Y;clear Y X)
   refine ec (bM [] 2 ⟨rfl,rfl⟩ ?_);simp only [aA];repeat' with_reducible first|apply aa|(apply ab;intro X Y;go_simp;apply Y;clear Y X)
   refine JV (sz:=1) ⟨rfl,rfl,rfl⟩ Tryz.underlying62 hi (by go_simp) (by go_simp) ?_;refine bM [] 1 ⟨rfl,rfl⟩ ?_;simp only [aA];repeat' with_reducible first|apply aa|(apply ab;intro X Y;go_simp;apply Y;clear Y X)
   apply c_;repeat' with_reducible first|apply ae|apply aT
   refine ah [] ?_;repeat' with_reducible first|apply ae|apply aa|(apply ab;intro X Y;go_simp;apply Y;clear Y X)
   refine hK _ ?_;go_simp
  ·intro K;repeat' with_reducible first|apply af|apply ae|apply aW|apply aq|apply aX|apply aY|apply aa|refine ah [] ?_|(apply ak;·go_simp)|(apply ab;intro X Y;go_simp;apply Y;clear Y X)
   go_simp
theorem Ew (L:List (List (List AV))) (h1:∀ x∈L.flatten,x.length=1∧∀ c∈x,cY c=true) (hn:L.flatten.length≤100000) (hl:L.length≤1000) : VCo Tryz.prog 233 [AR L] 9 1 (decide (L.flatten.length=0)) L.flatten:=by
 by_cases h0:L.flatten.length=0
 ·rw [decide_eq_true h0,List.length_eq_zero_iff.1 h0];exact J8 (Ka L hl h0) (by decide)
 ·rw [decide_eq_false h0];exact J_ L h1 hn hl (by omega)
end Go.Proofs.YtoibondihdhnoaaGreatDoor
