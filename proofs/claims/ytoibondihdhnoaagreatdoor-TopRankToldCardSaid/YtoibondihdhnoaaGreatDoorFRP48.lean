/- Texts in one: Walks: which states are right, as the reference has them. -/
import Derived.Test.YtoibondihdhnoaaGreatDoorFRP9
import Derived.Test.YtoibondihdhnoaaGreatDoorFRP46
import Derived.Test.YtoibondihdhnoaaGreatDoorFRP47
import Derived.Test.YtoibondihdhnoaaGreatDoorFRP32
import Derived.Test.YtoibondihdhnoaaGreatDoorFRP35
namespace Go.Proofs.YtoibondihdhnoaaGreatDoor
open Go.RowKit
set_option maxRecDepth 100000
set_option maxHeartbeats 4000000
theorem NW (a b:List Int) : fst (a++b)=if fst a=0 then fst b else fst a:=by
 induction a with
 | nil=>rfl
 | cons x a ih=>
  by_cases h:x=0
  ·simp [fst,h,ih]
  ·simp [fst,h]
theorem NY (E:Nat→Int) (n:Nat) : mW E (n+1)=if mW E n=0 then E n else mW E n:=by
 unfold mW;rw [List.range_succ,List.map_append,NW];congr 1;simp only [List.map_cons,List.map_nil,fst];split
 ·rfl
 ·rename_i h;simp at h;rw [h]
theorem ub {E:Nat→Int} : ∀ {n:Nat},(∀ j,j < n→(!decide (E j=0))=false)→mW E n=0:=fun h=>vA.2 fun j hj=>by simpa using h j hj
theorem zo {E:Nat→Int} {k:Nat} : ∀ {n:Nat},k < n→(∀ j,j < k→(!decide (E j=0))=false)→(!decide (E k=0))=true→mW E n=E k
 | 0,h,_,_=>by omega
 | n+1,h,hb,hp=>by
  have aq:E k≠0:=by simpa using hp
  rw [NY];by_cases he:k=n
  ·subst he;rw [if_pos (ub hb)]
  ·rw [zo (by omega:k < n) hb hp,if_neg aq]
def hQ (s:St) (k:Nat) : List ByteArray:=(s.q.take k).flatten
@[go_sem] theorem NZ (s:St) : hQ s 0=[]:=by simp [hQ]
def kG (s:St) (k:Nat) : List ByteArray:=s.q.flatten++(s.tk.take k).map (·.car)
@[go_sem] theorem Sj (s:St) : kG s 0=hQ s s.q.length:=by simp [kG,hQ]
theorem N0 {s:St} {k:Nat} (h:k < s.tk.length) : kG s (k+1)=kG s k++[(aS s.tk k).car]:=by
 unfold kG;rw [lL h,List.map_append,←List.append_assoc,gS h];rfl
theorem N3 {r:Ru} {s:St} {m:Nat} (h:s.q.length=r.ranks.length) (hm:m < s.q.length) (hb:∀ j,j < m→(!decide (k8 r s j=0))=false) (hp:(!decide (k8 r s m=0))=true) : k9 r s=k8 r s m:=by
 have aq:k8 r s m≠0:=by simpa using hp
 unfold k9;rw [decide_eq_true h,zo hm hb hp];simp [fst,unl,aq]
theorem N4 {r:Ru} {s:St} (h:s.q.length=r.ranks.length) (hq:∀ j,j < s.q.length→(!decide (k8 r s j=0))=false) (h4:¬(s.tk.length:Int)≤40) : k9 r s=8:=by
 unfold k9;rw [decide_eq_true h,ub hq,decide_eq_false h4];simp [fst,unl]
theorem N5 {r:Ru} {s:St} {m:Nat} (h:s.q.length=r.ranks.length) (hq:∀ j,j < s.q.length→(!decide (k8 r s j=0))=false) (h4:(s.tk.length:Int)≤40) (hm:m < s.tk.length) (hb:∀ j,j < m→(!decide (lK r s j=0))=false) (hp:(!decide (lK r s m=0))=true) : k9 r s=lK r s m:=by
 have aq:lK r s m≠0:=by simpa using hp
 unfold k9;rw [decide_eq_true h,ub hq,decide_eq_true h4,zo hm hb hp];simp [fst,unl,aq]
theorem N6 {r:Ru} {s:St} (h:s.q.length=r.ranks.length) (hq:∀ j,j < s.q.length→(!decide (k8 r s j=0))=false) (h4:(s.tk.length:Int)≤40) (ht:∀ j,j < s.tk.length→(!decide (lK r s j=0))=false) : k9 r s=fst [unl (inR s.time 0 604800) 2,unl (decide (cM r s < 0)) 22]:=by
 unfold k9;rw [decide_eq_true h,ub hq,decide_eq_true h4,ub ht];simp [fst,unl]
def gO (L:List ByteArray) : KV:=L.foldl (fun m c=>iN (.string c) (.bool true) m) []
@[go_sem] theorem Sk:gO []=[]:=rfl
theorem Hn (L:List ByteArray) (c:ByteArray) : gO (L++[c])=iN (.string c) (.bool true) (gO L):=by simp [gO]
theorem N7 {P:List ByteArray→Prop} (h0:P []) (h1:∀ l c,P l→P (l++[c])) (l:List ByteArray) : P l:=by
 have h:∀ r:List ByteArray,P r.reverse:=fun r=>by
  induction r with
  | nil=>exact h0
  | cons c r ih=>
   rw [List.reverse_cons];exact h1 _ _ ih
 have:=h l.reverse;rwa [List.reverse_reverse] at this
theorem N8 (c d:ByteArray) (l:List ByteArray) : inL c (l++[d])=(inL c l || decide (c=d)):=by
 rw [Bool.eq_iff_iff,yp];simp [yp]
theorem N9 (c:ByteArray) (L:List ByteArray) : iC (.string c) (gO L)=if inL c L=true then some (.bool true) else none:=by
 refine N7 (P:=fun L=>iC (.string c) (gO L)=if inL c L=true then some (.bool true) else none) ?_ (fun l d ih=>?_) L
 ·rw [if_neg (by rw [yp];simp)];rfl
 rw [Hn,yz,ih,N8];by_cases h:c=d
 ·rw [if_pos h,if_pos (by simp [h])]
 ·rw [if_neg h,decide_eq_false h,Bool.or_false]
theorem N_ (c:ByteArray) (L:List ByteArray) : (iC (.string c) (gO L)).getD (.bool false) = .bool (inL c L):=by
 rw [N9];cases h:inL c L<;>rfl
theorem wD (c:ByteArray) (L:List ByteArray) (hc:c.size≤1000) : VH Tryz.prog 114 [some (.box [.mp 1]),some (.mpo (4,.i64) (gO L))] [S c,.ref 0 0] [1] [some (.box [.mp 1]),some (.mpo (4,.i64) (gO (L++[c])))] (I (mj c L)):=by
 have g1:=rp c hc;have g2:=bN (cu c) 4;have g3:=bN (!inL c L) 5;have g4:VC Tryz.prog 88 [.sl 1 ([unl (cu c) 4,unl (!inL c L) 5].map eJ)] (I (mj c L)):=fP _ rfl rfl;have hf:=N_ c L;rw [Hn];generalize mj c L=E at *;generalize cu c=D1 at *;generalize inL c L=D2 at *;generalize unl D1 4=A1 at *;generalize unl (!D2) 5=A2 at *;generalize gO L=M at *;refine fi Tryz.func114 rfl (by kernel_rfl) rfl (fun _=>by kernel_rfl) fun M0 w0 vs=>?_;simp only [Tryz.ntmps114,Tryz.results114,aF];repeat' first|(with_reducible first|apply af|apply ae|apply ax|apply aa|refine ah [] ?_|apply aT)|((with_reducible first|apply ab|apply aU);intro X Y;go_simp;(first|(with_reducible refine ⟨_,g1,?_⟩)|(with_reducible refine ⟨_,g2,?_⟩)|(with_reducible refine ⟨_,g3,?_⟩)|(refine ⟨_,g4,?_⟩)|skip);apply Y;clear Y X)|((refine bc 11 11 [] rfl (by kernel_rfl) ?_);simp only [az])
 go_simp
theorem VC.args {P:Program} {f:FuncId} {args lT:List AV} {r:AV} (h:VC P f args r) (hl:lT.length=args.length) (ha:∀ (i:Nat) (a a':AV),args[i]? = some a→lT[i]? = some a'→∀ (w:World) (M:Nat→Nat→Prop) (v:Value),V0 w M a' v→V0 w M a v) : VC P f lT r:=
 ⟨h.1,fun w M vs hM fW hv=>h.2 w M vs hM (fW.trans hl) fun i a v hi Oa=>by
  have ao:i < lT.length:=by
   rw [hl];exact (List.getElem?_eq_some_iff.1 hi).1
  exact ha i a _ hi (List.getElem?_eq_getElem ao) w M v (hv i _ v (List.getElem?_eq_getElem ao) Oa)⟩
theorem V0.vpNil {w:World} {M:Nat→Nat→Prop} {v:Value} {a b c d e g:AV} (h:V0 w M (.vp [a,b,c,d,e,g,br]) v) : V0 w M (.vp [a,b,c,d,e,g,.sl 3 []]) v:=by
 cases h with
 | vp _ bk o u hb hM h1 hc hv=>
  refine .vp _ bk o u hb (fun j hj=>hM j (by simpa using hj)) (fun x hx=>?_) (fun j hj=>hc j (by simpa using hj)) fun j x hj=>?_
  ·simp only [List.mem_cons,List.not_mem_nil,or_false] at hx;rcases hx with rfl|rfl|rfl|rfl|rfl|rfl|rfl
   ·exact h1 _ (by simp)
   ·exact h1 _ (by simp)
   ·exact h1 _ (by simp)
   ·exact h1 _ (by simp)
   ·exact h1 _ (by simp)
   ·exact h1 _ (by simp)
   ·rfl
  ·rcases j with _|_|_|_|_|_|_|j
   ·exact hv 0 x hj
   ·exact hv 1 x hj
   ·exact hv 2 x hj
   ·exact hv 3 x hj
   ·exact hv 4 x hj
   ·exact hv 5 x hj
   ·simp only [List.getElem?_cons_zero,List.getElem?_cons_succ,Option.some.injEq] at hj;subst hj;exact (hv 6 _ rfl).nilSl 3
   ·simp at hj
theorem Oc (r:Ru) (s:St) (hl:r.ranks.length≤1000000) (hr:r.ranks.length=s.q.length) (hf:kt r s.q.length) : VC Tryz.prog 115 [.vp [gp s.q,.sl 3 (s.tk.map Tk.av),I s.time,.sl 4 (r.ranks.map Rk.av),I r.back,I r.ret,br]] (I (cM r s)):=
 (zZ r s [] hl hr hf).args rfl fun i a a' h1 h2 w M v hv=>by
  rcases i with _|i
  ·simp only [List.getElem?_cons_zero,Option.some.injEq] at h1 h2;subst h1;subst h2;exact hv.vpNil
  ·simp at h1
theorem Ho (r:Ru) (s:St) (hn:r.ranks.length≤1000000) (cW:∀ k,k < r.ranks.length→(rat r.ranks k).name.size≤1000) (hs:SmallS s) (h:(df r).2≠0∨s.q.length≠r.ranks.length) : VC Tryz.prog 52 [cY r,cT s] (I (fst [(df r).2,10])):=by
 have g1:=yw r hn cW;have yI:=hs.nq;have ed:decide ((s.q.length:Int)=(r.ranks.length:Int))=decide (s.q.length=r.ranks.length):=by
  by_cases hh:s.q.length=r.ranks.length
  ·rw [decide_eq_true hh,decide_eq_true (by omega)]
  ·rw [decide_eq_false hh,decide_eq_false (by omega)]
 have g2:=bN (decide (s.q.length=r.ranks.length)) 10;have g3:VC Tryz.prog 88 [.sl 1 ([(df r).2,unl (decide (s.q.length=r.ranks.length)) 10].map eJ)] (I (fst [(df r).2,unl (decide (s.q.length=r.ranks.length)) 10])):=fP _ rfl rfl;have e:fst [(df r).2,unl (decide (s.q.length=r.ranks.length)) 10]=fst [(df r).2,10]:=by
  rcases h with h|h
  ·simp [fst,h]
  ·rw [decide_eq_false h];rfl
 have aq:fst [(df r).2,10]≠0:=by
  simp only [fst];split
  ·assumption
  ·decide
 rw [e] at g3;rw [←ed] at g2 g3;generalize fst [(df r).2,10]=F at *;generalize (df r).2=A1 at *;clear e h;generalize unl (decide ((s.q.length:Int)=(r.ranks.length:Int))) 10=A2 at *;by_cases hq:(s.q.length:Int)=(r.ranks.length:Int)
 ·rw [decide_eq_true hq] at g2 ed;clear ed;refine aP Tryz.func52 rfl (by kernel_rfl) rfl fun M0 w0=>?_;simp only [Tryz.ntmps52,Tryz.results52,aF];repeat' first|(with_reducible first|apply af|apply ae|apply aZ|apply ax|apply aa|refine ah [] ?_|apply aT|(apply aw;·go_simp))|((with_reducible first|apply ab|apply aU);intro X Y;go_simp;(first|(with_reducible refine ⟨_,g1,?_⟩)|(with_reducible refine ⟨_,g2,?_⟩)|(refine ⟨_,g3,?_⟩)|skip);apply Y;clear Y X)|((refine bc 13 13 [] rfl (by kernel_rfl) ?_);simp only [az])
  go_simp
 ·rw [decide_eq_false hq] at g2 ed;clear ed;refine aP Tryz.func52 rfl (by kernel_rfl) rfl fun M0 w0=>?_;simp only [Tryz.ntmps52,Tryz.results52,aF];repeat' first|(with_reducible first|apply af|apply ae|apply aZ|apply ax|apply aa|refine ah [] ?_|apply aT|(apply aw;·go_simp))|((with_reducible first|apply ab|apply aU);intro X Y;go_simp;(first|(with_reducible refine ⟨_,g1,?_⟩)|(with_reducible refine ⟨_,g2,?_⟩)|(refine ⟨_,g3,?_⟩)|skip);apply Y;clear Y X)|((refine bc 13 13 [] rfl (by kernel_rfl) ?_);simp only [az])
  go_simp
theorem Od (r:Ru) (s:St) (hn:r.ranks.length≤1000000) (cW:∀ k,k < r.ranks.length→(rat r.ranks k).name.size≤1000) (hs:SmallS s) (h0:(df r).2=0) (j6:s.q.length=r.ranks.length) : VC Tryz.prog 52 [cY r,cT s] (I (k9 r s)):=by
 obtain ⟨E,hE⟩ : ∃ E,k9 r s=E:=⟨_,rfl⟩
 rw [hE];have HE:=Lib.hid hE;have g1:=yw r hn cW;have g2:=bN true 10;have g3:VC Tryz.prog 88 [.sl 1 ([(df r).2,unl true 10].map eJ)] (I (fst [(df r).2,unl true 10])):=fP _ rfl rfl;rw [h0] at g1 g3;have e0:unl true 10=0:=rfl;have e1:fst [0,unl true 10]=0:=rfl;rw [e1] at g3;rw [e0] at g2 g3;have hr:=(vB h0).1;have hq:∀ k,k < s.q.length→(qat s.q k).length≤300:=fun k hk=>by rw [ft hk];exact (hs.q1 _ (List.getElem_mem hk)).1
 have Hq:∀ k,k < s.q.length→∀ j,j < (qat s.q k).length→(tat (qat s.q k) j).size≤1000:=fun k hk j hj=>by
  rw [dp hj];refine (hs.q1 _ ?_).2 _ (List.getElem_mem hj);rw [ft hk];exact List.getElem_mem hk
 have Hr:∀ k,k < s.tk.length→(aS s.tk k).car.size≤1000:=fun k hk=>by rw [gS hk];exact (hs.t1 _ (List.getElem_mem hk)).1
 have yI:=hs.nq;have yJ:=hs.nt;have HF:kt r s.q.length:=by rw [j6];exact hr.feed
 have gm:=Oc r s hn j6.symm HF;have i5:=jS s.time 0 604800;have u5:=bN (inR s.time 0 604800) 2;have u6:=bN (decide (cM r s < 0)) 22;have g6:VC Tryz.prog 88 [.sl 1 ([unl (inR s.time 0 604800) 2,unl (decide (cM r s < 0)) 22].map eJ)] (I (fst [unl (inR s.time 0 604800) 2,unl (decide (cM r s < 0)) 22])):=fP _ rfl rfl;have uc:(s.q.length:Int)=(r.ranks.length:Int):=by omega
 have HQ:=Lib.hid hq;have HC:=Lib.hid Hq;have HT:=Lib.hid Hr;have ud:=Lib.hid j6;have Sm:Hid (gO (hQ s 0)=[]):=Lib.hid (by rw [NZ];rfl);clear hE hq Hq Hr hr hs j6 h0 e0 e1 HF cW;refine aP Tryz.func52 rfl (by kernel_rfl) rfl fun M0 w0=>?_;simp only [Tryz.ntmps52,Tryz.results52,aF];repeat' first|(with_reducible first|apply af|apply ae|apply au|apply aB|apply aa|refine ah [] ?_|apply aT|(apply ar;·go_simp))|((with_reducible first|apply ab|apply aU);intro X Y;go_simp;(first|(with_reducible refine ⟨_,g1,?_⟩)|(with_reducible refine ⟨_,g2,?_⟩)|(refine ⟨_,g3,?_⟩)|skip);apply Y;clear Y X)|((refine bc 13 13 [] rfl (by kernel_rfl) ?_);simp only [az])
 apply eo [2,3,7,35,36] (fun k=>[(37,I k)]) (fun k=>([some (.mpo (4,.i64) (gO (hQ s k))),some (.box [.mp 0])] : Hp)) (fun k=>!decide (k8 r s k=0)) (s.q.length)
 ·go_simp<;>exact rfl
 ·go_simp
 ·intro m hm HB HP K hK;obtain ⟨w1,w2,w3,w4,w5,w6⟩:=ixs (m:=m) (by omega);have Oe:m < r.ranks.length:=by have:=ud.out;omega
  have ie:=HQ.out m hm;have hp:k8 r s m=0:=by simpa using HP.out
  unfold k8 at hp;have iF:¬(rat r.ranks m).places < ((qat s.q m).length:Int):=fun h=>by rw [if_pos h] at hp;simp at hp
  rw [if_neg iF,vA] at hp;have zp:=Lib.hid hp;have Of:=Lib.hid (show hQ s (m+1)=hQ s m++qat s.q m from FB hm);clear hp;repeat' with_reducible first|apply af|apply ae|apply au|apply aB|apply aa|refine ah [] ?_|(apply aw;·go_simp)|(apply ar;·go_simp)|(apply ab;intro X Y;go_simp;apply Y;clear Y X)
  apply eo [2,3,7,35,36,37,51,52] (fun k=>[(53,I k)]) (fun k=>([some (.mpo (4,.i64) (gO (hQ s m++(qat s.q m).take k))),some (.box [.mp 0])] : Hp)) (fun j=>!decide (nO (hQ s m) (qat s.q m) j=0)) ((qat s.q m).length)
  ·go_simp<;>exact rfl
  ·go_simp
  ·intro j hj gL gN K2 iO;obtain ⟨x1,x2,x3,x4,x5,x6⟩:=ixs (m:=j) (by omega);have kZ:nO (hQ s m) (qat s.q m) j=0:=zp.out j hj;unfold nO at kZ;have bI:=HC.out m hm j hj;have wn:=wD (tat (qat s.q m) j) (hQ s m++(qat s.q m).take j) bI;rw [kZ] at wn;have bb:=(dp hj).symm;have lQ:(qat s.q m).take (j+1)=(qat s.q m).take j++[tat (qat s.q m) j]:=by rw [lL hj,dp hj]
   rw [lQ,←List.append_assoc] at iO;clear kZ lQ;generalize hQ s m++(qat s.q m).take j=L at *;generalize tat (qat s.q m) j=C at *;generalize gO (L++[C])=M2 at *;generalize gO L=M1 at *;repeat' with_reducible apply af
   refine ah [] ?_;repeat' with_reducible first|apply af|apply ae|apply au|apply aB|apply aa|(apply aw;·go_simp)|(apply ab;intro X Y;go_simp;apply Y;clear Y X)
   refine ah [] ?_;repeat' with_reducible first|apply af|apply ae|apply aa|(apply ab;intro X Y;go_simp;apply Y;clear Y X)
   refine fB (ca [] 2 ⟨rfl,rfl⟩ ?_);simp only [az];repeat' with_reducible first|apply aa|(apply ab;intro X Y;go_simp;apply Y;clear Y X)
   refine fJ [1,0] [1] [] [some (.box [.mp 1]),some (.mpo (4,.i64) (M2))] (I 0) rfl (by go_simp) ?_ ?_
   ·unfold fk;go_simp;refine ⟨_,_,_,wn,?_⟩;go_simp;kernel_rfl
   go_simp;refine ca [] 1 ⟨rfl,rfl⟩ ?_;simp only [az];repeat' with_reducible first|apply aa|(apply ab;intro X Y;go_simp;apply Y;clear Y X)
   apply dA;repeat' with_reducible first|apply af|apply ae|apply au|apply bp|apply aa|refine ah [] ?_|(apply ar;·go_simp)|(apply ab;intro X Y;go_simp;apply Y;clear Y X)
   refine iO _ ?_;go_simp
  ·intro j hj gL gN K2;have h1:nO (hQ s m) (qat s.q m) j=0:=zp.out j hj;have h2:=gN.out;rw [h1] at h2;cases h2
  ·intro gL K2;rw [Of.out] at hK;rw [List.take_length];repeat' with_reducible first|apply af|apply ae|apply bP|apply bQ|apply bp|apply bT|apply aa|refine ah [] ?_|(apply ar;·go_simp)|(apply ab;intro X Y;go_simp;apply Y;clear Y X)
   refine hK _ ?_;go_simp
 ·intro m hm HB HP K;obtain ⟨w1,w2,w3,w4,w5,w6⟩:=ixs (m:=m) (by omega);have Oe:m < r.ranks.length:=by have:=ud.out;omega
  have ie:=HQ.out m hm;have e:=N3 ud.out hm HB.out HP.out;have hp:¬k8 r s m=0:=by simpa using HP.out
  rw [HE.out] at e;unfold k8 at e hp;by_cases iF:(rat r.ranks m).places < ((qat s.q m).length:Int)
  ·rw [if_pos iF] at e;subst e;clear hp;repeat' with_reducible first|apply af|apply ae|apply aZ|apply ax|apply au|apply aB|apply cX|apply aa|refine ah [] ?_|(apply aw;·go_simp)|(apply ab;intro X Y;go_simp;apply Y;clear Y X)
   go_simp
  rw [if_neg iF] at e hp;have Og:=Lib.hid e;have zp:=Lib.hid hp;clear e hp;repeat' with_reducible first|apply af|apply ae|apply au|apply aB|apply aa|refine ah [] ?_|(apply aw;·go_simp)|(apply ar;·go_simp)|(apply ab;intro X Y;go_simp;apply Y;clear Y X)
  apply eo [2,3,7,35,36,37,51,52] (fun k=>[(53,I k)]) (fun k=>([some (.mpo (4,.i64) (gO (hQ s m++(qat s.q m).take k))),some (.box [.mp 0])] : Hp)) (fun j=>!decide (nO (hQ s m) (qat s.q m) j=0)) ((qat s.q m).length)
  ·go_simp<;>exact rfl
  ·go_simp
  ·intro j hj gL gN K2 iO;obtain ⟨x1,x2,x3,x4,x5,x6⟩:=ixs (m:=j) (by omega);have kZ:nO (hQ s m) (qat s.q m) j=0:=by simpa using gN.out
   unfold nO at kZ;have bI:=HC.out m hm j hj;have wn:=wD (tat (qat s.q m) j) (hQ s m++(qat s.q m).take j) bI;rw [kZ] at wn;have bb:=(dp hj).symm;have lQ:(qat s.q m).take (j+1)=(qat s.q m).take j++[tat (qat s.q m) j]:=by rw [lL hj,dp hj]
   rw [lQ,←List.append_assoc] at iO;clear kZ lQ;generalize hQ s m++(qat s.q m).take j=L at *;generalize tat (qat s.q m) j=C at *;generalize gO (L++[C])=M2 at *;generalize gO L=M1 at *;repeat' with_reducible apply af
   refine ah [] ?_;repeat' with_reducible first|apply af|apply ae|apply au|apply aB|apply aa|(apply aw;·go_simp)|(apply ab;intro X Y;go_simp;apply Y;clear Y X)
   refine ah [] ?_;repeat' with_reducible first|apply af|apply ae|apply aa|(apply ab;intro X Y;go_simp;apply Y;clear Y X)
   refine fB (ca [] 2 ⟨rfl,rfl⟩ ?_);simp only [az];repeat' with_reducible first|apply aa|(apply ab;intro X Y;go_simp;apply Y;clear Y X)
   refine fJ [1,0] [1] [] [some (.box [.mp 1]),some (.mpo (4,.i64) M2)] (I 0) rfl (by go_simp) ?_ ?_
   ·unfold fk;go_simp;refine ⟨_,_,_,wn,?_⟩;go_simp;kernel_rfl
   go_simp;refine ca [] 1 ⟨rfl,rfl⟩ ?_;simp only [az];repeat' with_reducible first|apply aa|(apply ab;intro X Y;go_simp;apply Y;clear Y X)
   apply dA;repeat' with_reducible first|apply af|apply ae|apply au|apply bp|apply aa|refine ah [] ?_|(apply ar;·go_simp)|(apply ab;intro X Y;go_simp;apply Y;clear Y X)
   refine iO _ ?_;go_simp
  ·intro j hj gL gN K2;obtain ⟨x1,x2,x3,x4,x5,x6⟩:=ixs (m:=j) (by omega);have e:E=mW (nO (hQ s m) (qat s.q m)) (qat s.q m).length:=Og.out;rw [zo hj gL.out gN.out] at e;unfold nO at e;have bI:=HC.out m hm j hj;have wn:=wD (tat (qat s.q m) j) (hQ s m++(qat s.q m).take j) bI;have bb:=(dp hj).symm;have Sn:¬mj (tat (qat s.q m) j) (hQ s m++(qat s.q m).take j)=0:=fun h=>by
    have h2:=gN.out;rw [show nO (hQ s m) (qat s.q m) j=0 from h] at h2;cases h2
   subst e;generalize hQ s m++(qat s.q m).take j=L at *;generalize tat (qat s.q m) j=C at *;generalize mj C L=E2 at *;generalize gO (L++[C])=M2 at *;generalize gO L=M1 at *;repeat' with_reducible apply af
   refine ah [] ?_;repeat' with_reducible first|apply af|apply ae|apply au|apply aB|apply aa|(apply aw;·go_simp)|(apply ab;intro X Y;go_simp;apply Y;clear Y X)
   refine ah [] ?_;repeat' with_reducible first|apply af|apply ae|apply aa|(apply ab;intro X Y;go_simp;apply Y;clear Y X)
   refine fB (ca [] 2 ⟨rfl,rfl⟩ ?_);simp only [az];repeat' with_reducible first|apply aa|(apply ab;intro X Y;go_simp;apply Y;clear Y X)
   refine fJ [1,0] [1] [] [some (.box [.mp 1]),some (.mpo (4,.i64) M2)] (I E2) rfl (by go_simp) ?_ ?_
   ·unfold fk;go_simp;refine ⟨_,_,_,wn,?_⟩;go_simp;kernel_rfl
   go_simp;refine ca [] 1 ⟨rfl,rfl⟩ ?_;simp only [az];repeat' with_reducible first|apply aa|(apply ab;intro X Y;go_simp;apply Y;clear Y X)
   apply dA;repeat' with_reducible first|apply af|apply ae|apply aZ|apply ax|apply cX|apply aa|refine ah [] ?_|(apply aw;·go_simp)|(apply ab;intro X Y;go_simp;apply Y;clear Y X)
   go_simp
  ·intro gL K2;exfalso;exact zp.out (ub gL.out)
 ·intro HB K;have Cs:=HB;clear HB;by_cases h4:(s.tk.length:Int)≤40
  ·have tF:¬(40:Int) < (s.tk.length:Int):=by omega
   repeat' with_reducible first|apply af|apply ae|apply bP|apply au|apply bQ|apply aB|apply bT|apply aa|refine ah [] ?_|(apply ar;·go_simp)|(apply ab;intro X Y;go_simp;apply Y;clear Y X)
   apply eo [2,3,7,70,71] (fun k=>[(72,I k)]) (fun k=>([some (.mpo (4,.i64) (gO (kG s k))),some (.box [.mp 0])] : Hp)) (fun k=>!decide (lK r s k=0)) (s.tk.length)
   ·go_simp<;>exact rfl
   ·go_simp
   ·intro k hk HB HP K hK;obtain ⟨w1,w2,w3,w4,w5,w6⟩:=ixs (m:=k) (by omega);have bI:=HT.out k hk;have wn:=wD (aS s.tk k).car (kG s k) bI;have i1:=jS (aS s.tk k).rank 0 ((r.ranks.length:Int) - 1);have i2:=jS (aS s.tk k).time 0 s.time;have u1:=bN (inR (aS s.tk k).rank 0 ((r.ranks.length:Int) - 1)) 6;have u2:=bN (inR (aS s.tk k).time 0 s.time) 2;have hw:IntKind.i64.wrap ((r.ranks.length:Int) - 1)=(r.ranks.length:Int) - 1:=iu (by omega) (by omega);have u3:=bN (decide (k=0) || decide ((aS s.tk (k - 1)).time≤(aS s.tk k).time)) 9;have gF:VC Tryz.prog 88 [.sl 1 ([mj (aS s.tk k).car (kG s k),unl (inR (aS s.tk k).rank 0 ((r.ranks.length:Int) - 1)) 6,unl (inR (aS s.tk k).time 0 s.time) 2,unl (decide (k=0) || decide ((aS s.tk (k - 1)).time≤(aS s.tk k).time)) 9].map eJ)] (I (lK r s k)):=fP _ rfl rfl;have hp:lK r s k=0:=by simpa using HP.out
    rw [hp] at gF;rw [N0 hk] at hK;clear hp;generalize inR (aS s.tk k).rank 0 ((r.ranks.length:Int) - 1)=D1 at *;generalize inR (aS s.tk k).time 0 s.time=D2 at *;generalize unl D1 6=A1 at *;generalize unl D2 2=A2 at *;generalize mj (aS s.tk k).car (kG s k)=CE at *;generalize gO (kG s k++[(aS s.tk k).car])=M2 at *;generalize gO (kG s k)=M1 at *;rcases k with _|p
    ·have d0:(decide (0=0) || decide ((aS s.tk (0 - 1)).time≤(aS s.tk 0).time))=true:=rfl;rw [d0] at u3 gF;generalize unl true 9=A3 at *;clear d0;repeat' with_reducible apply af
     refine ah [] ?_;repeat' with_reducible first|apply af|apply ae|apply au|apply aB|apply aa|(apply aw;·go_simp)|(apply ab;intro X Y;go_simp;apply Y;clear Y X)
     refine ah [] ?_;repeat' with_reducible first|apply af|apply ae|apply aa|(apply ab;intro X Y;go_simp;apply Y;clear Y X)
     refine fB (ca [] 3 ⟨rfl,rfl⟩ ?_);simp only [az];repeat' with_reducible first|apply aa|(apply ab;intro X Y;go_simp;apply Y;clear Y X)
     refine fJ [1,0] [1] [] [some (.box [.mp 1]),some (.mpo (4,.i64) M2)] (I CE) rfl (by go_simp) ?_ ?_
     ·unfold fk;go_simp;refine ⟨_,_,_,wn,?_⟩;go_simp;kernel_rfl
     go_simp;refine ca [] 1 ⟨rfl,rfl⟩ ?_;simp only [az];repeat' with_reducible first|apply aa|(apply ab;intro X Y;go_simp;apply Y;clear Y X)
     apply dA;repeat' first|(with_reducible first|apply af|apply ae|apply au|apply bp|apply aa|refine ah [] ?_|apply aT|(apply ar;·go_simp))|((with_reducible first|apply ab|apply aU);intro X Y;go_simp;(first|(with_reducible refine ⟨_,i1,?_⟩)|(with_reducible refine ⟨_,i2,?_⟩)|(with_reducible refine ⟨_,u1,?_⟩)|(with_reducible refine ⟨_,u2,?_⟩)|(with_reducible refine ⟨_,u3,?_⟩)|(refine ⟨_,gF,?_⟩)|skip);apply Y;clear Y X)|((refine bc 34 33 [] rfl (by kernel_rfl) ?_);simp only [az])
     refine hK _ ?_;go_simp
    ·have dw:p+1 - 1=p:=by omega
     rw [dw,decide_eq_false (by omega:¬p+1=0),Bool.false_or] at u3 gF;obtain ⟨x1,x2,x3,x4,x5,x6⟩:=ixs (m:=p) (by omega);have iF:p < s.tk.length:=by omega
     have Ct:(p:Int)+1 < (s.tk.length:Int):=by omega
     have Cu:¬(p:Int)+1≤0:=by omega
     have Cv:(0:Int) < (p:Int)+1:=by omega
     have Cw:¬(p:Int)+1=0:=by omega
     have Cx:(0:Int)≤(p:Int):=by omega
     have Oh:(if 0 < p then (p:Int) else 0)=(p:Int):=by split<;>omega
     generalize unl (decide ((aS s.tk p).time≤(aS s.tk (p+1)).time)) 9=A3 at *;clear dw;repeat' with_reducible apply af
     refine ah [] ?_;repeat' with_reducible first|apply af|apply ae|apply au|apply aB|apply aa|(apply aw;·go_simp)|(apply ab;intro X Y;go_simp;apply Y;clear Y X)
     refine ah [] ?_;repeat' with_reducible first|apply af|apply ae|apply aa|(apply ab;intro X Y;go_simp;apply Y;clear Y X)
     refine fB (ca [] 3 ⟨rfl,rfl⟩ ?_);simp only [az];repeat' with_reducible first|apply aa|(apply ab;intro X Y;go_simp;apply Y;clear Y X)
     refine fJ [1,0] [1] [] [some (.box [.mp 1]),some (.mpo (4,.i64) M2)] (I CE) rfl (by go_simp) ?_ ?_
     ·unfold fk;go_simp;refine ⟨_,_,_,wn,?_⟩;go_simp;kernel_rfl
     go_simp;refine ca [] 1 ⟨rfl,rfl⟩ ?_;simp only [az];repeat' with_reducible first|apply aa|(apply ab;intro X Y;go_simp;apply Y;clear Y X)
     apply dA;repeat' first|(with_reducible first|apply af|apply ae|apply au|apply bp|apply aa|refine ah [] ?_|apply aT|(apply ar;·go_simp))|((with_reducible first|apply ab|apply aU);intro X Y;go_simp;(first|(with_reducible refine ⟨_,i1,?_⟩)|(with_reducible refine ⟨_,i2,?_⟩)|(with_reducible refine ⟨_,u1,?_⟩)|(with_reducible refine ⟨_,u2,?_⟩)|(with_reducible refine ⟨_,u3,?_⟩)|(refine ⟨_,gF,?_⟩)|skip);apply Y;clear Y X)|((refine bc 34 33 [] rfl (by kernel_rfl) ?_);simp only [az])
     refine hK _ ?_;go_simp
   ·intro k hk HB HP K;obtain ⟨w1,w2,w3,w4,w5,w6⟩:=ixs (m:=k) (by omega);have bI:=HT.out k hk;have wn:=wD (aS s.tk k).car (kG s k) bI;have i1:=jS (aS s.tk k).rank 0 ((r.ranks.length:Int) - 1);have i2:=jS (aS s.tk k).time 0 s.time;have u1:=bN (inR (aS s.tk k).rank 0 ((r.ranks.length:Int) - 1)) 6;have u2:=bN (inR (aS s.tk k).time 0 s.time) 2;have hw:IntKind.i64.wrap ((r.ranks.length:Int) - 1)=(r.ranks.length:Int) - 1:=iu (by omega) (by omega);have u3:=bN (decide (k=0) || decide ((aS s.tk (k - 1)).time≤(aS s.tk k).time)) 9;have gF:VC Tryz.prog 88 [.sl 1 ([mj (aS s.tk k).car (kG s k),unl (inR (aS s.tk k).rank 0 ((r.ranks.length:Int) - 1)) 6,unl (inR (aS s.tk k).time 0 s.time) 2,unl (decide (k=0) || decide ((aS s.tk (k - 1)).time≤(aS s.tk k).time)) 9].map eJ)] (I (lK r s k)):=fP _ rfl rfl;have e:=N5 ud.out Cs.out h4 hk HB.out HP.out;have hp:¬lK r s k=0:=by simpa using HP.out
    rw [HE.out] at e;subst e;generalize lK r s k=TE at *;generalize inR (aS s.tk k).rank 0 ((r.ranks.length:Int) - 1)=D1 at *;generalize inR (aS s.tk k).time 0 s.time=D2 at *;generalize unl D1 6=A1 at *;generalize unl D2 2=A2 at *;generalize mj (aS s.tk k).car (kG s k)=CE at *;generalize gO (kG s k++[(aS s.tk k).car])=M2 at *;generalize gO (kG s k)=M1 at *;rcases k with _|p
    ·have d0:(decide (0=0) || decide ((aS s.tk (0 - 1)).time≤(aS s.tk 0).time))=true:=rfl;rw [d0] at u3 gF;generalize unl true 9=A3 at *;clear d0;repeat' with_reducible apply af
     refine ah [] ?_;repeat' with_reducible first|apply af|apply ae|apply au|apply aB|apply aa|(apply aw;·go_simp)|(apply ab;intro X Y;go_simp;apply Y;clear Y X)
     refine ah [] ?_;repeat' with_reducible first|apply af|apply ae|apply aa|(apply ab;intro X Y;go_simp;apply Y;clear Y X)
     refine fB (ca [] 3 ⟨rfl,rfl⟩ ?_);simp only [az];repeat' with_reducible first|apply aa|(apply ab;intro X Y;go_simp;apply Y;clear Y X)
     refine fJ [1,0] [1] [] [some (.box [.mp 1]),some (.mpo (4,.i64) M2)] (I CE) rfl (by go_simp) ?_ ?_
     ·unfold fk;go_simp;refine ⟨_,_,_,wn,?_⟩;go_simp;kernel_rfl
     go_simp;refine ca [] 1 ⟨rfl,rfl⟩ ?_;simp only [az];repeat' with_reducible first|apply aa|(apply ab;intro X Y;go_simp;apply Y;clear Y X)
     apply dA;repeat' first|(with_reducible first|apply af|apply ae|apply aZ|apply ax|apply cX|apply aa|refine ah [] ?_|apply aT|(apply aw;·go_simp))|((with_reducible first|apply ab|apply aU);intro X Y;go_simp;(first|(with_reducible refine ⟨_,i1,?_⟩)|(with_reducible refine ⟨_,i2,?_⟩)|(with_reducible refine ⟨_,u1,?_⟩)|(with_reducible refine ⟨_,u2,?_⟩)|(with_reducible refine ⟨_,u3,?_⟩)|(refine ⟨_,gF,?_⟩)|skip);apply Y;clear Y X)|((refine bc 34 33 [] rfl (by kernel_rfl) ?_);simp only [az])
     go_simp
    ·have dw:p+1 - 1=p:=by omega
     rw [dw,decide_eq_false (by omega:¬p+1=0),Bool.false_or] at u3 gF;obtain ⟨x1,x2,x3,x4,x5,x6⟩:=ixs (m:=p) (by omega);have iF:p < s.tk.length:=by omega
     have Ct:(p:Int)+1 < (s.tk.length:Int):=by omega
     have Cu:¬(p:Int)+1≤0:=by omega
     have Cv:(0:Int) < (p:Int)+1:=by omega
     have Cw:¬(p:Int)+1=0:=by omega
     have Cx:(0:Int)≤(p:Int):=by omega
     have Oh:(if 0 < p then (p:Int) else 0)=(p:Int):=by split<;>omega
     generalize unl (decide ((aS s.tk p).time≤(aS s.tk (p+1)).time)) 9=A3 at *;clear dw;repeat' with_reducible apply af
     refine ah [] ?_;repeat' with_reducible first|apply af|apply ae|apply au|apply aB|apply aa|(apply aw;·go_simp)|(apply ab;intro X Y;go_simp;apply Y;clear Y X)
     refine ah [] ?_;repeat' with_reducible first|apply af|apply ae|apply aa|(apply ab;intro X Y;go_simp;apply Y;clear Y X)
     refine fB (ca [] 3 ⟨rfl,rfl⟩ ?_);simp only [az];repeat' with_reducible first|apply aa|(apply ab;intro X Y;go_simp;apply Y;clear Y X)
     refine fJ [1,0] [1] [] [some (.box [.mp 1]),some (.mpo (4,.i64) M2)] (I CE) rfl (by go_simp) ?_ ?_
     ·unfold fk;go_simp;refine ⟨_,_,_,wn,?_⟩;go_simp;kernel_rfl
     go_simp;refine ca [] 1 ⟨rfl,rfl⟩ ?_;simp only [az];repeat' with_reducible first|apply aa|(apply ab;intro X Y;go_simp;apply Y;clear Y X)
     apply dA;repeat' first|(with_reducible first|apply af|apply ae|apply aZ|apply ax|apply cX|apply aa|refine ah [] ?_|apply aT|(apply aw;·go_simp))|((with_reducible first|apply ab|apply aU);intro X Y;go_simp;(first|(with_reducible refine ⟨_,i1,?_⟩)|(with_reducible refine ⟨_,i2,?_⟩)|(with_reducible refine ⟨_,u1,?_⟩)|(with_reducible refine ⟨_,u2,?_⟩)|(with_reducible refine ⟨_,u3,?_⟩)|(refine ⟨_,gF,?_⟩)|skip);apply Y;clear Y X)|((refine bc 34 33 [] rfl (by kernel_rfl) ?_);simp only [az])
     go_simp
   ·intro HB K;have e:=N6 ud.out Cs.out h4 HB.out;rw [HE.out] at e;rw [←e] at g6;generalize inR s.time 0 604800=D1 at *;generalize Oi:cM r s=NX at *;have oQ:decide (NX < 0)=decide (NX < 0):=rfl;clear e oQ Oi;generalize unl D1 2=A1 at *;generalize unl (decide (NX < 0)) 22=A2 at *;repeat' first|(with_reducible first|apply af|apply ae|apply bP|apply ax|apply bQ|apply bT|apply aa|refine ah [] ?_|(apply ar;·go_simp))|((with_reducible apply ab);intro X Y;go_simp;(first|(with_reducible refine ⟨_,i5,?_⟩)|(with_reducible refine ⟨_,u5,?_⟩)|(with_reducible refine ⟨_,gm,?_⟩)|(with_reducible refine ⟨_,u6,?_⟩)|(refine ⟨_,g6,?_⟩)|skip);apply Y;clear Y X)
    go_simp
  ·have tF:(40:Int) < (s.tk.length:Int):=by omega
   have e:=N4 ud.out Cs.out h4;rw [HE.out] at e;subst e;repeat' with_reducible first|apply af|apply ae|apply bP|apply aZ|apply ax|apply bQ|apply bT|apply aa|refine ah [] ?_|(apply aw;·go_simp)|(apply ar;·go_simp)|(apply ab;intro X Y;go_simp;apply Y;clear Y X)
   go_simp
def ckE (r:Ru) (s:St) : Int:=if (df r).2≠0 then (df r).2 else k9 r s
theorem Oj (r:Ru) (s:St) (hn:r.ranks.length≤1000000) (cW:∀ k,k < r.ranks.length→(rat r.ranks k).name.size≤1000) (hs:SmallS s) : VC Tryz.prog 52 [cY r,cT s] (I (ckE r s)):=by
 unfold ckE;by_cases h0:(df r).2=0
 ·rw [if_neg (by simp [h0])];by_cases j6:s.q.length=r.ranks.length
  ·exact Od r s hn cW hs h0 j6
  ·have g:=Ho r s hn cW hs (.inr j6);have e:k9 r s=10:=by
    unfold k9;rw [decide_eq_false j6];rfl
   rw [e];rw [h0] at g;exact g
 ·rw [if_pos h0];have g:=Ho r s hn cW hs (.inl h0);have e:fst [(df r).2,10]=(df r).2:=by simp [fst,h0]
  rw [e] at g;exact g
end Go.Proofs.YtoibondihdhnoaaGreatDoor
