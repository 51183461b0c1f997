/- Texts in one: Walks on a town that changes: a car returns. -/
import Derived.Test.YtoibondihdhnoaaGreatDoorFRY8
import Derived.Test.YtoibondihdhnoaaGreatDoorFRY21
import Derived.Test.YtoibondihdhnoaaGreatDoorFRY20
import Derived.Test.YtoibondihdhnoaaGreatDoorFRY23
import Derived.Test.YtoibondihdhnoaaGreatDoorFRY14
namespace Go.Proofs.YtoibondihdhnoaaGreatDoor
open Go.RowKit
set_option maxRecDepth 100000
set_option maxHeartbeats 2000000
theorem JP (r:Ru) (s:St) (mv:List Sg) (n1 n2:Bool) (x:Ev) (k:Nat) (hx:x.rank=k) (hk:k < s.q.length) (hr:r.ranks.length=s.q.length) (hf:ll r s.q.length) (h0:¬iB r s k=0) :
  VH Tryz.prog 228 (cq r s mv n1 n2) [.ref 0 0,evA x] [0] (cq r s mv n1 n2) (I (iB r s k)):=by
 have cw:k < r.ranks.length:=by omega
 have fR:=hf k hk;obtain ⟨kd,tm,rk,car⟩:=x;simp only at hx;subst hx;unfold iB at h0 ⊢;by_cases h1:(rat r.ranks k).feeder = -1
 ·rw [if_pos h1];clear fR hf h0;simp only [evA];refine dk Tryz.func228 rfl (by kernel_rfl) rfl (fun _=>by kernel_rfl) fun M0 w0 vs=>?_;simp only [Tryz.ntmps228,Tryz.results228,aC];unfold cq;repeat' with_reducible first|apply af|apply ae|apply aa|refine ah [] ?_|(apply ab;intro X Y;go_simp;apply Y;clear Y X)
  refine fG 10 [] [⟨9,5,[.string ⟨#[]⟩,.int .i64 0,.int .i64 0,.bool false],none,[]⟩] (by kernel_rfl) (by go_simp) ?_;simp only [aA];repeat (first|(refine fb rfl ?_)|((with_reducible refine fc rfl fun X Y=>?_);go_simp;refine Y _ (by go_simp) ?_;clear Y X)|(with_reducible apply fe))
  refine ⟨by go_simp,?_⟩;simp only [dL,d_,Slot.end_,List.cons_append,List.nil_append];repeat' with_reducible first|apply af|apply ae|apply aR|apply aw|apply aa|refine ah [] ?_|(apply au;·go_simp)|(apply ab;intro X Y;go_simp;apply Y;clear Y X)
  go_simp
 ·rw [if_neg h1] at h0 ⊢;obtain ⟨f0,fl⟩:=fR h1;unfold feedN at h0 ⊢;obtain ⟨f,iq⟩ : ∃ f:Nat,(rat r.ranks k).feeder=f:=⟨(rat r.ranks k).feeder.toNat,by omega⟩
  have g3:=oH r s mv k hk hr;rw [iq] at fl h1 h0 ⊢;simp only [Int.toNat_natCast] at fl h0 ⊢;clear fR hf f0;have g1:=bY (rat r.ranks k).called 22;have g2:=bY (decide (0 < (qat s.q f).length)) 12;have g4:=bY (ch r s k) 16;have g5:VC Tryz.prog 88 [.sl 1 ([unl (rat r.ranks k).called 22,unl (decide (0 < (qat s.q f).length)) 12,unl (ch r s k) 16].map eK)] (I (fst [unl (rat r.ranks k).called 22,unl (decide (0 < (qat s.q f).length)) 12,unl (ch r s k) 16])):=fF _ rfl rfl;generalize fst [unl (rat r.ranks k).called 22,unl (decide (0 < (qat s.q f).length)) 12,unl (ch r s k) 16]=E at *;generalize unl (rat r.ranks k).called 22=A1 at *;generalize unl (decide (0 < (qat s.q f).length)) 12=A2 at *;generalize unl (ch r s k) 16=A3 at *;generalize ch r s k=F at *;simp only [evA];refine dk Tryz.func228 rfl (by kernel_rfl) rfl (fun _=>by kernel_rfl) fun M0 w0 vs=>?_;simp only [Tryz.ntmps228,Tryz.results228,aC];unfold cq;repeat' with_reducible first|apply af|apply ae|apply aa|refine ah [] ?_|(apply ab;intro X Y;go_simp;apply Y;clear Y X)
  refine fG 10 [] [⟨9,5,[.string ⟨#[]⟩,.int .i64 0,.int .i64 0,.bool false],none,[]⟩] (by kernel_rfl) (by go_simp) ?_;simp only [aA];repeat (first|(refine fb rfl ?_)|((with_reducible refine fc rfl fun X Y=>?_);go_simp;refine Y _ (by go_simp) ?_;clear Y X)|(with_reducible apply fe))
  refine ⟨by go_simp,?_⟩;simp only [dL,d_,Slot.end_,List.cons_append,List.nil_append];repeat' first|(with_reducible first|apply af|apply ae|apply aw|apply ao|apply aa|refine ah [] ?_|apply aP|(apply aj;·go_simp))|((with_reducible first|apply ab|apply aO);intro X Y;go_simp;(first|(with_reducible refine ⟨_,g1,?_⟩)|(with_reducible refine ⟨_,g2,?_⟩)|(refine ⟨_,⟨g3,rfl⟩,?_⟩)|(with_reducible refine ⟨_,g4,?_⟩)|(refine ⟨_,g5,?_⟩)|skip);apply Y;clear Y X)|((refine bf 23 23 [] rfl (by kernel_rfl) ?_);simp only [aA])
  go_simp
theorem JQ (r:Ru) (s:St) (mv:List Sg) (n1 n2:Bool) (x:Ev) (k f:Nat) (hx:x.rank=k) (hk:k < s.q.length) (hr:r.ranks.length=s.q.length) (hf:(rat r.ranks k).feeder=f) (cM:f < s.q.length) (ax:f≠k) (hq:(qat s.q k).length+1≤1000000000) (hm:mv.length+2≤1000000000) (h0:iB r s k=0) :
  VH Tryz.prog 228 (cq r s mv n1 n2) [.ref 0 0,evA x] [0] (cq r ⟨upQ s.q k f,s.tk,s.time⟩ (mv++upM s.q k f) n1 false) (I 0):=by
 have cw:k < r.ranks.length:=by omega
 obtain ⟨kd,tm,rk,car⟩:=x;simp only at hx;subst hx;have h1:¬(f:Int) = -1:=by omega
 unfold iB feedN at h0;rw [hf,if_neg h1,Int.toNat_natCast] at h0;have hp:0 < (qat s.q f).length:=by
  rw [cm,cm] at h0;exact of_decide_eq_true (eQ (by decide) h0.2.1)
 have gu:=Ea r s mv n1 n2 k f hk hr hf cM ax hp hq hm;have g3:=oH r s mv k hk hr;have g1:=bY (rat r.ranks k).called 22;have g2:=bY (decide (0 < (qat s.q f).length)) 12;have g4:=bY (ch r s k) 16;have g5:VC Tryz.prog 88 [.sl 1 ([unl (rat r.ranks k).called 22,unl (decide (0 < (qat s.q f).length)) 12,unl (ch r s k) 16].map eK)] (I (fst [unl (rat r.ranks k).called 22,unl (decide (0 < (qat s.q f).length)) 12,unl (ch r s k) 16])):=fF _ rfl rfl;rw [h0] at g5;have hd:decide (0 < (qat s.q f).length)=true:=decide_eq_true hp;clear h0;generalize unl (rat r.ranks k).called 22=A1 at *;rw [hd] at g2 g5;generalize unl true 12=A2 at *;generalize unl (ch r s k) 16=A3 at *;generalize ch r s k=F at *;generalize upQ s.q k f=Q2 at *;generalize mv++upM s.q k f=M2 at *;clear hd hq hm;simp only [evA];refine dk Tryz.func228 rfl (by kernel_rfl) rfl (fun _=>by kernel_rfl) fun M0 w0 vs=>?_;simp only [Tryz.ntmps228,Tryz.results228,aC];unfold cq at gu ⊢;repeat' with_reducible first|apply af|apply ae|apply aa|refine ah [] ?_|(apply ab;intro X Y;go_simp;apply Y;clear Y X)
 refine fG 10 [] [⟨9,5,[.string ⟨#[]⟩,.int .i64 0,.int .i64 0,.bool false],none,[]⟩] (by kernel_rfl) (by go_simp) ?_;simp only [aA];repeat (first|(refine fb rfl ?_)|((with_reducible refine fc rfl fun X Y=>?_);go_simp;refine Y _ (by go_simp) ?_;clear Y X)|(with_reducible apply fe))
 refine ⟨by go_simp,?_⟩;simp only [dL,d_,Slot.end_,List.cons_append,List.nil_append];repeat' with_reducible first|apply af|apply ae|apply aa|(apply ab;intro X Y;go_simp;apply Y;clear Y X)
 refine ah [] ?_;repeat' with_reducible first|apply af|apply ae|apply ao|apply aa|(apply aj;·go_simp)|(apply ab;intro X Y;go_simp;apply Y;clear Y X)
 refine bf 23 23 [] rfl (by kernel_rfl) ?_;simp only [aA];repeat' first|(with_reducible first|apply af|apply ae|apply aa|apply aP)|((with_reducible apply aO);intro X Y;go_simp;(first|(with_reducible refine ⟨_,g1,?_⟩)|(with_reducible refine ⟨_,g2,?_⟩)|(refine ⟨_,⟨g3,rfl⟩,?_⟩)|(with_reducible refine ⟨_,g4,?_⟩)|(refine ⟨_,g5,?_⟩)|skip);apply Y;clear Y X)
 refine ah [] ?_;repeat' with_reducible first|apply ae|apply aa|(apply au;·go_simp)|(apply ab;intro X Y;go_simp;apply Y;clear Y X)
 refine eC (bM [] 3 ⟨rfl,rfl⟩ ?_);simp only [aA];repeat' with_reducible first|apply aa|(apply ab;intro X Y;go_simp;apply Y;clear Y X)
 refine eI [0,1,2,3] [0] [] [some (.box [.osl 1,.osl 2,I s.time,.sl 4 (r.ranks.map Rk.av),I r.back,I r.ret,.osl 3]),some (.bag 62 1 false none (bx Q2)),some (.arr 148 3 n1 (s.tk.map Tk.av)),some (.arr 45 3 false (M2.map Sg.av))] (.tup []) rfl (by go_simp) ?_ ?_
 ·unfold dU;go_simp;refine ⟨_,_,_,gu,?_⟩;go_simp;kernel_rfl
 go_simp;apply da;repeat' with_reducible first|apply af|apply ae
 refine ah [] ?_;repeat' with_reducible first|apply ae|apply aw|apply aa|(apply ab;intro X Y;go_simp;apply Y;clear Y X)
 go_simp
theorem JR (r:Ru) (s:St) (mv:List Sg) (n1 n2:Bool) (x:Ev) (k:Nat) (hx:x.rank=k) (hl:s.tk.length≤1000000) (h0:eL s.tk x.car < 0) :
  VH Tryz.prog 229 (cq r s mv n1 n2) [.ref 0 0,evA x] [0] (cq r s mv n1 n2) (I 6):=by
 have g1:=qq r s mv x.car hl;generalize eL s.tk x.car=A at *;obtain ⟨kd,tm,rk,car⟩:=x;simp only at hx;subst hx;simp only [evA];refine dk Tryz.func229 rfl (by kernel_rfl) rfl (fun _=>by kernel_rfl) fun M0 w0 vs=>?_;simp only [Tryz.ntmps229,Tryz.results229,aC];unfold cq;repeat' first|(with_reducible first|apply af|apply ae|apply aR|apply aw|apply aa|refine ah [] ?_|apply aP|(apply au;·go_simp))|((with_reducible first|apply ab|apply aO);intro X Y;go_simp;(first|(refine ⟨_,⟨g1,rfl⟩,?_⟩)|skip);apply Y;clear Y X)|((refine bf 16 16 [] rfl (by kernel_rfl) ?_);simp only [aA])
 go_simp
theorem JS (r:Ru) (s:St) (mv:List Sg) (n1 n2:Bool) (x:Ev) (k i:Nat) (hx:x.rank=k) (hl:s.tk.length≤1000000) (hi:eL s.tk x.car=i) (cu:i < s.tk.length) (h0:(cj s.tk i).rank≠k) :
  VH Tryz.prog 229 (cq r s mv n1 n2) [.ref 0 0,evA x] [0] (cq r s mv n1 n2) (I 6):=by
 have g1:=qq r s mv x.car hl;rw [hi] at g1;clear hi;obtain ⟨kd,tm,rk,car⟩:=x;simp only at hx;subst hx;simp only [evA];refine dk Tryz.func229 rfl (by kernel_rfl) rfl (fun _=>by kernel_rfl) fun M0 w0 vs=>?_;simp only [Tryz.ntmps229,Tryz.results229,aC];unfold cq;repeat' first|(with_reducible first|apply af|apply ae|apply aR|apply aw|apply aa|refine ah [] ?_|apply aP|(apply au;·go_simp))|((with_reducible first|apply ab|apply aO);intro X Y;go_simp;(first|(refine ⟨_,⟨g1,rfl⟩,?_⟩)|skip);apply Y;clear Y X)|((refine bf 16 16 [] rfl (by kernel_rfl) ?_);simp only [aA])
 go_simp
theorem JT (r:Ru) (s:St) (mv:List Sg) (n1 n2:Bool) (x:Ev) (k i:Nat) (hx:x.rank=k) (hk:k < s.q.length) (hr:r.ranks.length=s.q.length) (hl:s.tk.length≤1000000) (hi:eL s.tk x.car=i) (cu:i < s.tk.length) (h0:(cj s.tk i).rank=k)
  (ht:0≤x.time∧x.time≤604800) (jf:0≤(cj s.tk i).time∧(cj s.tk i).time≤604800) (h1:¬fst [unl (decide (x.time - (cj s.tk i).time≤r.ret)) 25,unl (ch r s k) 16]=0) :
  VH Tryz.prog 229 (cq r s mv n1 n2) [.ref 0 0,evA x] [0] (cq r s mv n1 n2) (I (fst [unl (decide (x.time - (cj s.tk i).time≤r.ret)) 25,unl (ch r s k) 16])):=by
 have g1:=qq r s mv x.car hl;rw [hi] at g1;clear hi;have g2:=oH r s mv k hk hr;have g3:=bY (decide (x.time - (cj s.tk i).time≤r.ret)) 25;have g4:=bY (ch r s k) 16;have g5:VC Tryz.prog 88 [.sl 1 ([unl (decide (x.time - (cj s.tk i).time≤r.ret)) 25,unl (ch r s k) 16].map eK)] (I (fst [unl (decide (x.time - (cj s.tk i).time≤r.ret)) 25,unl (ch r s k) 16])):=fF _ rfl rfl;have hw:IntKind.i64.wrap (x.time - (cj s.tk i).time)=x.time - (cj s.tk i).time:=fM (by omega) (by omega);generalize fst [unl (decide (x.time - (cj s.tk i).time≤r.ret)) 25,unl (ch r s k) 16]=E at *;generalize unl (decide (x.time - (cj s.tk i).time≤r.ret)) 25=A1 at *;generalize unl (ch r s k) 16=A2 at *;generalize ch r s k=F at *;clear ht jf;obtain ⟨kd,tm,rk,car⟩:=x;simp only at hx hw g3;subst hx;simp only [evA];refine dk Tryz.func229 rfl (by kernel_rfl) rfl (fun _=>by kernel_rfl) fun M0 w0 vs=>?_;simp only [Tryz.ntmps229,Tryz.results229,aC];unfold cq;repeat' first|(with_reducible first|apply af|apply ae|apply aR|apply aw|apply ao|apply aa|refine ah [] ?_|apply aP|(apply au;·go_simp)|(apply aj;·go_simp))|((with_reducible first|apply ab|apply aO);intro X Y;go_simp;(first|(refine ⟨_,⟨g1,rfl⟩,?_⟩)|(refine ⟨_,⟨g2,rfl⟩,?_⟩)|(with_reducible refine ⟨_,g3,?_⟩)|(with_reducible refine ⟨_,g4,?_⟩)|(refine ⟨_,g5,?_⟩)|skip);apply Y;clear Y X)|((refine bf 16 16 [] rfl (by kernel_rfl) ?_);simp only [aA])|((refine bf 27 27 [] rfl (by kernel_rfl) ?_);simp only [aA])
 go_simp
theorem x7 {α β:Type} (f:α→β) : ∀ (l:List α) (i:Nat),(l.map f).eraseIdx i=(l.eraseIdx i).map f
 | [],_=>rfl
 | _::_,0=>rfl
 | x::l,i+1=>by
  rw [List.map_cons,List.eraseIdx_cons_succ,List.eraseIdx_cons_succ,List.map_cons,x7 f l i]
theorem JU (r:Ru) (s:St) (mv:List Sg) (n1 n2:Bool) (x:Ev) (k i:Nat) (hx:x.rank=k) (hk:k < s.q.length) (hr:r.ranks.length=s.q.length) (hl:s.tk.length≤1000000) (hi:eL s.tk x.car=i) (cu:i < s.tk.length) (h0:(cj s.tk i).rank=k)
  (ht:0≤x.time∧x.time≤604800) (jf:0≤(cj s.tk i).time∧(cj s.tk i).time≤604800) (hq:(qat s.q k).length+1≤10000) (h1:fst [unl (decide (x.time - (cj s.tk i).time≤r.ret)) 25,unl (ch r s k) 16]=0) :
  VH Tryz.prog 229 (cq r s mv n1 n2) [.ref 0 0,evA x] [0] (cq r ⟨s.q.set k ([x.car]++qat s.q k),s.tk.eraseIdx i,s.time⟩ mv false n2) (I 0):=by
 have g1:=qq r s mv x.car hl;rw [hi] at g1;clear hi;have g2:=oH r s mv k hk hr;have g3:=bY (decide (x.time - (cj s.tk i).time≤r.ret)) 25;have g4:=bY (ch r s k) 16;have g5:VC Tryz.prog 88 [.sl 1 ([unl (decide (x.time - (cj s.tk i).time≤r.ret)) 25,unl (ch r s k) 16].map eK)] (I (fst [unl (decide (x.time - (cj s.tk i).time≤r.ret)) 25,unl (ch r s k) 16])):=fF _ rfl rfl;have hw:IntKind.i64.wrap (x.time - (cj s.tk i).time)=x.time - (cj s.tk i).time:=fM (by omega) (by omega);have gd:=Bl (s.tk.map Tk.av) n1 i (by simpa using cu);rw [x7] at gd;rw [h1] at g5;clear h1;generalize unl (decide (x.time - (cj s.tk i).time≤r.ret)) 25=A1 at *;generalize unl (ch r s k) 16=A2 at *;generalize ch r s k=F at *;generalize s.tk.eraseIdx i=TK at *;clear ht jf;obtain ⟨kd,tm,rk,car⟩:=x;simp only at hx hw g3;subst hx;simp only [evA];obtain ⟨w1,w2,w3,w4,w5,w6⟩:=ixs (m:=i) (by omega);refine dk Tryz.func229 rfl (by kernel_rfl) rfl (fun _=>by kernel_rfl) fun M0 w0 vs=>?_;simp only [Tryz.ntmps229,Tryz.results229,aC];unfold cq;repeat' first|(with_reducible first|apply af|apply ae|apply aa|refine ah [] ?_)|((with_reducible apply ab);intro X Y;go_simp;(first|(refine ⟨_,⟨g1,rfl⟩,?_⟩)|skip);apply Y;clear Y X)
 refine bf 16 16 [] rfl (by kernel_rfl) ?_;simp only [aA];repeat' with_reducible first|apply af|apply ae|apply ao|apply aa|apply aP|(apply aj;·go_simp)|(apply aO;intro X Y;go_simp;apply Y;clear Y X)
 refine bf 27 27 [] rfl (by kernel_rfl) ?_;simp only [aA];repeat' first|(with_reducible first|apply af|apply ae|apply aa|apply aP)|((with_reducible apply aO);intro X Y;go_simp;(first|(refine ⟨_,⟨g2,rfl⟩,?_⟩)|(with_reducible refine ⟨_,g3,?_⟩)|(with_reducible refine ⟨_,g4,?_⟩)|(refine ⟨_,g5,?_⟩)|skip);apply Y;clear Y X)
 refine ah [] ?_;repeat' with_reducible first|apply af|apply ae|apply ao|apply aa|(apply aj;·go_simp)|(apply ab;intro X Y;go_simp;apply Y;clear Y X)
 refine eC (bM [] 9 ⟨rfl,rfl⟩ ?_);simp only [aA];repeat' with_reducible first|apply aa|(apply ab;intro X Y;go_simp;apply Y;clear Y X)
 refine AB (fun p a w R=>⟨_,Rel.deadCell R (bi:=0) (j:=1) (r:=2) rfl rfl⟩) ?_;simp only [List.set];refine eI [2] [] [] [some (.arr 148 3 false (TK.map Tk.av))] (.osl 0) rfl (by go_simp) ?_ ?_
 ·unfold dU;go_simp;refine ⟨_,_,⟨_,gd⟩,?_⟩;go_simp;kernel_rfl
 go_simp;refine bM [] 4 ⟨rfl,rfl⟩ ?_;simp only [aA];repeat' with_reducible first|apply aa|(apply ab;intro X Y;go_simp;apply Y;clear Y X)
 apply da;repeat' with_reducible first|apply af|apply ae
 refine mQ 20 [0,69,69,70,70,71,71,72,72,73,3,74,74,75] (by kernel_rfl) (by kernel_rfl) (by kernel_rfl) (fun v=>v) xw rfl ⟨rfl,rfl⟩ ?_;simp only [List.take];repeat' with_reducible first|apply aP|(apply aO;intro X Y;go_simp;apply Y;clear Y X)
 refine ⟨_,_,xv (by exact rfl) (by exact rfl) (by go_simp;exact Jv _ _ (by repeat' (first|exact TxO.one _|exact TxO.map _|apply TxO.take|apply TxO.drop|apply TxO.tail)) (by simp;omega)) (by go_simp),?_,?_,?_⟩
 ·simp only [List.forall_mem_cons];go_simp
 ·repeat' with_reducible first|apply aP|(apply aO;intro X Y;go_simp;apply Y;clear Y X)
  simp only [List.forall_mem_cons];go_simp
 go_simp;refine bM [] 2 ⟨rfl,rfl⟩ ?_;simp only [aA];repeat' with_reducible first|apply aa|(apply ab;intro X Y;go_simp;apply Y;clear Y X)
 apply da;repeat' with_reducible first|apply af|apply ae|apply aw|apply aa|refine ah [] ?_|(apply ab;intro X Y;go_simp;apply Y;clear Y X)
 go_simp;rw [←lR];rfl
theorem vG (q:List (List ByteArray)) (c:ByteArray) : ∃ a b:Int,tT q c = .tup [.agg [I a,I b],B (decide (0≤dZ q c))]:=by
 unfold tT;by_cases h:0≤dZ q c
 ·rw [if_pos h,decide_eq_true h];exact ⟨_,_,rfl⟩
 ·rw [if_neg h,decide_eq_false h];exact ⟨_,_,rfl⟩
theorem JV (r:Ru) (s:St) (mv:List Sg) (n1 n2:Bool) (x:Ev) (k:Nat) (hx:x.rank=k) (hk:k < s.q.length) (hr:r.ranks.length=s.q.length) (hf:ll r s.q.length) (jQ:s.q.length≤1000000) (dC:∀ k,k < s.q.length→(qat s.q k).length≤1000000) (h0:¬iD r s x k=0) :
  VH Tryz.prog 224 (cq r s mv n1 n2) [.ref 0 0,evA x] [0] (cq r s mv n1 n2) (I (iD r s x k)):=by
 have cw:k < r.ranks.length:=by omega
 have fR:=hf k hk;clear hf;have g1:=vH r s mv x.car jQ dC;clear dC;obtain ⟨sa,sb,es⟩:=vG s.q x.car;rw [es] at g1;clear es;have g2:=oH r s mv k hk hr;have q1:=bY (!decide (0≤dZ s.q x.car)) 5;have q2:=bY (!iC r s k) 13;have q3:=bY (ch r s k) 16;have g5:VC Tryz.prog 88 [.sl 1 ([unl (!decide (0≤dZ s.q x.car)) 5,unl (!iC r s k) 13,unl (ch r s k) 16].map eK)] (I (iD r s x k)):=fF _ rfl rfl;unfold iC feedN at *;generalize iD r s x k=E at *;generalize decide (0≤dZ s.q x.car)=D at *;generalize unl (!D) 5=A1 at *;generalize unl (ch r s k) 16=A3 at *;generalize ch r s k=F at *;obtain ⟨kd,tm,rk,car⟩:=x;simp only at hx g1;subst hx;simp only [evA];by_cases h1:(rat r.ranks k).feeder = -1
 ·have e:(decide ((rat r.ranks k).feeder≠-1)&&decide (0 < (qat s.q (rat r.ranks k).feeder.toNat).length))=false:=by simp [h1]
  rw [e,Bool.not_false] at q2 g5;generalize unl true 13=A2 at *;clear fR e;refine dk Tryz.func224 rfl (by kernel_rfl) rfl (fun _=>by kernel_rfl) fun M0 w0 vs=>?_;simp only [Tryz.ntmps224,Tryz.results224,aC];unfold cq;repeat' first|(with_reducible first|apply af|apply ae|apply aR|apply aw|apply aa|refine ah [] ?_|apply aP|(apply au;·go_simp))|((with_reducible first|apply ab|apply aO);intro X Y;go_simp;(first|(refine ⟨_,⟨g1,rfl⟩,?_⟩)|(refine ⟨_,⟨g2,rfl⟩,?_⟩)|(with_reducible refine ⟨_,q1,?_⟩)|(with_reducible refine ⟨_,q2,?_⟩)|(with_reducible refine ⟨_,q3,?_⟩)|(refine ⟨_,g5,?_⟩)|skip);apply Y;clear Y X)|((refine bf 11 11 [] rfl (by kernel_rfl) ?_);simp only [aA])|((refine bf 14 14 [] rfl (by kernel_rfl) ?_);simp only [aA])
  go_simp
 ·obtain ⟨f0,fl⟩:=fR h1;clear fR;obtain ⟨f,iq⟩ : ∃ f:Nat,(rat r.ranks k).feeder=f:=⟨(rat r.ranks k).feeder.toNat,by omega⟩
  rw [iq] at fl h1 q2 g5;have e:(decide ((f:Int)≠-1)&&decide (0 < (qat s.q (f:Int).toNat).length))=decide (0 < (qat s.q f).length):=by
   rw [decide_eq_true h1,Bool.true_and,Int.toNat_natCast]
  rw [e] at q2 g5;simp only [Int.toNat_natCast] at fl;generalize unl (!decide (0 < (qat s.q f).length)) 13=A2 at *;clear f0 e;have tU:(if (f:Int) < 0 then 0 else (f:Int))=f:=if_neg (by omega);refine dk Tryz.func224 rfl (by kernel_rfl) rfl (fun _=>by kernel_rfl) fun M0 w0 vs=>?_;simp only [Tryz.ntmps224,Tryz.results224,aC];unfold cq;repeat' first|(with_reducible first|apply af|apply ae|apply aR|apply aw|apply aa|refine ah [] ?_|apply aP|(apply au;·go_simp))|((with_reducible first|apply ab|apply aO);intro X Y;go_simp;(first|(refine ⟨_,⟨g1,rfl⟩,?_⟩)|(refine ⟨_,⟨g2,rfl⟩,?_⟩)|(with_reducible refine ⟨_,q1,?_⟩)|(with_reducible refine ⟨_,q2,?_⟩)|(with_reducible refine ⟨_,q3,?_⟩)|(refine ⟨_,g5,?_⟩)|skip);apply Y;clear Y X)|((refine bf 11 11 [] rfl (by kernel_rfl) ?_);simp only [aA])|((refine bf 14 14 [] rfl (by kernel_rfl) ?_);simp only [aA])
  go_simp
theorem JW (r:Ru) (s:St) (mv:List Sg) (n1 n2:Bool) (x:Ev) (k:Nat) (hx:x.rank=k) (hk:k < s.q.length) (hr:r.ranks.length=s.q.length) (jQ:s.q.length≤1000000) (dC:∀ k,k < s.q.length→(qat s.q k).length≤1000000) (hl:s.tk.length≤1000000) (iq:(rat r.ranks k).feeder = -1) (ht:eL s.tk x.car < 0) (h0:iD r s x k=0) :
  VH Tryz.prog 224 (cq r s mv n1 n2) [.ref 0 0,evA x] [0] (cq r ⟨s.q.set k (qat s.q k++[x.car]),s.tk,s.time⟩ mv n1 n2) (I 0):=by
 have cw:k < r.ranks.length:=by omega
 have tV:=dC k hk;have r8:(qat s.q k).length≤999999999:=by omega
 have g1:=vH r s mv x.car jQ dC;clear dC;obtain ⟨sa,sb,es⟩:=vG s.q x.car;rw [es] at g1;clear es;have g2:=oH r s mv k hk hr;have q1:=bY (!decide (0≤dZ s.q x.car)) 5;have q2:=bY (!iC r s k) 13;have q3:=bY (ch r s k) 16;have g5:VC Tryz.prog 88 [.sl 1 ([unl (!decide (0≤dZ s.q x.car)) 5,unl (!iC r s k) 13,unl (ch r s k) 16].map eK)] (I (iD r s x k)):=fF _ rfl rfl;rw [h0] at g5;clear h0;unfold iC feedN at *;generalize decide (0≤dZ s.q x.car)=D at *;generalize unl (!D) 5=A1 at *;generalize unl (ch r s k) 16=A3 at *;generalize ch r s k=F at *;have g6:=qq r ⟨s.q.set k (qat s.q k++[x.car]),s.tk,s.time⟩ mv x.car hl;simp only at g6;have e:(decide ((rat r.ranks k).feeder≠-1)&&decide (0 < (qat s.q (rat r.ranks k).feeder.toNat).length))=false:=by simp [iq]
 rw [e,Bool.not_false] at q2 g5;generalize unl true 13=A2 at *;clear e;generalize eL s.tk x.car=A at *;obtain ⟨kd,tm,rk,car⟩:=x;simp only at hx g1 g6;subst hx;simp only [evA];refine dk Tryz.func224 rfl (by kernel_rfl) rfl (fun _=>by kernel_rfl) fun M0 w0 vs=>?_;simp only [Tryz.ntmps224,Tryz.results224,aC];unfold cq;repeat' first|(with_reducible first|apply af|apply ae|apply aa|refine ah [] ?_)|((with_reducible apply ab);intro X Y;go_simp;(first|(refine ⟨_,⟨g1,rfl⟩,?_⟩)|skip);apply Y;clear Y X)
 refine bf 11 11 [] rfl (by kernel_rfl) ?_;simp only [aA];repeat' with_reducible first|apply af|apply ae|apply aa|apply aP|(apply aO;intro X Y;go_simp;apply Y;clear Y X)
 refine ah [] ?_;repeat' with_reducible first|apply af|apply ae|apply aa|(apply ab;intro X Y;go_simp;apply Y;clear Y X)
 refine bf 14 14 [] rfl (by kernel_rfl) ?_;simp only [aA];repeat' first|(with_reducible first|apply af|apply ae|apply aa|apply aP)|((with_reducible apply aO);intro X Y;go_simp;(first|(refine ⟨_,⟨g2,rfl⟩,?_⟩)|(with_reducible refine ⟨_,q1,?_⟩)|(with_reducible refine ⟨_,q2,?_⟩)|(with_reducible refine ⟨_,q3,?_⟩)|(refine ⟨_,g5,?_⟩)|skip);apply Y;clear Y X)
 refine ah [] ?_;repeat' with_reducible first|apply af|apply ae|apply ao|apply aa|(apply aj;·go_simp)|(apply ab;intro X Y;go_simp;apply Y;clear Y X)
 refine mQ 19 [0,59,59,60,60,61,61,62,62,63,3,64,64,65] (by kernel_rfl) (by kernel_rfl) (by kernel_rfl) (unW 1) (mZ 1) rfl ⟨rfl,rfl⟩ ?_;simp only [List.take];repeat' with_reducible first|apply aP|(apply aO;intro X Y;go_simp;apply Y;clear Y X)
 refine ⟨_,_,tC (id:=1) (k:=k) (es:=(qat s.q k).map bL) (c:=S car) (by exact rfl) (by exact rfl) (by go_simp) (by go_simp) rN ti9 (by exact rfl) (by go_simp),?_,?_,?_⟩
 ·simp only [List.forall_mem_cons];go_simp
 ·repeat' with_reducible first|apply aP|(apply aO;intro X Y;go_simp;apply Y;clear Y X)
  simp only [List.forall_mem_cons];go_simp
 go_simp;refine bM [] 2 ⟨rfl,rfl⟩ ?_;simp only [aA];repeat' with_reducible first|apply aa|(apply ab;intro X Y;go_simp;apply Y;clear Y X)
 apply da;repeat' with_reducible first|apply af|apply ae
 rw [rM,lR];refine ah [] ?_;repeat' first|(with_reducible first|apply af|apply ae|apply aa)|((with_reducible apply ab);intro X Y;go_simp;(first|(refine ⟨_,⟨g6,rfl⟩,?_⟩)|skip);apply Y;clear Y X)
 refine ah [] ?_;repeat' with_reducible first|apply af|apply ae|apply ao|apply aa|(apply aj;·go_simp)|(apply ab;intro X Y;go_simp;apply Y;clear Y X)
 refine ah [] ?_;repeat' with_reducible first|apply ae|apply aw|apply aa|(apply ab;intro X Y;go_simp;apply Y;clear Y X)
 go_simp
theorem JX (r:Ru) (s:St) (mv:List Sg) (n1 n2:Bool) (x:Ev) (k:Nat) (hx:x.rank=k) (hk:k < s.q.length) (hr:r.ranks.length=s.q.length) (jQ:s.q.length≤1000000) (dC:∀ k,k < s.q.length→(qat s.q k).length≤1000000) (hl:s.tk.length≤1000000) (iq:(rat r.ranks k).feeder = -1) (i:Nat) (ht:eL s.tk x.car=i) (cu:i < s.tk.length) (h0:iD r s x k=0) :
  VH Tryz.prog 224 (cq r s mv n1 n2) [.ref 0 0,evA x] [0] (cq r ⟨s.q.set k (qat s.q k++[x.car]),s.tk.eraseIdx i,s.time⟩ mv false n2) (I 0):=by
 have cw:k < r.ranks.length:=by omega
 have tV:=dC k hk;have r8:(qat s.q k).length≤999999999:=by omega
 have g1:=vH r s mv x.car jQ dC;clear dC;obtain ⟨sa,sb,es⟩:=vG s.q x.car;rw [es] at g1;clear es;have g2:=oH r s mv k hk hr;have q1:=bY (!decide (0≤dZ s.q x.car)) 5;have q2:=bY (!iC r s k) 13;have q3:=bY (ch r s k) 16;have g5:VC Tryz.prog 88 [.sl 1 ([unl (!decide (0≤dZ s.q x.car)) 5,unl (!iC r s k) 13,unl (ch r s k) 16].map eK)] (I (iD r s x k)):=fF _ rfl rfl;rw [h0] at g5;clear h0;unfold iC feedN at *;generalize decide (0≤dZ s.q x.car)=D at *;generalize unl (!D) 5=A1 at *;generalize unl (ch r s k) 16=A3 at *;generalize ch r s k=F at *;have g6:=qq r ⟨s.q.set k (qat s.q k++[x.car]),s.tk,s.time⟩ mv x.car hl;simp only at g6;have e:(decide ((rat r.ranks k).feeder≠-1)&&decide (0 < (qat s.q (rat r.ranks k).feeder.toNat).length))=false:=by simp [iq]
 rw [e,Bool.not_false] at q2 g5;generalize unl true 13=A2 at *;clear e;rw [ht] at g6;clear ht;have gd:=Bl (s.tk.map Tk.av) n1 i (by simpa using cu);rw [x7] at gd;generalize s.tk.eraseIdx i=TK at *;obtain ⟨w1,w2,w3,w4,w5,w6⟩:=ixs (m:=i) (by omega);obtain ⟨kd,tm,rk,car⟩:=x;simp only at hx g1 g6;subst hx;simp only [evA];refine dk Tryz.func224 rfl (by kernel_rfl) rfl (fun _=>by kernel_rfl) fun M0 w0 vs=>?_;simp only [Tryz.ntmps224,Tryz.results224,aC];unfold cq;repeat' first|(with_reducible first|apply af|apply ae|apply aa|refine ah [] ?_)|((with_reducible apply ab);intro X Y;go_simp;(first|(refine ⟨_,⟨g1,rfl⟩,?_⟩)|skip);apply Y;clear Y X)
 refine bf 11 11 [] rfl (by kernel_rfl) ?_;simp only [aA];repeat' with_reducible first|apply af|apply ae|apply aa|apply aP|(apply aO;intro X Y;go_simp;apply Y;clear Y X)
 refine ah [] ?_;repeat' with_reducible first|apply af|apply ae|apply aa|(apply ab;intro X Y;go_simp;apply Y;clear Y X)
 refine bf 14 14 [] rfl (by kernel_rfl) ?_;simp only [aA];repeat' first|(with_reducible first|apply af|apply ae|apply aa|apply aP)|((with_reducible apply aO);intro X Y;go_simp;(first|(refine ⟨_,⟨g2,rfl⟩,?_⟩)|(with_reducible refine ⟨_,q1,?_⟩)|(with_reducible refine ⟨_,q2,?_⟩)|(with_reducible refine ⟨_,q3,?_⟩)|(refine ⟨_,g5,?_⟩)|skip);apply Y;clear Y X)
 refine ah [] ?_;repeat' with_reducible first|apply af|apply ae|apply ao|apply aa|(apply aj;·go_simp)|(apply ab;intro X Y;go_simp;apply Y;clear Y X)
 refine mQ 19 [0,59,59,60,60,61,61,62,62,63,3,64,64,65] (by kernel_rfl) (by kernel_rfl) (by kernel_rfl) (unW 1) (mZ 1) rfl ⟨rfl,rfl⟩ ?_;simp only [List.take];repeat' with_reducible first|apply aP|(apply aO;intro X Y;go_simp;apply Y;clear Y X)
 refine ⟨_,_,tC (id:=1) (k:=k) (es:=(qat s.q k).map bL) (c:=S car) (by exact rfl) (by exact rfl) (by go_simp) (by go_simp) rN ti9 (by exact rfl) (by go_simp),?_,?_,?_⟩
 ·simp only [List.forall_mem_cons];go_simp
 ·repeat' with_reducible first|apply aP|(apply aO;intro X Y;go_simp;apply Y;clear Y X)
  simp only [List.forall_mem_cons];go_simp
 go_simp;refine bM [] 2 ⟨rfl,rfl⟩ ?_;simp only [aA];repeat' with_reducible first|apply aa|(apply ab;intro X Y;go_simp;apply Y;clear Y X)
 apply da;repeat' with_reducible first|apply af|apply ae
 rw [rM,lR];refine ah [] ?_;repeat' first|(with_reducible first|apply af|apply ae|apply aa)|((with_reducible apply ab);intro X Y;go_simp;(first|(refine ⟨_,⟨g6,rfl⟩,?_⟩)|skip);apply Y;clear Y X)
 refine ah [] ?_;repeat' with_reducible first|apply ae|apply aa|(apply au;·go_simp)|(apply ab;intro X Y;go_simp;apply Y;clear Y X)
 refine eC (bM [] 9 ⟨rfl,rfl⟩ ?_);simp only [aA];repeat' with_reducible first|apply aa|(apply ab;intro X Y;go_simp;apply Y;clear Y X)
 refine AB (fun p a w R=>⟨_,Rel.deadCell R (bi:=0) (j:=1) (r:=2) rfl rfl⟩) ?_;simp only [List.set];refine eI [2] [] [] [some (.arr 148 3 false (TK.map Tk.av))] (.osl 0) rfl (by go_simp) ?_ ?_
 ·unfold dU;go_simp;refine ⟨_,_,⟨_,gd⟩,?_⟩;go_simp;kernel_rfl
 go_simp;refine bM [] 4 ⟨rfl,rfl⟩ ?_;simp only [aA];repeat' with_reducible first|apply aa|(apply ab;intro X Y;go_simp;apply Y;clear Y X)
 apply da;repeat' with_reducible first|apply af|apply ae
 refine ah [] ?_;repeat' with_reducible first|apply ae|apply aw|apply aa|(apply ab;intro X Y;go_simp;apply Y;clear Y X)
 go_simp
theorem JY (r:Ru) (s:St) (mv:List Sg) (n1 n2:Bool) (x:Ev) (k:Nat) (hx:x.rank=k) (hk:k < s.q.length) (hr:r.ranks.length=s.q.length) (jQ:s.q.length≤1000000) (dC:∀ k,k < s.q.length→(qat s.q k).length≤1000000) (hl:s.tk.length≤1000000) (f:Nat) (iq:(rat r.ranks k).feeder=f) (fl:f < s.q.length) (ht:eL s.tk x.car < 0) (h0:iD r s x k=0) :
  VH Tryz.prog 224 (cq r s mv n1 n2) [.ref 0 0,evA x] [0] (cq r ⟨s.q.set k (qat s.q k++[x.car]),s.tk,s.time⟩ mv n1 n2) (I 0):=by
 have cw:k < r.ranks.length:=by omega
 have tV:=dC k hk;have r8:(qat s.q k).length≤999999999:=by omega
 have g1:=vH r s mv x.car jQ dC;clear dC;obtain ⟨sa,sb,es⟩:=vG s.q x.car;rw [es] at g1;clear es;have g2:=oH r s mv k hk hr;have q1:=bY (!decide (0≤dZ s.q x.car)) 5;have q2:=bY (!iC r s k) 13;have q3:=bY (ch r s k) 16;have g5:VC Tryz.prog 88 [.sl 1 ([unl (!decide (0≤dZ s.q x.car)) 5,unl (!iC r s k) 13,unl (ch r s k) 16].map eK)] (I (iD r s x k)):=fF _ rfl rfl;rw [h0] at g5;clear h0;unfold iC feedN at *;generalize decide (0≤dZ s.q x.car)=D at *;generalize unl (!D) 5=A1 at *;generalize unl (ch r s k) 16=A3 at *;generalize ch r s k=F at *;have g6:=qq r ⟨s.q.set k (qat s.q k++[x.car]),s.tk,s.time⟩ mv x.car hl;simp only at g6;have h1:(f:Int)≠-1:=by omega
 have e:(decide ((rat r.ranks k).feeder≠-1)&&decide (0 < (qat s.q (rat r.ranks k).feeder.toNat).length))=decide (0 < (qat s.q f).length):=by
  rw [iq,decide_eq_true h1,Bool.true_and,Int.toNat_natCast]
 rw [e] at q2 g5;generalize unl (!decide (0 < (qat s.q f).length)) 13=A2 at *;clear e;have tU:(if (f:Int) < 0 then 0 else (f:Int))=f:=if_neg (by omega);generalize eL s.tk x.car=A at *;obtain ⟨kd,tm,rk,car⟩:=x;simp only at hx g1 g6;subst hx;simp only [evA];refine dk Tryz.func224 rfl (by kernel_rfl) rfl (fun _=>by kernel_rfl) fun M0 w0 vs=>?_;simp only [Tryz.ntmps224,Tryz.results224,aC];unfold cq;repeat' first|(with_reducible first|apply af|apply ae|apply aa|refine ah [] ?_)|((with_reducible apply ab);intro X Y;go_simp;(first|(refine ⟨_,⟨g1,rfl⟩,?_⟩)|skip);apply Y;clear Y X)
 refine bf 11 11 [] rfl (by kernel_rfl) ?_;simp only [aA];repeat' with_reducible first|apply af|apply ae|apply aa|apply aP|(apply aO;intro X Y;go_simp;apply Y;clear Y X)
 refine ah [] ?_;repeat' with_reducible first|apply af|apply ae|apply aa|(apply ab;intro X Y;go_simp;apply Y;clear Y X)
 refine bf 14 14 [] rfl (by kernel_rfl) ?_;simp only [aA];repeat' first|(with_reducible first|apply af|apply ae|apply aa|apply aP)|((with_reducible apply aO);intro X Y;go_simp;(first|(refine ⟨_,⟨g2,rfl⟩,?_⟩)|(with_reducible refine ⟨_,q1,?_⟩)|(with_reducible refine ⟨_,q2,?_⟩)|(with_reducible refine ⟨_,q3,?_⟩)|(refine ⟨_,g5,?_⟩)|skip);apply Y;clear Y X)
 refine ah [] ?_;repeat' with_reducible first|apply af|apply ae|apply ao|apply aa|(apply aj;·go_simp)|(apply ab;intro X Y;go_simp;apply Y;clear Y X)
 refine mQ 19 [0,59,59,60,60,61,61,62,62,63,3,64,64,65] (by kernel_rfl) (by kernel_rfl) (by kernel_rfl) (unW 1) (mZ 1) rfl ⟨rfl,rfl⟩ ?_;simp only [List.take];repeat' with_reducible first|apply aP|(apply aO;intro X Y;go_simp;apply Y;clear Y X)
 refine ⟨_,_,tC (id:=1) (k:=k) (es:=(qat s.q k).map bL) (c:=S car) (by exact rfl) (by exact rfl) (by go_simp) (by go_simp) rN ti9 (by exact rfl) (by go_simp),?_,?_,?_⟩
 ·simp only [List.forall_mem_cons];go_simp
 ·repeat' with_reducible first|apply aP|(apply aO;intro X Y;go_simp;apply Y;clear Y X)
  simp only [List.forall_mem_cons];go_simp
 go_simp;refine bM [] 2 ⟨rfl,rfl⟩ ?_;simp only [aA];repeat' with_reducible first|apply aa|(apply ab;intro X Y;go_simp;apply Y;clear Y X)
 apply da;repeat' with_reducible first|apply af|apply ae
 rw [rM,lR];refine ah [] ?_;repeat' first|(with_reducible first|apply af|apply ae|apply aa)|((with_reducible apply ab);intro X Y;go_simp;(first|(refine ⟨_,⟨g6,rfl⟩,?_⟩)|skip);apply Y;clear Y X)
 refine ah [] ?_;repeat' with_reducible first|apply af|apply ae|apply ao|apply aa|(apply aj;·go_simp)|(apply ab;intro X Y;go_simp;apply Y;clear Y X)
 refine ah [] ?_;repeat' with_reducible first|apply ae|apply aw|apply aa|(apply ab;intro X Y;go_simp;apply Y;clear Y X)
 go_simp
theorem JZ (r:Ru) (s:St) (mv:List Sg) (n1 n2:Bool) (x:Ev) (k:Nat) (hx:x.rank=k) (hk:k < s.q.length) (hr:r.ranks.length=s.q.length) (jQ:s.q.length≤1000000) (dC:∀ k,k < s.q.length→(qat s.q k).length≤1000000) (hl:s.tk.length≤1000000) (f:Nat) (iq:(rat r.ranks k).feeder=f) (fl:f < s.q.length) (i:Nat) (ht:eL s.tk x.car=i) (cu:i < s.tk.length) (h0:iD r s x k=0) :
  VH Tryz.prog 224 (cq r s mv n1 n2) [.ref 0 0,evA x] [0] (cq r ⟨s.q.set k (qat s.q k++[x.car]),s.tk.eraseIdx i,s.time⟩ mv false n2) (I 0):=by
 have cw:k < r.ranks.length:=by omega
 have tV:=dC k hk;have r8:(qat s.q k).length≤999999999:=by omega
 have g1:=vH r s mv x.car jQ dC;clear dC;obtain ⟨sa,sb,es⟩:=vG s.q x.car;rw [es] at g1;clear es;have g2:=oH r s mv k hk hr;have q1:=bY (!decide (0≤dZ s.q x.car)) 5;have q2:=bY (!iC r s k) 13;have q3:=bY (ch r s k) 16;have g5:VC Tryz.prog 88 [.sl 1 ([unl (!decide (0≤dZ s.q x.car)) 5,unl (!iC r s k) 13,unl (ch r s k) 16].map eK)] (I (iD r s x k)):=fF _ rfl rfl;rw [h0] at g5;clear h0;unfold iC feedN at *;generalize decide (0≤dZ s.q x.car)=D at *;generalize unl (!D) 5=A1 at *;generalize unl (ch r s k) 16=A3 at *;generalize ch r s k=F at *;have g6:=qq r ⟨s.q.set k (qat s.q k++[x.car]),s.tk,s.time⟩ mv x.car hl;simp only at g6;have h1:(f:Int)≠-1:=by omega
 have e:(decide ((rat r.ranks k).feeder≠-1)&&decide (0 < (qat s.q (rat r.ranks k).feeder.toNat).length))=decide (0 < (qat s.q f).length):=by
  rw [iq,decide_eq_true h1,Bool.true_and,Int.toNat_natCast]
 rw [e] at q2 g5;generalize unl (!decide (0 < (qat s.q f).length)) 13=A2 at *;clear e;have tU:(if (f:Int) < 0 then 0 else (f:Int))=f:=if_neg (by omega);rw [ht] at g6;clear ht;have gd:=Bl (s.tk.map Tk.av) n1 i (by simpa using cu);rw [x7] at gd;generalize s.tk.eraseIdx i=TK at *;obtain ⟨w1,w2,w3,w4,w5,w6⟩:=ixs (m:=i) (by omega);obtain ⟨kd,tm,rk,car⟩:=x;simp only at hx g1 g6;subst hx;simp only [evA];refine dk Tryz.func224 rfl (by kernel_rfl) rfl (fun _=>by kernel_rfl) fun M0 w0 vs=>?_;simp only [Tryz.ntmps224,Tryz.results224,aC];unfold cq;repeat' first|(with_reducible first|apply af|apply ae|apply aa|refine ah [] ?_)|((with_reducible apply ab);intro X Y;go_simp;(first|(refine ⟨_,⟨g1,rfl⟩,?_⟩)|skip);apply Y;clear Y X)
 refine bf 11 11 [] rfl (by kernel_rfl) ?_;simp only [aA];repeat' with_reducible first|apply af|apply ae|apply aa|apply aP|(apply aO;intro X Y;go_simp;apply Y;clear Y X)
 refine ah [] ?_;repeat' with_reducible first|apply af|apply ae|apply aa|(apply ab;intro X Y;go_simp;apply Y;clear Y X)
 refine bf 14 14 [] rfl (by kernel_rfl) ?_;simp only [aA];repeat' first|(with_reducible first|apply af|apply ae|apply aa|apply aP)|((with_reducible apply aO);intro X Y;go_simp;(first|(refine ⟨_,⟨g2,rfl⟩,?_⟩)|(with_reducible refine ⟨_,q1,?_⟩)|(with_reducible refine ⟨_,q2,?_⟩)|(with_reducible refine ⟨_,q3,?_⟩)|(refine ⟨_,g5,?_⟩)|skip);apply Y;clear Y X)
 refine ah [] ?_;repeat' with_reducible first|apply af|apply ae|apply ao|apply aa|(apply aj;·go_simp)|(apply ab;intro X Y;go_simp;apply Y;clear Y X)
 refine mQ 19 [0,59,59,60,60,61,61,62,62,63,3,64,64,65] (by kernel_rfl) (by kernel_rfl) (by kernel_rfl) (unW 1) (mZ 1) rfl ⟨rfl,rfl⟩ ?_;simp only [List.take];repeat' with_reducible first|apply aP|(apply aO;intro X Y;go_simp;apply Y;clear Y X)
 refine ⟨_,_,tC (id:=1) (k:=k) (es:=(qat s.q k).map bL) (c:=S car) (by exact rfl) (by exact rfl) (by go_simp) (by go_simp) rN ti9 (by exact rfl) (by go_simp),?_,?_,?_⟩
 ·simp only [List.forall_mem_cons];go_simp
 ·repeat' with_reducible first|apply aP|(apply aO;intro X Y;go_simp;apply Y;clear Y X)
  simp only [List.forall_mem_cons];go_simp
 go_simp;refine bM [] 2 ⟨rfl,rfl⟩ ?_;simp only [aA];repeat' with_reducible first|apply aa|(apply ab;intro X Y;go_simp;apply Y;clear Y X)
 apply da;repeat' with_reducible first|apply af|apply ae
 rw [rM,lR];refine ah [] ?_;repeat' first|(with_reducible first|apply af|apply ae|apply aa)|((with_reducible apply ab);intro X Y;go_simp;(first|(refine ⟨_,⟨g6,rfl⟩,?_⟩)|skip);apply Y;clear Y X)
 refine ah [] ?_;repeat' with_reducible first|apply ae|apply aa|(apply au;·go_simp)|(apply ab;intro X Y;go_simp;apply Y;clear Y X)
 refine eC (bM [] 9 ⟨rfl,rfl⟩ ?_);simp only [aA];repeat' with_reducible first|apply aa|(apply ab;intro X Y;go_simp;apply Y;clear Y X)
 refine AB (fun p a w R=>⟨_,Rel.deadCell R (bi:=0) (j:=1) (r:=2) rfl rfl⟩) ?_;simp only [List.set];refine eI [2] [] [] [some (.arr 148 3 false (TK.map Tk.av))] (.osl 0) rfl (by go_simp) ?_ ?_
 ·unfold dU;go_simp;refine ⟨_,_,⟨_,gd⟩,?_⟩;go_simp;kernel_rfl
 go_simp;refine bM [] 4 ⟨rfl,rfl⟩ ?_;simp only [aA];repeat' with_reducible first|apply aa|(apply ab;intro X Y;go_simp;apply Y;clear Y X)
 apply da;repeat' with_reducible first|apply af|apply ae
 refine ah [] ?_;repeat' with_reducible first|apply ae|apply aw|apply aa|(apply ab;intro X Y;go_simp;apply Y;clear Y X)
 go_simp
theorem EN (r:Ru) (x:Ev) (hn:r.ranks.length≤1000000) (hc:x.car.size≤1000) : VC Tryz.prog 117 [bN r,evA x] (I (evE r x)):=by
 have i1:=np x.kind 0 5;have i2:=np x.time 0 604800;have i3:=np x.rank 0 ((r.ranks.length:Int) - 1);have i4:=tW x.car hc;have u1:=bY (inR x.kind 0 5) 15;have u2:=bY (inR x.time 0 604800) 2;have u3:=bY (inR x.rank 0 ((r.ranks.length:Int) - 1)) 6;have u4:=bY (!decide (x.kind=4) || decide (x.car=ByteArray.empty)) 3;have u5:=bY (decide (x.kind=4) || dj x.car) 4;have g5:VC Tryz.prog 88 [.sl 1 ([unl (inR x.kind 0 5) 15,unl (inR x.time 0 604800) 2,unl (inR x.rank 0 ((r.ranks.length:Int) - 1)) 6,unl (!decide (x.kind=4) || decide (x.car=ByteArray.empty)) 3,unl (decide (x.kind=4) || dj x.car) 4].map eK)] (I (evE r x)):=fF _ rfl rfl;have hw:IntKind.i64.wrap ((r.ranks.length:Int) - 1)=(r.ranks.length:Int) - 1:=fM (by omega) (by omega);generalize evE r x=E at *;generalize inR x.kind 0 5=D1 at *;generalize inR x.time 0 604800=D2 at *;generalize inR x.rank 0 ((r.ranks.length:Int) - 1)=D3 at *;generalize dj x.car=D5 at *;generalize unl D1 15=A1 at *;generalize unl D2 2=A2 at *;generalize unl D3 6=A3 at *;by_cases h4:x.kind=4
 ·rw [h4] at i1;rw [decide_eq_true h4,Bool.not_true,Bool.false_or] at u4;rw [decide_eq_true h4,Bool.true_or] at u5;rw [decide_eq_true h4,Bool.not_true,Bool.false_or,Bool.true_or] at g5;generalize unl true 4=A5 at *;have he:(ByteArray.empty:ByteArray)=⟨#[]⟩:=rfl;rw [he] at u4 g5;generalize unl (decide (x.car=⟨#[]⟩)) 3=A4 at *;clear he;refine aJ Tryz.func117 rfl (by kernel_rfl) rfl fun M0 w0=>?_;simp only [Tryz.ntmps117,Tryz.results117,aC];repeat' first|(with_reducible first|apply af|apply ae|apply aw|apply aa|refine ah [] ?_|apply aP)|((with_reducible first|apply ab|apply aO);intro X Y;go_simp;(first|(with_reducible refine ⟨_,i1,?_⟩)|(with_reducible refine ⟨_,i2,?_⟩)|(with_reducible refine ⟨_,i3,?_⟩)|(with_reducible refine ⟨_,u1,?_⟩)|(with_reducible refine ⟨_,u2,?_⟩)|(with_reducible refine ⟨_,u3,?_⟩)|(with_reducible refine ⟨_,u4,?_⟩)|(with_reducible refine ⟨_,u5,?_⟩)|(refine ⟨_,g5,?_⟩)|skip);apply Y;clear Y X)|((refine bf 34 34 [] rfl (by kernel_rfl) ?_);simp only [aA])
  go_simp
 ·rw [decide_eq_false h4,Bool.not_false,Bool.true_or] at u4;rw [decide_eq_false h4,Bool.false_or] at u5;rw [decide_eq_false h4,Bool.not_false,Bool.true_or,Bool.false_or] at g5;generalize unl true 3=A4 at *;generalize unl D5 4=A5 at *;refine aJ Tryz.func117 rfl (by kernel_rfl) rfl fun M0 w0=>?_;simp only [Tryz.ntmps117,Tryz.results117,aC];repeat' first|(with_reducible first|apply af|apply ae|apply aw|apply aa|refine ah [] ?_|apply aP)|((with_reducible first|apply ab|apply aO);intro X Y;go_simp;(first|(with_reducible refine ⟨_,i1,?_⟩)|(with_reducible refine ⟨_,i2,?_⟩)|(with_reducible refine ⟨_,i3,?_⟩)|(with_reducible refine ⟨_,i4,?_⟩)|(with_reducible refine ⟨_,u1,?_⟩)|(with_reducible refine ⟨_,u2,?_⟩)|(with_reducible refine ⟨_,u3,?_⟩)|(with_reducible refine ⟨_,u4,?_⟩)|(with_reducible refine ⟨_,u5,?_⟩)|(refine ⟨_,g5,?_⟩)|skip);apply Y;clear Y X)|((refine bf 34 34 [] rfl (by kernel_rfl) ?_);simp only [aA])
  go_simp
end Go.Proofs.YtoibondihdhnoaaGreatDoor
