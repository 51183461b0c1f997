/- Texts in one: Walks on a town that changes: a car returns. -/
import Derived.Test.YtoibondihdhnoaaGreatDoorFRK9
import Derived.Test.YtoibondihdhnoaaGreatDoorFRK22
import Derived.Test.YtoibondihdhnoaaGreatDoorFRK21
import Derived.Test.YtoibondihdhnoaaGreatDoorFRK24
import Derived.Test.YtoibondihdhnoaaGreatDoorFRK15
namespace Go.Proofs.YtoibondihdhnoaaGreatDoor
open Go.RowKit
set_option maxRecDepth 100000
set_option maxHeartbeats 2000000
theorem JL (r:Ru) (s:St) (mv:List Sg) (n1 n2:Bool) (x:Ev) (k:Nat) (hx:x.rank=k) (hk:k < s.q.length) (hr:r.ranks.length=s.q.length) (hf:jO r s.q.length) (h0:¬jG r s k=0) :
  VH Tryz.prog 228 (ct r s mv n1 n2) [.ref 0 0,evA x] [0] (ct r s mv n1 n2) (I (jG r s k)):=by
 have cN:k < r.ranks.length:=by omega
 have fT:=hf k hk;obtain ⟨kd,tm,rk,car⟩:=x;simp only at hx;subst hx;unfold jG at h0 ⊢;by_cases h1:(rat r.ranks k).feeder = -1
 ·rw [if_pos h1];clear fT hf h0;simp only [evA];refine dk Tryz.func228 rfl (by kernel_rfl) rfl (fun _=>by kernel_rfl) fun M0 w0 vs=>?_;simp only [Tryz.ntmps228,Tryz.results228,aB];unfold ct;repeat' with_reducible first|apply af|apply ae|apply aa|refine ah [] ?_|(apply ab;intro X Y;go_simp;apply Y;clear Y X)
  refine fR 10 [] [⟨9,5,[.string ⟨#[]⟩,.int .i64 0,.int .i64 0,.bool false],none,[]⟩] (by kernel_rfl) (by go_simp) ?_;simp only [ax];repeat (first|(refine fb rfl ?_)|((with_reducible refine fc rfl fun X Y=>?_);go_simp;refine Y _ (by go_simp) ?_;clear Y X)|(with_reducible apply fe))
  refine ⟨by go_simp,?_⟩;simp only [d_,ez,Slot.end_,List.cons_append,List.nil_append];repeat' with_reducible first|apply af|apply ae|apply aT|apply az|apply aa|refine ah [] ?_|(apply aw;·go_simp)|(apply ab;intro X Y;go_simp;apply Y;clear Y X)
  go_simp
 ·rw [if_neg h1] at h0 ⊢;obtain ⟨f0,fl⟩:=fT h1;unfold feedN at h0 ⊢;obtain ⟨f,iw⟩ : ∃ f:Nat,(rat r.ranks k).feeder=f:=⟨(rat r.ranks k).feeder.toNat,by omega⟩
  have g3:=ot r s mv k hk hr;rw [iw] at fl h1 h0 ⊢;simp only [Int.toNat_natCast] at fl h0 ⊢;clear fT hf f0;have g1:=bH (rat r.ranks k).called 22;have g2:=bH (decide (0 < (qat s.q f).length)) 12;have g4:=bH (cm r s k) 16;have g5:VC Tryz.prog 88 [.sl 1 ([unl (rat r.ranks k).called 22,unl (decide (0 < (qat s.q f).length)) 12,unl (cm r s k) 16].map dN)] (I (fst [unl (rat r.ranks k).called 22,unl (decide (0 < (qat s.q f).length)) 12,unl (cm r s k) 16])):=eX _ rfl rfl;generalize fst [unl (rat r.ranks k).called 22,unl (decide (0 < (qat s.q f).length)) 12,unl (cm r s k) 16]=E at *;generalize unl (rat r.ranks k).called 22=A1 at *;generalize unl (decide (0 < (qat s.q f).length)) 12=A2 at *;generalize unl (cm r s k) 16=A3 at *;generalize cm r s k=F at *;simp only [evA];refine dk Tryz.func228 rfl (by kernel_rfl) rfl (fun _=>by kernel_rfl) fun M0 w0 vs=>?_;simp only [Tryz.ntmps228,Tryz.results228,aB];unfold ct;repeat' with_reducible first|apply af|apply ae|apply aa|refine ah [] ?_|(apply ab;intro X Y;go_simp;apply Y;clear Y X)
  refine fR 10 [] [⟨9,5,[.string ⟨#[]⟩,.int .i64 0,.int .i64 0,.bool false],none,[]⟩] (by kernel_rfl) (by go_simp) ?_;simp only [ax];repeat (first|(refine fb rfl ?_)|((with_reducible refine fc rfl fun X Y=>?_);go_simp;refine Y _ (by go_simp) ?_;clear Y X)|(with_reducible apply fe))
  refine ⟨by go_simp,?_⟩;simp only [d_,ez,Slot.end_,List.cons_append,List.nil_append];repeat' first|(with_reducible first|apply af|apply ae|apply az|apply ar|apply aa|refine ah [] ?_|apply aR|(apply ak;·go_simp))|((with_reducible first|apply ab|apply aS);intro X Y;go_simp;(first|(with_reducible refine ⟨_,g1,?_⟩)|(with_reducible refine ⟨_,g2,?_⟩)|(refine ⟨_,⟨g3,rfl⟩,?_⟩)|(with_reducible refine ⟨_,g4,?_⟩)|(refine ⟨_,g5,?_⟩)|skip);apply Y;clear Y X)|((refine bg 23 23 [] rfl (by kernel_rfl) ?_);simp only [ax])
  go_simp
theorem JM (r:Ru) (s:St) (mv:List Sg) (n1 n2:Bool) (x:Ev) (k f:Nat) (hx:x.rank=k) (hk:k < s.q.length) (hr:r.ranks.length=s.q.length) (hf:(rat r.ranks k).feeder=f) (dh:f < s.q.length) (au:f≠k) (hq:(qat s.q k).length+1≤1000000000) (hm:mv.length+2≤1000000000) (h0:jG r s k=0) :
  VH Tryz.prog 228 (ct r s mv n1 n2) [.ref 0 0,evA x] [0] (ct r ⟨upQ s.q k f,s.tk,s.time⟩ (mv++upM s.q k f) n1 false) (I 0):=by
 have cN:k < r.ranks.length:=by omega
 obtain ⟨kd,tm,rk,car⟩:=x;simp only at hx;subst hx;have h1:¬(f:Int) = -1:=by omega
 unfold jG feedN at h0;rw [hf,if_neg h1,Int.toNat_natCast] at h0;have hp:0 < (qat s.q f).length:=by
  rw [cj,cj] at h0;exact of_decide_eq_true (ft (by decide) h0.2.1)
 have gu:=DZ r s mv n1 n2 k f hk hr hf dh au hp hq hm;have g3:=ot r s mv k hk hr;have g1:=bH (rat r.ranks k).called 22;have g2:=bH (decide (0 < (qat s.q f).length)) 12;have g4:=bH (cm r s k) 16;have g5:VC Tryz.prog 88 [.sl 1 ([unl (rat r.ranks k).called 22,unl (decide (0 < (qat s.q f).length)) 12,unl (cm r s k) 16].map dN)] (I (fst [unl (rat r.ranks k).called 22,unl (decide (0 < (qat s.q f).length)) 12,unl (cm r s k) 16])):=eX _ rfl rfl;rw [h0] at g5;have hd:decide (0 < (qat s.q f).length)=true:=decide_eq_true hp;clear h0;generalize unl (rat r.ranks k).called 22=A1 at *;rw [hd] at g2 g5;generalize unl true 12=A2 at *;generalize unl (cm r s k) 16=A3 at *;generalize cm r s k=F at *;generalize upQ s.q k f=Q2 at *;generalize mv++upM s.q k f=M2 at *;clear hd hq hm;simp only [evA];refine dk Tryz.func228 rfl (by kernel_rfl) rfl (fun _=>by kernel_rfl) fun M0 w0 vs=>?_;simp only [Tryz.ntmps228,Tryz.results228,aB];unfold ct at gu ⊢;repeat' with_reducible first|apply af|apply ae|apply aa|refine ah [] ?_|(apply ab;intro X Y;go_simp;apply Y;clear Y X)
 refine fR 10 [] [⟨9,5,[.string ⟨#[]⟩,.int .i64 0,.int .i64 0,.bool false],none,[]⟩] (by kernel_rfl) (by go_simp) ?_;simp only [ax];repeat (first|(refine fb rfl ?_)|((with_reducible refine fc rfl fun X Y=>?_);go_simp;refine Y _ (by go_simp) ?_;clear Y X)|(with_reducible apply fe))
 refine ⟨by go_simp,?_⟩;simp only [d_,ez,Slot.end_,List.cons_append,List.nil_append];repeat' with_reducible first|apply af|apply ae|apply aa|(apply ab;intro X Y;go_simp;apply Y;clear Y X)
 refine ah [] ?_;repeat' with_reducible first|apply af|apply ae|apply ar|apply aa|(apply ak;·go_simp)|(apply ab;intro X Y;go_simp;apply Y;clear Y X)
 refine bg 23 23 [] rfl (by kernel_rfl) ?_;simp only [ax];repeat' first|(with_reducible first|apply af|apply ae|apply aa|apply aR)|((with_reducible apply aS);intro X Y;go_simp;(first|(with_reducible refine ⟨_,g1,?_⟩)|(with_reducible refine ⟨_,g2,?_⟩)|(refine ⟨_,⟨g3,rfl⟩,?_⟩)|(with_reducible refine ⟨_,g4,?_⟩)|(refine ⟨_,g5,?_⟩)|skip);apply Y;clear Y X)
 refine ah [] ?_;repeat' with_reducible first|apply ae|apply aa|(apply aw;·go_simp)|(apply ab;intro X Y;go_simp;apply Y;clear Y X)
 refine dB (bz [] 3 ⟨rfl,rfl⟩ ?_);simp only [ax];repeat' with_reducible first|apply aa|(apply ab;intro X Y;go_simp;apply Y;clear Y X)
 refine dF [0,1,2,3] [0] [] [some (.box [.osl 1,.osl 2,I s.time,.sl 4 (r.ranks.map Rk.av),I r.back,I r.ret,.osl 3]),some (.bag 62 1 false none (bo Q2)),some (.arr 148 3 n1 (s.tk.map Tk.av)),some (.arr 45 3 false (M2.map Sg.av))] (.tup []) rfl (by go_simp) ?_ ?_
 ·unfold dx;go_simp;refine ⟨_,_,_,gu,?_⟩;go_simp;kernel_rfl
 go_simp;apply cR;repeat' with_reducible first|apply af|apply ae
 refine ah [] ?_;repeat' with_reducible first|apply ae|apply az|apply aa|(apply ab;intro X Y;go_simp;apply Y;clear Y X)
 go_simp
theorem JN (r:Ru) (s:St) (mv:List Sg) (n1 n2:Bool) (x:Ev) (k:Nat) (hx:x.rank=k) (hl:s.tk.length≤1000000) (h0:eN s.tk x.car < 0) :
  VH Tryz.prog 229 (ct r s mv n1 n2) [.ref 0 0,evA x] [0] (ct r s mv n1 n2) (I 6):=by
 have g1:=qc r s mv x.car hl;generalize eN s.tk x.car=A at *;obtain ⟨kd,tm,rk,car⟩:=x;simp only at hx;subst hx;simp only [evA];refine dk Tryz.func229 rfl (by kernel_rfl) rfl (fun _=>by kernel_rfl) fun M0 w0 vs=>?_;simp only [Tryz.ntmps229,Tryz.results229,aB];unfold ct;repeat' first|(with_reducible first|apply af|apply ae|apply aT|apply az|apply aa|refine ah [] ?_|apply aR|(apply aw;·go_simp))|((with_reducible first|apply ab|apply aS);intro X Y;go_simp;(first|(refine ⟨_,⟨g1,rfl⟩,?_⟩)|skip);apply Y;clear Y X)|((refine bg 16 16 [] rfl (by kernel_rfl) ?_);simp only [ax])
 go_simp
theorem JO (r:Ru) (s:St) (mv:List Sg) (n1 n2:Bool) (x:Ev) (k i:Nat) (hx:x.rank=k) (hl:s.tk.length≤1000000) (hi:eN s.tk x.car=i) (cC:i < s.tk.length) (h0:(aI s.tk i).rank≠k) :
  VH Tryz.prog 229 (ct r s mv n1 n2) [.ref 0 0,evA x] [0] (ct r s mv n1 n2) (I 6):=by
 have g1:=qc r s mv x.car hl;rw [hi] at g1;clear hi;obtain ⟨kd,tm,rk,car⟩:=x;simp only at hx;subst hx;simp only [evA];refine dk Tryz.func229 rfl (by kernel_rfl) rfl (fun _=>by kernel_rfl) fun M0 w0 vs=>?_;simp only [Tryz.ntmps229,Tryz.results229,aB];unfold ct;repeat' first|(with_reducible first|apply af|apply ae|apply aT|apply az|apply aa|refine ah [] ?_|apply aR|(apply aw;·go_simp))|((with_reducible first|apply ab|apply aS);intro X Y;go_simp;(first|(refine ⟨_,⟨g1,rfl⟩,?_⟩)|skip);apply Y;clear Y X)|((refine bg 16 16 [] rfl (by kernel_rfl) ?_);simp only [ax])
 go_simp
theorem JP (r:Ru) (s:St) (mv:List Sg) (n1 n2:Bool) (x:Ev) (k i:Nat) (hx:x.rank=k) (hk:k < s.q.length) (hr:r.ranks.length=s.q.length) (hl:s.tk.length≤1000000) (hi:eN s.tk x.car=i) (cC:i < s.tk.length) (h0:(aI s.tk i).rank=k)
  (ht:0≤x.time∧x.time≤604800) (jn:0≤(aI s.tk i).time∧(aI s.tk i).time≤604800) (h1:¬fst [unl (decide (x.time - (aI s.tk i).time≤r.ret)) 25,unl (cm r s k) 16]=0) :
  VH Tryz.prog 229 (ct r s mv n1 n2) [.ref 0 0,evA x] [0] (ct r s mv n1 n2) (I (fst [unl (decide (x.time - (aI s.tk i).time≤r.ret)) 25,unl (cm r s k) 16])):=by
 have g1:=qc r s mv x.car hl;rw [hi] at g1;clear hi;have g2:=ot r s mv k hk hr;have g3:=bH (decide (x.time - (aI s.tk i).time≤r.ret)) 25;have g4:=bH (cm r s k) 16;have g5:VC Tryz.prog 88 [.sl 1 ([unl (decide (x.time - (aI s.tk i).time≤r.ret)) 25,unl (cm r s k) 16].map dN)] (I (fst [unl (decide (x.time - (aI s.tk i).time≤r.ret)) 25,unl (cm r s k) 16])):=eX _ rfl rfl;have hw:IntKind.i64.wrap (x.time - (aI s.tk i).time)=x.time - (aI s.tk i).time:=gZ (by omega) (by omega);generalize fst [unl (decide (x.time - (aI s.tk i).time≤r.ret)) 25,unl (cm r s k) 16]=E at *;generalize unl (decide (x.time - (aI s.tk i).time≤r.ret)) 25=A1 at *;generalize unl (cm r s k) 16=A2 at *;generalize cm r s k=F at *;clear ht jn;obtain ⟨kd,tm,rk,car⟩:=x;simp only at hx hw g3;subst hx;simp only [evA];refine dk Tryz.func229 rfl (by kernel_rfl) rfl (fun _=>by kernel_rfl) fun M0 w0 vs=>?_;simp only [Tryz.ntmps229,Tryz.results229,aB];unfold ct;repeat' first|(with_reducible first|apply af|apply ae|apply aT|apply az|apply ar|apply aa|refine ah [] ?_|apply aR|(apply aw;·go_simp)|(apply ak;·go_simp))|((with_reducible first|apply ab|apply aS);intro X Y;go_simp;(first|(refine ⟨_,⟨g1,rfl⟩,?_⟩)|(refine ⟨_,⟨g2,rfl⟩,?_⟩)|(with_reducible refine ⟨_,g3,?_⟩)|(with_reducible refine ⟨_,g4,?_⟩)|(refine ⟨_,g5,?_⟩)|skip);apply Y;clear Y X)|((refine bg 16 16 [] rfl (by kernel_rfl) ?_);simp only [ax])|((refine bg 27 27 [] rfl (by kernel_rfl) ?_);simp only [ax])
 go_simp
theorem x7 {α β:Type} (f:α→β) : ∀ (l:List α) (i:Nat),(l.map f).eraseIdx i=(l.eraseIdx i).map f
 | [],_=>rfl
 | _::_,0=>rfl
 | x::l,i+1=>by
  rw [List.map_cons,List.eraseIdx_cons_succ,List.eraseIdx_cons_succ,List.map_cons,x7 f l i]
theorem JQ (r:Ru) (s:St) (mv:List Sg) (n1 n2:Bool) (x:Ev) (k i:Nat) (hx:x.rank=k) (hk:k < s.q.length) (hr:r.ranks.length=s.q.length) (hl:s.tk.length≤1000000) (hi:eN s.tk x.car=i) (cC:i < s.tk.length) (h0:(aI s.tk i).rank=k)
  (ht:0≤x.time∧x.time≤604800) (jn:0≤(aI s.tk i).time∧(aI s.tk i).time≤604800) (hq:(qat s.q k).length+1≤10000) (h1:fst [unl (decide (x.time - (aI s.tk i).time≤r.ret)) 25,unl (cm r s k) 16]=0) :
  VH Tryz.prog 229 (ct r s mv n1 n2) [.ref 0 0,evA x] [0] (ct r ⟨s.q.set k ([x.car]++qat s.q k),s.tk.eraseIdx i,s.time⟩ mv false n2) (I 0):=by
 have g1:=qc r s mv x.car hl;rw [hi] at g1;clear hi;have g2:=ot r s mv k hk hr;have g3:=bH (decide (x.time - (aI s.tk i).time≤r.ret)) 25;have g4:=bH (cm r s k) 16;have g5:VC Tryz.prog 88 [.sl 1 ([unl (decide (x.time - (aI s.tk i).time≤r.ret)) 25,unl (cm r s k) 16].map dN)] (I (fst [unl (decide (x.time - (aI s.tk i).time≤r.ret)) 25,unl (cm r s k) 16])):=eX _ rfl rfl;have hw:IntKind.i64.wrap (x.time - (aI s.tk i).time)=x.time - (aI s.tk i).time:=gZ (by omega) (by omega);have gd:=AY (s.tk.map Tk.av) n1 i (by simpa using cC);rw [x7] at gd;rw [h1] at g5;clear h1;generalize unl (decide (x.time - (aI s.tk i).time≤r.ret)) 25=A1 at *;generalize unl (cm r s k) 16=A2 at *;generalize cm r s k=F at *;generalize s.tk.eraseIdx i=TK at *;clear ht jn;obtain ⟨kd,tm,rk,car⟩:=x;simp only at hx hw g3;subst hx;simp only [evA];obtain ⟨w1,w2,w3,w4,w5,w6⟩:=ixs (m:=i) (by omega);refine dk Tryz.func229 rfl (by kernel_rfl) rfl (fun _=>by kernel_rfl) fun M0 w0 vs=>?_;simp only [Tryz.ntmps229,Tryz.results229,aB];unfold ct;repeat' first|(with_reducible first|apply af|apply ae|apply aa|refine ah [] ?_)|((with_reducible apply ab);intro X Y;go_simp;(first|(refine ⟨_,⟨g1,rfl⟩,?_⟩)|skip);apply Y;clear Y X)
 refine bg 16 16 [] rfl (by kernel_rfl) ?_;simp only [ax];repeat' with_reducible first|apply af|apply ae|apply ar|apply aa|apply aR|(apply ak;·go_simp)|(apply aS;intro X Y;go_simp;apply Y;clear Y X)
 refine bg 27 27 [] rfl (by kernel_rfl) ?_;simp only [ax];repeat' first|(with_reducible first|apply af|apply ae|apply aa|apply aR)|((with_reducible apply aS);intro X Y;go_simp;(first|(refine ⟨_,⟨g2,rfl⟩,?_⟩)|(with_reducible refine ⟨_,g3,?_⟩)|(with_reducible refine ⟨_,g4,?_⟩)|(refine ⟨_,g5,?_⟩)|skip);apply Y;clear Y X)
 refine ah [] ?_;repeat' with_reducible first|apply af|apply ae|apply ar|apply aa|(apply ak;·go_simp)|(apply ab;intro X Y;go_simp;apply Y;clear Y X)
 refine dB (bz [] 9 ⟨rfl,rfl⟩ ?_);simp only [ax];repeat' with_reducible first|apply aa|(apply ab;intro X Y;go_simp;apply Y;clear Y X)
 refine Ad (fun p a w R=>⟨_,Rel.deadCell R (bi:=0) (j:=1) (r:=2) rfl rfl⟩) ?_;simp only [List.set];refine dF [2] [] [] [some (.arr 148 3 false (TK.map Tk.av))] (.osl 0) rfl (by go_simp) ?_ ?_
 ·unfold dx;go_simp;refine ⟨_,_,⟨_,gd⟩,?_⟩;go_simp;kernel_rfl
 go_simp;refine bz [] 4 ⟨rfl,rfl⟩ ?_;simp only [ax];repeat' with_reducible first|apply aa|(apply ab;intro X Y;go_simp;apply Y;clear Y X)
 apply cR;repeat' with_reducible first|apply af|apply ae
 refine mZ 20 [0,69,69,70,70,71,71,72,72,73,3,74,74,75] (by kernel_rfl) (by kernel_rfl) (by kernel_rfl) (fun v=>v) uM rfl ⟨rfl,rfl⟩ ?_;simp only [List.take];repeat' with_reducible first|apply aR|(apply aS;intro X Y;go_simp;apply Y;clear Y X)
 refine ⟨_,_,ta (by exact rfl) (by exact rfl) (by go_simp;exact Jr _ _ (by repeat' (first|exact TxO.one _|exact TxO.map _|apply TxO.take|apply TxO.drop|apply TxO.tail)) (by simp;omega)) (by go_simp),?_,?_,?_⟩
 ·simp only [List.forall_mem_cons];go_simp
 ·repeat' with_reducible first|apply aR|(apply aS;intro X Y;go_simp;apply Y;clear Y X)
  simp only [List.forall_mem_cons];go_simp
 go_simp;refine bz [] 2 ⟨rfl,rfl⟩ ?_;simp only [ax];repeat' with_reducible first|apply aa|(apply ab;intro X Y;go_simp;apply Y;clear Y X)
 apply cR;repeat' with_reducible first|apply af|apply ae|apply az|apply aa|refine ah [] ?_|(apply ab;intro X Y;go_simp;apply Y;clear Y X)
 go_simp;rw [←lk];rfl
theorem vl (q:List (List ByteArray)) (c:ByteArray) : ∃ a b:Int,sZ q c = .tup [.agg [I a,I b],B (decide (0≤eh q c))]:=by
 unfold sZ;by_cases h:0≤eh q c
 ·rw [if_pos h,decide_eq_true h];exact ⟨_,_,rfl⟩
 ·rw [if_neg h,decide_eq_false h];exact ⟨_,_,rfl⟩
theorem JR (r:Ru) (s:St) (mv:List Sg) (n1 n2:Bool) (x:Ev) (k:Nat) (hx:x.rank=k) (hk:k < s.q.length) (hr:r.ranks.length=s.q.length) (hf:jO r s.q.length) (iK:s.q.length≤1000000) (dL:∀ k,k < s.q.length→(qat s.q k).length≤1000000) (h0:¬iT r s x k=0) :
  VH Tryz.prog 224 (ct r s mv n1 n2) [.ref 0 0,evA x] [0] (ct r s mv n1 n2) (I (iT r s x k)):=by
 have cN:k < r.ranks.length:=by omega
 have fT:=hf k hk;clear hf;have g1:=uu r s mv x.car iK dL;clear dL;obtain ⟨sa,sb,es⟩:=vl s.q x.car;rw [es] at g1;clear es;have g2:=ot r s mv k hk hr;have q1:=bH (!decide (0≤eh s.q x.car)) 5;have q2:=bH (!iH r s k) 13;have q3:=bH (cm r s k) 16;have g5:VC Tryz.prog 88 [.sl 1 ([unl (!decide (0≤eh s.q x.car)) 5,unl (!iH r s k) 13,unl (cm r s k) 16].map dN)] (I (iT r s x k)):=eX _ rfl rfl;unfold iH feedN at *;generalize iT r s x k=E at *;generalize decide (0≤eh s.q x.car)=D at *;generalize unl (!D) 5=A1 at *;generalize unl (cm r s k) 16=A3 at *;generalize cm r s k=F at *;obtain ⟨kd,tm,rk,car⟩:=x;simp only at hx g1;subst hx;simp only [evA];by_cases h1:(rat r.ranks k).feeder = -1
 ·have e:(decide ((rat r.ranks k).feeder≠-1)&&decide (0 < (qat s.q (rat r.ranks k).feeder.toNat).length))=false:=by simp [h1]
  rw [e,Bool.not_false] at q2 g5;generalize unl true 13=A2 at *;clear fT e;refine dk Tryz.func224 rfl (by kernel_rfl) rfl (fun _=>by kernel_rfl) fun M0 w0 vs=>?_;simp only [Tryz.ntmps224,Tryz.results224,aB];unfold ct;repeat' first|(with_reducible first|apply af|apply ae|apply aT|apply az|apply aa|refine ah [] ?_|apply aR|(apply aw;·go_simp))|((with_reducible first|apply ab|apply aS);intro X Y;go_simp;(first|(refine ⟨_,⟨g1,rfl⟩,?_⟩)|(refine ⟨_,⟨g2,rfl⟩,?_⟩)|(with_reducible refine ⟨_,q1,?_⟩)|(with_reducible refine ⟨_,q2,?_⟩)|(with_reducible refine ⟨_,q3,?_⟩)|(refine ⟨_,g5,?_⟩)|skip);apply Y;clear Y X)|((refine bg 11 11 [] rfl (by kernel_rfl) ?_);simp only [ax])|((refine bg 14 14 [] rfl (by kernel_rfl) ?_);simp only [ax])
  go_simp
 ·obtain ⟨f0,fl⟩:=fT h1;clear fT;obtain ⟨f,iw⟩ : ∃ f:Nat,(rat r.ranks k).feeder=f:=⟨(rat r.ranks k).feeder.toNat,by omega⟩
  rw [iw] at fl h1 q2 g5;have e:(decide ((f:Int)≠-1)&&decide (0 < (qat s.q (f:Int).toNat).length))=decide (0 < (qat s.q f).length):=by
   rw [decide_eq_true h1,Bool.true_and,Int.toNat_natCast]
  rw [e] at q2 g5;simp only [Int.toNat_natCast] at fl;generalize unl (!decide (0 < (qat s.q f).length)) 13=A2 at *;clear f0 e;have tB:(if (f:Int) < 0 then 0 else (f:Int))=f:=if_neg (by omega);refine dk Tryz.func224 rfl (by kernel_rfl) rfl (fun _=>by kernel_rfl) fun M0 w0 vs=>?_;simp only [Tryz.ntmps224,Tryz.results224,aB];unfold ct;repeat' first|(with_reducible first|apply af|apply ae|apply aT|apply az|apply aa|refine ah [] ?_|apply aR|(apply aw;·go_simp))|((with_reducible first|apply ab|apply aS);intro X Y;go_simp;(first|(refine ⟨_,⟨g1,rfl⟩,?_⟩)|(refine ⟨_,⟨g2,rfl⟩,?_⟩)|(with_reducible refine ⟨_,q1,?_⟩)|(with_reducible refine ⟨_,q2,?_⟩)|(with_reducible refine ⟨_,q3,?_⟩)|(refine ⟨_,g5,?_⟩)|skip);apply Y;clear Y X)|((refine bg 11 11 [] rfl (by kernel_rfl) ?_);simp only [ax])|((refine bg 14 14 [] rfl (by kernel_rfl) ?_);simp only [ax])
  go_simp
theorem JS (r:Ru) (s:St) (mv:List Sg) (n1 n2:Bool) (x:Ev) (k:Nat) (hx:x.rank=k) (hk:k < s.q.length) (hr:r.ranks.length=s.q.length) (iK:s.q.length≤1000000) (dL:∀ k,k < s.q.length→(qat s.q k).length≤1000000) (hl:s.tk.length≤1000000) (iw:(rat r.ranks k).feeder = -1) (ht:eN s.tk x.car < 0) (h0:iT r s x k=0) :
  VH Tryz.prog 224 (ct r s mv n1 n2) [.ref 0 0,evA x] [0] (ct r ⟨s.q.set k (qat s.q k++[x.car]),s.tk,s.time⟩ mv n1 n2) (I 0):=by
 have cN:k < r.ranks.length:=by omega
 have tC:=dL k hk;have rY:(qat s.q k).length≤999999999:=by omega
 have g1:=uu r s mv x.car iK dL;clear dL;obtain ⟨sa,sb,es⟩:=vl s.q x.car;rw [es] at g1;clear es;have g2:=ot r s mv k hk hr;have q1:=bH (!decide (0≤eh s.q x.car)) 5;have q2:=bH (!iH r s k) 13;have q3:=bH (cm r s k) 16;have g5:VC Tryz.prog 88 [.sl 1 ([unl (!decide (0≤eh s.q x.car)) 5,unl (!iH r s k) 13,unl (cm r s k) 16].map dN)] (I (iT r s x k)):=eX _ rfl rfl;rw [h0] at g5;clear h0;unfold iH feedN at *;generalize decide (0≤eh s.q x.car)=D at *;generalize unl (!D) 5=A1 at *;generalize unl (cm r s k) 16=A3 at *;generalize cm r s k=F at *;have g6:=qc r ⟨s.q.set k (qat s.q k++[x.car]),s.tk,s.time⟩ mv x.car hl;simp only at g6;have e:(decide ((rat r.ranks k).feeder≠-1)&&decide (0 < (qat s.q (rat r.ranks k).feeder.toNat).length))=false:=by simp [iw]
 rw [e,Bool.not_false] at q2 g5;generalize unl true 13=A2 at *;clear e;generalize eN s.tk x.car=A at *;obtain ⟨kd,tm,rk,car⟩:=x;simp only at hx g1 g6;subst hx;simp only [evA];refine dk Tryz.func224 rfl (by kernel_rfl) rfl (fun _=>by kernel_rfl) fun M0 w0 vs=>?_;simp only [Tryz.ntmps224,Tryz.results224,aB];unfold ct;repeat' first|(with_reducible first|apply af|apply ae|apply aa|refine ah [] ?_)|((with_reducible apply ab);intro X Y;go_simp;(first|(refine ⟨_,⟨g1,rfl⟩,?_⟩)|skip);apply Y;clear Y X)
 refine bg 11 11 [] rfl (by kernel_rfl) ?_;simp only [ax];repeat' with_reducible first|apply af|apply ae|apply aa|apply aR|(apply aS;intro X Y;go_simp;apply Y;clear Y X)
 refine ah [] ?_;repeat' with_reducible first|apply af|apply ae|apply aa|(apply ab;intro X Y;go_simp;apply Y;clear Y X)
 refine bg 14 14 [] rfl (by kernel_rfl) ?_;simp only [ax];repeat' first|(with_reducible first|apply af|apply ae|apply aa|apply aR)|((with_reducible apply aS);intro X Y;go_simp;(first|(refine ⟨_,⟨g2,rfl⟩,?_⟩)|(with_reducible refine ⟨_,q1,?_⟩)|(with_reducible refine ⟨_,q2,?_⟩)|(with_reducible refine ⟨_,q3,?_⟩)|(refine ⟨_,g5,?_⟩)|skip);apply Y;clear Y X)
 refine ah [] ?_;repeat' with_reducible first|apply af|apply ae|apply ar|apply aa|(apply ak;·go_simp)|(apply ab;intro X Y;go_simp;apply Y;clear Y X)
 refine mZ 19 [0,59,59,60,60,61,61,62,62,63,3,64,64,65] (by kernel_rfl) (by kernel_rfl) (by kernel_rfl) (unW 1) (ni 1) rfl ⟨rfl,rfl⟩ ?_;simp only [List.take];repeat' with_reducible first|apply aR|(apply aS;intro X Y;go_simp;apply Y;clear Y X)
 refine ⟨_,_,s_ (id:=1) (k:=k) (es:=(qat s.q k).map bU) (c:=S car) (by exact rfl) (by exact rfl) (by go_simp) (by go_simp) rI ti9 (by exact rfl) (by go_simp),?_,?_,?_⟩
 ·simp only [List.forall_mem_cons];go_simp
 ·repeat' with_reducible first|apply aR|(apply aS;intro X Y;go_simp;apply Y;clear Y X)
  simp only [List.forall_mem_cons];go_simp
 go_simp;refine bz [] 2 ⟨rfl,rfl⟩ ?_;simp only [ax];repeat' with_reducible first|apply aa|(apply ab;intro X Y;go_simp;apply Y;clear Y X)
 apply cR;repeat' with_reducible first|apply af|apply ae
 rw [rH,lk];refine ah [] ?_;repeat' first|(with_reducible first|apply af|apply ae|apply aa)|((with_reducible apply ab);intro X Y;go_simp;(first|(refine ⟨_,⟨g6,rfl⟩,?_⟩)|skip);apply Y;clear Y X)
 refine ah [] ?_;repeat' with_reducible first|apply af|apply ae|apply ar|apply aa|(apply ak;·go_simp)|(apply ab;intro X Y;go_simp;apply Y;clear Y X)
 refine ah [] ?_;repeat' with_reducible first|apply ae|apply az|apply aa|(apply ab;intro X Y;go_simp;apply Y;clear Y X)
 go_simp
theorem JT (r:Ru) (s:St) (mv:List Sg) (n1 n2:Bool) (x:Ev) (k:Nat) (hx:x.rank=k) (hk:k < s.q.length) (hr:r.ranks.length=s.q.length) (iK:s.q.length≤1000000) (dL:∀ k,k < s.q.length→(qat s.q k).length≤1000000) (hl:s.tk.length≤1000000) (iw:(rat r.ranks k).feeder = -1) (i:Nat) (ht:eN s.tk x.car=i) (cC:i < s.tk.length) (h0:iT r s x k=0) :
  VH Tryz.prog 224 (ct r s mv n1 n2) [.ref 0 0,evA x] [0] (ct r ⟨s.q.set k (qat s.q k++[x.car]),s.tk.eraseIdx i,s.time⟩ mv false n2) (I 0):=by
 have cN:k < r.ranks.length:=by omega
 have tC:=dL k hk;have rY:(qat s.q k).length≤999999999:=by omega
 have g1:=uu r s mv x.car iK dL;clear dL;obtain ⟨sa,sb,es⟩:=vl s.q x.car;rw [es] at g1;clear es;have g2:=ot r s mv k hk hr;have q1:=bH (!decide (0≤eh s.q x.car)) 5;have q2:=bH (!iH r s k) 13;have q3:=bH (cm r s k) 16;have g5:VC Tryz.prog 88 [.sl 1 ([unl (!decide (0≤eh s.q x.car)) 5,unl (!iH r s k) 13,unl (cm r s k) 16].map dN)] (I (iT r s x k)):=eX _ rfl rfl;rw [h0] at g5;clear h0;unfold iH feedN at *;generalize decide (0≤eh s.q x.car)=D at *;generalize unl (!D) 5=A1 at *;generalize unl (cm r s k) 16=A3 at *;generalize cm r s k=F at *;have g6:=qc r ⟨s.q.set k (qat s.q k++[x.car]),s.tk,s.time⟩ mv x.car hl;simp only at g6;have e:(decide ((rat r.ranks k).feeder≠-1)&&decide (0 < (qat s.q (rat r.ranks k).feeder.toNat).length))=false:=by simp [iw]
 rw [e,Bool.not_false] at q2 g5;generalize unl true 13=A2 at *;clear e;rw [ht] at g6;clear ht;have gd:=AY (s.tk.map Tk.av) n1 i (by simpa using cC);rw [x7] at gd;generalize s.tk.eraseIdx i=TK at *;obtain ⟨w1,w2,w3,w4,w5,w6⟩:=ixs (m:=i) (by omega);obtain ⟨kd,tm,rk,car⟩:=x;simp only at hx g1 g6;subst hx;simp only [evA];refine dk Tryz.func224 rfl (by kernel_rfl) rfl (fun _=>by kernel_rfl) fun M0 w0 vs=>?_;simp only [Tryz.ntmps224,Tryz.results224,aB];unfold ct;repeat' first|(with_reducible first|apply af|apply ae|apply aa|refine ah [] ?_)|((with_reducible apply ab);intro X Y;go_simp;(first|(refine ⟨_,⟨g1,rfl⟩,?_⟩)|skip);apply Y;clear Y X)
 refine bg 11 11 [] rfl (by kernel_rfl) ?_;simp only [ax];repeat' with_reducible first|apply af|apply ae|apply aa|apply aR|(apply aS;intro X Y;go_simp;apply Y;clear Y X)
 refine ah [] ?_;repeat' with_reducible first|apply af|apply ae|apply aa|(apply ab;intro X Y;go_simp;apply Y;clear Y X)
 refine bg 14 14 [] rfl (by kernel_rfl) ?_;simp only [ax];repeat' first|(with_reducible first|apply af|apply ae|apply aa|apply aR)|((with_reducible apply aS);intro X Y;go_simp;(first|(refine ⟨_,⟨g2,rfl⟩,?_⟩)|(with_reducible refine ⟨_,q1,?_⟩)|(with_reducible refine ⟨_,q2,?_⟩)|(with_reducible refine ⟨_,q3,?_⟩)|(refine ⟨_,g5,?_⟩)|skip);apply Y;clear Y X)
 refine ah [] ?_;repeat' with_reducible first|apply af|apply ae|apply ar|apply aa|(apply ak;·go_simp)|(apply ab;intro X Y;go_simp;apply Y;clear Y X)
 refine mZ 19 [0,59,59,60,60,61,61,62,62,63,3,64,64,65] (by kernel_rfl) (by kernel_rfl) (by kernel_rfl) (unW 1) (ni 1) rfl ⟨rfl,rfl⟩ ?_;simp only [List.take];repeat' with_reducible first|apply aR|(apply aS;intro X Y;go_simp;apply Y;clear Y X)
 refine ⟨_,_,s_ (id:=1) (k:=k) (es:=(qat s.q k).map bU) (c:=S car) (by exact rfl) (by exact rfl) (by go_simp) (by go_simp) rI ti9 (by exact rfl) (by go_simp),?_,?_,?_⟩
 ·simp only [List.forall_mem_cons];go_simp
 ·repeat' with_reducible first|apply aR|(apply aS;intro X Y;go_simp;apply Y;clear Y X)
  simp only [List.forall_mem_cons];go_simp
 go_simp;refine bz [] 2 ⟨rfl,rfl⟩ ?_;simp only [ax];repeat' with_reducible first|apply aa|(apply ab;intro X Y;go_simp;apply Y;clear Y X)
 apply cR;repeat' with_reducible first|apply af|apply ae
 rw [rH,lk];refine ah [] ?_;repeat' first|(with_reducible first|apply af|apply ae|apply aa)|((with_reducible apply ab);intro X Y;go_simp;(first|(refine ⟨_,⟨g6,rfl⟩,?_⟩)|skip);apply Y;clear Y X)
 refine ah [] ?_;repeat' with_reducible first|apply ae|apply aa|(apply aw;·go_simp)|(apply ab;intro X Y;go_simp;apply Y;clear Y X)
 refine dB (bz [] 9 ⟨rfl,rfl⟩ ?_);simp only [ax];repeat' with_reducible first|apply aa|(apply ab;intro X Y;go_simp;apply Y;clear Y X)
 refine Ad (fun p a w R=>⟨_,Rel.deadCell R (bi:=0) (j:=1) (r:=2) rfl rfl⟩) ?_;simp only [List.set];refine dF [2] [] [] [some (.arr 148 3 false (TK.map Tk.av))] (.osl 0) rfl (by go_simp) ?_ ?_
 ·unfold dx;go_simp;refine ⟨_,_,⟨_,gd⟩,?_⟩;go_simp;kernel_rfl
 go_simp;refine bz [] 4 ⟨rfl,rfl⟩ ?_;simp only [ax];repeat' with_reducible first|apply aa|(apply ab;intro X Y;go_simp;apply Y;clear Y X)
 apply cR;repeat' with_reducible first|apply af|apply ae
 refine ah [] ?_;repeat' with_reducible first|apply ae|apply az|apply aa|(apply ab;intro X Y;go_simp;apply Y;clear Y X)
 go_simp
theorem JU (r:Ru) (s:St) (mv:List Sg) (n1 n2:Bool) (x:Ev) (k:Nat) (hx:x.rank=k) (hk:k < s.q.length) (hr:r.ranks.length=s.q.length) (iK:s.q.length≤1000000) (dL:∀ k,k < s.q.length→(qat s.q k).length≤1000000) (hl:s.tk.length≤1000000) (f:Nat) (iw:(rat r.ranks k).feeder=f) (fl:f < s.q.length) (ht:eN s.tk x.car < 0) (h0:iT r s x k=0) :
  VH Tryz.prog 224 (ct r s mv n1 n2) [.ref 0 0,evA x] [0] (ct r ⟨s.q.set k (qat s.q k++[x.car]),s.tk,s.time⟩ mv n1 n2) (I 0):=by
 have cN:k < r.ranks.length:=by omega
 have tC:=dL k hk;have rY:(qat s.q k).length≤999999999:=by omega
 have g1:=uu r s mv x.car iK dL;clear dL;obtain ⟨sa,sb,es⟩:=vl s.q x.car;rw [es] at g1;clear es;have g2:=ot r s mv k hk hr;have q1:=bH (!decide (0≤eh s.q x.car)) 5;have q2:=bH (!iH r s k) 13;have q3:=bH (cm r s k) 16;have g5:VC Tryz.prog 88 [.sl 1 ([unl (!decide (0≤eh s.q x.car)) 5,unl (!iH r s k) 13,unl (cm r s k) 16].map dN)] (I (iT r s x k)):=eX _ rfl rfl;rw [h0] at g5;clear h0;unfold iH feedN at *;generalize decide (0≤eh s.q x.car)=D at *;generalize unl (!D) 5=A1 at *;generalize unl (cm r s k) 16=A3 at *;generalize cm r s k=F at *;have g6:=qc r ⟨s.q.set k (qat s.q k++[x.car]),s.tk,s.time⟩ mv x.car hl;simp only at g6;have h1:(f:Int)≠-1:=by omega
 have e:(decide ((rat r.ranks k).feeder≠-1)&&decide (0 < (qat s.q (rat r.ranks k).feeder.toNat).length))=decide (0 < (qat s.q f).length):=by
  rw [iw,decide_eq_true h1,Bool.true_and,Int.toNat_natCast]
 rw [e] at q2 g5;generalize unl (!decide (0 < (qat s.q f).length)) 13=A2 at *;clear e;have tB:(if (f:Int) < 0 then 0 else (f:Int))=f:=if_neg (by omega);generalize eN s.tk x.car=A at *;obtain ⟨kd,tm,rk,car⟩:=x;simp only at hx g1 g6;subst hx;simp only [evA];refine dk Tryz.func224 rfl (by kernel_rfl) rfl (fun _=>by kernel_rfl) fun M0 w0 vs=>?_;simp only [Tryz.ntmps224,Tryz.results224,aB];unfold ct;repeat' first|(with_reducible first|apply af|apply ae|apply aa|refine ah [] ?_)|((with_reducible apply ab);intro X Y;go_simp;(first|(refine ⟨_,⟨g1,rfl⟩,?_⟩)|skip);apply Y;clear Y X)
 refine bg 11 11 [] rfl (by kernel_rfl) ?_;simp only [ax];repeat' with_reducible first|apply af|apply ae|apply aa|apply aR|(apply aS;intro X Y;go_simp;apply Y;clear Y X)
 refine ah [] ?_;repeat' with_reducible first|apply af|apply ae|apply aa|(apply ab;intro X Y;go_simp;apply Y;clear Y X)
 refine bg 14 14 [] rfl (by kernel_rfl) ?_;simp only [ax];repeat' first|(with_reducible first|apply af|apply ae|apply aa|apply aR)|((with_reducible apply aS);intro X Y;go_simp;(first|(refine ⟨_,⟨g2,rfl⟩,?_⟩)|(with_reducible refine ⟨_,q1,?_⟩)|(with_reducible refine ⟨_,q2,?_⟩)|(with_reducible refine ⟨_,q3,?_⟩)|(refine ⟨_,g5,?_⟩)|skip);apply Y;clear Y X)
 refine ah [] ?_;repeat' with_reducible first|apply af|apply ae|apply ar|apply aa|(apply ak;·go_simp)|(apply ab;intro X Y;go_simp;apply Y;clear Y X)
 refine mZ 19 [0,59,59,60,60,61,61,62,62,63,3,64,64,65] (by kernel_rfl) (by kernel_rfl) (by kernel_rfl) (unW 1) (ni 1) rfl ⟨rfl,rfl⟩ ?_;simp only [List.take];repeat' with_reducible first|apply aR|(apply aS;intro X Y;go_simp;apply Y;clear Y X)
 refine ⟨_,_,s_ (id:=1) (k:=k) (es:=(qat s.q k).map bU) (c:=S car) (by exact rfl) (by exact rfl) (by go_simp) (by go_simp) rI ti9 (by exact rfl) (by go_simp),?_,?_,?_⟩
 ·simp only [List.forall_mem_cons];go_simp
 ·repeat' with_reducible first|apply aR|(apply aS;intro X Y;go_simp;apply Y;clear Y X)
  simp only [List.forall_mem_cons];go_simp
 go_simp;refine bz [] 2 ⟨rfl,rfl⟩ ?_;simp only [ax];repeat' with_reducible first|apply aa|(apply ab;intro X Y;go_simp;apply Y;clear Y X)
 apply cR;repeat' with_reducible first|apply af|apply ae
 rw [rH,lk];refine ah [] ?_;repeat' first|(with_reducible first|apply af|apply ae|apply aa)|((with_reducible apply ab);intro X Y;go_simp;(first|(refine ⟨_,⟨g6,rfl⟩,?_⟩)|skip);apply Y;clear Y X)
 refine ah [] ?_;repeat' with_reducible first|apply af|apply ae|apply ar|apply aa|(apply ak;·go_simp)|(apply ab;intro X Y;go_simp;apply Y;clear Y X)
 refine ah [] ?_;repeat' with_reducible first|apply ae|apply az|apply aa|(apply ab;intro X Y;go_simp;apply Y;clear Y X)
 go_simp
theorem JV (r:Ru) (s:St) (mv:List Sg) (n1 n2:Bool) (x:Ev) (k:Nat) (hx:x.rank=k) (hk:k < s.q.length) (hr:r.ranks.length=s.q.length) (iK:s.q.length≤1000000) (dL:∀ k,k < s.q.length→(qat s.q k).length≤1000000) (hl:s.tk.length≤1000000) (f:Nat) (iw:(rat r.ranks k).feeder=f) (fl:f < s.q.length) (i:Nat) (ht:eN s.tk x.car=i) (cC:i < s.tk.length) (h0:iT r s x k=0) :
  VH Tryz.prog 224 (ct r s mv n1 n2) [.ref 0 0,evA x] [0] (ct r ⟨s.q.set k (qat s.q k++[x.car]),s.tk.eraseIdx i,s.time⟩ mv false n2) (I 0):=by
 have cN:k < r.ranks.length:=by omega
 have tC:=dL k hk;have rY:(qat s.q k).length≤999999999:=by omega
 have g1:=uu r s mv x.car iK dL;clear dL;obtain ⟨sa,sb,es⟩:=vl s.q x.car;rw [es] at g1;clear es;have g2:=ot r s mv k hk hr;have q1:=bH (!decide (0≤eh s.q x.car)) 5;have q2:=bH (!iH r s k) 13;have q3:=bH (cm r s k) 16;have g5:VC Tryz.prog 88 [.sl 1 ([unl (!decide (0≤eh s.q x.car)) 5,unl (!iH r s k) 13,unl (cm r s k) 16].map dN)] (I (iT r s x k)):=eX _ rfl rfl;rw [h0] at g5;clear h0;unfold iH feedN at *;generalize decide (0≤eh s.q x.car)=D at *;generalize unl (!D) 5=A1 at *;generalize unl (cm r s k) 16=A3 at *;generalize cm r s k=F at *;have g6:=qc r ⟨s.q.set k (qat s.q k++[x.car]),s.tk,s.time⟩ mv x.car hl;simp only at g6;have h1:(f:Int)≠-1:=by omega
 have e:(decide ((rat r.ranks k).feeder≠-1)&&decide (0 < (qat s.q (rat r.ranks k).feeder.toNat).length))=decide (0 < (qat s.q f).length):=by
  rw [iw,decide_eq_true h1,Bool.true_and,Int.toNat_natCast]
 rw [e] at q2 g5;generalize unl (!decide (0 < (qat s.q f).length)) 13=A2 at *;clear e;have tB:(if (f:Int) < 0 then 0 else (f:Int))=f:=if_neg (by omega);rw [ht] at g6;clear ht;have gd:=AY (s.tk.map Tk.av) n1 i (by simpa using cC);rw [x7] at gd;generalize s.tk.eraseIdx i=TK at *;obtain ⟨w1,w2,w3,w4,w5,w6⟩:=ixs (m:=i) (by omega);obtain ⟨kd,tm,rk,car⟩:=x;simp only at hx g1 g6;subst hx;simp only [evA];refine dk Tryz.func224 rfl (by kernel_rfl) rfl (fun _=>by kernel_rfl) fun M0 w0 vs=>?_;simp only [Tryz.ntmps224,Tryz.results224,aB];unfold ct;repeat' first|(with_reducible first|apply af|apply ae|apply aa|refine ah [] ?_)|((with_reducible apply ab);intro X Y;go_simp;(first|(refine ⟨_,⟨g1,rfl⟩,?_⟩)|skip);apply Y;clear Y X)
 refine bg 11 11 [] rfl (by kernel_rfl) ?_;simp only [ax];repeat' with_reducible first|apply af|apply ae|apply aa|apply aR|(apply aS;intro X Y;go_simp;apply Y;clear Y X)
 refine ah [] ?_;repeat' with_reducible first|apply af|apply ae|apply aa|(apply ab;intro X Y;go_simp;apply Y;clear Y X)
 refine bg 14 14 [] rfl (by kernel_rfl) ?_;simp only [ax];repeat' first|(with_reducible first|apply af|apply ae|apply aa|apply aR)|((with_reducible apply aS);intro X Y;go_simp;(first|(refine ⟨_,⟨g2,rfl⟩,?_⟩)|(with_reducible refine ⟨_,q1,?_⟩)|(with_reducible refine ⟨_,q2,?_⟩)|(with_reducible refine ⟨_,q3,?_⟩)|(refine ⟨_,g5,?_⟩)|skip);apply Y;clear Y X)
 refine ah [] ?_;repeat' with_reducible first|apply af|apply ae|apply ar|apply aa|(apply ak;·go_simp)|(apply ab;intro X Y;go_simp;apply Y;clear Y X)
 refine mZ 19 [0,59,59,60,60,61,61,62,62,63,3,64,64,65] (by kernel_rfl) (by kernel_rfl) (by kernel_rfl) (unW 1) (ni 1) rfl ⟨rfl,rfl⟩ ?_;simp only [List.take];repeat' with_reducible first|apply aR|(apply aS;intro X Y;go_simp;apply Y;clear Y X)
 refine ⟨_,_,s_ (id:=1) (k:=k) (es:=(qat s.q k).map bU) (c:=S car) (by exact rfl) (by exact rfl) (by go_simp) (by go_simp) rI ti9 (by exact rfl) (by go_simp),?_,?_,?_⟩
 ·simp only [List.forall_mem_cons];go_simp
 ·repeat' with_reducible first|apply aR|(apply aS;intro X Y;go_simp;apply Y;clear Y X)
  simp only [List.forall_mem_cons];go_simp
 go_simp;refine bz [] 2 ⟨rfl,rfl⟩ ?_;simp only [ax];repeat' with_reducible first|apply aa|(apply ab;intro X Y;go_simp;apply Y;clear Y X)
 apply cR;repeat' with_reducible first|apply af|apply ae
 rw [rH,lk];refine ah [] ?_;repeat' first|(with_reducible first|apply af|apply ae|apply aa)|((with_reducible apply ab);intro X Y;go_simp;(first|(refine ⟨_,⟨g6,rfl⟩,?_⟩)|skip);apply Y;clear Y X)
 refine ah [] ?_;repeat' with_reducible first|apply ae|apply aa|(apply aw;·go_simp)|(apply ab;intro X Y;go_simp;apply Y;clear Y X)
 refine dB (bz [] 9 ⟨rfl,rfl⟩ ?_);simp only [ax];repeat' with_reducible first|apply aa|(apply ab;intro X Y;go_simp;apply Y;clear Y X)
 refine Ad (fun p a w R=>⟨_,Rel.deadCell R (bi:=0) (j:=1) (r:=2) rfl rfl⟩) ?_;simp only [List.set];refine dF [2] [] [] [some (.arr 148 3 false (TK.map Tk.av))] (.osl 0) rfl (by go_simp) ?_ ?_
 ·unfold dx;go_simp;refine ⟨_,_,⟨_,gd⟩,?_⟩;go_simp;kernel_rfl
 go_simp;refine bz [] 4 ⟨rfl,rfl⟩ ?_;simp only [ax];repeat' with_reducible first|apply aa|(apply ab;intro X Y;go_simp;apply Y;clear Y X)
 apply cR;repeat' with_reducible first|apply af|apply ae
 refine ah [] ?_;repeat' with_reducible first|apply ae|apply az|apply aa|(apply ab;intro X Y;go_simp;apply Y;clear Y X)
 go_simp
theorem EJ (r:Ru) (x:Ev) (hn:r.ranks.length≤1000000) (hc:x.car.size≤1000) : VC Tryz.prog 117 [b8 r,evA x] (I (evE r x)):=by
 have i1:=kq x.kind 0 5;have i2:=kq x.time 0 604800;have i3:=kq x.rank 0 ((r.ranks.length:Int) - 1);have i4:=ri x.car hc;have u1:=bH (inR x.kind 0 5) 15;have u2:=bH (inR x.time 0 604800) 2;have u3:=bH (inR x.rank 0 ((r.ranks.length:Int) - 1)) 6;have u4:=bH (!decide (x.kind=4) || decide (x.car=ByteArray.empty)) 3;have u5:=bH (decide (x.kind=4) || cI x.car) 4;have g5:VC Tryz.prog 88 [.sl 1 ([unl (inR x.kind 0 5) 15,unl (inR x.time 0 604800) 2,unl (inR x.rank 0 ((r.ranks.length:Int) - 1)) 6,unl (!decide (x.kind=4) || decide (x.car=ByteArray.empty)) 3,unl (decide (x.kind=4) || cI x.car) 4].map dN)] (I (evE r x)):=eX _ rfl rfl;have hw:IntKind.i64.wrap ((r.ranks.length:Int) - 1)=(r.ranks.length:Int) - 1:=gZ (by omega) (by omega);generalize evE r x=E at *;generalize inR x.kind 0 5=D1 at *;generalize inR x.time 0 604800=D2 at *;generalize inR x.rank 0 ((r.ranks.length:Int) - 1)=D3 at *;generalize cI x.car=D5 at *;generalize unl D1 15=A1 at *;generalize unl D2 2=A2 at *;generalize unl D3 6=A3 at *;by_cases h4:x.kind=4
 ·rw [h4] at i1;rw [decide_eq_true h4,Bool.not_true,Bool.false_or] at u4;rw [decide_eq_true h4,Bool.true_or] at u5;rw [decide_eq_true h4,Bool.not_true,Bool.false_or,Bool.true_or] at g5;generalize unl true 4=A5 at *;have he:(ByteArray.empty:ByteArray)=⟨#[]⟩:=rfl;rw [he] at u4 g5;generalize unl (decide (x.car=⟨#[]⟩)) 3=A4 at *;clear he;refine aQ Tryz.func117 rfl (by kernel_rfl) rfl fun M0 w0=>?_;simp only [Tryz.ntmps117,Tryz.results117,aB];repeat' first|(with_reducible first|apply af|apply ae|apply az|apply aa|refine ah [] ?_|apply aR)|((with_reducible first|apply ab|apply aS);intro X Y;go_simp;(first|(with_reducible refine ⟨_,i1,?_⟩)|(with_reducible refine ⟨_,i2,?_⟩)|(with_reducible refine ⟨_,i3,?_⟩)|(with_reducible refine ⟨_,u1,?_⟩)|(with_reducible refine ⟨_,u2,?_⟩)|(with_reducible refine ⟨_,u3,?_⟩)|(with_reducible refine ⟨_,u4,?_⟩)|(with_reducible refine ⟨_,u5,?_⟩)|(refine ⟨_,g5,?_⟩)|skip);apply Y;clear Y X)|((refine bg 34 34 [] rfl (by kernel_rfl) ?_);simp only [ax])
  go_simp
 ·rw [decide_eq_false h4,Bool.not_false,Bool.true_or] at u4;rw [decide_eq_false h4,Bool.false_or] at u5;rw [decide_eq_false h4,Bool.not_false,Bool.true_or,Bool.false_or] at g5;generalize unl true 3=A4 at *;generalize unl D5 4=A5 at *;refine aQ Tryz.func117 rfl (by kernel_rfl) rfl fun M0 w0=>?_;simp only [Tryz.ntmps117,Tryz.results117,aB];repeat' first|(with_reducible first|apply af|apply ae|apply az|apply aa|refine ah [] ?_|apply aR)|((with_reducible first|apply ab|apply aS);intro X Y;go_simp;(first|(with_reducible refine ⟨_,i1,?_⟩)|(with_reducible refine ⟨_,i2,?_⟩)|(with_reducible refine ⟨_,i3,?_⟩)|(with_reducible refine ⟨_,i4,?_⟩)|(with_reducible refine ⟨_,u1,?_⟩)|(with_reducible refine ⟨_,u2,?_⟩)|(with_reducible refine ⟨_,u3,?_⟩)|(with_reducible refine ⟨_,u4,?_⟩)|(with_reducible refine ⟨_,u5,?_⟩)|(refine ⟨_,g5,?_⟩)|skip);apply Y;clear Y X)|((refine bg 34 34 [] rfl (by kernel_rfl) ?_);simp only [ax])
  go_simp
end Go.Proofs.YtoibondihdhnoaaGreatDoor
