/- Texts in one: Walks on a town that changes: a car returns. -/
import Derived.Test.YtoibondihdhnoaaGreatDoorFRZ8
import Derived.Test.YtoibondihdhnoaaGreatDoorFRZ21
import Derived.Test.YtoibondihdhnoaaGreatDoorFRZ20
import Derived.Test.YtoibondihdhnoaaGreatDoorFRZ23
import Derived.Test.YtoibondihdhnoaaGreatDoorFRZ14
namespace Go.Proofs.YtoibondihdhnoaaGreatDoor
open Go.RowKit
set_option maxRecDepth 100000
set_option maxHeartbeats 2000000
theorem KK (r:Ru) (s:St) (mv:List Sg) (n1 n2:Bool) (x:Ev) (k:Nat) (hx:x.rank=k) (hk:k < s.q.length) (hr:r.ranks.length=s.q.length) (hf:nU r s.q.length) (h0:¬oQ r s k=0) :
  VH Tryz.prog 228 (b8 r s mv n1 n2) [.ref 0 0,evA x] [0] (b8 r s mv n1 n2) (I (oQ r s k)):=by
 have cp:k < r.ranks.length:=by omega
 have mR:=hf k hk;obtain ⟨kd,tm,rk,car⟩:=x;simp only at hx;subst hx;unfold oQ at h0 ⊢;by_cases h1:(rat r.ranks k).feeder = -1
 ·rw [if_pos h1];clear mR hf h0;simp only [evA];refine cZ Tryz.func228 rfl (by kernel_rfl) rfl (fun _=>by kernel_rfl) fun M0 w0 vs=>?_;simp only [Tryz.ntmps228,Tryz.results228,az];unfold b8;repeat' with_reducible first|apply af|apply ae|apply aa|refine ah [] ?_|(apply ab;intro X Y;go_simp;apply Y;clear Y X)
  refine BB 10 [] [⟨9,5,[.string ⟨#[]⟩,.int .i64 0,.int .i64 0,.bool false],none,[]⟩] (by kernel_rfl) (by go_simp) ?_;simp only [aA];repeat (first|(refine vf rfl ?_)|((with_reducible refine vg rfl fun X Y=>?_);go_simp;refine Y _ (by go_simp) ?_;clear Y X)|(with_reducible apply vh))
  refine ⟨by go_simp,?_⟩;simp only [kV,me,Slot.end_,List.cons_append,List.nil_append];repeat' with_reducible first|apply af|apply ae|apply aF|apply aq|apply aa|refine ah [] ?_|(apply ao;·go_simp)|(apply ab;intro X Y;go_simp;apply Y;clear Y X)
  go_simp
 ·rw [if_neg h1] at h0 ⊢;obtain ⟨f0,fl⟩:=mR h1;unfold feedN at h0 ⊢;obtain ⟨f,mS⟩ : ∃ f:Nat,(rat r.ranks k).feeder=f:=⟨(rat r.ranks k).feeder.toNat,by omega⟩
  have g3:=nW r s mv k hk hr;rw [mS] at fl h1 h0 ⊢;simp only [Int.toNat_natCast] at fl h0 ⊢;clear mR hf f0;have g1:=br (rat r.ranks k).called 22;have g2:=br (decide (0 < (qat s.q f).length)) 12;have g4:=br (cl r s k) 16;have g5:VC Tryz.prog 88 [.sl 1 ([unl (rat r.ranks k).called 22,unl (decide (0 < (qat s.q f).length)) 12,unl (cl r s k) 16].map dk)] (I (fst [unl (rat r.ranks k).called 22,unl (decide (0 < (qat s.q f).length)) 12,unl (cl r s k) 16])):=dW _ rfl rfl;generalize fst [unl (rat r.ranks k).called 22,unl (decide (0 < (qat s.q f).length)) 12,unl (cl r s k) 16]=E at *;generalize unl (rat r.ranks k).called 22=A1 at *;generalize unl (decide (0 < (qat s.q f).length)) 12=A2 at *;generalize unl (cl r s k) 16=A3 at *;generalize cl r s k=F at *;simp only [evA];refine cZ Tryz.func228 rfl (by kernel_rfl) rfl (fun _=>by kernel_rfl) fun M0 w0 vs=>?_;simp only [Tryz.ntmps228,Tryz.results228,az];unfold b8;repeat' with_reducible first|apply af|apply ae|apply aa|refine ah [] ?_|(apply ab;intro X Y;go_simp;apply Y;clear Y X)
  refine BB 10 [] [⟨9,5,[.string ⟨#[]⟩,.int .i64 0,.int .i64 0,.bool false],none,[]⟩] (by kernel_rfl) (by go_simp) ?_;simp only [aA];repeat (first|(refine vf rfl ?_)|((with_reducible refine vg rfl fun X Y=>?_);go_simp;refine Y _ (by go_simp) ?_;clear Y X)|(with_reducible apply vh))
  refine ⟨by go_simp,?_⟩;simp only [kV,me,Slot.end_,List.cons_append,List.nil_append];repeat' first|(with_reducible first|apply af|apply ae|apply aq|apply aj|apply aa|refine ah [] ?_|apply aI|(apply ak;·go_simp))|((with_reducible first|apply ab|apply aJ);intro X Y;go_simp;(first|(with_reducible refine ⟨_,g1,?_⟩)|(with_reducible refine ⟨_,g2,?_⟩)|(refine ⟨_,⟨g3,rfl⟩,?_⟩)|(with_reducible refine ⟨_,g4,?_⟩)|(refine ⟨_,g5,?_⟩)|skip);apply Y;clear Y X)|((refine aQ 23 23 [] rfl (by kernel_rfl) ?_);simp only [aA])
  go_simp
theorem KL (r:Ru) (s:St) (mv:List Sg) (n1 n2:Bool) (x:Ev) (k f:Nat) (hx:x.rank=k) (hk:k < s.q.length) (hr:r.ranks.length=s.q.length) (hf:(rat r.ranks k).feeder=f) (gg:f < s.q.length) (aC:f≠k) (hq:(qat s.q k).length+1≤1000000000) (hm:mv.length+2≤1000000000) (h0:oQ r s k=0) :
  VH Tryz.prog 228 (b8 r s mv n1 n2) [.ref 0 0,evA x] [0] (b8 r ⟨upQ s.q k f,s.tk,s.time⟩ (mv++upM s.q k f) n1 false) (I 0):=by
 have cp:k < r.ranks.length:=by omega
 obtain ⟨kd,tm,rk,car⟩:=x;simp only at hx;subst hx;have h1:¬(f:Int) = -1:=by omega
 unfold oQ feedN at h0;rw [hf,if_neg h1,Int.toNat_natCast] at h0;have hp:0 < (qat s.q f).length:=by
  rw [bU,bU] at h0;exact of_decide_eq_true (ew (by decide) h0.2.1)
 have gu:=Ep r s mv n1 n2 k f hk hr hf gg aC hp hq hm;have g3:=nW r s mv k hk hr;have g1:=br (rat r.ranks k).called 22;have g2:=br (decide (0 < (qat s.q f).length)) 12;have g4:=br (cl r s k) 16;have g5:VC Tryz.prog 88 [.sl 1 ([unl (rat r.ranks k).called 22,unl (decide (0 < (qat s.q f).length)) 12,unl (cl r s k) 16].map dk)] (I (fst [unl (rat r.ranks k).called 22,unl (decide (0 < (qat s.q f).length)) 12,unl (cl r s k) 16])):=dW _ rfl rfl;rw [h0] at g5;have hd:decide (0 < (qat s.q f).length)=true:=decide_eq_true hp;clear h0;generalize unl (rat r.ranks k).called 22=A1 at *;rw [hd] at g2 g5;generalize unl true 12=A2 at *;generalize unl (cl r s k) 16=A3 at *;generalize cl r s k=F at *;generalize upQ s.q k f=Q2 at *;generalize mv++upM s.q k f=M2 at *;clear hd hq hm;simp only [evA];refine cZ Tryz.func228 rfl (by kernel_rfl) rfl (fun _=>by kernel_rfl) fun M0 w0 vs=>?_;simp only [Tryz.ntmps228,Tryz.results228,az];unfold b8 at gu ⊢;repeat' with_reducible first|apply af|apply ae|apply aa|refine ah [] ?_|(apply ab;intro X Y;go_simp;apply Y;clear Y X)
 refine BB 10 [] [⟨9,5,[.string ⟨#[]⟩,.int .i64 0,.int .i64 0,.bool false],none,[]⟩] (by kernel_rfl) (by go_simp) ?_;simp only [aA];repeat (first|(refine vf rfl ?_)|((with_reducible refine vg rfl fun X Y=>?_);go_simp;refine Y _ (by go_simp) ?_;clear Y X)|(with_reducible apply vh))
 refine ⟨by go_simp,?_⟩;simp only [kV,me,Slot.end_,List.cons_append,List.nil_append];repeat' with_reducible first|apply af|apply ae|apply aa|(apply ab;intro X Y;go_simp;apply Y;clear Y X)
 refine ah [] ?_;repeat' with_reducible first|apply af|apply ae|apply aj|apply aa|(apply ak;·go_simp)|(apply ab;intro X Y;go_simp;apply Y;clear Y X)
 refine aQ 23 23 [] rfl (by kernel_rfl) ?_;simp only [aA];repeat' first|(with_reducible first|apply af|apply ae|apply aa|apply aI)|((with_reducible apply aJ);intro X Y;go_simp;(first|(with_reducible refine ⟨_,g1,?_⟩)|(with_reducible refine ⟨_,g2,?_⟩)|(refine ⟨_,⟨g3,rfl⟩,?_⟩)|(with_reducible refine ⟨_,g4,?_⟩)|(refine ⟨_,g5,?_⟩)|skip);apply Y;clear Y X)
 refine ah [] ?_;repeat' with_reducible first|apply ae|apply aa|(apply ao;·go_simp)|(apply ab;intro X Y;go_simp;apply Y;clear Y X)
 refine ec (bM [] 3 ⟨rfl,rfl⟩ ?_);simp only [aA];repeat' with_reducible first|apply aa|(apply ab;intro X Y;go_simp;apply Y;clear Y X)
 refine eo [0,1,2,3] [0] [] [some (.box [.osl 1,.osl 2,I s.time,.sl 4 (r.ranks.map Rk.av),I r.back,I r.ret,.osl 3]),some (.bag 62 1 false none (cA Q2)),some (.arr 148 3 n1 (s.tk.map Tk.av)),some (.arr 45 3 false (M2.map Sg.av))] (.tup []) rfl (by go_simp) ?_ ?_
 ·unfold dM;go_simp;refine ⟨_,_,_,gu,?_⟩;go_simp;kernel_rfl
 go_simp;apply c_;repeat' with_reducible first|apply af|apply ae
 refine ah [] ?_;repeat' with_reducible first|apply ae|apply aq|apply aa|(apply ab;intro X Y;go_simp;apply Y;clear Y X)
 go_simp
theorem KM (r:Ru) (s:St) (mv:List Sg) (n1 n2:Bool) (x:Ev) (k:Nat) (hx:x.rank=k) (hl:s.tk.length≤1000000) (h0:eR s.tk x.car < 0) :
  VH Tryz.prog 229 (b8 r s mv n1 n2) [.ref 0 0,evA x] [0] (b8 r s mv n1 n2) (I 6):=by
 have g1:=qi r s mv x.car hl;generalize eR s.tk x.car=A at *;obtain ⟨kd,tm,rk,car⟩:=x;simp only at hx;subst hx;simp only [evA];refine cZ Tryz.func229 rfl (by kernel_rfl) rfl (fun _=>by kernel_rfl) fun M0 w0 vs=>?_;simp only [Tryz.ntmps229,Tryz.results229,az];unfold b8;repeat' first|(with_reducible first|apply af|apply ae|apply aF|apply aq|apply aa|refine ah [] ?_|apply aI|(apply ao;·go_simp))|((with_reducible first|apply ab|apply aJ);intro X Y;go_simp;(first|(refine ⟨_,⟨g1,rfl⟩,?_⟩)|skip);apply Y;clear Y X)|((refine aQ 16 16 [] rfl (by kernel_rfl) ?_);simp only [aA])
 go_simp
theorem KN (r:Ru) (s:St) (mv:List Sg) (n1 n2:Bool) (x:Ev) (k i:Nat) (hx:x.rank=k) (hl:s.tk.length≤1000000) (hi:eR s.tk x.car=i) (cK:i < s.tk.length) (h0:(aH s.tk i).rank≠k) :
  VH Tryz.prog 229 (b8 r s mv n1 n2) [.ref 0 0,evA x] [0] (b8 r s mv n1 n2) (I 6):=by
 have g1:=qi r s mv x.car hl;rw [hi] at g1;clear hi;obtain ⟨kd,tm,rk,car⟩:=x;simp only at hx;subst hx;simp only [evA];refine cZ Tryz.func229 rfl (by kernel_rfl) rfl (fun _=>by kernel_rfl) fun M0 w0 vs=>?_;simp only [Tryz.ntmps229,Tryz.results229,az];unfold b8;repeat' first|(with_reducible first|apply af|apply ae|apply aF|apply aq|apply aa|refine ah [] ?_|apply aI|(apply ao;·go_simp))|((with_reducible first|apply ab|apply aJ);intro X Y;go_simp;(first|(refine ⟨_,⟨g1,rfl⟩,?_⟩)|skip);apply Y;clear Y X)|((refine aQ 16 16 [] rfl (by kernel_rfl) ?_);simp only [aA])
 go_simp
theorem KO (r:Ru) (s:St) (mv:List Sg) (n1 n2:Bool) (x:Ev) (k i:Nat) (hx:x.rank=k) (hk:k < s.q.length) (hr:r.ranks.length=s.q.length) (hl:s.tk.length≤1000000) (hi:eR s.tk x.car=i) (cK:i < s.tk.length) (h0:(aH s.tk i).rank=k)
  (ht:0≤x.time∧x.time≤604800) (vi:0≤(aH s.tk i).time∧(aH s.tk i).time≤604800) (h1:¬fst [unl (decide (x.time - (aH s.tk i).time≤r.ret)) 25,unl (cl r s k) 16]=0) :
  VH Tryz.prog 229 (b8 r s mv n1 n2) [.ref 0 0,evA x] [0] (b8 r s mv n1 n2) (I (fst [unl (decide (x.time - (aH s.tk i).time≤r.ret)) 25,unl (cl r s k) 16])):=by
 have g1:=qi r s mv x.car hl;rw [hi] at g1;clear hi;have g2:=nW r s mv k hk hr;have g3:=br (decide (x.time - (aH s.tk i).time≤r.ret)) 25;have g4:=br (cl r s k) 16;have g5:VC Tryz.prog 88 [.sl 1 ([unl (decide (x.time - (aH s.tk i).time≤r.ret)) 25,unl (cl r s k) 16].map dk)] (I (fst [unl (decide (x.time - (aH s.tk i).time≤r.ret)) 25,unl (cl r s k) 16])):=dW _ rfl rfl;have hw:IntKind.i64.wrap (x.time - (aH s.tk i).time)=x.time - (aH s.tk i).time:=cj (by omega) (by omega);generalize fst [unl (decide (x.time - (aH s.tk i).time≤r.ret)) 25,unl (cl r s k) 16]=E at *;generalize unl (decide (x.time - (aH s.tk i).time≤r.ret)) 25=A1 at *;generalize unl (cl r s k) 16=A2 at *;generalize cl r s k=F at *;clear ht vi;obtain ⟨kd,tm,rk,car⟩:=x;simp only at hx hw g3;subst hx;simp only [evA];refine cZ Tryz.func229 rfl (by kernel_rfl) rfl (fun _=>by kernel_rfl) fun M0 w0 vs=>?_;simp only [Tryz.ntmps229,Tryz.results229,az];unfold b8;repeat' first|(with_reducible first|apply af|apply ae|apply aF|apply aq|apply aj|apply aa|refine ah [] ?_|apply aI|(apply ao;·go_simp)|(apply ak;·go_simp))|((with_reducible first|apply ab|apply aJ);intro X Y;go_simp;(first|(refine ⟨_,⟨g1,rfl⟩,?_⟩)|(refine ⟨_,⟨g2,rfl⟩,?_⟩)|(with_reducible refine ⟨_,g3,?_⟩)|(with_reducible refine ⟨_,g4,?_⟩)|(refine ⟨_,g5,?_⟩)|skip);apply Y;clear Y X)|((refine aQ 16 16 [] rfl (by kernel_rfl) ?_);simp only [aA])|((refine aQ 27 27 [] rfl (by kernel_rfl) ?_);simp only [aA])
 go_simp
theorem yo {α β:Type} (f:α→β) : ∀ (l:List α) (i:Nat),(l.map f).eraseIdx i=(l.eraseIdx i).map f
 | [],_=>rfl
 | _::_,0=>rfl
 | x::l,i+1=>by
  rw [List.map_cons,List.eraseIdx_cons_succ,List.eraseIdx_cons_succ,List.map_cons,yo f l i]
theorem KP (r:Ru) (s:St) (mv:List Sg) (n1 n2:Bool) (x:Ev) (k i:Nat) (hx:x.rank=k) (hk:k < s.q.length) (hr:r.ranks.length=s.q.length) (hl:s.tk.length≤1000000) (hi:eR s.tk x.car=i) (cK:i < s.tk.length) (h0:(aH s.tk i).rank=k)
  (ht:0≤x.time∧x.time≤604800) (vi:0≤(aH s.tk i).time∧(aH s.tk i).time≤604800) (hq:(qat s.q k).length+1≤10000) (h1:fst [unl (decide (x.time - (aH s.tk i).time≤r.ret)) 25,unl (cl r s k) 16]=0) :
  VH Tryz.prog 229 (b8 r s mv n1 n2) [.ref 0 0,evA x] [0] (b8 r ⟨s.q.set k ([x.car]++qat s.q k),s.tk.eraseIdx i,s.time⟩ mv false n2) (I 0):=by
 have g1:=qi r s mv x.car hl;rw [hi] at g1;clear hi;have g2:=nW r s mv k hk hr;have g3:=br (decide (x.time - (aH s.tk i).time≤r.ret)) 25;have g4:=br (cl r s k) 16;have g5:VC Tryz.prog 88 [.sl 1 ([unl (decide (x.time - (aH s.tk i).time≤r.ret)) 25,unl (cl r s k) 16].map dk)] (I (fst [unl (decide (x.time - (aH s.tk i).time≤r.ret)) 25,unl (cl r s k) 16])):=dW _ rfl rfl;have hw:IntKind.i64.wrap (x.time - (aH s.tk i).time)=x.time - (aH s.tk i).time:=cj (by omega) (by omega);have gd:=Bz (s.tk.map Tk.av) n1 i (by simpa using cK);rw [yo] at gd;rw [h1] at g5;clear h1;generalize unl (decide (x.time - (aH s.tk i).time≤r.ret)) 25=A1 at *;generalize unl (cl r s k) 16=A2 at *;generalize cl r s k=F at *;generalize s.tk.eraseIdx i=TK at *;clear ht vi;obtain ⟨kd,tm,rk,car⟩:=x;simp only at hx hw g3;subst hx;simp only [evA];obtain ⟨w1,w2,w3,w4,w5,w6⟩:=ixs (m:=i) (by omega);refine cZ Tryz.func229 rfl (by kernel_rfl) rfl (fun _=>by kernel_rfl) fun M0 w0 vs=>?_;simp only [Tryz.ntmps229,Tryz.results229,az];unfold b8;repeat' first|(with_reducible first|apply af|apply ae|apply aa|refine ah [] ?_)|((with_reducible apply ab);intro X Y;go_simp;(first|(refine ⟨_,⟨g1,rfl⟩,?_⟩)|skip);apply Y;clear Y X)
 refine aQ 16 16 [] rfl (by kernel_rfl) ?_;simp only [aA];repeat' with_reducible first|apply af|apply ae|apply aj|apply aa|apply aI|(apply ak;·go_simp)|(apply aJ;intro X Y;go_simp;apply Y;clear Y X)
 refine aQ 27 27 [] rfl (by kernel_rfl) ?_;simp only [aA];repeat' first|(with_reducible first|apply af|apply ae|apply aa|apply aI)|((with_reducible apply aJ);intro X Y;go_simp;(first|(refine ⟨_,⟨g2,rfl⟩,?_⟩)|(with_reducible refine ⟨_,g3,?_⟩)|(with_reducible refine ⟨_,g4,?_⟩)|(refine ⟨_,g5,?_⟩)|skip);apply Y;clear Y X)
 refine ah [] ?_;repeat' with_reducible first|apply af|apply ae|apply aj|apply aa|(apply ak;·go_simp)|(apply ab;intro X Y;go_simp;apply Y;clear Y X)
 refine ec (bM [] 9 ⟨rfl,rfl⟩ ?_);simp only [aA];repeat' with_reducible first|apply aa|(apply ab;intro X Y;go_simp;apply Y;clear Y X)
 refine AG (fun p a w R=>⟨_,Rel.deadCell R (bi:=0) (j:=1) (r:=2) rfl rfl⟩) ?_;simp only [List.set];refine eo [2] [] [] [some (.arr 148 3 false (TK.map Tk.av))] (.osl 0) rfl (by go_simp) ?_ ?_
 ·unfold dM;go_simp;refine ⟨_,_,⟨_,gd⟩,?_⟩;go_simp;kernel_rfl
 go_simp;refine bM [] 4 ⟨rfl,rfl⟩ ?_;simp only [aA];repeat' with_reducible first|apply aa|(apply ab;intro X Y;go_simp;apply Y;clear Y X)
 apply c_;repeat' with_reducible first|apply af|apply ae
 refine oJ 20 [0,69,69,70,70,71,71,72,72,73,3,74,74,75] (by kernel_rfl) (by kernel_rfl) (by kernel_rfl) (fun v=>v) xH rfl ⟨rfl,rfl⟩ ?_;simp only [List.take];repeat' with_reducible first|apply aI|(apply aJ;intro X Y;go_simp;apply Y;clear Y X)
 refine ⟨_,_,xG (by exact rfl) (by exact rfl) (by go_simp;exact Kt _ _ (by repeat' (first|exact TxO.one _|exact TxO.map _|apply TxO.take|apply TxO.drop|apply TxO.tail)) (by simp;omega)) (by go_simp),?_,?_,?_⟩
 ·simp only [List.forall_mem_cons];go_simp
 ·repeat' with_reducible first|apply aI|(apply aJ;intro X Y;go_simp;apply Y;clear Y X)
  simp only [List.forall_mem_cons];go_simp
 go_simp;refine bM [] 2 ⟨rfl,rfl⟩ ?_;simp only [aA];repeat' with_reducible first|apply aa|(apply ab;intro X Y;go_simp;apply Y;clear Y X)
 apply c_;repeat' with_reducible first|apply af|apply ae|apply aq|apply aa|refine ah [] ?_|(apply ab;intro X Y;go_simp;apply Y;clear Y X)
 go_simp;rw [←mG];rfl
theorem vj (q:List (List ByteArray)) (c:ByteArray) : ∃ a b:Int,tr q c = .tup [.agg [I a,I b],B (decide (0≤fP q c))]:=by
 unfold tr;by_cases h:0≤fP q c
 ·rw [if_pos h,decide_eq_true h];exact ⟨_,_,rfl⟩
 ·rw [if_neg h,decide_eq_false h];exact ⟨_,_,rfl⟩
theorem KQ (r:Ru) (s:St) (mv:List Sg) (n1 n2:Bool) (x:Ev) (k:Nat) (hx:x.rank=k) (hk:k < s.q.length) (hr:r.ranks.length=s.q.length) (hf:nU r s.q.length) (fQ:s.q.length≤1000000) (fR:∀ k,k < s.q.length→(qat s.q k).length≤1000000) (h0:¬kU r s x k=0) :
  VH Tryz.prog 224 (b8 r s mv n1 n2) [.ref 0 0,evA x] [0] (b8 r s mv n1 n2) (I (kU r s x k)):=by
 have cp:k < r.ranks.length:=by omega
 have mR:=hf k hk;clear hf;have g1:=vk r s mv x.car fQ fR;clear fR;obtain ⟨sa,sb,es⟩:=vj s.q x.car;rw [es] at g1;clear es;have g2:=nW r s mv k hk hr;have q1:=br (!decide (0≤fP s.q x.car)) 5;have q2:=br (!kc r s k) 13;have q3:=br (cl r s k) 16;have g5:VC Tryz.prog 88 [.sl 1 ([unl (!decide (0≤fP s.q x.car)) 5,unl (!kc r s k) 13,unl (cl r s k) 16].map dk)] (I (kU r s x k)):=dW _ rfl rfl;unfold kc feedN at *;generalize kU r s x k=E at *;generalize decide (0≤fP s.q x.car)=D at *;generalize unl (!D) 5=A1 at *;generalize unl (cl r s k) 16=A3 at *;generalize cl r s k=F at *;obtain ⟨kd,tm,rk,car⟩:=x;simp only at hx g1;subst hx;simp only [evA];by_cases h1:(rat r.ranks k).feeder = -1
 ·have e:(decide ((rat r.ranks k).feeder≠-1)&&decide (0 < (qat s.q (rat r.ranks k).feeder.toNat).length))=false:=by simp [h1]
  rw [e,Bool.not_false] at q2 g5;generalize unl true 13=A2 at *;clear mR e;refine cZ Tryz.func224 rfl (by kernel_rfl) rfl (fun _=>by kernel_rfl) fun M0 w0 vs=>?_;simp only [Tryz.ntmps224,Tryz.results224,az];unfold b8;repeat' first|(with_reducible first|apply af|apply ae|apply aF|apply aq|apply aa|refine ah [] ?_|apply aI|(apply ao;·go_simp))|((with_reducible first|apply ab|apply aJ);intro X Y;go_simp;(first|(refine ⟨_,⟨g1,rfl⟩,?_⟩)|(refine ⟨_,⟨g2,rfl⟩,?_⟩)|(with_reducible refine ⟨_,q1,?_⟩)|(with_reducible refine ⟨_,q2,?_⟩)|(with_reducible refine ⟨_,q3,?_⟩)|(refine ⟨_,g5,?_⟩)|skip);apply Y;clear Y X)|((refine aQ 11 11 [] rfl (by kernel_rfl) ?_);simp only [aA])|((refine aQ 14 14 [] rfl (by kernel_rfl) ?_);simp only [aA])
  go_simp
 ·obtain ⟨f0,fl⟩:=mR h1;clear mR;obtain ⟨f,mS⟩ : ∃ f:Nat,(rat r.ranks k).feeder=f:=⟨(rat r.ranks k).feeder.toNat,by omega⟩
  rw [mS] at fl h1 q2 g5;have e:(decide ((f:Int)≠-1)&&decide (0 < (qat s.q (f:Int).toNat).length))=decide (0 < (qat s.q f).length):=by
   rw [decide_eq_true h1,Bool.true_and,Int.toNat_natCast]
  rw [e] at q2 g5;simp only [Int.toNat_natCast] at fl;generalize unl (!decide (0 < (qat s.q f).length)) 13=A2 at *;clear f0 e;have tt:(if (f:Int) < 0 then 0 else (f:Int))=f:=if_neg (by omega);refine cZ Tryz.func224 rfl (by kernel_rfl) rfl (fun _=>by kernel_rfl) fun M0 w0 vs=>?_;simp only [Tryz.ntmps224,Tryz.results224,az];unfold b8;repeat' first|(with_reducible first|apply af|apply ae|apply aF|apply aq|apply aa|refine ah [] ?_|apply aI|(apply ao;·go_simp))|((with_reducible first|apply ab|apply aJ);intro X Y;go_simp;(first|(refine ⟨_,⟨g1,rfl⟩,?_⟩)|(refine ⟨_,⟨g2,rfl⟩,?_⟩)|(with_reducible refine ⟨_,q1,?_⟩)|(with_reducible refine ⟨_,q2,?_⟩)|(with_reducible refine ⟨_,q3,?_⟩)|(refine ⟨_,g5,?_⟩)|skip);apply Y;clear Y X)|((refine aQ 11 11 [] rfl (by kernel_rfl) ?_);simp only [aA])|((refine aQ 14 14 [] rfl (by kernel_rfl) ?_);simp only [aA])
  go_simp
theorem KR (r:Ru) (s:St) (mv:List Sg) (n1 n2:Bool) (x:Ev) (k:Nat) (hx:x.rank=k) (hk:k < s.q.length) (hr:r.ranks.length=s.q.length) (fQ:s.q.length≤1000000) (fR:∀ k,k < s.q.length→(qat s.q k).length≤1000000) (hl:s.tk.length≤1000000) (mS:(rat r.ranks k).feeder = -1) (ht:eR s.tk x.car < 0) (h0:kU r s x k=0) :
  VH Tryz.prog 224 (b8 r s mv n1 n2) [.ref 0 0,evA x] [0] (b8 r ⟨s.q.set k (qat s.q k++[x.car]),s.tk,s.time⟩ mv n1 n2) (I 0):=by
 have cp:k < r.ranks.length:=by omega
 have tu:=fR k hk;have rK:(qat s.q k).length≤999999999:=by omega
 have g1:=vk r s mv x.car fQ fR;clear fR;obtain ⟨sa,sb,es⟩:=vj s.q x.car;rw [es] at g1;clear es;have g2:=nW r s mv k hk hr;have q1:=br (!decide (0≤fP s.q x.car)) 5;have q2:=br (!kc r s k) 13;have q3:=br (cl r s k) 16;have g5:VC Tryz.prog 88 [.sl 1 ([unl (!decide (0≤fP s.q x.car)) 5,unl (!kc r s k) 13,unl (cl r s k) 16].map dk)] (I (kU r s x k)):=dW _ rfl rfl;rw [h0] at g5;clear h0;unfold kc feedN at *;generalize decide (0≤fP s.q x.car)=D at *;generalize unl (!D) 5=A1 at *;generalize unl (cl r s k) 16=A3 at *;generalize cl r s k=F at *;have g6:=qi r ⟨s.q.set k (qat s.q k++[x.car]),s.tk,s.time⟩ mv x.car hl;simp only at g6;have e:(decide ((rat r.ranks k).feeder≠-1)&&decide (0 < (qat s.q (rat r.ranks k).feeder.toNat).length))=false:=by simp [mS]
 rw [e,Bool.not_false] at q2 g5;generalize unl true 13=A2 at *;clear e;generalize eR s.tk x.car=A at *;obtain ⟨kd,tm,rk,car⟩:=x;simp only at hx g1 g6;subst hx;simp only [evA];refine cZ Tryz.func224 rfl (by kernel_rfl) rfl (fun _=>by kernel_rfl) fun M0 w0 vs=>?_;simp only [Tryz.ntmps224,Tryz.results224,az];unfold b8;repeat' first|(with_reducible first|apply af|apply ae|apply aa|refine ah [] ?_)|((with_reducible apply ab);intro X Y;go_simp;(first|(refine ⟨_,⟨g1,rfl⟩,?_⟩)|skip);apply Y;clear Y X)
 refine aQ 11 11 [] rfl (by kernel_rfl) ?_;simp only [aA];repeat' with_reducible first|apply af|apply ae|apply aa|apply aI|(apply aJ;intro X Y;go_simp;apply Y;clear Y X)
 refine ah [] ?_;repeat' with_reducible first|apply af|apply ae|apply aa|(apply ab;intro X Y;go_simp;apply Y;clear Y X)
 refine aQ 14 14 [] rfl (by kernel_rfl) ?_;simp only [aA];repeat' first|(with_reducible first|apply af|apply ae|apply aa|apply aI)|((with_reducible apply aJ);intro X Y;go_simp;(first|(refine ⟨_,⟨g2,rfl⟩,?_⟩)|(with_reducible refine ⟨_,q1,?_⟩)|(with_reducible refine ⟨_,q2,?_⟩)|(with_reducible refine ⟨_,q3,?_⟩)|(refine ⟨_,g5,?_⟩)|skip);apply Y;clear Y X)
 refine ah [] ?_;repeat' with_reducible first|apply af|apply ae|apply aj|apply aa|(apply ak;·go_simp)|(apply ab;intro X Y;go_simp;apply Y;clear Y X)
 refine oJ 19 [0,59,59,60,60,61,61,62,62,63,3,64,64,65] (by kernel_rfl) (by kernel_rfl) (by kernel_rfl) (unW 1) (nK 1) rfl ⟨rfl,rfl⟩ ?_;simp only [List.take];repeat' with_reducible first|apply aI|(apply aJ;intro X Y;go_simp;apply Y;clear Y X)
 refine ⟨_,_,uG (id:=1) (k:=k) (es:=(qat s.q k).map cL) (c:=S car) (by exact rfl) (by exact rfl) (by go_simp) (by go_simp) uL ti9 (by exact rfl) (by go_simp),?_,?_,?_⟩
 ·simp only [List.forall_mem_cons];go_simp
 ·repeat' with_reducible first|apply aI|(apply aJ;intro X Y;go_simp;apply Y;clear Y X)
  simp only [List.forall_mem_cons];go_simp
 go_simp;refine bM [] 2 ⟨rfl,rfl⟩ ?_;simp only [aA];repeat' with_reducible first|apply aa|(apply ab;intro X Y;go_simp;apply Y;clear Y X)
 apply c_;repeat' with_reducible first|apply af|apply ae
 rw [uK,mG];refine ah [] ?_;repeat' first|(with_reducible first|apply af|apply ae|apply aa)|((with_reducible apply ab);intro X Y;go_simp;(first|(refine ⟨_,⟨g6,rfl⟩,?_⟩)|skip);apply Y;clear Y X)
 refine ah [] ?_;repeat' with_reducible first|apply af|apply ae|apply aj|apply aa|(apply ak;·go_simp)|(apply ab;intro X Y;go_simp;apply Y;clear Y X)
 refine ah [] ?_;repeat' with_reducible first|apply ae|apply aq|apply aa|(apply ab;intro X Y;go_simp;apply Y;clear Y X)
 go_simp
theorem KS (r:Ru) (s:St) (mv:List Sg) (n1 n2:Bool) (x:Ev) (k:Nat) (hx:x.rank=k) (hk:k < s.q.length) (hr:r.ranks.length=s.q.length) (fQ:s.q.length≤1000000) (fR:∀ k,k < s.q.length→(qat s.q k).length≤1000000) (hl:s.tk.length≤1000000) (mS:(rat r.ranks k).feeder = -1) (i:Nat) (ht:eR s.tk x.car=i) (cK:i < s.tk.length) (h0:kU r s x k=0) :
  VH Tryz.prog 224 (b8 r s mv n1 n2) [.ref 0 0,evA x] [0] (b8 r ⟨s.q.set k (qat s.q k++[x.car]),s.tk.eraseIdx i,s.time⟩ mv false n2) (I 0):=by
 have cp:k < r.ranks.length:=by omega
 have tu:=fR k hk;have rK:(qat s.q k).length≤999999999:=by omega
 have g1:=vk r s mv x.car fQ fR;clear fR;obtain ⟨sa,sb,es⟩:=vj s.q x.car;rw [es] at g1;clear es;have g2:=nW r s mv k hk hr;have q1:=br (!decide (0≤fP s.q x.car)) 5;have q2:=br (!kc r s k) 13;have q3:=br (cl r s k) 16;have g5:VC Tryz.prog 88 [.sl 1 ([unl (!decide (0≤fP s.q x.car)) 5,unl (!kc r s k) 13,unl (cl r s k) 16].map dk)] (I (kU r s x k)):=dW _ rfl rfl;rw [h0] at g5;clear h0;unfold kc feedN at *;generalize decide (0≤fP s.q x.car)=D at *;generalize unl (!D) 5=A1 at *;generalize unl (cl r s k) 16=A3 at *;generalize cl r s k=F at *;have g6:=qi r ⟨s.q.set k (qat s.q k++[x.car]),s.tk,s.time⟩ mv x.car hl;simp only at g6;have e:(decide ((rat r.ranks k).feeder≠-1)&&decide (0 < (qat s.q (rat r.ranks k).feeder.toNat).length))=false:=by simp [mS]
 rw [e,Bool.not_false] at q2 g5;generalize unl true 13=A2 at *;clear e;rw [ht] at g6;clear ht;have gd:=Bz (s.tk.map Tk.av) n1 i (by simpa using cK);rw [yo] at gd;generalize s.tk.eraseIdx i=TK at *;obtain ⟨w1,w2,w3,w4,w5,w6⟩:=ixs (m:=i) (by omega);obtain ⟨kd,tm,rk,car⟩:=x;simp only at hx g1 g6;subst hx;simp only [evA];refine cZ Tryz.func224 rfl (by kernel_rfl) rfl (fun _=>by kernel_rfl) fun M0 w0 vs=>?_;simp only [Tryz.ntmps224,Tryz.results224,az];unfold b8;repeat' first|(with_reducible first|apply af|apply ae|apply aa|refine ah [] ?_)|((with_reducible apply ab);intro X Y;go_simp;(first|(refine ⟨_,⟨g1,rfl⟩,?_⟩)|skip);apply Y;clear Y X)
 refine aQ 11 11 [] rfl (by kernel_rfl) ?_;simp only [aA];repeat' with_reducible first|apply af|apply ae|apply aa|apply aI|(apply aJ;intro X Y;go_simp;apply Y;clear Y X)
 refine ah [] ?_;repeat' with_reducible first|apply af|apply ae|apply aa|(apply ab;intro X Y;go_simp;apply Y;clear Y X)
 refine aQ 14 14 [] rfl (by kernel_rfl) ?_;simp only [aA];repeat' first|(with_reducible first|apply af|apply ae|apply aa|apply aI)|((with_reducible apply aJ);intro X Y;go_simp;(first|(refine ⟨_,⟨g2,rfl⟩,?_⟩)|(with_reducible refine ⟨_,q1,?_⟩)|(with_reducible refine ⟨_,q2,?_⟩)|(with_reducible refine ⟨_,q3,?_⟩)|(refine ⟨_,g5,?_⟩)|skip);apply Y;clear Y X)
 refine ah [] ?_;repeat' with_reducible first|apply af|apply ae|apply aj|apply aa|(apply ak;·go_simp)|(apply ab;intro X Y;go_simp;apply Y;clear Y X)
 refine oJ 19 [0,59,59,60,60,61,61,62,62,63,3,64,64,65] (by kernel_rfl) (by kernel_rfl) (by kernel_rfl) (unW 1) (nK 1) rfl ⟨rfl,rfl⟩ ?_;simp only [List.take];repeat' with_reducible first|apply aI|(apply aJ;intro X Y;go_simp;apply Y;clear Y X)
 refine ⟨_,_,uG (id:=1) (k:=k) (es:=(qat s.q k).map cL) (c:=S car) (by exact rfl) (by exact rfl) (by go_simp) (by go_simp) uL ti9 (by exact rfl) (by go_simp),?_,?_,?_⟩
 ·simp only [List.forall_mem_cons];go_simp
 ·repeat' with_reducible first|apply aI|(apply aJ;intro X Y;go_simp;apply Y;clear Y X)
  simp only [List.forall_mem_cons];go_simp
 go_simp;refine bM [] 2 ⟨rfl,rfl⟩ ?_;simp only [aA];repeat' with_reducible first|apply aa|(apply ab;intro X Y;go_simp;apply Y;clear Y X)
 apply c_;repeat' with_reducible first|apply af|apply ae
 rw [uK,mG];refine ah [] ?_;repeat' first|(with_reducible first|apply af|apply ae|apply aa)|((with_reducible apply ab);intro X Y;go_simp;(first|(refine ⟨_,⟨g6,rfl⟩,?_⟩)|skip);apply Y;clear Y X)
 refine ah [] ?_;repeat' with_reducible first|apply ae|apply aa|(apply ao;·go_simp)|(apply ab;intro X Y;go_simp;apply Y;clear Y X)
 refine ec (bM [] 9 ⟨rfl,rfl⟩ ?_);simp only [aA];repeat' with_reducible first|apply aa|(apply ab;intro X Y;go_simp;apply Y;clear Y X)
 refine AG (fun p a w R=>⟨_,Rel.deadCell R (bi:=0) (j:=1) (r:=2) rfl rfl⟩) ?_;simp only [List.set];refine eo [2] [] [] [some (.arr 148 3 false (TK.map Tk.av))] (.osl 0) rfl (by go_simp) ?_ ?_
 ·unfold dM;go_simp;refine ⟨_,_,⟨_,gd⟩,?_⟩;go_simp;kernel_rfl
 go_simp;refine bM [] 4 ⟨rfl,rfl⟩ ?_;simp only [aA];repeat' with_reducible first|apply aa|(apply ab;intro X Y;go_simp;apply Y;clear Y X)
 apply c_;repeat' with_reducible first|apply af|apply ae
 refine ah [] ?_;repeat' with_reducible first|apply ae|apply aq|apply aa|(apply ab;intro X Y;go_simp;apply Y;clear Y X)
 go_simp
theorem KT (r:Ru) (s:St) (mv:List Sg) (n1 n2:Bool) (x:Ev) (k:Nat) (hx:x.rank=k) (hk:k < s.q.length) (hr:r.ranks.length=s.q.length) (fQ:s.q.length≤1000000) (fR:∀ k,k < s.q.length→(qat s.q k).length≤1000000) (hl:s.tk.length≤1000000) (f:Nat) (mS:(rat r.ranks k).feeder=f) (fl:f < s.q.length) (ht:eR s.tk x.car < 0) (h0:kU r s x k=0) :
  VH Tryz.prog 224 (b8 r s mv n1 n2) [.ref 0 0,evA x] [0] (b8 r ⟨s.q.set k (qat s.q k++[x.car]),s.tk,s.time⟩ mv n1 n2) (I 0):=by
 have cp:k < r.ranks.length:=by omega
 have tu:=fR k hk;have rK:(qat s.q k).length≤999999999:=by omega
 have g1:=vk r s mv x.car fQ fR;clear fR;obtain ⟨sa,sb,es⟩:=vj s.q x.car;rw [es] at g1;clear es;have g2:=nW r s mv k hk hr;have q1:=br (!decide (0≤fP s.q x.car)) 5;have q2:=br (!kc r s k) 13;have q3:=br (cl r s k) 16;have g5:VC Tryz.prog 88 [.sl 1 ([unl (!decide (0≤fP s.q x.car)) 5,unl (!kc r s k) 13,unl (cl r s k) 16].map dk)] (I (kU r s x k)):=dW _ rfl rfl;rw [h0] at g5;clear h0;unfold kc feedN at *;generalize decide (0≤fP s.q x.car)=D at *;generalize unl (!D) 5=A1 at *;generalize unl (cl r s k) 16=A3 at *;generalize cl r s k=F at *;have g6:=qi r ⟨s.q.set k (qat s.q k++[x.car]),s.tk,s.time⟩ mv x.car hl;simp only at g6;have h1:(f:Int)≠-1:=by omega
 have e:(decide ((rat r.ranks k).feeder≠-1)&&decide (0 < (qat s.q (rat r.ranks k).feeder.toNat).length))=decide (0 < (qat s.q f).length):=by
  rw [mS,decide_eq_true h1,Bool.true_and,Int.toNat_natCast]
 rw [e] at q2 g5;generalize unl (!decide (0 < (qat s.q f).length)) 13=A2 at *;clear e;have tt:(if (f:Int) < 0 then 0 else (f:Int))=f:=if_neg (by omega);generalize eR s.tk x.car=A at *;obtain ⟨kd,tm,rk,car⟩:=x;simp only at hx g1 g6;subst hx;simp only [evA];refine cZ Tryz.func224 rfl (by kernel_rfl) rfl (fun _=>by kernel_rfl) fun M0 w0 vs=>?_;simp only [Tryz.ntmps224,Tryz.results224,az];unfold b8;repeat' first|(with_reducible first|apply af|apply ae|apply aa|refine ah [] ?_)|((with_reducible apply ab);intro X Y;go_simp;(first|(refine ⟨_,⟨g1,rfl⟩,?_⟩)|skip);apply Y;clear Y X)
 refine aQ 11 11 [] rfl (by kernel_rfl) ?_;simp only [aA];repeat' with_reducible first|apply af|apply ae|apply aa|apply aI|(apply aJ;intro X Y;go_simp;apply Y;clear Y X)
 refine ah [] ?_;repeat' with_reducible first|apply af|apply ae|apply aa|(apply ab;intro X Y;go_simp;apply Y;clear Y X)
 refine aQ 14 14 [] rfl (by kernel_rfl) ?_;simp only [aA];repeat' first|(with_reducible first|apply af|apply ae|apply aa|apply aI)|((with_reducible apply aJ);intro X Y;go_simp;(first|(refine ⟨_,⟨g2,rfl⟩,?_⟩)|(with_reducible refine ⟨_,q1,?_⟩)|(with_reducible refine ⟨_,q2,?_⟩)|(with_reducible refine ⟨_,q3,?_⟩)|(refine ⟨_,g5,?_⟩)|skip);apply Y;clear Y X)
 refine ah [] ?_;repeat' with_reducible first|apply af|apply ae|apply aj|apply aa|(apply ak;·go_simp)|(apply ab;intro X Y;go_simp;apply Y;clear Y X)
 refine oJ 19 [0,59,59,60,60,61,61,62,62,63,3,64,64,65] (by kernel_rfl) (by kernel_rfl) (by kernel_rfl) (unW 1) (nK 1) rfl ⟨rfl,rfl⟩ ?_;simp only [List.take];repeat' with_reducible first|apply aI|(apply aJ;intro X Y;go_simp;apply Y;clear Y X)
 refine ⟨_,_,uG (id:=1) (k:=k) (es:=(qat s.q k).map cL) (c:=S car) (by exact rfl) (by exact rfl) (by go_simp) (by go_simp) uL ti9 (by exact rfl) (by go_simp),?_,?_,?_⟩
 ·simp only [List.forall_mem_cons];go_simp
 ·repeat' with_reducible first|apply aI|(apply aJ;intro X Y;go_simp;apply Y;clear Y X)
  simp only [List.forall_mem_cons];go_simp
 go_simp;refine bM [] 2 ⟨rfl,rfl⟩ ?_;simp only [aA];repeat' with_reducible first|apply aa|(apply ab;intro X Y;go_simp;apply Y;clear Y X)
 apply c_;repeat' with_reducible first|apply af|apply ae
 rw [uK,mG];refine ah [] ?_;repeat' first|(with_reducible first|apply af|apply ae|apply aa)|((with_reducible apply ab);intro X Y;go_simp;(first|(refine ⟨_,⟨g6,rfl⟩,?_⟩)|skip);apply Y;clear Y X)
 refine ah [] ?_;repeat' with_reducible first|apply af|apply ae|apply aj|apply aa|(apply ak;·go_simp)|(apply ab;intro X Y;go_simp;apply Y;clear Y X)
 refine ah [] ?_;repeat' with_reducible first|apply ae|apply aq|apply aa|(apply ab;intro X Y;go_simp;apply Y;clear Y X)
 go_simp
theorem KU (r:Ru) (s:St) (mv:List Sg) (n1 n2:Bool) (x:Ev) (k:Nat) (hx:x.rank=k) (hk:k < s.q.length) (hr:r.ranks.length=s.q.length) (fQ:s.q.length≤1000000) (fR:∀ k,k < s.q.length→(qat s.q k).length≤1000000) (hl:s.tk.length≤1000000) (f:Nat) (mS:(rat r.ranks k).feeder=f) (fl:f < s.q.length) (i:Nat) (ht:eR s.tk x.car=i) (cK:i < s.tk.length) (h0:kU r s x k=0) :
  VH Tryz.prog 224 (b8 r s mv n1 n2) [.ref 0 0,evA x] [0] (b8 r ⟨s.q.set k (qat s.q k++[x.car]),s.tk.eraseIdx i,s.time⟩ mv false n2) (I 0):=by
 have cp:k < r.ranks.length:=by omega
 have tu:=fR k hk;have rK:(qat s.q k).length≤999999999:=by omega
 have g1:=vk r s mv x.car fQ fR;clear fR;obtain ⟨sa,sb,es⟩:=vj s.q x.car;rw [es] at g1;clear es;have g2:=nW r s mv k hk hr;have q1:=br (!decide (0≤fP s.q x.car)) 5;have q2:=br (!kc r s k) 13;have q3:=br (cl r s k) 16;have g5:VC Tryz.prog 88 [.sl 1 ([unl (!decide (0≤fP s.q x.car)) 5,unl (!kc r s k) 13,unl (cl r s k) 16].map dk)] (I (kU r s x k)):=dW _ rfl rfl;rw [h0] at g5;clear h0;unfold kc feedN at *;generalize decide (0≤fP s.q x.car)=D at *;generalize unl (!D) 5=A1 at *;generalize unl (cl r s k) 16=A3 at *;generalize cl r s k=F at *;have g6:=qi r ⟨s.q.set k (qat s.q k++[x.car]),s.tk,s.time⟩ mv x.car hl;simp only at g6;have h1:(f:Int)≠-1:=by omega
 have e:(decide ((rat r.ranks k).feeder≠-1)&&decide (0 < (qat s.q (rat r.ranks k).feeder.toNat).length))=decide (0 < (qat s.q f).length):=by
  rw [mS,decide_eq_true h1,Bool.true_and,Int.toNat_natCast]
 rw [e] at q2 g5;generalize unl (!decide (0 < (qat s.q f).length)) 13=A2 at *;clear e;have tt:(if (f:Int) < 0 then 0 else (f:Int))=f:=if_neg (by omega);rw [ht] at g6;clear ht;have gd:=Bz (s.tk.map Tk.av) n1 i (by simpa using cK);rw [yo] at gd;generalize s.tk.eraseIdx i=TK at *;obtain ⟨w1,w2,w3,w4,w5,w6⟩:=ixs (m:=i) (by omega);obtain ⟨kd,tm,rk,car⟩:=x;simp only at hx g1 g6;subst hx;simp only [evA];refine cZ Tryz.func224 rfl (by kernel_rfl) rfl (fun _=>by kernel_rfl) fun M0 w0 vs=>?_;simp only [Tryz.ntmps224,Tryz.results224,az];unfold b8;repeat' first|(with_reducible first|apply af|apply ae|apply aa|refine ah [] ?_)|((with_reducible apply ab);intro X Y;go_simp;(first|(refine ⟨_,⟨g1,rfl⟩,?_⟩)|skip);apply Y;clear Y X)
 refine aQ 11 11 [] rfl (by kernel_rfl) ?_;simp only [aA];repeat' with_reducible first|apply af|apply ae|apply aa|apply aI|(apply aJ;intro X Y;go_simp;apply Y;clear Y X)
 refine ah [] ?_;repeat' with_reducible first|apply af|apply ae|apply aa|(apply ab;intro X Y;go_simp;apply Y;clear Y X)
 refine aQ 14 14 [] rfl (by kernel_rfl) ?_;simp only [aA];repeat' first|(with_reducible first|apply af|apply ae|apply aa|apply aI)|((with_reducible apply aJ);intro X Y;go_simp;(first|(refine ⟨_,⟨g2,rfl⟩,?_⟩)|(with_reducible refine ⟨_,q1,?_⟩)|(with_reducible refine ⟨_,q2,?_⟩)|(with_reducible refine ⟨_,q3,?_⟩)|(refine ⟨_,g5,?_⟩)|skip);apply Y;clear Y X)
 refine ah [] ?_;repeat' with_reducible first|apply af|apply ae|apply aj|apply aa|(apply ak;·go_simp)|(apply ab;intro X Y;go_simp;apply Y;clear Y X)
 refine oJ 19 [0,59,59,60,60,61,61,62,62,63,3,64,64,65] (by kernel_rfl) (by kernel_rfl) (by kernel_rfl) (unW 1) (nK 1) rfl ⟨rfl,rfl⟩ ?_;simp only [List.take];repeat' with_reducible first|apply aI|(apply aJ;intro X Y;go_simp;apply Y;clear Y X)
 refine ⟨_,_,uG (id:=1) (k:=k) (es:=(qat s.q k).map cL) (c:=S car) (by exact rfl) (by exact rfl) (by go_simp) (by go_simp) uL ti9 (by exact rfl) (by go_simp),?_,?_,?_⟩
 ·simp only [List.forall_mem_cons];go_simp
 ·repeat' with_reducible first|apply aI|(apply aJ;intro X Y;go_simp;apply Y;clear Y X)
  simp only [List.forall_mem_cons];go_simp
 go_simp;refine bM [] 2 ⟨rfl,rfl⟩ ?_;simp only [aA];repeat' with_reducible first|apply aa|(apply ab;intro X Y;go_simp;apply Y;clear Y X)
 apply c_;repeat' with_reducible first|apply af|apply ae
 rw [uK,mG];refine ah [] ?_;repeat' first|(with_reducible first|apply af|apply ae|apply aa)|((with_reducible apply ab);intro X Y;go_simp;(first|(refine ⟨_,⟨g6,rfl⟩,?_⟩)|skip);apply Y;clear Y X)
 refine ah [] ?_;repeat' with_reducible first|apply ae|apply aa|(apply ao;·go_simp)|(apply ab;intro X Y;go_simp;apply Y;clear Y X)
 refine ec (bM [] 9 ⟨rfl,rfl⟩ ?_);simp only [aA];repeat' with_reducible first|apply aa|(apply ab;intro X Y;go_simp;apply Y;clear Y X)
 refine AG (fun p a w R=>⟨_,Rel.deadCell R (bi:=0) (j:=1) (r:=2) rfl rfl⟩) ?_;simp only [List.set];refine eo [2] [] [] [some (.arr 148 3 false (TK.map Tk.av))] (.osl 0) rfl (by go_simp) ?_ ?_
 ·unfold dM;go_simp;refine ⟨_,_,⟨_,gd⟩,?_⟩;go_simp;kernel_rfl
 go_simp;refine bM [] 4 ⟨rfl,rfl⟩ ?_;simp only [aA];repeat' with_reducible first|apply aa|(apply ab;intro X Y;go_simp;apply Y;clear Y X)
 apply c_;repeat' with_reducible first|apply af|apply ae
 refine ah [] ?_;repeat' with_reducible first|apply ae|apply aq|apply aa|(apply ab;intro X Y;go_simp;apply Y;clear Y X)
 go_simp
theorem BC (r:Ru) (x:Ev) (hn:r.ranks.length≤1000000) (hc:x.car.size≤1000) : VC Tryz.prog 117 [ct r,evA x] (I (evE r x)):=by
 have i1:=jT x.kind 0 5;have i2:=jT x.time 0 604800;have i3:=jT x.rank 0 ((r.ranks.length:Int) - 1);have i4:=rL x.car hc;have u1:=br (inR x.kind 0 5) 15;have u2:=br (inR x.time 0 604800) 2;have u3:=br (inR x.rank 0 ((r.ranks.length:Int) - 1)) 6;have u4:=br (!decide (x.kind=4) || decide (x.car=ByteArray.empty)) 3;have u5:=br (decide (x.kind=4) || bP x.car) 4;have g5:VC Tryz.prog 88 [.sl 1 ([unl (inR x.kind 0 5) 15,unl (inR x.time 0 604800) 2,unl (inR x.rank 0 ((r.ranks.length:Int) - 1)) 6,unl (!decide (x.kind=4) || decide (x.car=ByteArray.empty)) 3,unl (decide (x.kind=4) || bP x.car) 4].map dk)] (I (evE r x)):=dW _ rfl rfl;have hw:IntKind.i64.wrap ((r.ranks.length:Int) - 1)=(r.ranks.length:Int) - 1:=cj (by omega) (by omega);generalize evE r x=E at *;generalize inR x.kind 0 5=D1 at *;generalize inR x.time 0 604800=D2 at *;generalize inR x.rank 0 ((r.ranks.length:Int) - 1)=D3 at *;generalize bP x.car=D5 at *;generalize unl D1 15=A1 at *;generalize unl D2 2=A2 at *;generalize unl D3 6=A3 at *;by_cases h4:x.kind=4
 ·rw [h4] at i1;rw [decide_eq_true h4,Bool.not_true,Bool.false_or] at u4;rw [decide_eq_true h4,Bool.true_or] at u5;rw [decide_eq_true h4,Bool.not_true,Bool.false_or,Bool.true_or] at g5;generalize unl true 4=A5 at *;have he:(ByteArray.empty:ByteArray)=⟨#[]⟩:=rfl;rw [he] at u4 g5;generalize unl (decide (x.car=⟨#[]⟩)) 3=A4 at *;clear he;refine aK Tryz.func117 rfl (by kernel_rfl) rfl fun M0 w0=>?_;simp only [Tryz.ntmps117,Tryz.results117,az];repeat' first|(with_reducible first|apply af|apply ae|apply aq|apply aa|refine ah [] ?_|apply aI)|((with_reducible first|apply ab|apply aJ);intro X Y;go_simp;(first|(with_reducible refine ⟨_,i1,?_⟩)|(with_reducible refine ⟨_,i2,?_⟩)|(with_reducible refine ⟨_,i3,?_⟩)|(with_reducible refine ⟨_,u1,?_⟩)|(with_reducible refine ⟨_,u2,?_⟩)|(with_reducible refine ⟨_,u3,?_⟩)|(with_reducible refine ⟨_,u4,?_⟩)|(with_reducible refine ⟨_,u5,?_⟩)|(refine ⟨_,g5,?_⟩)|skip);apply Y;clear Y X)|((refine aQ 34 34 [] rfl (by kernel_rfl) ?_);simp only [aA])
  go_simp
 ·rw [decide_eq_false h4,Bool.not_false,Bool.true_or] at u4;rw [decide_eq_false h4,Bool.false_or] at u5;rw [decide_eq_false h4,Bool.not_false,Bool.true_or,Bool.false_or] at g5;generalize unl true 3=A4 at *;generalize unl D5 4=A5 at *;refine aK Tryz.func117 rfl (by kernel_rfl) rfl fun M0 w0=>?_;simp only [Tryz.ntmps117,Tryz.results117,az];repeat' first|(with_reducible first|apply af|apply ae|apply aq|apply aa|refine ah [] ?_|apply aI)|((with_reducible first|apply ab|apply aJ);intro X Y;go_simp;(first|(with_reducible refine ⟨_,i1,?_⟩)|(with_reducible refine ⟨_,i2,?_⟩)|(with_reducible refine ⟨_,i3,?_⟩)|(with_reducible refine ⟨_,i4,?_⟩)|(with_reducible refine ⟨_,u1,?_⟩)|(with_reducible refine ⟨_,u2,?_⟩)|(with_reducible refine ⟨_,u3,?_⟩)|(with_reducible refine ⟨_,u4,?_⟩)|(with_reducible refine ⟨_,u5,?_⟩)|(refine ⟨_,g5,?_⟩)|skip);apply Y;clear Y X)|((refine aQ 34 34 [] rfl (by kernel_rfl) ?_);simp only [aA])
  go_simp
end Go.Proofs.YtoibondihdhnoaaGreatDoor
