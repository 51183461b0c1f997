/- The law TopRankNobodyOvertaken returns true whatever its input is, and its input reads as it did; the tied card. -/
import Derived.Test.YtoibondihdhnoaaDoorFRX10
import Derived.Test.YtoibondihdhnoaaDoorFRX75
import Derived.Test.YtoibondihdhnoaaDoorFRX76
import Derived.Test.YtoibondihdhnoaaDoorFRX0
import Derived.Test.YtoibondihdhnoaaDoorTie
import Derived.Test.YtoibondihdhnoaaDoorCards
import Derived.ProofKit
import Derived.LaidMore
import Derived.OpenShut
import Derived.Stop.Joined
import Derived.SevenTiedAt
namespace Go.Proofs.YtoibondihdhnoaaDoor
open Go.ChangeShapes Go.WideShapes Go.ChangeAt Go.RowKit Go.Deep
set_option maxRecDepth 100000
theorem c2g (os:Os) (args:Array Value) : laidMetH Tryd.prog Rows.topRankNobodyOvertakenRow.laid ((startW os).forCall (fun _ _=>0) ⟨#[],args,[]⟩).memory:=
 b7m os args
theorem c9v (os:Os) (started:os.Started) (H:Type) (enc:TypeId×Value→H) :
  ReturnsInHanded {} Tryd.checked os 3 .any (fun w args=>(Rows.topRankNobodyOvertakenSpec.pre enc Tryd.prog Tryd.f3 [] false w args∧laidMetH Tryd.prog Rows.topRankNobodyOvertakenRow.laid w)∧sizedMet enc Tryd.prog Tryd.f3 (OpenSpec.ofChange Rows.topRankNobodyOvertakenSpec) false w args)
   (Rows.topRankNobodyOvertakenSpec.post enc Tryd.prog Tryd.f3 false true false false):=by
 refine a0w (C:=Tryd.checked) (X:=fun w _=>laidMetH Tryd.prog Rows.topRankNobodyOvertakenRow.laid w) (fun _ _ _ hh h=>h.of_heap hh) own started (by kernel_rfl) Tryd.func3
  (ChangeSpec.witness_shaped (enc:=enc) (C:=Tryd.checked) (os:=os) (X:=fun w _=>laidMetH Tryd.prog Rows.topRankNobodyOvertakenRow.laid w) false (startW os) #[.agg #[.slice none 0 0,.int .i64 0,.int .i64 0],.slice none 0 0] 8 (c2d _) (World.shaped_of_ZipB (by kernel_rfl) (by kernel_rfl)) (by kernel_rfl) (by kernel_rfl) (by kernel_rfl) (c2g os _)) ?_
 intro W base args ds gs before hval0 hW _ hsh hL _;have hval:∀ (j:Nat) t v,Tryd.f3.params[j]? = some t→args[j]? = some v→Value.okWide Tryd.prog W .any base t v:=hval0;have hW':=hW;obtain ⟨p,q,hA0,hV,rfl,hfz,hnd⟩:=hW;have hA:DataW.TrodAll enc Tryd.prog W 0 (fun _=>true) true Tryd.f3.params.toList args.toList ds p:=hA0;rw [Tryd.params3] at hA hval;obtain ⟨v0,vs0,d0,ds0,p0,q0,hargs,rfl,rfl,h0,r0⟩:=trodAll_cons hA;obtain ⟨v1,vs1,d1,ds1,p1,q1,rfl,rfl,rfl,h1,r1⟩:=trodAll_cons r0;obtain ⟨rfl,rfl,rfl⟩:=trodAll_nil r1;obtain rfl:args=#[v0,v1]:=by cases args;simp_all
 obtain ⟨rfl,rfl⟩:=trodVars_none hV;have lt0:∀ x∈p0,x.block < W.heap.size:=by obtain ⟨m,hm⟩:=h0;exact DataW.trod_lt m _ _ _ hm
 have lt1:∀ x∈p1,x.block < W.heap.size:=by obtain ⟨m,hm⟩:=h1;exact DataW.trod_lt m _ _ _ hm
 obtain ⟨a0,g0,w0⟩:=c2l (hval 0 24 v0 rfl rfl) h0;obtain ⟨a1,g1,w1⟩:=b7s (hval 1 25 v1 rfl rfl) h1;clear hA0 hval0;refine (((c5i a0 a1 (lim g0.1) (lim g1.1)).2 W (fun _ _=>False) [v0,v1] (c5l hL) rfl fun i a v ha hv=>?_)).mono fun e W' ⟨v,he,bel,hr⟩=>?_
 ·rcases i with _|i
  ·simp only [List.getElem?_cons_zero,Option.some.injEq] at ha hv;subst ha;subst hv;exact w0
  simp only [List.getElem?_cons_succ] at ha hv;rcases i with _|i
  ·simp only [List.getElem?_cons_zero,Option.some.injEq] at ha hv;subst ha;subst hv;exact w1
  ·simp only [List.getElem?_cons_succ,List.getElem?_nil] at ha;cases ha
 ·have hv:=V0.lit_inv hr;subst hv;subst he;exact ⟨_,rfl,_,_,_,[],_,[],hW',trodAll_mk1 (shut_bool Tryd.underlying4 _),trodAll_cons_mk (Below.trod b7t (by kernel_rfl) (of_decide_eq_true (by kernel_rfl)) h0 bel lt0) (trodAll_cons_mk (Below.trod b7t (by kernel_rfl) (of_decide_eq_true (by kernel_rfl)) h1 bel lt1) trodAll_mk0),rfl,bel.frame _,fun h=>by cases h⟩
theorem d4d:Rows.TopRankNobodyOvertakenSaid:=
 OpenClaim.holds_of_wide 3 Tryd.f3 rfl rfl rfl rfl rfl rfl rfl ⟨rfl,rfl,rfl,rfl,rfl⟩ rfl rfl rfl rfl rfl (by kernel_rfl) Tryd.func3 c6j
  (of_decide_eq_true (by kernel_rfl)) (by unfold Func.isWrapper;first|(rw [if_pos (by decide +kernel)];kernel_rfl)|(rw [if_neg (by decide +kernel)];exact ⟨rfl,rfl⟩))
  (fun os started H enc _=>c9v os started H enc)
theorem topRankNobodyOvertakenCard_holds:Rows.TopRankNobodyOvertakenCardSaid:=
 Claim7.holds_tied_plain_at .later [] [.data, .data, .data, .funcsDeep] true (true, "2780d0c01a328438030876e504f936b25191c12fb7a2d4c5006d049b3a22d683") false
  d4d (fun _ h=>by cases h) (by kernel_rfl) (fun _ h=>by cases h) topRankNobodyOvertaken_row_tie rfl ⟨rfl,rfl⟩ (by kernel_rfl) rfl
  (fun f fn hf hfn=>by
   obtain rfl : f = 3 := Option.some.inj ((show Tryd.prog.funcNamed "fiacre/fiacretop.TopRankNobodyOvertaken" = some 3 by kernel_rfl).symm.trans hf) |>.symm
   obtain rfl:fn=Tryd.f3:=(Option.some.inj (Tryd.func3.symm.trans hfn)).symm;exact ⟨by kernel_rfl,fun j t ht=>by
    rw [Tryd.params3] at ht;have hm:t∈[24,25]:=by simpa using Array.mem_of_getElem? ht
    have hall:([24,25].all fun u=>!Tryd.prog.wantsStandIn u)=true:=by kernel_rfl
    exact (show Tryd.prog.wantsStandIn t=false by simpa using List.all_eq_true.1 hall t hm)⟩)
  (by kernel_rfl)
end Go.Proofs.YtoibondihdhnoaaDoor
