/- The law RankStays returns true whatever its input is, and its input reads as it did; the tied card. -/
import Derived.Test.YtoibondihdhnoaaGreatDoorFRY59
import Derived.Test.YtoibondihdhnoaaGreatDoorFRY65
import Derived.Test.YtoibondihdhnoaaGreatDoorFRY60
import Derived.Test.YtoibondihdhnoaaGreatDoorLawJStays
import Derived.Test.YtoibondihdhnoaaGreatDoorTie
import Derived.Test.YtoibondihdhnoaaGreatDoorCards
import Derived.ProofKit
import Derived.LaidMore
import Derived.OpenShut
import Derived.Stop.Joined
import Derived.SevenTiedAt
namespace Go.Proofs.YtoibondihdhnoaaGreatDoor
open Go.ChangeShapes Go.WideShapes Go.ChangeAt Go.RowKit Go.Deep
set_option maxRecDepth 100000
theorem Qz (os:Os) (args:Array Value) : laidMetH Tryz.prog Rows.rankStaysRow.laid ((startW os).forCall (fun _ _=>0) ⟨#[],args,[]⟩).memory:=
 zS os args
theorem QA (os:Os) (started:os.Started) (H:Type) (enc:TypeId×Value→H) :
  ReturnsInHanded {} Tryz.checked os 8 .any (fun w args=>(Rows.rankStaysSpec.pre enc Tryz.prog Tryz.f8 [] false w args∧laidMetH Tryz.prog Rows.rankStaysRow.laid w)∧sizedMet enc Tryz.prog Tryz.f8 (OpenSpec.ofChange Rows.rankStaysSpec) false w args)
   (Rows.rankStaysSpec.post enc Tryz.prog Tryz.f8 false true false false):=by
 refine zN (C:=Tryz.checked) (X:=fun w _=>laidMetH Tryz.prog Rows.rankStaysRow.laid w) (fun _ _ _ hh h=>h.of_heap hh) own started (by kernel_rfl) Tryz.func8
  (ChangeSpec.witness_shaped (enc:=enc) (C:=Tryz.checked) (os:=os) (X:=fun w _=>laidMetH Tryz.prog Rows.rankStaysRow.laid w) false (startW os) #[.agg #[.slice none 0 0,.int .i64 0,.int .i64 0],.slice none 0 0] 8 (zR _) (World.shaped_of_ZipB (by kernel_rfl) (by kernel_rfl)) (by kernel_rfl) (by kernel_rfl) (by kernel_rfl) (Qz os _)) ?_
 intro W base args ds gs before eG hW _ lq hL _;have cS:∀ (j:Nat) t v,Tryz.f8.params[j]? = some t→args[j]? = some v→Value.okWide Tryz.prog W .any base t v:=eG;have s6:=hW;obtain ⟨p,q,og,hV,rfl,sL,mW⟩:=hW;have hA:DataW.TrodAll enc Tryz.prog W 0 (fun _=>true) true Tryz.f8.params.toList args.toList ds p:=og;rw [Tryz.params8] at hA cS;obtain ⟨v0,Dv,d0,Dw,p0,q0,eB,rfl,rfl,h0,r0⟩:=trodAll_cons hA;obtain ⟨v1,Dx,d1,Dz,p1,q1,rfl,rfl,rfl,h1,r1⟩:=trodAll_cons r0;obtain ⟨rfl,rfl,rfl⟩:=trodAll_nil r1;obtain rfl:args=#[v0,v1]:=by cases args;simp_all
 obtain ⟨rfl,rfl⟩:=trodVars_none hV;have s7:∀ x∈p0,x.block < W.heap.size:=by obtain ⟨m,hm⟩:=h0;exact DataW.trod_lt m _ _ _ hm
 have s8:∀ x∈p1,x.block < W.heap.size:=by obtain ⟨m,hm⟩:=h1;exact DataW.trod_lt m _ _ _ hm
 obtain ⟨a0,g0,w0⟩:=zP (cS 0 24 v0 rfl rfl) h0;obtain ⟨a1,g1,w1⟩:=zO (cS 1 25 v1 rfl rfl) h1;clear og eG;refine (((PR a0 a1 (lim g0.1) (lim g1.1)).2 W (fun _ _=>False) [v0,v1] (zQ hL lq) rfl fun i a v ha hv=>?_)).mono fun e W' ⟨v,he,bel,hr⟩=>?_
 ·rcases i with _|i
  ·simp only [List.getElem?_cons_zero,Option.some.injEq] at ha hv;subst ha;subst hv;exact w0
  simp only [List.getElem?_cons_succ] at ha hv;rcases i with _|i
  ·simp only [List.getElem?_cons_zero,Option.some.injEq] at ha hv;subst ha;subst hv;exact w1
  ·simp only [List.getElem?_cons_succ,List.getElem?_nil] at ha;cases ha
 ·have hv:=V0.lit_inv hr;subst hv;subst he;exact ⟨_,rfl,_,_,_,[],_,[],s6,trodAll_mk1 (shut_bool Tryz.underlying4 _),trodAll_cons_mk (Below.trod p5 (by kernel_rfl) (of_decide_eq_true (by kernel_rfl)) h0 bel s7) (trodAll_cons_mk (Below.trod p5 (by kernel_rfl) (of_decide_eq_true (by kernel_rfl)) h1 bel s8) trodAll_mk0),rfl,bel.frame _,fun h=>by cases h⟩
theorem QB:Rows.RankStaysSaid:=
 OpenClaim.holds_of_wide 8 Tryz.f8 rfl rfl rfl rfl rfl rfl rfl ⟨rfl,rfl,rfl,rfl,rfl⟩ rfl rfl rfl rfl rfl (by kernel_rfl) Tryz.func8 Qs
  (of_decide_eq_true (by kernel_rfl)) (by unfold Func.isWrapper;first|(rw [if_pos (by decide +kernel)];kernel_rfl)|(rw [if_neg (by decide +kernel)];exact ⟨rfl,rfl⟩))
  (fun os started H enc _=>QA os started H enc)
theorem rankStaysCard_holds:Rows.RankStaysCardSaid:=
 Claim7.holds_tied_plain_at .later [] [.data, .data, .data, .data, .sentinel, .sentinel, .funcsDeep, .pinned] true (true, "ecad029d21d19cc6fe7d2b36364c3ab17364733eede743befca16397c2b4febd") true
  QB (fun _ h=>by cases h) (by kernel_rfl) (fun _ h=>by cases h) rankStays_row_tie rfl ⟨rfl,rfl⟩ (by kernel_rfl) rfl
  (fun f fn hf lV=>by
   obtain rfl : f = 8 := Option.some.inj ((show Tryz.prog.funcNamed "fiacre/fiacrelaw04.RankStays" = some 8 by kernel_rfl).symm.trans hf) |>.symm
   obtain rfl:fn=Tryz.f8:=(Option.some.inj (Tryz.func8.symm.trans lV)).symm;exact ⟨by kernel_rfl,fun j t ht=>by
    rw [Tryz.params8] at ht;have hm:t∈[24,25]:=by simpa using Array.mem_of_getElem? ht
    have aF:([24,25].all fun u=>!Tryz.prog.wantsStandIn u)=true:=by kernel_rfl
    exact (show Tryz.prog.wantsStandIn t=false by simpa using List.all_eq_true.1 aF t hm)⟩)
  (by kernel_rfl)
end Go.Proofs.YtoibondihdhnoaaGreatDoor
