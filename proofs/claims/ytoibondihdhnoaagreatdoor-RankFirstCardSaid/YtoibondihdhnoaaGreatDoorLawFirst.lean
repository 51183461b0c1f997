/- The law RankFirst returns true whatever its input is, and its input reads as it did; the tied card. -/
import Derived.Test.YtoibondihdhnoaaGreatDoorFRY59
import Derived.Test.YtoibondihdhnoaaGreatDoorFRY66
import Derived.Test.YtoibondihdhnoaaGreatDoorFRY60
import Derived.Test.YtoibondihdhnoaaGreatDoorLawJFirst
import Derived.Test.YtoibondihdhnoaaGreatDoorTie
import Derived.Test.YtoibondihdhnoaaGreatDoorCards
import Derived.ProofKit
import Derived.LaidMore
import Derived.OpenShut
import Derived.Stop.Joined
import Derived.SevenTiedAt
namespace Go.Proofs.YtoibondihdhnoaaGreatDoor
open Go.ChangeShapes Go.WideShapes Go.ChangeAt Go.RowKit Go.Deep
set_option maxRecDepth 100000
theorem Ql (os:Os) (args:Array Value) : laidMetH Tryz.prog Rows.rankFirstRow.laid ((startW os).forCall (fun _ _=>0) ⟨#[],args,[]⟩).memory:=
 zS os args
theorem Qm (os:Os) (started:os.Started) (H:Type) (enc:TypeId×Value→H) :
  ReturnsInHanded {} Tryz.checked os 6 .any (fun w args=>(Rows.rankFirstSpec.pre enc Tryz.prog Tryz.f6 [] false w args∧laidMetH Tryz.prog Rows.rankFirstRow.laid w)∧sizedMet enc Tryz.prog Tryz.f6 (OpenSpec.ofChange Rows.rankFirstSpec) false w args)
   (Rows.rankFirstSpec.post enc Tryz.prog Tryz.f6 false true false false):=by
 refine zN (C:=Tryz.checked) (X:=fun w _=>laidMetH Tryz.prog Rows.rankFirstRow.laid w) (fun _ _ _ hh h=>h.of_heap hh) own started (by kernel_rfl) Tryz.func6
  (ChangeSpec.witness_shaped (enc:=enc) (C:=Tryz.checked) (os:=os) (X:=fun w _=>laidMetH Tryz.prog Rows.rankFirstRow.laid w) false (startW os) #[.agg #[.slice none 0 0,.int .i64 0,.int .i64 0],.slice none 0 0,.int .i64 0] 8 (zR _) (World.shaped_of_ZipB (by kernel_rfl) (by kernel_rfl)) (by kernel_rfl) (by kernel_rfl) (by kernel_rfl) (Ql os _)) ?_
 intro W base args ds gs before eG hW _ lq hL _;have cS:∀ (j:Nat) t v,Tryz.f6.params[j]? = some t→args[j]? = some v→Value.okWide Tryz.prog W .any base t v:=eG;have s6:=hW;obtain ⟨p,q,og,hV,rfl,sL,mW⟩:=hW;have hA:DataW.TrodAll enc Tryz.prog W 0 (fun _=>true) true Tryz.f6.params.toList args.toList ds p:=og;rw [Tryz.params6] at hA cS;obtain ⟨v0,Dv,d0,Dw,p0,q0,eB,rfl,rfl,h0,r0⟩:=trodAll_cons hA;obtain ⟨v1,Dx,d1,Dz,p1,q1,rfl,rfl,rfl,h1,r1⟩:=trodAll_cons r0;obtain ⟨v2,vs2,d2,Sn,p2,q2,rfl,rfl,rfl,h2,r2⟩:=trodAll_cons r1;obtain ⟨rfl,rfl,rfl⟩:=trodAll_nil r2;obtain rfl:args=#[v0,v1,v2]:=by cases args;simp_all
 obtain ⟨rfl,rfl⟩:=trodVars_none hV;have s7:∀ x∈p0,x.block < W.heap.size:=by obtain ⟨m,hm⟩:=h0;exact DataW.trod_lt m _ _ _ hm
 have s8:∀ x∈p1,x.block < W.heap.size:=by obtain ⟨m,hm⟩:=h1;exact DataW.trod_lt m _ _ _ hm
 have Qn:∀ x∈p2,x.block < W.heap.size:=by obtain ⟨m,hm⟩:=h2;exact DataW.trod_lt m _ _ _ hm
 obtain ⟨a0,g0,w0⟩:=zP (cS 0 24 v0 rfl rfl) h0;obtain ⟨a1,g1,w1⟩:=zO (cS 1 25 v1 rfl rfl) h1;obtain ⟨a2,g2,w2⟩:=Pn (cS 2 3 v2 rfl rfl) h2;clear og eG;refine (((PX a0 a1 a2 (lim g0.1) (lim g1.1)).2 W (fun _ _=>False) [v0,v1,v2] (zQ hL lq) rfl fun i a v ha hv=>?_)).mono fun e W' ⟨v,he,bel,hr⟩=>?_
 ·rcases i with _|i
  ·simp only [List.getElem?_cons_zero,Option.some.injEq] at ha hv;subst ha;subst hv;exact w0
  simp only [List.getElem?_cons_succ] at ha hv;rcases i with _|i
  ·simp only [List.getElem?_cons_zero,Option.some.injEq] at ha hv;subst ha;subst hv;exact w1
  simp only [List.getElem?_cons_succ] at ha hv;rcases i with _|i
  ·simp only [List.getElem?_cons_zero,Option.some.injEq] at ha hv;subst ha;subst hv;exact w2
  ·simp only [List.getElem?_cons_succ,List.getElem?_nil] at ha;cases ha
 ·have hv:=V0.lit_inv hr;subst hv;subst he;exact ⟨_,rfl,_,_,_,[],_,[],s6,trodAll_mk1 (shut_bool Tryz.underlying4 _),trodAll_cons_mk (Below.trod p5 (by kernel_rfl) (of_decide_eq_true (by kernel_rfl)) h0 bel s7) (trodAll_cons_mk (Below.trod p5 (by kernel_rfl) (of_decide_eq_true (by kernel_rfl)) h1 bel s8) (trodAll_cons_mk (Below.trod p5 (by kernel_rfl) (of_decide_eq_true (by kernel_rfl)) h2 bel Qn) trodAll_mk0)),rfl,bel.frame _,fun h=>by cases h⟩
theorem Qo:Rows.RankFirstSaid:=
 OpenClaim.holds_of_wide 6 Tryz.f6 rfl rfl rfl rfl rfl rfl rfl ⟨rfl,rfl,rfl,rfl,rfl⟩ rfl rfl rfl rfl rfl (by kernel_rfl) Tryz.func6 Qp
  (of_decide_eq_true (by kernel_rfl)) (by unfold Func.isWrapper;first|(rw [if_pos (by decide +kernel)];kernel_rfl)|(rw [if_neg (by decide +kernel)];exact ⟨rfl,rfl⟩))
  (fun os started H enc _=>Qm os started H enc)
theorem rankFirstCard_holds:Rows.RankFirstCardSaid:=
 Claim7.holds_tied_plain_at .later [] [.data, .data, .data, .data, .sentinel, .sentinel, .funcsDeep, .pinned] true (true, "ecad029d21d19cc6fe7d2b36364c3ab17364733eede743befca16397c2b4febd") true
  Qo (fun _ h=>by cases h) (by kernel_rfl) (fun _ h=>by cases h) rankFirst_row_tie rfl ⟨rfl,rfl⟩ (by kernel_rfl) rfl
  (fun f fn hf lV=>by
   obtain rfl : f = 6 := Option.some.inj ((show Tryz.prog.funcNamed "fiacre/fiacrelaw04.RankFirst" = some 6 by kernel_rfl).symm.trans hf) |>.symm
   obtain rfl:fn=Tryz.f6:=(Option.some.inj (Tryz.func6.symm.trans lV)).symm;exact ⟨by kernel_rfl,fun j t ht=>by
    rw [Tryz.params6] at ht;have hm:t∈[24,25,3]:=by simpa using Array.mem_of_getElem? ht
    have aF:([24,25,3].all fun u=>!Tryz.prog.wantsStandIn u)=true:=by kernel_rfl
    exact (show Tryz.prog.wantsStandIn t=false by simpa using List.all_eq_true.1 aF t hm)⟩)
  (by kernel_rfl)
end Go.Proofs.YtoibondihdhnoaaGreatDoor
