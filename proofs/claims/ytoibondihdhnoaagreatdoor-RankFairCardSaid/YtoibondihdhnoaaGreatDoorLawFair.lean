/- The law RankFair returns true whatever its input is, and its input reads as it did; the tied card. -/
import Derived.Test.YtoibondihdhnoaaGreatDoorFRQ75
import Derived.Test.YtoibondihdhnoaaGreatDoorFRQ72
import Derived.Test.YtoibondihdhnoaaGreatDoorFRQ76
import Derived.Test.YtoibondihdhnoaaGreatDoorFRQ0
import Derived.Test.YtoibondihdhnoaaGreatDoorTie
import Derived.Test.YtoibondihdhnoaaGreatDoorCards
import Derived.ProofKit
import Derived.LaidMore
import Derived.OpenShut
import Derived.Stop.Joined
import Derived.SevenTiedAt
namespace Go.Proofs.YtoibondihdhnoaaGreatDoor
open Go.ChangeShapes Go.WideShapes Go.ChangeAt Go.RowKit Go.Deep
set_option maxRecDepth 100000
theorem QD (os:Os) (args:Array Value) : laidMetH Tryz.prog Rows.rankFairRow.laid ((startW os).forCall (fun _ _=>0) ⟨#[],args,[]⟩).memory:=
 Qp os args
theorem QE (os:Os) (started:os.Started) (H:Type) (enc:TypeId×Value→H) :
  ReturnsInHanded {} Tryz.checked os 11 .any (fun w args=>(Rows.rankFairSpec.pre enc Tryz.prog Tryz.f11 [] false w args∧laidMetH Tryz.prog Rows.rankFairRow.laid w)∧sizedMet enc Tryz.prog Tryz.f11 (OpenSpec.ofChange Rows.rankFairSpec) false w args)
   (Rows.rankFairSpec.post enc Tryz.prog Tryz.f11 false true false false):=by
 refine P2 (C:=Tryz.checked) (X:=fun w _=>laidMetH Tryz.prog Rows.rankFairRow.laid w) (fun _ _ _ hh h=>h.of_heap hh) own started (by kernel_rfl) Tryz.func11
  (ChangeSpec.witness_shaped (enc:=enc) (C:=Tryz.checked) (os:=os) (X:=fun w _=>laidMetH Tryz.prog Rows.rankFairRow.laid w) false (startW os) #[.agg #[.slice none 0 0,.int .i64 0,.int .i64 0],.slice none 0 0,.string ⟨#[]⟩] 8 (Qo _) (World.shaped_of_ZipB (by kernel_rfl) (by kernel_rfl)) (by kernel_rfl) (by kernel_rfl) (by kernel_rfl) (QD os _)) ?_
 intro W base args ds gs before qV hW _ qn hL _;have fE:∀ (j:Nat) t v,Tryz.f11.params[j]? = some t→args[j]? = some v→Value.okWide Tryz.prog W .any base t v:=qV;have QF:=hW;obtain ⟨p,q,H9,hV,rfl,zi,qb⟩:=hW;have hA:DataW.TrodAll enc Tryz.prog W 0 (fun _=>true) true Tryz.f11.params.toList args.toList ds p:=H9;rw [Tryz.params11] at hA fE;obtain ⟨v0,SU,d0,SV,p0,q0,ga,rfl,rfl,h0,r0⟩:=trodAll_cons hA;obtain ⟨v1,SW,d1,SX,p1,q1,rfl,rfl,rfl,h1,r1⟩:=trodAll_cons r0;obtain ⟨v2,vs2,d2,SY,p2,q2,rfl,rfl,rfl,h2,r2⟩:=trodAll_cons r1;obtain ⟨rfl,rfl,rfl⟩:=trodAll_nil r2;obtain rfl:args=#[v0,v1,v2]:=by cases args;simp_all
 obtain ⟨rfl,rfl⟩:=trodVars_none hV;have QG:∀ x∈p0,x.block < W.heap.size:=by obtain ⟨m,hm⟩:=h0;exact DataW.trod_lt m _ _ _ hm
 have QH:∀ x∈p1,x.block < W.heap.size:=by obtain ⟨m,hm⟩:=h1;exact DataW.trod_lt m _ _ _ hm
 have QI:∀ x∈p2,x.block < W.heap.size:=by obtain ⟨m,hm⟩:=h2;exact DataW.trod_lt m _ _ _ hm
 obtain ⟨a0,g0,w0⟩:=Qe (fE 0 24 v0 rfl rfl) h0;obtain ⟨a1,g1,w1⟩:=Qd (fE 1 25 v1 rfl rfl) h1;obtain ⟨a2,g2,w2⟩:=Qc (fE 2 9 v2 rfl rfl) h2;clear H9 qV;refine (((PT a0 a1 a2 (lim g0.1) (lim g1.1) (lim g2)).2 W (fun _ _=>False) [v0,v1,v2] (Ql hL qn) rfl fun i a v ha hv=>?_)).mono fun e W' ⟨v,he,bel,hr⟩=>?_
 ·rcases i with _|i
  ·simp only [List.getElem?_cons_zero,Option.some.injEq] at ha hv;subst ha;subst hv;exact w0
  simp only [List.getElem?_cons_succ] at ha hv;rcases i with _|i
  ·simp only [List.getElem?_cons_zero,Option.some.injEq] at ha hv;subst ha;subst hv;exact w1
  simp only [List.getElem?_cons_succ] at ha hv;rcases i with _|i
  ·simp only [List.getElem?_cons_zero,Option.some.injEq] at ha hv;subst ha;subst hv;exact w2
  ·simp only [List.getElem?_cons_succ,List.getElem?_nil] at ha;cases ha
 ·have hv:=V0.lit_inv hr;subst hv;subst he;exact ⟨_,rfl,_,_,_,[],_,[],QF,trodAll_mk1 (shut_bool Tryz.underlying4 _),trodAll_cons_mk (Below.trod Df (by kernel_rfl) (of_decide_eq_true (by kernel_rfl)) h0 bel QG) (trodAll_cons_mk (Below.trod Df (by kernel_rfl) (of_decide_eq_true (by kernel_rfl)) h1 bel QH) (trodAll_cons_mk (Below.trod Df (by kernel_rfl) (of_decide_eq_true (by kernel_rfl)) h2 bel QI) trodAll_mk0)),rfl,bel.frame _,fun h=>by cases h⟩
theorem QJ:Rows.RankFairSaid:=
 OpenClaim.holds_of_wide 11 Tryz.f11 rfl rfl rfl rfl rfl rfl rfl ⟨rfl,rfl,rfl,rfl,rfl⟩ rfl rfl rfl rfl rfl (by kernel_rfl) Tryz.func11 Io
  (of_decide_eq_true (by kernel_rfl)) (by unfold Func.isWrapper;first|(rw [if_pos (by decide +kernel)];kernel_rfl)|(rw [if_neg (by decide +kernel)];exact ⟨rfl,rfl⟩))
  (fun os started H enc _=>QE os started H enc)
theorem rankFairCard_holds:Rows.RankFairCardSaid:=
 Claim7.holds_tied_plain_at .later [] [.data, .data, .data, .data, .sentinel, .sentinel, .funcsDeep, .pinned] true (true, "ecad029d21d19cc6fe7d2b36364c3ab17364733eede743befca16397c2b4febd") true
  QJ (fun _ h=>by cases h) (by kernel_rfl) (fun _ h=>by cases h) rankFair_row_tie rfl ⟨rfl,rfl⟩ (by kernel_rfl) rfl
  (fun f fn hf rZ=>by
   obtain rfl : f = 11 := Option.some.inj ((show Tryz.prog.funcNamed "fiacre/fiacrelaw04.RankFair" = some 11 by kernel_rfl).symm.trans hf) |>.symm
   obtain rfl:fn=Tryz.f11:=(Option.some.inj (Tryz.func11.symm.trans rZ)).symm;exact ⟨by kernel_rfl,fun j t ht=>by
    rw [Tryz.params11] at ht;have hm:t∈[24,25,9]:=by simpa using Array.mem_of_getElem? ht
    have aD:([24,25,9].all fun u=>!Tryz.prog.wantsStandIn u)=true:=by kernel_rfl
    exact (show Tryz.prog.wantsStandIn t=false by simpa using List.all_eq_true.1 aD t hm)⟩)
  (by kernel_rfl)
end Go.Proofs.YtoibondihdhnoaaGreatDoor
