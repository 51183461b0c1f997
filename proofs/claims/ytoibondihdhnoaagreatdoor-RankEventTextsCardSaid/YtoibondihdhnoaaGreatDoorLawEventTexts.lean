/- The law RankEventTexts returns true whatever its input is, and its input reads as it did; the tied card. -/
import Derived.Test.YtoibondihdhnoaaGreatDoorFRZ48
import Derived.Test.YtoibondihdhnoaaGreatDoorFRZ51
import Derived.Test.YtoibondihdhnoaaGreatDoorFRZ49
import Derived.Test.YtoibondihdhnoaaGreatDoorLawJEventTexts
import Derived.Test.YtoibondihdhnoaaGreatDoorTie
import Derived.Test.YtoibondihdhnoaaGreatDoorCards
import Derived.ProofKit
import Derived.LaidMore
import Derived.OpenShut
import Derived.Stop.Joined
import Derived.SevenTiedAt
namespace Go.Proofs.YtoibondihdhnoaaGreatDoor
open Go.ChangeShapes Go.WideShapes Go.ChangeAt Go.RowKit Go.Deep
set_option maxRecDepth 100000
theorem Rc (os:Os) (args:Array Value) : laidMetH Tryz.prog Rows.rankEventTextsRow.laid ((startW os).forCall (fun _ _=>0) ⟨#[],args,[]⟩).memory:=
 wT os args
theorem Rd (os:Os) (started:os.Started) (H:Type) (enc:TypeId×Value→H) :
  ReturnsInHanded {} Tryz.checked os 9 .any (fun w args=>(Rows.rankEventTextsSpec.pre enc Tryz.prog Tryz.f9 [] false w args∧laidMetH Tryz.prog Rows.rankEventTextsRow.laid w)∧sizedMet enc Tryz.prog Tryz.f9 (OpenSpec.ofChange Rows.rankEventTextsSpec) false w args)
   (Rows.rankEventTextsSpec.post enc Tryz.prog Tryz.f9 false true false false):=by
 refine wP (C:=Tryz.checked) (X:=fun w _=>laidMetH Tryz.prog Rows.rankEventTextsRow.laid w) (fun _ _ _ hh h=>h.of_heap hh) own started (by kernel_rfl) Tryz.func9
  (ChangeSpec.witness_shaped (enc:=enc) (C:=Tryz.checked) (os:=os) (X:=fun w _=>laidMetH Tryz.prog Rows.rankEventTextsRow.laid w) false (startW os) #[.agg #[.int .i64 0,.int .i64 0,.int .i64 0,.string ⟨#[]⟩],.string ⟨#[]⟩] 8 (wS _) (World.shaped_of_ZipB (by kernel_rfl) (by kernel_rfl)) (by kernel_rfl) (by kernel_rfl) (by kernel_rfl) (Rc os _)) ?_
 intro W base args ds gs before da hW _ dN hL _;have cw:∀ (j:Nat) t v,Tryz.f9.params[j]? = some t→args[j]? = some v→Value.okWide Tryz.prog W .any base t v:=da;have pB:=hW;obtain ⟨p,q,ld,hV,rfl,zX,l9⟩:=hW;have hA:DataW.TrodAll enc Tryz.prog W 0 (fun _=>true) true Tryz.f9.params.toList args.toList ds p:=ld;rw [Tryz.params9] at hA cw;obtain ⟨v0,zY,d0,zZ,p0,q0,dB,rfl,rfl,h0,r0⟩:=trodAll_cons hA;obtain ⟨v1,Jm,d1,Jo,p1,q1,rfl,rfl,rfl,h1,r1⟩:=trodAll_cons r0;obtain ⟨rfl,rfl,rfl⟩:=trodAll_nil r1;obtain rfl:args=#[v0,v1]:=by cases args;simp_all
 obtain ⟨rfl,rfl⟩:=trodVars_none hV;have pC:∀ x∈p0,x.block < W.heap.size:=by obtain ⟨m,hm⟩:=h0;exact DataW.trod_lt m _ _ _ hm
 have xp:∀ x∈p1,x.block < W.heap.size:=by obtain ⟨m,hm⟩:=h1;exact DataW.trod_lt m _ _ _ hm
 obtain ⟨a0,g0,w0⟩:=H3 (cw 0 58 v0 rfl rfl) h0;obtain ⟨a1,g1,w1⟩:=H0 (cw 1 9 v1 rfl rfl) h1;clear ld da;refine (((PK a0 a1 (lim g0.1) (lim g1) g0.2.2.1 g0.2.2.2).2 W (fun _ _=>False) [v0,v1] (wR hL dN) rfl fun i a v ha hv=>?_)).mono fun e W' ⟨v,he,bel,hr⟩=>?_
 ·rcases i with _|i
  ·simp only [List.getElem?_cons_zero,Option.some.injEq] at ha hv;subst ha;subst hv;exact w0
  simp only [List.getElem?_cons_succ] at ha hv;rcases i with _|i
  ·simp only [List.getElem?_cons_zero,Option.some.injEq] at ha hv;subst ha;subst hv;exact w1
  ·simp only [List.getElem?_cons_succ,List.getElem?_nil] at ha;cases ha
 ·have hv:=V0.lit_inv hr;subst hv;subst he;exact ⟨_,rfl,_,_,_,[],_,[],pB,trodAll_mk1 (shut_bool Tryz.underlying4 _),trodAll_cons_mk (Below.trod ou (by kernel_rfl) (of_decide_eq_true (by kernel_rfl)) h0 bel pC) (trodAll_cons_mk (Below.trod ou (by kernel_rfl) (of_decide_eq_true (by kernel_rfl)) h1 bel xp) trodAll_mk0),rfl,bel.frame _,fun h=>by cases h⟩
theorem Re:Rows.RankEventTextsSaid:=
 OpenClaim.holds_of_wide 9 Tryz.f9 rfl rfl rfl rfl rfl rfl rfl ⟨rfl,rfl,rfl,rfl,rfl⟩ rfl rfl rfl rfl rfl (by kernel_rfl) Tryz.func9 Rf
  (of_decide_eq_true (by kernel_rfl)) (by unfold Func.isWrapper;first|(rw [if_pos (by decide +kernel)];kernel_rfl)|(rw [if_neg (by decide +kernel)];exact ⟨rfl,rfl⟩))
  (fun os started H enc _=>Rd os started H enc)
theorem rankEventTextsCard_holds:Rows.RankEventTextsCardSaid:=
 Claim7.holds_tied_plain_at .later [] [.data, .data, .data, .data, .sentinel, .sentinel, .funcsDeep, .pinned] true (true, "ecad029d21d19cc6fe7d2b36364c3ab17364733eede743befca16397c2b4febd") true
  Re (fun _ h=>by cases h) (by kernel_rfl) (fun _ h=>by cases h) rankEventTexts_row_tie rfl ⟨rfl,rfl⟩ (by kernel_rfl) rfl
  (fun f fn hf kx=>by
   obtain rfl : f = 9 := Option.some.inj ((show Tryz.prog.funcNamed "fiacre/fiacrelaw04.RankEventTexts" = some 9 by kernel_rfl).symm.trans hf) |>.symm
   obtain rfl:fn=Tryz.f9:=(Option.some.inj (Tryz.func9.symm.trans kx)).symm;exact ⟨by kernel_rfl,fun j t ht=>by
    rw [Tryz.params9] at ht;have hm:t∈[58,9]:=by simpa using Array.mem_of_getElem? ht
    have ax:([58,9].all fun u=>!Tryz.prog.wantsStandIn u)=true:=by kernel_rfl
    exact (show Tryz.prog.wantsStandIn t=false by simpa using List.all_eq_true.1 ax t hm)⟩)
  (by kernel_rfl)
end Go.Proofs.YtoibondihdhnoaaGreatDoor
