/- The law RankStateTexts returns true whatever its input is, and its input reads as it did; the tied card. -/
import Derived.Test.YtoibondihdhnoaaGreatDoorFRZ48
import Derived.Test.YtoibondihdhnoaaGreatDoorFRZ61
import Derived.Test.YtoibondihdhnoaaGreatDoorFRZ49
import Derived.Test.YtoibondihdhnoaaGreatDoorLawJStateTexts
import Derived.Test.YtoibondihdhnoaaGreatDoorTie
import Derived.Test.YtoibondihdhnoaaGreatDoorCards
import Derived.ProofKit
import Derived.LaidMore
import Derived.OpenShut
import Derived.Stop.Joined
import Derived.SevenTiedAt
namespace Go.Proofs.YtoibondihdhnoaaGreatDoor
open Go.ChangeShapes Go.WideShapes Go.ChangeAt Go.RowKit Go.Deep
set_option maxRecDepth 100000
theorem Rr (os:Os) (args:Array Value) : laidMetH Tryz.prog Rows.rankStateTextsRow.laid ((startW os).forCall (fun _ _=>0) ⟨#[],args,[]⟩).memory:=
 wT os args
theorem Rs (os:Os) (started:os.Started) (H:Type) (enc:TypeId×Value→H) :
  ReturnsInHanded {} Tryz.checked os 12 .any (fun w args=>(Rows.rankStateTextsSpec.pre enc Tryz.prog Tryz.f12 [] false w args∧laidMetH Tryz.prog Rows.rankStateTextsRow.laid w)∧sizedMet enc Tryz.prog Tryz.f12 (OpenSpec.ofChange Rows.rankStateTextsSpec) false w args)
   (Rows.rankStateTextsSpec.post enc Tryz.prog Tryz.f12 false true false false):=by
 refine wP (C:=Tryz.checked) (X:=fun w _=>laidMetH Tryz.prog Rows.rankStateTextsRow.laid w) (fun _ _ _ hh h=>h.of_heap hh) own started (by kernel_rfl) Tryz.func12
  (ChangeSpec.witness_shaped (enc:=enc) (C:=Tryz.checked) (os:=os) (X:=fun w _=>laidMetH Tryz.prog Rows.rankStateTextsRow.laid w) false (startW os) #[.agg #[.slice none 0 0,.int .i64 0,.int .i64 0],.agg #[.slice none 0 0,.slice none 0 0,.int .i64 0],.string ⟨#[]⟩] 8 (wS _) (World.shaped_of_ZipB (by kernel_rfl) (by kernel_rfl)) (by kernel_rfl) (by kernel_rfl) (by kernel_rfl) (Rr os _)) ?_
 intro W base args ds gs before da hW _ dN hL _;have cw:∀ (j:Nat) t v,Tryz.f12.params[j]? = some t→args[j]? = some v→Value.okWide Tryz.prog W .any base t v:=da;have pB:=hW;obtain ⟨p,q,ld,hV,rfl,zX,l9⟩:=hW;have hA:DataW.TrodAll enc Tryz.prog W 0 (fun _=>true) true Tryz.f12.params.toList args.toList ds p:=ld;rw [Tryz.params12] at hA cw;obtain ⟨v0,zY,d0,zZ,p0,q0,dB,rfl,rfl,h0,r0⟩:=trodAll_cons hA;obtain ⟨v1,Jm,d1,Jo,p1,q1,rfl,rfl,rfl,h1,r1⟩:=trodAll_cons r0;obtain ⟨v2,vs2,d2,Rt,p2,q2,rfl,rfl,rfl,h2,r2⟩:=trodAll_cons r1;obtain ⟨rfl,rfl,rfl⟩:=trodAll_nil r2;obtain rfl:args=#[v0,v1,v2]:=by cases args;simp_all
 obtain ⟨rfl,rfl⟩:=trodVars_none hV;have pC:∀ x∈p0,x.block < W.heap.size:=by obtain ⟨m,hm⟩:=h0;exact DataW.trod_lt m _ _ _ hm
 have xp:∀ x∈p1,x.block < W.heap.size:=by obtain ⟨m,hm⟩:=h1;exact DataW.trod_lt m _ _ _ hm
 have DO:∀ x∈p2,x.block < W.heap.size:=by obtain ⟨m,hm⟩:=h2;exact DataW.trod_lt m _ _ _ hm
 obtain ⟨a0,g0,w0⟩:=C6 (cw 0 24 v0 rfl rfl) h0;obtain ⟨a1,g1,w1⟩:=H4 (cw 1 32 v1 rfl rfl) h1;obtain ⟨a2,g2,w2⟩:=H0 (cw 2 9 v2 rfl rfl) h2;clear ld da;refine (((QP a0 a1 a2 (lim g0.1) ⟨lim g1.1,lim g1.2.2.1,fun t ht=>(g1.2.2.2.1 t ht).2,g1.2.2.2.2⟩ (lim g2)).2 W (fun _ _=>False) [v0,v1,v2] (wR hL dN) rfl fun i a v ha hv=>?_)).mono fun e W' ⟨v,he,bel,hr⟩=>?_
 ·rcases i with _|i
  ·simp only [List.getElem?_cons_zero,Option.some.injEq] at ha hv;subst ha;subst hv;exact w0
  simp only [List.getElem?_cons_succ] at ha hv;rcases i with _|i
  ·simp only [List.getElem?_cons_zero,Option.some.injEq] at ha hv;subst ha;subst hv;exact w1
  simp only [List.getElem?_cons_succ] at ha hv;rcases i with _|i
  ·simp only [List.getElem?_cons_zero,Option.some.injEq] at ha hv;subst ha;subst hv;exact w2
  ·simp only [List.getElem?_cons_succ,List.getElem?_nil] at ha;cases ha
 ·have hv:=V0.lit_inv hr;subst hv;subst he;exact ⟨_,rfl,_,_,_,[],_,[],pB,trodAll_mk1 (shut_bool Tryz.underlying4 _),trodAll_cons_mk (Below.trod ou (by kernel_rfl) (of_decide_eq_true (by kernel_rfl)) h0 bel pC) (trodAll_cons_mk (Below.trod ou (by kernel_rfl) (of_decide_eq_true (by kernel_rfl)) h1 bel xp) (trodAll_cons_mk (Below.trod ou (by kernel_rfl) (of_decide_eq_true (by kernel_rfl)) h2 bel DO) trodAll_mk0)),rfl,bel.frame _,fun h=>by cases h⟩
theorem Rv:Rows.RankStateTextsSaid:=
 OpenClaim.holds_of_wide 12 Tryz.f12 rfl rfl rfl rfl rfl rfl rfl ⟨rfl,rfl,rfl,rfl,rfl⟩ rfl rfl rfl rfl rfl (by kernel_rfl) Tryz.func12 Ri
  (of_decide_eq_true (by kernel_rfl)) (by unfold Func.isWrapper;first|(rw [if_pos (by decide +kernel)];kernel_rfl)|(rw [if_neg (by decide +kernel)];exact ⟨rfl,rfl⟩))
  (fun os started H enc _=>Rs os started H enc)
theorem rankStateTextsCard_holds:Rows.RankStateTextsCardSaid:=
 Claim7.holds_tied_plain_at .later [] [.data, .data, .data, .data, .sentinel, .sentinel, .funcsDeep, .pinned] true (true, "ecad029d21d19cc6fe7d2b36364c3ab17364733eede743befca16397c2b4febd") true
  Rv (fun _ h=>by cases h) (by kernel_rfl) (fun _ h=>by cases h) rankStateTexts_row_tie rfl ⟨rfl,rfl⟩ (by kernel_rfl) rfl
  (fun f fn hf kx=>by
   obtain rfl : f = 12 := Option.some.inj ((show Tryz.prog.funcNamed "fiacre/fiacrelaw04.RankStateTexts" = some 12 by kernel_rfl).symm.trans hf) |>.symm
   obtain rfl:fn=Tryz.f12:=(Option.some.inj (Tryz.func12.symm.trans kx)).symm;exact ⟨by kernel_rfl,fun j t ht=>by
    rw [Tryz.params12] at ht;have hm:t∈[24,32,9]:=by simpa using Array.mem_of_getElem? ht
    have ax:([24,32,9].all fun u=>!Tryz.prog.wantsStandIn u)=true:=by kernel_rfl
    exact (show Tryz.prog.wantsStandIn t=false by simpa using List.all_eq_true.1 ax t hm)⟩)
  (by kernel_rfl)
end Go.Proofs.YtoibondihdhnoaaGreatDoor
