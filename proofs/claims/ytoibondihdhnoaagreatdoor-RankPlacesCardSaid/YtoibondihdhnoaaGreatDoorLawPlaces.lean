/- The law RankPlaces returns true whatever its input is, and its input reads as it did; the tied card. -/
import Derived.Test.YtoibondihdhnoaaGreatDoorFRN65
import Derived.Test.YtoibondihdhnoaaGreatDoorFRN62
import Derived.Test.YtoibondihdhnoaaGreatDoorFRN66
import Derived.Test.YtoibondihdhnoaaGreatDoorFRN0
import Derived.Test.YtoibondihdhnoaaGreatDoorTie
import Derived.Test.YtoibondihdhnoaaGreatDoorCards
import Derived.ProofKit
import Derived.LaidMore
import Derived.OpenShut
import Derived.Stop.Joined
import Derived.SevenTiedAt
namespace Go.Proofs.YtoibondihdhnoaaGreatDoor
open Go.ChangeShapes Go.WideShapes Go.ChangeAt Go.RowKit Go.Deep
set_option maxRecDepth 100000
theorem b6r (os:Os) (args:Array Value) : laidMetH Tryz.prog Rows.rankPlacesRow.laid ((startW os).forCall (fun _ _=>0) ⟨#[],args,[]⟩).memory:=
 b6o os args
theorem c4u (os:Os) (started:os.Started) (H:Type) (enc:TypeId×Value→H) :
  ReturnsInHanded {} Tryz.checked os 16 .any (fun w args=>(Rows.rankPlacesSpec.pre enc Tryz.prog Tryz.f16 [] false w args∧laidMetH Tryz.prog Rows.rankPlacesRow.laid w)∧sizedMet enc Tryz.prog Tryz.f16 (OpenSpec.ofChange Rows.rankPlacesSpec) false w args)
   (Rows.rankPlacesSpec.post enc Tryz.prog Tryz.f16 false true false false):=by
 refine y7_ (C:=Tryz.checked) (X:=fun w _=>laidMetH Tryz.prog Rows.rankPlacesRow.laid w) (fun _ _ _ hh h=>h.of_heap hh) own started (by kernel_rfl) Tryz.func16
  (ChangeSpec.witness_shaped (enc:=enc) (C:=Tryz.checked) (os:=os) (X:=fun w _=>laidMetH Tryz.prog Rows.rankPlacesRow.laid w) false (startW os) #[.agg #[.slice none 0 0,.int .i64 0,.int .i64 0],.agg #[.slice none 0 0,.slice none 0 0,.int .i64 0],.agg #[.int .i64 0,.string ⟨#[]⟩]] 8 (c1d _) (World.shaped_of_ZipB (by kernel_rfl) (by kernel_rfl)) (by kernel_rfl) (by kernel_rfl) (by kernel_rfl) (b6r os _)) ?_
 intro W base args ds gs before hval0 hW _ hsh hL _;have hval:∀ (j:Nat) t v,Tryz.f16.params[j]? = some t→args[j]? = some v→Value.okWide Tryz.prog W .any base t v:=hval0;have hW':=hW;obtain ⟨p,q,hA0,hV,rfl,hfz,hnd⟩:=hW;have hA:DataW.TrodAll enc Tryz.prog W 0 (fun _=>true) true Tryz.f16.params.toList args.toList ds p:=hA0;rw [Tryz.params16] at hA hval;obtain ⟨v0,vs0,d0,ds0,p0,q0,hargs,rfl,rfl,h0,r0⟩:=trodAll_cons hA;obtain ⟨v1,vs1,d1,ds1,p1,q1,rfl,rfl,rfl,h1,r1⟩:=trodAll_cons r0;obtain ⟨v2,vs2,d2,ds2,p2,q2,rfl,rfl,rfl,h2,r2⟩:=trodAll_cons r1;obtain ⟨rfl,rfl,rfl⟩:=trodAll_nil r2;obtain rfl:args=#[v0,v1,v2]:=by cases args;simp_all
 obtain ⟨rfl,rfl⟩:=trodVars_none hV;have lt0:∀ x∈p0,x.block < W.heap.size:=by obtain ⟨m,hm⟩:=h0;exact DataW.trod_lt m _ _ _ hm
 have lt1:∀ x∈p1,x.block < W.heap.size:=by obtain ⟨m,hm⟩:=h1;exact DataW.trod_lt m _ _ _ hm
 have lt2:∀ x∈p2,x.block < W.heap.size:=by obtain ⟨m,hm⟩:=h2;exact DataW.trod_lt m _ _ _ hm
 obtain ⟨a0,g0,w0⟩:=c4k (hval 0 24 v0 rfl rfl) h0;obtain ⟨a1,g1,w1⟩:=c4l (hval 1 32 v1 rfl rfl) h1;obtain ⟨a2,g2,w2⟩:=d2r (hval 2 124 v2 rfl rfl) h2;clear hA0 hval0;refine (((c4g a0 a1 a2.1 a2.2 (lim g0.1) ⟨lim g1.1,lim g1.2.2.1,fun t ht=>(g1.2.2.2.1 t ht).2,g1.2.2.2.2⟩ (lim g2.2)).2 W (fun _ _=>False) [v0,v1,v2] (c4q hL hsh) rfl fun i a v ha hv=>?_)).mono fun e W' ⟨v,he,bel,hr⟩=>?_
 ·rcases i with _|i
  ·simp only [List.getElem?_cons_zero,Option.some.injEq] at ha hv;subst ha;subst hv;exact w0
  simp only [List.getElem?_cons_succ] at ha hv;rcases i with _|i
  ·simp only [List.getElem?_cons_zero,Option.some.injEq] at ha hv;subst ha;subst hv;exact w1
  simp only [List.getElem?_cons_succ] at ha hv;rcases i with _|i
  ·simp only [List.getElem?_cons_zero,Option.some.injEq] at ha hv;subst ha;subst hv;exact w2
  ·simp only [List.getElem?_cons_succ,List.getElem?_nil] at ha;cases ha
 ·have hv:=V0.lit_inv hr;subst hv;subst he;exact ⟨_,rfl,_,_,_,[],_,[],hW',trodAll_mk1 (shut_bool Tryz.underlying4 _),trodAll_cons_mk (Below.trod b2j (by kernel_rfl) (of_decide_eq_true (by kernel_rfl)) h0 bel lt0) (trodAll_cons_mk (Below.trod b2j (by kernel_rfl) (of_decide_eq_true (by kernel_rfl)) h1 bel lt1) (trodAll_cons_mk (Below.trod b2j (by kernel_rfl) (of_decide_eq_true (by kernel_rfl)) h2 bel lt2) trodAll_mk0)),rfl,bel.frame _,fun h=>by cases h⟩
theorem d1a:Rows.RankPlacesSaid:=
 OpenClaim.holds_of_wide 16 Tryz.f16 rfl rfl rfl rfl rfl rfl rfl ⟨rfl,rfl,rfl,rfl,rfl⟩ rfl rfl rfl rfl rfl (by kernel_rfl) Tryz.func16 c1s
  (of_decide_eq_true (by kernel_rfl)) (by unfold Func.isWrapper;first|(rw [if_pos (by decide +kernel)];kernel_rfl)|(rw [if_neg (by decide +kernel)];exact ⟨rfl,rfl⟩))
  (fun os started H enc _=>c4u os started H enc)
theorem rankPlacesCard_holds:Rows.RankPlacesCardSaid:=
 Claim7.holds_tied_plain_at .later [] [.data, .data, .data, .data, .sentinel, .sentinel, .funcsDeep, .pinned] true (true, "ecad029d21d19cc6fe7d2b36364c3ab17364733eede743befca16397c2b4febd") true
  d1a (fun _ h=>by cases h) (by kernel_rfl) (fun _ h=>by cases h) rankPlaces_row_tie rfl ⟨rfl,rfl⟩ (by kernel_rfl) rfl
  (fun f fn hf hfn=>by
   obtain rfl : f = 16 := Option.some.inj ((show Tryz.prog.funcNamed "fiacre/fiacrelaw04.RankPlaces" = some 16 by kernel_rfl).symm.trans hf) |>.symm
   obtain rfl:fn=Tryz.f16:=(Option.some.inj (Tryz.func16.symm.trans hfn)).symm;exact ⟨by kernel_rfl,fun j t ht=>by
    rw [Tryz.params16] at ht;have hm:t∈[24,32,124]:=by simpa using Array.mem_of_getElem? ht
    have hall:([24,32,124].all fun u=>!Tryz.prog.wantsStandIn u)=true:=by kernel_rfl
    exact (show Tryz.prog.wantsStandIn t=false by simpa using List.all_eq_true.1 hall t hm)⟩)
  (by kernel_rfl)
end Go.Proofs.YtoibondihdhnoaaGreatDoor
