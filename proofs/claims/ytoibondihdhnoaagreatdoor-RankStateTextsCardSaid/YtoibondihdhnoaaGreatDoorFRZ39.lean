/- Texts in one: The last sighting of a car: a loop over slices.Backward, at the world's level. -/
import Derived.Test.YtoibondihdhnoaaGreatDoorFRZ38
import Derived.Test.YtoibondihdhnoaaGreatDoorFRZ31
import Derived.RangeFuncNested
import Derived.RangeFuncBox
import Derived.RangeFuncLeaves
import Derived.Shelf.Abstract
import Derived.OwnWalkIn
import Derived.TacticsInMore
import Derived.LoopNIn
import Derived.LoopIn
import Derived.Test.YtoibondihdhnoaaGreatDoorFRZ8
namespace Go.Proofs.YtoibondihdhnoaaGreatDoor
open Go.RowKit Go.Shelf
attribute [local go_sem] Oper.semAt_some
set_option maxRecDepth 100000
set_option maxHeartbeats 4000000
def jZ {α:Type} (f:Nat→α) (k:Nat) : List α:=(List.range k).map f
theorem GH {α:Type} (f:Nat→α) (k:Nat) : jZ f (k+1)=jZ f k++[f k]:=by simp [jZ,List.range_succ]
theorem ML {α:Type} (f:Nat→α) (k:Nat) : (jZ f k).length=k:=by simp [jZ]
def sgV (x:Sg) : Value:=.agg #[.int .i64 x.kind,.int .i64 x.rank,.string x.car]
def bkF (zs:List Sg) (k:Nat) : Nat×Sg:=(zs.length - 1 - k,aB zs (zs.length - 1 - k))
def SgC (W:World) (b off:Nat) (zs:List Sg) : Prop:=∀ j,j < zs.length→W.cell? ⟨b,off+j*3,none⟩=some (.int .i64 (aB zs j).kind)∧W.cell? ⟨b,off+j*3+1,none⟩=some (.int .i64 (aB zs j).rank)∧W.cell? ⟨b,off+j*3+2,none⟩=some (.string (aB zs j).car)
theorem MM (F:Fence) (n:Nat) (hf:F.fn 159) (lO:F.round=none) (hn:1≤n) (l Bs n₀ b off cap:Nat) (zs:List Sg) (jg:zs.length≤1000000) (_hcap:zs.length≤cap) (hb:b < n₀) (J Jx:List (Nat×Sg)→World→Prop)
  (hY:∀ pre x W,J pre W→pre.length < zs.length→YieldAt F (n - 1) Tryz.prog l #[.int .i64 (x.1:Int),sgV x.2] W fun e W'=>
   (e = .returned (.bool true)∧J (pre++[x]) W'∧Below n₀ W W')∨(e = .returned (.bool false)∧Jx (pre++[x]) W'))
  (W:World) (zo:W.cell? ⟨Bs,0,none⟩=some (.slice (some ⟨b,off,none⟩) zs.length cap)) (MN:Bs < n₀) (hc:SgC W b off zs) (h0:J [] W) :
  CallsIn F n Tryz.prog 159 #[.func (.yield l) #[] #[],.pointer (some ⟨Bs,0,none⟩)] W fun e W'=>(∃ v,e = .returned v) ∧
   ((∃ ys,ys=jZ (bkF zs) zs.length∧J ys W')∨(∃ pre,(∃ k,k≤zs.length∧pre=jZ (bkF zs) k)∧Jx pre W')):=by
 have t40:=Tryz.underlying40;have a40:=Tryz.isAgg40;have z40:=Tryz.sizeOf40;have t45:=Tryz.underlying45;have MO:=Tryz.isAgg45;have MP:=Tryz.sizeOf45;refine callsIn_of_wp Tryz.func159 rfl hf ?_ lO;simp only [Tryz.ntmps159,List.size_toArray,List.length_cons,List.length_nil,Nat.reduceAdd,Nat.reduceSub,Array.replicate_succ,Array.replicate_zero,List.push_toArray,List.append_toArray,List.nil_append,List.cons_append];have Cx:IntKind.i64.wrap ((zs.length:Int) - 1)=(zs.length:Int) - 1:=cj (by omega) (by omega);gi_wp2
 gi_loopw [3] (fun i wr=>∃ m:Nat,m≤zs.length∧i = .int .i64 ((m:Int) - 1)∧J (jZ (bkF zs) (zs.length - m)) wr∧Below n₀ W wr)
  (fun i _=>(intOf i+1).toNat)
 case atStart=>
  refine ⟨zs.length,Nat.le_refl _,?_,?_,Below.refl _ _⟩
  ·first|rfl|simp [Cx]|skip
  ·rw [Nat.sub_self];exact h0
 case round=>
  obtain ⟨m,hm,rfl,zp,qv⟩:=hrel;have MQ:wr.cell? ⟨Bs,0,none⟩=some (.slice (some ⟨b,off,none⟩) zs.length cap):=(qv.cell (p:=⟨Bs,0,none⟩) MN).trans zo;cases m with
  | zero=>
   gi_wp2
   go_end0
   exact ⟨⟨_,rfl⟩,.inl ⟨_,rfl,zp⟩⟩
  | succ q=>
   have hq:q < zs.length:=by omega
   have e1:((q+1:Nat) : Int) - 1=(q:Int):=by omega
   rw [e1];obtain ⟨c0,c1,c2⟩:=hc q hq;have d0:=(qv.cell (p:=⟨b,off+q*3,none⟩) hb).trans c0;have d1:=(qv.cell (p:=⟨b,off+q*3+1,none⟩) hb).trans c1;have d2:=(qv.cell (p:=⟨b,off+q*3+2,none⟩) hb).trans c2;have lC:IntKind.i64.wrap ((q:Int) - 1)=(q:Int) - 1:=cj (by omega) (by omega);have eF:bkF zs (zs.length - (q+1))=(q,aB zs q):=by
    unfold bkF;rw [show zs.length - 1 - (zs.length - (q+1))=q by omega]
   obtain ⟨fn,tmps,assign,body,hy,hR⟩:=hY _ (q,aB zs q) wr zp (by rw [ML];omega);unfold sgV at hy;dsimp only at hy;have eU:jZ (bkF zs) (zs.length - q)=jZ (bkF zs) (zs.length - (q+1))++[(q,aB zs q)]:=by
    rw [show zs.length - q=(zs.length - (q+1))+1 by omega,GH,eF]
   gi_wp2
   refine hR.mono ?_;rintro e W3 (⟨rfl,MR,nR⟩|⟨rfl,Cy⟩)
   ·gi_wp2
    go_roundw
    case rel=>
     refine ⟨q,by omega,?_,by rw [eU];exact MR,qv.trans nR⟩;first|rfl|simp [lC]
    case measure=>simp [intOf]
   ·gi_wp2
    refine bodyPost_ret (results_none rfl _ _ _) rfl ?_;exact ⟨⟨_,rfl⟩,.inr ⟨_,⟨zs.length - q,by omega,eU.symm⟩,Cy⟩⟩
theorem MS (F:Fence) (n:Nat) (hf:F.fn 141) (lO:F.round=none) (a:Option Addr) (len cap:Nat) (w:World) :
  CallsIn F n Tryz.prog 141 #[.slice a len cap] w fun e w'=>e = .returned (.func (.func 159) #[] #[.pointer (some ⟨w.heap.size,0,none⟩)])∧w'=w.alloc (.cells #[.slice a len cap] 40):=by
 refine callsIn_of_wp Tryz.func141 rfl hf ?_ lO;simp only [Tryz.ntmps141,List.size_toArray,List.length_cons,List.length_nil,Nat.reduceAdd,Nat.reduceSub,Array.replicate_succ,Array.replicate_zero,List.push_toArray,List.append_toArray,List.nil_append,List.cons_append];gi_wp2
 go_ret
 exact ⟨rfl,rfl⟩
theorem MT (F:Fence) (n:Nat) (hf:F.fn 159) (lO:F.round=none) (l Bs:Nat) (A:Option Addr) (cap:Nat) (J:List (Nat×Sg)→World→Prop) (W:World) (zo:W.cell? ⟨Bs,0,none⟩=some (.slice A 0 cap)) (h0:J [] W) :
  CallsIn F n Tryz.prog 159 #[.func (.yield l) #[] #[],.pointer (some ⟨Bs,0,none⟩)] W fun e W'=>(∃ v,e = .returned v)∧J [] W':=by
 have t40:=Tryz.underlying40;have a40:=Tryz.isAgg40;have z40:=Tryz.sizeOf40;refine callsIn_of_wp Tryz.func159 rfl hf ?_ lO;simp only [Tryz.ntmps159,List.size_toArray,List.length_cons,List.length_nil,Nat.reduceAdd,Nat.reduceSub,Array.replicate_succ,Array.replicate_zero,List.push_toArray,List.append_toArray,List.nil_append,List.cons_append];have Cx:IntKind.i64.wrap (0 - 1) = -1:=rfl;gi_wp2
 gi_loopw [3] (fun i wr=>i = .int .i64 (-1)∧J [] wr) (fun _ _=>0)
 case atStart=>exact ⟨by first|rfl|simp [Cx],h0⟩
 case round=>
  obtain ⟨rfl,zp⟩:=hrel;gi_wp2
  go_end0
  exact ⟨⟨_,rfl⟩,zp⟩
def SgsV (n₀:Nat) (W:World) (sv:Value) (zs:List Sg) : Prop:=
 (∃ A cap,sv = .slice A 0 cap∧zs=[])∨∃ b off cap,sv = .slice (some ⟨b,off,none⟩) zs.length cap∧b < n₀∧zs.length≤cap∧SgC W b off zs
theorem SgC.below {n₀:Nat} {A B:World} (h:Below n₀ A B) {b off:Nat} {zs:List Sg} (hb:b < n₀) (hc:SgC A b off zs) : SgC B b off zs:=fun j hj=>by
 obtain ⟨c0,c1,c2⟩:=hc j hj;exact ⟨(h.cell (p:=⟨b,off+j*3,none⟩) hb).trans c0,(h.cell (p:=⟨b,off+j*3+1,none⟩) hb).trans c1,(h.cell (p:=⟨b,off+j*3+2,none⟩) hb).trans c2⟩
theorem SgsV.below {n₀ n₁:Nat} {A B:World} (h:Below n₀ A B) (hn:n₀≤n₁) {sv:Value} {zs:List Sg} : SgsV n₀ A sv zs→SgsV n₁ B sv zs
 | .inl e=>.inl e
 | .inr ⟨b,off,cap,e,hb,hl,hc⟩=>.inr ⟨b,off,cap,e,by omega,hl,hc.below h hb⟩
theorem MU (F:Fence) (n:Nat) (hf:F.fn 159) (lO:F.round=none) (hn:1≤n) (Bs n₀:Nat) (sv:Value) (zs:List Sg) (jg:zs.length≤1000000) (w:World) (zo:Bs < n₀) (MV:n₀≤w.heap.size)
  (hc:w.cell? ⟨Bs,0,none⟩=some sv) (hI:SgsV n₀ w sv zs) :
  SeqStopsK F n Tryz.prog 159 #[.pointer (some ⟨Bs,0,none⟩)] (fun x:Nat×Sg=>#[Value.int .i64 (x.1:Int),sgV x.2]) (Below n₀) (fun ys=>ys=jZ (bkF zs) zs.length)
   (fun pre=>∃ k,k≤zs.length∧pre=jZ (bkF zs) k) zs.length w:=fun l J Jx W hW _ _ hY h0=>by
 have ib:=(hW.cell (p:=⟨Bs,0,none⟩) (show Bs < w.heap.size by omega)).trans hc;rcases hI.below (hW.mono MV) (Nat.le_refl _) with ⟨A,cap,rfl,rfl⟩|⟨b,off,cap,rfl,hb,hl,bV⟩
 ·exact (MT F n hf lO l Bs A cap J W ib h0).mono fun e W' ⟨he,hj⟩=>⟨he,.inl ⟨_,rfl,hj⟩⟩
 ·exact MM F n hf lO hn l Bs n₀ b off cap zs jg hl hb J Jx hY W ib zo bV h0
attribute [local go_sem] Oper.semAt_some
set_option maxRecDepth 100000
set_option maxHeartbeats 4000000
theorem MW (Bx:Nat) (t:TypeId) (cs:Array Value) {W W':World} {row:Option Nat} (h:Bk W Bx t cs) (hg:W.grownBy W' row) (hr:∀ r,row=some r→∃ o:Obj,W.heap[r]? = some o∧o.isCells=false) : Bk W' Bx t cs:=by
 refine Bk.grown h hg fun e=>?_;obtain ⟨o,ho,hc⟩:=hr Bx e.symm;have h':W.heap[Bx]? = some (.cells cs t (0,0)):=h;rw [h'] at ho;injection ho with ho
 subst ho;cases hc
theorem MX (F:Fence) (n:Nat) (MY:F.fn 92) (MZ:F.fn 141) (GI:F.fn 159) (lO:F.round=none) (hn:3≤n)
  (a:Option Addr) (len cap:Nat) (zs:List Sg) (R:Int) (c:ByteArray) (jg:zs.length≤1000000) (w:World) (hI:SgsV w.heap.size w (.slice a len cap) zs) :
  CallsIn F n Tryz.prog 92 #[.slice a len cap,.int .i64 R,.string c] w fun e W'=>
   ((e = .returned (.int .i64 (-1))∧∀ p∈jZ (bkF zs) zs.length,fS p.2 R c=false) ∨
    (∃ k,k < zs.length∧e = .returned (.int .i64 ((bkF zs k).1:Int))∧fS (bkF zs k).2 R c=true∧∀ p∈jZ (bkF zs) k,fS p.2 R c=false))∧Below w.heap.size w W':=by
 have h1:1≤n:=by omega
 have t45:=Tryz.underlying45;have MO:=Tryz.isAgg45;have MP:=Tryz.sizeOf45;have Sc:=Tryz.zeroValue45;refine callsIn_of_wp_marks Tryz.func92 rfl MY ?_ lO;simp only [Tryz.ntmps92,List.size_toArray,List.length_cons,List.length_nil,Nat.reduceAdd,Nat.reduceSub,Array.replicate_succ,Array.replicate_zero,List.push_toArray,List.append_toArray,List.nil_append,List.cons_append];gi_wp2_with (gi_at_call 141;refine (MS F (n - 1) MZ lO _ _ _ _).mono ?_;rintro e w' ⟨rfl,rfl⟩)
 have bR:=((Boxed.new w 3 (.int .i64 R)).alloc (.cells #[.string c] 9)).alloc (.cells #[.int .i64 0] 3) |>.alloc (.cells #[.slice a len cap] 40)
 have bC:=((Boxed.new (w.alloc (.cells #[.int .i64 R] 3)) 9 (.string c)).alloc (.cells #[.int .i64 0] 3)).alloc (.cells #[.slice a len cap] 40);have bO:=(Boxed.new ((w.alloc (.cells #[.int .i64 R] 3)).alloc (.cells #[.string c] 9)) 3 (.int .i64 0)).alloc (.cells #[.slice a len cap] 40);have bS:=Boxed.new (((w.alloc (.cells #[.int .i64 R] 3)).alloc (.cells #[.string c] 9)).alloc (.cells #[.int .i64 0] 3)) 40 (.slice a len cap);simp only [World.size_alloc] at bR bC bO bS;have zq:Below w.heap.size w ((((w.alloc (.cells #[.int .i64 R] 3)).alloc (.cells #[.string c] 9)).alloc (.cells #[.int .i64 0] 3)).alloc (.cells #[.slice a len cap] 40)):=((((Below.refl _ w).alloc (Nat.le_refl _) _).alloc (by simp) _).alloc (by simp;omega) _).alloc (by simp;omega) _;have aM:((((w.alloc (.cells #[.int .i64 R] 3)).alloc (.cells #[.string c] 9)).alloc (.cells #[.int .i64 0] 3)).alloc (.cells #[.slice a len cap] 40)).heap.size=w.heap.size+4:=by simp
 obtain ⟨W0,GJ⟩ : ∃ W0,(((w.alloc (.cells #[.int .i64 R] 3)).alloc (.cells #[.string c] 9)).alloc (.cells #[.int .i64 0] 3)).alloc (.cells #[.slice a len cap] 40)=W0:=⟨_,rfl⟩
 rw [GJ] at bR bC bO bS zq aM ⊢;clear GJ;refine wpIn_rangeFunc_ownH lO h1 (gf:=159) (lb:=#[.pointer (some ⟨w.heap.size+1+1+1,0,none⟩)]) rfl GI (enters_of Tryz.func159 (by kernel_rfl) rfl)
  (MU F (n - 1) GI lO (by omega) (w.heap.size+1+1+1) (w.heap.size+4) (.slice a len cap) zs jg W0 (by omega) (by omega) bS.cell (hI.below zq (by omega))) belowK_t (belowK_b (by omega)) (Below.refl _ _) (fun _=>rfl)
  (fun pre W=>((((∀ p∈pre,fS p.2 R c=false)∧Boxed W (w.heap.size+1+1) 3 (.int .i64 0))∧Boxed W w.heap.size 3 (.int .i64 R))∧Boxed W (w.heap.size+1) 9 (.string c))∧Below (w.heap.size+4) W0 W)
  (fun cd pre W=>((cd = .ret∧∃ wk last,pre=wk++[last]∧(∀ p∈wk,fS p.2 R c=false)∧fS last.2 R c=true∧Boxed W (w.heap.size+1+1) 3 (.int .i64 (last.1:Int))))∧Below w.heap.size w W)
  (OwnFrom.and (OwnFrom.and (OwnFrom.and (OwnFrom.and (ownFrom_pure _ _) (Own.from (boxed_own _ _ _) _)) (Own.from (boxed_own _ _ _) _)) (Own.from (boxed_own _ _ _) _)) (ownFrom_below (by omega) (by omega)))
  (fun cd=>OwnFrom.and (Own.from (fun s A B row hs hg hr=>by obtain ⟨hc,wk,last,e1,e2,e3,e4⟩:=hs;exact ⟨hc,wk,last,e1,e2,e3,boxed_own _ 3 (fun (_:Unit)=>Value.int .i64 (last.1:Int)) () A B row e4 hg hr⟩) _) (ownFrom_below (Nat.le_refl _) (by omega)))
  ⟨⟨⟨⟨by simp,bO⟩,bR⟩,bC⟩,Below.refl _ _⟩
  (fun x a' W=>∃ Bx,w.heap.size+4≤Bx∧Bk W Bx 45 #[.int .i64 x.2.kind,.int .i64 x.2.rank,.string x.2.car]∧a' = { tmps:=#[.slice a len cap,.int .i64 R,.string c,undef,.pointer (some ⟨w.heap.size,0,none⟩),.pointer (some ⟨w.heap.size+1,0,none⟩),.pointer (some ⟨w.heap.size+1+1,0,none⟩),.int .i64 (x.1:Int),.pointer (some ⟨Bx,0,none⟩),.slice a len cap,.func (.func 159) #[] #[.pointer (some ⟨w.heap.size+1+1+1,0,none⟩)],.int .i64 (x.1:Int),sgV x.2,undef,undef,undef,undef,undef,undef,undef,undef,undef,undef,undef],defers:=[] })
  (fun x a' _ X Y row hs hg hr=>by obtain ⟨Bx,e1,e2,e3⟩:=hs;exact ⟨Bx,e1,MW Bx _ _ e2 hg (fun r e=>(hr r e).2),e3⟩)
  ?assign ?body ?done ?stop
 case assign=>
  rintro l pre x W K ⟨⟨⟨⟨hp,b1⟩,b2⟩,b3⟩,oh⟩ hK;have hle:w.heap.size+4≤W.heap.size:=by have:=oh.size;omega
  unfold sgV;gi_wp2
  exact hK _ _ ((KeepsOthers.alloc _ _).from _) ((Below.refl _ W).alloc hle _) ⟨⟨⟨⟨hp,b1.alloc _⟩,b2.alloc _⟩,b3.alloc _⟩,oh.alloc hle _⟩ ⟨W.heap.size,hle,Bk.new W _ _,rfl⟩
 case body=>
  rintro l pre x a' W hl _ ⟨⟨⟨⟨hp,b1⟩,b2⟩,b3⟩,oh⟩ ⟨Bx,Sd,bX,rfl⟩ aw;have x0:W.cell? ⟨Bx,0,none⟩=some (.int .i64 x.2.kind):=bX.cell 0;have x1:W.cell? ⟨Bx,1,none⟩=some (.int .i64 x.2.rank):=bX.cell 1;have x2:W.cell? ⟨Bx,2,none⟩=some (.string x.2.car):=bX.cell 2;have c1:=b1.cell;have f1:=b1.frozen;have c2:=b2.cell;have c3:=b3.cell;have hW:Below w.heap.size w W:=zq.trans (oh.mono (by omega));have bw:¬(x.2.rank=R∧x.2.car=c)→∀ p∈pre++[x],fS p.2 R c=false:=fun hh p sg=>by
   rcases List.mem_append.1 sg with h|h
   ·exact hp p h
   ·simp at h;subst h;cases hs:fS p.2 R c
    ·rfl
    ·exact absurd (oa.1 hs) hh
  gi_wp2
  ·rename_i h1 h2;exact ⟨(KeepsOthers.setCell _ _ _).from _,⟨rfl,pre,x,rfl,hp,oa.2 ⟨h1,M4.1 h2⟩,b1.set _⟩,hW.setCell (p:=⟨w.heap.size+1+1,0,none⟩) (show w.heap.size≤w.heap.size+1+1 by omega) _⟩
  ·rename_i h1 h2;exact ⟨KeepsFrom.refl _ _,Below.refl _ _,⟨⟨⟨bw fun hh=>by rw [hh.2] at h2;simp at h2,b1⟩,b2⟩,b3⟩,oh⟩
  ·rename_i h1;exact ⟨KeepsFrom.refl _ _,Below.refl _ _,⟨⟨⟨bw fun hh=>h1 hh.1,b1⟩,b2⟩,b3⟩,oh⟩
 case done=>
  rintro D ys W hD rfl ⟨⟨⟨⟨hp,b1⟩,b2⟩,b3⟩,oh⟩ hK;have c1:=b1.cell;have f1:=b1.frozen;have hW:Below w.heap.size w W:=zq.trans (oh.mono (by omega));gi_wp2
  have Cz:=(KeepsOthers.setCell W ⟨w.heap.size+1+1,0,none⟩ (.int .i64 (-1))).same D _ hK rfl;refine ⟨by simp,.inl ⟨_,_,rfl,run_takeDeferred Cz,?_⟩⟩;have CA:=cell_kept (b1.set (.int .i64 (-1))).cell (grownBy_putObj' _ D (.deferred none)) (fun r e=>by cases e;exact ⟨_,Cz,rfl⟩);refine ⟨.int .i64 (-1),?_,.inl ⟨rfl,hp⟩,(hW.setCell (p:=⟨w.heap.size+1+1,0,none⟩) (show w.heap.size≤w.heap.size+1+1 by omega) _).trans (belowK_b (w:=w) (Nat.le_refl _) _ D _ _ (by omega) Cz rfl rfl)⟩;simp [results,Tryz.f92,go_sem,CA]
 case stop=>
  rintro D cd pre W hD ⟨k,hk,rfl⟩ ⟨⟨rfl,wk,last,e1,e2,e3,b1⟩,oh⟩ hK;gi_wp2
  refine ⟨by simp,.inl ⟨_,_,rfl,run_takeDeferred hK,?_⟩⟩;have CA:=cell_kept b1.cell (grownBy_putObj' _ D (.deferred none)) (fun r e=>by cases e;exact ⟨_,hK,rfl⟩);obtain ⟨k',rfl⟩ : ∃ k',k=k'+1:=by
   cases k with
   | zero=>simp [jZ] at e1
   | succ k'=>exact ⟨k',rfl⟩
  rw [GH] at e1;obtain ⟨rfl,e5⟩:=List.append_inj' e1 rfl;obtain rfl:bkF zs k'=last:=by simpa using e5
  refine ⟨.int .i64 ((bkF zs k').1:Int),?_,.inr ⟨k',by omega,rfl,e3,e2⟩,oh.trans (belowK_b (w:=w) (Nat.le_refl _) W D _ _ (by omega) hK rfl rfl)⟩;simp [results,Tryz.f92,go_sem,CA]
set_option maxHeartbeats 2000000
theorem M5 {w:World} {M:Nat→Nat→Prop} {l:List Sg} {v:Value} (h:V0 w M (.sl 3 (l.map Sg.av)) v) : SgsV w.heap.size w v l:=by
 generalize he:l.map Sg.av=es at h;cases h with
 | slNil _ A cap=>
  exact .inl ⟨A,cap,rfl,List.map_eq_nil_iff.1 he⟩
 | sl _ _ cap b o u aC hb hM dh aM h1 hc hv=>
  subst he;rw [List.length_map] at dh hc ⊢;refine .inr ⟨b,o,cap,rfl,hb,dh,fun j hj=>?_⟩;have hx:(l.map Sg.av)[j]? = some (Sg.av (aB l j)):=by rw [List.getElem?_map,List.getElem?_eq_getElem hj,GK hj];rfl
  have e0:=hv j _ 0 (I (aB l j).kind) hx rfl;have e1:=hv j _ 1 (I (aB l j).rank) hx rfl;have e2:=hv j _ 2 (S (aB l j).car) hx rfl;rw [←V0.lit_inv e0,←V0.lit_inv e1,←V0.lit_inv e2];exact ⟨hc j 0 hj (by decide),hc j 1 hj (by decide),hc j 2 hj (by decide)⟩
theorem M6 {L:List Sg} {R:Int} {c:ByteArray} {k:Nat} (h:∀ j,j < k→fS (aB L j) R c=false) : gJ L R c k = -1:=by
 rcases tF L R c k with ⟨h1,_⟩|⟨j,_,h2,h3,_⟩
 ·exact h1
 ·rw [h j h2] at h3;cases h3
theorem M7 {L:List Sg} {R:Int} {c:ByteArray} {k i:Nat} (hi:i < k) (hs:fS (aB L i) R c=true) (h:∀ j,i < j→j < k→fS (aB L j) R c=false) : gJ L R c k=i:=by
 rcases tF L R c k with ⟨_,h2⟩|⟨j,h1,h2,h3,h4⟩
 ·rw [h2 i hi] at hs;cases hs
 ·have:j=i:=by
   rcases Nat.lt_trichotomy i j with hh|hh|hh
   ·rw [h j hh h2] at h3;cases h3
   ·exact hh.symm
   ·rw [h4 i hh hi] at hs;cases hs
  rw [h1,this]
theorem M8 (l:List Sg) (R:Int) (c:ByteArray) (hl:l.length≤1000000) : VC Tryz.prog 92 [.sl 3 (l.map Sg.av),I R,S c] (I (gJ l R c l.length)):=by
 refine ⟨by kernel_rfl,fun w M vs hM iQ hv=>?_⟩;obtain ⟨v1,v2,v3,rfl⟩ : ∃ v1 v2 v3,vs=[v1,v2,v3]:=by
  rcases vs with _|⟨a,_|⟨b,_|⟨c,_|⟨_,_⟩⟩⟩⟩
  all_goals first|exact ⟨a,b,c,rfl⟩|(simp at iQ)
 have cD:=hv 0 _ _ rfl rfl;obtain rfl:=V0.lit_inv (hv 1 _ _ rfl rfl);obtain rfl:=V0.lit_inv (hv 2 _ _ rfl rfl);have hI:=M5 cD;obtain ⟨A,n,cap,rfl⟩:=cD.sl_form;have h:=(MX { fn:=fun _=>True } 3 trivial trivial trivial rfl (Nat.le_refl _) A n cap l R c hl w hI).calls (fun k d hd=>by cases hd);refine h.mono ?_;rintro e w' ⟨he,hb⟩;have eV:∀ (p:Nat×Sg) (k:Nat),p∈jZ (bkF l) k↔∃ j,j < k∧bkF l j=p:=fun p k=>by simp [jZ]
 rcases he with ⟨rfl,hn⟩|⟨k,hk,rfl,hs,hn⟩
 ·refine ⟨_,rfl,hb,?_⟩;rw [M6 fun j hj=>?_]
  ·exact .lit _
  ·have:=hn (bkF l (l.length - 1 - j)) ((eV _ _).2 ⟨l.length - 1 - j,by omega,rfl⟩);unfold bkF at this;rwa [show l.length - 1 - (l.length - 1 - j)=j by omega] at this
 ·refine ⟨_,rfl,hb,?_⟩;have e:gJ l R c l.length=((bkF l k).1:Int):=by
   refine M7 (by unfold bkF;simp only;omega) hs fun j h1 h2=>?_;unfold bkF at h1;simp only at h1;have:=hn (bkF l (l.length - 1 - j)) ((eV _ _).2 ⟨l.length - 1 - j,by omega,rfl⟩);unfold bkF at this;rwa [show l.length - 1 - (l.length - 1 - j)=j by omega] at this
  rw [e];exact .lit _
end Go.Proofs.YtoibondihdhnoaaGreatDoor
namespace Go.Proofs.YtoibondihdhnoaaGreatDoor
open Go.RowKit
set_option maxRecDepth 100000
set_option maxHeartbeats 2000000
theorem M9 {l:List Sg} {k j:Nat} (h:j < k) : aB (l.take k) j=aB l j:=by
 unfold aB;rw [List.getD_eq_getElem?_getD,List.getElem?_take_of_lt h,List.getD_eq_getElem?_getD]
theorem GL {L L':List Sg} {R:Int} {c:ByteArray} : ∀ {k:Nat},(∀ j,j < k→aB L j=aB L' j)→gJ L R c k=gJ L' R c k
 | 0,_=>rfl
 | k+1,h=>by rw [gJ,gJ,h k (by omega),GL fun j hj=>h j (by omega)]
theorem wm (l:List Sg) (k:Nat) (R:Int) (c:ByteArray) (hk:k≤l.length) (hl:l.length≤1000000) : VC Tryz.prog 92 [.sl 3 ((l.map Sg.av).take k),I R,S c] (I (gJ l R c k)):=by
 have h:=M8 (l.take k) R c (by rw [List.length_take];omega);rw [List.length_take,Nat.min_eq_left hk,List.map_take,GL fun j hj=>M9 hj] at h;exact h
def iat (l:List Int) (k:Nat) : Int:=l.getD k 0
theorem GM {l:List Int} {k:Nat} (h:k < l.length) : iat l k=l[k]:=by simp [iat,h]
theorem M_ (l:List Int) (x:Int) (hl:l.length≤1000000) : VC Tryz.prog 140 [.sl 1 (l.map dk),I x] (I (ixP (fun j=>decide (iat l j=x)) 0 l.length)):=by
 obtain ⟨R,hR⟩ : ∃ R,ixP (fun j=>decide (iat l j=x)) 0 l.length=R:=⟨_,rfl⟩
 rw [hR];have HR:=Lib.hid hR;clear hR;refine aK Tryz.func140 rfl (by kernel_rfl) rfl fun M0 w0=>?_;simp only [Tryz.ntmps140,Tryz.results140,az];repeat' with_reducible first|apply af|apply ae|apply ar|apply aa|refine ah [] ?_|(apply ab;intro Z U;go_simp;apply U;clear U Z)
 apply ch [0,1,7] (fun k=>[(8,I k)]) (fun k=>([] : Hp)) (fun j=>decide (iat l j=x)) (l.length)
 ·go_simp<;>exact rfl
 ·go_simp
 ·intro k hk HB HP K hK;obtain ⟨w1,w2,w3,w4,w5,w6⟩:=ixs (m:=k) (by omega);have hp:¬x=l[k]:=fun h=>by
   have:=HP.out;simp only [GM hk,h] at this;simp at this
  repeat' with_reducible first|apply af|apply ae|apply aj|apply ar|apply aT|apply aa|refine ah [] ?_|(apply ao;·go_simp)|(apply ak;·go_simp)|(apply ab;intro Z U;go_simp;apply U;clear U Z)
  refine hK _ ?_;go_simp
 ·intro k hk HB HP K;have hp:x=l[k]:=by
   have:=HP.out;rw [GM hk] at this;exact (of_decide_eq_true this).symm
  have e:=HR.out;rw [gU hk HB.out HP.out] at e;subst e;repeat' with_reducible first|apply af|apply ae|apply aF|apply aq|apply aj|apply ar|apply b_|apply aa|refine ah [] ?_|(apply ao;·go_simp)|(apply ab;intro Z U;go_simp;apply U;clear U Z)
  go_simp
 ·intro HB K;have e:=HR.out;rw [jb HB.out] at e;subst e;repeat (with_reducible first|apply af|apply ae|apply aW|apply aq|apply aX|apply aY|apply aa|refine ah [] ?_|(apply ak;·go_simp)|(apply ab;intro Z U;go_simp;apply U;clear U Z))
  go_simp
theorem Na (l:List Int) (x:Int) (hl:l.length≤1000000) : VC Tryz.prog 87 [.sl 1 (l.map dk),I x] (B (cQ (fun j=>decide (iat l j=x)) 0 l.length)):=by
 have g:=M_ l x hl;rw [←y7];generalize ixP (fun j=>decide (iat l j=x)) 0 l.length=R at *;refine aK Tryz.func87 rfl (by kernel_rfl) rfl fun M0 w0=>?_;simp only [Tryz.ntmps87,Tryz.results87,az];repeat' with_reducible first|apply af|apply ae|apply aq|apply aa|refine ah [] ?_|(apply ab;intro Z U;go_simp;(first|(refine ⟨_,g,?_⟩)|skip);apply U;clear U Z)
 go_simp
theorem Nb (x:Int) : cQ (fun j=>decide (iat [0,1,2,3] j=x)) 0 4=inR x 0 3:=by
 by_cases h:0≤x∧x≤3
 ·rw [jt.2 h];have hx:x=((x.toNat:Nat) : Int):=by omega
  refine ig (k:=x.toNat) (by omega) ?_;have:x=0∨x=1∨x=2∨x=3:=by omega
  rcases this with rfl|rfl|rfl|rfl<;>rfl
 ·have hf:inR x 0 3=false:=by
   cases hh:inR x 0 3
   ·rfl
   ·exact absurd (jt.1 hh) h
  rw [hf];refine gI fun j hj=>decide_eq_false fun he=>h ?_;have:j=0∨j=1∨j=2∨j=3:=by omega
  rcases this with rfl|rfl|rfl|rfl<;>simp [iat] at he<;>omega
theorem GN (x:Int) : VC Tryz.prog 87 [.sl 1 [[I 0],[I 1],[I 2],[I 3]],I x] (B (inR x 0 3)):=by
 have:=Na [0,1,2,3] x (by decide);rwa [show ([0,1,2,3] : List Int).length=4 from rfl,Nb] at this
def sgE (l:List Sg) (k:Nat) : Int:=fst [unl (inR (aB l k).kind 0 3) 15,unl (inR (aB l k).rank 0 5) 2,unl (bP (aB l k).car) 4]
def ni (l:List Sg) : Int:=if 200 < l.length then 8 else (jU (sgE l) 0 l.length).2
def ovE (l:List Sg) : Int:=if ni l≠0 then ni l else if ij l < 0 then 12 else 0
def ovT (l:List Sg) : AV:=if ovE l≠0 then .agg [I 0,I 0,I 0] else .agg [I (kz l (ij l).toNat),I (jOf l (ij l).toNat),I (ij l)]
theorem GO (l:List Sg) (hl:l.length≤1000000) (hc:∀ k,k < l.length→(aB l k).car.size≤1000) : VC Tryz.prog 27 [qK l] (.tup [ovT l,I (ovE l)]):=by
 obtain ⟨E,hE⟩ : ∃ E,ovE l=E:=⟨_,rfl⟩
 obtain ⟨T,hT⟩ : ∃ T,ovT l=T:=⟨_,rfl⟩
 rw [hE,hT];by_cases h2:200 < l.length
 ·have e1:ovE l=8:=by unfold ovE ni;rw [if_pos h2,if_pos (by decide)]
  have e2:ovT l = .agg [I 0,I 0,I 0]:=by unfold ovT;rw [e1,if_pos (by decide)]
  rw [e1] at hE;rw [e2] at hT;subst hE hT;have h3:(200:Int) < (l.length:Int):=by omega
  clear hc e1 e2;refine aK Tryz.func27 rfl (by kernel_rfl) rfl fun M0 w0=>?_;simp only [Tryz.ntmps27,Tryz.results27,az];repeat' with_reducible first|apply af|apply ae|apply aF|apply aq|apply aa|refine ah [] ?_|(apply ao;·go_simp)|(apply ab;intro Z U;go_simp;apply U;clear U Z)
  go_simp
 have HE:=Lib.hid hE;have HT:=Lib.hid hT;have HC:=Lib.hid hc;have h3:¬(200:Int) < (l.length:Int):=by omega
 clear hE hT hc;refine aK Tryz.func27 rfl (by kernel_rfl) rfl fun M0 w0=>?_;simp only [Tryz.ntmps27,Tryz.results27,az];repeat' with_reducible first|apply af|apply ae|apply aj|apply ar|apply aa|refine ah [] ?_|(apply ak;·go_simp)|(apply ab;intro Z U;go_simp;apply U;clear U Z)
 apply ch [0,2,17,18] (fun k=>[(19,I k)]) (fun k=>([some (.box [I 0,I 0,I 0])] : Hp)) (fun k=>!decide (sgE l k=0)) (l.length)
 ·go_simp<;>exact rfl
 ·go_simp
 ·intro k hk HB HP K hK;obtain ⟨w1,w2,w3,w4,w5,w6⟩:=ixs (m:=k) (by omega);have i1:=GN (aB l k).kind;have i2:=jT (aB l k).rank 0 5;have i3:=rL (aB l k).car (HC.out k hk);have u1:=br (inR (aB l k).kind 0 3) 15;have u2:=br (inR (aB l k).rank 0 5) 2;have u3:=br (bP (aB l k).car) 4;have g3:VC Tryz.prog 88 [.sl 1 ([unl (inR (aB l k).kind 0 3) 15,unl (inR (aB l k).rank 0 5) 2,unl (bP (aB l k).car) 4].map dk)] (I (sgE l k)):=dW _ rfl rfl;have he:sgE l k=0:=by simpa using HP.out
  rw [he] at g3;clear he;generalize inR (aB l k).kind 0 3=D1 at *;generalize inR (aB l k).rank 0 5=D2 at *;generalize bP (aB l k).car=D3 at *;generalize unl D1 15=A1 at *;generalize unl D2 2=A2 at *;generalize unl D3 4=A3 at *;repeat' first|(with_reducible first|apply af|apply ae|apply aj|apply ar|apply aT|apply aa|refine ah [] ?_|apply aI|(apply ao;·go_simp)|(apply ak;·go_simp))|((with_reducible first|apply ab|apply aJ);intro Z U;go_simp;(first|(refine ⟨_,i1,?_⟩)|(with_reducible refine ⟨_,i2,?_⟩)|(with_reducible refine ⟨_,i3,?_⟩)|(with_reducible refine ⟨_,u1,?_⟩)|(with_reducible refine ⟨_,u2,?_⟩)|(with_reducible refine ⟨_,u3,?_⟩)|(refine ⟨_,g3,?_⟩)|skip);apply U;clear U Z)|((refine aQ 13 13 [] rfl (by kernel_rfl) ?_);simp only [aA])
  refine hK _ ?_;go_simp
 ·intro k hk HB HP K;have i1:=GN (aB l k).kind;have i2:=jT (aB l k).rank 0 5;have i3:=rL (aB l k).car (HC.out k hk);have u1:=br (inR (aB l k).kind 0 3) 15;have u2:=br (inR (aB l k).rank 0 5) 2;have u3:=br (bP (aB l k).car) 4;have g3:VC Tryz.prog 88 [.sl 1 ([unl (inR (aB l k).kind 0 3) 15,unl (inR (aB l k).rank 0 5) 2,unl (bP (aB l k).car) 4].map dk)] (I (sgE l k)):=dW _ rfl rfl;have aC:sgE l k≠0:=by simpa using HP.out
  have e1:ovE l=sgE l k:=by
   unfold ovE ni;rw [if_neg h2,y9 hk HB.out HP.out,if_pos aC]
  have e2:ovT l = .agg [I 0,I 0,I 0]:=by unfold ovT;rw [e1,if_pos aC]
  have hE:=HE.out;have hT:=HT.out;rw [e1] at hE;rw [e2] at hT;subst hE hT;clear e1 e2 HE HT;generalize sgE l k=E at *;generalize inR (aB l k).kind 0 3=D1 at *;generalize inR (aB l k).rank 0 5=D2 at *;generalize bP (aB l k).car=D3 at *;generalize unl D1 15=A1 at *;generalize unl D2 2=A2 at *;generalize unl D3 4=A3 at *;repeat' first|(with_reducible first|apply af|apply ae|apply aF|apply aq|apply aj|apply ar|apply b_|apply aa|refine ah [] ?_|apply aI|(apply ao;·go_simp))|((with_reducible first|apply ab|apply aJ);intro Z U;go_simp;(first|(refine ⟨_,i1,?_⟩)|(with_reducible refine ⟨_,i2,?_⟩)|(with_reducible refine ⟨_,i3,?_⟩)|(with_reducible refine ⟨_,u1,?_⟩)|(with_reducible refine ⟨_,u2,?_⟩)|(with_reducible refine ⟨_,u3,?_⟩)|(refine ⟨_,g3,?_⟩)|skip);apply U;clear U Z)|((refine aQ 13 13 [] rfl (by kernel_rfl) ?_);simp only [aA])
  go_simp
 intro Nc K;have hS:ni l=0:=by
  unfold ni;rw [if_neg h2,vF l.length 0 (fun j hj=>Nc.out j (by omega))]
 have HS:=Lib.hid hS;clear hS;repeat' with_reducible first|apply af|apply ae|apply aW|apply aX|apply ar|apply aY|apply aa|refine ah [] ?_|(apply ak;·go_simp)|(apply ab;intro Z U;go_simp;apply U;clear U Z)
 apply ch [0,2,44,45] (fun k=>[(46,I k)]) (fun k=>([some (.box [I 0,I 0,I 0])] : Hp)) (za l) (l.length)
 ·go_simp<;>exact rfl
 ·go_simp
 ·intro k hk HB HP K hK;obtain ⟨w1,w2,w3,w4,w5,w6⟩:=ixs (m:=k) (by omega);have cp:k≤l.length:=by omega
  have nR:(k:Int)≤(l.length:Int):=by omega
  have gl:VC Tryz.prog 92 [.sl 3 ((l.map Sg.av).take k),I (aB l k).rank,S (aB l k).car] (I (jOf l k)):=wm l k _ _ cp hl;have hp:¬0≤kz l k:=of_decide_eq_false HP.out;by_cases iF:(aB l k).kind=1
  ·by_cases hg:kg l k=true
   ·obtain ⟨j,ej,hj⟩:=vI (show 0≤jOf l k by unfold kg at hg;simp only [Bool.and_eq_true,decide_eq_true_eq] at hg;exact hg.1);have kv:(aB l j).kind=0:=by
     unfold kg at hg;rw [ej,Int.toNat_natCast] at hg;simp only [Bool.and_eq_true,decide_eq_true_eq] at hg;exact hg.2
    have hf:kz l k=ixP (okI l k) 0 j:=by unfold kz;rw [if_pos ⟨iF,hg⟩,ej,Int.toNat_natCast]
    rw [hf] at hp;rw [ej] at gl;have sh:=Lib.hid hp;clear hp hf hg ej;have bK:j < l.length:=by omega
    have kK:j≤l.length:=by omega
    have BA:(j:Int)≤(l.length:Int):=by omega
    have iK:min j l.length=j:=by omega
    obtain ⟨y,hy⟩ : ∃ y,aB l k=y:=⟨_,rfl⟩
    rw [hy] at iF gl;obtain ⟨k0,qL⟩ : ∃ k0,k0=k:=⟨_,rfl⟩
    have HK:=Lib.hid qL;clear qL;repeat' first|(with_reducible first|apply af|apply ae|apply aj|apply ar|apply aa|refine ah [] ?_|apply aI|(apply ao;·go_simp)|(apply ak;·go_simp)|((first|apply ab|apply aJ);intro Z U;go_simp;(first|(refine ⟨_,gl,?_⟩)|skip);apply U;clear U Z))|((refine aQ 9 9 [] rfl (by kernel_rfl) ?_);simp only [aA])
    apply ch [0,2,8,9,10,44,45,46,74,75] (fun k=>[(76,I k)]) (fun k=>([some (.box [I 0,I 0,I 0]),some (.box [I 1,I y.rank,S y.car])] : Hp)) (okI l k0) (j)
    ·go_simp<;>exact rfl
    ·go_simp
    ·intro i hi cb cx K2 cB;have eb:i < k:=by omega
     have cK:i < l.length:=by omega
     obtain ⟨x1,x2,x3,x4,x5,x6⟩:=ixs (m:=i) (by omega);have gi:VC Tryz.prog 92 [.sl 3 ((l.map Sg.av).take k),I (aB l i).rank,S (aB l i).car] (I (gJ l (aB l i).rank (aB l i).car k)):=wm l k _ _ cp hl;have ho:=cx.out;rw [HK.out] at ho;unfold okI at ho;rw [hy] at ho;by_cases q1:(aB l i).kind=0
     ·by_cases q2:(aB l i).rank=y.rank
      ·by_cases q3:(aB l i).car=y.car
       ·clear ho;repeat' first|(with_reducible first|apply af|apply ae|apply aj|apply ar|apply aT|apply aa|refine ah [] ?_|apply aI|(apply ao;·go_simp)|(apply ak;·go_simp)|((first|apply ab|apply aJ);intro Z U;go_simp;apply U;clear U Z))|((refine aQ 29 29 [] rfl (by kernel_rfl) ?_);simp only [aA])
        refine cB _ ?_;go_simp
       ·have q4:¬gJ l (aB l i).rank (aB l i).car k=i:=by
         rw [decide_eq_true q1,decide_eq_true q2,decide_eq_false q3] at ho;simpa using ho
        generalize gJ l (aB l i).rank (aB l i).car k=Q at *;clear ho;rw [q2] at gi;repeat' first|(with_reducible first|apply af|apply ae|apply aj|apply ar|apply aT|apply aa|refine ah [] ?_|apply aI|(apply ao;·go_simp)|(apply ak;·go_simp)|((first|apply ab|apply aJ);intro Z U;go_simp;(first|(refine ⟨_,gi,?_⟩)|skip);apply U;clear U Z))|((refine aQ 29 29 [] rfl (by kernel_rfl) ?_);simp only [aA])
        refine cB _ ?_;go_simp
      ·clear ho;repeat' first|(with_reducible first|apply af|apply ae|apply aj|apply ar|apply aT|apply aa|refine ah [] ?_|apply aI|(apply ao;·go_simp)|(apply ak;·go_simp)|((first|apply ab|apply aJ);intro Z U;go_simp;apply U;clear U Z))|((refine aQ 29 29 [] rfl (by kernel_rfl) ?_);simp only [aA])
       refine cB _ ?_;go_simp
     ·clear ho;repeat' first|(with_reducible first|apply af|apply ae|apply aj|apply ar|apply aT|apply aa|refine ah [] ?_|apply aI|(apply ao;·go_simp)|(apply ak;·go_simp)|((first|apply ab|apply aJ);intro Z U;go_simp;apply U;clear U Z))|((refine aQ 29 29 [] rfl (by kernel_rfl) ?_);simp only [aA])
      refine cB _ ?_;go_simp
    ·intro i hi cb cx K2;have:=gU hi cb.out cx.out;have h5:=sh.out;rw [←HK.out,this] at h5;exact absurd (by omega) h5
    ·intro cb K2;repeat' with_reducible first|apply af|apply ae|apply aW|apply aX|apply aT|apply aY|apply aa|refine ah [] ?_|(apply ak;·go_simp)|(apply ab;intro Z U;go_simp;apply U;clear U Z)
     refine hK _ ?_;go_simp
   ·have GP:jOf l k < 0∨∃ j:Nat,jOf l k=j∧j < k∧¬(aB l j).kind=0:=by
     by_cases h0:0≤jOf l k
     ·obtain ⟨j,ej,hj⟩:=vI h0;refine .inr ⟨j,ej,hj,fun hh=>hg ?_⟩;unfold kg;rw [ej,Int.toNat_natCast,hh];simp
     ·exact .inl (by omega)
    rcases GP with GP|⟨j,ej,hj,kv⟩
    ·generalize jOf l k=J at *;clear hp hg;repeat' first|(with_reducible first|apply af|apply ae|apply aW|apply aj|apply aX|apply ar|apply aY|apply aa|refine ah [] ?_|apply aI|(apply ao;·go_simp)|(apply ak;·go_simp)|((first|apply ab|apply aJ);intro Z U;go_simp;(first|(refine ⟨_,gl,?_⟩)|skip);apply U;clear U Z))|((refine aQ 9 9 [] rfl (by kernel_rfl) ?_);simp only [aA])
     refine hK _ ?_;go_simp
    ·rw [ej] at gl;have bK:j < l.length:=by omega
     clear hp hg ej;repeat' first|(with_reducible first|apply af|apply ae|apply aW|apply aj|apply aX|apply ar|apply aY|apply aa|refine ah [] ?_|apply aI|(apply ao;·go_simp)|(apply ak;·go_simp)|((first|apply ab|apply aJ);intro Z U;go_simp;(first|(refine ⟨_,gl,?_⟩)|skip);apply U;clear U Z))|((refine aQ 9 9 [] rfl (by kernel_rfl) ?_);simp only [aA])
     refine hK _ ?_;go_simp
  ·clear hp gl;repeat' with_reducible first|apply af|apply ae|apply aW|apply aj|apply aX|apply ar|apply aY|apply aa|refine ah [] ?_|(apply ao;·go_simp)|(apply ab;intro Z U;go_simp;apply U;clear U Z)
   refine hK _ ?_;go_simp
 ·intro k hk HB HP K;obtain ⟨w1,w2,w3,w4,w5,w6⟩:=ixs (m:=k) (by omega);have cp:k≤l.length:=by omega
  have nR:(k:Int)≤(l.length:Int):=by omega
  have gl:VC Tryz.prog 92 [.sl 3 ((l.map Sg.av).take k),I (aB l k).rank,S (aB l k).car] (I (jOf l k)):=wm l k _ _ cp hl;have hp:0≤kz l k:=of_decide_eq_true HP.out;have dX:(aB l k).kind=1∧kg l k=true:=Classical.byContradiction fun hh=>by
   unfold kz at hp;rw [if_neg hh] at hp;omega
  obtain ⟨iF,hg⟩:=dX;obtain ⟨j,ej,hj⟩:=vI (show 0≤jOf l k by unfold kg at hg;simp only [Bool.and_eq_true,decide_eq_true_eq] at hg;exact hg.1);have kv:(aB l j).kind=0:=by
   unfold kg at hg;rw [ej,Int.toNat_natCast] at hg;simp only [Bool.and_eq_true,decide_eq_true_eq] at hg;exact hg.2
  have hf:kz l k=ixP (okI l k) 0 j:=by unfold kz;rw [if_pos ⟨iF,hg⟩,ej,Int.toNat_natCast]
  have eO:ij l=(k:Int):=gU hk HB.out HP.out;have e1:ovE l=0:=by unfold ovE;rw [HS.out,if_neg (by simp),eO,if_neg (by omega)]
  have e2:ovT l = .agg [I (kz l k),I (jOf l k),I (k:Int)]:=by unfold ovT;rw [e1,if_neg (by simp),eO,Int.toNat_natCast]
  have hE:=HE.out;have hT:=HT.out;rw [e1] at hE;rw [e2,ej,hf] at hT;rw [hf] at hp;rw [ej] at gl;have sh:=Lib.hid hp;have zu:=Lib.hid hT;subst hE;clear hp hf hg ej e1 e2 eO hT HE HT;have bK:j < l.length:=by omega
  have kK:j≤l.length:=by omega
  have BA:(j:Int)≤(l.length:Int):=by omega
  have iK:min j l.length=j:=by omega
  obtain ⟨y,hy⟩ : ∃ y,aB l k=y:=⟨_,rfl⟩
  rw [hy] at iF gl;obtain ⟨k0,qL⟩ : ∃ k0,k0=k:=⟨_,rfl⟩
  have HK:=Lib.hid qL;clear qL;repeat' first|(with_reducible first|apply af|apply ae|apply aj|apply ar|apply aa|refine ah [] ?_|apply aI|(apply ao;·go_simp)|(apply ak;·go_simp)|((first|apply ab|apply aJ);intro Z U;go_simp;(first|(refine ⟨_,gl,?_⟩)|skip);apply U;clear U Z))|((refine aQ 9 9 [] rfl (by kernel_rfl) ?_);simp only [aA])
  apply ch [0,2,8,9,10,44,45,46,74,75] (fun k=>[(76,I k)]) (fun k=>([some (.box [I 0,I 0,I 0]),some (.box [I 1,I y.rank,S y.car])] : Hp)) (okI l k0) (j)
  ·go_simp<;>exact rfl
  ·go_simp
  ·intro i hi cb cx K2 cB;have eb:i < k:=by omega
   have cK:i < l.length:=by omega
   obtain ⟨x1,x2,x3,x4,x5,x6⟩:=ixs (m:=i) (by omega);have gi:VC Tryz.prog 92 [.sl 3 ((l.map Sg.av).take k),I (aB l i).rank,S (aB l i).car] (I (gJ l (aB l i).rank (aB l i).car k)):=wm l k _ _ cp hl;have ho:=cx.out;rw [HK.out] at ho;unfold okI at ho;rw [hy] at ho;by_cases q1:(aB l i).kind=0
   ·by_cases q2:(aB l i).rank=y.rank
    ·by_cases q3:(aB l i).car=y.car
     ·clear ho;repeat' first|(with_reducible first|apply af|apply ae|apply aj|apply ar|apply aT|apply aa|refine ah [] ?_|apply aI|(apply ao;·go_simp)|(apply ak;·go_simp)|((first|apply ab|apply aJ);intro Z U;go_simp;apply U;clear U Z))|((refine aQ 29 29 [] rfl (by kernel_rfl) ?_);simp only [aA])
      refine cB _ ?_;go_simp
     ·have q4:¬gJ l (aB l i).rank (aB l i).car k=i:=by
       rw [decide_eq_true q1,decide_eq_true q2,decide_eq_false q3] at ho;simpa using ho
      generalize gJ l (aB l i).rank (aB l i).car k=Q at *;clear ho;rw [q2] at gi;repeat' first|(with_reducible first|apply af|apply ae|apply aj|apply ar|apply aT|apply aa|refine ah [] ?_|apply aI|(apply ao;·go_simp)|(apply ak;·go_simp)|((first|apply ab|apply aJ);intro Z U;go_simp;(first|(refine ⟨_,gi,?_⟩)|skip);apply U;clear U Z))|((refine aQ 29 29 [] rfl (by kernel_rfl) ?_);simp only [aA])
      refine cB _ ?_;go_simp
    ·clear ho;repeat' first|(with_reducible first|apply af|apply ae|apply aj|apply ar|apply aT|apply aa|refine ah [] ?_|apply aI|(apply ao;·go_simp)|(apply ak;·go_simp)|((first|apply ab|apply aJ);intro Z U;go_simp;apply U;clear U Z))|((refine aQ 29 29 [] rfl (by kernel_rfl) ?_);simp only [aA])
     refine cB _ ?_;go_simp
   ·clear ho;repeat' first|(with_reducible first|apply af|apply ae|apply aj|apply ar|apply aT|apply aa|refine ah [] ?_|apply aI|(apply ao;·go_simp)|(apply ak;·go_simp)|((first|apply ab|apply aJ);intro Z U;go_simp;apply U;clear U Z))|((refine aQ 29 29 [] rfl (by kernel_rfl) ?_);simp only [aA])
    refine cB _ ?_;go_simp
  ·intro i hi cb cx K2;have eb:i < k:=by omega
   have cK:i < l.length:=by omega
   obtain ⟨x1,x2,x3,x4,x5,x6⟩:=ixs (m:=i) (by omega);have gi:VC Tryz.prog 92 [.sl 3 ((l.map Sg.av).take k),I (aB l i).rank,S (aB l i).car] (I (gJ l (aB l i).rank (aB l i).car k)):=wm l k _ _ cp hl;have ho:=cx.out;rw [HK.out] at ho;unfold okI at ho;rw [hy] at ho;simp only [Bool.and_eq_true,decide_eq_true_eq,Bool.not_eq_true',decide_eq_false_iff_not] at ho;obtain ⟨⟨⟨q1,q2⟩,q3⟩,q4⟩:=ho;rw [q4,q2] at gi;have hT:=zu.out;rw [←HK.out,gU hi cb.out cx.out,HK.out] at hT;subst hT;clear q4;repeat' first|(with_reducible first|apply af|apply ae|apply aF|apply aq|apply aj|apply ar|apply b_|apply aa|refine ah [] ?_|apply aI|(apply ao;·go_simp)|((first|apply ab|apply aJ);intro Z U;go_simp;(first|(refine ⟨_,gi,?_⟩)|skip);apply U;clear U Z))|((refine aQ 29 29 [] rfl (by kernel_rfl) ?_);simp only [aA])
   go_simp
  ·intro cb K2;have h5:=sh.out;rw [←HK.out,jb cb.out] at h5;exact absurd h5 (by decide)
 ·intro HB K;have e0:ij l = -1:=jb HB.out;have e1:ovE l=12:=by unfold ovE;rw [HS.out,if_neg (by simp),e0,if_pos (by decide)]
  have e2:ovT l = .agg [I 0,I 0,I 0]:=by unfold ovT;rw [e1,if_pos (by decide)]
  have hE:=HE.out;have hT:=HT.out;rw [e1] at hE;rw [e2] at hT;subst hE hT;clear e1 e2 e0 HE HT;repeat' with_reducible first|apply af|apply ae|apply aW|apply aq|apply aX|apply aY|apply aa|refine ah [] ?_|(apply ak;·go_simp)|(apply ab;intro Z U;go_simp;apply U;clear U Z)
  go_simp
end Go.Proofs.YtoibondihdhnoaaGreatDoor
