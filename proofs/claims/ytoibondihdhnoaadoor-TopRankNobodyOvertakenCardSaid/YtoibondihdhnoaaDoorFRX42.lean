/- Texts in one: The last sighting of a car: a loop over slices.Backward, at the world's level. -/
import Derived.Test.YtoibondihdhnoaaDoorFRX41
import Derived.Test.YtoibondihdhnoaaDoorFRX34
import Derived.RangeFuncNested
import Derived.RangeFuncBox
import Derived.RangeFuncLeaves
import Derived.Shelf.Abstract
import Derived.OwnWalkIn
import Derived.TacticsInMore
import Derived.LoopNIn
import Derived.LoopIn
namespace Go.Proofs.YtoibondihdhnoaaDoor
open Go.RowKit Go.Shelf
attribute [local go_sem] Oper.semAt_some
set_option maxRecDepth 100000
set_option maxHeartbeats 4000000
def z5_ {α:Type} (f:Nat→α) (k:Nat) : List α:=(List.range k).map f
theorem a6z {α:Type} (f:Nat→α) (k:Nat) : z5_ f (k+1)=z5_ f k++[f k]:=by simp [z5_,List.range_succ]
theorem c0e {α:Type} (f:Nat→α) (k:Nat) : (z5_ f k).length=k:=by simp [z5_]
def sgV (x:Sg) : Value:=.agg #[.int .i64 x.kind,.int .i64 x.rank,.string x.car]
def bkF (zs:List Sg) (k:Nat) : Nat×Sg:=(zs.length - 1 - k,f1_ zs (zs.length - 1 - k))
def SgC (W:World) (b off:Nat) (zs:List Sg) : Prop:=∀ j,j < zs.length→W.cell? ⟨b,off+j*3,none⟩=some (.int .i64 (f1_ zs j).kind)∧W.cell? ⟨b,off+j*3+1,none⟩=some (.int .i64 (f1_ zs j).rank)∧W.cell? ⟨b,off+j*3+2,none⟩=some (.string (f1_ zs j).car)
theorem c4i (F:Fence) (n:Nat) (hf:F.fn 70) (hro:F.round=none) (hn:1≤n) (l Bs n₀ b off cap:Nat) (zs:List Sg) (hreach:zs.length≤1000000) (_hcap:zs.length≤cap) (hb:b < n₀) (J Jx:List (Nat×Sg)→World→Prop)
  (hY:∀ pre x W,J pre W→pre.length < zs.length→YieldAt F (n - 1) Tryd.prog l #[.int .i64 (x.1:Int),sgV x.2] W fun e W'=>
   (e = .returned (.bool true)∧J (pre++[x]) W'∧Below n₀ W W')∨(e = .returned (.bool false)∧Jx (pre++[x]) W'))
  (W:World) (hBs:W.cell? ⟨Bs,0,none⟩=some (.slice (some ⟨b,off,none⟩) zs.length cap)) (hBn:Bs < n₀) (hc:SgC W b off zs) (h0:J [] W) :
  CallsIn F n Tryd.prog 70 #[.func (.yield l) #[] #[],.pointer (some ⟨Bs,0,none⟩)] W fun e W'=>(∃ v,e = .returned v) ∧
   ((∃ ys,ys=z5_ (bkF zs) zs.length∧J ys W')∨(∃ pre,(∃ k,k≤zs.length∧pre=z5_ (bkF zs) k)∧Jx pre W')):=by
 have t40:=Tryd.underlying61;have a40:=Tryd.isAgg61;have z40:=Tryd.sizeOf61;have t45:=Tryd.underlying60;have a45:=Tryd.isAgg60;have z45:=Tryd.sizeOf60;refine callsIn_of_wp Tryd.func70 rfl hf ?_ hro;simp only [Tryd.ntmps70,List.size_toArray,List.length_cons,List.length_nil,Nat.reduceAdd,Nat.reduceSub,Array.replicate_succ,Array.replicate_zero,List.push_toArray,List.append_toArray,List.nil_append,List.cons_append];have hw1:IntKind.i64.wrap ((zs.length:Int) - 1)=(zs.length:Int) - 1:=h3_ (by omega) (by omega);gi_wp2
 gi_loopw [3] (fun i wr=>∃ m:Nat,m≤zs.length∧i = .int .i64 ((m:Int) - 1)∧J (z5_ (bkF zs) (zs.length - m)) wr∧Below n₀ W wr)
  (fun i _=>(intOf i+1).toNat)
 case atStart=>
  refine ⟨zs.length,Nat.le_refl _,?_,?_,Below.refl _ _⟩
  ·first|rfl|simp [hw1]|skip
  ·rw [Nat.sub_self];exact h0
 case round=>
  obtain ⟨m,hm,rfl,hJs,hnx⟩:=hrel;have hBs':wr.cell? ⟨Bs,0,none⟩=some (.slice (some ⟨b,off,none⟩) zs.length cap):=(hnx.cell (p:=⟨Bs,0,none⟩) hBn).trans hBs;cases m with
  | zero=>
   gi_wp2
   go_end0
   exact ⟨⟨_,rfl⟩,.inl ⟨_,rfl,hJs⟩⟩
  | succ q=>
   have hq:q < zs.length:=by omega
   have e1:((q+1:Nat) : Int) - 1=(q:Int):=by omega
   rw [e1];obtain ⟨c0,c1,c2⟩:=hc q hq;have d0:=(hnx.cell (p:=⟨b,off+q*3,none⟩) hb).trans c0;have d1:=(hnx.cell (p:=⟨b,off+q*3+1,none⟩) hb).trans c1;have d2:=(hnx.cell (p:=⟨b,off+q*3+2,none⟩) hb).trans c2;have hw2:IntKind.i64.wrap ((q:Int) - 1)=(q:Int) - 1:=h3_ (by omega) (by omega);have eF:bkF zs (zs.length - (q+1))=(q,f1_ zs q):=by
    unfold bkF;rw [show zs.length - 1 - (zs.length - (q+1))=q by omega]
   obtain ⟨fn,tmps,assign,body,hy,hR⟩:=hY _ (q,f1_ zs q) wr hJs (by rw [c0e];omega);unfold sgV at hy;dsimp only at hy;have eU:z5_ (bkF zs) (zs.length - q)=z5_ (bkF zs) (zs.length - (q+1))++[(q,f1_ zs q)]:=by
    rw [show zs.length - q=(zs.length - (q+1))+1 by omega,a6z,eF]
   gi_wp2
   refine hR.mono ?_;rintro e W3 (⟨rfl,hJ3,hk3⟩|⟨rfl,hJx3⟩)
   ·gi_wp2
    go_roundw
    case rel=>
     refine ⟨q,by omega,?_,by rw [eU];exact hJ3,hnx.trans hk3⟩;first|rfl|simp [hw2]
    case measure=>simp [intOf]
   ·gi_wp2
    refine bodyPost_ret (results_none rfl _ _ _) rfl ?_;exact ⟨⟨_,rfl⟩,.inr ⟨_,⟨zs.length - q,by omega,eU.symm⟩,hJx3⟩⟩
theorem c7z (F:Fence) (n:Nat) (hf:F.fn 58) (hro:F.round=none) (a:Option Addr) (len cap:Nat) (w:World) :
  CallsIn F n Tryd.prog 58 #[.slice a len cap] w fun e w'=>e = .returned (.func (.func 70) #[] #[.pointer (some ⟨w.heap.size,0,none⟩)])∧w'=w.alloc (.cells #[.slice a len cap] 61):=by
 refine callsIn_of_wp Tryd.func58 rfl hf ?_ hro;simp only [Tryd.ntmps58,List.size_toArray,List.length_cons,List.length_nil,Nat.reduceAdd,Nat.reduceSub,Array.replicate_succ,Array.replicate_zero,List.push_toArray,List.append_toArray,List.nil_append,List.cons_append];gi_wp2
 go_ret
 exact ⟨rfl,rfl⟩
theorem c0f (F:Fence) (n:Nat) (hf:F.fn 70) (hro:F.round=none) (l Bs:Nat) (A:Option Addr) (cap:Nat) (J:List (Nat×Sg)→World→Prop) (W:World) (hBs:W.cell? ⟨Bs,0,none⟩=some (.slice A 0 cap)) (h0:J [] W) :
  CallsIn F n Tryd.prog 70 #[.func (.yield l) #[] #[],.pointer (some ⟨Bs,0,none⟩)] W fun e W'=>(∃ v,e = .returned v)∧J [] W':=by
 have t40:=Tryd.underlying61;have a40:=Tryd.isAgg61;have z40:=Tryd.sizeOf61;refine callsIn_of_wp Tryd.func70 rfl hf ?_ hro;simp only [Tryd.ntmps70,List.size_toArray,List.length_cons,List.length_nil,Nat.reduceAdd,Nat.reduceSub,Array.replicate_succ,Array.replicate_zero,List.push_toArray,List.append_toArray,List.nil_append,List.cons_append];have hw1:IntKind.i64.wrap (0 - 1) = -1:=rfl;gi_wp2
 gi_loopw [3] (fun i wr=>i = .int .i64 (-1)∧J [] wr) (fun _ _=>0)
 case atStart=>exact ⟨by first|rfl|simp [hw1],h0⟩
 case round=>
  obtain ⟨rfl,hJs⟩:=hrel;gi_wp2
  go_end0
  exact ⟨⟨_,rfl⟩,hJs⟩
def SgsV (n₀:Nat) (W:World) (sv:Value) (zs:List Sg) : Prop:=
 (∃ A cap,sv = .slice A 0 cap∧zs=[])∨∃ b off cap,sv = .slice (some ⟨b,off,none⟩) zs.length cap∧b < n₀∧zs.length≤cap∧SgC W b off zs
theorem SgC.below {n₀:Nat} {A B:World} (h:Below n₀ A B) {b off:Nat} {zs:List Sg} (hb:b < n₀) (hc:SgC A b off zs) : SgC B b off zs:=fun j hj=>by
 obtain ⟨c0,c1,c2⟩:=hc j hj;exact ⟨(h.cell (p:=⟨b,off+j*3,none⟩) hb).trans c0,(h.cell (p:=⟨b,off+j*3+1,none⟩) hb).trans c1,(h.cell (p:=⟨b,off+j*3+2,none⟩) hb).trans c2⟩
theorem SgsV.below {n₀ n₁:Nat} {A B:World} (h:Below n₀ A B) (hn:n₀≤n₁) {sv:Value} {zs:List Sg} : SgsV n₀ A sv zs→SgsV n₁ B sv zs
 | .inl e=>.inl e
 | .inr ⟨b,off,cap,e,hb,hl,hc⟩=>.inr ⟨b,off,cap,e,by omega,hl,hc.below h hb⟩
theorem b6t (F:Fence) (n:Nat) (hf:F.fn 70) (hro:F.round=none) (hn:1≤n) (Bs n₀:Nat) (sv:Value) (zs:List Sg) (hreach:zs.length≤1000000) (w:World) (hBs:Bs < n₀) (hn₀:n₀≤w.heap.size)
  (hc:w.cell? ⟨Bs,0,none⟩=some sv) (hI:SgsV n₀ w sv zs) :
  SeqStopsK F n Tryd.prog 70 #[.pointer (some ⟨Bs,0,none⟩)] (fun x:Nat×Sg=>#[Value.int .i64 (x.1:Int),sgV x.2]) (Below n₀) (fun ys=>ys=z5_ (bkF zs) zs.length)
   (fun pre=>∃ k,k≤zs.length∧pre=z5_ (bkF zs) k) zs.length w:=fun l J Jx W hW _ _ hY h0=>by
 have hc':=(hW.cell (p:=⟨Bs,0,none⟩) (show Bs < w.heap.size by omega)).trans hc;rcases hI.below (hW.mono hn₀) (Nat.le_refl _) with ⟨A,cap,rfl,rfl⟩|⟨b,off,cap,rfl,hb,hl,hcs⟩
 ·exact (c0f F n hf hro l Bs A cap J W hc' h0).mono fun e W' ⟨he,hj⟩=>⟨he,.inl ⟨_,rfl,hj⟩⟩
 ·exact c4i F n hf hro hn l Bs n₀ b off cap zs hreach hl hb J Jx hY W hc' hBs hcs h0
attribute [local go_sem] Oper.semAt_some
set_option maxRecDepth 100000
set_option maxHeartbeats 4000000
theorem d1c (Bx:Nat) (t:TypeId) (cs:Array Value) {W W':World} {row:Option Nat} (h:Bk W Bx t cs) (hg:W.grownBy W' row) (hr:∀ r,row=some r→∃ o:Obj,W.heap[r]? = some o∧o.isCells=false) : Bk W' Bx t cs:=by
 refine Bk.grown h hg fun e=>?_;obtain ⟨o,ho,hc⟩:=hr Bx e.symm;have h':W.heap[Bx]? = some (.cells cs t (0,0)):=h;rw [h'] at ho;injection ho with ho
 subst ho;cases hc
theorem c8a (F:Fence) (n:Nat) (h1f:F.fn 39) (h2f:F.fn 58) (h3f:F.fn 70) (hro:F.round=none) (hn:3≤n)
  (a:Option Addr) (len cap:Nat) (zs:List Sg) (R:Int) (c:ByteArray) (hreach:zs.length≤1000000) (w:World) (hI:SgsV w.heap.size w (.slice a len cap) zs) :
  CallsIn F n Tryd.prog 39 #[.slice a len cap,.int .i64 R,.string c] w fun e W'=>
   ((e = .returned (.int .i64 (-1))∧∀ p∈z5_ (bkF zs) zs.length,a8k p.2 R c=false) ∨
    (∃ k,k < zs.length∧e = .returned (.int .i64 ((bkF zs k).1:Int))∧a8k (bkF zs k).2 R c=true∧∀ p∈z5_ (bkF zs) k,a8k p.2 R c=false))∧Below w.heap.size w W':=by
 have h1:1≤n:=by omega
 have t45:=Tryd.underlying60;have a45:=Tryd.isAgg60;have z45:=Tryd.sizeOf60;have v45:=Tryd.zeroValue60;refine callsIn_of_wp_marks Tryd.func39 rfl h1f ?_ hro;simp only [Tryd.ntmps39,List.size_toArray,List.length_cons,List.length_nil,Nat.reduceAdd,Nat.reduceSub,Array.replicate_succ,Array.replicate_zero,List.push_toArray,List.append_toArray,List.nil_append,List.cons_append];gi_wp2_with (gi_at_call 58;refine (c7z F (n - 1) h2f hro _ _ _ _).mono ?_;rintro e w' ⟨rfl,rfl⟩)
 have bR:=((Boxed.new w 3 (.int .i64 R)).alloc (.cells #[.string c] 9)).alloc (.cells #[.int .i64 0] 3) |>.alloc (.cells #[.slice a len cap] 61)
 have bC:=((Boxed.new (w.alloc (.cells #[.int .i64 R] 3)) 9 (.string c)).alloc (.cells #[.int .i64 0] 3)).alloc (.cells #[.slice a len cap] 61);have bO:=(Boxed.new ((w.alloc (.cells #[.int .i64 R] 3)).alloc (.cells #[.string c] 9)) 3 (.int .i64 0)).alloc (.cells #[.slice a len cap] 61);have bS:=Boxed.new (((w.alloc (.cells #[.int .i64 R] 3)).alloc (.cells #[.string c] 9)).alloc (.cells #[.int .i64 0] 3)) 61 (.slice a len cap);simp only [World.size_alloc] at bR bC bO bS;have hB0:Below w.heap.size w ((((w.alloc (.cells #[.int .i64 R] 3)).alloc (.cells #[.string c] 9)).alloc (.cells #[.int .i64 0] 3)).alloc (.cells #[.slice a len cap] 61)):=((((Below.refl _ w).alloc (Nat.le_refl _) _).alloc (by simp) _).alloc (by simp;omega) _).alloc (by simp;omega) _;have hsz:((((w.alloc (.cells #[.int .i64 R] 3)).alloc (.cells #[.string c] 9)).alloc (.cells #[.int .i64 0] 3)).alloc (.cells #[.slice a len cap] 61)).heap.size=w.heap.size+4:=by simp
 obtain ⟨W0,hW0⟩ : ∃ W0,(((w.alloc (.cells #[.int .i64 R] 3)).alloc (.cells #[.string c] 9)).alloc (.cells #[.int .i64 0] 3)).alloc (.cells #[.slice a len cap] 61)=W0:=⟨_,rfl⟩
 rw [hW0] at bR bC bO bS hB0 hsz ⊢;clear hW0;refine wpIn_rangeFunc_ownH hro h1 (gf:=70) (lb:=#[.pointer (some ⟨w.heap.size+1+1+1,0,none⟩)]) rfl h3f (enters_of Tryd.func70 (by kernel_rfl) rfl)
  (b6t F (n - 1) h3f hro (by omega) (w.heap.size+1+1+1) (w.heap.size+4) (.slice a len cap) zs hreach W0 (by omega) (by omega) bS.cell (hI.below hB0 (by omega))) belowK_t (belowK_b (by omega)) (Below.refl _ _) (fun _=>rfl)
  (fun pre W=>((((∀ p∈pre,a8k p.2 R c=false)∧Boxed W (w.heap.size+1+1) 3 (.int .i64 0))∧Boxed W w.heap.size 3 (.int .i64 R))∧Boxed W (w.heap.size+1) 9 (.string c))∧Below (w.heap.size+4) W0 W)
  (fun cd pre W=>((cd = .ret∧∃ ini last,pre=ini++[last]∧(∀ p∈ini,a8k p.2 R c=false)∧a8k last.2 R c=true∧Boxed W (w.heap.size+1+1) 3 (.int .i64 (last.1:Int))))∧Below w.heap.size w W)
  (OwnFrom.and (OwnFrom.and (OwnFrom.and (OwnFrom.and (ownFrom_pure _ _) (Own.from (boxed_own _ _ _) _)) (Own.from (boxed_own _ _ _) _)) (Own.from (boxed_own _ _ _) _)) (ownFrom_below (by omega) (by omega)))
  (fun cd=>OwnFrom.and (Own.from (fun s A B row hs hg hr=>by obtain ⟨hc,ini,last,e1,e2,e3,e4⟩:=hs;exact ⟨hc,ini,last,e1,e2,e3,boxed_own _ 3 (fun (_:Unit)=>Value.int .i64 (last.1:Int)) () A B row e4 hg hr⟩) _) (ownFrom_below (Nat.le_refl _) (by omega)))
  ⟨⟨⟨⟨by simp,bO⟩,bR⟩,bC⟩,Below.refl _ _⟩
  (fun x a' W=>∃ Bx,w.heap.size+4≤Bx∧Bk W Bx 60 #[.int .i64 x.2.kind,.int .i64 x.2.rank,.string x.2.car]∧a' = { tmps:=#[.slice a len cap,.int .i64 R,.string c,undef,.pointer (some ⟨w.heap.size,0,none⟩),.pointer (some ⟨w.heap.size+1,0,none⟩),.pointer (some ⟨w.heap.size+1+1,0,none⟩),.int .i64 (x.1:Int),.pointer (some ⟨Bx,0,none⟩),.slice a len cap,.func (.func 70) #[] #[.pointer (some ⟨w.heap.size+1+1+1,0,none⟩)],.int .i64 (x.1:Int),sgV x.2,undef,undef,undef,undef,undef,undef,undef,undef,undef,undef,undef],defers:=[] })
  (fun x a' _ X Y row hs hg hr=>by obtain ⟨Bx,e1,e2,e3⟩:=hs;exact ⟨Bx,e1,d1c Bx _ _ e2 hg (fun r e=>(hr r e).2),e3⟩)
  ?assign ?body ?done ?stop
 case assign=>
  rintro l pre x W K ⟨⟨⟨⟨hp,b1⟩,b2⟩,b3⟩,hB1⟩ hK;have hle:w.heap.size+4≤W.heap.size:=by have:=hB1.size;omega
  unfold sgV;gi_wp2
  exact hK _ _ ((KeepsOthers.alloc _ _).from _) ((Below.refl _ W).alloc hle _) ⟨⟨⟨⟨hp,b1.alloc _⟩,b2.alloc _⟩,b3.alloc _⟩,hB1.alloc hle _⟩ ⟨W.heap.size,hle,Bk.new W _ _,rfl⟩
 case body=>
  rintro l pre x a' W hl _ ⟨⟨⟨⟨hp,b1⟩,b2⟩,b3⟩,hB1⟩ ⟨Bx,hBx,bX,rfl⟩ hlt;have x0:W.cell? ⟨Bx,0,none⟩=some (.int .i64 x.2.kind):=bX.cell 0;have x1:W.cell? ⟨Bx,1,none⟩=some (.int .i64 x.2.rank):=bX.cell 1;have x2:W.cell? ⟨Bx,2,none⟩=some (.string x.2.car):=bX.cell 2;have c1:=b1.cell;have f1:=b1.frozen;have c2:=b2.cell;have c3:=b3.cell;have hW:Below w.heap.size w W:=hB0.trans (hB1.mono (by omega));have hno:¬(x.2.rank=R∧x.2.car=c)→∀ p∈pre++[x],a8k p.2 R c=false:=fun hh p hp'=>by
   rcases List.mem_append.1 hp' with h|h
   ·exact hp p h
   ·simp at h;subst h;cases hs:a8k p.2 R c
    ·rfl
    ·exact absurd (b4h.1 hs) hh
  gi_wp2
  ·rename_i h1 h2;exact ⟨(KeepsOthers.setCell _ _ _).from _,⟨rfl,pre,x,rfl,hp,b4h.2 ⟨h1,c1b.1 h2⟩,b1.set _⟩,hW.setCell (p:=⟨w.heap.size+1+1,0,none⟩) (show w.heap.size≤w.heap.size+1+1 by omega) _⟩
  ·rename_i h1 h2;exact ⟨KeepsFrom.refl _ _,Below.refl _ _,⟨⟨⟨hno fun hh=>by rw [hh.2] at h2;simp at h2,b1⟩,b2⟩,b3⟩,hB1⟩
  ·rename_i h1;exact ⟨KeepsFrom.refl _ _,Below.refl _ _,⟨⟨⟨hno fun hh=>h1 hh.1,b1⟩,b2⟩,b3⟩,hB1⟩
 case done=>
  rintro D ys W hD rfl ⟨⟨⟨⟨hp,b1⟩,b2⟩,b3⟩,hB1⟩ hK;have c1:=b1.cell;have f1:=b1.frozen;have hW:Below w.heap.size w W:=hB0.trans (hB1.mono (by omega));gi_wp2
  have hK':=(KeepsOthers.setCell W ⟨w.heap.size+1+1,0,none⟩ (.int .i64 (-1))).same D _ hK rfl;refine ⟨by simp,.inl ⟨_,_,rfl,run_takeDeferred hK',?_⟩⟩;have hc5:=cell_kept (b1.set (.int .i64 (-1))).cell (grownBy_putObj' _ D (.deferred none)) (fun r e=>by cases e;exact ⟨_,hK',rfl⟩);refine ⟨.int .i64 (-1),?_,.inl ⟨rfl,hp⟩,(hW.setCell (p:=⟨w.heap.size+1+1,0,none⟩) (show w.heap.size≤w.heap.size+1+1 by omega) _).trans (belowK_b (w:=w) (Nat.le_refl _) _ D _ _ (by omega) hK' rfl rfl)⟩;simp [results,Tryd.f39,go_sem,hc5]
 case stop=>
  rintro D cd pre W hD ⟨k,hk,rfl⟩ ⟨⟨rfl,ini,last,e1,e2,e3,b1⟩,hB1⟩ hK;gi_wp2
  refine ⟨by simp,.inl ⟨_,_,rfl,run_takeDeferred hK,?_⟩⟩;have hc5:=cell_kept b1.cell (grownBy_putObj' _ D (.deferred none)) (fun r e=>by cases e;exact ⟨_,hK,rfl⟩);obtain ⟨k',rfl⟩ : ∃ k',k=k'+1:=by
   cases k with
   | zero=>simp [z5_] at e1
   | succ k'=>exact ⟨k',rfl⟩
  rw [a6z] at e1;obtain ⟨rfl,e5⟩:=List.append_inj' e1 rfl;obtain rfl:bkF zs k'=last:=by simpa using e5
  refine ⟨.int .i64 ((bkF zs k').1:Int),?_,.inr ⟨k',by omega,rfl,e3,e2⟩,hB1.trans (belowK_b (w:=w) (Nat.le_refl _) W D _ _ (by omega) hK rfl rfl)⟩;simp [results,Tryd.f39,go_sem,hc5]
set_option maxHeartbeats 2000000
theorem d1d {w:World} {M:Nat→Nat→Prop} {l:List Sg} {v:Value} (h:V0 w M (.sl 3 (l.map Sg.av)) v) : SgsV w.heap.size w v l:=by
 generalize he:l.map Sg.av=es at h;cases h with
 | slNil _ A cap=>
  exact .inl ⟨A,cap,rfl,List.map_eq_nil_iff.1 he⟩
 | sl _ _ cap b o u hne hb hM hcap hsz h1 hc hv=>
  subst he;rw [List.length_map] at hcap hc ⊢;refine .inr ⟨b,o,cap,rfl,hb,hcap,fun j hj=>?_⟩;have hx:(l.map Sg.av)[j]? = some (Sg.av (f1_ l j)):=by rw [List.getElem?_map,List.getElem?_eq_getElem hj,b5j hj];rfl
  have e0:=hv j _ 0 (I (f1_ l j).kind) hx rfl;have e1:=hv j _ 1 (I (f1_ l j).rank) hx rfl;have e2:=hv j _ 2 (S (f1_ l j).car) hx rfl;rw [←V0.lit_inv e0,←V0.lit_inv e1,←V0.lit_inv e2];exact ⟨hc j 0 hj (by decide),hc j 1 hj (by decide),hc j 2 hj (by decide)⟩
theorem b6u {L:List Sg} {R:Int} {c:ByteArray} {k:Nat} (h:∀ j,j < k→a8k (f1_ L j) R c=false) : t0_ L R c k = -1:=by
 rcases a0r L R c k with ⟨h1,_⟩|⟨j,_,h2,h3,_⟩
 ·exact h1
 ·rw [h j h2] at h3;cases h3
theorem c4j {L:List Sg} {R:Int} {c:ByteArray} {k i:Nat} (hi:i < k) (hs:a8k (f1_ L i) R c=true) (h:∀ j,i < j→j < k→a8k (f1_ L j) R c=false) : t0_ L R c k=i:=by
 rcases a0r L R c k with ⟨_,h2⟩|⟨j,h1,h2,h3,h4⟩
 ·rw [h2 i hi] at hs;cases hs
 ·have:j=i:=by
   rcases Nat.lt_trichotomy i j with hh|hh|hh
   ·rw [h j hh h2] at h3;cases h3
   ·exact hh.symm
   ·rw [h4 i hh hi] at hs;cases hs
  rw [h1,this]
theorem d1e (l:List Sg) (R:Int) (c:ByteArray) (hl:l.length≤1000000) : VC Tryd.prog 39 [.sl 3 (l.map Sg.av),I R,S c] (I (t0_ l R c l.length)):=by
 refine ⟨by kernel_rfl,fun w M vs hM hvl hv=>?_⟩;obtain ⟨v1,v2,v3,rfl⟩ : ∃ v1 v2 v3,vs=[v1,v2,v3]:=by
  rcases vs with _|⟨a,_|⟨b,_|⟨c,_|⟨_,_⟩⟩⟩⟩
  all_goals first|exact ⟨a,b,c,rfl⟩|(simp at hvl)
 have hv0:=hv 0 _ _ rfl rfl;obtain rfl:=V0.lit_inv (hv 1 _ _ rfl rfl);obtain rfl:=V0.lit_inv (hv 2 _ _ rfl rfl);have hI:=d1d hv0;obtain ⟨A,n,cap,rfl⟩:=hv0.sl_form;have h:=(c8a { fn:=fun _=>True } 3 trivial trivial trivial rfl (Nat.le_refl _) A n cap l R c hl w hI).calls (fun k d hd=>by cases hd);refine h.mono ?_;rintro e w' ⟨he,hb⟩;have hmem:∀ (p:Nat×Sg) (k:Nat),p∈z5_ (bkF l) k↔∃ j,j < k∧bkF l j=p:=fun p k=>by simp [z5_]
 rcases he with ⟨rfl,hn⟩|⟨k,hk,rfl,hs,hn⟩
 ·refine ⟨_,rfl,hb,?_⟩;rw [b6u fun j hj=>?_]
  ·exact .lit _
  ·have:=hn (bkF l (l.length - 1 - j)) ((hmem _ _).2 ⟨l.length - 1 - j,by omega,rfl⟩);unfold bkF at this;rwa [show l.length - 1 - (l.length - 1 - j)=j by omega] at this
 ·refine ⟨_,rfl,hb,?_⟩;have e:t0_ l R c l.length=((bkF l k).1:Int):=by
   refine c4j (by unfold bkF;simp only;omega) hs fun j h1 h2=>?_;unfold bkF at h1;simp only at h1;have:=hn (bkF l (l.length - 1 - j)) ((hmem _ _).2 ⟨l.length - 1 - j,by omega,rfl⟩);unfold bkF at this;rwa [show l.length - 1 - (l.length - 1 - j)=j by omega] at this
  rw [e];exact .lit _
end Go.Proofs.YtoibondihdhnoaaDoor
namespace Go.Proofs.YtoibondihdhnoaaDoor
open Go.RowKit
set_option maxRecDepth 100000
set_option maxHeartbeats 2000000
theorem c0g {l:List Sg} {k j:Nat} (h:j < k) : f1_ (l.take k) j=f1_ l j:=by
 unfold f1_;rw [List.getD_eq_getElem?_getD,List.getElem?_take_of_lt h,List.getD_eq_getElem?_getD]
theorem a5m {L L':List Sg} {R:Int} {c:ByteArray} : ∀ {k:Nat},(∀ j,j < k→f1_ L j=f1_ L' j)→t0_ L R c k=t0_ L' R c k
 | 0,_=>rfl
 | k+1,h=>by rw [t0_,t0_,h k (by omega),a5m fun j hj=>h j (by omega)]
theorem a5n (l:List Sg) (k:Nat) (R:Int) (c:ByteArray) (hk:k≤l.length) (hl:l.length≤1000000) : VC Tryd.prog 39 [.sl 3 ((l.map Sg.av).take k),I R,S c] (I (t0_ l R c k)):=by
 have h:=d1e (l.take k) R c (by rw [List.length_take];omega);rw [List.length_take,Nat.min_eq_left hk,List.map_take,a5m fun j hj=>c0g hj] at h;exact h
def iat (l:List Int) (k:Nat) : Int:=l.getD k 0
theorem c0h {l:List Int} {k:Nat} (h:k < l.length) : iat l k=l[k]:=by simp [iat,h]
theorem b6v (l:List Int) (x:Int) (hl:l.length≤1000000) : VC Tryd.prog 57 [.sl 1 (l.map y3_),I x] (I (ixP (fun j=>decide (iat l j=x)) 0 l.length)):=by
 obtain ⟨R,hR⟩ : ∃ R,ixP (fun j=>decide (iat l j=x)) 0 l.length=R:=⟨_,rfl⟩
 rw [hR];have HR:=Lib.hid hR;clear hR;refine c0_ Tryd.func57 rfl (by kernel_rfl) (by kernel_rfl) rfl fun M0 w0=>?_;simp only [Tryd.ntmps57,Tryd.results57,b5_];repeat' first|(with_reducible first|apply a9_|apply a3_|apply a8_|apply a1_|refine a2_ [] ?_)|((with_reducible refine a0_ fun Z U=>?_);go_simp;refine U _ ?_;clear U Z)
 apply y4_ [0,1,7] (fun k=>[(8,I k)]) (fun k=>([] : Hp)) (fun j=>decide (iat l j=x)) (l.length)
 ·go_simp<;>exact rfl
 ·go_simp
 ·intro k hk HB HP K hK;obtain ⟨w1,w2,w3,w4,w5,w6⟩:=ixs (m:=k) (by omega);have hp:¬x=l[k]:=fun h=>by
   have:=HP.out;simp only [c0h hk,h] at this;simp at this
  repeat' first|(with_reducible first|apply a9_|apply a3_|apply b0_|apply a8_|apply b1_|apply a1_|refine a2_ [] ?_)|((with_reducible refine a7_ ?_ ?_);(focus (go_simp;done)))|((with_reducible refine a6_ ?_ ?_);(focus (go_simp;done)))|((with_reducible refine a0_ fun Z U=>?_);go_simp;refine U _ ?_;clear U Z)
  refine hK _ ?_;go_simp
 ·intro k hk HB HP K;have hp:x=l[k]:=by
   have:=HP.out;rw [c0h hk] at this;exact (of_decide_eq_true this).symm
  have e:=HR.out;rw [n0_ hk HB.out HP.out] at e;subst e;repeat' first|(with_reducible first|apply a9_|apply a3_|apply b4_|apply c5_|apply b0_|apply a8_|apply c2_|apply a1_|refine a2_ [] ?_)|((with_reducible refine a7_ ?_ ?_);(focus (go_simp;done)))|((with_reducible refine a0_ fun Z U=>?_);go_simp;refine U _ ?_;clear U Z)
  go_simp
 ·intro HB K;have e:=HR.out;rw [p7_ HB.out] at e;subst e;repeat (first|(with_reducible first|apply a9_|apply a3_|apply b8_|apply c5_|apply d4_|apply b7_|apply a1_|refine a2_ [] ?_)|((with_reducible refine a6_ ?_ ?_);(focus (go_simp;done)))|((with_reducible refine a0_ fun Z U=>?_);go_simp;refine U _ ?_;clear U Z))
  go_simp
theorem a8q (l:List Int) (x:Int) (hl:l.length≤1000000) : VC Tryd.prog 37 [.sl 1 (l.map y3_),I x] (B (a5w (fun j=>decide (iat l j=x)) 0 l.length)):=by
 have g:=b6v l x hl;rw [←b2h];generalize ixP (fun j=>decide (iat l j=x)) 0 l.length=R at *;refine c0_ Tryd.func37 rfl (by kernel_rfl) (by kernel_rfl) rfl fun M0 w0=>?_;simp only [Tryd.ntmps37,Tryd.results37,b5_];repeat' first|(with_reducible first|apply a9_|apply a3_|apply c5_|apply a1_|refine a2_ [] ?_)|((with_reducible refine a0_ fun Z U=>?_);go_simp;(first|(with_reducible refine ⟨_,g,?_⟩)|skip);refine U _ ?_;clear U Z)
 go_simp
theorem c4k (x:Int) : a5w (fun j=>decide (iat [0,1,2,3] j=x)) 0 4=inR x 0 3:=by
 by_cases h:0≤x∧x≤3
 ·rw [m0_.2 h];have hx:x=((x.toNat:Nat) : Int):=by omega
  refine m7_ (k:=x.toNat) (by omega) ?_;have:x=0∨x=1∨x=2∨x=3:=by omega
  rcases this with rfl|rfl|rfl|rfl<;>rfl
 ·have hf:inR x 0 3=false:=by
   cases hh:inR x 0 3
   ·rfl
   ·exact absurd (m0_.1 hh) h
  rw [hf];refine r7_ fun j hj=>decide_eq_false fun he=>h ?_;have:j=0∨j=1∨j=2∨j=3:=by omega
  rcases this with rfl|rfl|rfl|rfl<;>simp [iat] at he<;>omega
theorem c0i (x:Int) : VC Tryd.prog 37 [.sl 1 [[I 0],[I 1],[I 2],[I 3]],I x] (B (inR x 0 3)):=by
 have:=a8q [0,1,2,3] x (by decide);rwa [show ([0,1,2,3] : List Int).length=4 from rfl,c4k] at this
def sgE (l:List Sg) (k:Nat) : Int:=fst [unl (inR (f1_ l k).kind 0 3) 15,unl (inR (f1_ l k).rank 0 5) 2,unl (c8_ (f1_ l k).car) 4]
def c9y (l:List Sg) : Int:=if 200 < l.length then 8 else (i9_ (sgE l) 0 l.length).2
def ovE (l:List Sg) : Int:=if c9y l≠0 then c9y l else if b6m l < 0 then 12 else 0
def ovT (l:List Sg) : AV:=if ovE l≠0 then .agg [I 0,I 0,I 0] else .agg [I (a6e l (b6m l).toNat),I (jOf l (b6m l).toNat),I (b6m l)]
theorem b2r (l:List Sg) (hl:l.length≤1000000) (hc:∀ k,k < l.length→(f1_ l k).car.size≤1000) : VC Tryd.prog 18 [d4v l] (.tup [ovT l,I (ovE l)]):=by
 obtain ⟨E,hE⟩ : ∃ E,ovE l=E:=⟨_,rfl⟩
 obtain ⟨T,hT⟩ : ∃ T,ovT l=T:=⟨_,rfl⟩
 rw [hE,hT];by_cases h2:200 < l.length
 ·have e1:ovE l=8:=by unfold ovE c9y;rw [if_pos h2,if_pos (by decide)]
  have e2:ovT l = .agg [I 0,I 0,I 0]:=by unfold ovT;rw [e1,if_pos (by decide)]
  rw [e1] at hE;rw [e2] at hT;subst hE hT;have h3:(200:Int) < (l.length:Int):=by omega
  clear hc e1 e2;refine c0_ Tryd.func18 rfl (by kernel_rfl) (by kernel_rfl) rfl fun M0 w0=>?_;simp only [Tryd.ntmps18,Tryd.results18,b5_];repeat' first|(with_reducible first|apply a9_|apply a3_|apply b4_|apply c5_|apply a1_|refine a2_ [] ?_)|((with_reducible refine a7_ ?_ ?_);(focus (go_simp;done)))|((with_reducible refine a0_ fun Z U=>?_);go_simp;refine U _ ?_;clear U Z)
  go_simp
 have HE:=Lib.hid hE;have HT:=Lib.hid hT;have HC:=Lib.hid hc;have h3:¬(200:Int) < (l.length:Int):=by omega
 clear hE hT hc;refine c0_ Tryd.func18 rfl (by kernel_rfl) (by kernel_rfl) rfl fun M0 w0=>?_;simp only [Tryd.ntmps18,Tryd.results18,b5_];repeat' first|(with_reducible first|apply a9_|apply a3_|apply b0_|apply a8_|apply a1_|refine a2_ [] ?_)|((with_reducible refine a6_ ?_ ?_);(focus (go_simp;done)))|((with_reducible refine a0_ fun Z U=>?_);go_simp;refine U _ ?_;clear U Z)
 apply y4_ [0,2,17,18] (fun k=>[(19,I k)]) (fun k=>([some (.box [I 0,I 0,I 0])] : Hp)) (fun k=>!decide (sgE l k=0)) (l.length)
 ·go_simp<;>exact rfl
 ·go_simp
 ·intro k hk HB HP K hK;obtain ⟨w1,w2,w3,w4,w5,w6⟩:=ixs (m:=k) (by omega);have i1:=c0i (f1_ l k).kind;have i2:=i3_ (f1_ l k).rank 0 5;have i3:=a0u (f1_ l k).car (HC.out k hk);have u1:=b3_ (inR (f1_ l k).kind 0 3) 15;have u2:=b3_ (inR (f1_ l k).rank 0 5) 2;have u3:=b3_ (c8_ (f1_ l k).car) 4;have g3:VC Tryd.prog 30 [.sl 1 ([unl (inR (f1_ l k).kind 0 3) 15,unl (inR (f1_ l k).rank 0 5) 2,unl (c8_ (f1_ l k).car) 4].map y3_)] (I (sgE l k)):=d9_ _ rfl rfl;have he:sgE l k=0:=by simpa using HP.out
  rw [he] at g3;clear he;generalize inR (f1_ l k).kind 0 3=D1 at *;generalize inR (f1_ l k).rank 0 5=D2 at *;generalize c8_ (f1_ l k).car=D3 at *;generalize unl D1 15=A1 at *;generalize unl D2 2=A2 at *;generalize unl D3 4=A3 at *;repeat' first|(with_reducible first|apply a9_|apply a3_|apply b0_|apply a8_|apply b1_|apply a1_|refine a2_ [] ?_|apply a5_)|((with_reducible refine a7_ ?_ ?_);(focus (go_simp;done)))|((with_reducible refine a6_ ?_ ?_);(focus (go_simp;done)))|((with_reducible first|refine a0_ fun Z U=>?_|refine a4_ fun Z U=>?_);go_simp;(first|(refine ⟨_,i1,?_⟩)|(with_reducible refine ⟨_,i2,?_⟩)|(with_reducible refine ⟨_,i3,?_⟩)|(with_reducible refine ⟨_,u1,?_⟩)|(with_reducible refine ⟨_,u2,?_⟩)|(with_reducible refine ⟨_,u3,?_⟩)|(refine ⟨_,g3,?_⟩)|skip);refine U _ ?_;clear U Z)|((refine b6_ 13 13 [] rfl (by kernel_rfl) (by kernel_rfl) ?_);simp only [List.take,List.drop])
  refine hK _ ?_;go_simp
 ·intro k hk HB HP K;have i1:=c0i (f1_ l k).kind;have i2:=i3_ (f1_ l k).rank 0 5;have i3:=a0u (f1_ l k).car (HC.out k hk);have u1:=b3_ (inR (f1_ l k).kind 0 3) 15;have u2:=b3_ (inR (f1_ l k).rank 0 5) 2;have u3:=b3_ (c8_ (f1_ l k).car) 4;have g3:VC Tryd.prog 30 [.sl 1 ([unl (inR (f1_ l k).kind 0 3) 15,unl (inR (f1_ l k).rank 0 5) 2,unl (c8_ (f1_ l k).car) 4].map y3_)] (I (sgE l k)):=d9_ _ rfl rfl;have hne:sgE l k≠0:=by simpa using HP.out
  have e1:ovE l=sgE l k:=by
   unfold ovE c9y;rw [if_neg h2,z3_ hk HB.out HP.out,if_pos hne]
  have e2:ovT l = .agg [I 0,I 0,I 0]:=by unfold ovT;rw [e1,if_pos hne]
  have hE:=HE.out;have hT:=HT.out;rw [e1] at hE;rw [e2] at hT;subst hE hT;clear e1 e2 HE HT;generalize sgE l k=E at *;generalize inR (f1_ l k).kind 0 3=D1 at *;generalize inR (f1_ l k).rank 0 5=D2 at *;generalize c8_ (f1_ l k).car=D3 at *;generalize unl D1 15=A1 at *;generalize unl D2 2=A2 at *;generalize unl D3 4=A3 at *;repeat' first|(with_reducible first|apply a9_|apply a3_|apply b4_|apply c5_|apply b0_|apply a8_|apply c2_|apply a1_|refine a2_ [] ?_|apply a5_)|((with_reducible refine a7_ ?_ ?_);(focus (go_simp;done)))|((with_reducible first|refine a0_ fun Z U=>?_|refine a4_ fun Z U=>?_);go_simp;(first|(refine ⟨_,i1,?_⟩)|(with_reducible refine ⟨_,i2,?_⟩)|(with_reducible refine ⟨_,i3,?_⟩)|(with_reducible refine ⟨_,u1,?_⟩)|(with_reducible refine ⟨_,u2,?_⟩)|(with_reducible refine ⟨_,u3,?_⟩)|(refine ⟨_,g3,?_⟩)|skip);refine U _ ?_;clear U Z)|((refine b6_ 13 13 [] rfl (by kernel_rfl) (by kernel_rfl) ?_);simp only [List.take,List.drop])
  go_simp
 intro HB0 K;have hS:c9y l=0:=by
  unfold c9y;rw [if_neg h2,t6_ l.length 0 (fun j hj=>HB0.out j (by omega))]
 have HS:=Lib.hid hS;clear hS;repeat' first|(with_reducible first|apply a9_|apply a3_|apply b8_|apply d4_|apply a8_|apply b7_|apply a1_|refine a2_ [] ?_)|((with_reducible refine a6_ ?_ ?_);(focus (go_simp;done)))|((with_reducible refine a0_ fun Z U=>?_);go_simp;refine U _ ?_;clear U Z)
 apply y4_ [0,2,44,45] (fun k=>[(46,I k)]) (fun k=>([some (.box [I 0,I 0,I 0])] : Hp)) (c6a l) (l.length)
 ·go_simp<;>exact rfl
 ·go_simp
 ·intro k hk HB HP K hK;obtain ⟨w1,w2,w3,w4,w5,w6⟩:=ixs (m:=k) (by omega);have hk2:k≤l.length:=by omega
  have hk3:(k:Int)≤(l.length:Int):=by omega
  have gl:VC Tryd.prog 39 [.sl 3 ((l.map Sg.av).take k),I (f1_ l k).rank,S (f1_ l k).car] (I (jOf l k)):=a5n l k _ _ hk2 hl;have hp:¬0≤a6e l k:=of_decide_eq_false HP.out;by_cases hkd:(f1_ l k).kind=1
  ·by_cases hg:b0i l k=true
   ·obtain ⟨j,ej,hj⟩:=b9r (show 0≤jOf l k by unfold b0i at hg;simp only [Bool.and_eq_true,decide_eq_true_eq] at hg;exact hg.1);have hkj:(f1_ l j).kind=0:=by
     unfold b0i at hg;rw [ej,Int.toNat_natCast] at hg;simp only [Bool.and_eq_true,decide_eq_true_eq] at hg;exact hg.2
    have hf:a6e l k=ixP (okI l k) 0 j:=by unfold a6e;rw [if_pos ⟨hkd,hg⟩,ej,Int.toNat_natCast]
    rw [hf] at hp;rw [ej] at gl;have HPN:=Lib.hid hp;clear hp hf hg ej;have hjl:j < l.length:=by omega
    have hj2:j≤l.length:=by omega
    have hj3:(j:Int)≤(l.length:Int):=by omega
    have hmin:min j l.length=j:=by omega
    obtain ⟨y,hy⟩ : ∃ y,f1_ l k=y:=⟨_,rfl⟩
    rw [hy] at hkd gl;obtain ⟨k0,hk0⟩ : ∃ k0,k0=k:=⟨_,rfl⟩
    have HK:=Lib.hid hk0;clear hk0;repeat' first|(with_reducible first|apply a9_|apply a3_|apply b0_|apply a8_|apply a1_|refine a2_ [] ?_|apply a5_)|((with_reducible refine a7_ ?_ ?_);(focus (go_simp;done)))|((with_reducible refine a6_ ?_ ?_);(focus (go_simp;done)))|((with_reducible first|refine a0_ fun Z U=>?_|refine a4_ fun Z U=>?_);go_simp;(first|(with_reducible refine ⟨_,gl,?_⟩)|skip);refine U _ ?_;clear U Z)|((refine b6_ 9 9 [] rfl (by kernel_rfl) (by kernel_rfl) ?_);simp only [List.take,List.drop])
    apply y4_ [0,2,8,9,10,44,45,46,74,75] (fun k=>[(76,I k)]) (fun k=>([some (.box [I 0,I 0,I 0]),some (.box [I 1,I y.rank,S y.car])] : Hp)) (okI l k0) (j)
    ·go_simp<;>exact rfl
    ·go_simp
    ·intro i hi HB2 HP2 K2 hK2;have hi2:i < k:=by omega
     have hil:i < l.length:=by omega
     obtain ⟨x1,x2,x3,x4,x5,x6⟩:=ixs (m:=i) (by omega);have gi:VC Tryd.prog 39 [.sl 3 ((l.map Sg.av).take k),I (f1_ l i).rank,S (f1_ l i).car] (I (t0_ l (f1_ l i).rank (f1_ l i).car k)):=a5n l k _ _ hk2 hl;have ho:=HP2.out;rw [HK.out] at ho;unfold okI at ho;rw [hy] at ho;by_cases q1:(f1_ l i).kind=0
     ·by_cases q2:(f1_ l i).rank=y.rank
      ·by_cases q3:(f1_ l i).car=y.car
       ·clear ho;repeat' first|(with_reducible first|apply a9_|apply a3_|apply b0_|apply a8_|apply b1_|apply a1_|refine a2_ [] ?_|apply a5_)|((with_reducible refine a7_ ?_ ?_);(focus (go_simp;done)))|((with_reducible refine a6_ ?_ ?_);(focus (go_simp;done)))|((with_reducible first|refine a0_ fun Z U=>?_|refine a4_ fun Z U=>?_);go_simp;refine U _ ?_;clear U Z)|((refine b6_ 29 29 [] rfl (by kernel_rfl) (by kernel_rfl) ?_);simp only [List.take,List.drop])
        refine hK2 _ ?_;go_simp
       ·have q4:¬t0_ l (f1_ l i).rank (f1_ l i).car k=i:=by
         rw [decide_eq_true q1,decide_eq_true q2,decide_eq_false q3] at ho;simpa using ho
        generalize t0_ l (f1_ l i).rank (f1_ l i).car k=Q at *;clear ho;rw [q2] at gi;repeat' first|(with_reducible first|apply a9_|apply a3_|apply b0_|apply a8_|apply b1_|apply a1_|refine a2_ [] ?_|apply a5_)|((with_reducible refine a7_ ?_ ?_);(focus (go_simp;done)))|((with_reducible refine a6_ ?_ ?_);(focus (go_simp;done)))|((with_reducible first|refine a0_ fun Z U=>?_|refine a4_ fun Z U=>?_);go_simp;(first|(with_reducible refine ⟨_,gi,?_⟩)|skip);refine U _ ?_;clear U Z)|((refine b6_ 29 29 [] rfl (by kernel_rfl) (by kernel_rfl) ?_);simp only [List.take,List.drop])
        refine hK2 _ ?_;go_simp
      ·clear ho;repeat' first|(with_reducible first|apply a9_|apply a3_|apply b0_|apply a8_|apply b1_|apply a1_|refine a2_ [] ?_|apply a5_)|((with_reducible refine a7_ ?_ ?_);(focus (go_simp;done)))|((with_reducible refine a6_ ?_ ?_);(focus (go_simp;done)))|((with_reducible first|refine a0_ fun Z U=>?_|refine a4_ fun Z U=>?_);go_simp;refine U _ ?_;clear U Z)|((refine b6_ 29 29 [] rfl (by kernel_rfl) (by kernel_rfl) ?_);simp only [List.take,List.drop])
       refine hK2 _ ?_;go_simp
     ·clear ho;repeat' first|(with_reducible first|apply a9_|apply a3_|apply b0_|apply a8_|apply b1_|apply a1_|refine a2_ [] ?_|apply a5_)|((with_reducible refine a7_ ?_ ?_);(focus (go_simp;done)))|((with_reducible refine a6_ ?_ ?_);(focus (go_simp;done)))|((with_reducible first|refine a0_ fun Z U=>?_|refine a4_ fun Z U=>?_);go_simp;refine U _ ?_;clear U Z)|((refine b6_ 29 29 [] rfl (by kernel_rfl) (by kernel_rfl) ?_);simp only [List.take,List.drop])
      refine hK2 _ ?_;go_simp
    ·intro i hi HB2 HP2 K2;have:=n0_ hi HB2.out HP2.out;have h5:=HPN.out;rw [←HK.out,this] at h5;exact absurd (by omega) h5
    ·intro HB2 K2;repeat' first|(with_reducible first|apply a9_|apply a3_|apply b8_|apply d4_|apply b1_|apply b7_|apply a1_|refine a2_ [] ?_)|((with_reducible refine a6_ ?_ ?_);(focus (go_simp;done)))|((with_reducible refine a0_ fun Z U=>?_);go_simp;refine U _ ?_;clear U Z)
     refine hK _ ?_;go_simp
   ·have hng:jOf l k < 0∨∃ j:Nat,jOf l k=j∧j < k∧¬(f1_ l j).kind=0:=by
     by_cases h0:0≤jOf l k
     ·obtain ⟨j,ej,hj⟩:=b9r h0;refine .inr ⟨j,ej,hj,fun hh=>hg ?_⟩;unfold b0i;rw [ej,Int.toNat_natCast,hh];simp
     ·exact .inl (by omega)
    rcases hng with hng|⟨j,ej,hj,hkj⟩
    ·generalize jOf l k=J at *;clear hp hg;repeat' first|(with_reducible first|apply a9_|apply a3_|apply b8_|apply b0_|apply d4_|apply a8_|apply b7_|apply a1_|refine a2_ [] ?_|apply a5_)|((with_reducible refine a7_ ?_ ?_);(focus (go_simp;done)))|((with_reducible refine a6_ ?_ ?_);(focus (go_simp;done)))|((with_reducible first|refine a0_ fun Z U=>?_|refine a4_ fun Z U=>?_);go_simp;(first|(with_reducible refine ⟨_,gl,?_⟩)|skip);refine U _ ?_;clear U Z)|((refine b6_ 9 9 [] rfl (by kernel_rfl) (by kernel_rfl) ?_);simp only [List.take,List.drop])
     refine hK _ ?_;go_simp
    ·rw [ej] at gl;have hjl:j < l.length:=by omega
     clear hp hg ej;repeat' first|(with_reducible first|apply a9_|apply a3_|apply b8_|apply b0_|apply d4_|apply a8_|apply b7_|apply a1_|refine a2_ [] ?_|apply a5_)|((with_reducible refine a7_ ?_ ?_);(focus (go_simp;done)))|((with_reducible refine a6_ ?_ ?_);(focus (go_simp;done)))|((with_reducible first|refine a0_ fun Z U=>?_|refine a4_ fun Z U=>?_);go_simp;(first|(with_reducible refine ⟨_,gl,?_⟩)|skip);refine U _ ?_;clear U Z)|((refine b6_ 9 9 [] rfl (by kernel_rfl) (by kernel_rfl) ?_);simp only [List.take,List.drop])
     refine hK _ ?_;go_simp
  ·clear hp gl;repeat' first|(with_reducible first|apply a9_|apply a3_|apply b8_|apply b0_|apply d4_|apply a8_|apply b7_|apply a1_|refine a2_ [] ?_)|((with_reducible refine a7_ ?_ ?_);(focus (go_simp;done)))|((with_reducible refine a0_ fun Z U=>?_);go_simp;refine U _ ?_;clear U Z)
   refine hK _ ?_;go_simp
 ·intro k hk HB HP K;obtain ⟨w1,w2,w3,w4,w5,w6⟩:=ixs (m:=k) (by omega);have hk2:k≤l.length:=by omega
  have hk3:(k:Int)≤(l.length:Int):=by omega
  have gl:VC Tryd.prog 39 [.sl 3 ((l.map Sg.av).take k),I (f1_ l k).rank,S (f1_ l k).car] (I (jOf l k)):=a5n l k _ _ hk2 hl;have hp:0≤a6e l k:=of_decide_eq_true HP.out;have hcond:(f1_ l k).kind=1∧b0i l k=true:=Classical.byContradiction fun hh=>by
   unfold a6e at hp;rw [if_neg hh] at hp;omega
  obtain ⟨hkd,hg⟩:=hcond;obtain ⟨j,ej,hj⟩:=b9r (show 0≤jOf l k by unfold b0i at hg;simp only [Bool.and_eq_true,decide_eq_true_eq] at hg;exact hg.1);have hkj:(f1_ l j).kind=0:=by
   unfold b0i at hg;rw [ej,Int.toNat_natCast] at hg;simp only [Bool.and_eq_true,decide_eq_true_eq] at hg;exact hg.2
  have hf:a6e l k=ixP (okI l k) 0 j:=by unfold a6e;rw [if_pos ⟨hkd,hg⟩,ej,Int.toNat_natCast]
  have eO:b6m l=(k:Int):=n0_ hk HB.out HP.out;have e1:ovE l=0:=by unfold ovE;rw [HS.out,if_neg (by simp),eO,if_neg (by omega)]
  have e2:ovT l = .agg [I (a6e l k),I (jOf l k),I (k:Int)]:=by unfold ovT;rw [e1,if_neg (by simp),eO,Int.toNat_natCast]
  have hE:=HE.out;have hT:=HT.out;rw [e1] at hE;rw [e2,ej,hf] at hT;rw [hf] at hp;rw [ej] at gl;have HPN:=Lib.hid hp;have HT2:=Lib.hid hT;subst hE;clear hp hf hg ej e1 e2 eO hT HE HT;have hjl:j < l.length:=by omega
  have hj2:j≤l.length:=by omega
  have hj3:(j:Int)≤(l.length:Int):=by omega
  have hmin:min j l.length=j:=by omega
  obtain ⟨y,hy⟩ : ∃ y,f1_ l k=y:=⟨_,rfl⟩
  rw [hy] at hkd gl;obtain ⟨k0,hk0⟩ : ∃ k0,k0=k:=⟨_,rfl⟩
  have HK:=Lib.hid hk0;clear hk0;repeat' first|(with_reducible first|apply a9_|apply a3_|apply b0_|apply a8_|apply a1_|refine a2_ [] ?_|apply a5_)|((with_reducible refine a7_ ?_ ?_);(focus (go_simp;done)))|((with_reducible refine a6_ ?_ ?_);(focus (go_simp;done)))|((with_reducible first|refine a0_ fun Z U=>?_|refine a4_ fun Z U=>?_);go_simp;(first|(with_reducible refine ⟨_,gl,?_⟩)|skip);refine U _ ?_;clear U Z)|((refine b6_ 9 9 [] rfl (by kernel_rfl) (by kernel_rfl) ?_);simp only [List.take,List.drop])
  apply y4_ [0,2,8,9,10,44,45,46,74,75] (fun k=>[(76,I k)]) (fun k=>([some (.box [I 0,I 0,I 0]),some (.box [I 1,I y.rank,S y.car])] : Hp)) (okI l k0) (j)
  ·go_simp<;>exact rfl
  ·go_simp
  ·intro i hi HB2 HP2 K2 hK2;have hi2:i < k:=by omega
   have hil:i < l.length:=by omega
   obtain ⟨x1,x2,x3,x4,x5,x6⟩:=ixs (m:=i) (by omega);have gi:VC Tryd.prog 39 [.sl 3 ((l.map Sg.av).take k),I (f1_ l i).rank,S (f1_ l i).car] (I (t0_ l (f1_ l i).rank (f1_ l i).car k)):=a5n l k _ _ hk2 hl;have ho:=HP2.out;rw [HK.out] at ho;unfold okI at ho;rw [hy] at ho;by_cases q1:(f1_ l i).kind=0
   ·by_cases q2:(f1_ l i).rank=y.rank
    ·by_cases q3:(f1_ l i).car=y.car
     ·clear ho;repeat' first|(with_reducible first|apply a9_|apply a3_|apply b0_|apply a8_|apply b1_|apply a1_|refine a2_ [] ?_|apply a5_)|((with_reducible refine a7_ ?_ ?_);(focus (go_simp;done)))|((with_reducible refine a6_ ?_ ?_);(focus (go_simp;done)))|((with_reducible first|refine a0_ fun Z U=>?_|refine a4_ fun Z U=>?_);go_simp;refine U _ ?_;clear U Z)|((refine b6_ 29 29 [] rfl (by kernel_rfl) (by kernel_rfl) ?_);simp only [List.take,List.drop])
      refine hK2 _ ?_;go_simp
     ·have q4:¬t0_ l (f1_ l i).rank (f1_ l i).car k=i:=by
       rw [decide_eq_true q1,decide_eq_true q2,decide_eq_false q3] at ho;simpa using ho
      generalize t0_ l (f1_ l i).rank (f1_ l i).car k=Q at *;clear ho;rw [q2] at gi;repeat' first|(with_reducible first|apply a9_|apply a3_|apply b0_|apply a8_|apply b1_|apply a1_|refine a2_ [] ?_|apply a5_)|((with_reducible refine a7_ ?_ ?_);(focus (go_simp;done)))|((with_reducible refine a6_ ?_ ?_);(focus (go_simp;done)))|((with_reducible first|refine a0_ fun Z U=>?_|refine a4_ fun Z U=>?_);go_simp;(first|(with_reducible refine ⟨_,gi,?_⟩)|skip);refine U _ ?_;clear U Z)|((refine b6_ 29 29 [] rfl (by kernel_rfl) (by kernel_rfl) ?_);simp only [List.take,List.drop])
      refine hK2 _ ?_;go_simp
    ·clear ho;repeat' first|(with_reducible first|apply a9_|apply a3_|apply b0_|apply a8_|apply b1_|apply a1_|refine a2_ [] ?_|apply a5_)|((with_reducible refine a7_ ?_ ?_);(focus (go_simp;done)))|((with_reducible refine a6_ ?_ ?_);(focus (go_simp;done)))|((with_reducible first|refine a0_ fun Z U=>?_|refine a4_ fun Z U=>?_);go_simp;refine U _ ?_;clear U Z)|((refine b6_ 29 29 [] rfl (by kernel_rfl) (by kernel_rfl) ?_);simp only [List.take,List.drop])
     refine hK2 _ ?_;go_simp
   ·clear ho;repeat' first|(with_reducible first|apply a9_|apply a3_|apply b0_|apply a8_|apply b1_|apply a1_|refine a2_ [] ?_|apply a5_)|((with_reducible refine a7_ ?_ ?_);(focus (go_simp;done)))|((with_reducible refine a6_ ?_ ?_);(focus (go_simp;done)))|((with_reducible first|refine a0_ fun Z U=>?_|refine a4_ fun Z U=>?_);go_simp;refine U _ ?_;clear U Z)|((refine b6_ 29 29 [] rfl (by kernel_rfl) (by kernel_rfl) ?_);simp only [List.take,List.drop])
    refine hK2 _ ?_;go_simp
  ·intro i hi HB2 HP2 K2;have hi2:i < k:=by omega
   have hil:i < l.length:=by omega
   obtain ⟨x1,x2,x3,x4,x5,x6⟩:=ixs (m:=i) (by omega);have gi:VC Tryd.prog 39 [.sl 3 ((l.map Sg.av).take k),I (f1_ l i).rank,S (f1_ l i).car] (I (t0_ l (f1_ l i).rank (f1_ l i).car k)):=a5n l k _ _ hk2 hl;have ho:=HP2.out;rw [HK.out] at ho;unfold okI at ho;rw [hy] at ho;simp only [Bool.and_eq_true,decide_eq_true_eq,Bool.not_eq_true',decide_eq_false_iff_not] at ho;obtain ⟨⟨⟨q1,q2⟩,q3⟩,q4⟩:=ho;rw [q4,q2] at gi;have hT:=HT2.out;rw [←HK.out,n0_ hi HB2.out HP2.out,HK.out] at hT;subst hT;clear q4;repeat' first|(with_reducible first|apply a9_|apply a3_|apply b4_|apply c5_|apply b0_|apply a8_|apply c2_|apply a1_|refine a2_ [] ?_|apply a5_)|((with_reducible refine a7_ ?_ ?_);(focus (go_simp;done)))|((with_reducible first|refine a0_ fun Z U=>?_|refine a4_ fun Z U=>?_);go_simp;(first|(with_reducible refine ⟨_,gi,?_⟩)|skip);refine U _ ?_;clear U Z)|((refine b6_ 29 29 [] rfl (by kernel_rfl) (by kernel_rfl) ?_);simp only [List.take,List.drop])
   go_simp
  ·intro HB2 K2;have h5:=HPN.out;rw [←HK.out,p7_ HB2.out] at h5;exact absurd h5 (by decide)
 ·intro HB K;have e0:b6m l = -1:=p7_ HB.out;have e1:ovE l=12:=by unfold ovE;rw [HS.out,if_neg (by simp),e0,if_pos (by decide)]
  have e2:ovT l = .agg [I 0,I 0,I 0]:=by unfold ovT;rw [e1,if_pos (by decide)]
  have hE:=HE.out;have hT:=HT.out;rw [e1] at hE;rw [e2] at hT;subst hE hT;clear e1 e2 e0 HE HT;repeat' first|(with_reducible first|apply a9_|apply a3_|apply b8_|apply c5_|apply d4_|apply b7_|apply a1_|refine a2_ [] ?_)|((with_reducible refine a6_ ?_ ?_);(focus (go_simp;done)))|((with_reducible refine a0_ fun Z U=>?_);go_simp;refine U _ ?_;clear U Z)
  go_simp
end Go.Proofs.YtoibondihdhnoaaDoor
