/- Texts in one: A range over a map of the call's own, in whichever order its entries come: of every program; no condition. -/
import Derived.Test.YtoibondihdhnoaaGreatDoorFRQ52
import Derived.Maps.RangeRun
namespace Go.Proofs.YtoibondihdhnoaaGreatDoor
open Go.RowKit
def kvE (e:MapEntry) : Value×Value:=(e.key,e.val)
theorem Ho {α β:Type} [BEq β] [LawfulBEq β] (f:α→β) : ∀ {l:List α} {e:α},(l.map f).Nodup→e∈l→l.Perm (e::l.filter fun x=>f x != f e)
 | [],_,_,h=>by cases h
 | x::l,e,hn,h=>by
  simp only [List.map_cons,List.nodup_cons] at hn;rcases List.mem_cons.1 h with rfl|h
  ·have hk:l.filter (fun y=>f y != f e)=l:=List.filter_eq_self.2 fun y hy=>by
    simp only [bne_iff_ne];intro he;exact hn.1 (he▸List.mem_map_of_mem hy)
   rw [List.filter_cons,if_neg (by simp),hk]
  ·have aq:f x≠f e:=fun he=>hn.1 (he▸List.mem_map_of_mem h);rw [List.filter_cons,if_pos (by simpa using aq)];exact ((Ho f hn.2 h).cons x).trans (.swap _ _ _)
def DR (es:Array MapEntry) (seen:Array Nat) (done:List (Value×Value)) : Prop:=(done++(leftOf es seen).toList.map kvE).Perm (es.toList.map kvE)
theorem DR.start (es:Array MapEntry) : DR es #[] []:=by
 unfold DR leftOf;rw [List.nil_append,Array.toList_filter,List.filter_eq_self.2 (by simp)]
theorem DR.step {es:Array MapEntry} {seen:Array Nat} {done:List (Value×Value)} {e:MapEntry} (h:DR es seen done) (hn:(es.toList.map (·.born)).Nodup) (he:e∈(leftOf es seen).toList) : DR es (seen.push e.born) (done++[kvE e])∧(leftOf es (seen.push e.born)).size < (leftOf es seen).size:=by
 have hL:(leftOf es seen).toList=es.toList.filter fun x=>!seen.contains x.born:=by simp [leftOf]
 have Pk:(leftOf es (seen.push e.born)).toList=(leftOf es seen).toList.filter fun x=>x.born != e.born:=by
  rw [hL];simp only [leftOf,Array.toList_filter,List.filter_filter];congr 1;funext x
  simp only [Array.contains_push,Bool.not_or,Bool.and_comm,bne]
 have aK:((leftOf es seen).toList.map (·.born)).Nodup:=by
  rw [hL];exact hn.sublist ((List.filter_sublist).map _)
 have hp:=Ho (fun x:MapEntry=>x.born) aK he;rw [←Pk] at hp;refine ⟨?_,?_⟩
 ·unfold DR at h ⊢;refine List.Perm.trans ?_ h;rw [List.append_assoc];exact List.Perm.append_left _ (hp.map kvE).symm
 ·have:=hp.length_eq;simp only [List.length_cons,Array.length_toList] at this;omega
theorem DR.fin {es:Array MapEntry} {seen:Array Nat} {done:List (Value×Value)} (h:DR es seen done) (h0:(leftOf es seen).size=0) : done.Perm (es.toList.map kvE):=by
 unfold DR at h;rw [Array.eq_empty_of_size_eq_zero h0] at h;simpa using h
section
variable {P:Program} {M0:Nat→Nat→Prop} {w0:Bas} {N:Nm} {p:Pl} {st:VS} {a:Act} {w w':World}
structure RangeIn (M0:Nat→Nat→Prop) (w0:Bas) (N:Nm) (es:Array MapEntry) (clock bm r:Nat) (p:Pl) (wB:Bas) (seen:Array Nat) (c0:Nat) (st:VS) (a:Act) (w:World) : Prop where
 R:Rel (fun b j=>M0 b j∨b=r) wB N p st a w
 bel:Bel w0 wB.w
 X:∀ b j,wB.X b j→Fr w0 b j∧b≠bm
 map:wB.w.heap[bm]? = some (.map es clock)
 it:wB.w.heap[r]? = some (.mapIter (some bm) clock seen c0)
variable {es:Array MapEntry} {clock bm r:Nat} {wB:Bas} {seen:Array Nat} {c0:Nat}
theorem RangeIn.now (h:RangeIn M0 w0 N es clock bm r p wB seen c0 st a w) : w.heap[bm]? = some (.map es clock)∧w.heap[r]? = some (.mapIter (some bm) clock seen c0):=by
 refine ⟨(h.R.below.keeps.block bm (Array.getElem?_eq_some_iff.1 h.map).1 fun j hx=>(h.X bm j hx).2 rfl).trans h.map,(h.R.below.keeps.block r (Array.getElem?_eq_some_iff.1 h.it).1 fun j hx=>h.R.x0.2 r j (.inr rfl) hx).trans h.it⟩
theorem RangeIn.back (h:RangeIn M0 w0 N es clock bm r p wB seen c0 st a w) (m0:MOK w0.w M0) (x0:MOK w0.w w0.X∧∀ b j,M0 b j→¬w0.X b j) : Rel M0 w0 N p st a w:=
 h.R.leave (fun _ _ h=>.inl h) h.bel (fun b j hx=>(h.X b j hx).1) m0 x0
theorem RangeIn.jump (h:RangeIn M0 w0 N es clock bm r p wB seen c0 st a w) (m0:MOK w0.w M0) (x0:MOK w0.w w0.X∧∀ b j,M0 b j→¬w0.X b j) (hr:w0.w.heap.size≤r) (aq:bm≠r) {w1:World} (hw:w1=w∨w1=w.drew) (kp:Array Nat) (c1:Nat) :
  RangeIn M0 w0 N es clock bm r p ⟨ChangeMaps.setBlock w1 r (.mapIter (some bm) clock kp c1),wE st.h p⟩ kp c1 st a (ChangeMaps.setBlock w1 r (.mapIter (some bm) clock kp c1)):=by
 obtain ⟨n1,n2⟩:=h.now;have hB:Below w.heap.size w w1:=by
  rcases hw with rfl|rfl
  ·exact Below.refl _ _
  ·exact (Below.refl _ _).drew
 have hh:w1.heap=w.heap:=by rcases hw with rfl|rfl<;>rfl
 have aJ:(ChangeMaps.setBlock w1 r (.mapIter (some bm) clock kp c1)).heap.size=w.heap.size:=by simp [ChangeMaps.setBlock,hh]
 have aZ:∀ b,b≠r→(ChangeMaps.setBlock w1 r (.mapIter (some bm) clock kp c1)).heap[b]? = w.heap[b]?:=fun b hb=>by
  simp only [ChangeMaps.setBlock,hh];rw [Array.getElem?_setIfInBounds_ne (Ne.symm hb)]
 have dW:=(Array.getElem?_eq_some_iff.1 n2).1;have hb0:=(h.back m0 x0).below;refine ⟨h.R.jump (r:=r) (by rw [aJ];exact Nat.le_refl _) (fun b _ hb=>aZ b hb) (fun _=>.inr rfl),?_,?_,(aZ bm aq).trans n1,?_⟩
 ·exact hb0.blocks (show w1.os=w.os from hB.os) (show w1.tape=w.tape from hB.tape) (show w1.output=w.output from hB.output) (by rw [aJ];exact Nat.le_refl _) fun b _ hn=>aZ b fun he=>hn fun j=>.inl (he▸hr)
 ·rintro b j ⟨id,ob,hi,hl,hO⟩;obtain ⟨h1,h2⟩:=(h.R.objs id ob hi).own hl b j hO;rcases h1 with h1|h1
  ·refine ⟨.inl (Nat.le_trans h.bel.size h1),fun he=>?_⟩;have:=(Array.getElem?_eq_some_iff.1 h.map).1;omega
  ·exact h.X b j h1
 ·simp only [ChangeMaps.setBlock,hh];rw [Array.getElem?_setIfInBounds_self_of_lt dW]
theorem Pm {Q:Exit→VS→Prop} {i6 b0 i7 b1 i8 ti tn tb te tv td idm:Nat} {l6:List Oper} (n6:Nat) {ro nx ex en e2 aS:Oper} {body:Code} {ty:TypeId} {x:Operand} {kf:Nat×IntKind} {kvs:List (Value×Value)} (J:List (Value×Value)→VS)
  (hu:∃ k e,P.underlying ty=some (.map k e)) (j8:ro.op = .range ty x∧ro.dst=some ti∧ro.guard=none)
  (fC:nx.op = .next (.tmp ti) false∧nx.dst=some tn∧nx.guard=none) (hex:ex.op = .extract (.tmp tn) 0∧ex.dst=some tb∧ex.guard=none)
  (rA:en.op = .entry (.tmp ti)∧en.dst=some te∧en.guard=none) (s9:e2.op = .extract (.tmp te) 1∧e2.dst=some tv∧e2.guard=none) (has:aS.op = .assign (.tmp tv)∧aS.dst=some td∧aS.guard=none)
  (hd:ti≠tn∧ti≠tb∧ti≠te∧ti≠tv∧ti≠td) (hJ:∀ done t,t=ti∨t=tn∨t=tb∨t=te∨t=tv∨t=td→lkp (J done).s t = .any)
  (Hq:l6.take n6++[ro]=l6) (h:dU P [] l6 (l6.take n6) st fun T=>ev T x = .mp idm∧T.h[idm]? = some (some (.mpo kf kvs))∧Le ⟨T.s,T.h.set idm none⟩ (J []))
  (sH:∀ (done:List (Value×Value)) (q:Value×Value),(∃ rest,(done++q::rest).Perm kvs)→∀ (M1:Nat→Nat→Prop) (w1:Bas) (r:Nat),VWp P M1 w1 N body (fun e aI=>e = .normal∧Le aI ⟨(ti,.lit (.pointer (some ⟨r,0,none⟩)))::(J (done++[q])).s,(J (done++[q])).h⟩) ⟨(td,.lit q.2)::(ti,.lit (.pointer (some ⟨r,0,none⟩)))::(J done).s,(J done).h⟩)
  (nC:∀ done,done.Perm kvs→Q .normal (J done)) :
  VWp P M0 w0 N (.seq (.region i6 l6.toArray false) (.block b0 (.loop (.seq (.region i7 [nx,ex].toArray false) (.seq (.cond (.tmp tb) .skip (.exit b0)) (.block b1 (.seq (.region i8 [en,e2,aS].toArray false) body))))))) Q st:=fun hC p0 a0 rj R0=>by
 obtain ⟨l0,pG⟩ : ∃ l0,l6.take n6=l0:=⟨_,rfl⟩
 rw [pG] at Hq h;subst Hq;simp only [e_,Bool.and_eq_true] at hC;obtain ⟨Pn,CQ,SE,zw,Po⟩:=hC;obtain ⟨kk,ke,hu⟩:=hu;have wO:(l0++[ro]).all (cR N)=true:=by simpa using Pn
 have Pp:l0.all (cR N)=true:=by rw [List.all_append,Bool.and_eq_true] at wO;exact wO.1
 have Pq:N.has ti:=dZ (by rw [List.all_append,Bool.and_eq_true] at wO;simpa using wO.2) ti j8.2.1;refine wp_seq (wp_region_lit (xb (Q:=Exit.then _ _) wO (fun p1 T a1 w1 R1 hT=>?_) l0 p0 st a0 rj Pp R0 h));obtain ⟨hx,hid,hle⟩:=hT;have em:=R1.eval x;rw [hx] at em;obtain ⟨em,_⟩:=em.mp_inv;obtain ⟨_,_,es,clock,hg,om,fa⟩:=R1.objs idm _ hid;obtain ⟨Pr,SF,SG,Ps,CR,CS⟩:=ro;simp only at j8;obtain ⟨rfl,rfl,rfl⟩:=j8;refine wpList_step fun Y Z=>?_;simp only [Region.wanted,if_true];unfold Oper.wp;have aB:=run_range_map (P:=P) w1 ty kk ke (p1 idm) es clock hu hg;simp only [execOp,Sem.run_bind,em,aB,Result.andThen_ok,Sem.run_pure,Oper.upon];refine Z _ _ (wpList_nil ?_);have R2:=(R1.drop idm).le hle;have hb:Below w1.heap.size w1 (w1.alloc (.mapIter (some (p1 idm)) clock #[] clock)):=(Below.refl _ w1).alloc (Nat.le_refl _) _;have aJ:(w1.alloc (.mapIter (some (p1 idm)) clock #[] clock)).heap.size=w1.heap.size+1:=by
  show (w1.heap.push _).size=_;simp
 have R3:=R2.enter hb (by omega);have R4:=R3.putS (r:=.lit (.pointer (some ⟨w1.heap.size,0,none⟩))) (v:=.pointer (some ⟨w1.heap.size,0,none⟩)) Pq (.base _ _ (.lit _));have Pt:p1 idm < w1.heap.size:=(Array.getElem?_eq_some_iff.1 hg).1;have hIn:RangeIn M0 w0 N es clock (p1 idm) w1.heap.size p1 ⟨w1.alloc (.mapIter (some (p1 idm)) clock #[] clock),wE (J []).h p1⟩ #[] clock ⟨(ti,.lit (.pointer (some ⟨w1.heap.size,0,none⟩)))::(J []).s,(J []).h⟩ (a1.put (some ti) (.pointer (some ⟨w1.heap.size,0,none⟩))) (w1.alloc (.mapIter (some (p1 idm)) clock #[] clock)):=by
  refine ⟨R4,R1.below.later hb,?_,(heap_alloc_old _ _ Pt).trans hg,heap_alloc_new _ _⟩;rintro b j ⟨id,ob,hi,hl,hO⟩;refine ⟨((R2.objs id ob hi).own hl b j hO).1,fun he=>?_⟩;have bD:=(uu (J []).h 0 id ob hle.2.2 hi).1;rw [Nat.zero_add] at bD;obtain ⟨g1,g2⟩:=sG bD;exact g1 (R1.inj id idm ob _ g2 hid hl rfl b j 0 hO (.inl he.symm))
 have Pu:w0.w.heap.size≤w1.heap.size:=R1.below.size;have aq:p1 idm≠w1.heap.size:=by omega
 have m0:=R1.m0;have x0:=R1.x0;generalize p1 idm=bm at *;generalize w1.heap.size=r at *;obtain ⟨Pv,SH,Pw,Px,CT,CU⟩:=nx;obtain ⟨Py,SI,SJ,Pz,CV,CW⟩:=ex;obtain ⟨PA,SL,SM,PB,CX,CY⟩:=en;obtain ⟨PC,SO,SQ,PD,CZ,C0⟩:=e2;obtain ⟨PE,SR,SS,PF,C1,C2⟩:=aS;simp only at fC hex rA s9 has;obtain ⟨rfl,rfl,rfl⟩:=fC;obtain ⟨rfl,rfl,rfl⟩:=hex;obtain ⟨rfl,rfl,rfl⟩:=rA;obtain ⟨rfl,rfl,rfl⟩:=s9;obtain ⟨rfl,rfl,rfl⟩:=has;simp only [List.all_cons,List.all_nil,Bool.and_true,Bool.and_eq_true] at CQ zw;have ue:N.has tn:=dZ CQ.1 tn rfl;have zx:N.has tb:=dZ CQ.2 tb rfl;have Hr:N.has te:=dZ zw.1 te rfl;have Hs:N.has tv:=dZ zw.2.1 tv rfl;have ix:N.has td:=dZ zw.2.2 td rfl;refine wp_block (wp_loop_ghost (fun n a w=>∃ done p wB seen c0,(leftOf es seen).size=n∧DR es seen done∧clock≤c0∧RangeIn M0 w0 N es clock bm r p wB seen c0 ⟨(ti,.lit (.pointer (some ⟨r,0,none⟩)))::(J done).s,(J done).h⟩ a w) _ ⟨[],p1,_,#[],clock,rfl,DR.start es,Nat.le_refl _,hIn⟩ ?_);rintro n a w ⟨done,p,wB,seen,c0,hn,zl,kI,hR⟩;have aV:a.tmps.getD ti undef = .pointer (some ⟨r,0,none⟩):=by
  have:=hR.R.slots ti;simp only [lkp,if_true] at this;exact this.lit_inv
 obtain ⟨n1,n2⟩:=hR.now;refine wp_seq (wp_region_lit ?_);refine wpList_step fun K1 Ht=>?_;simp only [Region.wanted,if_true];unfold Oper.wp;rcases run_next_at (P:=P) w Pw r bm clock c0 seen es clock n2 n1 fa.1 kI with ⟨h0,wz⟩|⟨e,he,w2,ns,wz⟩
 ·have e1:a.eval (.tmp ti) = .pointer (some ⟨r,0,none⟩):=aV;simp only [execOp,Sem.run_bind,e1,wz,Result.andThen_ok,Sem.run_pure,Oper.upon];refine Ht _ _ ?_;refine wpList_step fun K2 gY=>?_;simp only [Region.wanted,if_true];unfold Oper.wp;have e2:(a.put (some tn) (.tuple #[.bool false])).eval (.tmp tn) = .tuple #[.bool false]:=by
   show (a.put (some tn) _).tmps.getD tn undef=_;rw [jx a tn _ tn (hR.R.size.lt ue),if_pos rfl]
  simp only [execOp,Sem.run_bind,e2,Sem.run_pure,Oper.upon];have e3:(Instr.extract (.tuple #[.bool false]) 0).run P w = .ok (.bool false) w:=by simp [Instr.extract]
  simp only [e3,Result.andThen_ok];refine gY _ _ (wpList_nil ?_);have R5:=((hR.back m0 x0).putS (d:=tn) (r:=.any) (v:=.tuple #[.bool false]) ue (.base _ _ (.any _))).putS (d:=tb) (r:=.any) (v:=.bool false) zx (.base _ _ (.any _));have e4:((a.put (some tn) (.tuple #[.bool false])).put (some tb) (.bool false)).eval (.tmp tb) = .bool false:=by
   show ((a.put (some tn) _).put (some tb) _).tmps.getD tb undef=_;rw [jx _ tb _ tb ((hR.R.size.put ue).lt zx),if_pos rfl]
  refine wp_seq (wp_cond (t:=false) e4 ?_);refine wp_exit ?_;show if b0=b0 then _ else _
  rw [if_pos rfl];refine ⟨J done,p,R5.weak (s':=(J done).s) fun t=>?_,nC done (by rw [←om];exact zl.fin h0)⟩;by_cases h1:t=ti∨t=tn∨t=tb∨t=te∨t=tv∨t=td
  ·exact .inr (hJ done t h1)
  ·refine .inl ?_;simp only [not_or] at h1;simp only [lkp];rw [if_neg (Ne.symm h1.2.2.1),if_neg (Ne.symm h1.2.1),if_neg (Ne.symm h1.1)]
 ·obtain ⟨d1,d2,d3,d4,d5⟩:=hd;have e1:a.eval (.tmp ti) = .pointer (some ⟨r,0,none⟩):=aV;simp only [execOp,Sem.run_bind,e1,wz,Result.andThen_ok,Sem.run_pure,Oper.upon];refine Ht _ _ ?_;refine wpList_step fun K2 gY=>?_;simp only [Region.wanted,if_true];unfold Oper.wp;have e2:(a.put (some tn) (.tuple #[.bool true,e.key,e.val])).eval (.tmp tn) = .tuple #[.bool true,e.key,e.val]:=by
   show (a.put (some tn) _).tmps.getD tn undef=_;rw [jx a tn _ tn (hR.R.size.lt ue),if_pos rfl]
  have cJ:e∈es.toList:=by
   have:e∈(leftOf es seen).toList:=he;simp only [leftOf,Array.toList_filter,List.mem_filter] at this;exact this.1
  obtain ⟨wP,kg⟩:=zl.step fa.2 he;have uf:=hR.jump m0 x0 Pu aq ns (seen.push e.born) clock;generalize ChangeMaps.setBlock w2 r (.mapIter (some bm) clock (seen.push e.born) clock)=w3 at *;have e3:(Instr.extract (.tuple #[.bool true,e.key,e.val]) 0).run P w3 = .ok (.bool true) w3:=by simp [Instr.extract]
  simp only [execOp,Sem.run_bind,e2,e3,Result.andThen_ok,Sem.run_pure,Oper.upon];refine gY _ _ (wpList_nil ?_);have R5:=(uf.R.putS (d:=tn) (r:=.any) (v:=.tuple #[.bool true,e.key,e.val]) ue (.base _ _ (.any _))).putS (d:=tb) (r:=.any) (v:=.bool true) zx (.base _ _ (.any _));have e4:((a.put (some tn) (.tuple #[.bool true,e.key,e.val])).put (some tb) (.bool true)).eval (.tmp tb) = .bool true:=by
   show ((a.put (some tn) _).put (some tb) _).tmps.getD tb undef=_;rw [jx _ tb _ tb ((hR.R.size.put ue).lt zx),if_pos rfl]
  generalize (a.put (some tn) (.tuple #[.bool true,e.key,e.val])).put (some tb) (.bool true)=a2 at *;refine wp_seq (wp_cond (t:=true) e4 ?_);refine wp_skip ?_;refine wp_block (wp_seq (wp_region_lit ?_));obtain ⟨m1,m2⟩:=uf.now;have C3:a2.eval (.tmp ti) = .pointer (some ⟨r,0,none⟩):=by
   have:=R5.slots ti;simp only [lkp] at this;rw [if_neg (Ne.symm d2),if_neg (Ne.symm d1),if_pos trivial] at this;exact this.lit_inv
  refine wpList_step fun K3 PG=>?_;simp only [Region.wanted,if_true];unfold Oper.wp;have PH:=run_entry_at (P:=P) w3 r bm clock seen es clock e m2 m1 cJ fa.2;simp only [execOp,Sem.run_bind,C3,PH,Result.andThen_ok,Sem.run_pure,Oper.upon];refine PG _ _ ?_;have R6:=R5.putS (d:=te) (r:=.any) (v:=.tuple #[e.key,e.val]) Hr (.base _ _ (.any _));have e5:(a2.put (some te) (.tuple #[e.key,e.val])).eval (.tmp te) = .tuple #[e.key,e.val]:=by
   show (a2.put (some te) _).tmps.getD te undef=_;rw [jx a2 te _ te (R5.size.lt Hr),if_pos rfl]
  generalize a2.put (some te) (.tuple #[e.key,e.val])=a3 at *;refine wpList_step fun K4 PI=>?_;simp only [Region.wanted,if_true];unfold Oper.wp;have e6:(Instr.extract (.tuple #[e.key,e.val]) 1).run P w3 = .ok e.val w3:=by simp [Instr.extract]
  simp only [execOp,Sem.run_bind,e5,e6,Result.andThen_ok,Sem.run_pure,Oper.upon];refine PI _ _ ?_;have R7:=R6.putS (d:=tv) (r:=.any) (v:=e.val) Hs (.base _ _ (.any _));have e7:(a3.put (some tv) e.val).eval (.tmp tv)=e.val:=by
   show (a3.put (some tv) _).tmps.getD tv undef=_;rw [jx a3 tv _ tv (R6.size.lt Hs),if_pos rfl]
  generalize a3.put (some tv) e.val=a4 at *;refine wpList_step fun K5 PJ=>?_;simp only [Region.wanted,if_true];unfold Oper.wp;simp only [execOp,e7,Sem.run_pure,Oper.upon];refine PJ _ _ (wpList_nil ?_);have R8:=R7.putS (d:=td) (r:=.lit e.val) (v:=e.val) ix (.base _ _ (.lit _));have R9:=R8.weak (s':=(td,.lit e.val)::(ti,.lit (.pointer (some ⟨r,0,none⟩)))::(J done).s) fun t=>by
   simp only [lkp];by_cases h1:td=t
   ·rw [if_pos h1,if_pos h1];exact .inl rfl
   rw [if_neg h1,if_neg h1];by_cases h2:ti=t
   ·subst h2;rw [if_pos rfl,if_neg (Ne.symm d4),if_neg (Ne.symm d3),if_neg (Ne.symm d2),if_neg (Ne.symm d1)];exact .inl rfl
   rw [if_neg h2];by_cases h3:t=ti∨t=tn∨t=tb∨t=te∨t=tv∨t=td
   ·exact .inr (hJ done t h3)
   ·simp only [not_or] at h3;rw [if_neg (Ne.symm h3.2.2.2.2.1),if_neg (Ne.symm h3.2.2.2.1),if_neg (Ne.symm h3.2.2.1),if_neg (Ne.symm h3.2.1)];exact .inl rfl
  have hp:∃ rest,(done++kvE e::rest).Perm kvs:=by
   refine ⟨(leftOf es (seen.push e.born)).toList.map kvE,?_⟩;have:=wP;unfold DR at this;rw [List.append_assoc] at this;rw [←om];exact this
  refine wp_mono (sH done (kvE e) hp _ _ r Po p _ w3 R9) ?_;rintro e' a' w' ⟨aI,p',R',rfl,vJ⟩;exact ⟨_,by omega,done++[kvE e],p',_,seen.push e.born,clock,rfl,wP,Nat.le_refl _,⟨R'.le vJ,uf.bel,uf.X,uf.map,uf.it⟩⟩
end
end Go.Proofs.YtoibondihdhnoaaGreatDoor
