/- Texts in one: One element is appended to a row of a row of rows: of every program; no condition. -/
import Derived.Test.YtoibondihdhnoaaGreatDoorFRY4
import Derived.ArgAppend
import Derived.Deep.LoopGhost
import Derived.Test.YtoibondihdhnoaaGreatDoorFRY1
import Derived.Test.YtoibondihdhnoaaGreatDoorProg
namespace Go.Proofs.YtoibondihdhnoaaGreatDoor
open Go.RowKit
section
variable {P:Program}
theorem xX {w:World} {b o:Nat} {cur:Array Value} {t:TypeId} (v:Value) (h:w.heap[b]? = some (.cells cur t (0,0))) : (w.setCells b o [v]).heap[b]? = some (.cells (cur.setIfInBounds o v) t (0,0)):=by
 simp [World.setCells,World.setCell,Array.getElem?_modify,h]
theorem xY {w:World} {b o b':Nat} (v:Value) (h:b'≠b) : (w.setCells b o [v]).heap[b']? = w.heap[b']?:=by
 simp only [World.setCells,World.setCell,Array.getElem?_modify];rw [if_neg (Ne.symm h)]
theorem vA (w:World) (b o:Nat) (v:Value) : (w.setCells b o [v]).heap.size=w.heap.size:=by simp [World.setCells,World.setCell]
theorem CC {w:World} {t ty e:TypeId} {i:TypeInfo} {z:Value} (ht:P.underlying t=some (.slice e)) (hi:P.info? e=some i) (hz:i.zero=some z) (aM:i.size=1) (fX:z.cells.size=1) (gR:i.bytes≤100000)
  {A:Option Addr} {n cap:Nat} {olds:List Value} (hA:A=none→n=0∧cap=0) (bs:olds.length=n) (holds:∀ a0,A=some a0→∀ j u,olds[j]? = some u→w.cell? (a0.add j)=some u)
  {a:Addr} {c:Nat} {u0:Value} (hu:w.cell? (a.add 0)=some u0) (hg:cap < n+1) (fU:n+1≤1000000000) :
  ∃ g dn cur w',(Builtin.append_ #[t,t] ty #[.slice A n cap,.slice (some a) 1 c]).run P w = .ok (.slice (some ⟨g,0,none⟩) (n+1) dn) w'∧w.heap.size≤g∧g < w'.heap.size∧w'.heap[g]? = some (.cells cur e (0,0))∧n+1≤dn∧dn≤maxLen∧cur.size=dn ∧
   (∀ j,j < n→cur[j]? = olds[j]?)∧cur[n]? = some u0∧Below w.heap.size w w':=by
 have eS:∀ j u,[u0][j]? = some u→w.cell? (a.add j)=some u:=fun j u hj=>by
  cases j with
  | zero=>simp at hj;rw [←hj];exact hu
  | succ j=>simp at hj
 have CD:(n+1)*i.bytes≤140737488355328:=by
  have:(n+1)*i.bytes≤1000000000*100000:=Nat.mul_le_mul fU gR;omega
 cases A with
 | none=>
  obtain ⟨rfl,rfl⟩:=hA rfl;have zq:olds=[]:=List.eq_nil_of_length_eq_zero bs;subst zq;have hr:=run_append_nil (P:=P) (w:=w) t ty e i z ht hi hz a 1 c [u0] (by simp [aM]) eS (by decide) (by decide) (by omega);have dr:=grownCap_ge w 1 0 e;have gb:=grownCap_le_maxLen w 1 0 e (by decide);refine ⟨w.heap.size,grownCap w 1 0 e,_,_,hr,Nat.le_refl _,by simp,heap_alloc_new w.drew _,dr,gb,?_,by simp,?_,?_⟩
  ·rw [Array.size_append,size_zeroCells,fX];have:([u0].toArray).size=1:=rfl;omega
  ·rw [Array.getElem?_append_left (show 0 < ([u0].toArray).size from Nat.one_pos)];rfl
  ·exact ((Below.refl w.heap.size w).drew).alloc (Nat.le_refl _) _
 | some a0=>
  obtain ⟨v',w',hr,⟨hl,aS⟩,wJ⟩:=run_append_arg_grows (P:=P) w t ty e i z 1 i.bytes ht hi hz aM rfl fX (by decide) a0 n cap olds (by omega) (holds a0 rfl) a 1 c [u0] (by simp) eS hg (by simp only [maxLen];omega) CD;rcases aS with ⟨_,h0⟩|⟨g,dn,cur,rfl,dr,uy,j_,gb,bW,lS⟩
  ·omega
  ·have bm:∀ j,j < n+1→cur[j]? = (olds++[u0])[j]?:=fun j hj=>by
    rw [←lS,List.getElem?_take_of_lt (by omega),←Array.getElem?_toList]
   refine ⟨g,dn,cur,w',hr,dr,(Array.getElem?_eq_some_iff.1 uy).1,uy,j_,gb,by omega,fun j hj=>by rw [bm j (by omega),List.getElem?_append_left (by omega)],by rw [bm n (by omega),List.getElem?_append_right (by omega),bs];simp,?_⟩;exact ⟨wJ.os,wJ.tape,wJ.output,wJ.size,fun b hb=>wJ.block b hb (by simp)⟩
theorem Bel.keepF {w0:Bas} {w w':World} (h:Bel w0 w) (kM:w'.os=w.os) (kO:w'.tape=w.tape) (kP:w'.output=w.output) (hk:Keeps (Fr w0) w w') : Bel w0 w':=
 ⟨kM.trans h.os,kO.trans h.tape,kP.trans h.output,Nat.le_trans h.size hk.size,fun b aq hX=>(hk.block b (Nat.lt_of_lt_of_le aq h.size) fun j hf=>hf.elim (fun h=>by omega) (hX j)).trans (h.keeps.block b aq hX),
  fun aq hX hc=>hk.cell (Nat.lt_of_lt_of_le aq h.size) (fun hf=>hf.elim (fun h=>by omega) hX) (h.keeps.cell aq hX hc)⟩
variable {M0:Nat→Nat→Prop} {w0:Bas} {N:Nm} {p:Pl} {st:VS} {a:Act} {w:World}
theorem Rel.bagPend {w':World} {p':Pl} {id k e sz d:Nat} {ak:Option Nat} {qs:List (List (List AV))} {tx:List (List AV)} {v:Value} {cur:Array Value} (R:Rel M0 w0 N p st a w) (hd:N.has d)
  (hi:st.h[id]? = some (some (.bag e sz false ak qs))) (_hk:k < qs.length) (gq:ak=none∨ak=some k) (bK:w.heap[p id]? = some (.cells cur e (0,0)))
  (je:∀ (i:Nat) (cs:List AV),st.h[i]? = some (some (.box cs))→∀ c∈cs,dA id 5 c=true)
  (kM:w'.os=w.os) (kO:w'.tape=w.tape) (kP:w'.output=w.output) (hK:Keeps (fun b j=>p.S id b j) w w')
  (eJ:∀ i,p' i=p i) (ga:∀ i,i≠id→p'.S i=p.S i)
  (Cn:∀ b j,p'.S id b j→Fr w0 b j∧b < w'.heap.size) (y_:∀ j,¬p'.S id (p id) j) (wA:∀ (i:Nat) (ob:Ob),i≠id→st.h[i]? = some (some ob)→cn ob=true→∀ b j j',p.O i b j→¬p'.S id b j') (Co:∀ b j,b < w.heap.size→p'.S id b j→p.S id b j)
  (CE:∀ (k':Nat) (v':Value),k' < qs.length→k'≠k→cur[k']? = some v'→Spare w p id sz v'→Spare w' p' id sz v')
  (cR:V0 w' (Mof M0 (st.h.set id (some (.bag e sz false (some k) qs))) p') (.sl sz tx) v) (fY:Spare w' p' id sz v) (qQ:∀ (k':Nat) (v':Value),k' < qs.length→k'≠k→cur[k']? = some v'→Dist v v') :
  Rel M0 w0 N p' ⟨(d,.slw id k sz tx)::st.s.map (fun q=>(q.1,unW id q.2)),st.h.set id (some (.bag e sz false (some k) qs))⟩ (a.put (some d) v) w':=by
 obtain ⟨iF,dN⟩:=R.objs id _ hi;rw [if_neg (by simp)] at dN;obtain ⟨b1,b2,cur0,b3,b4,b5,b6⟩:=dN;have:cur0=cur:=by rw [bK] at b3;injection b3 with b3;injection b3 with b3;exact b3.symm
 subst this;have hid:=(List.getElem?_eq_some_iff.1 hi).1;have bP:cn (Ob.bag e sz false ak qs)=true:=rfl;have fV:∀ k',k'≠k→ak≠some k':=fun k' hn=>by rcases gq with h|h<;>rw [h]<;>simp [Ne.symm hn]
 generalize uU:st.h.set id (some (Ob.bag e sz false (some k) qs))=h2 at *;have gw:h2.length=st.h.length:=by rw [←uU];simp
 have eN:h2[id]? = some (some (Ob.bag e sz false (some k) qs)):=by rw [←uU];exact List.getElem?_set_self hid
 have dw:∀ (i:Nat) (ob:Ob),i≠id→h2[i]? = some (some ob)→st.h[i]? = some (some ob):=fun i ob hn h=>by rwa [←uU,List.getElem?_set_ne (Ne.symm hn)] at h
 have jl:∀ {i b j},i≠id→(p'.O i b j↔p.O i b j):=fun {i b j} hn=>by unfold Pl.O;rw [eJ,ga i hn]
 have hM:∀ b j,b < w.heap.size→¬Mof M0 st.h p b j→¬Mof M0 h2 p' b j:=fun b j aq hn hm=>by
  rcases hm with hm|⟨i,o,aG,bs,hO⟩
  ·exact hn (.inl hm)
  ·by_cases he:i=id
   ·subst he;rcases hO with hO|hO
    ·exact hn (.inr ⟨i,_,hi,bP,.inl (by rw [←eJ];exact hO)⟩)
    ·exact hn (.inr ⟨i,_,hi,bP,.inr (Co b j aq hO)⟩)
   ·exact hn (.inr ⟨i,o,dw i o he aG,bs,(jl he).1 hO⟩)
 have wB:Keeps (Mof M0 st.h p) w w':=hK.mono fun b j _ hS=>.inr ⟨id,_,hi,bP,.inr hS⟩;have Nq:Keeps (Fr w0) w w':=hK.mono fun b j _ hS=>(b1 b j (.inr hS)).1;have ax:∀ i o,i≠id→st.h[i]? = some (some o)→cn o=true→∀ b j,p.O i b j→b < w.heap.size→w'.heap[b]? = w.heap[b]?:=fun i o hn aG bs b j hO aq=>hK.block b aq fun j' hS=>hn (R.inj i id o _ aG hi bs bP b j j' hO (.inr hS));have aq:=(b1 (p id) 0 (.inl rfl)).2;have cL:w'.heap[p id]? = w.heap[p id]?:=hK.block _ aq b2;have dE:∀ {x:AV} {u:Value},V0 w (Mof M0 st.h p) x u→V0 w' (Mof M0 h2 p') x u:=fun hx=>hx.keep wB hM;have hV:∀ {x:AV} {u:Value},V1 w (Mof M0 st.h p) st.h p x u→dA id 5 x=true→V1 w' (Mof M0 h2 p') h2 p' x u:=fun {x u} hx hn=>
  V1.bag wB hM (by omega) eJ (fun i e' bw nl es' v' he hv=>by
   by_cases gI:i=id
   ·subst gI;rw [eN] at he;cases he
   ·have aG:=dw i _ gI he;exact (hv _ _ _ _ aG).keep fun aL hl=>ax i _ gI aG (by rw [aL];rfl) _ 0 (.inl rfl) hl) (fun i e' bw nl m_ pn v' he hv=>by
   by_cases gI:i=id
   ·subst gI;rw [eN] at he;simp only [Option.some.injEq,Ob.bag.injEq] at he;obtain ⟨rfl,rfl,rfl,rfl,rfl⟩:=he;exact (hv _ _ _ _ _ hi).keep fun _ _=>cL
   ·have aG:=dw i _ gI he;exact (hv _ _ _ _ _ aG).keep fun aL hl=>ax i _ gI aG (by rw [aL];rfl) _ 0 (.inl rfl) hl) (fun i k' bw v' hn _ hs=>hs.keep (fun e' rK xx pn he=>by
   have aG:=dw i _ hn he;exact ⟨aG,eJ i,ga i hn,fun b j hO hl=>ax i _ hn aG rfl b j hO hl⟩) hK.size) 5 x u hx hn
 have hU:∀ {x:AV} {u:Value},V1 w (Mof M0 st.h p) st.h p x u→V1 w' (Mof M0 h2 p') h2 p' (unW id x) u:=fun {x u} hx=>by
  by_cases hs:∃ i k sz es,x = .slw i k sz es
  ·obtain ⟨i,k',bw,es',rfl⟩:=hs;by_cases hn:i=id
   ·rw [show unW id (.slw i k' bw es') = .sl bw es' from if_pos hn];exact .base _ _ (dE hx.slw_inv.2.1)
   ·rw [show unW id (.slw i k' bw es') = .slw i k' bw es' from if_neg hn];exact hV hx (by simpa [dA] using hn)
  ·have e:unW id x=if dA id 5 x=true then x else .any:=by cases x<;>first|rfl|exact absurd ⟨_,_,_,_,rfl⟩ hs
   rw [e];split
   ·rename_i hn;exact hV hx hn
   ·exact .base _ _ (.any _)
 refine ⟨R.defers,R.size.put hd,R.below.keepF kM kO kP Nq,R.m0,R.x0,fun i=>?_,fun i o aG=>?_,fun i i' o o' aG bn bs dX x j j' hO ct=>?_⟩
 ·rw [mr a d _ i (R.size.lt hd)];simp only [lkp];split
  ·refine .slw id k sz tx v (by omega) cR fun e' bw xx pn he=>?_;rw [eN] at he;simp only [Option.some.injEq,Ob.bag.injEq] at he;obtain ⟨rfl,rfl,_,rfl,rfl⟩:=he;refine ⟨rfl,fY,by rw [eJ];exact Nat.lt_of_lt_of_le aq hK.size,fun cur' J0 k' v' hc dF rL _ bA=>?_⟩;rw [eJ,cL,bK] at hc;injection hc with hc
   injection hc with hc _ _
   subst hc;exact qQ k' v' dF rL bA
  ·rw [mZ];exact hU (R.slots i)
 ·by_cases gI:i=id
  ·subst gI;rw [eN] at aG;simp only [Option.some.injEq] at aG;subst aG;refine ⟨iF,?_⟩;rw [if_neg (by simp)];refine ⟨fun b j hO=>?_,fun j=>by rw [eJ];exact y_ j,cur0,by rw [eJ,cL];exact bK,b4,fun k0 x hx=>?_,fun k1 k2 v1 v2 h1 h2 nJ vj oG e1 e2=>b6 k1 k2 v1 v2 h1 h2 nJ (fV k1 fun h=>vj (by rw [h])) (fV k2 fun h=>oG (by rw [h])) e1 e2⟩
   ·rcases hO with hO|hO
    ·have:=b1 b j (.inl (by rw [←eJ];exact hO));exact ⟨this.1,Nat.lt_of_lt_of_le this.2 hK.size⟩
    ·exact Cn b j hO
   ·obtain ⟨v1,g1,g2,g3⟩:=b5 k0 x hx;refine ⟨v1,g1,dE g2,fun Nr=>?_⟩;have l7:k0≠k:=fun h=>Nr (by rw [h]);exact CE k0 v1 (List.getElem?_eq_some_iff.1 hx).1 l7 g1 (g3 (fV k0 l7))
  ·have bn:=dw i o gI aG;exact (R.objs i o bn).keep (fun _=>⟨eJ i,ga i gI⟩) (fun bs b j hO hl=>ax i o gI bn bs b j hO hl) hK.size dE fun cs bW c hc u hx=>hV hx (je i cs (by rw [bn,bW]) c hc)
 ·by_cases h1:i=id
  ·by_cases h2:i'=id
   ·rw [h1,h2]
   ·subst h1;have pT:=dw i' o' h2 bn;have ky:=(jl h2).1 ct;rcases hO with hO|hO
    ·exact R.inj i i' _ o' hi pT bP dX x j j' (.inl (by rw [←eJ];exact hO)) ky
    ·exact absurd hO (wA i' o' h2 pT dX x j' j ky)
  ·have l_:=dw i o h1 aG;have nK:=(jl h1).1 hO;by_cases h2:i'=id
   ·subst h2;rcases ct with ct|ct
    ·exact R.inj i i' o _ l_ hi bs bP x j j' nK (.inl (by rw [←eJ];exact ct))
    ·exact absurd ct (wA i o h1 l_ bs x j j' nK)
   ·exact R.inj i i' o o' l_ (dw i' o' h2 bn) bs dX x j j' nK ((jl h2).1 ct)
end
section
variable {P:Program} {M0:Nat→Nat→Prop} {w0:Bas} {N:Nm} {p:Pl} {st:VS} {a:Act} {w:World}
theorem V0.row1 {M:Nat→Nat→Prop} {es:List (List AV)} {A:Option Addr} {n cap:Nat} (h:V0 w M (.sl 1 es) (.slice A n cap)) :
  n=es.length∧(∀ (k:Nat) (x:List AV),es[k]? = some x→x.length=1∧∀ c∈x,cQ c=true)∧(0 < n→∃ b o,A=some ⟨b,o,none⟩∧b < w.heap.size ∧
   ∀ k,k < n→¬M b (o+k)∧∃ u,w.cell? ⟨b,o+k,none⟩=some u∧∀ (x:List AV) (c:AV),es[k]? = some x→x[0]? = some c→V0 w M c u):=by
 cases h with
 | slNil=>exact ⟨rfl,by simp,fun h=>by omega⟩
 | sl _ _ _ b o u ax hb hM dy aM h1 hc hv=>
  refine ⟨rfl,fun k x hx=>⟨aM k x hx,fun c hc=>?_⟩,fun _=>⟨b,o,rfl,hb,fun k hk=>⟨?_,u k 0,?_,fun x c hx hc=>hv k x 0 c hx hc⟩⟩⟩
  ·obtain ⟨j,hj⟩:=List.mem_iff_getElem?.1 hc;exact h1 k x j c hx hj
  ·have:=hM k 0 hk (by decide);simpa using this
  ·have:=hc k 0 hk (by decide);simpa using this
theorem Rel.bagApp {t ty e id k d:Nat} {ti te:TI} {ak:Option Nat} {qs:List (List (List AV))} {es:List (List AV)} {x:AV} {vx vy:Value} (R:Rel M0 w0 N p st a w) (hd:N.has d) (aV:aU P t=some ti) (iO:ti.kind=1) (fD:aU P ti.elem=some te) (h1:te.size=1) (h2:te.zero.length=1) (gR:te.bytes≤100000)
  (hi:st.h[id]? = some (some (.bag e 1 false ak qs))) (hk:k < qs.length) (gq:ak=none∨ak=some k) (je:∀ (i:Nat) (cs:List AV),st.h[i]? = some (some (.box cs))→∀ c∈cs,dA id 5 c=true)
  (hx:V1 w (Mof M0 st.h p) st.h p (.slw id k 1 es) vx) (hy:V0 w (Mof M0 st.h p) (.sl 1 [[x]]) vy) (fU:es.length+1≤1000000000) :
  ∃ v w' p',(Builtin.append_ #[t,t] ty #[vx,vy]).run P w = .ok v w'∧Rel M0 w0 N p' ⟨(d,.slw id k 1 (es++[[x]]))::st.s.map (fun q=>(q.1,unW id q.2)),st.h.set id (some (.bag e 1 false (some k) qs))⟩ (a.put (some d) v) w':=by
 obtain ⟨hb1,hb2,cur,bK,Ra,Ns,Rb⟩:=R.bagRow hi;obtain ⟨_,h0,hs⟩:=hx.slw_inv;obtain ⟨_,fY,Nt,qQ⟩:=hs _ _ _ _ hi;obtain ⟨A,n,cap,rfl,hle,fY⟩:=fY;obtain ⟨rfl,cO,de⟩:=h0.row1;obtain ⟨dd,inf,z,eg,gD,hz,iM,g_⟩:=e_ fD;have bI:inf.size=1:=by rw [←h1,g_]
 have fX:z.cells.size=1:=by rw [←h2,g_,Array.length_toList]
 have l8:inf.bytes≤100000:=by rw [g_] at gR;exact gR
 have hu:=lu aV iO;have bP:cn (Ob.bag e 1 false ak qs)=true:=rfl;have fV:∀ k',k'≠k→ak≠some k':=fun k' hn=>by rcases gq with h|h<;>rw [h]<;>simp [Ne.symm hn]
 have hid:=(List.getElem?_eq_some_iff.1 hi).1;have dw:∀ (i:Nat) (ob:Ob),i≠id→(st.h.set id (some (Ob.bag e 1 false (some k) qs)))[i]? = some (some ob)→st.h[i]? = some (some ob):=fun i ob hn h=>by rwa [List.getElem?_set_ne (Ne.symm hn)] at h
 obtain ⟨ay,cy,u0,rfl,qY,sJ,b_⟩ : ∃ (ay:Addr) (cy:Nat) (u0:Value),vy = .slice (some ay) 1 cy∧w.cell? (ay.add 0)=some u0∧V0 w (Mof M0 st.h p) x u0∧cQ x=true:=by
  cases hy with
  | sl _ _ dn b o u ax hb hM dy aM ho hc hv=>
   refine ⟨⟨b,o,none⟩,dn,u 0 0,rfl,?_,hv 0 _ 0 _ rfl rfl,ho 0 _ 0 _ rfl rfl⟩;have:=hc 0 0 (by simp) (by decide);rw [jn];simpa using this
 have wv:=sJ.one b_;have wK:∀ (k':Nat) (v':Value),k' < qs.length→k'≠k→cur[k']? = some v'→Dist (.slice A es.length cap) v':=fun k' v' dF ax bA=>qQ cur e k' v' bK dF ax (fV k' ax) bA;have wL:∀ (k':Nat) (v':Value),k' < qs.length→k'≠k→cur[k']? = some v'→Spare w p id 1 v':=fun k' v' dF ax bA=>by
  obtain ⟨v2,g1,_,g3⟩:=Ns k' _ (List.getElem?_eq_getElem dF);rw [bA] at g1;obtain rfl:=Option.some.inj g1;exact g3 (fV k' ax)
 have lB:(es++[[x]]).length=es.length+1:=by simp
 have mb:∀ (k:Nat) (y:List AV),(es++[[x]])[k]? = some y→y.length=1∧∀ c∈y,cQ c=true:=fun k y hy=>by
  rcases Nat.lt_or_ge k es.length with hl|hl
  ·rw [List.getElem?_append_left hl] at hy;exact cO k y hy
  ·rw [List.getElem?_append_right hl] at hy;cases hj:k - es.length with
   | zero=>rw [hj] at hy;simp at hy;subst hy;exact ⟨rfl,by simpa using b_⟩
   | succ j=>rw [hj] at hy;simp at hy
 by_cases eT:es.length+1≤cap
 ·obtain ⟨b,o,sK,tb,rfl,wM,iJ,gb,_,GR,hS⟩:=fY (by omega);simp only [Nat.mul_one] at iJ hS;have uz:=hS (o+es.length) (Nat.le_refl _);have aD:=run_append_room_cells (P:=P) w t ty ti.elem inf hu gD b o es.length cap ay 1 cy [u0] (by simp [bI]) (fun j u hj=>by
   cases j with
   | zero=>simp at hj;rw [←hj];exact qY
   | succ j=>simp at hj) (by simpa using wv) eT (fun j hj=>by
   obtain rfl:j=0:=by simpa using hj
   rw [bI,cell_of_row w b _ sK tb (0,0) wM];have:o+es.length*1+0 < sK.size:=by omega
   simpa using this) (fun j hj=>by simp [World.frozen?,wM])
  rw [bI,Nat.mul_one] at aD;have zr:∀ b' j,¬Mof M0 st.h p b' j→¬Mof M0 (st.h.set id (some (Ob.bag e 1 false (some k) qs))) ⟨p.b,fun i=>if i=id then fun b' j=>p.S id b' j∧¬(b'=b∧j=o+es.length) else p.S i⟩ b' j:=fun b' j hn hm=>by
   rcases hm with hm|⟨i,ob,aG,bs,hO⟩
   ·exact hn (.inl hm)
   ·by_cases he:i=id
    ·subst he;rcases hO with hO|hO
     ·exact hn (.inr ⟨i,_,hi,bP,.inl hO⟩)
     ·simp only [if_true] at hO;exact hn (.inr ⟨i,_,hi,bP,.inr hO.1⟩)
    ·refine hn (.inr ⟨i,ob,dw i ob he aG,bs,?_⟩);rcases hO with hO|hO
     ·exact .inl hO
     ·simp only [if_neg he] at hO;exact .inr hO
  have GS:Keeps (fun b j=>p.S id b j) w (w.setCells b (o+es.length) [u0]):=by
   refine ⟨by rw [vA];exact Nat.le_refl _,fun b' _ hn=>xY u0 fun he=>hn (o+es.length) (by rw [he];exact uz),fun {b' o' v'} _ hn hc=>?_⟩;rw [World.cell?_setCells_out b [u0] (o+es.length) w ⟨b',o',none⟩ fun h1 _=>?_]
   ·exact hc
   ·simp only at h1 ⊢;have:o'≠o+es.length:=fun he=>hn (by rw [h1,he];exact uz);simp only [List.length_singleton];omega
  have dq:=(Array.getElem?_eq_some_iff.1 wM).1;refine ⟨_,_,_,aD,R.bagPend (p':=⟨p.b,fun i=>if i=id then fun b' j=>p.S id b' j∧¬(b'=b∧j=o+es.length) else p.S i⟩) hd hi hk gq bK je rfl rfl rfl GS (fun _=>rfl) (fun i hn=>by simp only [if_neg hn]) (fun b' j h=>?_) (fun j h=>?_) (fun i ob hn aG bs b' j j' hO h=>?_) (fun b' j _ h=>?_) (fun k' v' dF ax bA CF=>?_) ?_ ?_ fun k' v' dF ax bA=>?_⟩
  ·simp only [if_true] at h;have:=hb1 b' j (.inr h.1);exact ⟨this.1,by rw [vA];exact this.2⟩
  ·simp only [if_true] at h;exact hb2 j h.1
  ·simp only [if_true] at h;exact hn (R.inj i id ob _ aG hi bs bP b' j j' hO (.inr h.1))
  ·simp only [if_true] at h;exact h.1
  ·obtain ⟨A2,n2,nG,rfl,q2,q3⟩:=CF;refine ⟨A2,n2,nG,rfl,q2,fun aq=>?_⟩;obtain ⟨b2,o2,kU,t2,rfl,g2,g3,g4,g5,g6,g7⟩:=q3 aq;have uA:b≠b2:=wK k' _ dF ax bA b o es.length cap b2 o2 n2 nG rfl rfl (by omega) aq;refine ⟨b2,o2,kU,t2,rfl,by rw [xY u0 (Ne.symm uA)];exact g2,g3,g4,g5,g6,fun j hj=>?_⟩;simp only [if_true];exact ⟨g7 j hj,fun h=>uA h.1.symm⟩
  ·have aE:∀ k1,k1 < es.length+1→∃ u,(w.setCells b (o+es.length) [u0]).cell? ⟨b,o+k1,none⟩=some u∧∀ (y:List AV) (c:AV),(es++[[x]])[k1]? = some y→y[0]? = some c→V0 (w.setCells b (o+es.length) [u0]) (Mof M0 (st.h.set id (some (Ob.bag e 1 false (some k) qs))) ⟨p.b,fun i=>if i=id then fun b' j=>p.S id b' j∧¬(b'=b∧j=o+es.length) else p.S i⟩) c u:=fun k1 iA=>by
    have dQ:∀ {c:AV} {u:Value},V0 w (Mof M0 st.h p) c u→V0 (w.setCells b (o+es.length) [u0]) (Mof M0 (st.h.set id (some (Ob.bag e 1 false (some k) qs))) ⟨p.b,fun i=>if i=id then fun b' j=>p.S id b' j∧¬(b'=b∧j=o+es.length) else p.S i⟩) c u:=fun hv=>hv.keep (GS.mono fun b j _ hS=>.inr ⟨id,_,hi,bP,.inr hS⟩) fun b j _=>zr b j;rcases Nat.lt_or_ge k1 es.length with hl|hl
    ·obtain ⟨b3,o3,hA,_,cG⟩:=de (by omega);simp only [Option.some.injEq,Addr.mk.injEq] at hA;obtain ⟨rfl,rfl,_⟩:=hA;obtain ⟨_,u,g1,g2⟩:=cG k1 hl;refine ⟨u,?_,fun y c hy hc=>dQ (g2 y c (by rwa [List.getElem?_append_left hl] at hy) hc)⟩;rw [World.cell?_setCells_out b [u0] (o+es.length) w ⟨b,o+k1,none⟩ fun _ _=>.inl (by simp only;omega)];exact g1
    ·obtain rfl:k1=es.length:=by omega
     refine ⟨u0,?_,fun y c hy hc=>?_⟩
     ·rw [cell_of_row _ b _ _ tb (0,0) (xX u0 wM)];have:o+es.length < sK.size:=by omega
      simp [this]
     ·rw [List.getElem?_append_right (Nat.le_refl _),Nat.sub_self] at hy;simp at hy;subst hy;simp at hc;subst hc;exact dQ sJ
   have hv:=V0.sl (w:=w.setCells b (o+es.length) [u0]) (M:=Mof M0 (st.h.set id (some (Ob.bag e 1 false (some k) qs))) ⟨p.b,fun i=>if i=id then fun b' j=>p.S id b' j∧¬(b'=b∧j=o+es.length) else p.S i⟩) 1 (es++[[x]]) cap b o (fun k1 _=>((w.setCells b (o+es.length) [u0]).cell? ⟨b,o+k1,none⟩).getD undef) (by simp) (by rw [vA];exact dq) (fun k1 j iA hj hm=>?_) (by omega) (fun k1 y hy=>(mb k1 y hy).1) (fun k1 y j c hy hc=>(mb k1 y hy).2 c (List.mem_of_getElem? hc)) (fun k1 j iA hj=>?_) fun k1 y j c hy hc=>?_
   ·rw [lB] at hv;exact hv
   ·obtain rfl:j=0:=by omega
    simp only [Nat.mul_one,Nat.add_zero] at hm;rcases Nat.lt_or_ge k1 es.length with hl|hl
    ·obtain ⟨b3,o3,hA,_,cG⟩:=de (by omega);simp only [Option.some.injEq,Addr.mk.injEq] at hA;obtain ⟨rfl,rfl,_⟩:=hA;exact zr _ _ (cG k1 hl).1 hm
    ·obtain rfl:k1=es.length:=by omega
     rcases hm with hm|⟨i,ob,aG,bs,hO⟩
     ·exact R.h0 _ _ hm (hb1 _ _ (.inr uz)).1
     ·by_cases he:i=id
      ·subst he;rcases hO with hO|hO
       ·exact GR hO.symm
       ·simp only [if_true] at hO;exact hO.2 ⟨trivial,trivial⟩
      ·refine he (R.inj i id ob _ (dw i ob he aG) hi bs bP b (o+es.length) (o+es.length) ?_ (.inr uz));rcases hO with hO|hO
       ·exact .inl hO
       ·simp only [if_neg he] at hO;exact .inr hO
   ·obtain rfl:j=0:=by omega
    obtain ⟨u,g1,_⟩:=aE k1 (by omega);simp only [Nat.mul_one,Nat.add_zero];rw [g1];rfl
   ·obtain ⟨u,g1,g2⟩:=aE k1 (by rw [←lB];exact (List.getElem?_eq_some_iff.1 hy).1);have kL:j=0:=by
     have:=(mb k1 y hy).1;have:=(List.getElem?_eq_some_iff.1 hc).1;omega
    subst kL;rw [g1];exact g2 y c hy hc
  ·refine ⟨_,_,_,rfl,eT,fun aq=>⟨b,o,_,tb,rfl,xX u0 wM,by simpa using iJ,gb,Nat.one_pos,GR,fun j hj=>?_⟩⟩;show (if id=id then _ else _:Nat→Nat→Prop) b j;rw [if_pos rfl];exact ⟨hS j (by omega),fun h=>by omega⟩
  ·intro b3 o3 n3 c3 b4 o4 n4 c4 e3 e4 l3 l4;simp only [Value.slice.injEq,Option.some.injEq,Addr.mk.injEq] at e3;obtain ⟨⟨rfl,rfl,_⟩,rfl,rfl⟩:=e3;exact wK k' v' dF ax bA b o es.length cap b4 o4 n4 c4 rfl e4 (by omega) l4
 ·have hA:A=none→es.length=0∧cap=0:=fun h=>by
   have:¬0 < es.length:=fun hl=>by
    obtain ⟨b,o,hA,_⟩:=de hl;rw [h] at hA;cases hA
   omega
  obtain ⟨g,dn,pW,w',aD,dr,qZ,hg,j_,gb,bW,hold,fa,cp⟩:=CC (P:=P) (w:=w) (ty:=ty) (c:=cy) hu gD hz bI fX l8 (A:=A) (n:=es.length) (cap:=cap) (olds:=(List.range es.length).map fun k=>match A with|some a0=>(w.cell? (a0.add k)).getD undef|none=>undef) hA (by simp) (fun a0 h0 j u hj=>by
   subst h0;have bB:j < es.length:=by simpa using (List.getElem?_eq_some_iff.1 hj).1
   rw [List.getElem?_map,List.getElem?_range bB] at hj;simp only [Option.map_some,Option.some.injEq] at hj;obtain ⟨b,o,hA,_,cG⟩:=de (by omega);simp only [Option.some.injEq] at hA;subst hA;obtain ⟨_,u1,g1,_⟩:=cG j bB;rw [jn,g1] at hj;rw [jn,g1,←hj];rfl) qY (by omega) fU
  have zr:∀ b' j,b' < w.heap.size→¬Mof M0 st.h p b' j→¬Mof M0 (st.h.set id (some (Ob.bag e 1 false (some k) qs))) ⟨p.b,fun i=>if i=id then fun b' j=>p.S id b' j∨(b'=g∧es.length+1≤j) else p.S i⟩ b' j:=fun b' j aq hn hm=>by
   rcases hm with hm|⟨i,ob,aG,bs,hO⟩
   ·exact hn (.inl hm)
   ·by_cases he:i=id
    ·subst he;rcases hO with hO|hO
     ·exact hn (.inr ⟨i,_,hi,bP,.inl hO⟩)
     ·simp only [if_true] at hO;rcases hO with hO|⟨rfl,_⟩
      ·exact hn (.inr ⟨i,_,hi,bP,.inr hO⟩)
      ·omega
    ·refine hn (.inr ⟨i,ob,dw i ob he aG,bs,?_⟩);rcases hO with hO|hO
     ·exact .inl hO
     ·simp only [if_neg he] at hO;exact .inr hO
  have dQ:∀ {c:AV} {u:Value},V0 w (Mof M0 st.h p) c u→V0 w' (Mof M0 (st.h.set id (some (Ob.bag e 1 false (some k) qs))) ⟨p.b,fun i=>if i=id then fun b' j=>p.S id b' j∨(b'=g∧es.length+1≤j) else p.S i⟩) c u:=fun hv=>hv.keep (.of_below cp) zr;refine ⟨_,_,_,aD,R.bagPend (p':=⟨p.b,fun i=>if i=id then fun b' j=>p.S id b' j∨(b'=g∧es.length+1≤j) else p.S i⟩) hd hi hk gq bK je cp.os cp.tape cp.output (.of_below cp) (fun _=>rfl) (fun i hn=>by simp only [if_neg hn]) (fun b' j h=>?_) (fun j h=>?_) (fun i ob hn aG bs b' j j' hO h=>?_) (fun b' j aq h=>?_) (fun k' v' dF ax bA CF=>?_) ?_ ?_ fun k' v' dF ax bA=>?_⟩
  ·simp only [if_true] at h;rcases h with h|⟨rfl,_⟩
   ·have:=hb1 b' j (.inr h);exact ⟨this.1,Nat.lt_of_lt_of_le this.2 cp.size⟩
   ·exact ⟨.inl (Nat.le_trans R.below.size dr),qZ⟩
  ·simp only [if_true] at h;rcases h with h|⟨h,_⟩
   ·exact hb2 j h
   ·omega
  ·simp only [if_true] at h;rcases h with h|⟨rfl,_⟩
   ·exact hn (R.inj i id ob _ aG hi bs bP b' j j' hO (.inr h))
   ·have:=((R.objs i ob aG).own bs b' j hO).2;omega
  ·simp only [if_true] at h;rcases h with h|⟨rfl,_⟩
   ·exact h
   ·omega
  ·refine Spare.mono (p:=p) rfl (fun b j h=>?_) (fun b j _ aq=>cp.block b aq) CF;simp only [if_true];exact .inl h
  ·have aE:∀ k1,k1 < es.length+1→∃ u,pW[k1]? = some u∧∀ (y:List AV) (c:AV),(es++[[x]])[k1]? = some y→y[0]? = some c→V0 w' (Mof M0 (st.h.set id (some (Ob.bag e 1 false (some k) qs))) ⟨p.b,fun i=>if i=id then fun b' j=>p.S id b' j∨(b'=g∧es.length+1≤j) else p.S i⟩) c u:=fun k1 iA=>by
    rcases Nat.lt_or_ge k1 es.length with hl|hl
    ·obtain ⟨b3,o3,rfl,_,cG⟩:=de (by omega);obtain ⟨_,u,g1,g2⟩:=cG k1 hl;refine ⟨u,?_,fun y c hy hc=>dQ (g2 y c (by rwa [List.getElem?_append_left hl] at hy) hc)⟩;rw [hold k1 hl,List.getElem?_map,List.getElem?_range hl];simp only [Option.map_some,jn,g1,Option.getD_some]
    ·obtain rfl:k1=es.length:=by omega
     refine ⟨u0,fa,fun y c hy hc=>?_⟩;rw [List.getElem?_append_right (Nat.le_refl _),Nat.sub_self] at hy;simp at hy;subst hy;simp at hc;subst hc;exact dQ sJ
   have hv:=V0.sl (w:=w') (M:=Mof M0 (st.h.set id (some (Ob.bag e 1 false (some k) qs))) ⟨p.b,fun i=>if i=id then fun b' j=>p.S id b' j∨(b'=g∧es.length+1≤j) else p.S i⟩) 1 (es++[[x]]) dn g 0 (fun k1 _=>(pW[k1]?).getD undef) (by simp) qZ (fun k1 j iA hj hm=>?_) (by omega) (fun k1 y hy=>(mb k1 y hy).1) (fun k1 y j c hy hc=>(mb k1 y hy).2 c (List.mem_of_getElem? hc)) (fun k1 j iA hj=>?_) fun k1 y j c hy hc=>?_
   ·rw [lB] at hv;exact hv
   ·obtain rfl:j=0:=by omega
    simp only [Nat.mul_one,Nat.add_zero,Nat.zero_add] at hm;rcases hm with hm|⟨i,ob,aG,bs,hO⟩
    ·have:=R.lt g k1 (.inl hm);omega
    ·by_cases he:i=id
     ·subst he;rcases hO with hO|hO
      ·have:p.b i=g:=hO;omega
      ·simp only [if_true] at hO;rcases hO with hO|⟨_,hO⟩
       ·have:=(hb1 _ _ (.inr hO)).2;omega
       ·omega
     ·have ky:p.O i g k1:=by
       rcases hO with hO|hO
       ·exact .inl hO
       ·simp only [if_neg he] at hO;exact .inr hO
      have:=((R.objs i ob (dw i ob he aG)).own bs g k1 ky).2;omega
   ·obtain rfl:j=0:=by omega
    obtain ⟨u,g1,_⟩:=aE k1 (by omega);simp only [Nat.mul_one,Nat.add_zero,Nat.zero_add];rw [cell_of_row w' g _ pW ti.elem (0,0) hg,g1];rfl
   ·obtain ⟨u,g1,g2⟩:=aE k1 (by rw [←lB];exact (List.getElem?_eq_some_iff.1 hy).1);have kL:j=0:=by
     have:=(mb k1 y hy).1;have:=(List.getElem?_eq_some_iff.1 hc).1;omega
    subst kL;rw [g1];exact g2 y c hy hc
  ·refine ⟨_,_,_,rfl,j_,fun aq=>⟨g,0,pW,ti.elem,rfl,hg,by omega,gb,Nat.one_pos,?_,fun j hj=>?_⟩⟩
   ·show g≠p.b id;omega
   ·simp only [if_true];exact .inr ⟨trivial,by omega⟩
  ·intro b3 o3 n3 c3 b4 o4 n4 c4 e3 e4 l3 l4;simp only [Value.slice.injEq,Option.some.injEq,Addr.mk.injEq] at e3;obtain ⟨⟨rfl,_,_⟩,_,_⟩:=e3;obtain ⟨A2,n2,nG,q1,_,q3⟩:=wL k' v' dF ax bA;rw [e4] at q1;simp only [Value.slice.injEq] at q1;obtain ⟨rfl,rfl,rfl⟩:=q1;obtain ⟨b5,o5,_,_,q4,q5,_⟩:=q3 l4;simp only [Option.some.injEq,Addr.mk.injEq] at q4;obtain ⟨rfl,rfl,_⟩:=q4;have:=(Array.getElem?_eq_some_iff.1 q5).1;omega
end
def mY (P:Program) (st:VS) (o:Oper) : Option VS:=
 match o.op with
 | .store t x y=>match o.dst,aU P t,ev st x with
  | none,some ti,.aref id sz i off=>match st.h[id]? with
   | some (some (.bag e bw nl ak qs))=>if sz=1∧off=0∧nl=false∧i < qs.length∧(ak=none∨ak=some i)∧ti.size=1∧st.h.all (rJ id)=true then
     (match ev st y with
     | .slw fp k oz es=>if fp=id∧k=i∧oz=bw then some ⟨st.s.map fun q=>(q.1,unW id q.2),st.h.set id (some (.bag e bw false none (qs.set i es)))⟩ else none
     | .osl r=>match st.h[r]? with
      | some (some (.arr _ oz _ GU))=>if oz=bw then some ⟨st.s.map fun q=>(q.1,unW id q.2),(st.h.set r none).set id (some (.bag e bw false none (qs.set i GU)))⟩ else none
      | _=>none
     | _=>none) else none
   | _=>none
  | _,_,_=>none
 | .call ⟨.builtin .append,xs,ts⟩=>match xs.toList,ts.toList,o.dst with
  | [x,y],[t,t'],some d=>match aU P t,ev st x,ev st y with
   | some ti,.slw id k sz es,.sl bw [[c]]=>match st.h[id]? with
    | some (some (.bag e GV nl ak qs))=>match aU P ti.elem with
     | some te=>if t=t'∧ti.kind=1∧te.size=1∧te.zero.length=1∧te.bytes≤100000∧sz=1∧bw=1∧GV=1∧nl=false∧k < qs.length∧(ak=none∨ak=some k)∧st.h.all (rJ id)=true∧es.length+1≤1000000000 then
       some ⟨(d,.slw id k 1 (es++[[c]]))::st.s.map (fun q=>(q.1,unW id q.2)),st.h.set id (some (.bag e 1 false (some k) qs))⟩ else none
     | none=>none
    | _=>none
   | _,_,_=>none
  | _,_,_=>none
 | _=>none
section
variable {P:Program} {M0:Nat→Nat→Prop} {w0:Bas} {N:Nm} {p:Pl} {st:VS} {a:Act} {w:World}
theorem vg {h:Hp} {id:Nat} (hb:h.all (rJ id)=true) (i:Nat) (cs:List AV) (hi:h[i]? = some (some (.box cs))) (c:AV) (hc:c∈cs) : dA id 5 c=true:=by
 have:=List.all_eq_true.1 hb _ (List.mem_of_getElem? hi);exact List.all_eq_true.1 this c hc
theorem Nu {v:Value} (h:∃ A n c,v = .slice A n c) : v.cells.toList=[v]:=by
 obtain ⟨A,n,c,rfl⟩:=h;rfl
theorem V0.sl_form {M:Nat→Nat→Prop} {sz:Nat} {es:List (List AV)} {v:Value} (h:V0 w M (.sl sz es) v) : ∃ A n c,v = .slice A n c:=by
 cases h with
 | slNil _ A c=>exact ⟨A,0,c,rfl⟩
 | sl _ _ c b o u=>exact ⟨_,_,c,rfl⟩
theorem GW {t:TypeId} {ti:TI} {id i e:Nat} {cur:Array Value} {v:Value} (aV:aU P t=some ti) (h1:ti.size=1) (hv:∃ A n c,v = .slice A n c) (bK:w.heap[p id]? = some (.cells cur e (0,0))) (hi:i < cur.size) :
  (Instr.storeAt t (.pointer (some ⟨p id,i*1+0,none⟩)) v).run P w = .ok () (w.setRow (p id) (cur.setIfInBounds i v)):=by
 have hc:=Nu hv;have:=Cg (P:=P) (w:=w) (o:=i*1+0) aV (v:=v) (by rw [←Array.length_toList,hc,h1];rfl) bK (by omega) (by
  rw [hc];intro x hx;simp only [List.mem_singleton] at hx;subst hx;obtain ⟨A,n,c,rfl⟩:=hv;rfl)
 rw [this,hc];simp only [Nat.mul_one,Nat.add_zero,List.length_singleton];rw [Mx hi]
theorem DZ (R:Rel M0 w0 N p st a w) {o:Oper} {aK:VS} (hd:cW N o=true) (ht:mY P st o=some aK) :
  ∃ v w' p',(execOp a.eval o).run P w = .ok (.value v) w'∧Rel M0 w0 N p' aK (a.put o.dst v) w'∨(execOp a.eval o).run P w = .ok .skip w'∧v=undef∧Rel M0 w0 N p' aK (a.put o.dst undef) w':=by
 have aq:=fh hd;obtain ⟨dst,op,ty,pos,after,guard⟩:=o;simp only at aq;unfold mY at ht;simp only at ht;split at ht
 ·rename_i t x y;split at ht
  ·rename_i ti id sz i off aV hx;split at ht
   ·rename_i e bw nl ak qs hid;split at ht
    ·rename_i hc;obtain ⟨rfl,rfl,rfl,hi,gq,h1,aF⟩:=hc;obtain ⟨_,_,cur,bK,hlen,_,_⟩:=R.bagRow hid;have iL:=R.eval x;rw [hx] at iL;obtain ⟨hq,_⟩:=iL.aref_inv;have jN:=R.eval y;split at ht
     ·rename_i fp k oz es hy;split at ht
      ·rename_i hc;obtain ⟨rfl,rfl,rfl⟩:=hc;simp only [Option.some.injEq] at ht;subst ht;rw [hy] at jN;have aD:=GW (P:=P) (p:=p) aV h1 jN.slw_inv.2.1.sl_form bK (show k < cur.size by omega);exact ⟨undef,_,p,.inr ⟨by simp only [execOp,Sem.run_bind,hq,aD];rfl,rfl,R.bagStore hid hi gq bK (vg aF) jN⟩⟩
      ·cases ht
     ·rename_i r hy;split at ht
      ·rename_i er oz Rc GU hr;split at ht
       ·rename_i hc;subst hc;simp only [Option.some.injEq] at ht;subst ht;rw [hy] at jN;obtain ⟨p',R'⟩:=R.bagTake hid hi gq bK (vg aF) hr jN;obtain ⟨A,n,c,Nv,_⟩:=jN.osl_inv;have aD:=GW (P:=P) (p:=p) aV h1 ⟨A,n,c,Nv⟩ bK (show i < cur.size by omega);exact ⟨undef,_,p',.inr ⟨by simp only [execOp,Sem.run_bind,hq,aD];rfl,rfl,R'⟩⟩
       ·cases ht
      ·cases ht
     ·cases ht
    ·cases ht
   ·cases ht
  ·cases ht
 ·rename_i xs ts;split at ht
  ·rename_i x y t t' d dV qy;split at ht
   ·rename_i ti id k sz es bw c aV hx hy;split at ht
    ·rename_i e GV nl ak qs hid;split at ht
     ·rename_i te fD;split at ht
      ·rename_i hc;obtain ⟨rfl,hk,h1,h2,gR,rfl,rfl,rfl,rfl,ca,gq,aF,fU⟩:=hc;simp only [Option.some.injEq] at ht;subst ht;have iL:=R.eval x;rw [hx] at iL;have jN:=R.eval y;rw [hy] at jN;obtain ⟨v,w',p',aD,R'⟩:=R.bagApp (ty:=ty) (aq d rfl) aV hk fD h1 h2 gR hid ca gq (vg aF) iL jN.sl_inv fU;refine ⟨v,w',p',.inl ⟨?_,R'⟩⟩;have e1:xs=#[x,y]:=by apply Array.ext';exact dV
       have e2:ts=#[t,t]:=by apply Array.ext';exact qy
       subst e1 e2;simp only [execOp,resolve,invoke,builtin,Sem.run_bind,Sem.run_pure,Result.andThen_ok,List.map_toArray,List.map_cons,List.map_nil,aD]
      ·cases ht
     ·cases ht
    ·cases ht
   ·cases ht
  ·cases ht
 ·cases ht
end
attribute [go_sem] mY unW dA rJ
def fg (N:Nm) : Code→Bool
 | .region _ ops _=>ops.toList.all (cW N)
 | .seq a b=>fg N a&&fg N b
 | .cond _ a b=>fg N a&&fg N b
 | .block _ c=>fg N c
 | .loop c=>fg N c
 | .skip=>true
 | .exit _=>true
 | .ret=>true
 | _=>false
section
variable (P:Program)
def OwnRow (w w':World) (M:Nat→Nat→Prop) (e sz:Nat) (nl:Bool) (es:List (List AV)) (v:Value) : Prop:=
 if nl=true then (∃ A,v = .slice A 0 0)∧es=[] else ∃ g cap cur,v = .slice (some ⟨g,0,none⟩) es.length cap∧w.heap.size≤g∧w'.heap[g]? = some (.cells cur e (0,0))∧cur.size=cap*sz∧es.length≤cap∧cap≤maxLen ∧
  ∀ (k:Nat) (x:List AV) (j:Nat) (c:AV),es[k]? = some x→x[j]? = some c→∃ u,cur[k*sz+j]? = some u∧V0 w' (fun b j=>M b j∨b=g) c u
def VCo (f:FuncId) (args:List AV) (e sz:Nat) (nl:Bool) (es:List (List AV)) : Prop:=
 lL P f=true∧0 < sz∧(∀ (k:Nat) (x:List AV),es[k]? = some x→x.length=sz∧∀ c∈x,cQ c=true) ∧
 ∀ (w:World) (M:Nat→Nat→Prop) (vs:List Value),MOK w M→vs.length=args.length→(∀ (i:Nat) (a:AV) (v:Value),args[i]? = some a→vs[i]? = some v→V0 w M a v) →
  Calls P f vs.toArray w fun en w'=>∃ v,en = .returned v∧Below w.heap.size w w'∧OwnRow w w' M e sz nl es v
def vf (st:VS) (c:Call) (e sz:Nat) (nl:Bool) (es:List (List AV)) : Prop:=
 match qe P (ev st) c with
 | none=>False
 | some (k,args)=>VCo P k args e sz nl es∧args.all (e8 5)=true
def ov (ow:List Nat) (o:Oper) : Option (Call×Nat):=
 match o.op,o.dst with
 | .call c,some d=>match c.callee with
  | .value _=>if ow.contains d then some (c,d) else none
  | _=>none
 | _,_=>none
def VDo (ow:List Nat) (o:Oper) (st:VS) (K:VS→Prop) : Prop:=
 match lX P ow st o with
 | some aK=>K aK
 | none=>match mY P st o with
  | some aK=>K aK
  | none=>match ov ow o with
   | some (c,d)=>∃ e sz nl es,vf P st c e sz nl es∧K ⟨(d,.osl st.h.length)::st.s,st.h++[some (.arr e sz nl es)]⟩
   | none=>∃ r,fi P st.h (ev st) o.op r∧K (st.put o.dst r)
def cI (ops:List Oper) (st:VS) (j:Nat) : AV:=match ops[j]? with|some o=>(match o.dst with|some d=>lkp st.s d|none=>.lit undef)|none=>.lit undef
def VOp (ow:List Nat) (ops:List Oper) (o:Oper) (st:VS) (K:VS→Prop) : Prop:=
 match o.guard with
 | none=>VDo P ow o st K
 | some (j,want)=>match cI ops st j with
  | .lit (.bool b)=>if b=want then VDo P ow o st K else K (st.put o.dst (.lit undef))
  | .lit (.tuple _)=>K (st.put o.dst (.lit undef))
  | _=>False
def dP (ow:List Nat) (ops:List Oper) : List Oper→VS→(VS→Prop)→Prop
 | [],st,K=>K st
 | o::l,st,K=>VOp P ow ops o st fun aK=>dP ow ops l aK K
end
section
variable {P:Program} {M0:Nat→Nat→Prop} {w0:Bas} {N:Nm} {p:Pl} {st:VS} {a:Act} {w:World}
theorem D0 (R:Rel M0 w0 N p st a w) {o:Oper} {ow:List Nat} {c:Call} {d e sz:Nat} {nl:Bool} {es:List (List AV)} {K':Act→World→Prop} {Q:Exit→Act→World→Prop} (hd:cW N o=true) (hc:ov ow o=some (c,d)) (h:vf P st c e sz nl es)
  (hk:∀ p a w,Rel M0 w0 N p ⟨(d,.osl st.h.length)::st.s,st.h++[some (.arr e sz nl es)]⟩ a w→K' a w) : o.wp P a w K' Q:=by
 obtain ⟨dst,op,ty,pos,after,guard⟩:=o;have aq:=fh hd;unfold ov at hc;simp only at hc aq;split at hc
 ·rename_i c' d';split at hc
  ·split at hc
   ·simp only [Option.some.injEq,Prod.mk.injEq] at hc;obtain ⟨rfl,rfl⟩:=hc;obtain ⟨callee,bH,ml⟩:=c';unfold vf at h;split at h
    ·exact h.elim
    ·rename_i k args cK;obtain ⟨⟨k6,aM,cO,eA⟩,hp⟩:=h;obtain ⟨vs,aD,hlen,gx⟩:=xq (P:=P) (dst:=some d') (ty:=ty) (pos:=pos) (after:=after) (guard:=guard) (fun x _=>R.eval x) cK k6;unfold Oper.wp;rw [aD];simp only [Oper.upon];refine (eA w (Mof M0 st.h p) vs R.mok hlen fun i b v hb hv=>(gx i b v hb hv).pure 5 (List.all_eq_true.1 hp b (List.mem_of_getElem? hb))).mono ?_;rintro en w' ⟨v,rfl,hb,ho⟩;unfold OwnRow at ho;cases nl
     ·simp only [Bool.false_eq_true,if_false] at ho;obtain ⟨g,cap,cur,rfl,hg,hh,bW,hle,gb,hv⟩:=ho;have k9:cP p st.h.length g st.h.length=g:=(k_ p _ _).1;have hM:∀ b j,¬(Mof M0 st.h p b j∨b=g)→¬Mof M0 (st.h++[some (.arr e sz false es)]) (cP p st.h.length g) b j:=by
       intro b j hn hm;rcases hm with hm|⟨i,ob,hi,hl,u9⟩
       ·exact hn (.inl (.inl hm))
       ·rcases y9 hi with ⟨aq,br⟩|⟨rfl,hx⟩
        ·exact hn (.inl (.inr ⟨i,ob,br,hl,(jx (Nat.ne_of_lt aq)).1 u9⟩))
        ·exact hn (.inr (mq u9))
      refine hk _ _ _ (R.grow hb (aq d' rfl) (fun _=>hg) (fun _ _ _ _ _ h=>by cases h) ⟨aM,cO,?_⟩ (.osl _ _ _ _ (by simp) (fun e' bw kl es' he=>?_) fun e' bw kl pe qs he=>?_))
      ·rw [if_neg (by simp)];refine ⟨tH (Nat.le_trans R.below.size hg),cur,by rw [k9];exact hh,by rw [bW];exact Nat.mul_le_mul_right _ hle,fun k x j c hk hj=>?_⟩;obtain ⟨u,hu,kz⟩:=hv k x j c hk hj;exact ⟨u,hu,kz.keep (Keeps.refl _ _) fun b j _ hn=>hM b j hn⟩
      ·rw [List.getElem?_append_right (Nat.le_refl _)] at he;simp only [Nat.sub_self,List.getElem?_cons_zero,Option.some.injEq] at he;injection he with h1 h2 h3 h4
       subst h1 h2 h3 h4;unfold Osl;rw [if_neg (by simp),k9];exact ⟨cap,cur,rfl,hh,bW,hle,gb⟩
      ·rw [List.getElem?_append_right (Nat.le_refl _)] at he;simp at he
     ·simp only [if_true] at ho;obtain ⟨⟨A0,rfl⟩,rfl⟩:=ho;refine hk _ _ _ (R.grow (b:=0) hb (aq d' rfl) (fun h=>by cases h) (fun _ _ _ _ _ h=>by cases h) ⟨aM,by simp,by simp⟩ (.osl _ _ _ _ (by simp) (fun e' bw kl es' he=>?_) fun e' bw kl pe qs he=>?_))
      ·rw [List.getElem?_append_right (Nat.le_refl _)] at he;simp only [Nat.sub_self,List.getElem?_cons_zero,Option.some.injEq] at he;injection he with h1 h2 h3 h4
       subst h1 h2 h3 h4;simp [Osl]
      ·rw [List.getElem?_append_right (Nat.le_refl _)] at he;simp at he
   ·cases hc
  ·cases hc
 ·cases hc
theorem xm {ow:List Nat} {o:Oper} {K:VS→Prop} {K':Act→World→Prop} {Q:Exit→Act→World→Prop} (R:Rel M0 w0 N p st a w) (hd:cW N o=true) (h:VDo P ow o st K) (hk:∀ p st a w,Rel M0 w0 N p st a w→K st→K' a w) : o.wp P a w K' Q:=by
 unfold VDo at h;split at h
 ·rename_i aK he;obtain ⟨v,w',p',hh⟩:=Gu (P:=P) R hd he;unfold Oper.wp;rcases hh with ⟨h1,h2⟩|⟨h1,_,h2⟩
  ·rw [h1];exact hk _ _ _ _ h2 h
  ·rw [h1];exact hk _ _ _ _ h2 h
 ·split at h
  ·rename_i aK he;obtain ⟨v,w',p',hh⟩:=DZ (P:=P) R hd he;unfold Oper.wp;rcases hh with ⟨h1,h2⟩|⟨h1,_,h2⟩
   ·rw [h1];exact hk _ _ _ _ h2 h
   ·rw [h1];exact hk _ _ _ _ h2 h
  ·split at h
   ·rename_i c d hc;obtain ⟨e,sz,nl,es,ho,hK⟩:=h;exact D0 R hd hc ho fun p a w R=>hk _ _ _ _ R hK
   ·obtain ⟨r,hg,hK⟩:=h;have:=R.gives (P:=P) hg;exact ka this rfl fun v w' ⟨hv,hb⟩=>hk _ _ _ _ ((R.later hb).put (fh hd) hv) hK
theorem pb {ops:List Oper} {j:Nat} (R:Rel M0 w0 N p st a w) (ew:ops.all (cW N)=true) : (∀ b,cI ops st j = .lit (.bool b)→yielded ops.toArray a.tmps j=some b)∧(∀ vs,cI ops st j = .lit (.tuple vs)→yielded ops.toArray a.tmps j=none):=by
 unfold cI yielded;cases hj:ops[j]? with
 | none=>simp [hj,undef]
 | some o=>
  have hd:=List.all_eq_true.1 ew o (List.mem_of_getElem? hj);cases ho:o.dst with
  | none=>simp [hj,ho,undef]
  | some d=>
   have aq:d < a.tmps.size:=R.size.lt (fh hd d ho);have hs:=R.slots d;have db:a.tmps.getD d undef=a.tmps[d]:=by simp [aq]
   rw [db] at hs;simp only [List.getElem?_toArray,hj,Option.bind_some,ho];refine ⟨fun b hb=>?_,fun vs hb=>?_⟩
   ·rw [hb] at hs;have:=hs.lit_inv;simp [aq,this]
   ·rw [hb] at hs;have:=hs.lit_inv;simp [aq,this]
theorem mP {ow:List Nat} {ops:List Oper} {K:VS→Prop} {Q:Exit→Act→World→Prop} (ew:ops.all (cW N)=true) (hk:∀ p st a w,Rel M0 w0 N p st a w→K st→Q .normal a w) :
  ∀ (l:List Oper) (p:Pl) (st:VS) (a:Act) (w:World),l.all (cW N)=true→Rel M0 w0 N p st a w→dP P ow ops l st K→wpList P ops.toArray Q l a w
 | [],p,st,a,w,_,R,h=>wpList_nil (hk p st a w R h)
 | o::l,p,st,a,w,hl,R,h=>by
  simp only [List.all_cons,Bool.and_eq_true] at hl;have ih:=fun p st a w=>mP (ow:=ow) ew hk l p st a w hl.2;refine wpList_step fun Y Z=>?_;simp only [dP,VOp] at h;have kc:VDo P ow o st (fun aK=>dP P ow ops l aK K)→o.wp P a w Y Q:=fun h=>xm R hl.1 h fun p st a w R h=>Z _ _ (ih p st a w R h);have mi:dP P ow ops l (st.put o.dst (.lit undef)) K→Y (a.put o.dst undef) w:=fun h=>Z _ _ (ih p _ _ w (R.put (fh hl.1) (.base _ _ (.lit _))) h);split at h
  ·rename_i hg;simp only [Region.wanted,hg,if_true];exact kc h
  ·rename_i j want hg;obtain ⟨uV,At⟩:=pb (j:=j) R ew;simp only [Region.wanted,hg];split at h
   ·rename_i b hb;rw [uV b hb];by_cases hw:b=want
    ·subst hw;rw [if_pos (by simp)];rw [if_pos rfl] at h;exact kc h
    ·rw [if_neg (by simpa using hw)];rw [if_neg hw] at h;exact mi h
   ·rename_i vs hb;rw [At vs hb,if_neg (by simp)];exact mi h
   ·exact h.elim
def VWp (P:Program) (M0:Nat→Nat→Prop) (w0:Bas) (N:Nm) (c:Code) (Q:Exit→VS→Prop) (st:VS) : Prop:=
 fg N c=true→∀ p a w,Rel M0 w0 N p st a w→c.wp P (fun e a' w'=>∃ aK p',Rel M0 w0 N p' aK a' w'∧Q e aK) a w
def k7 (K:VS→Prop) (Q:Exit→VS→Prop) : Exit→VS→Prop
 | .normal,st=>K st
 | e,st=>Q e st
def pX (id:Nat) (Q:Exit→VS→Prop) : Exit→VS→Prop
 | .exit fp,st=>if fp=id then Q .normal st else Q (.exit fp) st
 | e,st=>Q e st
variable {Q:Exit→VS→Prop}
theorem ao (h:Q .normal st) : VWp P M0 w0 N .skip Q st:=fun _ p _ _ R=>wp_skip ⟨st,p,R,h⟩
theorem bF {id:Nat} (h:Q (.exit id) st) : VWp P M0 w0 N (.exit id) Q st:=fun _ p _ _ R=>wp_exit ⟨st,p,R,h⟩
theorem aw (h:Q .ret st) : VWp P M0 w0 N .ret Q st:=fun _ p _ _ R=>wp_ret ⟨st,p,R,h⟩
theorem af {x y:Code} (h:VWp P M0 w0 N x (k7 (VWp P M0 w0 N y Q) Q) st) : VWp P M0 w0 N (.seq x y) Q st:=fun hB p a w R=>by
 simp only [fg,Bool.and_eq_true] at hB;refine wp_seq (wp_mono (h hB.1 p a w R) ?_);rintro e a' w' ⟨aK,p',R',hq⟩;cases e with
 | normal=>exact hq hB.2 p' a' w' R'
 | _=>exact ⟨aK,p',R',hq⟩
theorem ae {K:VS→Prop} (h:K st) : k7 K Q .normal st:=h
theorem bE {K:VS→Prop} {id:Nat} (h:Q (.exit id) st) : k7 K Q (.exit id) st:=h
theorem aR {K:VS→Prop} (h:Q .ret st) : k7 K Q .ret st:=h
theorem aY {id:Nat} (h:Q .normal st) : pX id Q .normal st:=h
theorem cB {id:Nat} (h:Q .ret st) : pX id Q .ret st:=h
theorem bG {id:Nat} (h:Q .normal st) : pX id Q (.exit id) st:=by simpa [pX] using h
theorem Nw {id fp:Nat} (ax:Nat.beq fp id=false) (h:Q (.exit fp) st) : pX id Q (.exit fp) st:=by
 have:fp≠id:=fun e=>by subst e;simp at ax
 simpa [pX,this] using h
theorem az {id:Nat} {c:Code} (h:VWp P M0 w0 N c (pX id Q) st) : VWp P M0 w0 N (.block id c) Q st:=fun hB p a w R=>by
 refine wp_block (wp_mono (h (by simpa [fg] using hB) p a w R) ?_);rintro e a' w' ⟨aK,p',R',hq⟩;cases e with
 | exit fp=>
  simp only [Exit.inBlock];simp only [pX] at hq;split
  ·rename_i he;rw [if_pos he] at hq;exact ⟨aK,p',R',hq⟩
  ·rename_i he;rw [if_neg he] at hq;exact ⟨aK,p',R',hq⟩
 | _=>exact ⟨aK,p',R',hq⟩
theorem CG {c:Operand} {x y:Code} {t:Bool} (hc:ev st c = .lit (.bool t)) (h1:t=true→VWp P M0 w0 N x Q st) (h2:t=false→VWp P M0 w0 N y Q st) : VWp P M0 w0 N (.cond c x y) Q st:=fun hB p a w R=>by
 simp only [fg,Bool.and_eq_true] at hB;have he:=R.eval c;rw [hc] at he;exact wp_cond_split he.lit_inv (fun ht=>h1 ht hB.1 p a w R) (fun ht=>h2 ht hB.2 p a w R)
theorem au {c:Operand} {x y:Code} (hc:ev st c = .lit (.bool true)) (h:VWp P M0 w0 N x Q st) : VWp P M0 w0 N (.cond c x y) Q st:=CG hc (fun _=>h) (fun h=>by cases h)
theorem aj {c:Operand} {x y:Code} (hc:ev st c = .lit (.bool false)) (h:VWp P M0 w0 N y Q st) : VWp P M0 w0 N (.cond c x y) Q st:=CG hc (fun h=>by cases h) (fun _=>h)
theorem ah {id:Nat} {l:List Oper} (ow:List Nat) (h:dP P ow l l st (Q .normal)) : VWp P M0 w0 N (.region id l.toArray false) Q st:=fun hB p a w R=>by
 have dp:l.all (cW N)=true:=by simpa [fg] using hB
 exact wp_region_lit (mP (ow:=ow) dp (fun p st a w R h=>⟨st,p,R,h⟩) l p st a w dp R h)
def bc (k:Nat) : Nat→AV→Bool
 | 0,_=>false
 | n+1,.agg cs=>cs.all (bc k n)
 | n+1,.tup cs=>cs.all (bc k n)
 | n+1,.fn _ a b=>a.all (bc k n)&&b.all (bc k n)
 | n+1,.iface _ v=>bc k n v
 | _+1,.ref id _=>decide (id < k)
 | _+1,.aref id _ _ _=>decide (id < k)
 | _+1,.osl id=>decide (id < k)
 | _+1,.mp id=>decide (id < k)
 | _+1,.slw id _ _ _=>decide (id < k)
 | _+1,_=>true
def oi (k:Nat) : Ob→Bool
 | .box cs=>cs.all (bc k 5)
 | .arr .. => true
 | .mpo .. => true
 | .bag .. => true
def leS (s:List (Nat×AV)) (n:Nat) : List (Nat×AV)→Prop
 | []=>True
 | (i,v)::r=>lkp s i=v∧bc n 5 v=true∧leS s n r
def leO (h:Hp) (n k:Nat) : Option Ob→Prop
 | none=>True
 | some ob=>h[k]? = some (some ob)∧oi n ob=true
def leH (h:Hp) (n:Nat) : Nat→Hp→Prop
 | _,[]=>True
 | k,o::r=>leO h n k o∧leH h n (k+1) r
def Le (st aK:VS) : Prop:=leS st.s aK.h.length aK.s∧aK.h.length≤st.h.length∧leH st.h aK.h.length 0 aK.h
theorem xk {h:Hp} {n:Nat} : ∀ (h':Hp) (k id:Nat) (ob:Ob),leH h n k h'→h'[id]? = some (some ob)→h[k+id]? = some (some ob)∧oi n ob=true
 | [],_,_,_,_,hi=>by simp at hi
 | o::r,k,id,ob,hh,hi=>by
  cases id with
  | zero=>
   simp only [List.getElem?_cons_zero,Option.some.injEq] at hi;subst hi;exact hh.1
  | succ id=>
   have:=xk r (k+1) id ob hh.2 (by simpa using hi);rwa [show k+1+id=k+(id+1) by omega] at this
theorem V1.trunc {w:World} {M M':Nat→Nat→Prop} {h h':Hp} {p:Pl} (hM:∀ b j,¬M b j→¬M' b j) (hh:∀ (id:Nat) (ob:Ob),h'[id]? = some (some ob)→h[id]? = some (some ob)) :
  ∀ (n:Nat) (av:AV) (v:Value),V1 w M h p av v→bc h'.length n av=true→V1 w M' h' p av v
 | 0,_,_,_,hb=>by simp [bc] at hb
 | n+1,av,v,hv,hb=>by
  have ih:=V1.trunc (w:=w) (p:=p) hM hh n;cases hv with
  | base _ _ h0=>exact .base _ _ (h0.keep (Keeps.refl _ _) fun b j _ hn=>hM b j hn)
  | slw id k sz es _ hid h0 hs=>exact .slw id k sz es v (by simpa [bc] using hb) (h0.keep (Keeps.refl _ _) fun b j _ hn=>hM b j hn) fun e bw pe qs he=>hs e bw pe qs (hh id _ he)
  | agg cs us hl h1 hv=>
   simp only [bc] at hb;exact .agg cs us hl h1 fun i c u hc hu=>ih c u (hv i c u hc hu) (List.all_eq_true.1 hb c (List.mem_of_getElem? hc))
  | tup cs us hl hv=>
   simp only [bc] at hb;exact .tup cs us hl fun i c u hc hu=>ih c u (hv i c u hc hu) (List.all_eq_true.1 hb c (List.mem_of_getElem? hc))
  | fn f x y us vs hl bj hv bA=>
   simp only [bc,Bool.and_eq_true] at hb;exact .fn f x y us vs hl bj (fun i c u hc hu=>ih c u (hv i c u hc hu) (List.all_eq_true.1 hb.1 c (List.mem_of_getElem? hc))) (fun i c u hc hu=>ih c u (bA i c u hc hu) (List.all_eq_true.1 hb.2 c (List.mem_of_getElem? hc)))
  | iface t x u hv=>exact .iface t x u (ih x u hv (by simpa [bc] using hb))
  | ref id off hid=>exact .ref id off (by simpa [bc] using hb)
  | aref id sz i off hid=>exact .aref id sz i off (by simpa [bc] using hb)
  | osl id A m c hid hv lJ=>exact .osl id A m c (by simpa [bc] using hb) (fun e sz nl es he=>hv e sz nl es (hh id _ he)) fun e sz nl pe qs he=>lJ e sz nl pe qs (hh id _ he)
  | mp id hid=>exact .mp id (by simpa [bc] using hb)
theorem GX {st:VS} {M:Nat→Nat→Prop} {h':Hp} {p:Pl} {tm:Nat→Value} (hs:∀ i,bc h'.length 5 (lkp st.s i)=true→V1 w M h' p (lkp st.s i) (tm i)) : ∀ (s':List (Nat×AV)),leS st.s h'.length s'→∀ i,V1 w M h' p (lkp s' i) (tm i)
 | [],_,_=>.base _ _ (.any _)
 | (d,v)::r,hl,i=>by
  simp only [lkp];split
  ·rename_i he;subst he;have h1:=hs d (by rw [hl.1];exact hl.2.1);rwa [hl.1] at h1
  ·exact GX hs r hl.2.2 i
theorem Rel.le {aK:VS} (R:Rel M0 w0 N p st a w) (hle:Le st aK) : Rel M0 w0 N p aK a w:=by
 obtain ⟨h1,h2,h3⟩:=hle;have hh:∀ (id:Nat) (ob:Ob),aK.h[id]? = some (some ob)→st.h[id]? = some (some ob):=fun id ob hi=>by
  have:=(xk aK.h 0 id ob h3 hi).1;rwa [Nat.zero_add] at this
 have hM:∀ b j,¬Mof M0 st.h p b j→¬Mof M0 aK.h p b j:=fun b j hn hm=>hn (by
  rcases hm with hm|⟨id,ob,hi,hl,hp⟩
  ·exact .inl hm
  ·exact .inr ⟨id,ob,hh id ob hi,hl,hp⟩)
 refine ⟨R.defers,R.size,R.below,R.m0,R.x0,fun i=>GX (fun j hj=>V1.trunc hM hh 5 _ _ (R.slots j) hj) aK.s h1 i,fun id ob hi=>?_,fun id fp ob ob' hi br=>R.inj id fp ob ob' (hh _ _ hi) (hh _ _ br)⟩;have ho:=R.objs id ob (hh id ob hi);have dt:=(xk aK.h 0 id ob h3 hi).2;cases ob with
 | mpo kf iv=>exact ho
 | bag e sz nl ak qs=>exact ho.keep (fun _=>⟨rfl,rfl⟩) (fun _ _ _ _ _=>rfl) (Nat.le_refl _) (fun hx=>hx.keep (Keeps.refl _ _) fun b j _ hn=>hM b j hn) fun cs h=>by cases h
 | box cs=>
  obtain ⟨a1,cur,e,a2,a3,a4,a5⟩:=ho;exact ⟨a1,cur,e,a2,a3,a4,fun j c hj=>let ⟨u,hu,hv⟩:=a5 j c hj;⟨u,hu,V1.trunc hM hh 5 c u hv (List.all_eq_true.1 dt c (List.mem_of_getElem? hj))⟩⟩
 | arr e sz nl es=>
  obtain ⟨a1,a2,a3⟩:=ho;refine ⟨a1,a2,?_⟩;split at a3
  ·rename_i hn;rw [if_pos hn];exact a3
  ·rename_i hn;rw [if_neg hn];obtain ⟨b1,cur,b2,b3,b4⟩:=a3;exact ⟨b1,cur,b2,b3,fun k x j c hk hj=>let ⟨u,hu,hv⟩:=b4 k x j c hk hj;⟨u,hu,hv.keep (Keeps.refl _ _) fun b j _ hn=>hM b j hn⟩⟩
theorem zt {c:Code} {α:Type} (St:α→VS) (Inv:α→Prop) (μ:α→Nat) (x0:α) (hI:Inv x0) (h0:Le st (St x0))
  (round:∀ x,Inv x→∀ K:VS→Prop,(∀ aK y,Inv y→μ y < μ x→Le aK (St y)→K aK)→VWp P M0 w0 N c (k7 K Q) (St x)) : VWp P M0 w0 N (.loop c) Q st:=fun hB p a w R=>by
 have dp:fg N c=true:=by simpa [fg] using hB
 refine wp_loop_ghost (fun n a w=>∃ x p,Inv x∧μ x=n∧Rel M0 w0 N p (St x) a w) (μ x0) ⟨x0,p,hI,rfl,R.le h0⟩ ?_;rintro n a w ⟨x,p,hx,rfl,R⟩;refine wp_mono (round x hx (fun aK=>∃ y,Inv y∧μ y < μ x∧Le aK (St y)) (fun aK y h1 h2 h3=>⟨y,h1,h2,h3⟩) dp p a w R) ?_;rintro e a' w' ⟨aK,p',R',hq⟩;cases e with
 | normal=>
  obtain ⟨y,hy,hm,hle⟩:=hq;exact ⟨μ y,hm,y,p',hy,rfl,R'.le hle⟩
 | _=>exact ⟨aK,p',R',hq⟩
theorem vle {c:Code} {aK:VS} (hle:Le st aK) (h:VWp P M0 w0 N c Q aK) : VWp P M0 w0 N c Q st:=fun hB p a w R=>h hB p a w (R.le hle)
def aC:Nat→List AV→List (Nat×AV)
 | _,[]=>[]
 | k,v::r=>(k,v)::aC (k+1) r
def oT (P:Program) (st:VS) : List ResultVar→Option (List AV)
 | []=>some []
 | .tmp t::rs=>match oT P st rs with|some vs=>some (qz st.h (lkp st.s t)::vs)|none=>none
 | .cell x t::rs=>match qc P st.h t (lkp st.s x),oT P st rs with|some v,some vs=>some (qz st.h v::vs)|_,_=>none
def ry:List AV→AV
 | [v]=>v
 | vs=>.tup vs
def CH (P:Program) (rs:List ResultVar) (r:AV) : Exit→VS→Prop
 | .ret,st=>(oT P st rs).map ry=some r
 | .normal,st=>(oT P st rs).map ry=some r
 | _,_=>False
theorem Rel.prep (R:Rel M0 w0 N p st a w) {v:AV} {u:Value} (hv:V1 w (Mof M0 st.h p) st.h p v u) : V0 w M0 (qz st.h v) u:=by
 unfold qz;split
 ·rename_i hp;exact (hv.pure 5 hp).keep (Keeps.refl _ _) fun b j _ hn hm=>hn (.inl hm)
 ·exact yF R.objs R.h0 (fun _ _ hb=>.inl hb) 5 v u hv
theorem CI (R:Rel M0 w0 N p st a w) : ∀ (rs:List ResultVar) (vs:List AV),oT P st rs=some vs →
  ∃ us:List Value,(rs.mapM fun | .tmp t=>pure (a.tmps.getD t undef) | .cell x t=>do loadVar t (←asAddr (a.tmps.getD x undef)) : Sem (List Value)).run P w = .ok us w∧us.length=vs.length∧∀ (i:Nat) (c:AV) (u:Value),vs[i]? = some c→us[i]? = some u→V0 w M0 c u
 | [],vs,h=>by
  simp only [oT,Option.some.injEq] at h;subst h;exact ⟨[],by simp,rfl,by simp⟩
 | .tmp t::rs,vs,h=>by
  simp only [oT] at h;split at h
  ·rename_i vs' gx;simp only [Option.some.injEq] at h;subst h;obtain ⟨us,aD,hl,hv⟩:=CI R rs vs' gx;refine ⟨a.tmps.getD t undef::us,by simp only [List.mapM_cons,Sem.run_bind,Sem.run_pure,Result.andThen_ok,aD],by simp [hl],fun i c u hc hu=>?_⟩;cases i with
   | zero=>simp at hc hu;subst hc;subst hu;simpa using R.prep (R.slots t)
   | succ i=>exact hv i c u (by simpa using hc) (by simpa using hu)
  ·cases h
 | .cell x t::rs,vs,h=>by
  simp only [oT] at h;split at h
  ·rename_i v vs' bA gx;simp only [Option.some.injEq] at h;subst h;obtain ⟨us,aD,hl,hv⟩:=CI R rs vs' gx;obtain ⟨u,hu,kz⟩:=Am (P:=P) R.objs (R.slots x) bA;have rz:∃ ad,a.tmps.getD x undef = .pointer (some ad):=by
    unfold qc at bA;split at bA
    ·cases bA
    ·split at bA
     ·cases bA
     ·rename_i cs bW;obtain ⟨b,o,hq,_⟩:=An R.objs (R.slots x) bW;exact ⟨_,hq⟩
   obtain ⟨ad,uT⟩:=rz;rw [uT] at hu;simp only [Instr.loadAt,Instr.sureAddr,Sem.run_bind,Sem.run_pure,Result.andThen_ok] at hu;have e1:(asAddr (a.tmps.getD x undef)).run P w = .ok ad w:=by rw [uT];rfl
   refine ⟨u::us,by simp only [List.mapM_cons,Sem.run_bind,Sem.run_pure,Result.andThen_ok,e1,hu,aD],by simp [hl],fun i c y hc hy=>?_⟩;cases i with
   | zero=>simp at hc hy;subst hc;subst hy;exact R.prep kz
   | succ i=>exact hv i c y (by simpa using hc) (by simpa using hy)
  ·cases h
theorem Ao:∀ (args:List AV) (k:Nat) (tm:Nat→Value) {M:Nat→Nat→Prop} {h:Hp} {p:Pl},(∀ (i:Nat) (c:AV),args[i]? = some c→V1 w M h p c (tm (k+i)))→∀ i,V1 w M h p (lkp (aC k args) i) (tm i)
 | [],_,_,_,_,_,_,_=>.base _ _ (.any _)
 | c::r,k,tm,M,h,p,hv,i=>by
  simp only [aC,lkp];split
  ·rename_i he;subst he;exact hv 0 c rfl
  ·refine Ao r (k+1) tm (fun j c hj=>?_) i;have:=hv (j+1) c (by simpa using hj);rwa [show k+(j+1)=k+1+j by omega] at this
def pl0:Pl:=⟨fun _=>0,fun _ _ _=>False⟩
def uB (w:World) : Bas:=⟨w,fun _ _=>False⟩
theorem MOK.none {w:World} {M:Nat→Nat→Prop} (h:MOK w M) : MOK w (fun _ _=>False):=⟨fun _ _ h=>h.elim,fun g vs hg=>⟨(h.2.1 g vs hg).1,fun _ h=>h,(h.2.1 g vs hg).2.2⟩,fun g hg=>⟨(h.2.2.1 g hg).1,fun _ h=>h⟩,h.2.2.2⟩
theorem GY {fn:Func} {args:List AV} {M:Nat→Nat→Prop} {vs:List Value} (hn:Nat.ble args.length fn.ntmps=true) (hM:MOK w M) (hl:vs.length=args.length) (hv:∀ (i:Nat) (a:AV) (v:Value),args[i]? = some a→vs[i]? = some v→V0 w M a v) :
  Rel M (uB w) (n0 fn.ntmps) pl0 ⟨aC 0 args,[]⟩ { tmps:=vs.toArray++Array.replicate (fn.ntmps - vs.toArray.size) undef,defers:=[] } w:=by
 refine ⟨rfl,⟨by have:=Nat.le_of_ble_eq_true hn;simp [n0];omega,fun i hi=>absurd hi (Nat.not_lt_zero i)⟩,Bel.start (uB w),hM,⟨hM.none,fun _ _ _ h=>h⟩,fun i=>?_,fun id ob hi=>by simp at hi,fun id _ _ _ hi=>by simp at hi⟩;refine Ao args 0 (fun i=>(vs.toArray++Array.replicate (fn.ntmps - vs.toArray.size) undef).getD i undef) (fun i c hc=>?_) i;have hi:i < vs.length:=by rw [hl];exact (List.getElem?_eq_some_iff.1 hc).1
 rw [Nat.zero_add];have mh:(vs.toArray++Array.replicate (fn.ntmps - vs.toArray.size) undef).getD i undef=vs[i]:=by
  rw [Array.getD_eq_getD_getElem?,Array.getElem?_append_left (by simpa using hi)];simp [hi]
 rw [mh];refine .base _ _ ((hv i c _ hc (List.getElem?_eq_getElem hi)).keep (Keeps.refl _ _) fun b j _ hn hm=>?_);rcases hm with hm|⟨id,ob,hi,_⟩
 ·exact hn hm
 ·simp at hi
theorem CJ {f:FuncId} {fn:Func} {c:Code} {args:List AV} {r:AV} (hf:P.funcs[f]? = some fn) (hb:fn.body=some c) (hg:lL P f=true) (hN:fg (n0 fn.ntmps) c=true) (hn:Nat.ble args.length fn.ntmps=true)
  (h:∀ M0 w0,VWp P M0 w0 (n0 fn.ntmps) c (CH P fn.results.toList r) ⟨aC 0 args,[]⟩) : VC P f args r:=by
 refine ⟨hg,fun w M vs hM hl hv=>?_⟩;refine calls_of_wp hf hb ?_;refine wp_mono (h M (uB w) hN pl0 _ w (GY hn hM hl hv)) ?_;have key:∀ (aK:VS) (p':Pl) (a':Act) (w':World),Rel M (uB w) (n0 fn.ntmps) p' aK a' w'→(oT P aK fn.results.toList).map ry=some r→a'.defers=[]∧∃ v,(results fn a'.tmps).run P w' = .ok v w'∧∃ v',Ending.returned v = .returned v'∧Below w.heap.size w w'∧V0 w' M r v':=by
  intro aK p' a' w' R' hr;obtain ⟨vs',gx,b_⟩:=Option.map_eq_some_iff.1 hr;obtain ⟨us,aD,rA,o_⟩:=CI (P:=P) R' _ _ gx;have mN:(fn.results.mapM fun | .tmp t=>pure (a'.tmps.getD t undef) | .cell x t=>do loadVar t (←asAddr (a'.tmps.getD x undef)) : Sem (Array Value)).run P w' = .ok us.toArray w':=by
   rw [←Array.toArray_toList (xs:=fn.results),List.mapM_toArray];simp only [Sem.run_map,aD,Result.andThen_ok]
  have hres:(results fn a'.tmps).run P w' = .ok (if h:us.toArray.size=1 then us.toArray[0] else .tuple us.toArray) w':=by
   unfold results;rw [Sem.run_bind];exact (congrArg (fun r=>Result.andThen r _) mN).trans rfl
  refine ⟨R'.defers,_,hres,_,rfl,R'.below.below (fun _ _ h=>h),?_⟩;subst b_;by_cases h1:us.length=1
  ·obtain ⟨u,rfl⟩ : ∃ u,us=[u]:=List.length_eq_one_iff.1 h1;obtain ⟨c,rfl⟩ : ∃ c,vs'=[c]:=List.length_eq_one_iff.1 (by rw [←rA];rfl);exact o_ 0 c u rfl rfl
  ·have h2:ry vs' = .tup vs':=by
    cases vs' with
    | nil=>rfl
    | cons x y=>cases y with
     | nil=>simp at rA;omega
     | cons=>rfl
   rw [h2,dif_neg (by simpa using h1)];exact .tup _ _ rA o_
 rintro e a' w' ⟨aK,p',R',hq⟩;cases e with
 | normal=>exact key aK p' a' w' R' hq
 | ret=>exact key aK p' a' w' R' hq
 | _=>exact hq.elim
def Nx (t:Nat) (e sz:Nat) (nl:Bool) (es:List (List AV)) : Exit→VS→Prop
 | .ret,st=>∃ id,lkp st.s t = .osl id∧st.h[id]? = some (some (.arr e sz nl es))
 | .normal,st=>∃ id,lkp st.s t = .osl id∧st.h[id]? = some (some (.arr e sz nl es))
 | _,_=>False
theorem vk {f:FuncId} {fn:Func} {c:Code} {args:List AV} {t e sz:Nat} {nl:Bool} {es:List (List AV)} (hf:P.funcs[f]? = some fn) (hb:fn.body=some c) (hg:lL P f=true) (hN:fg (n0 fn.ntmps) c=true) (hn:Nat.ble args.length fn.ntmps=true) (hr:fn.results=#[.tmp t])
  (aM:0 < sz) (cO:∀ (k:Nat) (x:List AV),es[k]? = some x→x.length=sz∧∀ c∈x,cQ c=true) (h:∀ M0 w0,VWp P M0 w0 (n0 fn.ntmps) c (Nx t e sz nl es) ⟨aC 0 args,[]⟩) : VCo P f args e sz nl es:=by
 refine ⟨hg,aM,cO,fun w M vs hM hl hv=>?_⟩;refine calls_of_wp hf hb (wp_mono (h M (uB w) hN pl0 _ w (GY hn hM hl hv)) ?_);have key:∀ (aK:VS) (p':Pl) (a':Act) (w':World),Rel M (uB w) (n0 fn.ntmps) p' aK a' w'→(∃ id,lkp aK.s t = .osl id∧aK.h[id]? = some (some (.arr e sz nl es))) →
   a'.defers=[]∧∃ v,(results fn a'.tmps).run P w' = .ok v w'∧∃ v',Ending.returned v = .returned v'∧Below w.heap.size w w'∧OwnRow w w' M e sz nl es v':=by
  intro aK p' a' w' R ⟨id,hs,hi⟩;have qh:=R.slots t;rw [hs] at qh;obtain ⟨A,n,c,hq,hid,bo⟩:=qh.osl_inv;have ho:=bo _ _ _ _ hi;have iJ:=R.objs id _ hi;have hres:(results fn a'.tmps).run P w' = .ok (a'.tmps.getD t undef) w':=by
   unfold results;rw [hr];simp
  refine ⟨R.defers,_,hres,_,rfl,R.below.below (fun _ _ h=>h),?_⟩;unfold Osl at ho;unfold OwnRow;obtain ⟨_,_,aS⟩:=iJ;cases nl
  ·simp only [Bool.false_eq_true,if_false] at ho aS ⊢;obtain ⟨cap,cur,h1,h2,h3,h4,h5⟩:=ho;obtain ⟨dr,cur',h6,_,h7⟩:=aS;obtain rfl:cur'=cur:=by rw [h6] at h2;injection h2 with h2;injection h2
   refine ⟨p' id,cap,cur',h1,(dr.1 0).resolve_right (fun h=>h),h6,h3,h4,h5,fun k x j c hk hj=>?_⟩;obtain ⟨u,hu,hv⟩:=h7 k x j c hk hj;refine ⟨u,hu,hv.keep (Keeps.refl _ _) fun b j _ hn hm=>?_⟩;rcases hm with hm|hm
   ·exact hn (.inl hm)
   ·exact hn (.inr ⟨id,_,hi,rfl,.inl hm.symm⟩)
  ·simp only [if_true] at ho aS ⊢;exact ⟨ho.1,aS⟩
 rintro en a' w' ⟨aK,p',R',hq⟩;cases en with
 | normal=>exact key aK p' a' w' R' hq
 | ret=>exact key aK p' a' w' R' hq
 | _=>exact hq.elim
theorem ze {f:FuncId} {args:List AV} {e sz:Nat} {nl:Bool} {es:List (List AV)} (h:VCo P f args e sz nl es) : VC P f args (.sl sz es):=by
 obtain ⟨hg,aM,cO,hc⟩:=h;refine ⟨hg,fun w M vs hM hl hv=>(hc w M vs hM hl hv).mono ?_⟩;rintro en w' ⟨v,rfl,hb,ho⟩;refine ⟨v,rfl,hb,?_⟩;unfold OwnRow at ho;cases nl
 ·simp only [Bool.false_eq_true,if_false] at ho;obtain ⟨g,cap,cur,rfl,dr,hh,bW,hle,_,iK⟩:=ho;by_cases ax:es=[]
  ·subst ax;exact .slNil _ _ _
  ·have Ny:∀ j,¬M g j:=fun j hm=>by have:=hM.1 g j hm;omega
   refine .sl sz es cap g 0 (fun k j=>cur.getD (k*sz+j) undef) ax (Array.getElem?_eq_some_iff.1 hh).1 (fun _ _ _ _=>Ny _) hle (fun k x hk=>(cO k x hk).1) (fun k x j c hk hj=>(cO k x hk).2 c (List.mem_of_getElem? hj)) (fun k j hk hj=>?_) fun k x j c hk hj=>?_
   ·rw [cell_of_row w' g _ cur e (0,0) hh,Nat.zero_add];have:(k+1)*sz≤cap*sz:=Nat.mul_le_mul_right _ (by omega);rw [Nat.add_mul] at this;have:k*sz+j < cur.size:=by omega
    simp [this]
   ·obtain ⟨u,hu,cR⟩:=iK k x j c hk hj;have:cur.getD (k*sz+j) undef=u:=by simp [hu]
    simp only [this];exact cR.keep (Keeps.refl _ _) fun b j _ hn hm=>hn (.inl hm)
 ·simp only [if_true] at ho;obtain ⟨⟨A0,rfl⟩,rfl⟩:=ho;exact .slNil _ _ _
end
section
variable (P:Program)
def zu (o:Oper) (st:VS) (K:VS→Prop) : Prop:=∃ r,fi P st.h (ev st) o.op r∧K (st.put o.dst r)
def mc (ops:List Oper) (o:Oper) (st:VS) (K:VS→Prop) : Prop:=
 match o.guard with
 | none=>zu P o st K
 | some (j,want)=>match cI ops st j with
  | .lit (.bool b)=>if b=want then zu P o st K else K (st.put o.dst (.lit undef))
  | .lit (.tuple _)=>K (st.put o.dst (.lit undef))
  | _=>False
def jt (ops:List Oper) : List Oper→VS→(VS→Prop)→Prop
 | [],st,K=>K st
 | o::l,st,K=>mc P ops o st fun aK=>jt ops l aK K
def kh (ops:List Oper) (o:Oper) (st:VS) (r:AV) : Prop:=
 match o.guard with
 | none=>fi P st.h (ev st) o.op r
 | some (j,want)=>match cI ops st j with
  | .lit (.bool b)=>if b=want then fi P st.h (ev st) o.op r else r = .lit undef
  | .lit (.tuple _)=>r = .lit undef
  | _=>False
end
def aQ:VS→List Oper→List AV→VS
 | st,o::l,r::rs=>aQ (st.put o.dst r) l rs
 | st,_,_=>st
section
variable {P:Program} {M0:Nat→Nat→Prop} {w0:Bas} {N:Nm} {p:Pl} {st:VS} {a:Act} {w:World} {Q:Exit→VS→Prop}
theorem CK {ops:List Oper} {o:Oper} {K:VS→Prop} (h:mc P ops o st K) : ∃ r,kh P ops o st r∧K (st.put o.dst r):=by
 obtain ⟨dst,op,ty,pos,after,guard⟩:=o;cases guard with
 | none=>exact h
 | some g=>
  obtain ⟨j,want⟩:=g;simp only [mc] at h;simp only [kh];split at h
  ·split at h
   ·rename_i b hb hw;obtain ⟨r,h1,h2⟩:=h;exact ⟨r,by simp only [hw,if_true];exact h1,h2⟩
   ·rename_i b hb hw;exact ⟨_,by simp only [hw,if_false],h⟩
  ·rename_i vs hb;exact ⟨_,by simp only [],h⟩
  ·exact h.elim
theorem tA {ops:List Oper} {K:VS→Prop} : ∀ (l:List Oper) (st:VS),jt P ops l st K→∃ rs:List AV,rs.length=l.length∧K (aQ st l rs)∧∀ (i:Nat) (o:Oper) (r:AV),l[i]? = some o→rs[i]? = some r→kh P ops o (aQ st (l.take i) (rs.take i)) r
 | [],st,h=>⟨[],rfl,h,by simp⟩
 | o::l,st,h=>by
  obtain ⟨r,h1,h2⟩:=CK h;obtain ⟨rs,hl,hK,hs⟩:=tA l _ h2;refine ⟨r::rs,by simp [hl],hK,fun i o' r' ho hr=>?_⟩;cases i with
  | zero=>simp at ho hr;subst ho;subst hr;exact h1
  | succ i=>exact hs i o' r' (by simpa using ho) (by simpa using hr)
theorem eZ:∀ (l:List Oper) (rs:List AV) (st:VS),(aQ st l rs).h=st.h
 | [],rs,st=>by simp [aQ]
 | o::l,[],st=>by simp [aQ]
 | o::l,r::rs,st=>by
  rw [aQ,eZ l rs];cases o.dst<;>rfl
theorem gW (st:VS) (d:Option Tmp) (r:AV) (t:Nat) : lkp (st.put d r).s t=if d=some t then r else lkp st.s t:=by
 cases d with
 | none=>simp [VS.put]
 | some d=>simp [VS.put,lkp]
theorem mn:∀ (l:List Oper) (rs:List AV) (st:VS) (t:Nat),(∀ o∈l,o.dst≠some t)→lkp (aQ st l rs).s t=lkp st.s t
 | [],rs,st,t,_=>by simp [aQ]
 | o::l,[],st,t,_=>by simp [aQ]
 | o::l,r::rs,st,t,h=>by
  rw [aQ,mn l rs _ t fun o ho=>h o (List.mem_cons_of_mem _ ho),gW,if_neg (h o (List.mem_cons_self ..))]
theorem mR:∀ (l:List Oper) (rs:List AV) (st:VS) (t j:Nat) (o:Oper) (r:AV),dS l=true→l[j]? = some o→rs[j]? = some r→o.dst=some t→lkp (aQ st l rs).s t=r
 | [],_,_,_,_,_,_,_,h,_,_=>by simp at h
 | o::l,[],_,_,_,_,_,_,_,h,_=>by simp at h
 | q::l,s::rs,st,t,j,o,r,hd,ho,hr,ht=>by
  obtain ⟨h1,h2⟩:=uL hd;cases j with
  | zero=>
   simp at ho hr;subst ho;subst hr;rw [aQ,mn l rs _ t fun o ho=>h1 o ho t ht,gW,if_pos ht]
  | succ j=>exact mR l rs _ t j o r h2 (by simpa using ho) (by simpa using hr) ht
theorem oS {vs:Nat→Value} : ∀ (l:List Oper) (k:Nat) (a:Act) (t:Nat),(∀ o∈l,o.dst≠some t)→(∀ o∈l,∀ d,o.dst=some d→d < a.tmps.size)→(fill (fun _=>true) vs l k a).tmps.getD t undef=a.tmps.getD t undef
 | [],_,_,_,_,_=>rfl
 | o::l,k,a,t,h,hb=>by
  rw [fill,if_pos rfl];have aM:(a.put o.dst (vs k)).tmps.size=a.tmps.size:=by cases o.dst<;>simp [Act.put]
  rw [oS l (k+1) _ t (fun o ho=>h o (List.mem_cons_of_mem _ ho)) (fun o ho d hd=>by rw [aM];exact hb o (List.mem_cons_of_mem _ ho) d hd)];cases ho:o.dst with
  | none=>rfl
  | some d=>
   rw [mr a d _ t (hb o (List.mem_cons_self ..) d ho),if_neg];intro gg;exact h o (List.mem_cons_self ..) (by rw [ho,gg])
theorem zo {vs:Nat→Value} : ∀ (l:List Oper) (k:Nat) (a:Act) (t j:Nat) (o:Oper),dS l=true→(∀ o∈l,∀ d,o.dst=some d→d < a.tmps.size)→l[j]? = some o→o.dst=some t→(fill (fun _=>true) vs l k a).tmps.getD t undef=vs (k+j)
 | [],_,_,_,_,_,_,_,h,_=>by simp at h
 | q::l,k,a,t,j,o,hd,hb,ho,ht=>by
  obtain ⟨h1,h2⟩:=uL hd;rw [fill,if_pos rfl];have aM:(a.put q.dst (vs k)).tmps.size=a.tmps.size:=by cases q.dst<;>simp [Act.put]
  cases j with
  | zero=>
   simp at ho;subst ho;rw [oS l (k+1) _ t (fun o ho=>h1 o ho t ht) (fun o ho d hd=>by rw [aM];exact hb o (List.mem_cons_of_mem _ ho) d hd),ht,mr a t _ t (hb q (List.mem_cons_self ..) t ht),if_pos rfl,Nat.add_zero]
  | succ j=>
   rw [zo l (k+1) _ t j o h2 (fun o ho d hd=>by rw [aM];exact hb o (List.mem_cons_of_mem _ ho) d hd) (by simpa using ho) ht];congr 1;omega
theorem zn {vs:Nat→Value} {g:Nat→Bool} : ∀ (l:List Oper) (k:Nat) (a:Act),(fill g vs l k a).tmps.size=a.tmps.size∧(fill g vs l k a).defers=a.defers
 | [],_,_=>⟨rfl,rfl⟩
 | o::l,k,a=>by
  rw [fill];obtain ⟨h1,h2⟩:=zn (vs:=vs) (g:=g) l (k+1) (if g k=true then a.put o.dst (vs k) else a);rw [h1,h2];split
  ·cases o.dst<;>simp [Act.put]
  ·exact ⟨rfl,rfl⟩
theorem CA {M:Nat→Nat→Prop} {h:Hp} {hd:List Oper} {rs:List AV} {vs:Nat→Value} {i t:Nat} {w':World} (iP:dS hd=true) (ee:rs.length=hd.length) (hb:∀ o∈hd,∀ d,o.dst=some d→d < a.tmps.size)
  (qh:V1 w' M h p (lkp st.s t) (a.tmps.getD t undef)) (_hi:i≤hd.length) (hw:∀ (j:Nat) (o:Oper),hd[j]? = some o→o.dst=some t→j < i∧V1 w' M h p (rs.getD j .any) (vs j)) :
  V1 w' M h p (lkp (aQ st (hd.take i) (rs.take i)).s t) ((fill (fun _=>true) vs hd 0 a).tmps.getD t undef):=by
 by_cases hex:∃ (j:Nat) (o:Oper),hd[j]? = some o∧o.dst=some t
 ·obtain ⟨j,o,hj,ho⟩:=hex;obtain ⟨aq,hv⟩:=hw j o hj ho;have bB:=(List.getElem?_eq_some_iff.1 hj).1;have gg:dS (hd.take i)=true:=by
   clear hw qh hb hj _hi hv aq ee bB;induction hd generalizing i with
   | nil=>simp [dS]
   | cons x l ih=>
    cases i with
    | zero=>rfl
    | succ i=>
     simp only [dS,Bool.and_eq_true] at iP;simp only [List.take_succ_cons,dS,Bool.and_eq_true];refine ⟨?_,ih iP.2⟩;have h1:=iP.1;cases du:x.dst with
     | none=>rfl
     | some d=>
      simp only [du] at h1;exact List.all_eq_true.2 fun q hq=>List.all_eq_true.1 h1 q (List.mem_of_mem_take hq)
  rw [zo hd 0 a t j o iP hb hj ho,Nat.zero_add,mR (hd.take i) (rs.take i) st t j o (rs.getD j .any) gg (by rw [List.getElem?_take_of_lt aq];exact hj) (by rw [List.getElem?_take_of_lt aq];simp [List.getD,show j < rs.length by omega]) ho];exact hv
 ·have bD:∀ o∈hd,o.dst≠some t:=fun o ho he=>by
   obtain ⟨j,hj⟩:=List.mem_iff_getElem?.1 ho;exact hex ⟨j,o,hj,he⟩
  rw [oS hd 0 a t bD hb,mn _ _ _ _ fun o ho=>bD o (List.mem_of_mem_take ho)];exact qh
theorem AE {l:List Oper} {n:Nat} {rs:List AV} (R:Rel M0 w0 N p st a w) (hn:n≤l.length) (hd:dS (l.take n)=true) (hN:l.all (cW N)=true)
  (bb:∀ i,i < n→∀ o,l[i]? = some o→∀ t∈o.looksAt l.toArray,∀ j,j < n→∀ q,l[j]? = some q→q.dst=some t→Region.waitsFor .any l.toArray i j=true)
  (aq:∀ i j,i < n→Region.waitsFor .any l.toArray i j=true→j < i) (ee:rs.length=n)
  (fJ:∀ (i:Nat) (o:Oper) (r:AV),(l.take n)[i]? = some o→rs[i]? = some r→kh P l o (aQ st ((l.take n).take i) (rs.take i)) r) (i:Nat) (hi:i < n) :
  p9 P l.toArray w a n (fun i v w'=>V1 w' (Mof M0 st.h p) st.h p (rs.getD i .any) v) i:=by
 intro o ho vs w' cp hS;have aT:l[i]? = some o:=by simpa using ho
 have aV:(l.take n)[i]? = some o:=by rw [List.getElem?_take_of_lt hi];exact aT
 have R':=R.later cp;have eR:∀ q∈l.take n,∀ d,q.dst=some d→d < a.tmps.size:=fun q hq d eg=>R.size.lt (fh (List.all_eq_true.1 hN q (List.mem_of_mem_take hq)) d eg);have hlen:(l.take n).length=n:=by simp;omega
 have cC:∀ t∈o.looksAt l.toArray,V1 w' (Mof M0 st.h p) st.h p (lkp (aQ st ((l.take n).take i) (rs.take i)).s t) ((fill (fun _=>true) vs (l.take n) 0 a).tmps.getD t undef):=fun t ht=>
  CA hd (by rw [ee,hlen]) eR (R'.slots t) (by rw [hlen];omega) fun j q hj hq=>by
   have ep:j < n:=by have:=(List.getElem?_eq_some_iff.1 hj).1;omega
   have eM:l[j]? = some q:=by rw [List.getElem?_take_of_lt ep] at hj;exact hj
   have hw:=bb i hi o aT t ht j ep q eM hq;exact ⟨aq i j hi hw,hS j ep hw⟩
 have hr:rs[i]? = some (rs.getD i .any):=by simp [List.getD,show i < rs.length by omega]
 have ar:=fJ i o _ aV hr;simp only [];have bU:fi P st.h (ev (aQ st ((l.take n).take i) (rs.take i))) o.op (rs.getD i .any)→gives P o (fill (fun _=>true) vs (l.take n) 0 a) w' fun v w''=>V1 w'' (Mof M0 st.h p) st.h p (rs.getD i .any) v∧Below w'.heap.size w' w'':=by
  intro hg;refine pk R'.objs R'.mok R'.h0 R'.glob (fun _ _ hb=>.inl hb) (fun x hx=>?_) hg;cases x with
  | tmp t=>exact cC t (List.mem_append_left _ (List.mem_filterMap.2 ⟨.tmp t,by simpa using hx,rfl⟩))
  | const v=>exact .base _ _ (.lit v)
  | global g=>exact .base _ _ (R'.evalG g)
  | func f=>exact .base _ _ (.lit _)
 unfold kh at ar;split at ar
 ·rename_i hg;simp only [Region.wanted,hg,if_true];rw [eZ] at ar;exact bU ar
 ·rename_i j want hg;simp only [Region.wanted,hg];have hy:(∀ b,cI l (aQ st ((l.take n).take i) (rs.take i)) j = .lit (.bool b)→yielded l.toArray (fill (fun _=>true) vs (l.take n) 0 a).tmps j=some b)∧(∀ us,cI l (aQ st ((l.take n).take i) (rs.take i)) j = .lit (.tuple us)→yielded l.toArray (fill (fun _=>true) vs (l.take n) 0 a).tmps j=none):=by
   unfold cI yielded;cases hj:l[j]? with
   | none=>simp [hj,undef]
   | some q=>
    cases hq:q.dst with
    | none=>simp [hj,hq,undef]
    | some d=>
     have dW:d∈o.looksAt l.toArray:=by
      unfold Oper.looksAt;refine List.mem_append_right _ ?_;simp [hg,hj,hq]
     have hs:=cC d dW;have kW:d < (fill (fun _=>true) vs (l.take n) 0 a).tmps.size:=by
      rw [(zn _ _ _).1];exact R.size.lt (fh (List.all_eq_true.1 hN q (List.mem_of_getElem? hj)) d hq)
     have db:(fill (fun _=>true) vs (l.take n) 0 a).tmps.getD d undef=(fill (fun _=>true) vs (l.take n) 0 a).tmps[d]:=by simp [kW]
     rw [db] at hs;simp only [List.getElem?_toArray,hj,Option.bind_some,hq];refine ⟨fun b hb=>?_,fun us hb=>?_⟩
     ·rw [hb] at hs;have:=hs.lit_inv;simp [kW,this]
     ·rw [hb] at hs;have:=hs.lit_inv;simp [kW,this]
  split at ar
  ·rename_i b hb;rw [hy.1 b hb];split at ar
   ·rename_i hw;subst hw;rw [if_pos (by simp)];rw [eZ] at ar;exact bU ar
   ·rename_i hw;rw [if_neg (by simpa using hw),ar];exact .base _ _ (.lit _)
  ·rename_i us hb;rw [hy.2 us hb,if_neg (by simp),ar];exact .base _ _ (.lit _)
  ·exact ar.elim
theorem u_ {l:List Oper} {rs:List AV} {vs:Nat→Value} {w':World} (R:Rel M0 w0 N p st a w) (hd:dS l=true) (hN:l.all (cW N)=true) (ee:rs.length=l.length) (hb:Below w.heap.size w w')
  (hv:∀ i,i < l.length→V1 w' (Mof M0 st.h p) st.h p (rs.getD i .any) (vs i)) : Rel M0 w0 N p (aQ st l rs) (fill (fun _=>true) vs l 0 a) w':=by
 have R':=R.later hb;have eR:∀ q∈l,∀ d,q.dst=some d→d < a.tmps.size:=fun q hq d eg=>R.size.lt (fh (List.all_eq_true.1 hN q hq) d eg);obtain ⟨Aa,cV⟩:=zn (vs:=vs) (g:=fun _=>true) l 0 a;have hh:=eZ l rs st;refine ⟨by rw [cV];exact R.defers,⟨by rw [Aa];exact R.size.size,fun i hi=>(oS l 0 a i (fun o ho he=>absurd (fh (List.all_eq_true.1 hN o ho) i he).1 (by omega)) eR).trans (R.size.fix i hi)⟩,R'.below,R.m0,R.x0,fun t=>?_,?_,?_⟩
 ·rw [hh];have:=CA (i:=l.length) (vs:=vs) hd ee eR (R'.slots t) (Nat.le_refl _) fun j o hj ho=>⟨(List.getElem?_eq_some_iff.1 hj).1,hv j (List.getElem?_eq_some_iff.1 hj).1⟩
  rwa [List.take_length,List.take_of_length_le (by omega)] at this
 ·rw [hh];exact R'.objs
 ·rw [hh];exact R.inj
def zv (l:List Oper) (n:Nat) : Bool:=if n=l.length then Region.allB l.toArray else Region.specB l.toArray n
theorem na {id:Nat} {l:List Oper} (n:Nat) (ow:List Nat) (hm:P.follows .mixedOrders=true) (hB:zv l n=true) (h:jt P l (l.take n) st fun aK=>dP P ow l (l.drop n) aK (Q .normal)) :
  VWp P M0 w0 N (.region id l.toArray true) Q st:=fun hC p a w R=>by
 have hN:l.all (cW N)=true:=by simpa [fg] using hC
 obtain ⟨rs,eb,hK,fJ⟩:=tA _ _ h;unfold zv at hB;split at hB
 ·rename_i hn;subst hn;rw [List.take_length] at eb hK fJ;rw [List.drop_length] at hK;have dp:=hB;simp only [Region.allB,Bool.and_eq_true] at hB;obtain ⟨⟨kx,hd⟩,bb⟩:=hB;have du:dS l=true:=by simpa using hd
  have cC:∀ i,i < l.length→∀ o,l[i]? = some o→(∀ t∈o.looksAt l.toArray,∀ j,j < l.length→∀ q,l[j]? = some q→q.dst=some t→Region.waitsFor .any l.toArray i j=true)∧(∀ e∈o.after,Region.binds .any e=true→e.on < i):=by
   intro i hi o ho;have h:=List.all_eq_true.1 bb i (List.mem_range.2 (by simpa using hi));simp only [List.getElem?_toArray,ho,Bool.and_eq_true] at h;refine ⟨fun t ht j hj q hq aH=>?_,fun e he hb=>?_⟩
   ·have h1:=List.all_eq_true.1 (List.all_eq_true.1 h.1 t ht) j (List.mem_range.2 (by simpa using hj));simp only [hq,Option.bind_some,aH,bne_self_eq_false,Bool.false_or] at h1;exact h1
   ·have h1:=Array.all_eq_true'.1 h.2 e he;simp only [hb,Bool.not_true,Bool.false_or,decide_eq_true_eq] at h1;exact h1
  have aq:∀ i j,i < l.length→Region.waitsFor .any l.toArray i j=true→j < i:=by
   intro i j hi hw;obtain ⟨o,ho,e,he,hb,cD⟩:=Region.waitsFor_spec hw;rw [←cD];exact (cC i hi o (by simpa using ho)).2 e he hb
  refine KM (S:=fun i v w'=>V1 w' (Mof M0 st.h p) st.h p (rs.getD i .any) v) hm dp (fun i _ v w1 w2 hv hb=>hv.later hb) (fun i hi=>?_) fun vs w' hb hv=>?_
  ·exact AE R (Nat.le_refl _) (by rw [List.take_length];exact du) hN (fun i hi o ho t ht j hj q hq aH=>(cC i hi o ho).1 t ht j hj q hq aH) aq eb (by rw [List.take_length];exact fJ) i hi
  ·exact ⟨_,p,u_ R du hN eb hb hv,hK⟩
 ·rename_i hn;have dp:=hB;simp only [Region.specB,Bool.and_eq_true,decide_eq_true_eq] at hB;obtain ⟨⟨⟨⟨⟨⟨kx,aL⟩,hs⟩,hc⟩,hd⟩,bb⟩,mJ⟩:=hB;have eY:n < l.length:=by simpa using aL
  have du:dS (l.take n)=true:=by simpa using hd
  have hlen:(l.take n).length=n:=by simp;omega
  have cC:∀ i,i < n→∀ o,l[i]? = some o→(∀ t∈o.looksAt l.toArray,∀ j,j < n→∀ q,l[j]? = some q→q.dst=some t→Region.waitsFor .any l.toArray i j=true)∧(∀ e∈o.after,Region.binds .any e=true→e.on < i):=by
   intro i hi o ho;have h:=List.all_eq_true.1 bb i (List.mem_range.2 hi);simp only [List.getElem?_toArray,ho,Bool.and_eq_true] at h;refine ⟨fun t ht j hj q hq aH=>?_,fun e he hb=>?_⟩
   ·have h1:=List.all_eq_true.1 (List.all_eq_true.1 h.1 t ht) j (List.mem_range.2 hj);simp only [hq,Option.bind_some,aH,bne_self_eq_false,Bool.false_or] at h1;exact h1
   ·have h1:=Array.all_eq_true'.1 h.2 e he;simp only [hb,Bool.not_true,Bool.false_or,decide_eq_true_eq] at h1;exact h1
  have aq:∀ i j,i < n→Region.waitsFor .any l.toArray i j=true→j < i:=by
   intro i j hi hw;obtain ⟨o,ho,e,he,hb,cD⟩:=Region.waitsFor_spec hw;rw [←cD];exact (cC i hi o (by simpa using ho)).2 e he hb
  refine xf n (fun i v w'=>V1 w' (Mof M0 st.h p) st.h p (rs.getD i .any) v) hm dp (fun i _ v w1 w2 hv hb=>hv.later hb) (fun i hi=>?_) fun vs w' hb hv=>?_
  ·exact AE R (Nat.le_of_lt eY) du hN (fun i hi o ho t ht j hj q hq aH=>(cC i hi o ho).1 t ht j hj q hq aH) aq (by rw [eb,hlen]) fJ i hi
  ·have pf:(l.take n).all (cW N)=true:=List.all_eq_true.2 fun q hq=>List.all_eq_true.1 hN q (List.mem_of_mem_take hq);have ja:(l.drop n).all (cW N)=true:=List.all_eq_true.2 fun q hq=>List.all_eq_true.1 hN q (List.mem_of_mem_drop hq);exact mP (ow:=ow) hN (fun p st a w R h=>⟨st,p,R,h⟩) (l.drop n) p _ _ w' ja (u_ R du pf eb hb (by rw [hlen];exact hv)) hK
end
def mF (pid:Option Nat) (s:List (Nat×AV)) : List (Nat×AV):=match pid with|some id=>s.map (fun q=>(q.1,purge id q.2))|none=>s
def mG (d:Option Tmp) (av:AV) (pid:Option Nat) (s:List (Nat×AV)) : List (Nat×AV):=match d with|some d=>(d,av)::mF pid s|none=>mF pid s
abbrev CL (d:Option Tmp) (av:AV) (pid:Option Nat) (s:List (Nat×AV)) (H:Hp) : VS:=⟨mG d av pid s,H⟩
def nQ (d:Option Tmp) (av:AV) (pid:Option Nat) (cs:List (Nat×AV)) : List (Nat×AV):=match d with|some d=>(d,av)::(match pid with|some _=>[]|none=>cs)|none=>cs
def CM (Au mO:VS) : Prop:=∀ (M0:Nat→Nat→Prop) (w0:Bas) (N:Nm) (p:Pl) (a:Act) (w:World),Rel M0 w0 N p Au a w→Rel M0 w0 N p mO a w
def q_ (fz:Bool) (av:AV) : AV:=if fz=true then av else .any
def nR (fz:Bool) (d:Option Tmp) (av:AV) (pid:Option Nat) (cs:List (Nat×AV)) : List (Nat×AV):=if fz=true then (match pid with|some _=>[]|none=>cs) else nQ d av pid cs
section
variable (P:Program)
def GZ (ow:List Nat) (o:Oper) (cs:List (Nat×AV)) (T:VS) (X X':Hp) (pid:Option Nat) (av:AV) : Prop:=
 o.guard=none∧(o.dst=none→pid=none)∧(∀ id,pid=some id→T.h.length≤id) ∧
  ∀ s2,(∀ t,Operand.tmp t∈o.op.operands→lkp (cs++T.s) t≠.any→lkp s2 t=lkp (cs++T.s) t)→VDo P ow o ⟨s2,T.h++X⟩ fun aK=>CM aK (CL o.dst av pid s2 (T.h++X'))
def ku (ow:List Nat) (ops:List Oper) (a_:Nat→Bool) : List Oper→Nat→VS→List (Nat×AV)→Hp→(VS→Prop)→Prop
 | [],_,T,cs,X,K=>K ⟨cs++T.s,T.h++X⟩
 | o::l,i,T,cs,X,K=>
  if a_ i=true then ∃ X' pid av fz,(GZ P ow o cs T X X' pid av∧(fz=true→bc T.h.length 5 av=true))∧ku ow ops a_ l (i+1) (T.put o.dst (q_ fz av)) (nR fz o.dst av pid cs) X' K
  else mc P ops o T fun T'=>(∀ d,o.dst=some d→bc T.h.length 5 (lkp T'.s d)=true)∧ku ow ops a_ l (i+1) T' cs X K
end
section
variable {P:Program} {M0:Nat→Nat→Prop} {w0:Bas} {N:Nm} {p:Pl} {st:VS} {a:Act} {w:World} {Q:Exit→VS→Prop}
theorem ra (st:VS) (d:Option Tmp) (r:AV) : (st.put d r).h=st.h:=by cases d<;>rfl
structure ChainSteps (P:Program) (ow:List Nat) (ops:List Oper) (a_:Nat→Bool) (l:List Oper) (i0:Nat) (T:VS) (rs:List AV) (Xs:Nat→Hp) (dD:Nat→List (Nat×AV)) : Prop where
 len:rs.length=l.length
 plain:∀ (i:Nat) (o:Oper) (r:AV),a_ (i0+i)=false→l[i]? = some o→rs[i]? = some r→kh P ops o (aQ T (l.take i) (rs.take i)) r∧(∀ d,o.dst=some d→bc T.h.length 5 r=true)∧Xs (i+1)=Xs i∧dD (i+1)=dD i
 chain:∀ (i:Nat) (o:Oper),a_ (i0+i)=true→l[i]? = some o→∃ pid av fz,rs[i]? = some (q_ fz av)∧GZ P ow o (dD i) (aQ T (l.take i) (rs.take i)) (Xs i) (Xs (i+1)) pid av∧(fz=true→bc T.h.length 5 av=true)∧dD (i+1)=nR fz o.dst av pid (dD i)
theorem G0 (st:VS) (d:Nat) (r:AV) : lkp (st.put (some d) r).s d=r:=by simp [VS.put,lkp]
theorem zw {ow:List Nat} {ops:List Oper} {a_:Nat→Bool} {K:VS→Prop} : ∀ (l:List Oper) (i0:Nat) (T:VS) (cs:List (Nat×AV)) (X:Hp),ku P ow ops a_ l i0 T cs X K →
  ∃ rs Xs dD,ChainSteps P ow ops a_ l i0 T rs Xs dD∧Xs 0=X∧dD 0=cs∧K ⟨dD l.length++(aQ T l rs).s,T.h++Xs l.length⟩
 | [],i0,T,cs,X,h=>⟨[],fun _=>X,fun _=>cs,⟨rfl,by simp,by simp⟩,rfl,rfl,h⟩
 | o::l,i0,T,cs,X,h=>by
  unfold ku at h;by_cases hc:a_ i0=true
  ·rw [if_pos hc] at h;obtain ⟨X',pid,av,fz,⟨h1,sL⟩,h2⟩:=h;obtain ⟨rs,Xs,dD,S,e1,e2,hK⟩:=zw l (i0+1) _ _ _ h2;refine ⟨q_ fz av::rs,fun i=>match i with|0=>X|i+1=>Xs i,fun i=>match i with|0=>cs|i+1=>dD i,⟨by simp [S.len],fun i q r hi hq hr=>?_,fun i q hi hq=>?_⟩,rfl,rfl,?_⟩
   ·cases i with
    | zero=>rw [Nat.add_zero,hc] at hi;cases hi
    | succ i=>
     have:=S.plain i q r (by rw [←hi];congr 1;omega) (by simpa using hq) (by simpa using hr);rw [ra] at this;simpa [aQ] using this
   ·cases i with
    | zero=>
     simp at hq;subst hq;exact ⟨pid,av,fz,rfl,by simpa [aQ,e1] using h1,sL,by simp [e2]⟩
    | succ i=>
     have:=S.chain i q (by rw [←hi];congr 1;omega) (by simpa using hq);rw [ra] at this;simpa [aQ] using this
   ·rw [ra] at hK;simpa [aQ] using hK
  ·rw [if_neg hc] at h;obtain ⟨r,h1,h2,h3⟩:=CK h;obtain ⟨rs,Xs,dD,S,e1,e2,hK⟩:=zw l (i0+1) _ _ _ h3;refine ⟨r::rs,fun i=>match i with|0=>X|i+1=>Xs i,fun i=>match i with|0=>cs|i+1=>dD i,⟨by simp [S.len],fun i q x hi hq hr=>?_,fun i q hi hq=>?_⟩,rfl,rfl,?_⟩
   ·cases i with
    | zero=>
     simp at hq hr;subst hq;subst hr;refine ⟨h1,fun d hd=>?_,by simp [e1],by simp [e2]⟩;have:=h2 d hd;rw [hd,G0] at this;simpa using this
    | succ i=>
     have:=S.plain i q x (by rw [←hi];congr 1;omega) (by simpa using hq) (by simpa using hr);rw [ra] at this;simpa [aQ] using this
   ·cases i with
    | zero=>rw [Nat.add_zero] at hi;exact absurd hi hc
    | succ i=>
     have:=S.chain i q (by rw [←hi];congr 1;omega) (by simpa using hq);rw [ra] at this;simpa [aQ] using this
   ·rw [ra] at hK;simpa [aQ] using hK
theorem rO {n id:Nat} (hn:n≤id) : ∀ (k:Nat) (v:AV),bc n k v=true→cE id k v=true
 | 0,v,h=>by simp [bc] at h
 | k+1,v,h=>by
  have ih:=rO hn k;cases v with
  | agg cs=>simp only [bc,cE,List.all_eq_true] at h ⊢;exact fun c hc=>ih c (h c hc)
  | tup cs=>simp only [bc,cE,List.all_eq_true] at h ⊢;exact fun c hc=>ih c (h c hc)
  | fn f x y=>simp only [bc,cE,Bool.and_eq_true,List.all_eq_true] at h ⊢;exact ⟨fun c hc=>ih c (h.1 c hc),fun c hc=>ih c (h.2 c hc)⟩
  | iface t x=>simp only [bc,cE] at h ⊢;exact ih x h
  | ref i o=>simp only [bc,cE,decide_eq_true_eq,bne_iff_ne,ne_eq] at h ⊢;omega
  | aref i a b c=>simp only [bc,cE,decide_eq_true_eq,bne_iff_ne,ne_eq] at h ⊢;omega
  | osl i=>simp only [bc,cE,decide_eq_true_eq,bne_iff_ne,ne_eq] at h ⊢;omega
  | mp i=>simp only [bc,cE,decide_eq_true_eq,bne_iff_ne,ne_eq] at h ⊢;omega
  | slw i _ _ _=>simp only [bc,cE,decide_eq_true_eq,bne_iff_ne,ne_eq] at h ⊢;omega
  | _=>rfl
theorem Nz {n id:Nat} (hn:n≤id) {v:AV} (h:bc n 5 v=true) : purge id v=v:=by
 unfold purge;rw [if_pos (rO hn 5 v h)]
theorem wN (id:Nat) : ∀ (s:List (Nat×AV)) (i:Nat),lkp (s.map fun q=>(q.1,purge id q.2)) i=purge id (lkp s i)
 | [],i=>by simp [lkp,purge,cE]
 | q::s,i=>by
  simp only [List.map_cons,lkp];split
  ·rfl
  ·exact wN id s i
theorem qk:∀ (x y:List (Nat×AV)) (t:Nat),lkp (x++y) t=lkp x t∨lkp (x++y) t=lkp y t
 | [],_,_=>.inr rfl
 | q::x,y,t=>by
  simp only [List.cons_append,lkp];split
  ·exact .inl rfl
  ·exact qk x y t
theorem Rel.weak {s':List (Nat×AV)} (R:Rel M0 w0 N p st a w) (h:∀ t,lkp s' t=lkp st.s t∨lkp s' t = .any) : Rel M0 w0 N p ⟨s',st.h⟩ a w:=
 ⟨R.defers,R.size,R.below,R.m0,R.x0,fun t=>by
  rcases h t with h|h
  ·show V1 _ _ _ _ (lkp s' t) _;rw [h];exact R.slots t
  ·show V1 _ _ _ _ (lkp s' t) _;rw [h];exact .base _ _ (.any _),R.objs,R.inj⟩
def sOK (n:Nat) : List (Nat×AV)→Prop
 | []=>True
 | q::r=>bc n 5 q.2=true∧sOK n r
def hOK (n:Nat) : Hp→Prop
 | []=>True
 | none::r=>hOK n r
 | some ob::r=>oi n ob=true∧hOK n r
theorem po {n:Nat} : ∀ {s:List (Nat×AV)},sOK n s→∀ t,bc n 5 (lkp s t)=true
 | [],_,_=>rfl
 | q::s,h,t=>by
  simp only [lkp];split
  ·exact h.1
  ·exact po h.2 t
theorem vq {n:Nat} : ∀ {h:Hp},hOK n h→∀ (id:Nat) (ob:Ob),h[id]? = some (some ob)→oi n ob=true
 | [],_,_,_,hi=>by simp at hi
 | none::r,h,id,ob,hi=>by
  cases id with
  | zero=>simp at hi
  | succ id=>exact vq (h:=r) h id ob (by simpa using hi)
 | some x::r,h,id,ob,hi=>by
  cases id with
  | zero=>simp at hi;subst hi;exact h.1
  | succ id=>exact vq (h:=r) h.2 id ob (by simpa using hi)
theorem V1.short {M:Nat→Nat→Prop} {h X:Hp} {av:AV} {v:Value} (hv:V1 w M (h++X) p av v) (hi:bc h.length 5 av=true) : V1 w M h p av v:=
 V1.trunc (fun _ _ hb=>hb) (fun id ob hh=>by rw [List.getElem?_append_left (List.getElem?_eq_some_iff.1 hh).1];exact hh) 5 _ _ hv hi
theorem V1.long {M:Nat→Nat→Prop} {h X:Hp} {av:AV} {v:Value} (hv:V1 w M h p av v) : V1 w M (h++X) p av v:=
 V1.keep (Keeps.refl _ _) (fun _ _ _ hb=>hb) (by simp) (fun _ _=>rfl) (fun id e sz nl es v hid hh ho=>ho e sz nl es (by rw [List.getElem?_append_left hid] at hh;exact hh)) (fun id e sz nl pe qs v hid hh ho=>ho e sz nl pe qs (by rw [List.getElem?_append_left hid] at hh;exact hh))
  (fun id k sz v hid hs=>hs.keep (fun e sz pe qs he=>⟨by rw [List.getElem?_append_left hid] at he;exact he,rfl,rfl,fun _ _ _ _=>rfl⟩) (Nat.le_refl _)) hv
theorem Rel.short_objs {h X:Hp} {s:List (Nat×AV)} (R:Rel M0 w0 N p ⟨s,h++X⟩ a w) (hh:hOK h.length h) (id:Nat) (ob:Ob) (hi:h[id]? = some (some ob)) : ObOK w0 w (Mof M0 (h++X) p) h p id ob:=by
 have ho:=R.objs id ob (by show (h++X)[id]? = _;rw [List.getElem?_append_left (List.getElem?_eq_some_iff.1 hi).1];exact hi);have dt:=vq hh id ob hi;cases ob with
 | mpo kf iv=>exact ho
 | box cs=>
  obtain ⟨a1,cur,e,a2,a3,a4,a5⟩:=ho;exact ⟨a1,cur,e,a2,a3,a4,fun j c hj=>let ⟨u,hu,hv⟩:=a5 j c hj;⟨u,hu,V1.short hv (List.all_eq_true.1 dt c (List.mem_of_getElem? hj))⟩⟩
 | arr e sz nl es=>exact ho
 | bag e sz nl ak qs=>exact ho
theorem G2 {n:Nat} {pid:Option Nat} {s:List (Nat×AV)} {t:Nat} (hp:∀ id,pid=some id→n≤id) (hid:bc n 5 (lkp s t)=true) : lkp (mF pid s) t=lkp s t:=by
 unfold mF;cases pid with
 | none=>rfl
 | some id=>
  show lkp (s.map fun q=>(q.1,purge id q.2)) t=_;rw [wN,Nz (hp id rfl) hid]
theorem G3 {n:Nat} {d:Option Tmp} {av:AV} {pid:Option Nat} {s:List (Nat×AV)} {t:Nat} (ax:∀ d',d=some d'→d'≠t) (hp:∀ id,pid=some id→n≤id) (hid:bc n 5 (lkp s t)=true) : lkp (mG d av pid s) t=lkp s t:=by
 unfold mG;cases d with
 | none=>exact G2 hp hid
 | some d=>
  show (if d=t then av else lkp (mF pid s) t)=_;rw [if_neg (ax d rfl)];exact G2 hp hid
theorem ot:∀ (l:List Oper) (i:Nat),dS l=true→dS (l.take i)=true
 | [],i,_=>by simp [dS]
 | x::l,0,_=>rfl
 | x::l,i+1,h=>by
  simp only [dS,Bool.and_eq_true] at h;simp only [List.take_succ_cons,dS,Bool.and_eq_true];refine ⟨?_,ot l i h.2⟩;have h1:=h.1;cases du:x.dst with
  | none=>rfl
  | some d=>
   simp only [du] at h1;exact List.all_eq_true.2 fun q hq=>List.all_eq_true.1 h1 q (List.mem_of_mem_take hq)
theorem ou:∀ {l:List Oper} {i j:Nat} {o q:Oper} {d:Nat},dS l=true→l[i]? = some o→l[j]? = some q→o.dst=some d→q.dst=some d→i=j
 | [],i,_,_,_,_,_,hi,_,_,_=>by simp at hi
 | x::l,i,j,o,q,d,h,hi,hj,ho,hq=>by
  obtain ⟨h1,h2⟩:=uL h;cases i with
  | zero=>
   simp at hi;subst hi;cases j with
   | zero=>rfl
   | succ j=>exact absurd hq (h1 q (List.mem_of_getElem? (by simpa using hj)) d ho)
  | succ i=>
   cases j with
   | zero=>
    simp at hj;subst hj;exact absurd ho (h1 o (List.mem_of_getElem? (by simpa using hi)) d hq)
   | succ j=>exact congrArg (· + 1) (ou h2 (by simpa using hi) (by simpa using hj) ho hq)
theorem ChainSteps.dom {ow:List Nat} {ops l:List Oper} {a_:Nat→Bool} {T:VS} {rs:List AV} {Xs:Nat→Hp} {dD:Nat→List (Nat×AV)} (S:ChainSteps P ow ops a_ l 0 T rs Xs dD) (h0:dD 0=[]) :
  ∀ (k:Nat),k≤l.length→∀ t,lkp (dD k) t≠.any→∃ c o,c < k∧a_ c=true∧l[c]? = some o∧o.dst=some t
 | 0,_,t,h=>by rw [h0] at h;exact absurd rfl h
 | k+1,hk,t,h=>by
  have ho:l[k]? = some l[k]:=List.getElem?_eq_getElem (by omega);by_cases hc:a_ k=true
  ·obtain ⟨pid,av,fz,_,_,_,he⟩:=S.chain k l[k] (by rw [Nat.zero_add];exact hc) ho;rw [he] at h;unfold nR at h;split at h
   ·cases pid with
    | some _=>exact absurd rfl h
    | none=>
     obtain ⟨c,o,h1,h2,h3,h4⟩:=S.dom h0 k (by omega) t h;exact ⟨c,o,by omega,h2,h3,h4⟩
   unfold nQ at h;split at h
   ·rename_i d hd;by_cases gg:d=t
    ·subst gg;exact ⟨k,l[k],by omega,hc,ho,hd⟩
    ·cases pid with
     | some _=>simp [lkp,gg] at h
     | none=>
      simp only [lkp,gg,if_false] at h;obtain ⟨c,o,h1,h2,h3,h4⟩:=S.dom h0 k (by omega) t h;exact ⟨c,o,by omega,h2,h3,h4⟩
   ·obtain ⟨c,o,h1,h2,h3,h4⟩:=S.dom h0 k (by omega) t h;exact ⟨c,o,by omega,h2,h3,h4⟩
  ·have hr:rs[k]? = some (rs[k]'(by rw [S.len];omega)):=List.getElem?_eq_getElem _;have:=(S.plain k l[k] _ (by rw [Nat.zero_add];simpa using hc) ho hr).2.2.2;rw [this] at h;obtain ⟨c,o,h1,h2,h3,h4⟩:=S.dom h0 k (by omega) t h;exact ⟨c,o,by omega,h2,h3,h4⟩
theorem ChainSteps.same {ow:List Nat} {ops l:List Oper} {a_:Nat→Bool} {T:VS} {rs:List AV} {Xs:Nat→Hp} {dD:Nat→List (Nat×AV)} (S:ChainSteps P ow ops a_ l 0 T rs Xs dD) {k:Nat} : ∀ (m:Nat),k+m≤l.length→(∀ c,k≤c→c < k+m→a_ c=false)→Xs (k+m)=Xs k∧dD (k+m)=dD k
 | 0,_,_=>⟨rfl,rfl⟩
 | m+1,hk,h=>by
  have ih:=S.same (k:=k) m (by omega) fun c h1 h2=>h c h1 (by omega);have ho:l[k+m]? = some (l[k+m]'(by omega)):=List.getElem?_eq_getElem _;have hr:rs[k+m]? = some (rs[k+m]'(by rw [S.len];omega)):=List.getElem?_eq_getElem _;have:=(S.plain (k+m) _ _ (by rw [Nat.zero_add];exact h (k+m) (by omega) (by omega)) ho hr).2.2;exact ⟨this.1.trans ih.1,this.2.trans ih.2⟩
def chainB (l:List Oper) (n:Nat) (a_:Nat→Bool) : Bool:=(List.range n).all fun c=>!a_ c || (List.range c).all fun d=>!a_ d || Region.waitsFor .any l.toArray c d
theorem G4 {id:Nat} {l:List Oper} (n:Nat) (ow:List Nat) (a_:Nat→Bool) (hm:P.follows .mixedOrders=true) (hB:Region.specB l.toArray n=true) (hC:chainB l n a_=true) (hs:sOK st.h.length st.s) (hh:hOK st.h.length st.h)
  (h:ku P ow l a_ (l.take n) 0 st [] [] fun aK=>dP P ow l (l.drop n) aK (Q .normal)) : VWp P M0 w0 N (.region id l.toArray true) Q st:=fun ju p0 a0 va R0=>by
 have hN:l.all (cW N)=true:=by simpa [fg] using ju
 obtain ⟨rs,Xs,dD,S,e1,e2,hK⟩:=zw _ _ _ _ _ h;have dp:=hB;simp only [Region.specB,Bool.and_eq_true,decide_eq_true_eq] at dp;obtain ⟨⟨⟨⟨⟨⟨_,aL⟩,_⟩,_⟩,hd⟩,bb⟩,_⟩:=dp;have eY:n < l.length:=by simpa using aL
 have du:dS (l.take n)=true:=by simpa using hd
 have hlen:(l.take n).length=n:=by simp;omega
 rw [hlen] at hK;have bm:∀ {i:Nat} {o:Oper},i < n→l[i]? = some o→(l.take n)[i]? = some o:=fun {i o} hi ho=>by rw [List.getElem?_take_of_lt hi];exact ho
 have kg:∀ {i:Nat} {o:Oper},(l.take n)[i]? = some o→i < n∧l[i]? = some o:=fun {i o} ho=>by
  have hi:i < n:=by have:=(List.getElem?_eq_some_iff.1 ho).1;omega
  rw [List.getElem?_take_of_lt hi] at ho;exact ⟨hi,ho⟩
 have ee:∀ {i:Nat},i < n→rs[i]? = some (rs.getD i .any):=fun {i} hi=>by simp [List.getD,show i < rs.length by rw [S.len,hlen];exact hi]
 have cC:∀ i,i < n→∀ o,l[i]? = some o→∀ t∈o.looksAt l.toArray,∀ j,j < n→∀ q,l[j]? = some q→q.dst=some t→Region.waitsFor .any l.toArray i j=true∧j < i:=by
  intro i hi o ho;have h:=List.all_eq_true.1 bb i (List.mem_range.2 hi);simp only [List.getElem?_toArray,ho,Bool.and_eq_true] at h;have fK:∀ e∈o.after,Region.binds .any e=true→e.on < i:=fun e he hb=>by
   have h1:=Array.all_eq_true'.1 h.2 e he;simp only [hb,Bool.not_true,Bool.false_or,decide_eq_true_eq] at h1;exact h1
  intro t ht j hj q hq aH;have h1:=List.all_eq_true.1 (List.all_eq_true.1 h.1 t ht) j (List.mem_range.2 hj);simp only [hq,Option.bind_some,aH,bne_self_eq_false,Bool.false_or] at h1;refine ⟨h1,?_⟩;obtain ⟨o',aT,e,he,hb,cD⟩:=Region.waitsFor_spec h1;have:o'=o:=Option.some.inj (aT.symm.trans (by simpa using ho));subst this;rw [←cD];exact fK e he hb
 have wO:∀ c d,c < n→d < c→a_ c=true→a_ d=true→Region.waitsFor .any l.toArray c d=true:=fun c d hc CN h1 h2=>by
  have:=List.all_eq_true.1 hC c (List.mem_range.2 hc);simp only [h1,Bool.not_true,Bool.false_or] at this;have:=List.all_eq_true.1 this d (List.mem_range.2 CN);simpa [h2] using this
 have aX:∀ {i j:Nat} {q:Oper} {t:Nat},j < i→i≤n→l[j]? = some q→q.dst=some t→lkp (aQ st ((l.take n).take i) (rs.take i)).s t=rs.getD j .any:=fun {i j q t} hj hi hq ht=>
  mR ((l.take n).take i) (rs.take i) st t j q (rs.getD j .any) (ot _ _ du) (by rw [List.getElem?_take_of_lt hj];exact bm (by omega) hq) (by rw [List.getElem?_take_of_lt hj];exact ee (by omega)) ht
 have aW:∀ {i t:Nat},(∀ j q,j < n→l[j]? = some q→q.dst≠some t)→lkp (aQ st ((l.take n).take i) (rs.take i)).s t=lkp st.s t:=fun {i t} ho=>
  mn _ _ _ _ fun q hq he=>by
   obtain ⟨j,hj⟩:=List.mem_iff_getElem?.1 (List.mem_of_mem_take hq);obtain ⟨h1,h2⟩:=kg hj;exact ho j q h1 h2 he
 have dt:∀ {j:Nat} {q:Oper} {d:Nat},j < n→l[j]? = some q→q.dst=some d→bc st.h.length 5 (rs.getD j .any)=true:=fun {j q d} hj hq aH=>by
  cases hc:a_ j
  ·exact (S.plain j q _ (by rw [Nat.zero_add];exact hc) (bm hj hq) (ee hj)).2.1 d aH
  ·obtain ⟨pid,av,fz,h1,_,h2,_⟩:=S.chain j q (by rw [Nat.zero_add];exact hc) (bm hj hq);rw [ee hj] at h1;rw [Option.some.inj h1];unfold q_;split
   ·rename_i hf;exact h2 hf
   ·rfl
 refine wp_region_any hm ?_;refine tu (Inv:=fun listed a w=>HeadInv .any l.toArray n listed∧∃ (k:Nat) (p:Pl) (s:List (Nat×AV)),k≤n∧(∀ c,c < n→a_ c=true→(listed.getD c false=true↔c < k))∧Rel M0 w0 N p ⟨s,st.h++Xs k⟩ a w ∧
   (∀ (j:Nat) (q:Oper) (d:Nat),j < n→listed.getD j false=true→l[j]? = some q→q.dst=some d→rs.getD j .any = .any∨lkp s d=rs.getD j .any) ∧
   (∀ t,(∀ j q,j < n→l[j]? = some q→q.dst≠some t)→lkp s t=lkp st.s t)∧(∀ t,lkp (dD k) t≠.any→lkp s t=lkp (dD k) t)) hB (fun _ _ _ inv=>inv.1) ?_ ?_ _ _ _ _ ?_ (by simp)
 ·rintro listed a w i o ⟨head,k,p,s,hk,eP,R,S1,S2,S3⟩ hi bg ho fm;have aT:l[i]? = some o:=by simpa using ho
  obtain ⟨_,o2,lN,c_⟩:=mem_ready.1 hi;have:o2=o:=Option.some.inj (lN.symm.trans ho);subst this;have bT:∀ j,Region.waitsFor .any l.toArray i j=true→listed.getD j false=true:=by
   intro j hj;obtain ⟨o3,mV,e,he,hb,cD⟩:=Region.waitsFor_spec hj;have:o3=o2:=Option.some.inj (mV.symm.trans ho);subst this;rw [←cD];exact c_ e he hb
  have cT:∀ t∈o2.looksAt l.toArray,lkp (aQ st ((l.take n).take i) (rs.take i)).s t = .any∨(lkp (aQ st ((l.take n).take i) (rs.take i)).s t=lkp s t∧bc st.h.length 5 (lkp s t)=true):=fun t ht=>by
   by_cases hex:∃ (j:Nat) (q:Oper),j < n∧l[j]? = some q∧q.dst=some t
   ·obtain ⟨j,q,hj,hq,aH⟩:=hex;obtain ⟨h1,h2⟩:=cC i bg o2 aT t ht j hj q hq aH;rw [aX h2 (by omega) hq aH];rcases S1 j q t hj (bT j h1) hq aH with this|this
    ·exact .inl this
    ·exact .inr ⟨this.symm,by rw [this];exact dt hj hq aH⟩
   ·have bD:∀ j q,j < n→l[j]? = some q→q.dst≠some t:=fun j q hj hq he=>hex ⟨j,q,hj,hq,he⟩;rw [aW bD,S2 t bD];exact .inr ⟨rfl,po hs t⟩
  have cA:∀ {j:Nat} {q:Oper} {d d':Nat},j < n→j≠i→l[j]? = some q→q.dst=some d→o2.dst=some d'→d'≠d:=fun {j q d d'} hj cU hq aH dT he=>by
   subst he;exact cU (ou du (bm hj hq) (bm bg aT) aH dT)
  cases dY:a_ i
  ·obtain ⟨ar,nc,_,_⟩:=S.plain i o2 (rs.getD i .any) (by rw [Nat.zero_add];exact dY) (bm bg aT) (ee bg);have fin:∀ v w',V1 w' (Mof M0 (st.h++Xs k) p) st.h p (rs.getD i .any) v→Below w.heap.size w w'→(fun listed a w=>HeadInv .any l.toArray n listed∧∃ (k:Nat) (p:Pl) (s:List (Nat×AV)),k≤n∧(∀ c,c < n→a_ c=true→(listed.getD c false=true↔c < k))∧Rel M0 w0 N p ⟨s,st.h++Xs k⟩ a w ∧
     (∀ (j:Nat) (q:Oper) (d:Nat),j < n→listed.getD j false=true→l[j]? = some q→q.dst=some d→rs.getD j .any = .any∨lkp s d=rs.getD j .any) ∧
     (∀ t,(∀ j q,j < n→l[j]? = some q→q.dst≠some t)→lkp s t=lkp st.s t)∧(∀ t,lkp (dD k) t≠.any→lkp s t=lkp (dD k) t)) (listed.setIfInBounds i true) (a.put o2.dst v) w':=fun v w' hv hb=>by
    have R':=(R.later hb).put (d:=o2.dst) (fh (List.all_eq_true.1 hN o2 (List.mem_of_getElem? aT))) (V1.long hv);have cO:(VS.put ⟨s,st.h++Xs k⟩ o2.dst (rs.getD i .any))=⟨(VS.put ⟨s,st.h++Xs k⟩ o2.dst (rs.getD i .any)).s,st.h++Xs k⟩:=by cases o2.dst<;>rfl
    rw [cO] at R';refine ⟨head.set hi bg,k,p,_,hk,fun c hc cG=>?_,R',fun j q d hj hl hq aH=>?_,fun t ht=>?_,fun t ht=>?_⟩
    ·have ax:i≠c:=fun e=>by rw [←e,dY] at cG;cases cG
     rw [getD_set_ne false ax];exact eP c hc cG
    ·rw [gW];by_cases cU:j=i
     ·subst cU;have:q=o2:=Option.some.inj (hq.symm.trans aT);subst this;rw [if_pos aH];exact .inr rfl
     ·rw [if_neg fun e=>cA hj cU hq aH e rfl];rw [getD_set_ne false (Ne.symm cU)] at hl;exact S1 j q d hj hl hq aH
    ·rw [gW,if_neg (ht i o2 bg aT)];exact S2 t ht
    ·obtain ⟨c,q,h1,h2,h3,h4⟩:=S.dom e2 k (by rw [hlen];exact hk) t ht;obtain ⟨h5,h6⟩:=kg h3;rw [gW,if_neg fun e=>cA h5 (fun e=>by rw [e,dY] at h2;cases h2) h6 h4 e rfl];exact S3 t ht
   have bU:fi P st.h (ev (aQ st ((l.take n).take i) (rs.take i))) o2.op (rs.getD i .any)→gives P o2 a w fun v w''=>V1 w'' (Mof M0 (st.h++Xs k) p) st.h p (rs.getD i .any) v∧Below w.heap.size w w'':=by
    intro hg;refine pk (R.short_objs hh) R.mok R.h0 R.glob (fun _ _ hb=>.inl hb) (fun x hx=>?_) hg;cases x with
    | tmp t=>
     show V1 _ _ _ _ (lkp (aQ st ((l.take n).take i) (rs.take i)).s t) _;rcases cT t (List.mem_append_left _ (List.mem_filterMap.2 ⟨.tmp t,by simpa using hx,rfl⟩)) with h1|⟨h1,h2⟩
     ·rw [h1];exact .base _ _ (.any _)
     ·rw [h1];exact V1.short (R.slots t) h2
    | const v=>exact .base _ _ (.lit v)
    | global g=>exact .base _ _ (R.evalG g)
    | func f=>exact .base _ _ (.lit _)
   have hy:=fun j=>pb (ops:=l) (j:=j) R hN;have bV:∀ (j:Nat) (want:Bool) (v:Value),o2.guard=some (j,want)→cI l (aQ st ((l.take n).take i) (rs.take i)) j = .lit v→cI l ⟨s,st.h++Xs k⟩ j = .lit v:=by
    intro j want v hg hv;unfold cI at hv ⊢;cases hj:l[j]? with
    | none=>simpa [hj] using hv
    | some q=>
     cases hq:q.dst with
     | none=>simpa [hj,hq] using hv
     | some d=>
      have dW:d∈o2.looksAt l.toArray:=by
       unfold Oper.looksAt;refine List.mem_append_right _ ?_;simp [hg,hj,hq]
      simp only [hj,hq] at hv ⊢;rcases cT d dW with h1|⟨h1,_⟩
      ·rw [h1] at hv;cases hv
      ·rw [←h1];exact hv
   unfold wpOp;simp only [ho];unfold kh at ar;split at ar
   ·rename_i hg;rw [if_pos (by simp [Region.wanted,hg])];rw [eZ] at ar;exact Or.inl (ka (bU ar) rfl fun v w' hv=>fin v w' hv.1 hv.2)
   ·rename_i j want hg;split at ar
    ·rename_i b hb;have ft:=(hy j).1 b (bV j want _ hg hb);split at ar
     ·rename_i hw;subst hw;rw [if_pos (by simp [Region.wanted,hg,ft])];rw [eZ] at ar;exact Or.inl (ka (bU ar) rfl fun v w' hv=>fin v w' hv.1 hv.2)
     ·rename_i hw;rw [if_neg (by simpa [Region.wanted,hg,ft] using hw)];exact fin undef w (by rw [ar];exact .base _ _ (.lit _)) (Below.refl _ _)
    ·rename_i us hb;have ft:=(hy j).2 us (bV j want _ hg hb);rw [if_neg (by simp [Region.wanted,hg,ft])];exact fin undef w (by rw [ar];exact .base _ _ (.lit _)) (Below.refl _ _)
    ·exact ar.elim
  ·obtain ⟨pid,av,fz,hres,⟨mh,CO,cL,kc⟩,sL,bW⟩:=S.chain i o2 (by rw [Nat.zero_add];exact dY) (bm bg aT);rw [ee bg] at hres;replace hres:=Option.some.inj hres
   have jy:k≤i:=by
    rcases Nat.lt_or_ge i k with h1|h1
    ·have h2:=(eP i bg dY).2 h1;rw [getD_both fm] at h2;cases h2
    ·exact h1
   have kX:∀ c,k≤c→c < k+(i - k)→a_ c=false:=fun c h1 h2=>by
    cases cG:a_ c
    ·rfl
    ·have:=bT c (wO i c bg (by omega) dY cG);have:=(eP c (by omega) cG).1 this;omega
   obtain ⟨hX,fW⟩:=S.same (k:=k) (i - k) (by rw [hlen];omega) kX;rw [show k+(i - k)=i by omega] at hX fW;rw [hX,fW] at kc;rw [fW] at bW;have hv:=kc s (fun t ht ax=>by
    rw [eZ] at *;rcases qk (dD k) (aQ st ((l.take n).take i) (rs.take i)).s t with h1|h1
    ·rw [h1] at ax ⊢;exact S3 t ax
    ·rw [h1] at ax ⊢;rcases cT t (List.mem_append_left _ (List.mem_filterMap.2 ⟨.tmp t,by simpa using ht,rfl⟩)) with h2|⟨h2,_⟩
     ·exact absurd h2 ax
     ·exact h2.symm)
   rw [eZ] at hv;rw [eZ] at cL;unfold wpOp;simp only [ho];rw [if_pos (by simp [Region.wanted,mh])];refine Or.inl (xm R (List.all_eq_true.1 hN o2 (List.mem_of_getElem? aT)) hv fun p' aK a' w' R' he=>?_);replace R':=he _ _ _ _ _ _ R'
   have nS:∀ {t:Nat},(∀ d,o2.dst=some d→d≠t)→bc st.h.length 5 (lkp s t)=true→lkp (mG o2.dst av pid s) t=lkp s t:=fun {t} ax hid=>G3 ax cL hid;refine ⟨head.set hi bg,i+1,p',_,by omega,fun c hc cG=>?_,R',fun j q d hj hl hq aH=>?_,fun t ht=>?_,fun t ht=>?_⟩
   ·by_cases tS:i=c
    ·subst tS;have bI:i < listed.size:=by rw [head.size];simpa using (by omega:i < l.length)
     simp [bI]
    ·rw [getD_set_ne false tS];rcases Nat.lt_or_ge c i with h1|h1
     ·have:=bT c (wO i c bg h1 dY cG);exact ⟨fun _=>by omega,fun _=>this⟩
     ·have:=eP c hc cG;exact ⟨fun h=>by have:=this.1 h;omega,fun h=>by omega⟩
   ·by_cases cU:j=i
    ·subst cU;have:q=o2:=Option.some.inj (hq.symm.trans aT);subst this;rw [hres];unfold q_;split
     ·refine .inr ?_;unfold mG;rw [aH];simp [lkp]
     ·exact .inl rfl
    ·rw [getD_set_ne false (Ne.symm cU)] at hl;rcases S1 j q d hj hl hq aH with me|me
     ·exact .inl me
     ·refine .inr ?_;rw [nS (fun d' dT=>cA hj cU hq aH dT) (by rw [me];exact dt hj hq aH)];exact me
   ·rw [nS (fun d' dT he=>ht i o2 bg aT (by rw [dT,he])) (by rw [S2 t ht];exact po hs t)];exact S2 t ht
   ·rw [bW] at ht ⊢;unfold nR at ht ⊢;by_cases hf:fz=true
    ·rw [if_pos hf] at ht ⊢;cases pid with
     | some _=>exact absurd rfl ht
     | none=>
      simp only at ht ⊢;obtain ⟨c,q,g1,g2,g3,g4⟩:=S.dom e2 k (by rw [hlen];omega) t ht;obtain ⟨g5,g6⟩:=kg g3;unfold mG;cases dT:o2.dst with
      | none=>simp only [mF];exact S3 t ht
      | some d=>
       simp only [lkp,mF];rw [if_neg (cA g5 (by omega) g6 g4 dT)];exact S3 t ht
    rw [if_neg hf] at ht ⊢;unfold nQ at ht ⊢;unfold mG;cases dT:o2.dst with
    | none=>
     simp only [dT] at ht ⊢;rw [CO dT];exact S3 t ht
    | some d=>
     simp only [dT] at ht ⊢;by_cases gg:d=t
     ·simp [lkp,gg]
     ·cases pid with
      | some _=>simp [lkp,gg] at ht
      | none=>
       simp only [lkp,gg,if_false,mF] at ht ⊢;exact S3 t ht
 ·rintro listed a w ⟨head,k,p,s,hk,eP,R,S1,S2,S3⟩ aF;have kX:∀ c,k≤c→c < k+(n - k)→a_ c=false:=fun c h1 h2=>by
   cases cG:a_ c
   ·rfl
   ·have:=(eP c (by omega) cG).1 (aF c (by omega));omega
  obtain ⟨hX,fW⟩:=S.same (k:=k) (n - k) (by rw [hlen];omega) kX;rw [show k+(n - k)=n by omega] at hX fW;rw [hX,fW] at hK;have gJ:aQ st (l.take n) rs=aQ st ((l.take n).take n) (rs.take n):=by
   rw [List.take_of_length_le (l:=l.take n) (by rw [hlen];exact Nat.le_refl _),List.take_of_length_le (l:=rs) (by rw [S.len,hlen];exact Nat.le_refl _)]
  have R':=R.weak (s':=dD k++(aQ st (l.take n) rs).s) fun t=>by
   show lkp (dD k++(aQ st (l.take n) rs).s) t=lkp s t∨_;rcases qk (dD k) (aQ st (l.take n) rs).s t with h1|h1
   ·rw [h1];by_cases ax:lkp (dD k) t = .any
    ·exact .inr ax
    ·exact .inl (S3 t ax).symm
   ·rw [h1,gJ];by_cases hex:∃ (j:Nat) (q:Oper),j < n∧l[j]? = some q∧q.dst=some t
    ·obtain ⟨j,q,hj,hq,aH⟩:=hex;rw [aX hj (Nat.le_refl _) hq aH];rcases S1 j q t hj (aF j hj) hq aH with h5|h5
     ·exact .inr h5
     ·exact .inl h5.symm
    ·have bD:∀ j q,j < n→l[j]? = some q→q.dst≠some t:=fun j q hj hq he=>hex ⟨j,q,hj,hq,he⟩;rw [aW bD,S2 t bD];exact .inl rfl
  have ja:(l.drop n).all (cW N)=true:=List.all_eq_true.2 fun q hq=>List.all_eq_true.1 hN q (List.mem_of_mem_drop hq);exact mP (ow:=ow) hN (fun p st a w R h=>⟨st,p,R,h⟩) (l.drop n) p _ _ w ja R' hK
 ·refine ⟨⟨by simp,fun j oj _ hl=>(by rw [getD_replicate_false] at hl;cases hl),fun t _ ht=>getD_in (by simpa using ht) (getD_replicate_false _ _)⟩,0,p0,st.s,Nat.zero_le _,fun c _ _=>⟨fun hl=>(by rw [getD_replicate_false] at hl;cases hl),fun h=>absurd h (Nat.not_lt_zero c)⟩,?_,fun j q d _ hl=>(by rw [getD_replicate_false] at hl;cases hl),fun _ _=>rfl,fun t ht=>?_⟩
  ·rw [e1,List.append_nil];exact R0.later (Below.refl _ _).drew
  ·rw [e2] at ht;exact absurd rfl ht
end
section
variable {P:Program} {ow:List Nat} {ops l:List Oper} {o:Oper} {st:VS} {K:VS→Prop}
theorem aa (h:K st) : dP P ow ops [] st K:=h
theorem ab (h:∀ Y:VS→Prop,(∀ st,dP P ow ops l st K→Y st)→VOp P ow ops o st Y) : dP P ow ops (o::l) st K:=h _ fun _ h=>h
theorem aP (h:K st) : jt P ops [] st K:=h
theorem aO (h:∀ Y:VS→Prop,(∀ st,jt P ops l st K→Y st)→mc P ops o st Y) : jt P ops (o::l) st K:=h _ fun _ h=>h
theorem fM {x:Int} (h1 : -9223372036854775808≤x) (h2:x≤9223372036854775807) : IntKind.i64.wrap x=x:=IntWalk.i64_in _ (by omega)
end
attribute [go_sem] Bt BE dsl yp yo vV yB jC vf ov Value.oneCell' BN exists_eq_left' VOp VDo mc zu cI lX pI yI ev VS.put lkp fi yC yD qc sc fS yf isK vN nu vM ye Br unA yh yi yj vP yk yl tY jT yx oL yu qw oK cQ yy BH BI BJ e8 qz jh nz sf fu jw lW cE purge ua qB jD fT k7 pX CH oT ry aC qe bc oi leS leO leH Le
abbrev I (n:Int) : AV:=.lit (.int .i64 n)
abbrev B (b:Bool) : AV:=.lit (.bool b)
abbrev S (b:ByteArray) : AV:=.lit (.string b)
attribute [go_sem] mG mF nQ nR q_ sOK hOK
section
variable {P:Program} {ow:List Nat} {ops:List Oper} {a_:Nat→Bool} {o:Oper} {l:List Oper} {i:Nat} {T:VS} {cs:List (Nat×AV)} {X:Hp} {K:VS→Prop}
def wP (n:Nat) (d:Option Tmp) (s:List (Nat×AV)) : Bool:=match d with|some d=>bc n 5 (lkp s d)|none=>true
attribute [go_sem] wP
theorem wQ (h:K ⟨cs++T.s,T.h++X⟩) : ku P ow ops a_ [] i T cs X K:=h
theorem mH (hc:a_ i=false) (h:∀ Y:VS→Prop,(∀ T',wP T.h.length o.dst T'.s=true→ku P ow ops a_ l (i+1) T' cs X K→Y T')→mc P ops o T Y) : ku P ow ops a_ (o::l) i T cs X K:=by
 unfold ku;rw [if_neg (by rw [hc];simp)];refine h _ fun T' h1 h2=>⟨fun d hd=>?_,h2⟩
 unfold wP at h1;rw [hd] at h1;exact h1
theorem NA {K K':VS→Prop} {st:VS} (h:VDo P ow o st K) (hk:∀ aK,K aK→K' aK) : VDo P ow o st K':=by
 unfold VDo at h ⊢;split
 ·rename_i aK he;rw [he] at h;exact hk _ h
 ·rename_i he;rw [he] at h;simp only at h;split
  ·rename_i aK he;rw [he] at h;exact hk _ h
  ·rename_i he;rw [he] at h;simp only at h;split
   ·rename_i c d hc;rw [hc] at h;obtain ⟨e,sz,nl,es,h1,h2⟩:=h;exact ⟨e,sz,nl,es,h1,hk _ h2⟩
   ·rename_i hc;rw [hc] at h;obtain ⟨r,h1,h2⟩:=h;exact ⟨r,h1,hk _ h2⟩
theorem pY (X':Hp) (pid:Option Nat) (av:AV) (hc:a_ i=true) (h1:o.guard=none∧(o.dst=none→pid=none)∧∀ id,pid=some id→T.h.length≤id)
  (h2:∀ s2,(∀ t,Operand.tmp t∈o.op.operands→lkp (cs++T.s) t≠.any→lkp s2 t=lkp (cs++T.s) t)→VDo P ow o ⟨s2,T.h++X⟩ fun aK=>aK=CL o.dst av pid s2 (T.h++X'))
  (h3:ku P ow ops a_ l (i+1) (T.put o.dst .any) (nQ o.dst av pid cs) X' K) : ku P ow ops a_ (o::l) i T cs X K:=by
 unfold ku;rw [if_pos hc];exact ⟨X',pid,av,false,⟨⟨h1.1,h1.2.1,h1.2.2,fun s2 cV=>NA (h2 s2 cV) fun aK e=>by rw [e];exact fun _ _ _ _ _ _ R=>R⟩,fun h=>by cases h⟩,h3⟩
theorem zx (X':Hp) (pid:Option Nat) (av:AV) (hc:a_ i=true) (h1:o.guard=none∧(o.dst=none→pid=none)∧∀ id,pid=some id→T.h.length≤id) (NB:bc T.h.length 5 av=true)
  (h2:∀ s2,(∀ t,Operand.tmp t∈o.op.operands→lkp (cs++T.s) t≠.any→lkp s2 t=lkp (cs++T.s) t)→VDo P ow o ⟨s2,T.h++X⟩ fun aK=>CM aK (CL o.dst av pid s2 (T.h++X')))
  (h3:ku P ow ops a_ l (i+1) (T.put o.dst av) (nR true o.dst av pid cs) X' K) : ku P ow ops a_ (o::l) i T cs X K:=by
 unfold ku;rw [if_pos hc];exact ⟨X',pid,av,true,⟨⟨h1.1,h1.2.1,h1.2.2,h2⟩,fun _=>NB⟩,h3⟩
end
section
variable {P:Program} {M0:Nat→Nat→Prop} {w0:Bas} {N:Nm} {p:Pl} {st:VS} {a:Act} {w:World} {Q:Exit→VS→Prop}
theorem uC {h:Hp} {id i:Nat} {ob:Ob} (hi:(h.set id none)[i]? = some (some ob)) : i≠id∧h[i]? = some (some ob):=by
 by_cases ax:i=id
 ·subst ax;by_cases hl:i < h.length
  ·rw [List.getElem?_set_self hl] at hi;simp at hi
  ·rw [List.getElem?_eq_none (by simp;omega)] at hi;simp at hi
 ·rw [List.getElem?_set_ne (fun h=>ax h.symm)] at hi;exact ⟨ax,hi⟩
theorem Mof.drop {h:Hp} {p:Pl} {id b j:Nat} (hb:¬Mof M0 h p b j) : ¬Mof M0 (h.set id none) p b j:=fun fC=>by
 rcases fC with h|⟨i,ob,hi,hl,hp⟩
 ·exact hb (.inl h)
 ·exact hb (.inr ⟨i,ob,(uC hi).2,hl,hp⟩)
theorem Rel.reheap (R:Rel M0 w0 N p st a w) (h':Hp) (hl:st.h.length≤h'.length) (dh:∀ (i:Nat) (ob:Ob),h'[i]? = some (some ob)→cn ob=true→∃ ob',st.h[i]? = some (some ob')∧cn ob'=true)
  (sB:∀ (i e sz:Nat) (nl:Bool) (es:List (List AV)),i < st.h.length→h'[i]? = some (some (.arr e sz nl es))→st.h[i]? = some (some (.arr e sz nl es)))
  (dN:∀ (i e sz:Nat) (nl:Bool) (pe:Option Nat) (qs:List (List (List AV))),i < st.h.length→h'[i]? = some (some (.bag e sz nl pe qs))→st.h[i]? = some (some (.bag e sz nl pe qs)))
  (CP:∀ (i:Nat) (ob:Ob),h'[i]? = some (some ob)→st.h[i]?≠some (some ob)→(∀ {av:AV} {v:Value},V1 w (Mof M0 st.h p) st.h p av v→V1 w (Mof M0 h' p) h' p av v)→ObOK w0 w (Mof M0 h' p) h' p i ob) :
  Rel M0 w0 N p ⟨st.s,h'⟩ a w∧∀ {av:AV} {v:Value},V1 w (Mof M0 st.h p) st.h p av v→V1 w (Mof M0 h' p) h' p av v:=by
 have hM:∀ b j,¬Mof M0 st.h p b j→¬Mof M0 h' p b j:=fun b j hb fC=>by
  rcases fC with h|⟨i,ob,hi,jv,hp⟩
  ·exact hb (.inl h)
  ·obtain ⟨ob',h1,h2⟩:=dh i ob hi jv;exact hb (.inr ⟨i,ob',h1,h2,hp⟩)
 have keep:∀ {av:AV} {v:Value},V1 w (Mof M0 st.h p) st.h p av v→V1 w (Mof M0 h' p) h' p av v:=fun hv=>
  hv.keep (Keeps.refl _ _) (fun b j _ h=>hM b j h) hl (fun _ _=>rfl) (fun i e sz nl es v cu he hv=>hv _ _ _ _ (sB _ _ _ _ _ cu he)) (fun i e sz nl pe qs v cu he hv=>hv _ _ _ _ _ (dN _ _ _ _ _ _ cu he)) (fun i k sz v cu hs=>hs.keep (fun e sz pe qs he=>⟨dN _ _ _ _ _ _ cu he,rfl,rfl,fun _ _ _ _=>rfl⟩) (Nat.le_refl _))
 refine ⟨⟨R.defers,R.size,R.below,R.m0,R.x0,fun i=>keep (R.slots i),fun i ob hi=>?_,fun i i' ob ob' hi br jv CQ b j j' hO ct=>?_⟩,keep⟩
 ·by_cases hs:st.h[i]? = some (some ob)
  ·exact (R.objs i ob hs).keep (fun _=>⟨rfl,rfl⟩) (fun _ _ _ _ _=>rfl) (Nat.le_refl _) (fun hx=>hx.keep (Keeps.refl _ _) fun b j _=>hM b j) fun _ _ _ _ _ hx=>keep hx
  ·exact CP i ob hi hs keep
 ·obtain ⟨o1,h1,l1⟩:=dh i ob hi jv;obtain ⟨o2,h2,l2⟩:=dh i' ob' br CQ;exact R.inj i i' o1 o2 h1 h2 l1 l2 b j j' hO ct
theorem Rel.drop (R:Rel M0 w0 N p st a w) (id:Nat) : Rel M0 w0 N p ⟨st.s,st.h.set id none⟩ a w:=
 (R.reheap (st.h.set id none) (by simp) (fun i ob hi hl=>⟨ob,(uC hi).2,hl⟩) (fun i e sz nl es _ hi=>(uC hi).2) (fun i e sz nl pe qs _ hi=>(uC hi).2) fun i ob hi ax _=>absurd (uC hi).2 ax).1
theorem Rel.freeze (R:Rel M0 w0 N p st a w) {id t e sz:Nat} {nl:Bool} {es:List (List AV)} (ht:lkp st.s t = .osl id) (hi:st.h[id]? = some (some (.arr e sz nl es))) :
  Rel M0 w0 N p ⟨(t,.sl sz es)::st.s,st.h.set id none⟩ a w:=by
 have D:=R.drop id;refine ⟨D.defers,D.size,D.below,D.m0,D.x0,fun i=>?_,D.objs,D.inj⟩;by_cases hit:t=i
 ·subst hit;simp only [lkp,if_true];have hv:=R.slots t;rw [ht] at hv;obtain ⟨A,n,c,hu,hid,ho⟩:=hv.osl_inv;have hO:=ho _ _ _ _ hi;obtain ⟨o1,o2,o3⟩:=R.objs id _ hi;refine .base _ _ ?_;generalize a.tmps.getD t undef=v at hu hO;by_cases aL:nl=true
  ·rw [if_pos aL] at o3;unfold Osl at hO;rw [if_pos aL] at hO;obtain ⟨⟨A,hO⟩,_⟩:=hO;rw [hO,o3];exact .slNil _ _ _
  ·rw [if_neg aL] at o3;unfold Osl at hO;rw [if_neg aL] at hO;obtain ⟨cap,cur,e1,e2,e3,e4,e5⟩:=hO;obtain ⟨q1,cur',q2,q3,q4⟩:=o3;have cG:cur'=cur:=by
    rw [q2] at e2;injection e2 with e2
    injection e2 with e2
   subst cG;rw [e1];by_cases cO:es=[]
   ·subst cO;exact .slNil _ _ _
   ·have hb:p id < w.heap.size:=(Array.getElem?_eq_some_iff.1 e2).1;have jv:cn (.arr e sz nl es)=true:=by
     cases nl
     ·rfl
     ·exact absurd rfl aL
    have NC:∀ j,¬Mof M0 (st.h.set id none) p (p id) j:=by
     rintro j (h|⟨i,ob,bJ,hl,hp⟩)
     ·exact R.h0 _ _ h (q1.1 j)
     ·obtain ⟨ax,Fi⟩:=uC bJ;exact ax (R.inj i id ob _ Fi hi hl jv _ _ 0 hp (.inl rfl))
    have hM:∀ b j,¬Mof M0 st.h p b j→¬Mof M0 (st.h.set id none) p b j:=fun b j=>Mof.drop;have aE:∀ j,w.cell? ⟨p id,j,none⟩=cur'[j]?:=fun j=>by simp [World.cell?,e2]
    have hlen:∀ (k:Nat) (x:List AV),es[k]? = some x→x.length=sz:=fun k x hk=>(o2 k x hk).1;refine .sl sz es cap (p id) 0 (fun k j=>(cur'[k*sz+j]?).getD undef) cO hb (fun _ _ _ _=>NC _) e4 hlen (fun k x j c hk hj=>(o2 k x hk).2 c (List.mem_of_getElem? hj)) (fun k j hk hj=>?_) fun k x j c hk hj=>?_
    ·rw [Nat.zero_add,aE];have hx:es[k]? = some es[k]:=List.getElem?_eq_getElem hk;have bB:j < es[k].length:=by rw [hlen k _ hx];exact hj
     obtain ⟨u,hu,_⟩:=q4 k _ j _ hx (List.getElem?_eq_getElem bB);rw [hu];rfl
    ·obtain ⟨u,hu,hv⟩:=q4 k x j c hk hj;rw [hu];exact hv.keep (Keeps.refl _ _) (fun b j _ h=>hM b j h)
 ·simp only [lkp,if_neg hit];exact D.slots i
theorem nU {c:Code} (t id:Nat) {e sz:Nat} {nl:Bool} {es:List (List AV)} (ht:lkp st.s t = .osl id) (hi:st.h[id]? = some (some (.arr e sz nl es))) (h:VWp P M0 w0 N c Q ⟨(t,.sl sz es)::st.s,st.h.set id none⟩) : VWp P M0 w0 N c Q st:=
 fun hB p a w R=>h hB p a w (R.freeze ht hi)
theorem zy {s:List (Nat×AV)} {H H':Hp} {d id e sz:Nat} {nl:Bool} {es:List (List AV)} (hi:H[id]? = some (some (.arr e sz nl es))) (hH:H'=H.set id none) : CM ⟨(d,.osl id)::s,H⟩ ⟨(d,.sl sz es)::s,H'⟩:=by
 subst hH;intro M0 w0 N p a w R;refine (R.freeze (t:=d) (id:=id) (by simp [lkp]) hi).weak (s':=(d,.sl sz es)::s) fun t=>.inl ?_;simp only [lkp];split<;>rfl
end
theorem VC.weak {P:Program} {f:FuncId} {args:List AV} {r r':AV} (h:VC P f args r) (hr:∀ (w:World) (M:Nat→Nat→Prop) (v:Value),V0 w M r v→V0 w M r' v) : VC P f args r':=
 ⟨h.1,fun w M vs hM hl hv=>(h.2 w M vs hM hl hv).mono fun _ _ ⟨v,he,hb,h0⟩=>⟨v,he,hb,hr _ _ _ h0⟩⟩
theorem V0.nilSl {w:World} {M:Nat→Nat→Prop} {v:Value} (h:V0 w M (.lit (.slice none 0 0)) v) (sz:Nat) : V0 w M (.sl sz []) v:=by
 cases h with
 | lit=>exact .slNil _ _ _
def zz:AV→Bool
 | .lit (.bool b)=>b
 | _=>false
attribute [go_sem] zz
def IsB (b want:Bool) : Prop:=b=want
def IsG (x y:AV) : Prop:=x=y
theorem IsB.out {b want:Bool} (h:IsB b want) : b=want:=h
section
variable {P:Program} {M0:Nat→Nat→Prop} {w0:Bas} {N:Nm} {st:VS} {Q:Exit→VS→Prop}
theorem CR {c:Operand} {x y:Code} (hc:ev st c = .lit (.bool (zz (ev st c)))) (h1:IsB (zz (ev st c)) true→VWp P M0 w0 N x Q st) (h2:IsB (zz (ev st c)) false→VWp P M0 w0 N y Q st) : VWp P M0 w0 N (.cond c x y) Q st:=CG hc h1 h2
theorem zA {ow:List Nat} {ops:List Oper} {o:Oper} {l:List Oper} {K:VS→Prop} {j:Nat} {want:Bool} (C:Prop) [Decidable C] (hg:o.guard=some (j,want)) (hc:C→cI ops st j = .lit (.bool want)) (hn:¬C→cI ops st j = .lit (.bool (!want))∨cI ops st j = .lit undef) (ht:lX P ow st o=none∧mY P st o=none∧ov ow o=none)
  {r:AV} (h:C→fi P st.h (ev st) o.op r) (hK:∀ Y:VS→Prop,(∀ st,dP P ow ops l st K→Y st)→Y (st.put o.dst (if C then r else .lit undef))) : dP P ow ops (o::l) st K:=by
 refine ab fun Y Z=>?_;have hk:=hK Y Z;unfold VOp;rw [hg];simp only;by_cases hC:C
 ·rw [hc hC];simp only [if_true];rw [if_pos hC] at hk;unfold VDo;rw [ht.1,ht.2.1,ht.2.2];exact ⟨r,h hC,hk⟩
 ·rw [if_neg hC] at hk;rcases hn hC with e|e
  ·rw [e];simp only;rw [if_neg (by cases want<;>simp)];exact hk
  ·rw [e];exact hk
theorem qS {ow:List Nat} {ops:List Oper} {o:Oper} {l:List Oper} {K:VS→Prop} {j:Nat} {want:Bool}  {b:Bool} {r:AV} (hg:o.guard=some (j,want)) (hb:IsG (cI ops st j) ((.lit (.bool b)))) (ht:lX P ow st o=none∧mY P st o=none∧ov ow o=none)
  (h:IsB b want→fi P st.h (ev st) o.op r) (hK:∀ Y:VS→Prop,(∀ st,dP P ow ops l st K→Y st)→Y (st.put o.dst (cX b want r))) : dP P ow ops (o::l) st K:=by
 refine zA (r:=r) (b=want) hg (fun hC=>?_) (fun hC=>?_) ht (fun hC=>?_) fun Y Z=>?_
 ·rw [show cI ops st j=_ from hb,hC]
 ·rw [show cI ops st j=_ from hb];revert hC
  cases b<;>cases want<;>simp
 ·exact h hC
 ·exact hK Y Z
theorem G5 {ow:List Nat} {ops:List Oper} {o:Oper} {l:List Oper} {K:VS→Prop} {j:Nat} {want:Bool} {c0 w0:Bool} {b:Bool} {r:AV} (hg:o.guard=some (j,want)) (hb:IsG (cI ops st j) ((cX c0 w0 (.lit (.bool b))))) (ht:lX P ow st o=none∧mY P st o=none∧ov ow o=none)
  (h:IsB c0 w0→IsB b want→fi P st.h (ev st) o.op r) (hK:∀ Y:VS→Prop,(∀ st,dP P ow ops l st K→Y st)→Y (st.put o.dst (cX c0 w0 (cX b want r)))) : dP P ow ops (o::l) st K:=by
 refine zA (r:=r) (c0=w0∧b=want) hg (fun hC=>?_) (fun hC=>?_) ht (fun hC=>?_) fun Y Z=>?_
 ·rw [show cI ops st j=_ from hb];simp only [cX,hC,if_true]
 ·rw [show cI ops st j=_ from hb];simp only [cX];revert hC
  cases c0<;>cases w0<;>cases b<;>cases want<;>simp
 ·exact h hC.1 hC.2
 ·have hk:=hK Y Z;have e:(cX c0 w0 (cX b want r))=if c0=w0∧b=want then r else .lit undef:=by
   simp only [cX];cases c0<;>cases w0<;>cases b<;>cases want<;>simp
  rw [e] at hk;exact hk
theorem G6 {ow:List Nat} {ops:List Oper} {o:Oper} {l:List Oper} {K:VS→Prop} {j:Nat} {want:Bool} {c0 w0:Bool} {c1 w1:Bool} {b:Bool} {r:AV} (hg:o.guard=some (j,want)) (hb:IsG (cI ops st j) ((cX c0 w0 (cX c1 w1 (.lit (.bool b)))))) (ht:lX P ow st o=none∧mY P st o=none∧ov ow o=none)
  (h:IsB c0 w0→IsB c1 w1→IsB b want→fi P st.h (ev st) o.op r) (hK:∀ Y:VS→Prop,(∀ st,dP P ow ops l st K→Y st)→Y (st.put o.dst (cX c0 w0 (cX c1 w1 (cX b want r))))) : dP P ow ops (o::l) st K:=by
 refine zA (r:=r) (c0=w0∧c1=w1∧b=want) hg (fun hC=>?_) (fun hC=>?_) ht (fun hC=>?_) fun Y Z=>?_
 ·rw [show cI ops st j=_ from hb];simp only [cX,hC,if_true]
 ·rw [show cI ops st j=_ from hb];simp only [cX];revert hC
  cases c0<;>cases w0<;>cases c1<;>cases w1<;>cases b<;>cases want<;>simp
 ·exact h hC.1 hC.2.1 hC.2.2
 ·have hk:=hK Y Z;have e:(cX c0 w0 (cX c1 w1 (cX b want r)))=if c0=w0∧c1=w1∧b=want then r else .lit undef:=by
   simp only [cX];cases c0<;>cases w0<;>cases c1<;>cases w1<;>cases b<;>cases want<;>simp
  rw [e] at hk;exact hk
theorem G7 {ow:List Nat} {ops:List Oper} {o:Oper} {l:List Oper} {K:VS→Prop} {j:Nat} {want:Bool} {c0 w0:Bool} {c1 w1:Bool} {c2 w2:Bool} {b:Bool} {r:AV} (hg:o.guard=some (j,want)) (hb:IsG (cI ops st j) ((cX c0 w0 (cX c1 w1 (cX c2 w2 (.lit (.bool b))))))) (ht:lX P ow st o=none∧mY P st o=none∧ov ow o=none)
  (h:IsB c0 w0→IsB c1 w1→IsB c2 w2→IsB b want→fi P st.h (ev st) o.op r) (hK:∀ Y:VS→Prop,(∀ st,dP P ow ops l st K→Y st)→Y (st.put o.dst (cX c0 w0 (cX c1 w1 (cX c2 w2 (cX b want r)))))) : dP P ow ops (o::l) st K:=by
 refine zA (r:=r) (c0=w0∧c1=w1∧c2=w2∧b=want) hg (fun hC=>?_) (fun hC=>?_) ht (fun hC=>?_) fun Y Z=>?_
 ·rw [show cI ops st j=_ from hb];simp only [cX,hC,if_true]
 ·rw [show cI ops st j=_ from hb];simp only [cX];revert hC
  cases c0<;>cases w0<;>cases c1<;>cases w1<;>cases c2<;>cases w2<;>cases b<;>cases want<;>simp
 ·exact h hC.1 hC.2.1 hC.2.2.1 hC.2.2.2
 ·have hk:=hK Y Z;have e:(cX c0 w0 (cX c1 w1 (cX c2 w2 (cX b want r))))=if c0=w0∧c1=w1∧c2=w2∧b=want then r else .lit undef:=by
   simp only [cX];cases c0<;>cases w0<;>cases c1<;>cases w1<;>cases c2<;>cases w2<;>cases b<;>cases want<;>simp
  rw [e] at hk;exact hk
theorem G8 {ops:List Oper} {o:Oper} {l:List Oper} {K:VS→Prop} {j:Nat} {want:Bool} (C:Prop) [Decidable C] (hg:o.guard=some (j,want)) (hc:C→cI ops st j = .lit (.bool want)) (hn:¬C→cI ops st j = .lit (.bool (!want))∨cI ops st j = .lit undef)
  {r:AV} (h:C→fi P st.h (ev st) o.op r) (hK:∀ Y:VS→Prop,(∀ st,jt P ops l st K→Y st)→Y (st.put o.dst (if C then r else .lit undef))) : jt P ops (o::l) st K:=by
 refine aO fun Y Z=>?_;have hk:=hK Y Z;unfold mc;rw [hg];simp only;by_cases hC:C
 ·rw [hc hC];simp only [if_true];rw [if_pos hC] at hk;exact ⟨r,h hC,hk⟩
 ·rw [if_neg hC] at hk;rcases hn hC with e|e
  ·rw [e];simp only;rw [if_neg (by cases want<;>simp)];exact hk
  ·rw [e];exact hk
theorem CS {ops:List Oper} {o:Oper} {l:List Oper} {K:VS→Prop} {j:Nat} {want:Bool}  {b:Bool} {r:AV} (hg:o.guard=some (j,want)) (hb:IsG (cI ops st j) ((.lit (.bool b))))
  (h:IsB b want→fi P st.h (ev st) o.op r) (hK:∀ Y:VS→Prop,(∀ st,jt P ops l st K→Y st)→Y (st.put o.dst (cX b want r))) : jt P ops (o::l) st K:=by
 refine G8 (r:=r) (b=want) hg (fun hC=>?_) (fun hC=>?_) (fun hC=>?_) fun Y Z=>?_
 ·rw [show cI ops st j=_ from hb,hC]
 ·rw [show cI ops st j=_ from hb];revert hC
  cases b<;>cases want<;>simp
 ·exact h hC
 ·exact hK Y Z
theorem ND {ops:List Oper} {o:Oper} {l:List Oper} {K:VS→Prop} {j:Nat} {want:Bool} {c0 w0:Bool} {b:Bool} {r:AV} (hg:o.guard=some (j,want)) (hb:IsG (cI ops st j) ((cX c0 w0 (.lit (.bool b)))))
  (h:IsB c0 w0→IsB b want→fi P st.h (ev st) o.op r) (hK:∀ Y:VS→Prop,(∀ st,jt P ops l st K→Y st)→Y (st.put o.dst (cX c0 w0 (cX b want r)))) : jt P ops (o::l) st K:=by
 refine G8 (r:=r) (c0=w0∧b=want) hg (fun hC=>?_) (fun hC=>?_) (fun hC=>?_) fun Y Z=>?_
 ·rw [show cI ops st j=_ from hb];simp only [cX,hC,if_true]
 ·rw [show cI ops st j=_ from hb];simp only [cX];revert hC
  cases c0<;>cases w0<;>cases b<;>cases want<;>simp
 ·exact h hC.1 hC.2
 ·have hk:=hK Y Z;have e:(cX c0 w0 (cX b want r))=if c0=w0∧b=want then r else .lit undef:=by
   simp only [cX];cases c0<;>cases w0<;>cases b<;>cases want<;>simp
  rw [e] at hk;exact hk
end
@[go_sem] theorem ti3:aU Tryz.prog 3=some ⟨5,1,8,0,1,0,.i64,[],[.int .i64 0]⟩:=by kernel_rfl
@[go_sem] theorem ti4:aU Tryz.prog 4=some ⟨6,1,1,0,1,0,.i64,[],[.bool false]⟩:=by kernel_rfl
@[go_sem] theorem ti5:aU Tryz.prog 5=some ⟨5,1,1,0,1,0,.u8,[],[.int .u8 0]⟩:=by kernel_rfl
@[go_sem] theorem ti9:aU Tryz.prog 9=some ⟨4,1,16,0,1,0,.i64,[],[.string ⟨#[]⟩]⟩:=by kernel_rfl
@[go_sem] theorem Rd:aU Tryz.prog 20=some ⟨9,1,16,0,1,0,.i64,[],[.nilIface]⟩:=by kernel_rfl
@[go_sem] theorem Re:aU Tryz.prog 22=some ⟨1,1,24,61,4,0,.i64,[],[.slice none 0 0]⟩:=by kernel_rfl
@[go_sem] theorem Rf:aU Tryz.prog 24=some ⟨3,3,40,0,1,0,.i64,[(0,1,false),(1,1,false),(2,1,false)],[.slice none 0 0,.int .i64 0,.int .i64 0]⟩:=by kernel_rfl
@[go_sem] theorem Rg:aU Tryz.prog 25=some ⟨1,1,24,58,4,0,.i64,[],[.slice none 0 0]⟩:=by kernel_rfl
@[go_sem] theorem NF:aU Tryz.prog 29=some ⟨1,1,24,62,1,0,.i64,[],[.slice none 0 0]⟩:=by kernel_rfl
@[go_sem] theorem Rh:aU Tryz.prog 30=some ⟨1,1,24,148,3,0,.i64,[],[.slice none 0 0]⟩:=by kernel_rfl
@[go_sem] theorem NG:aU Tryz.prog 32=some ⟨3,3,56,0,1,0,.i64,[(0,1,false),(1,1,false),(2,1,false)],[.slice none 0 0,.slice none 0 0,.int .i64 0]⟩:=by kernel_rfl
@[go_sem] theorem Ri:aU Tryz.prog 33=some ⟨5,1,8,0,1,0,.i64,[],[.int .i64 0]⟩:=by kernel_rfl
@[go_sem] theorem NH:aU Tryz.prog 40=some ⟨1,1,24,45,3,0,.i64,[],[.slice none 0 0]⟩:=by kernel_rfl
@[go_sem] theorem NI:aU Tryz.prog 45=some ⟨3,3,32,0,1,0,.i64,[(0,1,false),(1,1,false),(2,1,false)],[.int .i64 0,.int .i64 0,.string ⟨#[]⟩]⟩:=by kernel_rfl
@[go_sem] theorem Rj:aU Tryz.prog 46=some ⟨2,3,24,3,1,3,.i64,[],[.int .i64 0,.int .i64 0,.int .i64 0]⟩:=by kernel_rfl
@[go_sem] theorem Rl:aU Tryz.prog 58=some ⟨3,4,40,0,1,0,.i64,[(0,1,false),(1,1,false),(2,1,false),(3,1,false)],[.int .i64 0,.int .i64 0,.int .i64 0,.string ⟨#[]⟩]⟩:=by kernel_rfl
@[go_sem] theorem Rm:aU Tryz.prog 61=some ⟨3,4,40,0,1,0,.i64,[(0,1,false),(1,1,false),(2,1,false),(3,1,false)],[.string ⟨#[]⟩,.int .i64 0,.int .i64 0,.bool false]⟩:=by kernel_rfl
@[go_sem] theorem rN:aU Tryz.prog 62=some ⟨1,1,24,9,1,0,.i64,[],[.slice none 0 0]⟩:=by kernel_rfl
@[go_sem] theorem Rn:aU Tryz.prog 63=some ⟨1,1,24,67,3,0,.i64,[],[.slice none 0 0]⟩:=by kernel_rfl
@[go_sem] theorem Ro:aU Tryz.prog 67=some ⟨3,3,32,0,1,0,.i64,[(0,1,false),(1,1,false),(2,1,false)],[.string ⟨#[]⟩,.int .i64 0,.int .i64 0]⟩:=by kernel_rfl
@[go_sem] theorem Rp:aU Tryz.prog 76=some ⟨1,1,24,167,4,0,.i64,[],[.slice none 0 0]⟩:=by kernel_rfl
@[go_sem] theorem Rq:aU Tryz.prog 89=some ⟨8,1,8,0,1,0,.i64,[],[.nilFunc]⟩:=by kernel_rfl
@[go_sem] theorem Rr:aU Tryz.prog 100=some ⟨3,2,16,0,1,0,.i64,[(0,1,false),(1,1,false)],[.int .i64 0,.int .i64 0]⟩:=by kernel_rfl
@[go_sem] theorem Rs:aU Tryz.prog 124=some ⟨3,2,24,0,1,0,.i64,[(0,1,false),(1,1,false)],[.int .i64 0,.string ⟨#[]⟩]⟩:=by kernel_rfl
@[go_sem] theorem Rt:aU Tryz.prog 128=some ⟨3,2,16,0,1,0,.i64,[(0,1,false),(1,1,false)],[.int .i64 0,.int .i64 0]⟩:=by kernel_rfl
@[go_sem] theorem Rv:aU Tryz.prog 141=some ⟨7,1,8,146,7,0,.i64,[],[.pointer none]⟩:=by kernel_rfl
@[go_sem] theorem Rw:aU Tryz.prog 144=some ⟨8,1,8,0,1,0,.i64,[],[.nilFunc]⟩:=by kernel_rfl
@[go_sem] theorem Rx:aU Tryz.prog 146=some ⟨3,7,120,0,1,0,.i64,[(0,3,true),(3,3,true),(6,1,false)],[.slice none 0 0,.slice none 0 0,.int .i64 0,.slice none 0 0,.int .i64 0,.int .i64 0,.slice none 0 0]⟩:=by kernel_rfl
@[go_sem] theorem EM:aU Tryz.prog 148=some ⟨3,3,32,0,1,0,.i64,[(0,1,false),(1,1,false),(2,1,false)],[.string ⟨#[]⟩,.int .i64 0,.int .i64 0]⟩:=by kernel_rfl
@[go_sem] theorem Ry:aU Tryz.prog 150=some ⟨1,1,24,3,1,0,.i64,[],[.slice none 0 0]⟩:=by kernel_rfl
@[go_sem] theorem Rz:aU Tryz.prog 155=some ⟨7,1,8,160,4,0,.i64,[],[.pointer none]⟩:=by kernel_rfl
@[go_sem] theorem RA:aU Tryz.prog 158=some ⟨10,1,8,0,1,0,.i64,[],[.map none]⟩:=by kernel_rfl
@[go_sem] theorem RB:aU Tryz.prog 160=some ⟨3,4,64,0,1,0,.i64,[(0,1,false),(1,1,false),(2,1,false),(3,1,false)],[.slice none 0 0,.map none,.slice none 0 0,.map none]⟩:=by kernel_rfl
@[go_sem] theorem RC:aU Tryz.prog 162=some ⟨8,1,8,0,1,0,.i64,[],[.nilFunc]⟩:=by kernel_rfl
@[go_sem] theorem RD:aU Tryz.prog 167=some ⟨3,4,40,0,1,0,.i64,[(0,1,false),(1,1,false),(2,1,false),(3,1,false)],[.string ⟨#[]⟩,.int .i64 0,.int .i64 0,.int .i64 0]⟩:=by kernel_rfl
@[go_sem] theorem RE:aU Tryz.prog 169=some ⟨8,1,8,0,1,0,.i64,[],[.nilFunc]⟩:=by kernel_rfl
@[go_sem] theorem RF:aU Tryz.prog 171=some ⟨3,2,24,0,1,0,.i64,[(0,1,false),(1,1,false)],[.string ⟨#[]⟩,.nilFunc]⟩:=by kernel_rfl
@[go_sem] theorem ME:aU Tryz.prog 172=some ⟨2,12,144,171,2,6,.i64,[],[.string ⟨#[]⟩,.nilFunc,.string ⟨#[]⟩,.nilFunc,.string ⟨#[]⟩,.nilFunc,.string ⟨#[]⟩,.nilFunc,.string ⟨#[]⟩,.nilFunc,.string ⟨#[]⟩,.nilFunc]⟩:=by kernel_rfl
@[go_sem] theorem RG:aU Tryz.prog 177=some ⟨1,1,24,171,2,0,.i64,[],[.slice none 0 0]⟩:=by kernel_rfl
@[go_sem] theorem RH:aU Tryz.prog 178=some ⟨8,1,8,0,1,0,.i64,[],[.nilFunc]⟩:=by kernel_rfl
@[go_sem] theorem RI:aU Tryz.prog 184=some ⟨10,1,8,0,1,0,.i64,[],[.map none]⟩:=by kernel_rfl
@[go_sem] theorem RJ:aU Tryz.prog 185=some ⟨8,1,8,0,1,0,.i64,[],[.nilFunc]⟩:=by kernel_rfl
@[go_sem] theorem RL:aU Tryz.prog 208=some ⟨8,1,8,0,1,0,.i64,[],[.nilFunc]⟩:=by kernel_rfl
@[go_sem] theorem RM:aU Tryz.prog 210=some ⟨1,1,24,33,1,0,.i64,[],[.slice none 0 0]⟩:=by kernel_rfl
@[go_sem] theorem RN:aU Tryz.prog 211=some ⟨1,1,24,5,1,0,.i64,[],[.slice none 0 0]⟩:=by kernel_rfl
@[go_sem] theorem RO:aU Tryz.prog 212=some ⟨8,1,8,0,1,0,.i64,[],[.nilFunc]⟩:=by kernel_rfl
@[go_sem] theorem RP:aU Tryz.prog 213=some ⟨8,1,8,0,1,0,.i64,[],[.nilFunc]⟩:=by kernel_rfl
@[go_sem] theorem RQ:aU Tryz.prog 221=some ⟨9,1,16,0,1,0,.i64,[],[.nilIface]⟩:=by kernel_rfl
@[go_sem] theorem RR:aU Tryz.prog 233=some ⟨8,1,8,0,1,0,.i64,[],[.nilFunc]⟩:=by kernel_rfl
@[go_sem] theorem RS:aU Tryz.prog 234=some ⟨7,1,8,167,4,0,.i64,[],[.pointer none]⟩:=by kernel_rfl
@[go_sem] theorem RT:aU Tryz.prog 298=some ⟨8,1,8,0,1,0,.i64,[],[.nilFunc]⟩:=by kernel_rfl
@[go_sem] theorem RU:qx Tryz.prog 158=some ((4,.i64),.int .i64 0):=by kernel_rfl
@[go_sem] theorem RW:qx Tryz.prog 184=some ((4,.i64),.bool false):=by kernel_rfl
@[go_sem] theorem tg3:mC Tryz.prog 3=false:=by kernel_rfl
@[go_sem] theorem RX:mC Tryz.prog 33=false:=by kernel_rfl
@[go_sem] theorem tg9:mC Tryz.prog 9=false:=by kernel_rfl
@[go_sem] theorem RY:ns Tryz.prog 46=some [(0,5),(1,5),(2,5)]:=by kernel_rfl
@[go_sem] theorem RZ:ns Tryz.prog 128=some [(0,5),(1,5)]:=by kernel_rfl
@[go_sem] theorem R4:ns Tryz.prog 100=some [(0,5),(1,5)]:=by kernel_rfl
@[go_sem] theorem R5:ns Tryz.prog 58=some [(0,5),(1,5),(2,5),(3,4)]:=by kernel_rfl
@[go_sem] theorem R6:ns Tryz.prog 45=some [(0,5),(1,5),(2,4)]:=by kernel_rfl
@[go_sem] theorem R7:ns Tryz.prog 148=some [(0,4),(1,5),(2,5)]:=by kernel_rfl
@[go_sem] theorem R8:ns Tryz.prog 167=some [(0,4),(1,5),(2,5),(3,5)]:=by kernel_rfl
@[go_sem] theorem R9:ns Tryz.prog 67=some [(0,4),(1,5),(2,5)]:=by kernel_rfl
def eK (n:Int) : List AV:=[I n]
def bL (s:ByteArray) : List AV:=[S s]
def NJ (p:Nat×Nat) : List AV:=[I p.1,I p.2]
attribute [go_sem] eK bL NJ
section
variable {P:Program} {w w':World} {M:Nat→Nat→Prop}
theorem V0.lit_inv {v u:Value} (h:V0 w M (.lit v) u) : u=v:=by cases h;rfl
theorem V0.of_lits (us:List Value) : V0 w M (.tup (us.map .lit)) (.tuple us.toArray):=
 .tup _ _ (by simp) fun i c u hc hu=>by
  obtain ⟨x,hx,rfl⟩:=ea hc;rw [hu] at hx;obtain rfl:=Option.some.inj hx;exact .lit u
theorem V0.sl_inv {α:Type} {F:α→List AV} {C:α→List Value} {sz:Nat} (hF:∀ x,F x=(C x).map .lit) {l:List α} {v:Value} (h:V0 w M (.sl sz (l.map F)) v) : ∃ A cap,v = .slice A l.length cap∧l.length≤cap∧Sl C sz w A l:=by
 generalize he:l.map F=es at h;cases h with
 | slNil _ A cap=>
  have:l=[]:=by simpa using he
  subst this;exact ⟨A,cap,rfl,Nat.zero_le _,Sl.nil _ _ _ _⟩
 | sl _ _ cap b o u ax hb hM dy aM h1 hc hv=>
  subst he;refine ⟨_,cap,by rw [List.length_map],by simpa using dy,fun _=>⟨b,o,rfl,fun k x hk j c hj=>?_⟩⟩;have ca:k < l.length:=(List.getElem?_eq_some_iff.1 hk).1;have hx:(l.map F)[k]? = some (F x):=by simp [hk]
  have Cs:(F x)[j]? = some (.lit c):=by rw [hF];simp [hj]
  have bB:j < sz:=by rw [←aM k _ hx];exact (List.getElem?_eq_some_iff.1 Cs).1
  rw [hc k j (by simpa using ca) bB];exact congrArg some (hv k _ j _ hx Cs).lit_inv
theorem LI {f:FuncId} {a b r:AV} (hg:lL P f=true) (h:∀ w M v1 v2,V0 w M a v1→V0 w M b v2→Calls P f #[v1,v2] w fun e w'=>∃ v,e = .returned v∧Below w.heap.size w w'∧V0 w' M r v) : VC P f [a,b] r:=
 ⟨hg,fun w M vs _ hl hv=>by
  match vs,hl with
  | [v1,v2],_=>
  exact h w M v1 v2 (hv 0 a v1 rfl rfl) (hv 1 b v2 rfl rfl)⟩
end
def inR (n lo hi:Int) : Bool:=decide (lo≤n)&&decide (n≤hi)
def unl (c:Bool) (e:Int) : Int:=if c then 0 else e
def fst:List Int→Int
 | []=>0
 | x::r=>if x≠0 then x else fst r
theorem pw {n lo hi:Int} : inR n lo hi=true↔lo≤n∧n≤hi:=by simp [inR]
def nV (i:Nat) (n:Int) : Bool:=
 (decide (97≤n)&&decide (n≤122)) || (decide (65≤n)&&decide (n≤90)) || (decide (i≠0)&&(decide (n=45) || (decide (48≤n)&&decide (n≤57))))
def nW (s:ByteArray) (n:Nat) : Bool:=(List.range n).all fun i=>nV i (lI s i).toNat
theorem G9 (s:ByteArray) (n:Nat) : nW s (n+1)=(nW s n&&nV n (lI s n).toNat):=by
 simp [nW,List.range_succ]
theorem G_ (s:ByteArray) {n m:Nat} (h:n < m) (ho:nV n (lI s n).toNat=false) : nW s m=false:=by
 unfold nW;rw [List.all_eq_false];exact ⟨n,by simpa using h,by simp [ho]⟩
def dj (s:ByteArray) : Bool:=decide (1≤s.size)&&decide (s.size≤12)&&nW s s.size
def ko (E:Nat→Int) : Nat→Nat→Nat×Int
 | _,0=>(0,0)
 | k,n+1=>if E k≠0 then (k,E k) else ko E (k+1) n
def Ha (a b:ByteArray) : Bool:=a.toList == b.toList
theorem L8 {a b:ByteArray} : Ha a b=true↔a=b:=by
 unfold Ha;rw [beq_iff_eq,DD,DD];constructor
 ·intro h;cases a;cases b;congr;exact Array.toList_inj.1 h
 ·exact fun h=>by rw [h]
end Go.Proofs.YtoibondihdhnoaaGreatDoor
