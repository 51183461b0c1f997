/- Texts in one: One element is appended to a row of a row of rows: of every program; no condition. -/
import Derived.Test.YtoibondihdhnoaaGreatDoorFRP5
import Derived.ArgAppend
import Derived.Deep.LoopGhost
import Derived.Test.YtoibondihdhnoaaGreatDoorFRP2
import Derived.Test.YtoibondihdhnoaaGreatDoorProg
namespace Go.Proofs.YtoibondihdhnoaaGreatDoor
open Go.RowKit
section
variable {P:Program}
theorem yh {w:World} {b o:Nat} {cur:Array Value} {t:TypeId} (v:Value) (h:w.heap[b]? = some (.cells cur t (0,0))) : (w.setCells b o [v]).heap[b]? = some (.cells (cur.setIfInBounds o v) t (0,0)):=by
 simp [World.setCells,World.setCell,Array.getElem?_modify,h]
theorem yi {w:World} {b o b':Nat} (v:Value) (h:b'≠b) : (w.setCells b o [v]).heap[b']? = w.heap[b']?:=by
 simp only [World.setCells,World.setCell,Array.getElem?_modify];rw [if_neg (Ne.symm h)]
theorem vr (w:World) (b o:Nat) (v:Value) : (w.setCells b o [v]).heap.size=w.heap.size:=by simp [World.setCells,World.setCell]
theorem CT {w:World} {t ty e:TypeId} {i:TypeInfo} {z:Value} (ht:P.underlying t=some (.slice e)) (hi:P.info? e=some i) (hz:i.zero=some z) (aM:i.size=1) (fa:z.cells.size=1) (gJ:i.bytes≤100000)
  {A:Option Addr} {n cap:Nat} {olds:List Value} (hA:A=none→n=0∧cap=0) (bs:olds.length=n) (holds:∀ a0,A=some a0→∀ j u,olds[j]? = some u→w.cell? (a0.add j)=some u)
  {a:Addr} {c:Nat} {u0:Value} (hu:w.cell? (a.add 0)=some u0) (hg:cap < n+1) (f_:n+1≤1000000000) :
  ∃ g du cur w',(Builtin.append_ #[t,t] ty #[.slice A n cap,.slice (some a) 1 c]).run P w = .ok (.slice (some ⟨g,0,none⟩) (n+1) du) w'∧w.heap.size≤g∧g < w'.heap.size∧w'.heap[g]? = some (.cells cur e (0,0))∧n+1≤du∧du≤maxLen∧cur.size=du ∧
   (∀ j,j < n→cur[j]? = olds[j]?)∧cur[n]? = some u0∧Below w.heap.size w w':=by
 have fb:∀ j u,[u0][j]? = some u→w.cell? (a.add j)=some u:=fun j u hj=>by
  cases j with
  | zero=>simp at hj;rw [←hj];exact hu
  | succ j=>simp at hj
 have De:(n+1)*i.bytes≤140737488355328:=by
  have:(n+1)*i.bytes≤1000000000*100000:=Nat.mul_le_mul f_ gJ;omega
 cases A with
 | none=>
  obtain ⟨rfl,rfl⟩:=hA rfl;have zB:olds=[]:=List.eq_nil_of_length_eq_zero bs;subst zB;have hr:=run_append_nil (P:=P) (w:=w) t ty e i z ht hi hz a 1 c [u0] (by simp [aM]) fb (by decide) (by decide) (by omega);have dq:=grownCap_ge w 1 0 e;have fN:=grownCap_le_maxLen w 1 0 e (by decide);refine ⟨w.heap.size,grownCap w 1 0 e,_,_,hr,Nat.le_refl _,by simp,heap_alloc_new w.drew _,dq,fN,?_,by simp,?_,?_⟩
  ·rw [Array.size_append,size_zeroCells,fa];have:([u0].toArray).size=1:=rfl;omega
  ·rw [Array.getElem?_append_left (show 0 < ([u0].toArray).size from Nat.one_pos)];rfl
  ·exact ((Below.refl w.heap.size w).drew).alloc (Nat.le_refl _) _
 | some a0=>
  obtain ⟨v',w',hr,⟨hl,aR⟩,xa⟩:=run_append_arg_grows (P:=P) w t ty e i z 1 i.bytes ht hi hz aM rfl fa (by decide) a0 n cap olds (by omega) (holds a0 rfl) a 1 c [u0] (by simp) fb hg (by simp only [maxLen];omega) De;rcases aR with ⟨_,h0⟩|⟨g,du,cur,rfl,dq,um,kB,fN,bI,me⟩
  ·omega
  ·have bb:∀ j,j < n+1→cur[j]? = (olds++[u0])[j]?:=fun j hj=>by
    rw [←me,List.getElem?_take_of_lt (by omega),←Array.getElem?_toList]
   refine ⟨g,du,cur,w',hr,dq,(Array.getElem?_eq_some_iff.1 um).1,um,kB,fN,by omega,fun j hj=>by rw [bb j (by omega),List.getElem?_append_left (by omega)],by rw [bb n (by omega),List.getElem?_append_right (by omega),bs];simp,?_⟩;exact ⟨xa.os,xa.tape,xa.output,xa.size,fun b hb=>xa.block b hb (by simp)⟩
theorem Bel.keepF {w0:Bas} {w w':World} (h:Bel w0 w) (la:w'.os=w.os) (ld:w'.tape=w.tape) (lf:w'.output=w.output) (hk:Keeps (Fr w0) w w') : Bel w0 w':=
 ⟨la.trans h.os,ld.trans h.tape,lf.trans h.output,Nat.le_trans h.size hk.size,fun b ao hX=>(hk.block b (Nat.lt_of_lt_of_le ao h.size) fun j hf=>hf.elim (fun h=>by omega) (hX j)).trans (h.keeps.block b ao hX),
  fun ao hX hc=>hk.cell (Nat.lt_of_lt_of_le ao h.size) (fun hf=>hf.elim (fun h=>by omega) hX) (h.keeps.cell ao hX hc)⟩
variable {M0:Nat→Nat→Prop} {w0:Bas} {N:Nm} {p:Pl} {st:VS} {a:Act} {w:World}
theorem Rel.bagPend {w':World} {p':Pl} {id k e sz d:Nat} {ak:Option Nat} {qs:List (List (List AV))} {ta:List (List AV)} {v:Value} {cur:Array Value} (R:Rel M0 w0 N p st a w) (hd:N.has d)
  (hi:st.h[id]? = some (some (.bag e sz false ak qs))) (_hk:k < qs.length) (fT:ak=none∨ak=some k) (bJ:w.heap[p id]? = some (.cells cur e (0,0)))
  (jg:∀ (i:Nat) (cs:List AV),st.h[i]? = some (some (.box cs))→∀ c∈cs,dH id 5 c=true)
  (la:w'.os=w.os) (ld:w'.tape=w.tape) (lf:w'.output=w.output) (hK:Keeps (fun b j=>p.S id b j) w w')
  (eL:∀ i,p' i=p i) (gv:∀ i,i≠id→p'.S i=p.S i)
  (CJ:∀ b j,p'.S id b j→Fr w0 b j∧b < w'.heap.size) (zt:∀ j,¬p'.S id (p id) j) (wO:∀ (i:Nat) (ob:Ob),i≠id→st.h[i]? = some (some ob)→cn ob=true→∀ b j j',p.O i b j→¬p'.S id b j') (CK:∀ b j,b < w.heap.size→p'.S id b j→p.S id b j)
  (Df:∀ (k':Nat) (v':Value),k' < qs.length→k'≠k→cur[k']? = some v'→Spare w p id sz v'→Spare w' p' id sz v')
  (cB:V0 w' (Mof M0 (st.h.set id (some (.bag e sz false (some k) qs))) p') (.sl sz ta) v) (gq:Spare w' p' id sz v) (rb:∀ (k':Nat) (v':Value),k' < qs.length→k'≠k→cur[k']? = some v'→Dist v v') :
  Rel M0 w0 N p' ⟨(d,.slw id k sz ta)::st.s.map (fun q=>(q.1,unW id q.2)),st.h.set id (some (.bag e sz false (some k) qs))⟩ (a.put (some d) v) w':=by
 obtain ⟨iM,dX⟩:=R.objs id _ hi;rw [if_neg (by simp)] at dX;obtain ⟨b1,b2,cur0,b3,b4,b5,b6⟩:=dX;have:cur0=cur:=by rw [bJ] at b3;injection b3 with b3;injection b3 with b3;exact b3.symm
 subst this;have hid:=(List.getElem?_eq_some_iff.1 hi).1;have bU:cn (Ob.bag e sz false ak qs)=true:=rfl;have gb:∀ k',k'≠k→ak≠some k':=fun k' hn=>by rcases fT with h|h<;>rw [h]<;>simp [Ne.symm hn]
 generalize uJ:st.h.set id (some (Ob.bag e sz false (some k) qs))=h2 at *;have gU:h2.length=st.h.length:=by rw [←uJ];simp
 have eR:h2[id]? = some (some (Ob.bag e sz false (some k) qs)):=by rw [←uJ];exact List.getElem?_set_self hid
 have dD:∀ (i:Nat) (ob:Ob),i≠id→h2[i]? = some (some ob)→st.h[i]? = some (some ob):=fun i ob hn h=>by rwa [←uJ,List.getElem?_set_ne (Ne.symm hn)] at h
 have jr:∀ {i b j},i≠id→(p'.O i b j↔p.O i b j):=fun {i b j} hn=>by unfold Pl.O;rw [eL,gv i hn]
 have hM:∀ b j,b < w.heap.size→¬Mof M0 st.h p b j→¬Mof M0 h2 p' b j:=fun b j ao hn hm=>by
  rcases hm with hm|⟨i,o,aG,bs,hO⟩
  ·exact hn (.inl hm)
  ·by_cases he:i=id
   ·subst he;rcases hO with hO|hO
    ·exact hn (.inr ⟨i,_,hi,bU,.inl (by rw [←eL];exact hO)⟩)
    ·exact hn (.inr ⟨i,_,hi,bU,.inr (CK b j ao hO)⟩)
   ·exact hn (.inr ⟨i,o,dD i o he aG,bs,(jr he).1 hO⟩)
 have wP:Keeps (Mof M0 st.h p) w w':=hK.mono fun b j _ hS=>.inr ⟨id,_,hi,bU,.inr hS⟩;have PI:Keeps (Fr w0) w w':=hK.mono fun b j _ hS=>(b1 b j (.inr hS)).1;have aq:∀ i o,i≠id→st.h[i]? = some (some o)→cn o=true→∀ b j,p.O i b j→b < w.heap.size→w'.heap[b]? = w.heap[b]?:=fun i o hn aG bs b j hO ao=>hK.block b ao fun j' hS=>hn (R.inj i id o _ aG hi bs bU b j j' hO (.inr hS));have ao:=(b1 (p id) 0 (.inl rfl)).2;have cQ:w'.heap[p id]? = w.heap[p id]?:=hK.block _ ao b2;have dM:∀ {x:AV} {u:Value},V0 w (Mof M0 st.h p) x u→V0 w' (Mof M0 h2 p') x u:=fun hx=>hx.keep wP hM;have hV:∀ {x:AV} {u:Value},V1 w (Mof M0 st.h p) st.h p x u→dH id 5 x=true→V1 w' (Mof M0 h2 p') h2 p' x u:=fun {x u} hx hn=>
  V1.bag wP hM (by omega) eL (fun i e' bD nl es' v' he hv=>by
   by_cases gQ:i=id
   ·subst gQ;rw [eR] at he;cases he
   ·have aG:=dD i _ gQ he;exact (hv _ _ _ _ aG).keep fun aK hl=>aq i _ gQ aG (by rw [aK];rfl) _ 0 (.inl rfl) hl) (fun i e' bD nl nF pF v' he hv=>by
   by_cases gQ:i=id
   ·subst gQ;rw [eR] at he;simp only [Option.some.injEq,Ob.bag.injEq] at he;obtain ⟨rfl,rfl,rfl,rfl,rfl⟩:=he;exact (hv _ _ _ _ _ hi).keep fun _ _=>cQ
   ·have aG:=dD i _ gQ he;exact (hv _ _ _ _ _ aG).keep fun aK hl=>aq i _ gQ aG (by rw [aK];rfl) _ 0 (.inl rfl) hl) (fun i k' bD v' hn _ hs=>hs.keep (fun e' rJ xG pF he=>by
   have aG:=dD i _ hn he;exact ⟨aG,eL i,gv i hn,fun b j hO hl=>aq i _ hn aG rfl b j hO hl⟩) hK.size) 5 x u hx hn
 have hU:∀ {x:AV} {u:Value},V1 w (Mof M0 st.h p) st.h p x u→V1 w' (Mof M0 h2 p') h2 p' (unW id x) u:=fun {x u} hx=>by
  by_cases hs:∃ i k sz es,x = .slw i k sz es
  ·obtain ⟨i,k',bD,es',rfl⟩:=hs;by_cases hn:i=id
   ·rw [show unW id (.slw i k' bD es') = .sl bD es' from if_pos hn];exact .base _ _ (dM hx.slw_inv.2.1)
   ·rw [show unW id (.slw i k' bD es') = .slw i k' bD es' from if_neg hn];exact hV hx (by simpa [dH] using hn)
  ·have e:unW id x=if dH id 5 x=true then x else .any:=by cases x<;>first|rfl|exact absurd ⟨_,_,_,_,rfl⟩ hs
   rw [e];split
   ·rename_i hn;exact hV hx hn
   ·exact .base _ _ (.any _)
 refine ⟨R.defers,R.size.put hd,R.below.keepF la ld lf PI,R.m0,R.x0,fun i=>?_,fun i o aG=>?_,fun i i' o o' aG bn bs ef x j j' hO cw=>?_⟩
 ·rw [mQ a d _ i (R.size.lt hd)];simp only [lkp];split
  ·refine .slw id k sz ta v (by omega) cB fun e' bD xG pF he=>?_;rw [eR] at he;simp only [Option.some.injEq,Ob.bag.injEq] at he;obtain ⟨rfl,rfl,_,rfl,rfl⟩:=he;refine ⟨rfl,gq,by rw [eL];exact Nat.lt_of_lt_of_le ao hK.size,fun cur' K8 k' v' hc dN rK _ bE=>?_⟩;rw [eL,cQ,bJ] at hc;injection hc with hc
   injection hc with hc _ _
   subst hc;exact rb k' v' dN rK bE
  ·rw [nE];exact hU (R.slots i)
 ·by_cases gQ:i=id
  ·subst gQ;rw [eR] at aG;simp only [Option.some.injEq] at aG;subst aG;refine ⟨iM,?_⟩;rw [if_neg (by simp)];refine ⟨fun b j hO=>?_,fun j=>by rw [eL];exact zt j,cur0,by rw [eL,cQ];exact bJ,b4,fun k0 x hx=>?_,fun k1 k2 v1 v2 h1 h2 od uZ kZ e1 e2=>b6 k1 k2 v1 v2 h1 h2 od (gb k1 fun h=>uZ (by rw [h])) (gb k2 fun h=>kZ (by rw [h])) e1 e2⟩
   ·rcases hO with hO|hO
    ·have:=b1 b j (.inl (by rw [←eL];exact hO));exact ⟨this.1,Nat.lt_of_lt_of_le this.2 hK.size⟩
    ·exact CJ b j hO
   ·obtain ⟨v1,g1,g2,g3⟩:=b5 k0 x hx;refine ⟨v1,g1,dM g2,fun PJ=>?_⟩;have ph:k0≠k:=fun h=>PJ (by rw [h]);exact Df k0 v1 (List.getElem?_eq_some_iff.1 hx).1 ph g1 (g3 (gb k0 ph))
  ·have bn:=dD i o gQ aG;exact (R.objs i o bn).keep (fun _=>⟨eL i,gv i gQ⟩) (fun bs b j hO hl=>aq i o gQ bn bs b j hO hl) hK.size dM fun cs bI c hc u hx=>hV hx (jg i cs (by rw [bn,bI]) c hc)
 ·by_cases h1:i=id
  ·by_cases h2:i'=id
   ·rw [h1,h2]
   ·subst h1;have p_:=dD i' o' h2 bn;have kJ:=(jr h2).1 cw;rcases hO with hO|hO
    ·exact R.inj i i' _ o' hi p_ bU ef x j j' (.inl (by rw [←eL];exact hO)) kJ
    ·exact absurd hO (wO i' o' h2 p_ ef x j' j kJ)
  ·have mw:=dD i o h1 aG;have oe:=(jr h1).1 hO;by_cases h2:i'=id
   ·subst h2;rcases cw with cw|cw
    ·exact R.inj i i' o _ mw hi bs bU x j j' oe (.inl (by rw [←eL];exact cw))
    ·exact absurd cw (wO i o h1 mw bs x j j' oe)
   ·exact R.inj i i' o o' mw (dD i' o' h2 bn) bs ef x j j' oe ((jr h2).1 cw)
end
section
variable {P:Program} {M0:Nat→Nat→Prop} {w0:Bas} {N:Nm} {p:Pl} {st:VS} {a:Act} {w:World}
theorem V0.row1 {M:Nat→Nat→Prop} {es:List (List AV)} {A:Option Addr} {n cap:Nat} (h:V0 w M (.sl 1 es) (.slice A n cap)) :
  n=es.length∧(∀ (k:Nat) (x:List AV),es[k]? = some x→x.length=1∧∀ c∈x,cN c=true)∧(0 < n→∃ b o,A=some ⟨b,o,none⟩∧b < w.heap.size ∧
   ∀ k,k < n→¬M b (o+k)∧∃ u,w.cell? ⟨b,o+k,none⟩=some u∧∀ (x:List AV) (c:AV),es[k]? = some x→x[0]? = some c→V0 w M c u):=by
 cases h with
 | slNil=>exact ⟨rfl,by simp,fun h=>by omega⟩
 | sl _ _ _ b o u aq hb hM dy aM h1 hc hv=>
  refine ⟨rfl,fun k x hx=>⟨aM k x hx,fun c hc=>?_⟩,fun _=>⟨b,o,rfl,hb,fun k hk=>⟨?_,u k 0,?_,fun x c hx hc=>hv k x 0 c hx hc⟩⟩⟩
  ·obtain ⟨j,hj⟩:=List.mem_iff_getElem?.1 hc;exact h1 k x j c hx hj
  ·have:=hM k 0 hk (by decide);simpa using this
  ·have:=hc k 0 hk (by decide);simpa using this
theorem Rel.bagApp {t ty e id k d:Nat} {ti te:TI} {ak:Option Nat} {qs:List (List (List AV))} {es:List (List AV)} {x:AV} {vx vy:Value} (R:Rel M0 w0 N p st a w) (hd:N.has d) (aX:aY P t=some ti) (lJ:ti.kind=1) (fM:aY P ti.elem=some te) (h1:te.size=1) (h2:te.zero.length=1) (gJ:te.bytes≤100000)
  (hi:st.h[id]? = some (some (.bag e 1 false ak qs))) (hk:k < qs.length) (fT:ak=none∨ak=some k) (jg:∀ (i:Nat) (cs:List AV),st.h[i]? = some (some (.box cs))→∀ c∈cs,dH id 5 c=true)
  (hx:V1 w (Mof M0 st.h p) st.h p (.slw id k 1 es) vx) (hy:V0 w (Mof M0 st.h p) (.sl 1 [[x]]) vy) (f_:es.length+1≤1000000000) :
  ∃ v w' p',(Builtin.append_ #[t,t] ty #[vx,vy]).run P w = .ok v w'∧Rel M0 w0 N p' ⟨(d,.slw id k 1 (es++[[x]]))::st.s.map (fun q=>(q.1,unW id q.2)),st.h.set id (some (.bag e 1 false (some k) qs))⟩ (a.put (some d) v) w':=by
 obtain ⟨hb1,hb2,cur,bJ,Sz,PK,SA⟩:=R.bagRow hi;obtain ⟨_,h0,hs⟩:=hx.slw_inv;obtain ⟨_,gq,PL,rb⟩:=hs _ _ _ _ hi;obtain ⟨A,n,cap,rfl,hle,gq⟩:=gq;obtain ⟨rfl,cI,dk⟩:=h0.row1;obtain ⟨dd,inf,z,eu,gP,hz,fO,im⟩:=eS fM;have bz:inf.size=1:=by rw [←h1,im]
 have fa:z.cells.size=1:=by rw [←h2,im,Array.length_toList]
 have mr:inf.bytes≤100000:=by rw [im] at gJ;exact gJ
 have hu:=lR aX lJ;have bU:cn (Ob.bag e 1 false ak qs)=true:=rfl;have gb:∀ k',k'≠k→ak≠some k':=fun k' hn=>by rcases fT with h|h<;>rw [h]<;>simp [Ne.symm hn]
 have hid:=(List.getElem?_eq_some_iff.1 hi).1;have dD:∀ (i:Nat) (ob:Ob),i≠id→(st.h.set id (some (Ob.bag e 1 false (some k) qs)))[i]? = some (some ob)→st.h[i]? = some (some ob):=fun i ob hn h=>by rwa [List.getElem?_set_ne (Ne.symm hn)] at h
 obtain ⟨ay,cy,u0,rfl,re,sP,b9⟩ : ∃ (ay:Addr) (cy:Nat) (u0:Value),vy = .slice (some ay) 1 cy∧w.cell? (ay.add 0)=some u0∧V0 w (Mof M0 st.h p) x u0∧cN x=true:=by
  cases hy with
  | sl _ _ du b o u aq hb hM dy aM ho hc hv=>
   refine ⟨⟨b,o,none⟩,du,u 0 0,rfl,?_,hv 0 _ 0 _ rfl rfl,ho 0 _ 0 _ rfl rfl⟩;have:=hc 0 0 (by simp) (by decide);rw [ji];simpa using this
 have wK:=sP.one b9;have xb:∀ (k':Nat) (v':Value),k' < qs.length→k'≠k→cur[k']? = some v'→Dist (.slice A es.length cap) v':=fun k' v' dN aq bE=>rb cur e k' v' bJ dN aq (gb k' aq) bE;have xc:∀ (k':Nat) (v':Value),k' < qs.length→k'≠k→cur[k']? = some v'→Spare w p id 1 v':=fun k' v' dN aq bE=>by
  obtain ⟨v2,g1,_,g3⟩:=PK k' _ (List.getElem?_eq_getElem dN);rw [bE] at g1;obtain rfl:=Option.some.inj g1;exact g3 (gb k' aq)
 have lZ:(es++[[x]]).length=es.length+1:=by simp
 have mB:∀ (k:Nat) (y:List AV),(es++[[x]])[k]? = some y→y.length=1∧∀ c∈y,cN c=true:=fun k y hy=>by
  rcases Nat.lt_or_ge k es.length with hl|hl
  ·rw [List.getElem?_append_left hl] at hy;exact cI k y hy
  ·rw [List.getElem?_append_right hl] at hy;cases hj:k - es.length with
   | zero=>rw [hj] at hy;simp at hy;subst hy;exact ⟨rfl,by simpa using b9⟩
   | succ j=>rw [hj] at hy;simp at hy
 by_cases fg:es.length+1≤cap
 ·obtain ⟨b,o,sQ,tb,rfl,xd,iP,fN,_,Ip,hS⟩:=gq (by omega);simp only [Nat.mul_one] at iP hS;have uk:=hS (o+es.length) (Nat.le_refl _);have aC:=run_append_room_cells (P:=P) w t ty ti.elem inf hu gP b o es.length cap ay 1 cy [u0] (by simp [bz]) (fun j u hj=>by
   cases j with
   | zero=>simp at hj;rw [←hj];exact re
   | succ j=>simp at hj) (by simpa using wK) fg (fun j hj=>by
   obtain rfl:j=0:=by simpa using hj
   rw [bz,cell_of_row w b _ sQ tb (0,0) xd];have:o+es.length*1+0 < sQ.size:=by omega
   simpa using this) (fun j hj=>by simp [World.frozen?,xd])
  rw [bz,Nat.mul_one] at aC;have zK:∀ b' j,¬Mof M0 st.h p b' j→¬Mof M0 (st.h.set id (some (Ob.bag e 1 false (some k) qs))) ⟨p.b,fun i=>if i=id then fun b' j=>p.S id b' j∧¬(b'=b∧j=o+es.length) else p.S i⟩ b' j:=fun b' j hn hm=>by
   rcases hm with hm|⟨i,ob,aG,bs,hO⟩
   ·exact hn (.inl hm)
   ·by_cases he:i=id
    ·subst he;rcases hO with hO|hO
     ·exact hn (.inr ⟨i,_,hi,bU,.inl hO⟩)
     ·simp only [if_true] at hO;exact hn (.inr ⟨i,_,hi,bU,.inr hO.1⟩)
    ·refine hn (.inr ⟨i,ob,dD i ob he aG,bs,?_⟩);rcases hO with hO|hO
     ·exact .inl hO
     ·simp only [if_neg he] at hO;exact .inr hO
  have Iq:Keeps (fun b j=>p.S id b j) w (w.setCells b (o+es.length) [u0]):=by
   refine ⟨by rw [vr];exact Nat.le_refl _,fun b' _ hn=>yi u0 fun he=>hn (o+es.length) (by rw [he];exact uk),fun {b' o' v'} _ hn hc=>?_⟩;rw [World.cell?_setCells_out b [u0] (o+es.length) w ⟨b',o',none⟩ fun h1 _=>?_]
   ·exact hc
   ·simp only at h1 ⊢;have:o'≠o+es.length:=fun he=>hn (by rw [h1,he];exact uk);simp only [List.length_singleton];omega
  have dv:=(Array.getElem?_eq_some_iff.1 xd).1;refine ⟨_,_,_,aC,R.bagPend (p':=⟨p.b,fun i=>if i=id then fun b' j=>p.S id b' j∧¬(b'=b∧j=o+es.length) else p.S i⟩) hd hi hk fT bJ jg rfl rfl rfl Iq (fun _=>rfl) (fun i hn=>by simp only [if_neg hn]) (fun b' j h=>?_) (fun j h=>?_) (fun i ob hn aG bs b' j j' hO h=>?_) (fun b' j _ h=>?_) (fun k' v' dN aq bE Dg=>?_) ?_ ?_ fun k' v' dN aq bE=>?_⟩
  ·simp only [if_true] at h;have:=hb1 b' j (.inr h.1);exact ⟨this.1,by rw [vr];exact this.2⟩
  ·simp only [if_true] at h;exact hb2 j h.1
  ·simp only [if_true] at h;exact hn (R.inj i id ob _ aG hi bs bU b' j j' hO (.inr h.1))
  ·simp only [if_true] at h;exact h.1
  ·obtain ⟨A2,n2,n7,rfl,q2,q3⟩:=Dg;refine ⟨A2,n2,n7,rfl,q2,fun ao=>?_⟩;obtain ⟨b2,o2,lk,t2,rfl,g2,g3,g4,g5,g6,g7⟩:=q3 ao;have uo:b≠b2:=xb k' _ dN aq bE b o es.length cap b2 o2 n2 n7 rfl rfl (by omega) ao;refine ⟨b2,o2,lk,t2,rfl,by rw [yi u0 (Ne.symm uo)];exact g2,g3,g4,g5,g6,fun j hj=>?_⟩;simp only [if_true];exact ⟨g7 j hj,fun h=>uo h.1.symm⟩
  ·have aD:∀ k1,k1 < es.length+1→∃ u,(w.setCells b (o+es.length) [u0]).cell? ⟨b,o+k1,none⟩=some u∧∀ (y:List AV) (c:AV),(es++[[x]])[k1]? = some y→y[0]? = some c→V0 (w.setCells b (o+es.length) [u0]) (Mof M0 (st.h.set id (some (Ob.bag e 1 false (some k) qs))) ⟨p.b,fun i=>if i=id then fun b' j=>p.S id b' j∧¬(b'=b∧j=o+es.length) else p.S i⟩) c u:=fun k1 jj=>by
    have d_:∀ {c:AV} {u:Value},V0 w (Mof M0 st.h p) c u→V0 (w.setCells b (o+es.length) [u0]) (Mof M0 (st.h.set id (some (Ob.bag e 1 false (some k) qs))) ⟨p.b,fun i=>if i=id then fun b' j=>p.S id b' j∧¬(b'=b∧j=o+es.length) else p.S i⟩) c u:=fun hv=>hv.keep (Iq.mono fun b j _ hS=>.inr ⟨id,_,hi,bU,.inr hS⟩) fun b j _=>zK b j;rcases Nat.lt_or_ge k1 es.length with hl|hl
    ·obtain ⟨b3,o3,hA,_,cK⟩:=dk (by omega);simp only [Option.some.injEq,Addr.mk.injEq] at hA;obtain ⟨rfl,rfl,_⟩:=hA;obtain ⟨_,u,g1,g2⟩:=cK k1 hl;refine ⟨u,?_,fun y c hy hc=>d_ (g2 y c (by rwa [List.getElem?_append_left hl] at hy) hc)⟩;rw [World.cell?_setCells_out b [u0] (o+es.length) w ⟨b,o+k1,none⟩ fun _ _=>.inl (by simp only;omega)];exact g1
    ·obtain rfl:k1=es.length:=by omega
     refine ⟨u0,?_,fun y c hy hc=>?_⟩
     ·rw [cell_of_row _ b _ _ tb (0,0) (yh u0 xd)];have:o+es.length < sQ.size:=by omega
      simp [this]
     ·rw [List.getElem?_append_right (Nat.le_refl _),Nat.sub_self] at hy;simp at hy;subst hy;simp at hc;subst hc;exact d_ sP
   have hv:=V0.sl (w:=w.setCells b (o+es.length) [u0]) (M:=Mof M0 (st.h.set id (some (Ob.bag e 1 false (some k) qs))) ⟨p.b,fun i=>if i=id then fun b' j=>p.S id b' j∧¬(b'=b∧j=o+es.length) else p.S i⟩) 1 (es++[[x]]) cap b o (fun k1 _=>((w.setCells b (o+es.length) [u0]).cell? ⟨b,o+k1,none⟩).getD undef) (by simp) (by rw [vr];exact dv) (fun k1 j jj hj hm=>?_) (by omega) (fun k1 y hy=>(mB k1 y hy).1) (fun k1 y j c hy hc=>(mB k1 y hy).2 c (List.mem_of_getElem? hc)) (fun k1 j jj hj=>?_) fun k1 y j c hy hc=>?_
   ·rw [lZ] at hv;exact hv
   ·obtain rfl:j=0:=by omega
    simp only [Nat.mul_one,Nat.add_zero] at hm;rcases Nat.lt_or_ge k1 es.length with hl|hl
    ·obtain ⟨b3,o3,hA,_,cK⟩:=dk (by omega);simp only [Option.some.injEq,Addr.mk.injEq] at hA;obtain ⟨rfl,rfl,_⟩:=hA;exact zK _ _ (cK k1 hl).1 hm
    ·obtain rfl:k1=es.length:=by omega
     rcases hm with hm|⟨i,ob,aG,bs,hO⟩
     ·exact R.h0 _ _ hm (hb1 _ _ (.inr uk)).1
     ·by_cases he:i=id
      ·subst he;rcases hO with hO|hO
       ·exact Ip hO.symm
       ·simp only [if_true] at hO;exact hO.2 ⟨trivial,trivial⟩
      ·refine he (R.inj i id ob _ (dD i ob he aG) hi bs bU b (o+es.length) (o+es.length) ?_ (.inr uk));rcases hO with hO|hO
       ·exact .inl hO
       ·simp only [if_neg he] at hO;exact .inr hO
   ·obtain rfl:j=0:=by omega
    obtain ⟨u,g1,_⟩:=aD k1 (by omega);simp only [Nat.mul_one,Nat.add_zero];rw [g1];rfl
   ·obtain ⟨u,g1,g2⟩:=aD k1 (by rw [←lZ];exact (List.getElem?_eq_some_iff.1 hy).1);have mm:j=0:=by
     have:=(mB k1 y hy).1;have:=(List.getElem?_eq_some_iff.1 hc).1;omega
    subst mm;rw [g1];exact g2 y c hy hc
  ·refine ⟨_,_,_,rfl,fg,fun ao=>⟨b,o,_,tb,rfl,yh u0 xd,by simpa using iP,fN,Nat.one_pos,Ip,fun j hj=>?_⟩⟩;show (if id=id then _ else _:Nat→Nat→Prop) b j;rw [if_pos rfl];exact ⟨hS j (by omega),fun h=>by omega⟩
  ·intro b3 o3 n3 c3 b4 o4 n4 c4 e3 e4 l3 l4;simp only [Value.slice.injEq,Option.some.injEq,Addr.mk.injEq] at e3;obtain ⟨⟨rfl,rfl,_⟩,rfl,rfl⟩:=e3;exact xb k' v' dN aq bE b o es.length cap b4 o4 n4 c4 rfl e4 (by omega) l4
 ·have hA:A=none→es.length=0∧cap=0:=fun h=>by
   have:¬0 < es.length:=fun hl=>by
    obtain ⟨b,o,hA,_⟩:=dk hl;rw [h] at hA;cases hA
   omega
  obtain ⟨g,du,qe,w',aC,dq,sG,hg,kB,fN,bI,hold,fo,cp⟩:=CT (P:=P) (w:=w) (ty:=ty) (c:=cy) hu gP hz bz fa mr (A:=A) (n:=es.length) (cap:=cap) (olds:=(List.range es.length).map fun k=>match A with|some a0=>(w.cell? (a0.add k)).getD undef|none=>undef) hA (by simp) (fun a0 h0 j u hj=>by
   subst h0;have b_:j < es.length:=by simpa using (List.getElem?_eq_some_iff.1 hj).1
   rw [List.getElem?_map,List.getElem?_range b_] at hj;simp only [Option.map_some,Option.some.injEq] at hj;obtain ⟨b,o,hA,_,cK⟩:=dk (by omega);simp only [Option.some.injEq] at hA;subst hA;obtain ⟨_,u1,g1,_⟩:=cK j b_;rw [ji,g1] at hj;rw [ji,g1,←hj];rfl) re (by omega) f_
  have zK:∀ b' j,b' < w.heap.size→¬Mof M0 st.h p b' j→¬Mof M0 (st.h.set id (some (Ob.bag e 1 false (some k) qs))) ⟨p.b,fun i=>if i=id then fun b' j=>p.S id b' j∨(b'=g∧es.length+1≤j) else p.S i⟩ b' j:=fun b' j ao hn hm=>by
   rcases hm with hm|⟨i,ob,aG,bs,hO⟩
   ·exact hn (.inl hm)
   ·by_cases he:i=id
    ·subst he;rcases hO with hO|hO
     ·exact hn (.inr ⟨i,_,hi,bU,.inl hO⟩)
     ·simp only [if_true] at hO;rcases hO with hO|⟨rfl,_⟩
      ·exact hn (.inr ⟨i,_,hi,bU,.inr hO⟩)
      ·omega
    ·refine hn (.inr ⟨i,ob,dD i ob he aG,bs,?_⟩);rcases hO with hO|hO
     ·exact .inl hO
     ·simp only [if_neg he] at hO;exact .inr hO
  have d_:∀ {c:AV} {u:Value},V0 w (Mof M0 st.h p) c u→V0 w' (Mof M0 (st.h.set id (some (Ob.bag e 1 false (some k) qs))) ⟨p.b,fun i=>if i=id then fun b' j=>p.S id b' j∨(b'=g∧es.length+1≤j) else p.S i⟩) c u:=fun hv=>hv.keep (.of_below cp) zK;refine ⟨_,_,_,aC,R.bagPend (p':=⟨p.b,fun i=>if i=id then fun b' j=>p.S id b' j∨(b'=g∧es.length+1≤j) else p.S i⟩) hd hi hk fT bJ jg cp.os cp.tape cp.output (.of_below cp) (fun _=>rfl) (fun i hn=>by simp only [if_neg hn]) (fun b' j h=>?_) (fun j h=>?_) (fun i ob hn aG bs b' j j' hO h=>?_) (fun b' j ao h=>?_) (fun k' v' dN aq bE Dg=>?_) ?_ ?_ fun k' v' dN aq bE=>?_⟩
  ·simp only [if_true] at h;rcases h with h|⟨rfl,_⟩
   ·have:=hb1 b' j (.inr h);exact ⟨this.1,Nat.lt_of_lt_of_le this.2 cp.size⟩
   ·exact ⟨.inl (Nat.le_trans R.below.size dq),sG⟩
  ·simp only [if_true] at h;rcases h with h|⟨h,_⟩
   ·exact hb2 j h
   ·omega
  ·simp only [if_true] at h;rcases h with h|⟨rfl,_⟩
   ·exact hn (R.inj i id ob _ aG hi bs bU b' j j' hO (.inr h))
   ·have:=((R.objs i ob aG).own bs b' j hO).2;omega
  ·simp only [if_true] at h;rcases h with h|⟨rfl,_⟩
   ·exact h
   ·omega
  ·refine Spare.mono (p:=p) rfl (fun b j h=>?_) (fun b j _ ao=>cp.block b ao) Dg;simp only [if_true];exact .inl h
  ·have aD:∀ k1,k1 < es.length+1→∃ u,qe[k1]? = some u∧∀ (y:List AV) (c:AV),(es++[[x]])[k1]? = some y→y[0]? = some c→V0 w' (Mof M0 (st.h.set id (some (Ob.bag e 1 false (some k) qs))) ⟨p.b,fun i=>if i=id then fun b' j=>p.S id b' j∨(b'=g∧es.length+1≤j) else p.S i⟩) c u:=fun k1 jj=>by
    rcases Nat.lt_or_ge k1 es.length with hl|hl
    ·obtain ⟨b3,o3,rfl,_,cK⟩:=dk (by omega);obtain ⟨_,u,g1,g2⟩:=cK k1 hl;refine ⟨u,?_,fun y c hy hc=>d_ (g2 y c (by rwa [List.getElem?_append_left hl] at hy) hc)⟩;rw [hold k1 hl,List.getElem?_map,List.getElem?_range hl];simp only [Option.map_some,ji,g1,Option.getD_some]
    ·obtain rfl:k1=es.length:=by omega
     refine ⟨u0,fo,fun y c hy hc=>?_⟩;rw [List.getElem?_append_right (Nat.le_refl _),Nat.sub_self] at hy;simp at hy;subst hy;simp at hc;subst hc;exact d_ sP
   have hv:=V0.sl (w:=w') (M:=Mof M0 (st.h.set id (some (Ob.bag e 1 false (some k) qs))) ⟨p.b,fun i=>if i=id then fun b' j=>p.S id b' j∨(b'=g∧es.length+1≤j) else p.S i⟩) 1 (es++[[x]]) du g 0 (fun k1 _=>(qe[k1]?).getD undef) (by simp) sG (fun k1 j jj hj hm=>?_) (by omega) (fun k1 y hy=>(mB k1 y hy).1) (fun k1 y j c hy hc=>(mB k1 y hy).2 c (List.mem_of_getElem? hc)) (fun k1 j jj hj=>?_) fun k1 y j c hy hc=>?_
   ·rw [lZ] at hv;exact hv
   ·obtain rfl:j=0:=by omega
    simp only [Nat.mul_one,Nat.add_zero,Nat.zero_add] at hm;rcases hm with hm|⟨i,ob,aG,bs,hO⟩
    ·have:=R.lt g k1 (.inl hm);omega
    ·by_cases he:i=id
     ·subst he;rcases hO with hO|hO
      ·have:p.b i=g:=hO;omega
      ·simp only [if_true] at hO;rcases hO with hO|⟨_,hO⟩
       ·have:=(hb1 _ _ (.inr hO)).2;omega
       ·omega
     ·have kJ:p.O i g k1:=by
       rcases hO with hO|hO
       ·exact .inl hO
       ·simp only [if_neg he] at hO;exact .inr hO
      have:=((R.objs i ob (dD i ob he aG)).own bs g k1 kJ).2;omega
   ·obtain rfl:j=0:=by omega
    obtain ⟨u,g1,_⟩:=aD k1 (by omega);simp only [Nat.mul_one,Nat.add_zero,Nat.zero_add];rw [cell_of_row w' g _ qe ti.elem (0,0) hg,g1];rfl
   ·obtain ⟨u,g1,g2⟩:=aD k1 (by rw [←lZ];exact (List.getElem?_eq_some_iff.1 hy).1);have mm:j=0:=by
     have:=(mB k1 y hy).1;have:=(List.getElem?_eq_some_iff.1 hc).1;omega
    subst mm;rw [g1];exact g2 y c hy hc
  ·refine ⟨_,_,_,rfl,kB,fun ao=>⟨g,0,qe,ti.elem,rfl,hg,by omega,fN,Nat.one_pos,?_,fun j hj=>?_⟩⟩
   ·show g≠p.b id;omega
   ·simp only [if_true];exact .inr ⟨trivial,by omega⟩
  ·intro b3 o3 n3 c3 b4 o4 n4 c4 e3 e4 l3 l4;simp only [Value.slice.injEq,Option.some.injEq,Addr.mk.injEq] at e3;obtain ⟨⟨rfl,_,_⟩,_,_⟩:=e3;obtain ⟨A2,n2,n7,q1,_,q3⟩:=xc k' v' dN aq bE;rw [e4] at q1;simp only [Value.slice.injEq] at q1;obtain ⟨rfl,rfl,rfl⟩:=q1;obtain ⟨b5,o5,_,_,q4,q5,_⟩:=q3 l4;simp only [Option.some.injEq,Addr.mk.injEq] at q4;obtain ⟨rfl,rfl,_⟩:=q4;have:=(Array.getElem?_eq_some_iff.1 q5).1;omega
end
def nD (P:Program) (st:VS) (o:Oper) : Option VS:=
 match o.op with
 | .store t x y=>match o.dst,aY P t,ev st x with
  | none,some ti,.aref id sz i off=>match st.h[id]? with
   | some (some (.bag e bD nl ak qs))=>if sz=1∧off=0∧nl=false∧i < qs.length∧(ak=none∨ak=some i)∧ti.size=1∧st.h.all (rI id)=true then
     (match ev st y with
     | .slw gV k oS es=>if gV=id∧k=i∧oS=bD then some ⟨st.s.map fun q=>(q.1,unW id q.2),st.h.set id (some (.bag e bD false none (qs.set i es)))⟩ else none
     | .osl r=>match st.h[r]? with
      | some (some (.arr _ oS _ Ir))=>if oS=bD then some ⟨st.s.map fun q=>(q.1,unW id q.2),(st.h.set r none).set id (some (.bag e bD false none (qs.set i Ir)))⟩ else none
      | _=>none
     | _=>none) else none
   | _=>none
  | _,_,_=>none
 | .call ⟨.builtin .append,xs,ts⟩=>match xs.toList,ts.toList,o.dst with
  | [x,y],[t,t'],some d=>match aY P t,ev st x,ev st y with
   | some ti,.slw id k sz es,.sl bD [[c]]=>match st.h[id]? with
    | some (some (.bag e Is nl ak qs))=>match aY P ti.elem with
     | some te=>if t=t'∧ti.kind=1∧te.size=1∧te.zero.length=1∧te.bytes≤100000∧sz=1∧bD=1∧Is=1∧nl=false∧k < qs.length∧(ak=none∨ak=some k)∧st.h.all (rI id)=true∧es.length+1≤1000000000 then
       some ⟨(d,.slw id k 1 (es++[[c]]))::st.s.map (fun q=>(q.1,unW id q.2)),st.h.set id (some (.bag e 1 false (some k) qs))⟩ else none
     | none=>none
    | _=>none
   | _,_,_=>none
  | _,_,_=>none
 | _=>none
section
variable {P:Program} {M0:Nat→Nat→Prop} {w0:Bas} {N:Nm} {p:Pl} {st:VS} {a:Act} {w:World}
theorem uW {h:Hp} {id:Nat} (hb:h.all (rI id)=true) (i:Nat) (cs:List AV) (hi:h[i]? = some (some (.box cs))) (c:AV) (hc:c∈cs) : dH id 5 c=true:=by
 have:=List.all_eq_true.1 hb _ (List.mem_of_getElem? hi);exact List.all_eq_true.1 this c hc
theorem PM {v:Value} (h:∃ A n c,v = .slice A n c) : v.cells.toList=[v]:=by
 obtain ⟨A,n,c,rfl⟩:=h;rfl
theorem V0.sl_form {M:Nat→Nat→Prop} {sz:Nat} {es:List (List AV)} {v:Value} (h:V0 w M (.sl sz es) v) : ∃ A n c,v = .slice A n c:=by
 cases h with
 | slNil _ A c=>exact ⟨A,0,c,rfl⟩
 | sl _ _ c b o u=>exact ⟨_,_,c,rfl⟩
theorem It {t:TypeId} {ti:TI} {id i e:Nat} {cur:Array Value} {v:Value} (aX:aY P t=some ti) (h1:ti.size=1) (hv:∃ A n c,v = .slice A n c) (bJ:w.heap[p id]? = some (.cells cur e (0,0))) (hi:i < cur.size) :
  (Instr.storeAt t (.pointer (some ⟨p id,i*1+0,none⟩)) v).run P w = .ok () (w.setRow (p id) (cur.setIfInBounds i v)):=by
 have hc:=PM hv;have:=CB (P:=P) (w:=w) (o:=i*1+0) aX (v:=v) (by rw [←Array.length_toList,hc,h1];rfl) bJ (by omega) (by
  rw [hc];intro x hx;simp only [List.mem_singleton] at hx;subst hx;obtain ⟨A,n,c,rfl⟩:=hv;rfl)
 rw [this,hc];simp only [Nat.mul_one,Nat.add_zero,List.length_singleton];rw [Oz hi]
theorem EA (R:Rel M0 w0 N p st a w) {o:Oper} {aL:VS} (hd:cU N o=true) (ht:nD P st o=some aL) :
  ∃ v w' p',(execOp a.eval o).run P w = .ok (.value v) w'∧Rel M0 w0 N p' aL (a.put o.dst v) w'∨(execOp a.eval o).run P w = .ok .skip w'∧v=undef∧Rel M0 w0 N p' aL (a.put o.dst undef) w':=by
 have ao:=eZ hd;obtain ⟨dst,op,ty,pos,after,guard⟩:=o;simp only at ao;unfold nD at ht;simp only at ht;split at ht
 ·rename_i t x y;split at ht
  ·rename_i ti id sz i off aX hx;split at ht
   ·rename_i e bD nl ak qs hid;split at ht
    ·rename_i hc;obtain ⟨rfl,rfl,rfl,hi,fT,h1,aE⟩:=hc;obtain ⟨_,_,cur,bJ,hlen,_,_⟩:=R.bagRow hid;have iQ:=R.eval x;rw [hx] at iQ;obtain ⟨hq,_⟩:=iQ.aref_inv;have jW:=R.eval y;split at ht
     ·rename_i gV k oS es hy;split at ht
      ·rename_i hc;obtain ⟨rfl,rfl,rfl⟩:=hc;simp only [Option.some.injEq] at ht;subst ht;rw [hy] at jW;have aC:=It (P:=P) (p:=p) aX h1 jW.slw_inv.2.1.sl_form bJ (show k < cur.size by omega);exact ⟨undef,_,p,.inr ⟨by simp only [execOp,Sem.run_bind,hq,aC];rfl,rfl,R.bagStore hid hi fT bJ (uW aE) jW⟩⟩
      ·cases ht
     ·rename_i r hy;split at ht
      ·rename_i er oS SB Ir hr;split at ht
       ·rename_i hc;subst hc;simp only [Option.some.injEq] at ht;subst ht;rw [hy] at jW;obtain ⟨p',R'⟩:=R.bagTake hid hi fT bJ (uW aE) hr jW;obtain ⟨A,n,c,PN,_⟩:=jW.osl_inv;have aC:=It (P:=P) (p:=p) aX h1 ⟨A,n,c,PN⟩ bJ (show i < cur.size by omega);exact ⟨undef,_,p',.inr ⟨by simp only [execOp,Sem.run_bind,hq,aC];rfl,rfl,R'⟩⟩
       ·cases ht
      ·cases ht
     ·cases ht
    ·cases ht
   ·cases ht
  ·cases ht
 ·rename_i xs ts;split at ht
  ·rename_i x y t t' d ee lQ;split at ht
   ·rename_i ti id k sz es bD c aX hx hy;split at ht
    ·rename_i e Is nl ak qs hid;split at ht
     ·rename_i te fM;split at ht
      ·rename_i hc;obtain ⟨rfl,hk,h1,h2,gJ,rfl,rfl,rfl,rfl,db,fT,aE,f_⟩:=hc;simp only [Option.some.injEq] at ht;subst ht;have iQ:=R.eval x;rw [hx] at iQ;have jW:=R.eval y;rw [hy] at jW;obtain ⟨v,w',p',aC,R'⟩:=R.bagApp (ty:=ty) (ao d rfl) aX hk fM h1 h2 gJ hid db fT (uW aE) iQ jW.sl_inv f_;refine ⟨v,w',p',.inl ⟨?_,R'⟩⟩;have e1:xs=#[x,y]:=by apply Array.ext';exact ee
       have e2:ts=#[t,t]:=by apply Array.ext';exact lQ
       subst e1 e2;simp only [execOp,resolve,invoke,builtin,Sem.run_bind,Sem.run_pure,Result.andThen_ok,List.map_toArray,List.map_cons,List.map_nil,aC]
      ·cases ht
     ·cases ht
    ·cases ht
   ·cases ht
  ·cases ht
 ·cases ht
end
attribute [go_sem] nD unW dH rI
def eY (N:Nm) : Code→Bool
 | .region _ ops _=>ops.toList.all (cU N)
 | .seq a b=>eY N a&&eY N b
 | .cond _ a b=>eY N a&&eY N b
 | .block _ c=>eY N c
 | .loop c=>eY N c
 | .skip=>true
 | .exit _=>true
 | .ret=>true
 | _=>false
section
variable (P:Program)
def OwnRow (w w':World) (M:Nat→Nat→Prop) (e sz:Nat) (nl:Bool) (es:List (List AV)) (v:Value) : Prop:=
 if nl=true then (∃ A,v = .slice A 0 0)∧es=[] else ∃ g cap cur,v = .slice (some ⟨g,0,none⟩) es.length cap∧w.heap.size≤g∧w'.heap[g]? = some (.cells cur e (0,0))∧cur.size=cap*sz∧es.length≤cap∧cap≤maxLen ∧
  ∀ (k:Nat) (x:List AV) (j:Nat) (c:AV),es[k]? = some x→x[j]? = some c→∃ u,cur[k*sz+j]? = some u∧V0 w' (fun b j=>M b j∨b=g) c u
def VCo (f:FuncId) (args:List AV) (e sz:Nat) (nl:Bool) (es:List (List AV)) : Prop:=
 l8 P f=true∧0 < sz∧(∀ (k:Nat) (x:List AV),es[k]? = some x→x.length=sz∧∀ c∈x,cN c=true) ∧
 ∀ (w:World) (M:Nat→Nat→Prop) (vs:List Value),MOK w M→vs.length=args.length→(∀ (i:Nat) (a:AV) (v:Value),args[i]? = some a→vs[i]? = some v→V0 w M a v) →
  Calls P f vs.toArray w fun en w'=>∃ v,en = .returned v∧Below w.heap.size w w'∧OwnRow w w' M e sz nl es v
def uU (st:VS) (c:Call) (e sz:Nat) (nl:Bool) (es:List (List AV)) : Prop:=
 match qq P (ev st) c with
 | none=>False
 | some (k,args)=>VCo P k args e sz nl es∧args.all (e_ 5)=true
def oR (ow:List Nat) (o:Oper) : Option (Call×Nat):=
 match o.op,o.dst with
 | .call c,some d=>match c.callee with
  | .value _=>if ow.contains d then some (c,d) else none
  | _=>none
 | _,_=>none
def VDo (ow:List Nat) (o:Oper) (st:VS) (K:VS→Prop) : Prop:=
 match jN P ow st o with
 | some aL=>K aL
 | none=>match nD P st o with
  | some aL=>K aL
  | none=>match oR ow o with
   | some (c,d)=>∃ e sz nl es,uU P st c e sz nl es∧K ⟨(d,.osl st.h.length)::st.s,st.h++[some (.arr e sz nl es)]⟩
   | none=>∃ r,dt P st.h (ev st) o.op r∧K (st.put o.dst r)
def cV (ops:List Oper) (st:VS) (j:Nat) : AV:=match ops[j]? with|some o=>(match o.dst with|some d=>lkp st.s d|none=>.lit undef)|none=>.lit undef
def VOp (ow:List Nat) (ops:List Oper) (o:Oper) (st:VS) (K:VS→Prop) : Prop:=
 match o.guard with
 | none=>VDo P ow o st K
 | some (j,want)=>match cV ops st j with
  | .lit (.bool b)=>if b=want then VDo P ow o st K else K (st.put o.dst (.lit undef))
  | .lit (.tuple _)=>K (st.put o.dst (.lit undef))
  | _=>False
def dS (ow:List Nat) (ops:List Oper) : List Oper→VS→(VS→Prop)→Prop
 | [],st,K=>K st
 | o::l,st,K=>VOp P ow ops o st fun aL=>dS ow ops l aL K
end
section
variable {P:Program} {M0:Nat→Nat→Prop} {w0:Bas} {N:Nm} {p:Pl} {st:VS} {a:Act} {w:World}
theorem EB (R:Rel M0 w0 N p st a w) {o:Oper} {ow:List Nat} {c:Call} {d e sz:Nat} {nl:Bool} {es:List (List AV)} {K':Act→World→Prop} {Q:Exit→Act→World→Prop} (hd:cU N o=true) (hc:oR ow o=some (c,d)) (h:uU P st c e sz nl es)
  (hk:∀ p a w,Rel M0 w0 N p ⟨(d,.osl st.h.length)::st.s,st.h++[some (.arr e sz nl es)]⟩ a w→K' a w) : o.wp P a w K' Q:=by
 obtain ⟨dst,op,ty,pos,after,guard⟩:=o;have ao:=eZ hd;unfold oR at hc;simp only at hc ao;split at hc
 ·rename_i c' d';split at hc
  ·split at hc
   ·simp only [Option.some.injEq,Prod.mk.injEq] at hc;obtain ⟨rfl,rfl⟩:=hc;obtain ⟨callee,bG,lv⟩:=c';unfold uU at h;split at h
    ·exact h.elim
    ·rename_i k args cO;obtain ⟨⟨lx,aM,cI,eA⟩,hp⟩:=h;obtain ⟨vs,aC,hlen,gH⟩:=xC (P:=P) (dst:=some d') (ty:=ty) (pos:=pos) (after:=after) (guard:=guard) (fun x _=>R.eval x) cO lx;unfold Oper.wp;rw [aC];simp only [Oper.upon];refine (eA w (Mof M0 st.h p) vs R.mok hlen fun i b v hb hv=>(gH i b v hb hv).pure 5 (List.all_eq_true.1 hp b (List.mem_of_getElem? hb))).mono ?_;rintro en w' ⟨v,rfl,hb,ho⟩;unfold OwnRow at ho;cases nl
     ·simp only [Bool.false_eq_true,if_false] at ho;obtain ⟨g,cap,cur,rfl,hg,hh,bI,hle,fN,hv⟩:=ho;have lB:cS p st.h.length g st.h.length=g:=(lC p _ _).1;have hM:∀ b j,¬(Mof M0 st.h p b j∨b=g)→¬Mof M0 (st.h++[some (.arr e sz false es)]) (cS p st.h.length g) b j:=by
       intro b j hn hm;rcases hm with hm|⟨i,ob,hi,hl,uP⟩
       ·exact hn (.inl (.inl hm))
       ·rcases zq hi with ⟨ao,bw⟩|⟨rfl,hx⟩
        ·exact hn (.inl (.inr ⟨i,ob,bw,hl,(jF (Nat.ne_of_lt ao)).1 uP⟩))
        ·exact hn (.inr (mP uP))
      refine hk _ _ _ (R.grow hb (ao d' rfl) (fun _=>hg) (fun _ _ _ _ _ h=>by cases h) ⟨aM,cI,?_⟩ (.osl _ _ _ _ (by simp) (fun e' bD kz es' he=>?_) fun e' bD kz pe qs he=>?_))
      ·rw [if_neg (by simp)];refine ⟨tv (Nat.le_trans R.below.size hg),cur,by rw [lB];exact hh,by rw [bI];exact Nat.mul_le_mul_right _ hle,fun k x j c hk hj=>?_⟩;obtain ⟨u,hu,kK⟩:=hv k x j c hk hj;exact ⟨u,hu,kK.keep (Keeps.refl _ _) fun b j _ hn=>hM b j hn⟩
      ·rw [List.getElem?_append_right (Nat.le_refl _)] at he;simp only [Nat.sub_self,List.getElem?_cons_zero,Option.some.injEq] at he;injection he with h1 h2 h3 h4
       subst h1 h2 h3 h4;unfold Osl;rw [if_neg (by simp),lB];exact ⟨cap,cur,rfl,hh,bI,hle,fN⟩
      ·rw [List.getElem?_append_right (Nat.le_refl _)] at he;simp at he
     ·simp only [if_true] at ho;obtain ⟨⟨A0,rfl⟩,rfl⟩:=ho;refine hk _ _ _ (R.grow (b:=0) hb (ao d' rfl) (fun h=>by cases h) (fun _ _ _ _ _ h=>by cases h) ⟨aM,by simp,by simp⟩ (.osl _ _ _ _ (by simp) (fun e' bD kz es' he=>?_) fun e' bD kz pe qs he=>?_))
      ·rw [List.getElem?_append_right (Nat.le_refl _)] at he;simp only [Nat.sub_self,List.getElem?_cons_zero,Option.some.injEq] at he;injection he with h1 h2 h3 h4
       subst h1 h2 h3 h4;simp [Osl]
      ·rw [List.getElem?_append_right (Nat.le_refl _)] at he;simp at he
   ·cases hc
  ·cases hc
 ·cases hc
theorem xy {ow:List Nat} {o:Oper} {K:VS→Prop} {K':Act→World→Prop} {Q:Exit→Act→World→Prop} (R:Rel M0 w0 N p st a w) (hd:cU N o=true) (h:VDo P ow o st K) (hk:∀ p st a w,Rel M0 w0 N p st a w→K st→K' a w) : o.wp P a w K' Q:=by
 unfold VDo at h;split at h
 ·rename_i aL he;obtain ⟨v,w',p',hh⟩:=zr (P:=P) R hd he;unfold Oper.wp;rcases hh with ⟨h1,h2⟩|⟨h1,_,h2⟩
  ·rw [h1];exact hk _ _ _ _ h2 h
  ·rw [h1];exact hk _ _ _ _ h2 h
 ·split at h
  ·rename_i aL he;obtain ⟨v,w',p',hh⟩:=EA (P:=P) R hd he;unfold Oper.wp;rcases hh with ⟨h1,h2⟩|⟨h1,_,h2⟩
   ·rw [h1];exact hk _ _ _ _ h2 h
   ·rw [h1];exact hk _ _ _ _ h2 h
  ·split at h
   ·rename_i c d hc;obtain ⟨e,sz,nl,es,ho,hK⟩:=h;exact EB R hd hc ho fun p a w R=>hk _ _ _ _ R hK
   ·obtain ⟨r,hg,hK⟩:=h;have:=R.gives (P:=P) hg;exact iS this rfl fun v w' ⟨hv,hb⟩=>hk _ _ _ _ ((R.later hb).put (eZ hd) hv) hK
theorem nv {ops:List Oper} {j:Nat} (R:Rel M0 w0 N p st a w) (ew:ops.all (cU N)=true) : (∀ b,cV ops st j = .lit (.bool b)→yielded ops.toArray a.tmps j=some b)∧(∀ vs,cV ops st j = .lit (.tuple vs)→yielded ops.toArray a.tmps j=none):=by
 unfold cV yielded;cases hj:ops[j]? with
 | none=>simp [hj,undef]
 | some o=>
  have hd:=List.all_eq_true.1 ew o (List.mem_of_getElem? hj);cases ho:o.dst with
  | none=>simp [hj,ho,undef]
  | some d=>
   have ao:d < a.tmps.size:=R.size.lt (eZ hd d ho);have hs:=R.slots d;have di:a.tmps.getD d undef=a.tmps[d]:=by simp [ao]
   rw [di] at hs;simp only [List.getElem?_toArray,hj,Option.bind_some,ho];refine ⟨fun b hb=>?_,fun vs hb=>?_⟩
   ·rw [hb] at hs;have:=hs.lit_inv;simp [ao,this]
   ·rw [hb] at hs;have:=hs.lit_inv;simp [ao,this]
theorem l9 {ow:List Nat} {ops:List Oper} {K:VS→Prop} {Q:Exit→Act→World→Prop} (ew:ops.all (cU N)=true) (hk:∀ p st a w,Rel M0 w0 N p st a w→K st→Q .normal a w) :
  ∀ (l:List Oper) (p:Pl) (st:VS) (a:Act) (w:World),l.all (cU N)=true→Rel M0 w0 N p st a w→dS P ow ops l st K→wpList P ops.toArray Q l a w
 | [],p,st,a,w,_,R,h=>wpList_nil (hk p st a w R h)
 | o::l,p,st,a,w,hl,R,h=>by
  simp only [List.all_cons,Bool.and_eq_true] at hl;have ih:=fun p st a w=>l9 (ow:=ow) ew hk l p st a w hl.2;refine wpList_step fun Y Z=>?_;simp only [dS,VOp] at h;have kv:VDo P ow o st (fun aL=>dS P ow ops l aL K)→o.wp P a w Y Q:=fun h=>xy R hl.1 h fun p st a w R h=>Z _ _ (ih p st a w R h);have mG:dS P ow ops l (st.put o.dst (.lit undef)) K→Y (a.put o.dst undef) w:=fun h=>Z _ _ (ih p _ _ w (R.put (eZ hl.1) (.base _ _ (.lit _))) h);split at h
  ·rename_i hg;simp only [Region.wanted,hg,if_true];exact kv h
  ·rename_i j want hg;obtain ⟨uK,Am⟩:=nv (j:=j) R ew;simp only [Region.wanted,hg];split at h
   ·rename_i b hb;rw [uK b hb];by_cases hw:b=want
    ·subst hw;rw [if_pos (by simp)];rw [if_pos rfl] at h;exact kv h
    ·rw [if_neg (by simpa using hw)];rw [if_neg hw] at h;exact mG h
   ·rename_i vs hb;rw [Am vs hb,if_neg (by simp)];exact mG h
   ·exact h.elim
def VWp (P:Program) (M0:Nat→Nat→Prop) (w0:Bas) (N:Nm) (c:Code) (Q:Exit→VS→Prop) (st:VS) : Prop:=
 eY N c=true→∀ p a w,Rel M0 w0 N p st a w→c.wp P (fun e a' w'=>∃ aL p',Rel M0 w0 N p' aL a' w'∧Q e aL) a w
def lA (K:VS→Prop) (Q:Exit→VS→Prop) : Exit→VS→Prop
 | .normal,st=>K st
 | e,st=>Q e st
def sR (id:Nat) (Q:Exit→VS→Prop) : Exit→VS→Prop
 | .exit gV,st=>if gV=id then Q .normal st else Q (.exit gV) st
 | e,st=>Q e st
variable {Q:Exit→VS→Prop}
theorem au (h:Q .normal st) : VWp P M0 w0 N .skip Q st:=fun _ p _ _ R=>wp_skip ⟨st,p,R,h⟩
theorem bQ {id:Nat} (h:Q (.exit id) st) : VWp P M0 w0 N (.exit id) Q st:=fun _ p _ _ R=>wp_exit ⟨st,p,R,h⟩
theorem ax (h:Q .ret st) : VWp P M0 w0 N .ret Q st:=fun _ p _ _ R=>wp_ret ⟨st,p,R,h⟩
theorem af {x y:Code} (h:VWp P M0 w0 N x (lA (VWp P M0 w0 N y Q) Q) st) : VWp P M0 w0 N (.seq x y) Q st:=fun hB p a w R=>by
 simp only [eY,Bool.and_eq_true] at hB;refine wp_seq (wp_mono (h hB.1 p a w R) ?_);rintro e a' w' ⟨aL,p',R',hq⟩;cases e with
 | normal=>exact hq hB.2 p' a' w' R'
 | _=>exact ⟨aL,p',R',hq⟩
theorem ae {K:VS→Prop} (h:K st) : lA K Q .normal st:=h
theorem bP {K:VS→Prop} {id:Nat} (h:Q (.exit id) st) : lA K Q (.exit id) st:=h
theorem aZ {K:VS→Prop} (h:Q .ret st) : lA K Q .ret st:=h
theorem bp {id:Nat} (h:Q .normal st) : sR id Q .normal st:=h
theorem cX {id:Nat} (h:Q .ret st) : sR id Q .ret st:=h
theorem bT {id:Nat} (h:Q .normal st) : sR id Q (.exit id) st:=by simpa [sR] using h
theorem aB {id:Nat} {c:Code} (h:VWp P M0 w0 N c (sR id Q) st) : VWp P M0 w0 N (.block id c) Q st:=fun hB p a w R=>by
 refine wp_block (wp_mono (h (by simpa [eY] using hB) p a w R) ?_);rintro e a' w' ⟨aL,p',R',hq⟩;cases e with
 | exit gV=>
  simp only [Exit.inBlock];simp only [sR] at hq;split
  ·rename_i he;rw [if_pos he] at hq;exact ⟨aL,p',R',hq⟩
  ·rename_i he;rw [if_neg he] at hq;exact ⟨aL,p',R',hq⟩
 | _=>exact ⟨aL,p',R',hq⟩
theorem Dh {c:Operand} {x y:Code} {t:Bool} (hc:ev st c = .lit (.bool t)) (h1:t=true→VWp P M0 w0 N x Q st) (h2:t=false→VWp P M0 w0 N y Q st) : VWp P M0 w0 N (.cond c x y) Q st:=fun hB p a w R=>by
 simp only [eY,Bool.and_eq_true] at hB;have he:=R.eval c;rw [hc] at he;exact wp_cond_split he.lit_inv (fun ht=>h1 ht hB.1 p a w R) (fun ht=>h2 ht hB.2 p a w R)
theorem aw {c:Operand} {x y:Code} (hc:ev st c = .lit (.bool true)) (h:VWp P M0 w0 N x Q st) : VWp P M0 w0 N (.cond c x y) Q st:=Dh hc (fun _=>h) (fun h=>by cases h)
theorem ar {c:Operand} {x y:Code} (hc:ev st c = .lit (.bool false)) (h:VWp P M0 w0 N y Q st) : VWp P M0 w0 N (.cond c x y) Q st:=Dh hc (fun h=>by cases h) (fun _=>h)
theorem ah {id:Nat} {l:List Oper} (ow:List Nat) (h:dS P ow l l st (Q .normal)) : VWp P M0 w0 N (.region id l.toArray false) Q st:=fun hB p a w R=>by
 have cZ:l.all (cU N)=true:=by simpa [eY] using hB
 exact wp_region_lit (l9 (ow:=ow) cZ (fun p st a w R h=>⟨st,p,R,h⟩) l p st a w cZ R h)
def bh (k:Nat) : Nat→AV→Bool
 | 0,_=>false
 | n+1,.agg cs=>cs.all (bh k n)
 | n+1,.tup cs=>cs.all (bh k n)
 | n+1,.fn _ a b=>a.all (bh k n)&&b.all (bh k n)
 | n+1,.iface _ v=>bh k n v
 | _+1,.ref id _=>decide (id < k)
 | _+1,.aref id _ _ _=>decide (id < k)
 | _+1,.osl id=>decide (id < k)
 | _+1,.mp id=>decide (id < k)
 | _+1,.slw id _ _ _=>decide (id < k)
 | _+1,_=>true
def oN (k:Nat) : Ob→Bool
 | .box cs=>cs.all (bh k 5)
 | .arr .. => true
 | .mpo .. => true
 | .bag .. => true
def leS (s:List (Nat×AV)) (n:Nat) : List (Nat×AV)→Prop
 | []=>True
 | (i,v)::r=>lkp s i=v∧bh n 5 v=true∧leS s n r
def leO (h:Hp) (n k:Nat) : Option Ob→Prop
 | none=>True
 | some ob=>h[k]? = some (some ob)∧oN n ob=true
def leH (h:Hp) (n:Nat) : Nat→Hp→Prop
 | _,[]=>True
 | k,o::r=>leO h n k o∧leH h n (k+1) r
def Le (st aL:VS) : Prop:=leS st.s aL.h.length aL.s∧aL.h.length≤st.h.length∧leH st.h aL.h.length 0 aL.h
theorem xv {h:Hp} {n:Nat} : ∀ (h':Hp) (k id:Nat) (ob:Ob),leH h n k h'→h'[id]? = some (some ob)→h[k+id]? = some (some ob)∧oN n ob=true
 | [],_,_,_,_,hi=>by simp at hi
 | o::r,k,id,ob,hh,hi=>by
  cases id with
  | zero=>
   simp only [List.getElem?_cons_zero,Option.some.injEq] at hi;subst hi;exact hh.1
  | succ id=>
   have:=xv r (k+1) id ob hh.2 (by simpa using hi);rwa [show k+1+id=k+(id+1) by omega] at this
theorem V1.trunc {w:World} {M M':Nat→Nat→Prop} {h h':Hp} {p:Pl} (hM:∀ b j,¬M b j→¬M' b j) (hh:∀ (id:Nat) (ob:Ob),h'[id]? = some (some ob)→h[id]? = some (some ob)) :
  ∀ (n:Nat) (av:AV) (v:Value),V1 w M h p av v→bh h'.length n av=true→V1 w M' h' p av v
 | 0,_,_,_,hb=>by simp [bh] at hb
 | n+1,av,v,hv,hb=>by
  have ih:=V1.trunc (w:=w) (p:=p) hM hh n;cases hv with
  | base _ _ h0=>exact .base _ _ (h0.keep (Keeps.refl _ _) fun b j _ hn=>hM b j hn)
  | slw id k sz es _ hid h0 hs=>exact .slw id k sz es v (by simpa [bh] using hb) (h0.keep (Keeps.refl _ _) fun b j _ hn=>hM b j hn) fun e bD pe qs he=>hs e bD pe qs (hh id _ he)
  | agg cs us hl h1 hv=>
   simp only [bh] at hb;exact .agg cs us hl h1 fun i c u hc hu=>ih c u (hv i c u hc hu) (List.all_eq_true.1 hb c (List.mem_of_getElem? hc))
  | tup cs us hl hv=>
   simp only [bh] at hb;exact .tup cs us hl fun i c u hc hu=>ih c u (hv i c u hc hu) (List.all_eq_true.1 hb c (List.mem_of_getElem? hc))
  | fn f x y us vs hl bm hv bE=>
   simp only [bh,Bool.and_eq_true] at hb;exact .fn f x y us vs hl bm (fun i c u hc hu=>ih c u (hv i c u hc hu) (List.all_eq_true.1 hb.1 c (List.mem_of_getElem? hc))) (fun i c u hc hu=>ih c u (bE i c u hc hu) (List.all_eq_true.1 hb.2 c (List.mem_of_getElem? hc)))
  | iface t x u hv=>exact .iface t x u (ih x u hv (by simpa [bh] using hb))
  | ref id off hid=>exact .ref id off (by simpa [bh] using hb)
  | aref id sz i off hid=>exact .aref id sz i off (by simpa [bh] using hb)
  | osl id A m c hid hv l6=>exact .osl id A m c (by simpa [bh] using hb) (fun e sz nl es he=>hv e sz nl es (hh id _ he)) fun e sz nl pe qs he=>l6 e sz nl pe qs (hh id _ he)
  | mp id hid=>exact .mp id (by simpa [bh] using hb)
theorem Iu {st:VS} {M:Nat→Nat→Prop} {h':Hp} {p:Pl} {tm:Nat→Value} (hs:∀ i,bh h'.length 5 (lkp st.s i)=true→V1 w M h' p (lkp st.s i) (tm i)) : ∀ (s':List (Nat×AV)),leS st.s h'.length s'→∀ i,V1 w M h' p (lkp s' i) (tm i)
 | [],_,_=>.base _ _ (.any _)
 | (d,v)::r,hl,i=>by
  simp only [lkp];split
  ·rename_i he;subst he;have h1:=hs d (by rw [hl.1];exact hl.2.1);rwa [hl.1] at h1
  ·exact Iu hs r hl.2.2 i
theorem Rel.le {aL:VS} (R:Rel M0 w0 N p st a w) (hle:Le st aL) : Rel M0 w0 N p aL a w:=by
 obtain ⟨h1,h2,h3⟩:=hle;have hh:∀ (id:Nat) (ob:Ob),aL.h[id]? = some (some ob)→st.h[id]? = some (some ob):=fun id ob hi=>by
  have:=(xv aL.h 0 id ob h3 hi).1;rwa [Nat.zero_add] at this
 have hM:∀ b j,¬Mof M0 st.h p b j→¬Mof M0 aL.h p b j:=fun b j hn hm=>hn (by
  rcases hm with hm|⟨id,ob,hi,hl,hp⟩
  ·exact .inl hm
  ·exact .inr ⟨id,ob,hh id ob hi,hl,hp⟩)
 refine ⟨R.defers,R.size,R.below,R.m0,R.x0,fun i=>Iu (fun j hj=>V1.trunc hM hh 5 _ _ (R.slots j) hj) aL.s h1 i,fun id ob hi=>?_,fun id gV ob ob' hi bw=>R.inj id gV ob ob' (hh _ _ hi) (hh _ _ bw)⟩;have ho:=R.objs id ob (hh id ob hi);have dx:=(xv aL.h 0 id ob h3 hi).2;cases ob with
 | mpo kf iD=>exact ho
 | bag e sz nl ak qs=>exact ho.keep (fun _=>⟨rfl,rfl⟩) (fun _ _ _ _ _=>rfl) (Nat.le_refl _) (fun hx=>hx.keep (Keeps.refl _ _) fun b j _ hn=>hM b j hn) fun cs h=>by cases h
 | box cs=>
  obtain ⟨a1,cur,e,a2,a3,a4,a5⟩:=ho;exact ⟨a1,cur,e,a2,a3,a4,fun j c hj=>let ⟨u,hu,hv⟩:=a5 j c hj;⟨u,hu,V1.trunc hM hh 5 c u hv (List.all_eq_true.1 dx c (List.mem_of_getElem? hj))⟩⟩
 | arr e sz nl es=>
  obtain ⟨a1,a2,a3⟩:=ho;refine ⟨a1,a2,?_⟩;split at a3
  ·rename_i hn;rw [if_pos hn];exact a3
  ·rename_i hn;rw [if_neg hn];obtain ⟨b1,cur,b2,b3,b4⟩:=a3;exact ⟨b1,cur,b2,b3,fun k x j c hk hj=>let ⟨u,hu,hv⟩:=b4 k x j c hk hj;⟨u,hu,hv.keep (Keeps.refl _ _) fun b j _ hn=>hM b j hn⟩⟩
theorem xo {c:Code} {α:Type} (St:α→VS) (Inv:α→Prop) (μ:α→Nat) (x0:α) (hI:Inv x0) (h0:Le st (St x0))
  (round:∀ x,Inv x→∀ K:VS→Prop,(∀ aL y,Inv y→μ y < μ x→Le aL (St y)→K aL)→VWp P M0 w0 N c (lA K Q) (St x)) : VWp P M0 w0 N (.loop c) Q st:=fun hB p a w R=>by
 have cZ:eY N c=true:=by simpa [eY] using hB
 refine wp_loop_ghost (fun n a w=>∃ x p,Inv x∧μ x=n∧Rel M0 w0 N p (St x) a w) (μ x0) ⟨x0,p,hI,rfl,R.le h0⟩ ?_;rintro n a w ⟨x,p,hx,rfl,R⟩;refine wp_mono (round x hx (fun aL=>∃ y,Inv y∧μ y < μ x∧Le aL (St y)) (fun aL y h1 h2 h3=>⟨y,h1,h2,h3⟩) cZ p a w R) ?_;rintro e a' w' ⟨aL,p',R',hq⟩;cases e with
 | normal=>
  obtain ⟨y,hy,hm,hle⟩:=hq;exact ⟨μ y,hm,y,p',hy,rfl,R'.le hle⟩
 | _=>exact ⟨aL,p',R',hq⟩
theorem vle {c:Code} {aL:VS} (hle:Le st aL) (h:VWp P M0 w0 N c Q aL) : VWp P M0 w0 N c Q st:=fun hB p a w R=>h hB p a w (R.le hle)
def aF:Nat→List AV→List (Nat×AV)
 | _,[]=>[]
 | k,v::r=>(k,v)::aF (k+1) r
def pt (P:Program) (st:VS) : List ResultVar→Option (List AV)
 | []=>some []
 | .tmp t::rs=>match pt P st rs with|some vs=>some (qQ st.h (lkp st.s t)::vs)|none=>none
 | .cell x t::rs=>match mE P st.h t (lkp st.s x),pt P st rs with|some v,some vs=>some (qQ st.h v::vs)|_,_=>none
def rv:List AV→AV
 | [v]=>v
 | vs=>.tup vs
def Di (P:Program) (rs:List ResultVar) (r:AV) : Exit→VS→Prop
 | .ret,st=>(pt P st rs).map rv=some r
 | .normal,st=>(pt P st rs).map rv=some r
 | _,_=>False
theorem Rel.prep (R:Rel M0 w0 N p st a w) {v:AV} {u:Value} (hv:V1 w (Mof M0 st.h p) st.h p v u) : V0 w M0 (qQ st.h v) u:=by
 unfold qQ;split
 ·rename_i hp;exact (hv.pure 5 hp).keep (Keeps.refl _ _) fun b j _ hn hm=>hn (.inl hm)
 ·exact zc R.objs R.h0 (fun _ _ hb=>.inl hb) 5 v u hv
theorem Dj (R:Rel M0 w0 N p st a w) : ∀ (rs:List ResultVar) (vs:List AV),pt P st rs=some vs →
  ∃ us:List Value,(rs.mapM fun | .tmp t=>pure (a.tmps.getD t undef) | .cell x t=>do loadVar t (←asAddr (a.tmps.getD x undef)) : Sem (List Value)).run P w = .ok us w∧us.length=vs.length∧∀ (i:Nat) (c:AV) (u:Value),vs[i]? = some c→us[i]? = some u→V0 w M0 c u
 | [],vs,h=>by
  simp only [pt,Option.some.injEq] at h;subst h;exact ⟨[],by simp,rfl,by simp⟩
 | .tmp t::rs,vs,h=>by
  simp only [pt] at h;split at h
  ·rename_i vs' gH;simp only [Option.some.injEq] at h;subst h;obtain ⟨us,aC,hl,hv⟩:=Dj R rs vs' gH;refine ⟨a.tmps.getD t undef::us,by simp only [List.mapM_cons,Sem.run_bind,Sem.run_pure,Result.andThen_ok,aC],by simp [hl],fun i c u hc hu=>?_⟩;cases i with
   | zero=>simp at hc hu;subst hc;subst hu;simpa using R.prep (R.slots t)
   | succ i=>exact hv i c u (by simpa using hc) (by simpa using hu)
  ·cases h
 | .cell x t::rs,vs,h=>by
  simp only [pt] at h;split at h
  ·rename_i v vs' bE gH;simp only [Option.some.injEq] at h;subst h;obtain ⟨us,aC,hl,hv⟩:=Dj R rs vs' gH;obtain ⟨u,hu,kK⟩:=Af (P:=P) R.objs (R.slots x) bE;have ry:∃ ad,a.tmps.getD x undef = .pointer (some ad):=by
    unfold mE at bE;split at bE
    ·cases bE
    ·split at bE
     ·cases bE
     ·rename_i cs bI;obtain ⟨b,o,hq,_⟩:=Ag R.objs (R.slots x) bI;exact ⟨_,hq⟩
   obtain ⟨ad,uI⟩:=ry;rw [uI] at hu;simp only [Instr.loadAt,Instr.sureAddr,Sem.run_bind,Sem.run_pure,Result.andThen_ok] at hu;have e1:(asAddr (a.tmps.getD x undef)).run P w = .ok ad w:=by rw [uI];rfl
   refine ⟨u::us,by simp only [List.mapM_cons,Sem.run_bind,Sem.run_pure,Result.andThen_ok,e1,hu,aC],by simp [hl],fun i c y hc hy=>?_⟩;cases i with
   | zero=>simp at hc hy;subst hc;subst hy;exact R.prep kK
   | succ i=>exact hv i c y (by simpa using hc) (by simpa using hy)
  ·cases h
theorem Ah:∀ (args:List AV) (k:Nat) (tm:Nat→Value) {M:Nat→Nat→Prop} {h:Hp} {p:Pl},(∀ (i:Nat) (c:AV),args[i]? = some c→V1 w M h p c (tm (k+i)))→∀ i,V1 w M h p (lkp (aF k args) i) (tm i)
 | [],_,_,_,_,_,_,_=>.base _ _ (.any _)
 | c::r,k,tm,M,h,p,hv,i=>by
  simp only [aF,lkp];split
  ·rename_i he;subst he;exact hv 0 c rfl
  ·refine Ah r (k+1) tm (fun j c hj=>?_) i;have:=hv (j+1) c (by simpa using hj);rwa [show k+(j+1)=k+1+j by omega] at this
def pl0:Pl:=⟨fun _=>0,fun _ _ _=>False⟩
def uy (w:World) : Bas:=⟨w,fun _ _=>False⟩
theorem MOK.none {w:World} {M:Nat→Nat→Prop} (h:MOK w M) : MOK w (fun _ _=>False):=⟨fun _ _ h=>h.elim,fun g vs hg=>⟨(h.2.1 g vs hg).1,fun _ h=>h,(h.2.1 g vs hg).2.2⟩,fun g hg=>⟨(h.2.2.1 g hg).1,fun _ h=>h⟩,h.2.2.2⟩
theorem Iv {fn:Func} {args:List AV} {M:Nat→Nat→Prop} {vs:List Value} (hn:Nat.ble args.length fn.ntmps=true) (hM:MOK w M) (hl:vs.length=args.length) (hv:∀ (i:Nat) (a:AV) (v:Value),args[i]? = some a→vs[i]? = some v→V0 w M a v) :
  Rel M (uy w) (n0 fn.ntmps) pl0 ⟨aF 0 args,[]⟩ { tmps:=vs.toArray++Array.replicate (fn.ntmps - vs.toArray.size) undef,defers:=[] } w:=by
 refine ⟨rfl,⟨by have:=Nat.le_of_ble_eq_true hn;simp [n0];omega,fun i hi=>absurd hi (Nat.not_lt_zero i)⟩,Bel.start (uy w),hM,⟨hM.none,fun _ _ _ h=>h⟩,fun i=>?_,fun id ob hi=>by simp at hi,fun id _ _ _ hi=>by simp at hi⟩;refine Ah args 0 (fun i=>(vs.toArray++Array.replicate (fn.ntmps - vs.toArray.size) undef).getD i undef) (fun i c hc=>?_) i;have hi:i < vs.length:=by rw [hl];exact (List.getElem?_eq_some_iff.1 hc).1
 rw [Nat.zero_add];have mF:(vs.toArray++Array.replicate (fn.ntmps - vs.toArray.size) undef).getD i undef=vs[i]:=by
  rw [Array.getD_eq_getD_getElem?,Array.getElem?_append_left (by simpa using hi)];simp [hi]
 rw [mF];refine .base _ _ ((hv i c _ hc (List.getElem?_eq_getElem hi)).keep (Keeps.refl _ _) fun b j _ hn hm=>?_);rcases hm with hm|⟨id,ob,hi,_⟩
 ·exact hn hm
 ·simp at hi
theorem PO {f:FuncId} {fn:Func} {c:Code} {args:List AV} {r:AV} (hf:P.funcs[f]? = some fn) (hb:fn.body=some c) (hg:l8 P f=true) (hN:eY (n0 fn.ntmps) c=true) (hn:Nat.ble args.length fn.ntmps=true)
  (h:∀ M0 w0,VWp P M0 w0 (n0 fn.ntmps) c (Di P fn.results.toList r) ⟨aF 0 args,[]⟩) : VC P f args r:=by
 refine ⟨hg,fun w M vs hM hl hv=>?_⟩;refine calls_of_wp hf hb ?_;refine wp_mono (h M (uy w) hN pl0 _ w (Iv hn hM hl hv)) ?_;have key:∀ (aL:VS) (p':Pl) (a':Act) (w':World),Rel M (uy w) (n0 fn.ntmps) p' aL a' w'→(pt P aL fn.results.toList).map rv=some r→a'.defers=[]∧∃ v,(results fn a'.tmps).run P w' = .ok v w'∧∃ v',Ending.returned v = .returned v'∧Below w.heap.size w w'∧V0 w' M r v':=by
  intro aL p' a' w' R' hr;obtain ⟨vs',gH,b9⟩:=Option.map_eq_some_iff.1 hr;obtain ⟨us,aC,rz,pA⟩:=Dj (P:=P) R' _ _ gH;have nu:(fn.results.mapM fun | .tmp t=>pure (a'.tmps.getD t undef) | .cell x t=>do loadVar t (←asAddr (a'.tmps.getD x undef)) : Sem (Array Value)).run P w' = .ok us.toArray w':=by
   rw [←Array.toArray_toList (xs:=fn.results),List.mapM_toArray];simp only [Sem.run_map,aC,Result.andThen_ok]
  have hres:(results fn a'.tmps).run P w' = .ok (if h:us.toArray.size=1 then us.toArray[0] else .tuple us.toArray) w':=by
   unfold results;rw [Sem.run_bind];exact (congrArg (fun r=>Result.andThen r _) nu).trans rfl
  refine ⟨R'.defers,_,hres,_,rfl,R'.below.below (fun _ _ h=>h),?_⟩;subst b9;by_cases h1:us.length=1
  ·obtain ⟨u,rfl⟩ : ∃ u,us=[u]:=List.length_eq_one_iff.1 h1;obtain ⟨c,rfl⟩ : ∃ c,vs'=[c]:=List.length_eq_one_iff.1 (by rw [←rz];rfl);exact pA 0 c u rfl rfl
  ·have h2:rv vs' = .tup vs':=by
    cases vs' with
    | nil=>rfl
    | cons x y=>cases y with
     | nil=>simp at rz;omega
     | cons=>rfl
   rw [h2,dif_neg (by simpa using h1)];exact .tup _ _ rz pA
 rintro e a' w' ⟨aL,p',R',hq⟩;cases e with
 | normal=>exact key aL p' a' w' R' hq
 | ret=>exact key aL p' a' w' R' hq
 | _=>exact hq.elim
def PQ (t:Nat) (e sz:Nat) (nl:Bool) (es:List (List AV)) : Exit→VS→Prop
 | .ret,st=>∃ id,lkp st.s t = .osl id∧st.h[id]? = some (some (.arr e sz nl es))
 | .normal,st=>∃ id,lkp st.s t = .osl id∧st.h[id]? = some (some (.arr e sz nl es))
 | _,_=>False
theorem u9 {f:FuncId} {fn:Func} {c:Code} {args:List AV} {t e sz:Nat} {nl:Bool} {es:List (List AV)} (hf:P.funcs[f]? = some fn) (hb:fn.body=some c) (hg:l8 P f=true) (hN:eY (n0 fn.ntmps) c=true) (hn:Nat.ble args.length fn.ntmps=true) (hr:fn.results=#[.tmp t])
  (aM:0 < sz) (cI:∀ (k:Nat) (x:List AV),es[k]? = some x→x.length=sz∧∀ c∈x,cN c=true) (h:∀ M0 w0,VWp P M0 w0 (n0 fn.ntmps) c (PQ t e sz nl es) ⟨aF 0 args,[]⟩) : VCo P f args e sz nl es:=by
 refine ⟨hg,aM,cI,fun w M vs hM hl hv=>?_⟩;refine calls_of_wp hf hb (wp_mono (h M (uy w) hN pl0 _ w (Iv hn hM hl hv)) ?_);have key:∀ (aL:VS) (p':Pl) (a':Act) (w':World),Rel M (uy w) (n0 fn.ntmps) p' aL a' w'→(∃ id,lkp aL.s t = .osl id∧aL.h[id]? = some (some (.arr e sz nl es))) →
   a'.defers=[]∧∃ v,(results fn a'.tmps).run P w' = .ok v w'∧∃ v',Ending.returned v = .returned v'∧Below w.heap.size w w'∧OwnRow w w' M e sz nl es v':=by
  intro aL p' a' w' R ⟨id,hs,hi⟩;have mN:=R.slots t;rw [hs] at mN;obtain ⟨A,n,c,hq,hid,bo⟩:=mN.osl_inv;have ho:=bo _ _ _ _ hi;have iP:=R.objs id _ hi;have hres:(results fn a'.tmps).run P w' = .ok (a'.tmps.getD t undef) w':=by
   unfold results;rw [hr];simp
  refine ⟨R.defers,_,hres,_,rfl,R.below.below (fun _ _ h=>h),?_⟩;unfold Osl at ho;unfold OwnRow;obtain ⟨_,_,aR⟩:=iP;cases nl
  ·simp only [Bool.false_eq_true,if_false] at ho aR ⊢;obtain ⟨cap,cur,h1,h2,h3,h4,h5⟩:=ho;obtain ⟨dq,cur',h6,_,h7⟩:=aR;obtain rfl:cur'=cur:=by rw [h6] at h2;injection h2 with h2;injection h2
   refine ⟨p' id,cap,cur',h1,(dq.1 0).resolve_right (fun h=>h),h6,h3,h4,h5,fun k x j c hk hj=>?_⟩;obtain ⟨u,hu,hv⟩:=h7 k x j c hk hj;refine ⟨u,hu,hv.keep (Keeps.refl _ _) fun b j _ hn hm=>?_⟩;rcases hm with hm|hm
   ·exact hn (.inl hm)
   ·exact hn (.inr ⟨id,_,hi,rfl,.inl hm.symm⟩)
  ·simp only [if_true] at ho aR ⊢;exact ⟨ho.1,aR⟩
 rintro en a' w' ⟨aL,p',R',hq⟩;cases en with
 | normal=>exact key aL p' a' w' R' hq
 | ret=>exact key aL p' a' w' R' hq
 | _=>exact hq.elim
theorem zm {f:FuncId} {args:List AV} {e sz:Nat} {nl:Bool} {es:List (List AV)} (h:VCo P f args e sz nl es) : VC P f args (.sl sz es):=by
 obtain ⟨hg,aM,cI,hc⟩:=h;refine ⟨hg,fun w M vs hM hl hv=>(hc w M vs hM hl hv).mono ?_⟩;rintro en w' ⟨v,rfl,hb,ho⟩;refine ⟨v,rfl,hb,?_⟩;unfold OwnRow at ho;cases nl
 ·simp only [Bool.false_eq_true,if_false] at ho;obtain ⟨g,cap,cur,rfl,dq,hh,bI,hle,_,iv⟩:=ho;by_cases aq:es=[]
  ·subst aq;exact .slNil _ _ _
  ·have PR:∀ j,¬M g j:=fun j hm=>by have:=hM.1 g j hm;omega
   refine .sl sz es cap g 0 (fun k j=>cur.getD (k*sz+j) undef) aq (Array.getElem?_eq_some_iff.1 hh).1 (fun _ _ _ _=>PR _) hle (fun k x hk=>(cI k x hk).1) (fun k x j c hk hj=>(cI k x hk).2 c (List.mem_of_getElem? hj)) (fun k j hk hj=>?_) fun k x j c hk hj=>?_
   ·rw [cell_of_row w' g _ cur e (0,0) hh,Nat.zero_add];have:(k+1)*sz≤cap*sz:=Nat.mul_le_mul_right _ (by omega);rw [Nat.add_mul] at this;have:k*sz+j < cur.size:=by omega
    simp [this]
   ·obtain ⟨u,hu,cB⟩:=iv k x j c hk hj;have:cur.getD (k*sz+j) undef=u:=by simp [hu]
    simp only [this];exact cB.keep (Keeps.refl _ _) fun b j _ hn hm=>hn (.inl hm)
 ·simp only [if_true] at ho;obtain ⟨⟨A0,rfl⟩,rfl⟩:=ho;exact .slNil _ _ _
end
section
variable (P:Program)
def zA (o:Oper) (st:VS) (K:VS→Prop) : Prop:=∃ r,dt P st.h (ev st) o.op r∧K (st.put o.dst r)
def m_ (ops:List Oper) (o:Oper) (st:VS) (K:VS→Prop) : Prop:=
 match o.guard with
 | none=>zA P o st K
 | some (j,want)=>match cV ops st j with
  | .lit (.bool b)=>if b=want then zA P o st K else K (st.put o.dst (.lit undef))
  | .lit (.tuple _)=>K (st.put o.dst (.lit undef))
  | _=>False
def mI (ops:List Oper) : List Oper→VS→(VS→Prop)→Prop
 | [],st,K=>K st
 | o::l,st,K=>m_ P ops o st fun aL=>mI ops l aL K
def jB (ops:List Oper) (o:Oper) (st:VS) (r:AV) : Prop:=
 match o.guard with
 | none=>dt P st.h (ev st) o.op r
 | some (j,want)=>match cV ops st j with
  | .lit (.bool b)=>if b=want then dt P st.h (ev st) o.op r else r = .lit undef
  | .lit (.tuple _)=>r = .lit undef
  | _=>False
end
def aH:VS→List Oper→List AV→VS
 | st,o::l,r::rs=>aH (st.put o.dst r) l rs
 | st,_,_=>st
section
variable {P:Program} {M0:Nat→Nat→Prop} {w0:Bas} {N:Nm} {p:Pl} {st:VS} {a:Act} {w:World} {Q:Exit→VS→Prop}
theorem Dk {ops:List Oper} {o:Oper} {K:VS→Prop} (h:m_ P ops o st K) : ∃ r,jB P ops o st r∧K (st.put o.dst r):=by
 obtain ⟨dst,op,ty,pos,after,guard⟩:=o;cases guard with
 | none=>exact h
 | some g=>
  obtain ⟨j,want⟩:=g;simp only [m_] at h;simp only [jB];split at h
  ·split at h
   ·rename_i b hb hw;obtain ⟨r,h1,h2⟩:=h;exact ⟨r,by simp only [hw,if_true];exact h1,h2⟩
   ·rename_i b hb hw;exact ⟨_,by simp only [hw,if_false],h⟩
  ·rename_i vs hb;exact ⟨_,by simp only [],h⟩
  ·exact h.elim
theorem rD {ops:List Oper} {K:VS→Prop} : ∀ (l:List Oper) (st:VS),mI P ops l st K→∃ rs:List AV,rs.length=l.length∧K (aH st l rs)∧∀ (i:Nat) (o:Oper) (r:AV),l[i]? = some o→rs[i]? = some r→jB P ops o (aH st (l.take i) (rs.take i)) r
 | [],st,h=>⟨[],rfl,h,by simp⟩
 | o::l,st,h=>by
  obtain ⟨r,h1,h2⟩:=Dk h;obtain ⟨rs,hl,hK,hs⟩:=rD l _ h2;refine ⟨r::rs,by simp [hl],hK,fun i o' r' ho hr=>?_⟩;cases i with
  | zero=>simp at ho hr;subst ho;subst hr;exact h1
  | succ i=>exact hs i o' r' (by simpa using ho) (by simpa using hr)
theorem ea:∀ (l:List Oper) (rs:List AV) (st:VS),(aH st l rs).h=st.h
 | [],rs,st=>by simp [aH]
 | o::l,[],st=>by simp [aH]
 | o::l,r::rs,st=>by
  rw [aH,ea l rs];cases o.dst<;>rfl
theorem fL (st:VS) (d:Option Tmp) (r:AV) (t:Nat) : lkp (st.put d r).s t=if d=some t then r else lkp st.s t:=by
 cases d with
 | none=>simp [VS.put]
 | some d=>simp [VS.put,lkp]
theorem lz:∀ (l:List Oper) (rs:List AV) (st:VS) (t:Nat),(∀ o∈l,o.dst≠some t)→lkp (aH st l rs).s t=lkp st.s t
 | [],rs,st,t,_=>by simp [aH]
 | o::l,[],st,t,_=>by simp [aH]
 | o::l,r::rs,st,t,h=>by
  rw [aH,lz l rs _ t fun o ho=>h o (List.mem_cons_of_mem _ ho),fL,if_neg (h o (List.mem_cons_self ..))]
theorem ma:∀ (l:List Oper) (rs:List AV) (st:VS) (t j:Nat) (o:Oper) (r:AV),dF l=true→l[j]? = some o→rs[j]? = some r→o.dst=some t→lkp (aH st l rs).s t=r
 | [],_,_,_,_,_,_,_,h,_,_=>by simp at h
 | o::l,[],_,_,_,_,_,_,_,h,_=>by simp at h
 | q::l,s::rs,st,t,j,o,r,hd,ho,hr,ht=>by
  obtain ⟨h1,h2⟩:=vg hd;cases j with
  | zero=>
   simp at ho hr;subst ho;subst hr;rw [aH,lz l rs _ t fun o ho=>h1 o ho t ht,fL,if_pos ht]
  | succ j=>exact ma l rs _ t j o r h2 (by simpa using ho) (by simpa using hr) ht
theorem po {vs:Nat→Value} : ∀ (l:List Oper) (k:Nat) (a:Act) (t:Nat),(∀ o∈l,o.dst≠some t)→(∀ o∈l,∀ d,o.dst=some d→d < a.tmps.size)→(fill (fun _=>true) vs l k a).tmps.getD t undef=a.tmps.getD t undef
 | [],_,_,_,_,_=>rfl
 | o::l,k,a,t,h,hb=>by
  rw [fill,if_pos rfl];have aM:(a.put o.dst (vs k)).tmps.size=a.tmps.size:=by cases o.dst<;>simp [Act.put]
  rw [po l (k+1) _ t (fun o ho=>h o (List.mem_cons_of_mem _ ho)) (fun o ho d hd=>by rw [aM];exact hb o (List.mem_cons_of_mem _ ho) d hd)];cases ho:o.dst with
  | none=>rfl
  | some d=>
   rw [mQ a d _ t (hb o (List.mem_cons_self ..) d ho),if_neg];intro gx;exact h o (List.mem_cons_self ..) (by rw [ho,gx])
theorem zv {vs:Nat→Value} : ∀ (l:List Oper) (k:Nat) (a:Act) (t j:Nat) (o:Oper),dF l=true→(∀ o∈l,∀ d,o.dst=some d→d < a.tmps.size)→l[j]? = some o→o.dst=some t→(fill (fun _=>true) vs l k a).tmps.getD t undef=vs (k+j)
 | [],_,_,_,_,_,_,_,h,_=>by simp at h
 | q::l,k,a,t,j,o,hd,hb,ho,ht=>by
  obtain ⟨h1,h2⟩:=vg hd;rw [fill,if_pos rfl];have aM:(a.put q.dst (vs k)).tmps.size=a.tmps.size:=by cases q.dst<;>simp [Act.put]
  cases j with
  | zero=>
   simp at ho;subst ho;rw [po l (k+1) _ t (fun o ho=>h1 o ho t ht) (fun o ho d hd=>by rw [aM];exact hb o (List.mem_cons_of_mem _ ho) d hd),ht,mQ a t _ t (hb q (List.mem_cons_self ..) t ht),if_pos rfl,Nat.add_zero]
  | succ j=>
   rw [zv l (k+1) _ t j o h2 (fun o ho d hd=>by rw [aM];exact hb o (List.mem_cons_of_mem _ ho) d hd) (by simpa using ho) ht];congr 1;omega
theorem zu {vs:Nat→Value} {g:Nat→Bool} : ∀ (l:List Oper) (k:Nat) (a:Act),(fill g vs l k a).tmps.size=a.tmps.size∧(fill g vs l k a).defers=a.defers
 | [],_,_=>⟨rfl,rfl⟩
 | o::l,k,a=>by
  rw [fill];obtain ⟨h1,h2⟩:=zu (vs:=vs) (g:=g) l (k+1) (if g k=true then a.put o.dst (vs k) else a);rw [h1,h2];split
  ·cases o.dst<;>simp [Act.put]
  ·exact ⟨rfl,rfl⟩
theorem CP {M:Nat→Nat→Prop} {h:Hp} {hd:List Oper} {rs:List AV} {vs:Nat→Value} {i t:Nat} {w':World} (iV:dF hd=true) (dB:rs.length=hd.length) (hb:∀ o∈hd,∀ d,o.dst=some d→d < a.tmps.size)
  (mN:V1 w' M h p (lkp st.s t) (a.tmps.getD t undef)) (_hi:i≤hd.length) (hw:∀ (j:Nat) (o:Oper),hd[j]? = some o→o.dst=some t→j < i∧V1 w' M h p (rs.getD j .any) (vs j)) :
  V1 w' M h p (lkp (aH st (hd.take i) (rs.take i)).s t) ((fill (fun _=>true) vs hd 0 a).tmps.getD t undef):=by
 by_cases hex:∃ (j:Nat) (o:Oper),hd[j]? = some o∧o.dst=some t
 ·obtain ⟨j,o,hj,ho⟩:=hex;obtain ⟨ao,hv⟩:=hw j o hj ho;have b_:=(List.getElem?_eq_some_iff.1 hj).1;have gx:dF (hd.take i)=true:=by
   clear hw mN hb hj _hi hv ao dB b_;induction hd generalizing i with
   | nil=>simp [dF]
   | cons x l ih=>
    cases i with
    | zero=>rfl
    | succ i=>
     simp only [dF,Bool.and_eq_true] at iV;simp only [List.take_succ_cons,dF,Bool.and_eq_true];refine ⟨?_,ih iV.2⟩;have h1:=iV.1;cases c_:x.dst with
     | none=>rfl
     | some d=>
      simp only [c_] at h1;exact List.all_eq_true.2 fun q hq=>List.all_eq_true.1 h1 q (List.mem_of_mem_take hq)
  rw [zv hd 0 a t j o iV hb hj ho,Nat.zero_add,ma (hd.take i) (rs.take i) st t j o (rs.getD j .any) gx (by rw [List.getElem?_take_of_lt ao];exact hj) (by rw [List.getElem?_take_of_lt ao];simp [List.getD,show j < rs.length by omega]) ho];exact hv
 ·have bg:∀ o∈hd,o.dst≠some t:=fun o ho he=>by
   obtain ⟨j,hj⟩:=List.mem_iff_getElem?.1 ho;exact hex ⟨j,o,hj,he⟩
  rw [po hd 0 a t bg hb,lz _ _ _ _ fun o ho=>bg o (List.mem_of_mem_take ho)];exact mN
theorem Aw {l:List Oper} {n:Nat} {rs:List AV} (R:Rel M0 w0 N p st a w) (hn:n≤l.length) (hd:dF (l.take n)=true) (hN:l.all (cU N)=true)
  (a_:∀ i,i < n→∀ o,l[i]? = some o→∀ t∈o.looksAt l.toArray,∀ j,j < n→∀ q,l[j]? = some q→q.dst=some t→Region.waitsFor .any l.toArray i j=true)
  (ao:∀ i j,i < n→Region.waitsFor .any l.toArray i j=true→j < i) (dB:rs.length=n)
  (fu:∀ (i:Nat) (o:Oper) (r:AV),(l.take n)[i]? = some o→rs[i]? = some r→jB P l o (aH st ((l.take n).take i) (rs.take i)) r) (i:Nat) (hi:i < n) :
  qB P l.toArray w a n (fun i v w'=>V1 w' (Mof M0 st.h p) st.h p (rs.getD i .any) v) i:=by
 intro o ho vs w' cp hS;have aJ:l[i]? = some o:=by simpa using ho
 have aX:(l.take n)[i]? = some o:=by rw [List.getElem?_take_of_lt hi];exact aJ
 have R':=R.later cp;have eX:∀ q∈l.take n,∀ d,q.dst=some d→d < a.tmps.size:=fun q hq d eu=>R.size.lt (eZ (List.all_eq_true.1 hN q (List.mem_of_mem_take hq)) d eu);have hlen:(l.take n).length=n:=by simp;omega
 have cm:∀ t∈o.looksAt l.toArray,V1 w' (Mof M0 st.h p) st.h p (lkp (aH st ((l.take n).take i) (rs.take i)).s t) ((fill (fun _=>true) vs (l.take n) 0 a).tmps.getD t undef):=fun t ht=>
  CP hd (by rw [dB,hlen]) eX (R'.slots t) (by rw [hlen];omega) fun j q hj hq=>by
   have eH:j < n:=by have:=(List.getElem?_eq_some_iff.1 hj).1;omega
   have eN:l[j]? = some q:=by rw [List.getElem?_take_of_lt eH] at hj;exact hj
   have hw:=a_ i hi o aJ t ht j eH q eN hq;exact ⟨ao i j hi hw,hS j eH hw⟩
 have hr:rs[i]? = some (rs.getD i .any):=by simp [List.getD,show i < rs.length by omega]
 have aj:=fu i o _ aX hr;simp only [];have bx:dt P st.h (ev (aH st ((l.take n).take i) (rs.take i))) o.op (rs.getD i .any)→gives P o (fill (fun _=>true) vs (l.take n) 0 a) w' fun v w''=>V1 w'' (Mof M0 st.h p) st.h p (rs.getD i .any) v∧Below w'.heap.size w' w'':=by
  intro hg;refine nC R'.objs R'.mok R'.h0 R'.glob (fun _ _ hb=>.inl hb) (fun x hx=>?_) hg;cases x with
  | tmp t=>exact cm t (List.mem_append_left _ (List.mem_filterMap.2 ⟨.tmp t,by simpa using hx,rfl⟩))
  | const v=>exact .base _ _ (.lit v)
  | global g=>exact .base _ _ (R'.evalG g)
  | func f=>exact .base _ _ (.lit _)
 unfold jB at aj;split at aj
 ·rename_i hg;simp only [Region.wanted,hg,if_true];rw [ea] at aj;exact bx aj
 ·rename_i j want hg;simp only [Region.wanted,hg];have hy:(∀ b,cV l (aH st ((l.take n).take i) (rs.take i)) j = .lit (.bool b)→yielded l.toArray (fill (fun _=>true) vs (l.take n) 0 a).tmps j=some b)∧(∀ us,cV l (aH st ((l.take n).take i) (rs.take i)) j = .lit (.tuple us)→yielded l.toArray (fill (fun _=>true) vs (l.take n) 0 a).tmps j=none):=by
   unfold cV yielded;cases hj:l[j]? with
   | none=>simp [hj,undef]
   | some q=>
    cases hq:q.dst with
    | none=>simp [hj,hq,undef]
    | some d=>
     have cH:d∈o.looksAt l.toArray:=by
      unfold Oper.looksAt;refine List.mem_append_right _ ?_;simp [hg,hj,hq]
     have hs:=cm d cH;have ln:d < (fill (fun _=>true) vs (l.take n) 0 a).tmps.size:=by
      rw [(zu _ _ _).1];exact R.size.lt (eZ (List.all_eq_true.1 hN q (List.mem_of_getElem? hj)) d hq)
     have di:(fill (fun _=>true) vs (l.take n) 0 a).tmps.getD d undef=(fill (fun _=>true) vs (l.take n) 0 a).tmps[d]:=by simp [ln]
     rw [di] at hs;simp only [List.getElem?_toArray,hj,Option.bind_some,hq];refine ⟨fun b hb=>?_,fun us hb=>?_⟩
     ·rw [hb] at hs;have:=hs.lit_inv;simp [ln,this]
     ·rw [hb] at hs;have:=hs.lit_inv;simp [ln,this]
  split at aj
  ·rename_i b hb;rw [hy.1 b hb];split at aj
   ·rename_i hw;subst hw;rw [if_pos (by simp)];rw [ea] at aj;exact bx aj
   ·rename_i hw;rw [if_neg (by simpa using hw),aj];exact .base _ _ (.lit _)
  ·rename_i us hb;rw [hy.2 us hb,if_neg (by simp),aj];exact .base _ _ (.lit _)
  ·exact aj.elim
theorem uQ {l:List Oper} {rs:List AV} {vs:Nat→Value} {w':World} (R:Rel M0 w0 N p st a w) (hd:dF l=true) (hN:l.all (cU N)=true) (dB:rs.length=l.length) (hb:Below w.heap.size w w')
  (hv:∀ i,i < l.length→V1 w' (Mof M0 st.h p) st.h p (rs.getD i .any) (vs i)) : Rel M0 w0 N p (aH st l rs) (fill (fun _=>true) vs l 0 a) w':=by
 have R':=R.later hb;have eX:∀ q∈l,∀ d,q.dst=some d→d < a.tmps.size:=fun q hq d eu=>R.size.lt (eZ (List.all_eq_true.1 hN q hq) d eu);obtain ⟨tx,cL⟩:=zu (vs:=vs) (g:=fun _=>true) l 0 a;have hh:=ea l rs st;refine ⟨by rw [cL];exact R.defers,⟨by rw [tx];exact R.size.size,fun i hi=>(po l 0 a i (fun o ho he=>absurd (eZ (List.all_eq_true.1 hN o ho) i he).1 (by omega)) eX).trans (R.size.fix i hi)⟩,R'.below,R.m0,R.x0,fun t=>?_,?_,?_⟩
 ·rw [hh];have:=CP (i:=l.length) (vs:=vs) hd dB eX (R'.slots t) (Nat.le_refl _) fun j o hj ho=>⟨(List.getElem?_eq_some_iff.1 hj).1,hv j (List.getElem?_eq_some_iff.1 hj).1⟩
  rwa [List.take_length,List.take_of_length_le (by omega)] at this
 ·rw [hh];exact R'.objs
 ·rw [hh];exact R.inj
def Dl (l:List Oper) (n:Nat) : Bool:=if n=l.length then Region.allB l.toArray else Region.specB l.toArray n
theorem EH {id:Nat} {l:List Oper} (n:Nat) (ow:List Nat) (hm:P.follows .mixedOrders=true) (hB:Dl l n=true) (h:mI P l (l.take n) st fun aL=>dS P ow l (l.drop n) aL (Q .normal)) :
  VWp P M0 w0 N (.region id l.toArray true) Q st:=fun hC p a w R=>by
 have hN:l.all (cU N)=true:=by simpa [eY] using hC
 obtain ⟨rs,dO,hK,fu⟩:=rD _ _ h;unfold Dl at hB;split at hB
 ·rename_i hn;subst hn;rw [List.take_length] at dO hK fu;rw [List.drop_length] at hK;have cZ:=hB;simp only [Region.allB,Bool.and_eq_true] at hB;obtain ⟨⟨kL,hd⟩,a_⟩:=hB;have c_:dF l=true:=by simpa using hd
  have cm:∀ i,i < l.length→∀ o,l[i]? = some o→(∀ t∈o.looksAt l.toArray,∀ j,j < l.length→∀ q,l[j]? = some q→q.dst=some t→Region.waitsFor .any l.toArray i j=true)∧(∀ e∈o.after,Region.binds .any e=true→e.on < i):=by
   intro i hi o ho;have h:=List.all_eq_true.1 a_ i (List.mem_range.2 (by simpa using hi));simp only [List.getElem?_toArray,ho,Bool.and_eq_true] at h;refine ⟨fun t ht j hj q hq aA=>?_,fun e he hb=>?_⟩
   ·have h1:=List.all_eq_true.1 (List.all_eq_true.1 h.1 t ht) j (List.mem_range.2 (by simpa using hj));simp only [hq,Option.bind_some,aA,bne_self_eq_false,Bool.false_or] at h1;exact h1
   ·have h1:=Array.all_eq_true'.1 h.2 e he;simp only [hb,Bool.not_true,Bool.false_or,decide_eq_true_eq] at h1;exact h1
  have ao:∀ i j,i < l.length→Region.waitsFor .any l.toArray i j=true→j < i:=by
   intro i j hi hw;obtain ⟨o,ho,e,he,hb,cf⟩:=Region.waitsFor_spec hw;rw [←cf];exact (cm i hi o (by simpa using ho)).2 e he hb
  refine ML (S:=fun i v w'=>V1 w' (Mof M0 st.h p) st.h p (rs.getD i .any) v) hm cZ (fun i _ v w1 w2 hv hb=>hv.later hb) (fun i hi=>?_) fun vs w' hb hv=>?_
  ·exact Aw R (Nat.le_refl _) (by rw [List.take_length];exact c_) hN (fun i hi o ho t ht j hj q hq aA=>(cm i hi o ho).1 t ht j hj q hq aA) ao dO (by rw [List.take_length];exact fu) i hi
  ·exact ⟨_,p,uQ R c_ hN dO hb hv,hK⟩
 ·rename_i hn;have cZ:=hB;simp only [Region.specB,Bool.and_eq_true,decide_eq_true_eq] at hB;obtain ⟨⟨⟨⟨⟨⟨kL,aK⟩,hs⟩,hc⟩,hd⟩,a_⟩,ny⟩:=hB;have eB:n < l.length:=by simpa using aK
  have c_:dF (l.take n)=true:=by simpa using hd
  have hlen:(l.take n).length=n:=by simp;omega
  have cm:∀ i,i < n→∀ o,l[i]? = some o→(∀ t∈o.looksAt l.toArray,∀ j,j < n→∀ q,l[j]? = some q→q.dst=some t→Region.waitsFor .any l.toArray i j=true)∧(∀ e∈o.after,Region.binds .any e=true→e.on < i):=by
   intro i hi o ho;have h:=List.all_eq_true.1 a_ i (List.mem_range.2 hi);simp only [List.getElem?_toArray,ho,Bool.and_eq_true] at h;refine ⟨fun t ht j hj q hq aA=>?_,fun e he hb=>?_⟩
   ·have h1:=List.all_eq_true.1 (List.all_eq_true.1 h.1 t ht) j (List.mem_range.2 hj);simp only [hq,Option.bind_some,aA,bne_self_eq_false,Bool.false_or] at h1;exact h1
   ·have h1:=Array.all_eq_true'.1 h.2 e he;simp only [hb,Bool.not_true,Bool.false_or,decide_eq_true_eq] at h1;exact h1
  have ao:∀ i j,i < n→Region.waitsFor .any l.toArray i j=true→j < i:=by
   intro i j hi hw;obtain ⟨o,ho,e,he,hb,cf⟩:=Region.waitsFor_spec hw;rw [←cf];exact (cm i hi o (by simpa using ho)).2 e he hb
  refine xD n (fun i v w'=>V1 w' (Mof M0 st.h p) st.h p (rs.getD i .any) v) hm cZ (fun i _ v w1 w2 hv hb=>hv.later hb) (fun i hi=>?_) fun vs w' hb hv=>?_
  ·exact Aw R (Nat.le_of_lt eB) c_ hN (fun i hi o ho t ht j hj q hq aA=>(cm i hi o ho).1 t ht j hj q hq aA) ao (by rw [dO,hlen]) fu i hi
  ·have pC:(l.take n).all (cU N)=true:=List.all_eq_true.2 fun q hq=>List.all_eq_true.1 hN q (List.mem_of_mem_take hq);have ia:(l.drop n).all (cU N)=true:=List.all_eq_true.2 fun q hq=>List.all_eq_true.1 hN q (List.mem_of_mem_drop hq);exact l9 (ow:=ow) hN (fun p st a w R h=>⟨st,p,R,h⟩) (l.drop n) p _ _ w' ia (uQ R c_ pC dO hb (by rw [hlen];exact hv)) hK
end
def nc (pid:Option Nat) (s:List (Nat×AV)) : List (Nat×AV):=match pid with|some id=>s.map (fun q=>(q.1,purge id q.2))|none=>s
def nb (d:Option Tmp) (av:AV) (pid:Option Nat) (s:List (Nat×AV)) : List (Nat×AV):=match d with|some d=>(d,av)::nc pid s|none=>nc pid s
abbrev Dm (d:Option Tmp) (av:AV) (pid:Option Nat) (s:List (Nat×AV)) (H:Hp) : VS:=⟨nb d av pid s,H⟩
def nf (d:Option Tmp) (av:AV) (pid:Option Nat) (cs:List (Nat×AV)) : List (Nat×AV):=match d with|some d=>(d,av)::(match pid with|some _=>[]|none=>cs)|none=>cs
def Dn (Ao nw:VS) : Prop:=∀ (M0:Nat→Nat→Prop) (w0:Bas) (N:Nm) (p:Pl) (a:Act) (w:World),Rel M0 w0 N p Ao a w→Rel M0 w0 N p nw a w
def ri (fz:Bool) (av:AV) : AV:=if fz=true then av else .any
def oD (fz:Bool) (d:Option Tmp) (av:AV) (pid:Option Nat) (cs:List (Nat×AV)) : List (Nat×AV):=if fz=true then (match pid with|some _=>[]|none=>cs) else nf d av pid cs
section
variable (P:Program)
def Iw (ow:List Nat) (o:Oper) (cs:List (Nat×AV)) (T:VS) (X X':Hp) (pid:Option Nat) (av:AV) : Prop:=
 o.guard=none∧(o.dst=none→pid=none)∧(∀ id,pid=some id→T.h.length≤id) ∧
  ∀ s2,(∀ t,Operand.tmp t∈o.op.operands→lkp (cs++T.s) t≠.any→lkp s2 t=lkp (cs++T.s) t)→VDo P ow o ⟨s2,T.h++X⟩ fun aL=>Dn aL (Dm o.dst av pid s2 (T.h++X'))
def kH (ow:List Nat) (ops:List Oper) (bf:Nat→Bool) : List Oper→Nat→VS→List (Nat×AV)→Hp→(VS→Prop)→Prop
 | [],_,T,cs,X,K=>K ⟨cs++T.s,T.h++X⟩
 | o::l,i,T,cs,X,K=>
  if bf i=true then ∃ X' pid av fz,(Iw P ow o cs T X X' pid av∧(fz=true→bh T.h.length 5 av=true))∧kH ow ops bf l (i+1) (T.put o.dst (ri fz av)) (oD fz o.dst av pid cs) X' K
  else m_ P ops o T fun T'=>(∀ d,o.dst=some d→bh T.h.length 5 (lkp T'.s d)=true)∧kH ow ops bf l (i+1) T' cs X K
end
section
variable {P:Program} {M0:Nat→Nat→Prop} {w0:Bas} {N:Nm} {p:Pl} {st:VS} {a:Act} {w:World} {Q:Exit→VS→Prop}
theorem rj (st:VS) (d:Option Tmp) (r:AV) : (st.put d r).h=st.h:=by cases d<;>rfl
structure ChainSteps (P:Program) (ow:List Nat) (ops:List Oper) (bf:Nat→Bool) (l:List Oper) (i0:Nat) (T:VS) (rs:List AV) (Xs:Nat→Hp) (dL:Nat→List (Nat×AV)) : Prop where
 len:rs.length=l.length
 plain:∀ (i:Nat) (o:Oper) (r:AV),bf (i0+i)=false→l[i]? = some o→rs[i]? = some r→jB P ops o (aH T (l.take i) (rs.take i)) r∧(∀ d,o.dst=some d→bh T.h.length 5 r=true)∧Xs (i+1)=Xs i∧dL (i+1)=dL i
 chain:∀ (i:Nat) (o:Oper),bf (i0+i)=true→l[i]? = some o→∃ pid av fz,rs[i]? = some (ri fz av)∧Iw P ow o (dL i) (aH T (l.take i) (rs.take i)) (Xs i) (Xs (i+1)) pid av∧(fz=true→bh T.h.length 5 av=true)∧dL (i+1)=oD fz o.dst av pid (dL i)
theorem Ix (st:VS) (d:Nat) (r:AV) : lkp (st.put (some d) r).s d=r:=by simp [VS.put,lkp]
theorem zE {ow:List Nat} {ops:List Oper} {bf:Nat→Bool} {K:VS→Prop} : ∀ (l:List Oper) (i0:Nat) (T:VS) (cs:List (Nat×AV)) (X:Hp),kH P ow ops bf l i0 T cs X K →
  ∃ rs Xs dL,ChainSteps P ow ops bf l i0 T rs Xs dL∧Xs 0=X∧dL 0=cs∧K ⟨dL l.length++(aH T l rs).s,T.h++Xs l.length⟩
 | [],i0,T,cs,X,h=>⟨[],fun _=>X,fun _=>cs,⟨rfl,by simp,by simp⟩,rfl,rfl,h⟩
 | o::l,i0,T,cs,X,h=>by
  unfold kH at h;by_cases hc:bf i0=true
  ·rw [if_pos hc] at h;obtain ⟨X',pid,av,fz,⟨h1,zF⟩,h2⟩:=h;obtain ⟨rs,Xs,dL,S,e1,e2,hK⟩:=zE l (i0+1) _ _ _ h2;refine ⟨ri fz av::rs,fun i=>match i with|0=>X|i+1=>Xs i,fun i=>match i with|0=>cs|i+1=>dL i,⟨by simp [S.len],fun i q r hi hq hr=>?_,fun i q hi hq=>?_⟩,rfl,rfl,?_⟩
   ·cases i with
    | zero=>rw [Nat.add_zero,hc] at hi;cases hi
    | succ i=>
     have:=S.plain i q r (by rw [←hi];congr 1;omega) (by simpa using hq) (by simpa using hr);rw [rj] at this;simpa [aH] using this
   ·cases i with
    | zero=>
     simp at hq;subst hq;exact ⟨pid,av,fz,rfl,by simpa [aH,e1] using h1,zF,by simp [e2]⟩
    | succ i=>
     have:=S.chain i q (by rw [←hi];congr 1;omega) (by simpa using hq);rw [rj] at this;simpa [aH] using this
   ·rw [rj] at hK;simpa [aH] using hK
  ·rw [if_neg hc] at h;obtain ⟨r,h1,h2,h3⟩:=Dk h;obtain ⟨rs,Xs,dL,S,e1,e2,hK⟩:=zE l (i0+1) _ _ _ h3;refine ⟨r::rs,fun i=>match i with|0=>X|i+1=>Xs i,fun i=>match i with|0=>cs|i+1=>dL i,⟨by simp [S.len],fun i q x hi hq hr=>?_,fun i q hi hq=>?_⟩,rfl,rfl,?_⟩
   ·cases i with
    | zero=>
     simp at hq hr;subst hq;subst hr;refine ⟨h1,fun d hd=>?_,by simp [e1],by simp [e2]⟩;have:=h2 d hd;rw [hd,Ix] at this;simpa using this
    | succ i=>
     have:=S.plain i q x (by rw [←hi];congr 1;omega) (by simpa using hq) (by simpa using hr);rw [rj] at this;simpa [aH] using this
   ·cases i with
    | zero=>rw [Nat.add_zero] at hi;exact absurd hi hc
    | succ i=>
     have:=S.chain i q (by rw [←hi];congr 1;omega) (by simpa using hq);rw [rj] at this;simpa [aH] using this
   ·rw [rj] at hK;simpa [aH] using hK
theorem rP {n id:Nat} (hn:n≤id) : ∀ (k:Nat) (v:AV),bh n k v=true→cJ id k v=true
 | 0,v,h=>by simp [bh] at h
 | k+1,v,h=>by
  have ih:=rP hn k;cases v with
  | agg cs=>simp only [bh,cJ,List.all_eq_true] at h ⊢;exact fun c hc=>ih c (h c hc)
  | tup cs=>simp only [bh,cJ,List.all_eq_true] at h ⊢;exact fun c hc=>ih c (h c hc)
  | fn f x y=>simp only [bh,cJ,Bool.and_eq_true,List.all_eq_true] at h ⊢;exact ⟨fun c hc=>ih c (h.1 c hc),fun c hc=>ih c (h.2 c hc)⟩
  | iface t x=>simp only [bh,cJ] at h ⊢;exact ih x h
  | ref i o=>simp only [bh,cJ,decide_eq_true_eq,bne_iff_ne,ne_eq] at h ⊢;omega
  | aref i a b c=>simp only [bh,cJ,decide_eq_true_eq,bne_iff_ne,ne_eq] at h ⊢;omega
  | osl i=>simp only [bh,cJ,decide_eq_true_eq,bne_iff_ne,ne_eq] at h ⊢;omega
  | mp i=>simp only [bh,cJ,decide_eq_true_eq,bne_iff_ne,ne_eq] at h ⊢;omega
  | slw i _ _ _=>simp only [bh,cJ,decide_eq_true_eq,bne_iff_ne,ne_eq] at h ⊢;omega
  | _=>rfl
theorem PS {n id:Nat} (hn:n≤id) {v:AV} (h:bh n 5 v=true) : purge id v=v:=by
 unfold purge;rw [if_pos (rP hn 5 v h)]
theorem xe (id:Nat) : ∀ (s:List (Nat×AV)) (i:Nat),lkp (s.map fun q=>(q.1,purge id q.2)) i=purge id (lkp s i)
 | [],i=>by simp [lkp,purge,cJ]
 | q::s,i=>by
  simp only [List.map_cons,lkp];split
  ·rfl
  ·exact xe id s i
theorem qA:∀ (x y:List (Nat×AV)) (t:Nat),lkp (x++y) t=lkp x t∨lkp (x++y) t=lkp y t
 | [],_,_=>.inr rfl
 | q::x,y,t=>by
  simp only [List.cons_append,lkp];split
  ·exact .inl rfl
  ·exact qA x y t
theorem Rel.weak {s':List (Nat×AV)} (R:Rel M0 w0 N p st a w) (h:∀ t,lkp s' t=lkp st.s t∨lkp s' t = .any) : Rel M0 w0 N p ⟨s',st.h⟩ a w:=
 ⟨R.defers,R.size,R.below,R.m0,R.x0,fun t=>by
  rcases h t with h|h
  ·show V1 _ _ _ _ (lkp s' t) _;rw [h];exact R.slots t
  ·show V1 _ _ _ _ (lkp s' t) _;rw [h];exact .base _ _ (.any _),R.objs,R.inj⟩
def sOK (n:Nat) : List (Nat×AV)→Prop
 | []=>True
 | q::r=>bh n 5 q.2=true∧sOK n r
def hOK (n:Nat) : Hp→Prop
 | []=>True
 | none::r=>hOK n r
 | some ob::r=>oN n ob=true∧hOK n r
theorem pH {n:Nat} : ∀ {s:List (Nat×AV)},sOK n s→∀ t,bh n 5 (lkp s t)=true
 | [],_,_=>rfl
 | q::s,h,t=>by
  simp only [lkp];split
  ·exact h.1
  ·exact pH h.2 t
theorem vd {n:Nat} : ∀ {h:Hp},hOK n h→∀ (id:Nat) (ob:Ob),h[id]? = some (some ob)→oN n ob=true
 | [],_,_,_,hi=>by simp at hi
 | none::r,h,id,ob,hi=>by
  cases id with
  | zero=>simp at hi
  | succ id=>exact vd (h:=r) h id ob (by simpa using hi)
 | some x::r,h,id,ob,hi=>by
  cases id with
  | zero=>simp at hi;subst hi;exact h.1
  | succ id=>exact vd (h:=r) h.2 id ob (by simpa using hi)
theorem V1.short {M:Nat→Nat→Prop} {h X:Hp} {av:AV} {v:Value} (hv:V1 w M (h++X) p av v) (hi:bh h.length 5 av=true) : V1 w M h p av v:=
 V1.trunc (fun _ _ hb=>hb) (fun id ob hh=>by rw [List.getElem?_append_left (List.getElem?_eq_some_iff.1 hh).1];exact hh) 5 _ _ hv hi
theorem V1.long {M:Nat→Nat→Prop} {h X:Hp} {av:AV} {v:Value} (hv:V1 w M h p av v) : V1 w M (h++X) p av v:=
 V1.keep (Keeps.refl _ _) (fun _ _ _ hb=>hb) (by simp) (fun _ _=>rfl) (fun id e sz nl es v hid hh ho=>ho e sz nl es (by rw [List.getElem?_append_left hid] at hh;exact hh)) (fun id e sz nl pe qs v hid hh ho=>ho e sz nl pe qs (by rw [List.getElem?_append_left hid] at hh;exact hh))
  (fun id k sz v hid hs=>hs.keep (fun e sz pe qs he=>⟨by rw [List.getElem?_append_left hid] at he;exact he,rfl,rfl,fun _ _ _ _=>rfl⟩) (Nat.le_refl _)) hv
theorem Rel.short_objs {h X:Hp} {s:List (Nat×AV)} (R:Rel M0 w0 N p ⟨s,h++X⟩ a w) (hh:hOK h.length h) (id:Nat) (ob:Ob) (hi:h[id]? = some (some ob)) : ObOK w0 w (Mof M0 (h++X) p) h p id ob:=by
 have ho:=R.objs id ob (by show (h++X)[id]? = _;rw [List.getElem?_append_left (List.getElem?_eq_some_iff.1 hi).1];exact hi);have dx:=vd hh id ob hi;cases ob with
 | mpo kf iD=>exact ho
 | box cs=>
  obtain ⟨a1,cur,e,a2,a3,a4,a5⟩:=ho;exact ⟨a1,cur,e,a2,a3,a4,fun j c hj=>let ⟨u,hu,hv⟩:=a5 j c hj;⟨u,hu,V1.short hv (List.all_eq_true.1 dx c (List.mem_of_getElem? hj))⟩⟩
 | arr e sz nl es=>exact ho
 | bag e sz nl ak qs=>exact ho
theorem Iy {n:Nat} {pid:Option Nat} {s:List (Nat×AV)} {t:Nat} (hp:∀ id,pid=some id→n≤id) (hid:bh n 5 (lkp s t)=true) : lkp (nc pid s) t=lkp s t:=by
 unfold nc;cases pid with
 | none=>rfl
 | some id=>
  show lkp (s.map fun q=>(q.1,purge id q.2)) t=_;rw [xe,PS (hp id rfl) hid]
theorem Im {n:Nat} {d:Option Tmp} {av:AV} {pid:Option Nat} {s:List (Nat×AV)} {t:Nat} (aq:∀ d',d=some d'→d'≠t) (hp:∀ id,pid=some id→n≤id) (hid:bh n 5 (lkp s t)=true) : lkp (nb d av pid s) t=lkp s t:=by
 unfold nb;cases d with
 | none=>exact Iy hp hid
 | some d=>
  show (if d=t then av else lkp (nc pid s) t)=_;rw [if_neg (aq d rfl)];exact Iy hp hid
theorem ly:∀ (l:List Oper) (i:Nat),dF l=true→dF (l.take i)=true
 | [],i,_=>by simp [dF]
 | x::l,0,_=>rfl
 | x::l,i+1,h=>by
  simp only [dF,Bool.and_eq_true] at h;simp only [List.take_succ_cons,dF,Bool.and_eq_true];refine ⟨?_,ly l i h.2⟩;have h1:=h.1;cases c_:x.dst with
  | none=>rfl
  | some d=>
   simp only [c_] at h1;exact List.all_eq_true.2 fun q hq=>List.all_eq_true.1 h1 q (List.mem_of_mem_take hq)
theorem mK:∀ {l:List Oper} {i j:Nat} {o q:Oper} {d:Nat},dF l=true→l[i]? = some o→l[j]? = some q→o.dst=some d→q.dst=some d→i=j
 | [],i,_,_,_,_,_,hi,_,_,_=>by simp at hi
 | x::l,i,j,o,q,d,h,hi,hj,ho,hq=>by
  obtain ⟨h1,h2⟩:=vg h;cases i with
  | zero=>
   simp at hi;subst hi;cases j with
   | zero=>rfl
   | succ j=>exact absurd hq (h1 q (List.mem_of_getElem? (by simpa using hj)) d ho)
  | succ i=>
   cases j with
   | zero=>
    simp at hj;subst hj;exact absurd ho (h1 o (List.mem_of_getElem? (by simpa using hi)) d hq)
   | succ j=>exact congrArg (· + 1) (mK h2 (by simpa using hi) (by simpa using hj) ho hq)
theorem ChainSteps.dom {ow:List Nat} {ops l:List Oper} {bf:Nat→Bool} {T:VS} {rs:List AV} {Xs:Nat→Hp} {dL:Nat→List (Nat×AV)} (S:ChainSteps P ow ops bf l 0 T rs Xs dL) (h0:dL 0=[]) :
  ∀ (k:Nat),k≤l.length→∀ t,lkp (dL k) t≠.any→∃ c o,c < k∧bf c=true∧l[c]? = some o∧o.dst=some t
 | 0,_,t,h=>by rw [h0] at h;exact absurd rfl h
 | k+1,hk,t,h=>by
  have ho:l[k]? = some l[k]:=List.getElem?_eq_getElem (by omega);by_cases hc:bf k=true
  ·obtain ⟨pid,av,fz,_,_,_,he⟩:=S.chain k l[k] (by rw [Nat.zero_add];exact hc) ho;rw [he] at h;unfold oD at h;split at h
   ·cases pid with
    | some _=>exact absurd rfl h
    | none=>
     obtain ⟨c,o,h1,h2,h3,h4⟩:=S.dom h0 k (by omega) t h;exact ⟨c,o,by omega,h2,h3,h4⟩
   unfold nf at h;split at h
   ·rename_i d hd;by_cases gx:d=t
    ·subst gx;exact ⟨k,l[k],by omega,hc,ho,hd⟩
    ·cases pid with
     | some _=>simp [lkp,gx] at h
     | none=>
      simp only [lkp,gx,if_false] at h;obtain ⟨c,o,h1,h2,h3,h4⟩:=S.dom h0 k (by omega) t h;exact ⟨c,o,by omega,h2,h3,h4⟩
   ·obtain ⟨c,o,h1,h2,h3,h4⟩:=S.dom h0 k (by omega) t h;exact ⟨c,o,by omega,h2,h3,h4⟩
  ·have hr:rs[k]? = some (rs[k]'(by rw [S.len];omega)):=List.getElem?_eq_getElem _;have:=(S.plain k l[k] _ (by rw [Nat.zero_add];simpa using hc) ho hr).2.2.2;rw [this] at h;obtain ⟨c,o,h1,h2,h3,h4⟩:=S.dom h0 k (by omega) t h;exact ⟨c,o,by omega,h2,h3,h4⟩
theorem ChainSteps.same {ow:List Nat} {ops l:List Oper} {bf:Nat→Bool} {T:VS} {rs:List AV} {Xs:Nat→Hp} {dL:Nat→List (Nat×AV)} (S:ChainSteps P ow ops bf l 0 T rs Xs dL) {k:Nat} : ∀ (m:Nat),k+m≤l.length→(∀ c,k≤c→c < k+m→bf c=false)→Xs (k+m)=Xs k∧dL (k+m)=dL k
 | 0,_,_=>⟨rfl,rfl⟩
 | m+1,hk,h=>by
  have ih:=S.same (k:=k) m (by omega) fun c h1 h2=>h c h1 (by omega);have ho:l[k+m]? = some (l[k+m]'(by omega)):=List.getElem?_eq_getElem _;have hr:rs[k+m]? = some (rs[k+m]'(by rw [S.len];omega)):=List.getElem?_eq_getElem _;have:=(S.plain (k+m) _ _ (by rw [Nat.zero_add];exact h (k+m) (by omega) (by omega)) ho hr).2.2;exact ⟨this.1.trans ih.1,this.2.trans ih.2⟩
def chainB (l:List Oper) (n:Nat) (bf:Nat→Bool) : Bool:=(List.range n).all fun c=>!bf c || (List.range c).all fun d=>!bf d || Region.waitsFor .any l.toArray c d
theorem Dd {id:Nat} {l:List Oper} (n:Nat) (ow:List Nat) (bf:Nat→Bool) (hm:P.follows .mixedOrders=true) (hB:Region.specB l.toArray n=true) (hC:chainB l n bf=true) (hs:sOK st.h.length st.s) (hh:hOK st.h.length st.h)
  (h:kH P ow l bf (l.take n) 0 st [] [] fun aL=>dS P ow l (l.drop n) aL (Q .normal)) : VWp P M0 w0 N (.region id l.toArray true) Q st:=fun iw p0 a0 rE R0=>by
 have hN:l.all (cU N)=true:=by simpa [eY] using iw
 obtain ⟨rs,Xs,dL,S,e1,e2,hK⟩:=zE _ _ _ _ _ h;have cZ:=hB;simp only [Region.specB,Bool.and_eq_true,decide_eq_true_eq] at cZ;obtain ⟨⟨⟨⟨⟨⟨_,aK⟩,_⟩,_⟩,hd⟩,a_⟩,_⟩:=cZ;have eB:n < l.length:=by simpa using aK
 have c_:dF (l.take n)=true:=by simpa using hd
 have hlen:(l.take n).length=n:=by simp;omega
 rw [hlen] at hK;have bb:∀ {i:Nat} {o:Oper},i < n→l[i]? = some o→(l.take n)[i]? = some o:=fun {i o} hi ho=>by rw [List.getElem?_take_of_lt hi];exact ho
 have iR:∀ {i:Nat} {o:Oper},(l.take n)[i]? = some o→i < n∧l[i]? = some o:=fun {i o} ho=>by
  have hi:i < n:=by have:=(List.getElem?_eq_some_iff.1 ho).1;omega
  rw [List.getElem?_take_of_lt hi] at ho;exact ⟨hi,ho⟩
 have dB:∀ {i:Nat},i < n→rs[i]? = some (rs.getD i .any):=fun {i} hi=>by simp [List.getD,show i < rs.length by rw [S.len,hlen];exact hi]
 have cm:∀ i,i < n→∀ o,l[i]? = some o→∀ t∈o.looksAt l.toArray,∀ j,j < n→∀ q,l[j]? = some q→q.dst=some t→Region.waitsFor .any l.toArray i j=true∧j < i:=by
  intro i hi o ho;have h:=List.all_eq_true.1 a_ i (List.mem_range.2 hi);simp only [List.getElem?_toArray,ho,Bool.and_eq_true] at h;have eC:∀ e∈o.after,Region.binds .any e=true→e.on < i:=fun e he hb=>by
   have h1:=Array.all_eq_true'.1 h.2 e he;simp only [hb,Bool.not_true,Bool.false_or,decide_eq_true_eq] at h1;exact h1
  intro t ht j hj q hq aA;have h1:=List.all_eq_true.1 (List.all_eq_true.1 h.1 t ht) j (List.mem_range.2 hj);simp only [hq,Option.bind_some,aA,bne_self_eq_false,Bool.false_or] at h1;refine ⟨h1,?_⟩;obtain ⟨o',aJ,e,he,hb,cf⟩:=Region.waitsFor_spec h1;have:o'=o:=Option.some.inj (aJ.symm.trans (by simpa using ho));subst this;rw [←cf];exact eC e he hb
 have w8:∀ c d,c < n→d < c→bf c=true→bf d=true→Region.waitsFor .any l.toArray c d=true:=fun c d hc Db h1 h2=>by
  have:=List.all_eq_true.1 hC c (List.mem_range.2 hc);simp only [h1,Bool.not_true,Bool.false_or] at this;have:=List.all_eq_true.1 this d (List.mem_range.2 Db);simpa [h2] using this
 have aO:∀ {i j:Nat} {q:Oper} {t:Nat},j < i→i≤n→l[j]? = some q→q.dst=some t→lkp (aH st ((l.take n).take i) (rs.take i)).s t=rs.getD j .any:=fun {i j q t} hj hi hq ht=>
  ma ((l.take n).take i) (rs.take i) st t j q (rs.getD j .any) (ly _ _ c_) (by rw [List.getElem?_take_of_lt hj];exact bb (by omega) hq) (by rw [List.getElem?_take_of_lt hj];exact dB (by omega)) ht
 have aI:∀ {i t:Nat},(∀ j q,j < n→l[j]? = some q→q.dst≠some t)→lkp (aH st ((l.take n).take i) (rs.take i)).s t=lkp st.s t:=fun {i t} ho=>
  lz _ _ _ _ fun q hq he=>by
   obtain ⟨j,hj⟩:=List.mem_iff_getElem?.1 (List.mem_of_mem_take hq);obtain ⟨h1,h2⟩:=iR hj;exact ho j q h1 h2 he
 have dx:∀ {j:Nat} {q:Oper} {d:Nat},j < n→l[j]? = some q→q.dst=some d→bh st.h.length 5 (rs.getD j .any)=true:=fun {j q d} hj hq aA=>by
  cases hc:bf j
  ·exact (S.plain j q _ (by rw [Nat.zero_add];exact hc) (bb hj hq) (dB hj)).2.1 d aA
  ·obtain ⟨pid,av,fz,h1,_,h2,_⟩:=S.chain j q (by rw [Nat.zero_add];exact hc) (bb hj hq);rw [dB hj] at h1;rw [Option.some.inj h1];unfold ri;split
   ·rename_i hf;exact h2 hf
   ·rfl
 refine wp_region_any hm ?_;refine qu (Inv:=fun listed a w=>HeadInv .any l.toArray n listed∧∃ (k:Nat) (p:Pl) (s:List (Nat×AV)),k≤n∧(∀ c,c < n→bf c=true→(listed.getD c false=true↔c < k))∧Rel M0 w0 N p ⟨s,st.h++Xs k⟩ a w ∧
   (∀ (j:Nat) (q:Oper) (d:Nat),j < n→listed.getD j false=true→l[j]? = some q→q.dst=some d→rs.getD j .any = .any∨lkp s d=rs.getD j .any) ∧
   (∀ t,(∀ j q,j < n→l[j]? = some q→q.dst≠some t)→lkp s t=lkp st.s t)∧(∀ t,lkp (dL k) t≠.any→lkp s t=lkp (dL k) t)) hB (fun _ _ _ inv=>inv.1) ?_ ?_ _ _ _ _ ?_ (by simp)
 ·rintro listed a w i o ⟨head,k,p,s,hk,eV,R,S1,S2,S3⟩ hi ba ho ep;have aJ:l[i]? = some o:=by simpa using ho
  obtain ⟨_,o2,jX,cG⟩:=mem_ready.1 hi;have:o2=o:=Option.some.inj (jX.symm.trans ho);subst this;have bB:∀ j,Region.waitsFor .any l.toArray i j=true→listed.getD j false=true:=by
   intro j hj;obtain ⟨o3,kP,e,he,hb,cf⟩:=Region.waitsFor_spec hj;have:o3=o2:=Option.some.inj (kP.symm.trans ho);subst this;rw [←cf];exact cG e he hb
  have cj:∀ t∈o2.looksAt l.toArray,lkp (aH st ((l.take n).take i) (rs.take i)).s t = .any∨(lkp (aH st ((l.take n).take i) (rs.take i)).s t=lkp s t∧bh st.h.length 5 (lkp s t)=true):=fun t ht=>by
   by_cases hex:∃ (j:Nat) (q:Oper),j < n∧l[j]? = some q∧q.dst=some t
   ·obtain ⟨j,q,hj,hq,aA⟩:=hex;obtain ⟨h1,h2⟩:=cm i ba o2 aJ t ht j hj q hq aA;rw [aO h2 (by omega) hq aA];rcases S1 j q t hj (bB j h1) hq aA with this|this
    ·exact .inl this
    ·exact .inr ⟨this.symm,by rw [this];exact dx hj hq aA⟩
   ·have bg:∀ j q,j < n→l[j]? = some q→q.dst≠some t:=fun j q hj hq he=>hex ⟨j,q,hj,hq,he⟩;rw [aI bg,S2 t bg];exact .inr ⟨rfl,pH hs t⟩
  have bW:∀ {j:Nat} {q:Oper} {d d':Nat},j < n→j≠i→l[j]? = some q→q.dst=some d→o2.dst=some d'→d'≠d:=fun {j q d d'} hj cq hq aA dC he=>by
   subst he;exact cq (mK c_ (bb hj hq) (bb ba aJ) aA dC)
  cases eg:bf i
  ·obtain ⟨aj,nI,_,_⟩:=S.plain i o2 (rs.getD i .any) (by rw [Nat.zero_add];exact eg) (bb ba aJ) (dB ba);have fin:∀ v w',V1 w' (Mof M0 (st.h++Xs k) p) st.h p (rs.getD i .any) v→Below w.heap.size w w'→(fun listed a w=>HeadInv .any l.toArray n listed∧∃ (k:Nat) (p:Pl) (s:List (Nat×AV)),k≤n∧(∀ c,c < n→bf c=true→(listed.getD c false=true↔c < k))∧Rel M0 w0 N p ⟨s,st.h++Xs k⟩ a w ∧
     (∀ (j:Nat) (q:Oper) (d:Nat),j < n→listed.getD j false=true→l[j]? = some q→q.dst=some d→rs.getD j .any = .any∨lkp s d=rs.getD j .any) ∧
     (∀ t,(∀ j q,j < n→l[j]? = some q→q.dst≠some t)→lkp s t=lkp st.s t)∧(∀ t,lkp (dL k) t≠.any→lkp s t=lkp (dL k) t)) (listed.setIfInBounds i true) (a.put o2.dst v) w':=fun v w' hv hb=>by
    have R':=(R.later hb).put (d:=o2.dst) (eZ (List.all_eq_true.1 hN o2 (List.mem_of_getElem? aJ))) (V1.long hv);have cI:(VS.put ⟨s,st.h++Xs k⟩ o2.dst (rs.getD i .any))=⟨(VS.put ⟨s,st.h++Xs k⟩ o2.dst (rs.getD i .any)).s,st.h++Xs k⟩:=by cases o2.dst<;>rfl
    rw [cI] at R';refine ⟨head.set hi ba,k,p,_,hk,fun c hc cK=>?_,R',fun j q d hj hl hq aA=>?_,fun t ht=>?_,fun t ht=>?_⟩
    ·have aq:i≠c:=fun e=>by rw [←e,eg] at cK;cases cK
     rw [getD_set_ne false aq];exact eV c hc cK
    ·rw [fL];by_cases cq:j=i
     ·subst cq;have:q=o2:=Option.some.inj (hq.symm.trans aJ);subst this;rw [if_pos aA];exact .inr rfl
     ·rw [if_neg fun e=>bW hj cq hq aA e rfl];rw [getD_set_ne false (Ne.symm cq)] at hl;exact S1 j q d hj hl hq aA
    ·rw [fL,if_neg (ht i o2 ba aJ)];exact S2 t ht
    ·obtain ⟨c,q,h1,h2,h3,h4⟩:=S.dom e2 k (by rw [hlen];exact hk) t ht;obtain ⟨h5,h6⟩:=iR h3;rw [fL,if_neg fun e=>bW h5 (fun e=>by rw [e,eg] at h2;cases h2) h6 h4 e rfl];exact S3 t ht
   have bx:dt P st.h (ev (aH st ((l.take n).take i) (rs.take i))) o2.op (rs.getD i .any)→gives P o2 a w fun v w''=>V1 w'' (Mof M0 (st.h++Xs k) p) st.h p (rs.getD i .any) v∧Below w.heap.size w w'':=by
    intro hg;refine nC (R.short_objs hh) R.mok R.h0 R.glob (fun _ _ hb=>.inl hb) (fun x hx=>?_) hg;cases x with
    | tmp t=>
     show V1 _ _ _ _ (lkp (aH st ((l.take n).take i) (rs.take i)).s t) _;rcases cj t (List.mem_append_left _ (List.mem_filterMap.2 ⟨.tmp t,by simpa using hx,rfl⟩)) with h1|⟨h1,h2⟩
     ·rw [h1];exact .base _ _ (.any _)
     ·rw [h1];exact V1.short (R.slots t) h2
    | const v=>exact .base _ _ (.lit v)
    | global g=>exact .base _ _ (R.evalG g)
    | func f=>exact .base _ _ (.lit _)
   have hy:=fun j=>nv (ops:=l) (j:=j) R hN;have bj:∀ (j:Nat) (want:Bool) (v:Value),o2.guard=some (j,want)→cV l (aH st ((l.take n).take i) (rs.take i)) j = .lit v→cV l ⟨s,st.h++Xs k⟩ j = .lit v:=by
    intro j want v hg hv;unfold cV at hv ⊢;cases hj:l[j]? with
    | none=>simpa [hj] using hv
    | some q=>
     cases hq:q.dst with
     | none=>simpa [hj,hq] using hv
     | some d=>
      have cH:d∈o2.looksAt l.toArray:=by
       unfold Oper.looksAt;refine List.mem_append_right _ ?_;simp [hg,hj,hq]
      simp only [hj,hq] at hv ⊢;rcases cj d cH with h1|⟨h1,_⟩
      ·rw [h1] at hv;cases hv
      ·rw [←h1];exact hv
   unfold wpOp;simp only [ho];unfold jB at aj;split at aj
   ·rename_i hg;rw [if_pos (by simp [Region.wanted,hg])];rw [ea] at aj;exact Or.inl (iS (bx aj) rfl fun v w' hv=>fin v w' hv.1 hv.2)
   ·rename_i j want hg;split at aj
    ·rename_i b hb;have dU:=(hy j).1 b (bj j want _ hg hb);split at aj
     ·rename_i hw;subst hw;rw [if_pos (by simp [Region.wanted,hg,dU])];rw [ea] at aj;exact Or.inl (iS (bx aj) rfl fun v w' hv=>fin v w' hv.1 hv.2)
     ·rename_i hw;rw [if_neg (by simpa [Region.wanted,hg,dU] using hw)];exact fin undef w (by rw [aj];exact .base _ _ (.lit _)) (Below.refl _ _)
    ·rename_i us hb;have dU:=(hy j).2 us (bj j want _ hg hb);rw [if_neg (by simp [Region.wanted,hg,dU])];exact fin undef w (by rw [aj];exact .base _ _ (.lit _)) (Below.refl _ _)
    ·exact aj.elim
  ·obtain ⟨pid,av,fz,hres,⟨mF,Dc,cQ,kv⟩,zF,bI⟩:=S.chain i o2 (by rw [Nat.zero_add];exact eg) (bb ba aJ);rw [dB ba] at hres;replace hres:=Option.some.inj hres
   have jH:k≤i:=by
    rcases Nat.lt_or_ge i k with h1|h1
    ·have h2:=(eV i ba eg).2 h1;rw [getD_both ep] at h2;cases h2
    ·exact h1
   have lp:∀ c,k≤c→c < k+(i - k)→bf c=false:=fun c h1 h2=>by
    cases cK:bf c
    ·rfl
    ·have:=bB c (w8 i c ba (by omega) eg cK);have:=(eV c (by omega) cK).1 this;omega
   obtain ⟨hX,gg⟩:=S.same (k:=k) (i - k) (by rw [hlen];omega) lp;rw [show k+(i - k)=i by omega] at hX gg;rw [hX,gg] at kv;rw [gg] at bI;have hv:=kv s (fun t ht aq=>by
    rw [ea] at *;rcases qA (dL k) (aH st ((l.take n).take i) (rs.take i)).s t with h1|h1
    ·rw [h1] at aq ⊢;exact S3 t aq
    ·rw [h1] at aq ⊢;rcases cj t (List.mem_append_left _ (List.mem_filterMap.2 ⟨.tmp t,by simpa using ht,rfl⟩)) with h2|⟨h2,_⟩
     ·exact absurd h2 aq
     ·exact h2.symm)
   rw [ea] at hv;rw [ea] at cQ;unfold wpOp;simp only [ho];rw [if_pos (by simp [Region.wanted,mF])];refine Or.inl (xy R (List.all_eq_true.1 hN o2 (List.mem_of_getElem? aJ)) hv fun p' aL a' w' R' he=>?_);replace R':=he _ _ _ _ _ _ R'
   have oC:∀ {t:Nat},(∀ d,o2.dst=some d→d≠t)→bh st.h.length 5 (lkp s t)=true→lkp (nb o2.dst av pid s) t=lkp s t:=fun {t} aq hid=>Im aq cQ hid;refine ⟨head.set hi ba,i+1,p',_,by omega,fun c hc cK=>?_,R',fun j q d hj hl hq aA=>?_,fun t ht=>?_,fun t ht=>?_⟩
   ·by_cases mV:i=c
    ·subst mV;have bz:i < listed.size:=by rw [head.size];simpa using (by omega:i < l.length)
     simp [bz]
    ·rw [getD_set_ne false mV];rcases Nat.lt_or_ge c i with h1|h1
     ·have:=bB c (w8 i c ba h1 eg cK);exact ⟨fun _=>by omega,fun _=>this⟩
     ·have:=eV c hc cK;exact ⟨fun h=>by have:=this.1 h;omega,fun h=>by omega⟩
   ·by_cases cq:j=i
    ·subst cq;have:q=o2:=Option.some.inj (hq.symm.trans aJ);subst this;rw [hres];unfold ri;split
     ·refine .inr ?_;unfold nb;rw [aA];simp [lkp]
     ·exact .inl rfl
    ·rw [getD_set_ne false (Ne.symm cq)] at hl;rcases S1 j q d hj hl hq aA with my|my
     ·exact .inl my
     ·refine .inr ?_;rw [oC (fun d' dC=>bW hj cq hq aA dC) (by rw [my];exact dx hj hq aA)];exact my
   ·rw [oC (fun d' dC he=>ht i o2 ba aJ (by rw [dC,he])) (by rw [S2 t ht];exact pH hs t)];exact S2 t ht
   ·rw [bI] at ht ⊢;unfold oD at ht ⊢;by_cases hf:fz=true
    ·rw [if_pos hf] at ht ⊢;cases pid with
     | some _=>exact absurd rfl ht
     | none=>
      simp only at ht ⊢;obtain ⟨c,q,g1,g2,g3,g4⟩:=S.dom e2 k (by rw [hlen];omega) t ht;obtain ⟨g5,g6⟩:=iR g3;unfold nb;cases dC:o2.dst with
      | none=>simp only [nc];exact S3 t ht
      | some d=>
       simp only [lkp,nc];rw [if_neg (bW g5 (by omega) g6 g4 dC)];exact S3 t ht
    rw [if_neg hf] at ht ⊢;unfold nf at ht ⊢;unfold nb;cases dC:o2.dst with
    | none=>
     simp only [dC] at ht ⊢;rw [Dc dC];exact S3 t ht
    | some d=>
     simp only [dC] at ht ⊢;by_cases gx:d=t
     ·simp [lkp,gx]
     ·cases pid with
      | some _=>simp [lkp,gx] at ht
      | none=>
       simp only [lkp,gx,if_false,nc] at ht ⊢;exact S3 t ht
 ·rintro listed a w ⟨head,k,p,s,hk,eV,R,S1,S2,S3⟩ aE;have lp:∀ c,k≤c→c < k+(n - k)→bf c=false:=fun c h1 h2=>by
   cases cK:bf c
   ·rfl
   ·have:=(eV c (by omega) cK).1 (aE c (by omega));omega
  obtain ⟨hX,gg⟩:=S.same (k:=k) (n - k) (by rw [hlen];omega) lp;rw [show k+(n - k)=n by omega] at hX gg;rw [hX,gg] at hK;have gW:aH st (l.take n) rs=aH st ((l.take n).take n) (rs.take n):=by
   rw [List.take_of_length_le (l:=l.take n) (by rw [hlen];exact Nat.le_refl _),List.take_of_length_le (l:=rs) (by rw [S.len,hlen];exact Nat.le_refl _)]
  have R':=R.weak (s':=dL k++(aH st (l.take n) rs).s) fun t=>by
   show lkp (dL k++(aH st (l.take n) rs).s) t=lkp s t∨_;rcases qA (dL k) (aH st (l.take n) rs).s t with h1|h1
   ·rw [h1];by_cases aq:lkp (dL k) t = .any
    ·exact .inr aq
    ·exact .inl (S3 t aq).symm
   ·rw [h1,gW];by_cases hex:∃ (j:Nat) (q:Oper),j < n∧l[j]? = some q∧q.dst=some t
    ·obtain ⟨j,q,hj,hq,aA⟩:=hex;rw [aO hj (Nat.le_refl _) hq aA];rcases S1 j q t hj (aE j hj) hq aA with h5|h5
     ·exact .inr h5
     ·exact .inl h5.symm
    ·have bg:∀ j q,j < n→l[j]? = some q→q.dst≠some t:=fun j q hj hq he=>hex ⟨j,q,hj,hq,he⟩;rw [aI bg,S2 t bg];exact .inl rfl
  have ia:(l.drop n).all (cU N)=true:=List.all_eq_true.2 fun q hq=>List.all_eq_true.1 hN q (List.mem_of_mem_drop hq);exact l9 (ow:=ow) hN (fun p st a w R h=>⟨st,p,R,h⟩) (l.drop n) p _ _ w ia R' hK
 ·refine ⟨⟨by simp,fun j oj _ hl=>(by rw [getD_replicate_false] at hl;cases hl),fun t _ ht=>getD_in (by simpa using ht) (getD_replicate_false _ _)⟩,0,p0,st.s,Nat.zero_le _,fun c _ _=>⟨fun hl=>(by rw [getD_replicate_false] at hl;cases hl),fun h=>absurd h (Nat.not_lt_zero c)⟩,?_,fun j q d _ hl=>(by rw [getD_replicate_false] at hl;cases hl),fun _ _=>rfl,fun t ht=>?_⟩
  ·rw [e1,List.append_nil];exact R0.later (Below.refl _ _).drew
  ·rw [e2] at ht;exact absurd rfl ht
end
section
variable {P:Program} {ow:List Nat} {ops l:List Oper} {o:Oper} {st:VS} {K:VS→Prop}
theorem aa (h:K st) : dS P ow ops [] st K:=h
theorem ab (h:∀ Y:VS→Prop,(∀ st,dS P ow ops l st K→Y st)→VOp P ow ops o st Y) : dS P ow ops (o::l) st K:=h _ fun _ h=>h
theorem aT (h:K st) : mI P ops [] st K:=h
theorem aU (h:∀ Y:VS→Prop,(∀ st,mI P ops l st K→Y st)→m_ P ops o st Y) : mI P ops (o::l) st K:=h _ fun _ h=>h
theorem iu {x:Int} (h1 : -9223372036854775808≤x) (h2:x≤9223372036854775807) : IntKind.i64.wrap x=x:=IntWalk.i64_in _ (by omega)
end
attribute [go_sem] BZ B9 dsl yX yW wu y_ jL uU oR Value.oneCell' Cg exists_eq_left' VOp VDo m_ zA cV jN p7 zf ev VS.put lkp dt pf za mE se fY yO isK wg nS we yN BY unA yP yQ yR wj yS yT tS j_ y4 pd yZ qO pb cN y7 Cb Cc Cd e_ qQ jn nW sj fE jD mn cJ purge tV qS jM fZ lA sR Di pt rv aF qq bh oN leS leO leH Le
abbrev I (n:Int) : AV:=.lit (.int .i64 n)
abbrev B (b:Bool) : AV:=.lit (.bool b)
abbrev S (b:ByteArray) : AV:=.lit (.string b)
attribute [go_sem] nb nc nf oD ri sOK hOK
section
variable {P:Program} {ow:List Nat} {ops:List Oper} {bf:Nat→Bool} {o:Oper} {l:List Oper} {i:Nat} {T:VS} {cs:List (Nat×AV)} {X:Hp} {K:VS→Prop}
def xf (n:Nat) (d:Option Tmp) (s:List (Nat×AV)) : Bool:=match d with|some d=>bh n 5 (lkp s d)|none=>true
attribute [go_sem] xf
theorem ux (h:K ⟨cs++T.s,T.h++X⟩) : kH P ow ops bf [] i T cs X K:=h
theorem lY (hc:bf i=false) (h:∀ Y:VS→Prop,(∀ T',xf T.h.length o.dst T'.s=true→kH P ow ops bf l (i+1) T' cs X K→Y T')→m_ P ops o T Y) : kH P ow ops bf (o::l) i T cs X K:=by
 unfold kH;rw [if_neg (by rw [hc];simp)];refine h _ fun T' h1 h2=>⟨fun d hd=>?_,h2⟩
 unfold xf at h1;rw [hd] at h1;exact h1
theorem PT {K K':VS→Prop} {st:VS} (h:VDo P ow o st K) (hk:∀ aL,K aL→K' aL) : VDo P ow o st K':=by
 unfold VDo at h ⊢;split
 ·rename_i aL he;rw [he] at h;exact hk _ h
 ·rename_i he;rw [he] at h;simp only at h;split
  ·rename_i aL he;rw [he] at h;exact hk _ h
  ·rename_i he;rw [he] at h;simp only at h;split
   ·rename_i c d hc;rw [hc] at h;obtain ⟨e,sz,nl,es,h1,h2⟩:=h;exact ⟨e,sz,nl,es,h1,hk _ h2⟩
   ·rename_i hc;rw [hc] at h;obtain ⟨r,h1,h2⟩:=h;exact ⟨r,h1,hk _ h2⟩
theorem oH (X':Hp) (pid:Option Nat) (av:AV) (hc:bf i=true) (h1:o.guard=none∧(o.dst=none→pid=none)∧∀ id,pid=some id→T.h.length≤id)
  (h2:∀ s2,(∀ t,Operand.tmp t∈o.op.operands→lkp (cs++T.s) t≠.any→lkp s2 t=lkp (cs++T.s) t)→VDo P ow o ⟨s2,T.h++X⟩ fun aL=>aL=Dm o.dst av pid s2 (T.h++X'))
  (h3:kH P ow ops bf l (i+1) (T.put o.dst .any) (nf o.dst av pid cs) X' K) : kH P ow ops bf (o::l) i T cs X K:=by
 unfold kH;rw [if_pos hc];exact ⟨X',pid,av,false,⟨⟨h1.1,h1.2.1,h1.2.2,fun s2 cL=>PT (h2 s2 cL) fun aL e=>by rw [e];exact fun _ _ _ _ _ _ R=>R⟩,fun h=>by cases h⟩,h3⟩
theorem zI (X':Hp) (pid:Option Nat) (av:AV) (hc:bf i=true) (h1:o.guard=none∧(o.dst=none→pid=none)∧∀ id,pid=some id→T.h.length≤id) (PU:bh T.h.length 5 av=true)
  (h2:∀ s2,(∀ t,Operand.tmp t∈o.op.operands→lkp (cs++T.s) t≠.any→lkp s2 t=lkp (cs++T.s) t)→VDo P ow o ⟨s2,T.h++X⟩ fun aL=>Dn aL (Dm o.dst av pid s2 (T.h++X')))
  (h3:kH P ow ops bf l (i+1) (T.put o.dst av) (oD true o.dst av pid cs) X' K) : kH P ow ops bf (o::l) i T cs X K:=by
 unfold kH;rw [if_pos hc];exact ⟨X',pid,av,true,⟨⟨h1.1,h1.2.1,h1.2.2,h2⟩,fun _=>PU⟩,h3⟩
end
section
variable {P:Program} {M0:Nat→Nat→Prop} {w0:Bas} {N:Nm} {p:Pl} {st:VS} {a:Act} {w:World} {Q:Exit→VS→Prop}
theorem uz {h:Hp} {id i:Nat} {ob:Ob} (hi:(h.set id none)[i]? = some (some ob)) : i≠id∧h[i]? = some (some ob):=by
 by_cases aq:i=id
 ·subst aq;by_cases hl:i < h.length
  ·rw [List.getElem?_set_self hl] at hi;simp at hi
  ·rw [List.getElem?_eq_none (by simp;omega)] at hi;simp at hi
 ·rw [List.getElem?_set_ne (fun h=>aq h.symm)] at hi;exact ⟨aq,hi⟩
theorem Mof.drop {h:Hp} {p:Pl} {id b j:Nat} (hb:¬Mof M0 h p b j) : ¬Mof M0 (h.set id none) p b j:=fun eQ=>by
 rcases eQ with h|⟨i,ob,hi,hl,hp⟩
 ·exact hb (.inl h)
 ·exact hb (.inr ⟨i,ob,(uz hi).2,hl,hp⟩)
theorem Rel.reheap (R:Rel M0 w0 N p st a w) (h':Hp) (hl:st.h.length≤h'.length) (dn:∀ (i:Nat) (ob:Ob),h'[i]? = some (some ob)→cn ob=true→∃ ob',st.h[i]? = some (some ob')∧cn ob'=true)
  (sC:∀ (i e sz:Nat) (nl:Bool) (es:List (List AV)),i < st.h.length→h'[i]? = some (some (.arr e sz nl es))→st.h[i]? = some (some (.arr e sz nl es)))
  (dX:∀ (i e sz:Nat) (nl:Bool) (pe:Option Nat) (qs:List (List (List AV))),i < st.h.length→h'[i]? = some (some (.bag e sz nl pe qs))→st.h[i]? = some (some (.bag e sz nl pe qs)))
  (Dp:∀ (i:Nat) (ob:Ob),h'[i]? = some (some ob)→st.h[i]?≠some (some ob)→(∀ {av:AV} {v:Value},V1 w (Mof M0 st.h p) st.h p av v→V1 w (Mof M0 h' p) h' p av v)→ObOK w0 w (Mof M0 h' p) h' p i ob) :
  Rel M0 w0 N p ⟨st.s,h'⟩ a w∧∀ {av:AV} {v:Value},V1 w (Mof M0 st.h p) st.h p av v→V1 w (Mof M0 h' p) h' p av v:=by
 have hM:∀ b j,¬Mof M0 st.h p b j→¬Mof M0 h' p b j:=fun b j hb eQ=>by
  rcases eQ with h|⟨i,ob,hi,jC,hp⟩
  ·exact hb (.inl h)
  ·obtain ⟨ob',h1,h2⟩:=dn i ob hi jC;exact hb (.inr ⟨i,ob',h1,h2,hp⟩)
 have keep:∀ {av:AV} {v:Value},V1 w (Mof M0 st.h p) st.h p av v→V1 w (Mof M0 h' p) h' p av v:=fun hv=>
  hv.keep (Keeps.refl _ _) (fun b j _ h=>hM b j h) hl (fun _ _=>rfl) (fun i e sz nl es v cz he hv=>hv _ _ _ _ (sC _ _ _ _ _ cz he)) (fun i e sz nl pe qs v cz he hv=>hv _ _ _ _ _ (dX _ _ _ _ _ _ cz he)) (fun i k sz v cz hs=>hs.keep (fun e sz pe qs he=>⟨dX _ _ _ _ _ _ cz he,rfl,rfl,fun _ _ _ _=>rfl⟩) (Nat.le_refl _))
 refine ⟨⟨R.defers,R.size,R.below,R.m0,R.x0,fun i=>keep (R.slots i),fun i ob hi=>?_,fun i i' ob ob' hi bw jC Dq b j j' hO cw=>?_⟩,keep⟩
 ·by_cases hs:st.h[i]? = some (some ob)
  ·exact (R.objs i ob hs).keep (fun _=>⟨rfl,rfl⟩) (fun _ _ _ _ _=>rfl) (Nat.le_refl _) (fun hx=>hx.keep (Keeps.refl _ _) fun b j _=>hM b j) fun _ _ _ _ _ hx=>keep hx
  ·exact Dp i ob hi hs keep
 ·obtain ⟨o1,h1,l1⟩:=dn i ob hi jC;obtain ⟨o2,h2,l2⟩:=dn i' ob' bw Dq;exact R.inj i i' o1 o2 h1 h2 l1 l2 b j j' hO cw
theorem Rel.drop (R:Rel M0 w0 N p st a w) (id:Nat) : Rel M0 w0 N p ⟨st.s,st.h.set id none⟩ a w:=
 (R.reheap (st.h.set id none) (by simp) (fun i ob hi hl=>⟨ob,(uz hi).2,hl⟩) (fun i e sz nl es _ hi=>(uz hi).2) (fun i e sz nl pe qs _ hi=>(uz hi).2) fun i ob hi aq _=>absurd (uz hi).2 aq).1
theorem Rel.freeze (R:Rel M0 w0 N p st a w) {id t e sz:Nat} {nl:Bool} {es:List (List AV)} (ht:lkp st.s t = .osl id) (hi:st.h[id]? = some (some (.arr e sz nl es))) :
  Rel M0 w0 N p ⟨(t,.sl sz es)::st.s,st.h.set id none⟩ a w:=by
 have D:=R.drop id;refine ⟨D.defers,D.size,D.below,D.m0,D.x0,fun i=>?_,D.objs,D.inj⟩;by_cases hit:t=i
 ·subst hit;simp only [lkp,if_true];have hv:=R.slots t;rw [ht] at hv;obtain ⟨A,n,c,hu,hid,ho⟩:=hv.osl_inv;have hO:=ho _ _ _ _ hi;obtain ⟨o1,o2,o3⟩:=R.objs id _ hi;refine .base _ _ ?_;generalize a.tmps.getD t undef=v at hu hO;by_cases aK:nl=true
  ·rw [if_pos aK] at o3;unfold Osl at hO;rw [if_pos aK] at hO;obtain ⟨⟨A,hO⟩,_⟩:=hO;rw [hO,o3];exact .slNil _ _ _
  ·rw [if_neg aK] at o3;unfold Osl at hO;rw [if_neg aK] at hO;obtain ⟨cap,cur,e1,e2,e3,e4,e5⟩:=hO;obtain ⟨q1,cur',q2,q3,q4⟩:=o3;have cK:cur'=cur:=by
    rw [q2] at e2;injection e2 with e2
    injection e2 with e2
   subst cK;rw [e1];by_cases cI:es=[]
   ·subst cI;exact .slNil _ _ _
   ·have hb:p id < w.heap.size:=(Array.getElem?_eq_some_iff.1 e2).1;have jC:cn (.arr e sz nl es)=true:=by
     cases nl
     ·rfl
     ·exact absurd rfl aK
    have PV:∀ j,¬Mof M0 (st.h.set id none) p (p id) j:=by
     rintro j (h|⟨i,ob,bM,hl,hp⟩)
     ·exact R.h0 _ _ h (q1.1 j)
     ·obtain ⟨aq,Fw⟩:=uz bM;exact aq (R.inj i id ob _ Fw hi hl jC _ _ 0 hp (.inl rfl))
    have hM:∀ b j,¬Mof M0 st.h p b j→¬Mof M0 (st.h.set id none) p b j:=fun b j=>Mof.drop;have aD:∀ j,w.cell? ⟨p id,j,none⟩=cur'[j]?:=fun j=>by simp [World.cell?,e2]
    have hlen:∀ (k:Nat) (x:List AV),es[k]? = some x→x.length=sz:=fun k x hk=>(o2 k x hk).1;refine .sl sz es cap (p id) 0 (fun k j=>(cur'[k*sz+j]?).getD undef) cI hb (fun _ _ _ _=>PV _) e4 hlen (fun k x j c hk hj=>(o2 k x hk).2 c (List.mem_of_getElem? hj)) (fun k j hk hj=>?_) fun k x j c hk hj=>?_
    ·rw [Nat.zero_add,aD];have hx:es[k]? = some es[k]:=List.getElem?_eq_getElem hk;have b_:j < es[k].length:=by rw [hlen k _ hx];exact hj
     obtain ⟨u,hu,_⟩:=q4 k _ j _ hx (List.getElem?_eq_getElem b_);rw [hu];rfl
    ·obtain ⟨u,hu,hv⟩:=q4 k x j c hk hj;rw [hu];exact hv.keep (Keeps.refl _ _) (fun b j _ h=>hM b j h)
 ·simp only [lkp,if_neg hit];exact D.slots i
theorem pr {c:Code} (t id:Nat) {e sz:Nat} {nl:Bool} {es:List (List AV)} (ht:lkp st.s t = .osl id) (hi:st.h[id]? = some (some (.arr e sz nl es))) (h:VWp P M0 w0 N c Q ⟨(t,.sl sz es)::st.s,st.h.set id none⟩) : VWp P M0 w0 N c Q st:=
 fun hB p a w R=>h hB p a w (R.freeze ht hi)
theorem zJ {s:List (Nat×AV)} {H H':Hp} {d id e sz:Nat} {nl:Bool} {es:List (List AV)} (hi:H[id]? = some (some (.arr e sz nl es))) (hH:H'=H.set id none) : Dn ⟨(d,.osl id)::s,H⟩ ⟨(d,.sl sz es)::s,H'⟩:=by
 subst hH;intro M0 w0 N p a w R;refine (R.freeze (t:=d) (id:=id) (by simp [lkp]) hi).weak (s':=(d,.sl sz es)::s) fun t=>.inl ?_;simp only [lkp];split<;>rfl
end
theorem VC.weak {P:Program} {f:FuncId} {args:List AV} {r r':AV} (h:VC P f args r) (hr:∀ (w:World) (M:Nat→Nat→Prop) (v:Value),V0 w M r v→V0 w M r' v) : VC P f args r':=
 ⟨h.1,fun w M vs hM hl hv=>(h.2 w M vs hM hl hv).mono fun _ _ ⟨v,he,hb,h0⟩=>⟨v,he,hb,hr _ _ _ h0⟩⟩
theorem V0.nilSl {w:World} {M:Nat→Nat→Prop} {v:Value} (h:V0 w M (.lit (.slice none 0 0)) v) (sz:Nat) : V0 w M (.sl sz []) v:=by
 cases h with
 | lit=>exact .slNil _ _ _
def zL:AV→Bool
 | .lit (.bool b)=>b
 | _=>false
attribute [go_sem] zL
def IsB (b want:Bool) : Prop:=b=want
def IsG (x y:AV) : Prop:=x=y
theorem IsB.out {b want:Bool} (h:IsB b want) : b=want:=h
section
variable {P:Program} {M0:Nat→Nat→Prop} {w0:Bas} {N:Nm} {st:VS} {Q:Exit→VS→Prop}
theorem zX {c:Operand} {x y:Code} (hc:ev st c = .lit (.bool (zL (ev st c)))) (h1:IsB (zL (ev st c)) true→VWp P M0 w0 N x Q st) (h2:IsB (zL (ev st c)) false→VWp P M0 w0 N y Q st) : VWp P M0 w0 N (.cond c x y) Q st:=Dh hc h1 h2
theorem zM {ow:List Nat} {ops:List Oper} {o:Oper} {l:List Oper} {K:VS→Prop} {j:Nat} {want:Bool} (C:Prop) [Decidable C] (hg:o.guard=some (j,want)) (hc:C→cV ops st j = .lit (.bool want)) (hn:¬C→cV ops st j = .lit (.bool (!want))∨cV ops st j = .lit undef) (ht:jN P ow st o=none∧nD P st o=none∧oR ow o=none)
  {r:AV} (h:C→dt P st.h (ev st) o.op r) (hK:∀ Y:VS→Prop,(∀ st,dS P ow ops l st K→Y st)→Y (st.put o.dst (if C then r else .lit undef))) : dS P ow ops (o::l) st K:=by
 refine ab fun Y Z=>?_;have hk:=hK Y Z;unfold VOp;rw [hg];simp only;by_cases hC:C
 ·rw [hc hC];simp only [if_true];rw [if_pos hC] at hk;unfold VDo;rw [ht.1,ht.2.1,ht.2.2];exact ⟨r,h hC,hk⟩
 ·rw [if_neg hC] at hk;rcases hn hC with e|e
  ·rw [e];simp only;rw [if_neg (by cases want<;>simp)];exact hk
  ·rw [e];exact hk
theorem qi {ow:List Nat} {ops:List Oper} {o:Oper} {l:List Oper} {K:VS→Prop} {j:Nat} {want:Bool}  {b:Bool} {r:AV} (hg:o.guard=some (j,want)) (hb:IsG (cV ops st j) ((.lit (.bool b)))) (ht:jN P ow st o=none∧nD P st o=none∧oR ow o=none)
  (h:IsB b want→dt P st.h (ev st) o.op r) (hK:∀ Y:VS→Prop,(∀ st,dS P ow ops l st K→Y st)→Y (st.put o.dst (dQ b want r))) : dS P ow ops (o::l) st K:=by
 refine zM (r:=r) (b=want) hg (fun hC=>?_) (fun hC=>?_) ht (fun hC=>?_) fun Y Z=>?_
 ·rw [show cV ops st j=_ from hb,hC]
 ·rw [show cV ops st j=_ from hb];revert hC
  cases b<;>cases want<;>simp
 ·exact h hC
 ·exact hK Y Z
theorem DY {ow:List Nat} {ops:List Oper} {o:Oper} {l:List Oper} {K:VS→Prop} {j:Nat} {want:Bool} {c0 w0:Bool} {b:Bool} {r:AV} (hg:o.guard=some (j,want)) (hb:IsG (cV ops st j) ((dQ c0 w0 (.lit (.bool b))))) (ht:jN P ow st o=none∧nD P st o=none∧oR ow o=none)
  (h:IsB c0 w0→IsB b want→dt P st.h (ev st) o.op r) (hK:∀ Y:VS→Prop,(∀ st,dS P ow ops l st K→Y st)→Y (st.put o.dst (dQ c0 w0 (dQ b want r)))) : dS P ow ops (o::l) st K:=by
 refine zM (r:=r) (c0=w0∧b=want) hg (fun hC=>?_) (fun hC=>?_) ht (fun hC=>?_) fun Y Z=>?_
 ·rw [show cV ops st j=_ from hb];simp only [dQ,hC,if_true]
 ·rw [show cV ops st j=_ from hb];simp only [dQ];revert hC
  cases c0<;>cases w0<;>cases b<;>cases want<;>simp
 ·exact h hC.1 hC.2
 ·have hk:=hK Y Z;have e:(dQ c0 w0 (dQ b want r))=if c0=w0∧b=want then r else .lit undef:=by
   simp only [dQ];cases c0<;>cases w0<;>cases b<;>cases want<;>simp
  rw [e] at hk;exact hk
theorem DZ {ow:List Nat} {ops:List Oper} {o:Oper} {l:List Oper} {K:VS→Prop} {j:Nat} {want:Bool} {c0 w0:Bool} {c1 w1:Bool} {b:Bool} {r:AV} (hg:o.guard=some (j,want)) (hb:IsG (cV ops st j) ((dQ c0 w0 (dQ c1 w1 (.lit (.bool b)))))) (ht:jN P ow st o=none∧nD P st o=none∧oR ow o=none)
  (h:IsB c0 w0→IsB c1 w1→IsB b want→dt P st.h (ev st) o.op r) (hK:∀ Y:VS→Prop,(∀ st,dS P ow ops l st K→Y st)→Y (st.put o.dst (dQ c0 w0 (dQ c1 w1 (dQ b want r))))) : dS P ow ops (o::l) st K:=by
 refine zM (r:=r) (c0=w0∧c1=w1∧b=want) hg (fun hC=>?_) (fun hC=>?_) ht (fun hC=>?_) fun Y Z=>?_
 ·rw [show cV ops st j=_ from hb];simp only [dQ,hC,if_true]
 ·rw [show cV ops st j=_ from hb];simp only [dQ];revert hC
  cases c0<;>cases w0<;>cases c1<;>cases w1<;>cases b<;>cases want<;>simp
 ·exact h hC.1 hC.2.1 hC.2.2
 ·have hk:=hK Y Z;have e:(dQ c0 w0 (dQ c1 w1 (dQ b want r)))=if c0=w0∧c1=w1∧b=want then r else .lit undef:=by
   simp only [dQ];cases c0<;>cases w0<;>cases c1<;>cases w1<;>cases b<;>cases want<;>simp
  rw [e] at hk;exact hk
theorem D0 {ow:List Nat} {ops:List Oper} {o:Oper} {l:List Oper} {K:VS→Prop} {j:Nat} {want:Bool} {c0 w0:Bool} {c1 w1:Bool} {c2 w2:Bool} {b:Bool} {r:AV} (hg:o.guard=some (j,want)) (hb:IsG (cV ops st j) ((dQ c0 w0 (dQ c1 w1 (dQ c2 w2 (.lit (.bool b))))))) (ht:jN P ow st o=none∧nD P st o=none∧oR ow o=none)
  (h:IsB c0 w0→IsB c1 w1→IsB c2 w2→IsB b want→dt P st.h (ev st) o.op r) (hK:∀ Y:VS→Prop,(∀ st,dS P ow ops l st K→Y st)→Y (st.put o.dst (dQ c0 w0 (dQ c1 w1 (dQ c2 w2 (dQ b want r)))))) : dS P ow ops (o::l) st K:=by
 refine zM (r:=r) (c0=w0∧c1=w1∧c2=w2∧b=want) hg (fun hC=>?_) (fun hC=>?_) ht (fun hC=>?_) fun Y Z=>?_
 ·rw [show cV ops st j=_ from hb];simp only [dQ,hC,if_true]
 ·rw [show cV ops st j=_ from hb];simp only [dQ];revert hC
  cases c0<;>cases w0<;>cases c1<;>cases w1<;>cases c2<;>cases w2<;>cases b<;>cases want<;>simp
 ·exact h hC.1 hC.2.1 hC.2.2.1 hC.2.2.2
 ·have hk:=hK Y Z;have e:(dQ c0 w0 (dQ c1 w1 (dQ c2 w2 (dQ b want r))))=if c0=w0∧c1=w1∧c2=w2∧b=want then r else .lit undef:=by
   simp only [dQ];cases c0<;>cases w0<;>cases c1<;>cases w1<;>cases c2<;>cases w2<;>cases b<;>cases want<;>simp
  rw [e] at hk;exact hk
end
@[go_sem] theorem ti3:aY Tryz.prog 3=some ⟨5,1,8,0,1,0,.i64,[],[.int .i64 0]⟩:=by kernel_rfl
@[go_sem] theorem ti4:aY Tryz.prog 4=some ⟨6,1,1,0,1,0,.i64,[],[.bool false]⟩:=by kernel_rfl
@[go_sem] theorem ti5:aY Tryz.prog 5=some ⟨5,1,1,0,1,0,.u8,[],[.int .u8 0]⟩:=by kernel_rfl
@[go_sem] theorem ti9:aY Tryz.prog 9=some ⟨4,1,16,0,1,0,.i64,[],[.string ⟨#[]⟩]⟩:=by kernel_rfl
@[go_sem] theorem SC:aY Tryz.prog 20=some ⟨9,1,16,0,1,0,.i64,[],[.nilIface]⟩:=by kernel_rfl
@[go_sem] theorem SD:aY Tryz.prog 22=some ⟨1,1,24,61,4,0,.i64,[],[.slice none 0 0]⟩:=by kernel_rfl
@[go_sem] theorem SE:aY Tryz.prog 24=some ⟨3,3,40,0,1,0,.i64,[(0,1,false),(1,1,false),(2,1,false)],[.slice none 0 0,.int .i64 0,.int .i64 0]⟩:=by kernel_rfl
@[go_sem] theorem SF:aY Tryz.prog 25=some ⟨1,1,24,58,4,0,.i64,[],[.slice none 0 0]⟩:=by kernel_rfl
@[go_sem] theorem Pv:aY Tryz.prog 29=some ⟨1,1,24,62,1,0,.i64,[],[.slice none 0 0]⟩:=by kernel_rfl
@[go_sem] theorem SG:aY Tryz.prog 30=some ⟨1,1,24,148,3,0,.i64,[],[.slice none 0 0]⟩:=by kernel_rfl
@[go_sem] theorem Pr:aY Tryz.prog 32=some ⟨3,3,56,0,1,0,.i64,[(0,1,false),(1,1,false),(2,1,false)],[.slice none 0 0,.slice none 0 0,.int .i64 0]⟩:=by kernel_rfl
@[go_sem] theorem SH:aY Tryz.prog 33=some ⟨5,1,8,0,1,0,.i64,[],[.int .i64 0]⟩:=by kernel_rfl
@[go_sem] theorem PW:aY Tryz.prog 40=some ⟨1,1,24,45,3,0,.i64,[],[.slice none 0 0]⟩:=by kernel_rfl
@[go_sem] theorem PX:aY Tryz.prog 45=some ⟨3,3,32,0,1,0,.i64,[(0,1,false),(1,1,false),(2,1,false)],[.int .i64 0,.int .i64 0,.string ⟨#[]⟩]⟩:=by kernel_rfl
@[go_sem] theorem SI:aY Tryz.prog 46=some ⟨2,3,24,3,1,3,.i64,[],[.int .i64 0,.int .i64 0,.int .i64 0]⟩:=by kernel_rfl
@[go_sem] theorem SJ:aY Tryz.prog 58=some ⟨3,4,40,0,1,0,.i64,[(0,1,false),(1,1,false),(2,1,false),(3,1,false)],[.int .i64 0,.int .i64 0,.int .i64 0,.string ⟨#[]⟩]⟩:=by kernel_rfl
@[go_sem] theorem SL:aY Tryz.prog 61=some ⟨3,4,40,0,1,0,.i64,[(0,1,false),(1,1,false),(2,1,false),(3,1,false)],[.string ⟨#[]⟩,.int .i64 0,.int .i64 0,.bool false]⟩:=by kernel_rfl
@[go_sem] theorem rM:aY Tryz.prog 62=some ⟨1,1,24,9,1,0,.i64,[],[.slice none 0 0]⟩:=by kernel_rfl
@[go_sem] theorem SM:aY Tryz.prog 63=some ⟨1,1,24,67,3,0,.i64,[],[.slice none 0 0]⟩:=by kernel_rfl
@[go_sem] theorem SO:aY Tryz.prog 67=some ⟨3,3,32,0,1,0,.i64,[(0,1,false),(1,1,false),(2,1,false)],[.string ⟨#[]⟩,.int .i64 0,.int .i64 0]⟩:=by kernel_rfl
@[go_sem] theorem SQ:aY Tryz.prog 76=some ⟨1,1,24,167,4,0,.i64,[],[.slice none 0 0]⟩:=by kernel_rfl
@[go_sem] theorem SR:aY Tryz.prog 89=some ⟨8,1,8,0,1,0,.i64,[],[.nilFunc]⟩:=by kernel_rfl
@[go_sem] theorem SS:aY Tryz.prog 100=some ⟨3,2,16,0,1,0,.i64,[(0,1,false),(1,1,false)],[.int .i64 0,.int .i64 0]⟩:=by kernel_rfl
@[go_sem] theorem SU:aY Tryz.prog 124=some ⟨3,2,24,0,1,0,.i64,[(0,1,false),(1,1,false)],[.int .i64 0,.string ⟨#[]⟩]⟩:=by kernel_rfl
@[go_sem] theorem SV:aY Tryz.prog 128=some ⟨3,2,16,0,1,0,.i64,[(0,1,false),(1,1,false)],[.int .i64 0,.int .i64 0]⟩:=by kernel_rfl
@[go_sem] theorem SW:aY Tryz.prog 141=some ⟨7,1,8,146,7,0,.i64,[],[.pointer none]⟩:=by kernel_rfl
@[go_sem] theorem SX:aY Tryz.prog 144=some ⟨8,1,8,0,1,0,.i64,[],[.nilFunc]⟩:=by kernel_rfl
@[go_sem] theorem SY:aY Tryz.prog 146=some ⟨3,7,120,0,1,0,.i64,[(0,3,true),(3,3,true),(6,1,false)],[.slice none 0 0,.slice none 0 0,.int .i64 0,.slice none 0 0,.int .i64 0,.int .i64 0,.slice none 0 0]⟩:=by kernel_rfl
@[go_sem] theorem AH:aY Tryz.prog 148=some ⟨3,3,32,0,1,0,.i64,[(0,1,false),(1,1,false),(2,1,false)],[.string ⟨#[]⟩,.int .i64 0,.int .i64 0]⟩:=by kernel_rfl
@[go_sem] theorem SZ:aY Tryz.prog 150=some ⟨1,1,24,3,1,0,.i64,[],[.slice none 0 0]⟩:=by kernel_rfl
@[go_sem] theorem S6:aY Tryz.prog 155=some ⟨7,1,8,160,4,0,.i64,[],[.pointer none]⟩:=by kernel_rfl
@[go_sem] theorem S7:aY Tryz.prog 158=some ⟨10,1,8,0,1,0,.i64,[],[.map none]⟩:=by kernel_rfl
@[go_sem] theorem S8:aY Tryz.prog 160=some ⟨3,4,64,0,1,0,.i64,[(0,1,false),(1,1,false),(2,1,false),(3,1,false)],[.slice none 0 0,.map none,.slice none 0 0,.map none]⟩:=by kernel_rfl
@[go_sem] theorem S9:aY Tryz.prog 162=some ⟨8,1,8,0,1,0,.i64,[],[.nilFunc]⟩:=by kernel_rfl
@[go_sem] theorem S_:aY Tryz.prog 167=some ⟨3,4,40,0,1,0,.i64,[(0,1,false),(1,1,false),(2,1,false),(3,1,false)],[.string ⟨#[]⟩,.int .i64 0,.int .i64 0,.int .i64 0]⟩:=by kernel_rfl
@[go_sem] theorem Ta:aY Tryz.prog 169=some ⟨8,1,8,0,1,0,.i64,[],[.nilFunc]⟩:=by kernel_rfl
@[go_sem] theorem Tb:aY Tryz.prog 171=some ⟨3,2,24,0,1,0,.i64,[(0,1,false),(1,1,false)],[.string ⟨#[]⟩,.nilFunc]⟩:=by kernel_rfl
@[go_sem] theorem No:aY Tryz.prog 172=some ⟨2,12,144,171,2,6,.i64,[],[.string ⟨#[]⟩,.nilFunc,.string ⟨#[]⟩,.nilFunc,.string ⟨#[]⟩,.nilFunc,.string ⟨#[]⟩,.nilFunc,.string ⟨#[]⟩,.nilFunc,.string ⟨#[]⟩,.nilFunc]⟩:=by kernel_rfl
@[go_sem] theorem Tc:aY Tryz.prog 177=some ⟨1,1,24,171,2,0,.i64,[],[.slice none 0 0]⟩:=by kernel_rfl
@[go_sem] theorem Td:aY Tryz.prog 178=some ⟨8,1,8,0,1,0,.i64,[],[.nilFunc]⟩:=by kernel_rfl
@[go_sem] theorem Te:aY Tryz.prog 184=some ⟨10,1,8,0,1,0,.i64,[],[.map none]⟩:=by kernel_rfl
@[go_sem] theorem Tf:aY Tryz.prog 185=some ⟨8,1,8,0,1,0,.i64,[],[.nilFunc]⟩:=by kernel_rfl
@[go_sem] theorem Tg:aY Tryz.prog 208=some ⟨8,1,8,0,1,0,.i64,[],[.nilFunc]⟩:=by kernel_rfl
@[go_sem] theorem Th:aY Tryz.prog 210=some ⟨1,1,24,33,1,0,.i64,[],[.slice none 0 0]⟩:=by kernel_rfl
@[go_sem] theorem Ti:aY Tryz.prog 211=some ⟨1,1,24,5,1,0,.i64,[],[.slice none 0 0]⟩:=by kernel_rfl
@[go_sem] theorem Tj:aY Tryz.prog 212=some ⟨8,1,8,0,1,0,.i64,[],[.nilFunc]⟩:=by kernel_rfl
@[go_sem] theorem Tl:aY Tryz.prog 213=some ⟨8,1,8,0,1,0,.i64,[],[.nilFunc]⟩:=by kernel_rfl
@[go_sem] theorem Tm:aY Tryz.prog 221=some ⟨9,1,16,0,1,0,.i64,[],[.nilIface]⟩:=by kernel_rfl
@[go_sem] theorem Tn:aY Tryz.prog 233=some ⟨8,1,8,0,1,0,.i64,[],[.nilFunc]⟩:=by kernel_rfl
@[go_sem] theorem To:aY Tryz.prog 234=some ⟨7,1,8,167,4,0,.i64,[],[.pointer none]⟩:=by kernel_rfl
@[go_sem] theorem Tp:aY Tryz.prog 298=some ⟨8,1,8,0,1,0,.i64,[],[.nilFunc]⟩:=by kernel_rfl
@[go_sem] theorem Tq:qP Tryz.prog 158=some ((4,.i64),.int .i64 0):=by kernel_rfl
@[go_sem] theorem Tr:qP Tryz.prog 184=some ((4,.i64),.bool false):=by kernel_rfl
@[go_sem] theorem tg3:mX Tryz.prog 3=false:=by kernel_rfl
@[go_sem] theorem Ts:mX Tryz.prog 33=false:=by kernel_rfl
@[go_sem] theorem tg9:mX Tryz.prog 9=false:=by kernel_rfl
@[go_sem] theorem Tt:nR Tryz.prog 46=some [(0,5),(1,5),(2,5)]:=by kernel_rfl
@[go_sem] theorem Tu:nR Tryz.prog 128=some [(0,5),(1,5)]:=by kernel_rfl
@[go_sem] theorem Tv:nR Tryz.prog 100=some [(0,5),(1,5)]:=by kernel_rfl
@[go_sem] theorem Tw:nR Tryz.prog 58=some [(0,5),(1,5),(2,5),(3,4)]:=by kernel_rfl
@[go_sem] theorem Tx:nR Tryz.prog 45=some [(0,5),(1,5),(2,4)]:=by kernel_rfl
@[go_sem] theorem Ty:nR Tryz.prog 148=some [(0,4),(1,5),(2,5)]:=by kernel_rfl
@[go_sem] theorem Tz:nR Tryz.prog 167=some [(0,4),(1,5),(2,5),(3,5)]:=by kernel_rfl
@[go_sem] theorem TA:nR Tryz.prog 67=some [(0,4),(1,5),(2,5)]:=by kernel_rfl
def eJ (n:Int) : List AV:=[I n]
def bK (s:ByteArray) : List AV:=[S s]
def PY (p:Nat×Nat) : List AV:=[I p.1,I p.2]
attribute [go_sem] eJ bK PY
section
variable {P:Program} {w w':World} {M:Nat→Nat→Prop}
theorem V0.lit_inv {v u:Value} (h:V0 w M (.lit v) u) : u=v:=by cases h;rfl
theorem V0.of_lits (us:List Value) : V0 w M (.tup (us.map .lit)) (.tuple us.toArray):=
 .tup _ _ (by simp) fun i c u hc hu=>by
  obtain ⟨x,hx,rfl⟩:=ec hc;rw [hu] at hx;obtain rfl:=Option.some.inj hx;exact .lit u
theorem V0.sl_inv {α:Type} {F:α→List AV} {C:α→List Value} {sz:Nat} (hF:∀ x,F x=(C x).map .lit) {l:List α} {v:Value} (h:V0 w M (.sl sz (l.map F)) v) : ∃ A cap,v = .slice A l.length cap∧l.length≤cap∧Sl C sz w A l:=by
 generalize he:l.map F=es at h;cases h with
 | slNil _ A cap=>
  have:l=[]:=by simpa using he
  subst this;exact ⟨A,cap,rfl,Nat.zero_le _,Sl.nil _ _ _ _⟩
 | sl _ _ cap b o u aq hb hM dy aM h1 hc hv=>
  subst he;refine ⟨_,cap,by rw [List.length_map],by simpa using dy,fun _=>⟨b,o,rfl,fun k x hk j c hj=>?_⟩⟩;have db:k < l.length:=(List.getElem?_eq_some_iff.1 hk).1;have hx:(l.map F)[k]? = some (F x):=by simp [hk]
  have CO:(F x)[j]? = some (.lit c):=by rw [hF];simp [hj]
  have b_:j < sz:=by rw [←aM k _ hx];exact (List.getElem?_eq_some_iff.1 CO).1
  rw [hc k j (by simpa using db) b_];exact congrArg some (hv k _ j _ hx CO).lit_inv
theorem LY {f:FuncId} {a b r:AV} (hg:l8 P f=true) (h:∀ w M v1 v2,V0 w M a v1→V0 w M b v2→Calls P f #[v1,v2] w fun e w'=>∃ v,e = .returned v∧Below w.heap.size w w'∧V0 w' M r v) : VC P f [a,b] r:=
 ⟨hg,fun w M vs _ hl hv=>by
  match vs,hl with
  | [v1,v2],_=>
  exact h w M v1 v2 (hv 0 a v1 rfl rfl) (hv 1 b v2 rfl rfl)⟩
end
def inR (n lo hi:Int) : Bool:=decide (lo≤n)&&decide (n≤hi)
def unl (c:Bool) (e:Int) : Int:=if c then 0 else e
def fst:List Int→Int
 | []=>0
 | x::r=>if x≠0 then x else fst r
theorem lI {n lo hi:Int} : inR n lo hi=true↔lo≤n∧n≤hi:=by simp [inR]
def iY (i:Nat) (n:Int) : Bool:=
 (decide (97≤n)&&decide (n≤122)) || (decide (65≤n)&&decide (n≤90)) || (decide (i≠0)&&(decide (n=45) || (decide (48≤n)&&decide (n≤57))))
def ng (s:ByteArray) (n:Nat) : Bool:=(List.range n).all fun i=>iY i (kq s i).toNat
theorem DW (s:ByteArray) (n:Nat) : ng s (n+1)=(ng s n&&iY n (kq s n).toNat):=by
 simp [ng,List.range_succ]
theorem DX (s:ByteArray) {n m:Nat} (h:n < m) (ho:iY n (kq s n).toNat=false) : ng s m=false:=by
 unfold ng;rw [List.all_eq_false];exact ⟨n,by simpa using h,by simp [ho]⟩
def cu (s:ByteArray) : Bool:=decide (1≤s.size)&&decide (s.size≤12)&&ng s s.size
def kD (E:Nat→Int) : Nat→Nat→Nat×Int
 | _,0=>(0,0)
 | k,n+1=>if E k≠0 then (k,E k) else kD E (k+1) n
def Iz (a b:ByteArray) : Bool:=a.toList == b.toList
theorem M7 {a b:ByteArray} : Iz a b=true↔a=b:=by
 unfold Iz;rw [beq_iff_eq,E_,E_];constructor
 ·intro h;cases a;cases b;congr;exact Array.toList_inj.1 h
 ·exact fun h=>by rw [h]
end Go.Proofs.YtoibondihdhnoaaGreatDoor
