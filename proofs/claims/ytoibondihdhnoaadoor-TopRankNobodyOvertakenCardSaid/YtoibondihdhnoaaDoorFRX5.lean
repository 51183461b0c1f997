/- Texts in one: One element is appended to a row of a row of rows: of every program; no condition. -/
import Derived.Test.YtoibondihdhnoaaDoorFRX4
import Derived.ArgAppend
import Derived.Deep.LoopGhost
import Derived.Test.YtoibondihdhnoaaDoorFRX1
import Derived.Test.YtoibondihdhnoaaDoorProg
namespace Go.Proofs.YtoibondihdhnoaaDoor
open Go.RowKit
section
variable {P:Program}
theorem x1_ {w:World} {b o:Nat} {cur:Array Value} {t:TypeId} (v:Value) (h:w.heap[b]? = some (.cells cur t (0,0))) : (w.setCells b o [v]).heap[b]? = some (.cells (cur.setIfInBounds o v) t (0,0)):=by
 simp [World.setCells,World.setCell,Array.getElem?_modify,h]
theorem x2_ {w:World} {b o b':Nat} (v:Value) (h:b'≠b) : (w.setCells b o [v]).heap[b']? = w.heap[b']?:=by
 simp only [World.setCells,World.setCell,Array.getElem?_modify];rw [if_neg (Ne.symm h)]
theorem w0_ (w:World) (b o:Nat) (v:Value) : (w.setCells b o [v]).heap.size=w.heap.size:=by simp [World.setCells,World.setCell]
theorem a5o {w:World} {t ty e:TypeId} {i:TypeInfo} {z:Value} (ht:P.underlying t=some (.slice e)) (hi:P.info? e=some i) (hz:i.zero=some z) (hsz:i.size=1) (hzs:z.cells.size=1) (hby:i.bytes≤100000)
  {A:Option Addr} {n cap:Nat} {olds:List Value} (hA:A=none→n=0∧cap=0) (hlo:olds.length=n) (holds:∀ a0,A=some a0→∀ j u,olds[j]? = some u→w.cell? (a0.add j)=some u)
  {a:Addr} {c:Nat} {u0:Value} (hu:w.cell? (a.add 0)=some u0) (hg:cap < n+1) (hmax:n+1≤1000000000) :
  ∃ g cap' cur w',(Builtin.append_ #[t,t] ty #[.slice A n cap,.slice (some a) 1 c]).run P w = .ok (.slice (some ⟨g,0,none⟩) (n+1) cap') w'∧w.heap.size≤g∧g < w'.heap.size∧w'.heap[g]? = some (.cells cur e (0,0))∧n+1≤cap'∧cap'≤maxLen∧cur.size=cap' ∧
   (∀ j,j < n→cur[j]? = olds[j]?)∧cur[n]? = some u0∧Below w.heap.size w w':=by
 have hnews:∀ j u,[u0][j]? = some u→w.cell? (a.add j)=some u:=fun j u hj=>by
  cases j with
  | zero=>simp at hj;rw [←hj];exact hu
  | succ j=>simp at hj
 have hb48:(n+1)*i.bytes≤140737488355328:=by
  have:(n+1)*i.bytes≤1000000000*100000:=Nat.mul_le_mul hmax hby;omega
 cases A with
 | none=>
  obtain ⟨rfl,rfl⟩:=hA rfl;have hol:olds=[]:=List.eq_nil_of_length_eq_zero hlo;subst hol;have hr:=run_append_nil (P:=P) (w:=w) t ty e i z ht hi hz a 1 c [u0] (by simp [hsz]) hnews (by decide) (by decide) (by omega);have hge:=grownCap_ge w 1 0 e;have hcm:=grownCap_le_maxLen w 1 0 e (by decide);refine ⟨w.heap.size,grownCap w 1 0 e,_,_,hr,Nat.le_refl _,by simp,heap_alloc_new w.drew _,hge,hcm,?_,by simp,?_,?_⟩
  ·rw [Array.size_append,size_zeroCells,hzs];have:([u0].toArray).size=1:=rfl;omega
  ·rw [Array.getElem?_append_left (show 0 < ([u0].toArray).size from Nat.one_pos)];rfl
  ·exact ((Below.refl w.heap.size w).drew).alloc (Nat.le_refl _) _
 | some a0=>
  obtain ⟨v',w',hr,⟨hl,hrow⟩,hgr⟩:=run_append_arg_grows (P:=P) w t ty e i z 1 i.bytes ht hi hz hsz rfl hzs (by decide) a0 n cap olds (by omega) (holds a0 rfl) a 1 c [u0] (by simp) hnews hg (by simp only [maxLen];omega) hb48;rcases hrow with ⟨_,h0⟩|⟨g,cap',cur,rfl,hge,hgc,hnc,hcm,hcs,htk⟩
  ·omega
  ·have hat:∀ j,j < n+1→cur[j]? = (olds++[u0])[j]?:=fun j hj=>by
    rw [←htk,List.getElem?_take_of_lt (by omega),←Array.getElem?_toList]
   refine ⟨g,cap',cur,w',hr,hge,(Array.getElem?_eq_some_iff.1 hgc).1,hgc,hnc,hcm,by omega,fun j hj=>by rw [hat j (by omega),List.getElem?_append_left (by omega)],by rw [hat n (by omega),List.getElem?_append_right (by omega),hlo];simp,?_⟩;exact ⟨hgr.os,hgr.tape,hgr.output,hgr.size,fun b hb=>hgr.block b hb (by simp)⟩
theorem Bel.keepF {w0:Bas} {w w':World} (h:Bel w0 w) (hos:w'.os=w.os) (htp:w'.tape=w.tape) (hou:w'.output=w.output) (hk:Keeps (Fr w0) w w') : Bel w0 w':=
 ⟨hos.trans h.os,htp.trans h.tape,hou.trans h.output,Nat.le_trans h.size hk.size,fun b hlt hX=>(hk.block b (Nat.lt_of_lt_of_le hlt h.size) fun j hf=>hf.elim (fun h=>by omega) (hX j)).trans (h.keeps.block b hlt hX),
  fun hlt hX hc=>hk.cell (Nat.lt_of_lt_of_le hlt h.size) (fun hf=>hf.elim (fun h=>by omega) hX) (h.keeps.cell hlt hX hc)⟩
variable {M0:Nat→Nat→Prop} {w0:Bas} {N:Nm} {p:Pl} {st:VS} {a:Act} {w:World}
theorem Rel.bagPend {w':World} {p':Pl} {id k e sz d:Nat} {pend:Option Nat} {qs:List (List (List AV))} {es3:List (List AV)} {v:Value} {cur:Array Value} (R:Rel M0 w0 N p st a w) (hd:N.has d)
  (hi:st.h[id]? = some (some (.bag e sz false pend qs))) (_hk:k < qs.length) (hpe:pend=none∨pend=some k) (hcur:w.heap[p id]? = some (.cells cur e (0,0)))
  (hbx:∀ (i:Nat) (cs:List AV),st.h[i]? = some (some (.box cs))→∀ c∈cs,j4_ id 5 c=true)
  (hos:w'.os=w.os) (htp:w'.tape=w.tape) (hou:w'.output=w.output) (hK:Keeps (fun b j=>p.S id b j) w w')
  (hpb:∀ i,p' i=p i) (hpS:∀ i,i≠id→p'.S i=p.S i)
  (hS1:∀ b j,p'.S id b j→Fr w0 b j∧b < w'.heap.size) (hS2:∀ j,¬p'.S id (p id) j) (hS3:∀ (i:Nat) (ob:Ob),i≠id→st.h[i]? = some (some ob)→m8_ ob=true→∀ b j j',p.O i b j→¬p'.S id b j') (hS4:∀ b j,b < w.heap.size→p'.S id b j→p.S id b j)
  (hsp2:∀ (k':Nat) (v':Value),k' < qs.length→k'≠k→cur[k']? = some v'→Spare w p id sz v'→Spare w' p' id sz v')
  (hv0:V0 w' (Mof M0 (st.h.set id (some (.bag e sz false (some k) qs))) p') (.sl sz es3) v) (hsp:Spare w' p' id sz v) (hds:∀ (k':Nat) (v':Value),k' < qs.length→k'≠k→cur[k']? = some v'→Dist v v') :
  Rel M0 w0 N p' ⟨(d,.slw id k sz es3)::st.s.map (fun q=>(q.1,unW id q.2)),st.h.set id (some (.bag e sz false (some k) qs))⟩ (a.put (some d) v) w':=by
 obtain ⟨hsz0,hbag⟩:=R.objs id _ hi;rw [if_neg (by simp)] at hbag;obtain ⟨b1,b2,cur0,b3,b4,b5,b6⟩:=hbag;have:cur0=cur:=by rw [hcur] at b3;injection b3 with b3;injection b3 with b3;exact b3.symm
 subst this;have hid:=(List.getElem?_eq_some_iff.1 hi).1;have hlid:m8_ (Ob.bag e sz false pend qs)=true:=rfl;have hpe':∀ k',k'≠k→pend≠some k':=fun k' hn=>by rcases hpe with h|h<;>rw [h]<;>simp [Ne.symm hn]
 generalize hh2:st.h.set id (some (Ob.bag e sz false (some k) qs))=h2 at *;have hl2:h2.length=st.h.length:=by rw [←hh2];simp
 have h2id:h2[id]? = some (some (Ob.bag e sz false (some k) qs)):=by rw [←hh2];exact List.getElem?_set_self hid
 have h2o:∀ (i:Nat) (ob:Ob),i≠id→h2[i]? = some (some ob)→st.h[i]? = some (some ob):=fun i ob hn h=>by rwa [←hh2,List.getElem?_set_ne (Ne.symm hn)] at h
 have hObs:∀ {i b j},i≠id→(p'.O i b j↔p.O i b j):=fun {i b j} hn=>by unfold Pl.O;rw [hpb,hpS i hn]
 have hM:∀ b j,b < w.heap.size→¬Mof M0 st.h p b j→¬Mof M0 h2 p' b j:=fun b j hlt hn hm=>by
  rcases hm with hm|⟨i,o,hio,hlo,hO⟩
  ·exact hn (.inl hm)
  ·by_cases he:i=id
   ·subst he;rcases hO with hO|hO
    ·exact hn (.inr ⟨i,_,hi,hlid,.inl (by rw [←hpb];exact hO)⟩)
    ·exact hn (.inr ⟨i,_,hi,hlid,.inr (hS4 b j hlt hO)⟩)
   ·exact hn (.inr ⟨i,o,h2o i o he hio,hlo,(hObs he).1 hO⟩)
 have hkp:Keeps (Mof M0 st.h p) w w':=hK.mono fun b j _ hS=>.inr ⟨id,_,hi,hlid,.inr hS⟩;have hkF:Keeps (Fr w0) w w':=hK.mono fun b j _ hS=>(b1 b j (.inr hS)).1;have hne:∀ i o,i≠id→st.h[i]? = some (some o)→m8_ o=true→∀ b j,p.O i b j→b < w.heap.size→w'.heap[b]? = w.heap[b]?:=fun i o hn hio hlo b j hO hlt=>hK.block b hlt fun j' hS=>hn (R.inj i id o _ hio hi hlo hlid b j j' hO (.inr hS));have hlt:=(b1 (p id) 0 (.inl rfl)).2;have hpid:w'.heap[p id]? = w.heap[p id]?:=hK.block _ hlt b2;have hV0:∀ {x:AV} {u:Value},V0 w (Mof M0 st.h p) x u→V0 w' (Mof M0 h2 p') x u:=fun hx=>hx.keep hkp hM;have hV:∀ {x:AV} {u:Value},V1 w (Mof M0 st.h p) st.h p x u→j4_ id 5 x=true→V1 w' (Mof M0 h2 p') h2 p' x u:=fun {x u} hx hn=>
  V1.bag hkp hM (by omega) hpb (fun i e' sz' nl es' v' he hv=>by
   by_cases hidd:i=id
   ·subst hidd;rw [h2id] at he;cases he
   ·have hio:=h2o i _ hidd he;exact (hv _ _ _ _ hio).keep fun hnl hl=>hne i _ hidd hio (by rw [hnl];rfl) _ 0 (.inl rfl) hl) (fun i e' sz' nl pend' qs' v' he hv=>by
   by_cases hidd:i=id
   ·subst hidd;rw [h2id] at he;simp only [Option.some.injEq,Ob.bag.injEq] at he;obtain ⟨rfl,rfl,rfl,rfl,rfl⟩:=he;exact (hv _ _ _ _ _ hi).keep fun _ _=>hpid
   ·have hio:=h2o i _ hidd he;exact (hv _ _ _ _ _ hio).keep fun hnl hl=>hne i _ hidd hio (by rw [hnl];rfl) _ 0 (.inl rfl) hl) (fun i k' sz' v' hn _ hs=>hs.keep (fun e' sz'' pe' qs' he=>by
   have hio:=h2o i _ hn he;exact ⟨hio,hpb i,hpS i hn,fun b j hO hl=>hne i _ hn hio rfl b j hO hl⟩) hK.size) 5 x u hx hn
 have hU:∀ {x:AV} {u:Value},V1 w (Mof M0 st.h p) st.h p x u→V1 w' (Mof M0 h2 p') h2 p' (unW id x) u:=fun {x u} hx=>by
  by_cases hs:∃ i k sz es,x = .slw i k sz es
  ·obtain ⟨i,k',sz',es',rfl⟩:=hs;by_cases hn:i=id
   ·rw [show unW id (.slw i k' sz' es') = .sl sz' es' from if_pos hn];exact .base _ _ (hV0 hx.slw_inv.2.1)
   ·rw [show unW id (.slw i k' sz' es') = .slw i k' sz' es' from if_neg hn];exact hV hx (by simpa [j4_] using hn)
  ·have e:unW id x=if j4_ id 5 x=true then x else .any:=by cases x<;>first|rfl|exact absurd ⟨_,_,_,_,rfl⟩ hs
   rw [e];split
   ·rename_i hn;exact hV hx hn
   ·exact .base _ _ (.any _)
 refine ⟨R.defers,R.size.put hd,R.below.keepF hos htp hou hkF,R.m0,R.x0,fun i=>?_,fun i o hio=>?_,fun i i' o o' hio hio' hlo hlo' x j j' hO hO'=>?_⟩
 ·rw [k9_ a d _ i (R.size.lt hd)];simp only [lkp];split
  ·refine .slw id k sz es3 v (by omega) hv0 fun e' sz' pe' qs' he=>?_;rw [h2id] at he;simp only [Option.some.injEq,Ob.bag.injEq] at he;obtain ⟨rfl,rfl,_,rfl,rfl⟩:=he;refine ⟨rfl,hsp,by rw [hpb];exact Nat.lt_of_lt_of_le hlt hK.size,fun cur' e'' k' v' hc hk' hne' _ hv'=>?_⟩;rw [hpb,hpid,hcur] at hc;injection hc with hc
   injection hc with hc _ _
   subst hc;exact hds k' v' hk' hne' hv'
  ·rw [s5_];exact hU (R.slots i)
 ·by_cases hidd:i=id
  ·subst hidd;rw [h2id] at hio;simp only [Option.some.injEq] at hio;subst hio;refine ⟨hsz0,?_⟩;rw [if_neg (by simp)];refine ⟨fun b j hO=>?_,fun j=>by rw [hpb];exact hS2 j,cur0,by rw [hpb,hpid];exact hcur,b4,fun k0 x hx=>?_,fun k1 k2 v1 v2 h1 h2 hn12 hp1 hp2 e1 e2=>b6 k1 k2 v1 v2 h1 h2 hn12 (hpe' k1 fun h=>hp1 (by rw [h])) (hpe' k2 fun h=>hp2 (by rw [h])) e1 e2⟩
   ·rcases hO with hO|hO
    ·have:=b1 b j (.inl (by rw [←hpb];exact hO));exact ⟨this.1,Nat.lt_of_lt_of_le this.2 hK.size⟩
    ·exact hS1 b j hO
   ·obtain ⟨v1,g1,g2,g3⟩:=b5 k0 x hx;refine ⟨v1,g1,hV0 g2,fun hp0=>?_⟩;have hk0:k0≠k:=fun h=>hp0 (by rw [h]);exact hsp2 k0 v1 (List.getElem?_eq_some_iff.1 hx).1 hk0 g1 (g3 (hpe' k0 hk0))
  ·have hio':=h2o i o hidd hio;exact (R.objs i o hio').keep (fun _=>⟨hpb i,hpS i hidd⟩) (fun hlo b j hO hl=>hne i o hidd hio' hlo b j hO hl) hK.size hV0 fun cs hcs c hc u hx=>hV hx (hbx i cs (by rw [hio',hcs]) c hc)
 ·by_cases h1:i=id
  ·by_cases h2:i'=id
   ·rw [h1,h2]
   ·subst h1;have hio2:=h2o i' o' h2 hio';have hO2:=(hObs h2).1 hO';rcases hO with hO|hO
    ·exact R.inj i i' _ o' hi hio2 hlid hlo' x j j' (.inl (by rw [←hpb];exact hO)) hO2
    ·exact absurd hO (hS3 i' o' h2 hio2 hlo' x j' j hO2)
  ·have hio1:=h2o i o h1 hio;have hO1:=(hObs h1).1 hO;by_cases h2:i'=id
   ·subst h2;rcases hO' with hO'|hO'
    ·exact R.inj i i' o _ hio1 hi hlo hlid x j j' hO1 (.inl (by rw [←hpb];exact hO'))
    ·exact absurd hO' (hS3 i o h1 hio1 hlo x j j' hO1)
   ·exact R.inj i i' o o' hio1 (h2o i' o' h2 hio') hlo hlo' x j j' hO1 ((hObs h2).1 hO')
end
section
variable {P:Program} {M0:Nat→Nat→Prop} {w0:Bas} {N:Nm} {p:Pl} {st:VS} {a:Act} {w:World}
theorem V0.row1 {M:Nat→Nat→Prop} {es:List (List AV)} {A:Option Addr} {n cap:Nat} (h:V0 w M (.sl 1 es) (.slice A n cap)) :
  n=es.length∧(∀ (k:Nat) (x:List AV),es[k]? = some x→x.length=1∧∀ c∈x,g6_ c=true)∧(0 < n→∃ b o,A=some ⟨b,o,none⟩∧b < w.heap.size ∧
   ∀ k,k < n→¬M b (o+k)∧∃ u,w.cell? ⟨b,o+k,none⟩=some u∧∀ (x:List AV) (c:AV),es[k]? = some x→x[0]? = some c→V0 w M c u):=by
 cases h with
 | slNil=>exact ⟨rfl,by simp,fun h=>by omega⟩
 | sl _ _ _ b o u hne hb hM hcap hsz h1 hc hv=>
  refine ⟨rfl,fun k x hx=>⟨hsz k x hx,fun c hc=>?_⟩,fun _=>⟨b,o,rfl,hb,fun k hk=>⟨?_,u k 0,?_,fun x c hx hc=>hv k x 0 c hx hc⟩⟩⟩
  ·obtain ⟨j,hj⟩:=List.mem_iff_getElem?.1 hc;exact h1 k x j c hx hj
  ·have:=hM k 0 hk (by decide);simpa using this
  ·have:=hc k 0 hk (by decide);simpa using this
theorem Rel.bagApp {t ty e id k d:Nat} {ti te:TI} {pend:Option Nat} {qs:List (List (List AV))} {es:List (List AV)} {x:AV} {vx vy:Value} (R:Rel M0 w0 N p st a w) (hd:N.has d) (hti:c3_ P t=some ti) (hkd:ti.kind=1) (hte:c3_ P ti.elem=some te) (h1:te.size=1) (h2:te.zero.length=1) (hby:te.bytes≤100000)
  (hi:st.h[id]? = some (some (.bag e 1 false pend qs))) (hk:k < qs.length) (hpe:pend=none∨pend=some k) (hbx:∀ (i:Nat) (cs:List AV),st.h[i]? = some (some (.box cs))→∀ c∈cs,j4_ id 5 c=true)
  (hx:V1 w (Mof M0 st.h p) st.h p (.slw id k 1 es) vx) (hy:V0 w (Mof M0 st.h p) (.sl 1 [[x]]) vy) (hmax:es.length+1≤1000000000) :
  ∃ v w' p',(Builtin.append_ #[t,t] ty #[vx,vy]).run P w = .ok v w'∧Rel M0 w0 N p' ⟨(d,.slw id k 1 (es++[[x]]))::st.s.map (fun q=>(q.1,unW id q.2)),st.h.set id (some (.bag e 1 false (some k) qs))⟩ (a.put (some d) v) w':=by
 obtain ⟨hb1,hb2,cur,hcur,hb4,hb5,hb6⟩:=R.bagRow hi;obtain ⟨_,h0,hs⟩:=hx.slw_inv;obtain ⟨_,hsp,hplt,hds⟩:=hs _ _ _ _ hi;obtain ⟨A,n,cap,rfl,hle,hsp⟩:=hsp;obtain ⟨rfl,hes,hcells⟩:=h0.row1;obtain ⟨dd,inf,z,hdd,hinf,hz,hz1,hteq⟩:=c1_ hte;have hisz:inf.size=1:=by rw [←h1,hteq]
 have hzs:z.cells.size=1:=by rw [←h2,hteq,Array.length_toList]
 have hby':inf.bytes≤100000:=by rw [hteq] at hby;exact hby
 have hu:=k8_ hti hkd;have hlid:m8_ (Ob.bag e 1 false pend qs)=true:=rfl;have hpe':∀ k',k'≠k→pend≠some k':=fun k' hn=>by rcases hpe with h|h<;>rw [h]<;>simp [Ne.symm hn]
 have hid:=(List.getElem?_eq_some_iff.1 hi).1;have h2o:∀ (i:Nat) (ob:Ob),i≠id→(st.h.set id (some (Ob.bag e 1 false (some k) qs)))[i]? = some (some ob)→st.h[i]? = some (some ob):=fun i ob hn h=>by rwa [List.getElem?_set_ne (Ne.symm hn)] at h
 obtain ⟨ay,cy,u0,rfl,huy,hvx0,hone⟩ : ∃ (ay:Addr) (cy:Nat) (u0:Value),vy = .slice (some ay) 1 cy∧w.cell? (ay.add 0)=some u0∧V0 w (Mof M0 st.h p) x u0∧g6_ x=true:=by
  cases hy with
  | sl _ _ cap' b o u hne hb hM hcap hsz ho hc hv=>
   refine ⟨⟨b,o,none⟩,cap',u 0 0,rfl,?_,hv 0 _ 0 _ rfl rfl,ho 0 _ 0 _ rfl rfl⟩;have:=hc 0 0 (by simp) (by decide);rw [g1_];simpa using this
 have hu1:=hvx0.one hone;have hds':∀ (k':Nat) (v':Value),k' < qs.length→k'≠k→cur[k']? = some v'→Dist (.slice A es.length cap) v':=fun k' v' hk' hne hv'=>hds cur e k' v' hcur hk' hne (hpe' k' hne) hv';have hrowS:∀ (k':Nat) (v':Value),k' < qs.length→k'≠k→cur[k']? = some v'→Spare w p id 1 v':=fun k' v' hk' hne hv'=>by
  obtain ⟨v2,g1,_,g3⟩:=hb5 k' _ (List.getElem?_eq_getElem hk');rw [hv'] at g1;obtain rfl:=Option.some.inj g1;exact g3 (hpe' k' hne)
 have hlen3:(es++[[x]]).length=es.length+1:=by simp
 have hes3:∀ (k:Nat) (y:List AV),(es++[[x]])[k]? = some y→y.length=1∧∀ c∈y,g6_ c=true:=fun k y hy=>by
  rcases Nat.lt_or_ge k es.length with hl|hl
  ·rw [List.getElem?_append_left hl] at hy;exact hes k y hy
  ·rw [List.getElem?_append_right hl] at hy;cases hj:k - es.length with
   | zero=>rw [hj] at hy;simp at hy;subst hy;exact ⟨rfl,by simpa using hone⟩
   | succ j=>rw [hj] at hy;simp at hy
 by_cases hroom:es.length+1≤cap
 ·obtain ⟨b,o,curb,tb,rfl,hgb,hob,hcm,_,hbp,hS⟩:=hsp (by omega);simp only [Nat.mul_one] at hob hS;have hSn:=hS (o+es.length) (Nat.le_refl _);have hrun:=run_append_room_cells (P:=P) w t ty ti.elem inf hu hinf b o es.length cap ay 1 cy [u0] (by simp [hisz]) (fun j u hj=>by
   cases j with
   | zero=>simp at hj;rw [←hj];exact huy
   | succ j=>simp at hj) (by simpa using hu1) hroom (fun j hj=>by
   obtain rfl:j=0:=by simpa using hj
   rw [hisz,cell_of_row w b _ curb tb (0,0) hgb];have:o+es.length*1+0 < curb.size:=by omega
   simpa using this) (fun j hj=>by simp [World.frozen?,hgb])
  rw [hisz,Nat.mul_one] at hrun;have hM':∀ b' j,¬Mof M0 st.h p b' j→¬Mof M0 (st.h.set id (some (Ob.bag e 1 false (some k) qs))) ⟨p.b,fun i=>if i=id then fun b' j=>p.S id b' j∧¬(b'=b∧j=o+es.length) else p.S i⟩ b' j:=fun b' j hn hm=>by
   rcases hm with hm|⟨i,ob,hio,hlo,hO⟩
   ·exact hn (.inl hm)
   ·by_cases he:i=id
    ·subst he;rcases hO with hO|hO
     ·exact hn (.inr ⟨i,_,hi,hlid,.inl hO⟩)
     ·simp only [if_true] at hO;exact hn (.inr ⟨i,_,hi,hlid,.inr hO.1⟩)
    ·refine hn (.inr ⟨i,ob,h2o i ob he hio,hlo,?_⟩);rcases hO with hO|hO
     ·exact .inl hO
     ·simp only [if_neg he] at hO;exact .inr hO
  have hKp:Keeps (fun b j=>p.S id b j) w (w.setCells b (o+es.length) [u0]):=by
   refine ⟨by rw [w0_];exact Nat.le_refl _,fun b' _ hn=>x2_ u0 fun he=>hn (o+es.length) (by rw [he];exact hSn),fun {b' o' v'} _ hn hc=>?_⟩;rw [World.cell?_setCells_out b [u0] (o+es.length) w ⟨b',o',none⟩ fun h1 _=>?_]
   ·exact hc
   ·simp only at h1 ⊢;have:o'≠o+es.length:=fun he=>hn (by rw [h1,he];exact hSn);simp only [List.length_singleton];omega
  have hbl:=(Array.getElem?_eq_some_iff.1 hgb).1;refine ⟨_,_,_,hrun,R.bagPend (p':=⟨p.b,fun i=>if i=id then fun b' j=>p.S id b' j∧¬(b'=b∧j=o+es.length) else p.S i⟩) hd hi hk hpe hcur hbx rfl rfl rfl hKp (fun _=>rfl) (fun i hn=>by simp only [if_neg hn]) (fun b' j h=>?_) (fun j h=>?_) (fun i ob hn hio hlo b' j j' hO h=>?_) (fun b' j _ h=>?_) (fun k' v' hk' hne hv' hsv=>?_) ?_ ?_ fun k' v' hk' hne hv'=>?_⟩
  ·simp only [if_true] at h;have:=hb1 b' j (.inr h.1);exact ⟨this.1,by rw [w0_];exact this.2⟩
  ·simp only [if_true] at h;exact hb2 j h.1
  ·simp only [if_true] at h;exact hn (R.inj i id ob _ hio hi hlo hlid b' j j' hO (.inr h.1))
  ·simp only [if_true] at h;exact h.1
  ·obtain ⟨A2,n2,cap2,rfl,q2,q3⟩:=hsv;refine ⟨A2,n2,cap2,rfl,q2,fun hlt=>?_⟩;obtain ⟨b2,o2,cur2,t2,rfl,g2,g3,g4,g5,g6,g7⟩:=q3 hlt;have hbb:b≠b2:=hds' k' _ hk' hne hv' b o es.length cap b2 o2 n2 cap2 rfl rfl (by omega) hlt;refine ⟨b2,o2,cur2,t2,rfl,by rw [x2_ u0 (Ne.symm hbb)];exact g2,g3,g4,g5,g6,fun j hj=>?_⟩;simp only [if_true];exact ⟨g7 j hj,fun h=>hbb h.1.symm⟩
  ·have hcell:∀ k1,k1 < es.length+1→∃ u,(w.setCells b (o+es.length) [u0]).cell? ⟨b,o+k1,none⟩=some u∧∀ (y:List AV) (c:AV),(es++[[x]])[k1]? = some y→y[0]? = some c→V0 (w.setCells b (o+es.length) [u0]) (Mof M0 (st.h.set id (some (Ob.bag e 1 false (some k) qs))) ⟨p.b,fun i=>if i=id then fun b' j=>p.S id b' j∧¬(b'=b∧j=o+es.length) else p.S i⟩) c u:=fun k1 hk1=>by
    have hkeep:∀ {c:AV} {u:Value},V0 w (Mof M0 st.h p) c u→V0 (w.setCells b (o+es.length) [u0]) (Mof M0 (st.h.set id (some (Ob.bag e 1 false (some k) qs))) ⟨p.b,fun i=>if i=id then fun b' j=>p.S id b' j∧¬(b'=b∧j=o+es.length) else p.S i⟩) c u:=fun hv=>hv.keep (hKp.mono fun b j _ hS=>.inr ⟨id,_,hi,hlid,.inr hS⟩) fun b j _=>hM' b j;rcases Nat.lt_or_ge k1 es.length with hl|hl
    ·obtain ⟨b3,o3,hA,_,hcc⟩:=hcells (by omega);simp only [Option.some.injEq,Addr.mk.injEq] at hA;obtain ⟨rfl,rfl,_⟩:=hA;obtain ⟨_,u,g1,g2⟩:=hcc k1 hl;refine ⟨u,?_,fun y c hy hc=>hkeep (g2 y c (by rwa [List.getElem?_append_left hl] at hy) hc)⟩;rw [World.cell?_setCells_out b [u0] (o+es.length) w ⟨b,o+k1,none⟩ fun _ _=>.inl (by simp only;omega)];exact g1
    ·obtain rfl:k1=es.length:=by omega
     refine ⟨u0,?_,fun y c hy hc=>?_⟩
     ·rw [cell_of_row _ b _ _ tb (0,0) (x1_ u0 hgb)];have:o+es.length < curb.size:=by omega
      simp [this]
     ·rw [List.getElem?_append_right (Nat.le_refl _),Nat.sub_self] at hy;simp at hy;subst hy;simp at hc;subst hc;exact hkeep hvx0
   have hv:=V0.sl (w:=w.setCells b (o+es.length) [u0]) (M:=Mof M0 (st.h.set id (some (Ob.bag e 1 false (some k) qs))) ⟨p.b,fun i=>if i=id then fun b' j=>p.S id b' j∧¬(b'=b∧j=o+es.length) else p.S i⟩) 1 (es++[[x]]) cap b o (fun k1 _=>((w.setCells b (o+es.length) [u0]).cell? ⟨b,o+k1,none⟩).getD undef) (by simp) (by rw [w0_];exact hbl) (fun k1 j hk1 hj hm=>?_) (by omega) (fun k1 y hy=>(hes3 k1 y hy).1) (fun k1 y j c hy hc=>(hes3 k1 y hy).2 c (List.mem_of_getElem? hc)) (fun k1 j hk1 hj=>?_) fun k1 y j c hy hc=>?_
   ·rw [hlen3] at hv;exact hv
   ·obtain rfl:j=0:=by omega
    simp only [Nat.mul_one,Nat.add_zero] at hm;rcases Nat.lt_or_ge k1 es.length with hl|hl
    ·obtain ⟨b3,o3,hA,_,hcc⟩:=hcells (by omega);simp only [Option.some.injEq,Addr.mk.injEq] at hA;obtain ⟨rfl,rfl,_⟩:=hA;exact hM' _ _ (hcc k1 hl).1 hm
    ·obtain rfl:k1=es.length:=by omega
     rcases hm with hm|⟨i,ob,hio,hlo,hO⟩
     ·exact R.h0 _ _ hm (hb1 _ _ (.inr hSn)).1
     ·by_cases he:i=id
      ·subst he;rcases hO with hO|hO
       ·exact hbp hO.symm
       ·simp only [if_true] at hO;exact hO.2 ⟨trivial,trivial⟩
      ·refine he (R.inj i id ob _ (h2o i ob he hio) hi hlo hlid b (o+es.length) (o+es.length) ?_ (.inr hSn));rcases hO with hO|hO
       ·exact .inl hO
       ·simp only [if_neg he] at hO;exact .inr hO
   ·obtain rfl:j=0:=by omega
    obtain ⟨u,g1,_⟩:=hcell k1 (by omega);simp only [Nat.mul_one,Nat.add_zero];rw [g1];rfl
   ·obtain ⟨u,g1,g2⟩:=hcell k1 (by rw [←hlen3];exact (List.getElem?_eq_some_iff.1 hy).1);have hj0:j=0:=by
     have:=(hes3 k1 y hy).1;have:=(List.getElem?_eq_some_iff.1 hc).1;omega
    subst hj0;rw [g1];exact g2 y c hy hc
  ·refine ⟨_,_,_,rfl,hroom,fun hlt=>⟨b,o,_,tb,rfl,x1_ u0 hgb,by simpa using hob,hcm,Nat.one_pos,hbp,fun j hj=>?_⟩⟩;show (if id=id then _ else _:Nat→Nat→Prop) b j;rw [if_pos rfl];exact ⟨hS j (by omega),fun h=>by omega⟩
  ·intro b3 o3 n3 c3 b4 o4 n4 c4 e3 e4 l3 l4;simp only [Value.slice.injEq,Option.some.injEq,Addr.mk.injEq] at e3;obtain ⟨⟨rfl,rfl,_⟩,rfl,rfl⟩:=e3;exact hds' k' v' hk' hne hv' b o es.length cap b4 o4 n4 c4 rfl e4 (by omega) l4
 ·have hA:A=none→es.length=0∧cap=0:=fun h=>by
   have:¬0 < es.length:=fun hl=>by
    obtain ⟨b,o,hA,_⟩:=hcells hl;rw [h] at hA;cases hA
   omega
  obtain ⟨g,cap',curg,w',hrun,hge,hgl,hg,hnc,hcm,hcs,hold,hnew,hbel⟩:=a5o (P:=P) (w:=w) (ty:=ty) (c:=cy) hu hinf hz hisz hzs hby' (A:=A) (n:=es.length) (cap:=cap) (olds:=(List.range es.length).map fun k=>match A with|some a0=>(w.cell? (a0.add k)).getD undef|none=>undef) hA (by simp) (fun a0 h0 j u hj=>by
   subst h0;have hjl:j < es.length:=by simpa using (List.getElem?_eq_some_iff.1 hj).1
   rw [List.getElem?_map,List.getElem?_range hjl] at hj;simp only [Option.map_some,Option.some.injEq] at hj;obtain ⟨b,o,hA,_,hcc⟩:=hcells (by omega);simp only [Option.some.injEq] at hA;subst hA;obtain ⟨_,u1,g1,_⟩:=hcc j hjl;rw [g1_,g1] at hj;rw [g1_,g1,←hj];rfl) huy (by omega) hmax
  have hM':∀ b' j,b' < w.heap.size→¬Mof M0 st.h p b' j→¬Mof M0 (st.h.set id (some (Ob.bag e 1 false (some k) qs))) ⟨p.b,fun i=>if i=id then fun b' j=>p.S id b' j∨(b'=g∧es.length+1≤j) else p.S i⟩ b' j:=fun b' j hlt hn hm=>by
   rcases hm with hm|⟨i,ob,hio,hlo,hO⟩
   ·exact hn (.inl hm)
   ·by_cases he:i=id
    ·subst he;rcases hO with hO|hO
     ·exact hn (.inr ⟨i,_,hi,hlid,.inl hO⟩)
     ·simp only [if_true] at hO;rcases hO with hO|⟨rfl,_⟩
      ·exact hn (.inr ⟨i,_,hi,hlid,.inr hO⟩)
      ·omega
    ·refine hn (.inr ⟨i,ob,h2o i ob he hio,hlo,?_⟩);rcases hO with hO|hO
     ·exact .inl hO
     ·simp only [if_neg he] at hO;exact .inr hO
  have hkeep:∀ {c:AV} {u:Value},V0 w (Mof M0 st.h p) c u→V0 w' (Mof M0 (st.h.set id (some (Ob.bag e 1 false (some k) qs))) ⟨p.b,fun i=>if i=id then fun b' j=>p.S id b' j∨(b'=g∧es.length+1≤j) else p.S i⟩) c u:=fun hv=>hv.keep (.of_below hbel) hM';refine ⟨_,_,_,hrun,R.bagPend (p':=⟨p.b,fun i=>if i=id then fun b' j=>p.S id b' j∨(b'=g∧es.length+1≤j) else p.S i⟩) hd hi hk hpe hcur hbx hbel.os hbel.tape hbel.output (.of_below hbel) (fun _=>rfl) (fun i hn=>by simp only [if_neg hn]) (fun b' j h=>?_) (fun j h=>?_) (fun i ob hn hio hlo b' j j' hO h=>?_) (fun b' j hlt h=>?_) (fun k' v' hk' hne hv' hsv=>?_) ?_ ?_ fun k' v' hk' hne hv'=>?_⟩
  ·simp only [if_true] at h;rcases h with h|⟨rfl,_⟩
   ·have:=hb1 b' j (.inr h);exact ⟨this.1,Nat.lt_of_lt_of_le this.2 hbel.size⟩
   ·exact ⟨.inl (Nat.le_trans R.below.size hge),hgl⟩
  ·simp only [if_true] at h;rcases h with h|⟨h,_⟩
   ·exact hb2 j h
   ·omega
  ·simp only [if_true] at h;rcases h with h|⟨rfl,_⟩
   ·exact hn (R.inj i id ob _ hio hi hlo hlid b' j j' hO (.inr h))
   ·have:=((R.objs i ob hio).own hlo b' j hO).2;omega
  ·simp only [if_true] at h;rcases h with h|⟨rfl,_⟩
   ·exact h
   ·omega
  ·refine Spare.mono (p:=p) rfl (fun b j h=>?_) (fun b j _ hlt=>hbel.block b hlt) hsv;simp only [if_true];exact .inl h
  ·have hcell:∀ k1,k1 < es.length+1→∃ u,curg[k1]? = some u∧∀ (y:List AV) (c:AV),(es++[[x]])[k1]? = some y→y[0]? = some c→V0 w' (Mof M0 (st.h.set id (some (Ob.bag e 1 false (some k) qs))) ⟨p.b,fun i=>if i=id then fun b' j=>p.S id b' j∨(b'=g∧es.length+1≤j) else p.S i⟩) c u:=fun k1 hk1=>by
    rcases Nat.lt_or_ge k1 es.length with hl|hl
    ·obtain ⟨b3,o3,rfl,_,hcc⟩:=hcells (by omega);obtain ⟨_,u,g1,g2⟩:=hcc k1 hl;refine ⟨u,?_,fun y c hy hc=>hkeep (g2 y c (by rwa [List.getElem?_append_left hl] at hy) hc)⟩;rw [hold k1 hl,List.getElem?_map,List.getElem?_range hl];simp only [Option.map_some,g1_,g1,Option.getD_some]
    ·obtain rfl:k1=es.length:=by omega
     refine ⟨u0,hnew,fun y c hy hc=>?_⟩;rw [List.getElem?_append_right (Nat.le_refl _),Nat.sub_self] at hy;simp at hy;subst hy;simp at hc;subst hc;exact hkeep hvx0
   have hv:=V0.sl (w:=w') (M:=Mof M0 (st.h.set id (some (Ob.bag e 1 false (some k) qs))) ⟨p.b,fun i=>if i=id then fun b' j=>p.S id b' j∨(b'=g∧es.length+1≤j) else p.S i⟩) 1 (es++[[x]]) cap' g 0 (fun k1 _=>(curg[k1]?).getD undef) (by simp) hgl (fun k1 j hk1 hj hm=>?_) (by omega) (fun k1 y hy=>(hes3 k1 y hy).1) (fun k1 y j c hy hc=>(hes3 k1 y hy).2 c (List.mem_of_getElem? hc)) (fun k1 j hk1 hj=>?_) fun k1 y j c hy hc=>?_
   ·rw [hlen3] at hv;exact hv
   ·obtain rfl:j=0:=by omega
    simp only [Nat.mul_one,Nat.add_zero,Nat.zero_add] at hm;rcases hm with hm|⟨i,ob,hio,hlo,hO⟩
    ·have:=R.lt g k1 (.inl hm);omega
    ·by_cases he:i=id
     ·subst he;rcases hO with hO|hO
      ·have:p.b i=g:=hO;omega
      ·simp only [if_true] at hO;rcases hO with hO|⟨_,hO⟩
       ·have:=(hb1 _ _ (.inr hO)).2;omega
       ·omega
     ·have hO2:p.O i g k1:=by
       rcases hO with hO|hO
       ·exact .inl hO
       ·simp only [if_neg he] at hO;exact .inr hO
      have:=((R.objs i ob (h2o i ob he hio)).own hlo g k1 hO2).2;omega
   ·obtain rfl:j=0:=by omega
    obtain ⟨u,g1,_⟩:=hcell k1 (by omega);simp only [Nat.mul_one,Nat.add_zero,Nat.zero_add];rw [cell_of_row w' g _ curg ti.elem (0,0) hg,g1];rfl
   ·obtain ⟨u,g1,g2⟩:=hcell k1 (by rw [←hlen3];exact (List.getElem?_eq_some_iff.1 hy).1);have hj0:j=0:=by
     have:=(hes3 k1 y hy).1;have:=(List.getElem?_eq_some_iff.1 hc).1;omega
    subst hj0;rw [g1];exact g2 y c hy hc
  ·refine ⟨_,_,_,rfl,hnc,fun hlt=>⟨g,0,curg,ti.elem,rfl,hg,by omega,hcm,Nat.one_pos,?_,fun j hj=>?_⟩⟩
   ·show g≠p.b id;omega
   ·simp only [if_true];exact .inr ⟨trivial,by omega⟩
  ·intro b3 o3 n3 c3 b4 o4 n4 c4 e3 e4 l3 l4;simp only [Value.slice.injEq,Option.some.injEq,Addr.mk.injEq] at e3;obtain ⟨⟨rfl,_,_⟩,_,_⟩:=e3;obtain ⟨A2,n2,cap2,q1,_,q3⟩:=hrowS k' v' hk' hne hv';rw [e4] at q1;simp only [Value.slice.injEq] at q1;obtain ⟨rfl,rfl,rfl⟩:=q1;obtain ⟨b5,o5,_,_,q4,q5,_⟩:=q3 l4;simp only [Option.some.injEq,Addr.mk.injEq] at q4;obtain ⟨rfl,rfl,_⟩:=q4;have:=(Array.getElem?_eq_some_iff.1 q5).1;omega
end
def s6_ (P:Program) (st:VS) (o:Oper) : Option VS:=
 match o.op with
 | .store t x y=>match o.dst,c3_ P t,ev st x with
  | none,some ti,.aref id sz i off=>match st.h[id]? with
   | some (some (.bag e sz' nl pend qs))=>if sz=1∧off=0∧nl=false∧i < qs.length∧(pend=none∨pend=some i)∧ti.size=1∧st.h.all (a5l id)=true then
     (match ev st y with
     | .slw id' k sz2 es=>if id'=id∧k=i∧sz2=sz' then some ⟨st.s.map fun q=>(q.1,unW id q.2),st.h.set id (some (.bag e sz' false none (qs.set i es)))⟩ else none
     | .osl r=>match st.h[r]? with
      | some (some (.arr _ sz2 _ esr))=>if sz2=sz' then some ⟨st.s.map fun q=>(q.1,unW id q.2),(st.h.set r none).set id (some (.bag e sz' false none (qs.set i esr)))⟩ else none
      | _=>none
     | _=>none) else none
   | _=>none
  | _,_,_=>none
 | .call ⟨.builtin .append,xs,ts⟩=>match xs.toList,ts.toList,o.dst with
  | [x,y],[t,t'],some d=>match c3_ P t,ev st x,ev st y with
   | some ti,.slw id k sz es,.sl sz' [[c]]=>match st.h[id]? with
    | some (some (.bag e szb nl pend qs))=>match c3_ P ti.elem with
     | some te=>if t=t'∧ti.kind=1∧te.size=1∧te.zero.length=1∧te.bytes≤100000∧sz=1∧sz'=1∧szb=1∧nl=false∧k < qs.length∧(pend=none∨pend=some k)∧st.h.all (a5l id)=true∧es.length+1≤1000000000 then
       some ⟨(d,.slw id k 1 (es++[[c]]))::st.s.map (fun q=>(q.1,unW id q.2)),st.h.set id (some (.bag e 1 false (some k) qs))⟩ else none
     | none=>none
    | _=>none
   | _,_,_=>none
  | _,_,_=>none
 | _=>none
section
variable {P:Program} {M0:Nat→Nat→Prop} {w0:Bas} {N:Nm} {p:Pl} {st:VS} {a:Act} {w:World}
theorem z6_ {h:Hp} {id:Nat} (hb:h.all (a5l id)=true) (i:Nat) (cs:List AV) (hi:h[i]? = some (some (.box cs))) (c:AV) (hc:c∈cs) : j4_ id 5 c=true:=by
 have:=List.all_eq_true.1 hb _ (List.mem_of_getElem? hi);exact List.all_eq_true.1 this c hc
theorem b2x {v:Value} (h:∃ A n c,v = .slice A n c) : v.cells.toList=[v]:=by
 obtain ⟨A,n,c,rfl⟩:=h;rfl
theorem V0.sl_form {M:Nat→Nat→Prop} {sz:Nat} {es:List (List AV)} {v:Value} (h:V0 w M (.sl sz es) v) : ∃ A n c,v = .slice A n c:=by
 cases h with
 | slNil _ A c=>exact ⟨A,0,c,rfl⟩
 | sl _ _ c b o u=>exact ⟨_,_,c,rfl⟩
theorem a3w {t:TypeId} {ti:TI} {id i e:Nat} {cur:Array Value} {v:Value} (hti:c3_ P t=some ti) (h1:ti.size=1) (hv:∃ A n c,v = .slice A n c) (hcur:w.heap[p id]? = some (.cells cur e (0,0))) (hi:i < cur.size) :
  (Instr.storeAt t (.pointer (some ⟨p id,i*1+0,none⟩)) v).run P w = .ok () (w.setRow (p id) (cur.setIfInBounds i v)):=by
 have hc:=b2x hv;have:=s4_ (P:=P) (w:=w) (o:=i*1+0) hti (v:=v) (by rw [←Array.length_toList,hc,h1];rfl) hcur (by omega) (by
  rw [hc];intro x hx;simp only [List.mem_singleton] at hx;subst hx;obtain ⟨A,n,c,rfl⟩:=hv;rfl)
 rw [this,hc];simp only [Nat.mul_one,Nat.add_zero,List.length_singleton];rw [b6s hi]
theorem a7b (R:Rel M0 w0 N p st a w) {o:Oper} {st':VS} (hd:q9_ N o=true) (ht:s6_ P st o=some st') :
  ∃ v w' p',(execOp a.eval o).run P w = .ok (.value v) w'∧Rel M0 w0 N p' st' (a.put o.dst v) w'∨(execOp a.eval o).run P w = .ok .skip w'∧v=undef∧Rel M0 w0 N p' st' (a.put o.dst undef) w':=by
 have hlt:=f8_ hd;obtain ⟨dst,op,ty,pos,after,guard⟩:=o;simp only at hlt;unfold s6_ at ht;simp only at ht;split at ht
 ·rename_i t x y;split at ht
  ·rename_i ti id sz i off hti hx;split at ht
   ·rename_i e sz' nl pend qs hid;split at ht
    ·rename_i hc;obtain ⟨rfl,rfl,rfl,hi,hpe,h1,hall⟩:=hc;obtain ⟨_,_,cur,hcur,hlen,_,_⟩:=R.bagRow hid;have hxv:=R.eval x;rw [hx] at hxv;obtain ⟨hq,_⟩:=hxv.aref_inv;have hyv:=R.eval y;split at ht
     ·rename_i id' k sz2 es hy;split at ht
      ·rename_i hc;obtain ⟨rfl,rfl,rfl⟩:=hc;simp only [Option.some.injEq] at ht;subst ht;rw [hy] at hyv;have hrun:=a3w (P:=P) (p:=p) hti h1 hyv.slw_inv.2.1.sl_form hcur (show k < cur.size by omega);exact ⟨undef,_,p,.inr ⟨by simp only [execOp,Sem.run_bind,hq,hrun];rfl,rfl,R.bagStore hid hi hpe hcur (z6_ hall) hyv⟩⟩
      ·cases ht
     ·rename_i r hy;split at ht
      ·rename_i er sz2 nlr esr hr;split at ht
       ·rename_i hc;subst hc;simp only [Option.some.injEq] at ht;subst ht;rw [hy] at hyv;obtain ⟨p',R'⟩:=R.bagTake hid hi hpe hcur (z6_ hall) hr hyv;obtain ⟨A,n,c,hqv,_⟩:=hyv.osl_inv;have hrun:=a3w (P:=P) (p:=p) hti h1 ⟨A,n,c,hqv⟩ hcur (show i < cur.size by omega);exact ⟨undef,_,p',.inr ⟨by simp only [execOp,Sem.run_bind,hq,hrun];rfl,rfl,R'⟩⟩
       ·cases ht
      ·cases ht
     ·cases ht
    ·cases ht
   ·cases ht
  ·cases ht
 ·rename_i xs ts;split at ht
  ·rename_i x y t t' d hxs hts;split at ht
   ·rename_i ti id k sz es sz' c hti hx hy;split at ht
    ·rename_i e szb nl pend qs hid;split at ht
     ·rename_i te hte;split at ht
      ·rename_i hc;obtain ⟨rfl,hk,h1,h2,hby,rfl,rfl,rfl,rfl,hkl,hpe,hall,hmax⟩:=hc;simp only [Option.some.injEq] at ht;subst ht;have hxv:=R.eval x;rw [hx] at hxv;have hyv:=R.eval y;rw [hy] at hyv;obtain ⟨v,w',p',hrun,R'⟩:=R.bagApp (ty:=ty) (hlt d rfl) hti hk hte h1 h2 hby hid hkl hpe (z6_ hall) hxv hyv.sl_inv hmax;refine ⟨v,w',p',.inl ⟨?_,R'⟩⟩;have e1:xs=#[x,y]:=by apply Array.ext';exact hxs
       have e2:ts=#[t,t]:=by apply Array.ext';exact hts
       subst e1 e2;simp only [execOp,resolve,invoke,builtin,Sem.run_bind,Sem.run_pure,Result.andThen_ok,List.map_toArray,List.map_cons,List.map_nil,hrun]
      ·cases ht
     ·cases ht
    ·cases ht
   ·cases ht
  ·cases ht
 ·cases ht
end
attribute [go_sem] s6_ unW j4_ a5l
def n7_ (N:Nm) : Code→Bool
 | .region _ ops _=>ops.toList.all (q9_ N)
 | .seq a b=>n7_ N a&&n7_ N b
 | .cond _ a b=>n7_ N a&&n7_ N b
 | .block _ c=>n7_ N c
 | .loop c=>n7_ N c
 | .skip=>true
 | .exit _=>true
 | .ret=>true
 | _=>false
section
variable (P:Program)
def OwnRow (w w':World) (M:Nat→Nat→Prop) (e sz:Nat) (nl:Bool) (es:List (List AV)) (v:Value) : Prop:=
 if nl=true then (∃ A,v = .slice A 0 0)∧es=[] else ∃ g cap cur,v = .slice (some ⟨g,0,none⟩) es.length cap∧w.heap.size≤g∧w'.heap[g]? = some (.cells cur e (0,0))∧cur.size=cap*sz∧es.length≤cap∧cap≤maxLen ∧
  ∀ (k:Nat) (x:List AV) (j:Nat) (c:AV),es[k]? = some x→x[j]? = some c→∃ u,cur[k*sz+j]? = some u∧V0 w' (fun b j=>M b j∨b=g) c u
def VCo (f:FuncId) (args:List AV) (e sz:Nat) (nl:Bool) (es:List (List AV)) : Prop:=
 a5f P f=true∧0 < sz∧(∀ (k:Nat) (x:List AV),es[k]? = some x→x.length=sz∧∀ c∈x,g6_ c=true) ∧
 ∀ (w:World) (M:Nat→Nat→Prop) (vs:List Value),MOK w M→vs.length=args.length→(∀ (i:Nat) (a:AV) (v:Value),args[i]? = some a→vs[i]? = some v→V0 w M a v) →
  Calls P f vs.toArray w fun en w'=>∃ v,en = .returned v∧Below w.heap.size w w'∧OwnRow w w' M e sz nl es v
def c0t (st:VS) (c:Call) (e sz:Nat) (nl:Bool) (es:List (List AV)) : Prop:=
 match z0_ P (ev st) c with
 | none=>False
 | some (k,args)=>VCo P k args e sz nl es∧args.all (m3_ 5)=true
def u5_ (ow:List Nat) (o:Oper) : Option (Call×Nat):=
 match o.op,o.dst with
 | .call c,some d=>match c.callee with
  | .value _=>if ow.contains d then some (c,d) else none
  | _=>none
 | _,_=>none
def VDo (ow:List Nat) (o:Oper) (st:VS) (K:VS→Prop) : Prop:=
 match q2_ P ow st o with
 | some st'=>K st'
 | none=>match s6_ P st o with
  | some st'=>K st'
  | none=>match u5_ ow o with
   | some (c,d)=>∃ e sz nl es,c0t P st c e sz nl es∧K ⟨(d,.osl st.h.length)::st.s,st.h++[some (.arr e sz nl es)]⟩
   | none=>∃ r,j2_ P st.h (ev st) o.op r∧K (st.put o.dst r)
def e1_ (ops:List Oper) (st:VS) (j:Nat) : AV:=match ops[j]? with|some o=>(match o.dst with|some d=>lkp st.s d|none=>.lit undef)|none=>.lit undef
def VOp (ow:List Nat) (ops:List Oper) (o:Oper) (st:VS) (K:VS→Prop) : Prop:=
 match o.guard with
 | none=>VDo P ow o st K
 | some (j,want)=>match e1_ ops st j with
  | .lit (.bool b)=>if b=want then VDo P ow o st K else K (st.put o.dst (.lit undef))
  | .lit (.tuple _)=>K (st.put o.dst (.lit undef))
  | _=>False
def y2_ (ow:List Nat) (ops:List Oper) : List Oper→VS→(VS→Prop)→Prop
 | [],st,K=>K st
 | o::l,st,K=>VOp P ow ops o st fun st'=>y2_ ow ops l st' K
end
section
variable {P:Program} {M0:Nat→Nat→Prop} {w0:Bas} {N:Nm} {p:Pl} {st:VS} {a:Act} {w:World}
theorem c6d (R:Rel M0 w0 N p st a w) {o:Oper} {ow:List Nat} {c:Call} {d e sz:Nat} {nl:Bool} {es:List (List AV)} {K':Act→World→Prop} {Q:Exit→Act→World→Prop} (hd:q9_ N o=true) (hc:u5_ ow o=some (c,d)) (h:c0t P st c e sz nl es)
  (hk:∀ p a w,Rel M0 w0 N p ⟨(d,.osl st.h.length)::st.s,st.h++[some (.arr e sz nl es)]⟩ a w→K' a w) : o.wp P a w K' Q:=by
 obtain ⟨dst,op,ty,pos,after,guard⟩:=o;have hlt:=f8_ hd;unfold u5_ at hc;simp only at hc hlt;split at hc
 ·rename_i c' d';split at hc
  ·split at hc
   ·simp only [Option.some.injEq,Prod.mk.injEq] at hc;obtain ⟨rfl,rfl⟩:=hc;obtain ⟨callee,cargs,cts⟩:=c';unfold c0t at h;split at h
    ·exact h.elim
    ·rename_i k args hcal;obtain ⟨⟨hgo,hsz,hes,hcalls⟩,hp⟩:=h;obtain ⟨vs,hrun,hlen,hvs⟩:=a0n (P:=P) (dst:=some d') (ty:=ty) (pos:=pos) (after:=after) (guard:=guard) (fun x _=>R.eval x) hcal hgo;unfold Oper.wp;rw [hrun];simp only [Oper.upon];refine (hcalls w (Mof M0 st.h p) vs R.mok hlen fun i b v hb hv=>(hvs i b v hb hv).pure 5 (List.all_eq_true.1 hp b (List.mem_of_getElem? hb))).mono ?_;rintro en w' ⟨v,rfl,hb,ho⟩;unfold OwnRow at ho;cases nl
     ·simp only [Bool.false_eq_true,if_false] at ho;obtain ⟨g,cap,cur,rfl,hg,hh,hcs,hle,hcm,hv⟩:=ho;have hpn:p1_ p st.h.length g st.h.length=g:=(k0_ p _ _).1;have hM:∀ b j,¬(Mof M0 st.h p b j∨b=g)→¬Mof M0 (st.h++[some (.arr e sz false es)]) (p1_ p st.h.length g) b j:=by
       intro b j hn hm;rcases hm with hm|⟨i,ob,hi,hl,hpi⟩
       ·exact hn (.inl (.inl hm))
       ·rcases a8n hi with ⟨hlt,hi'⟩|⟨rfl,hx⟩
        ·exact hn (.inl (.inr ⟨i,ob,hi',hl,(o4_ (Nat.ne_of_lt hlt)).1 hpi⟩))
        ·exact hn (.inr (p3_ hpi))
      refine hk _ _ _ (R.grow hb (hlt d' rfl) (fun _=>hg) (fun _ _ _ _ _ h=>by cases h) ⟨hsz,hes,?_⟩ (.osl _ _ _ _ (by simp) (fun e' sz' nl' es' he=>?_) fun e' sz' nl' pe qs he=>?_))
      ·rw [if_neg (by simp)];refine ⟨a1k (Nat.le_trans R.below.size hg),cur,by rw [hpn];exact hh,by rw [hcs];exact Nat.mul_le_mul_right _ hle,fun k x j c hk hj=>?_⟩;obtain ⟨u,hu,hvu⟩:=hv k x j c hk hj;exact ⟨u,hu,hvu.keep (Keeps.refl _ _) fun b j _ hn=>hM b j hn⟩
      ·rw [List.getElem?_append_right (Nat.le_refl _)] at he;simp only [Nat.sub_self,List.getElem?_cons_zero,Option.some.injEq] at he;injection he with h1 h2 h3 h4
       subst h1 h2 h3 h4;unfold Osl;rw [if_neg (by simp),hpn];exact ⟨cap,cur,rfl,hh,hcs,hle,hcm⟩
      ·rw [List.getElem?_append_right (Nat.le_refl _)] at he;simp at he
     ·simp only [if_true] at ho;obtain ⟨⟨A0,rfl⟩,rfl⟩:=ho;refine hk _ _ _ (R.grow (b:=0) hb (hlt d' rfl) (fun h=>by cases h) (fun _ _ _ _ _ h=>by cases h) ⟨hsz,by simp,by simp⟩ (.osl _ _ _ _ (by simp) (fun e' sz' nl' es' he=>?_) fun e' sz' nl' pe qs he=>?_))
      ·rw [List.getElem?_append_right (Nat.le_refl _)] at he;simp only [Nat.sub_self,List.getElem?_cons_zero,Option.some.injEq] at he;injection he with h1 h2 h3 h4
       subst h1 h2 h3 h4;simp [Osl]
      ·rw [List.getElem?_append_right (Nat.le_refl _)] at he;simp at he
   ·cases hc
  ·cases hc
 ·cases hc
theorem b4z {ow:List Nat} {o:Oper} {K:VS→Prop} {K':Act→World→Prop} {Q:Exit→Act→World→Prop} (R:Rel M0 w0 N p st a w) (hd:q9_ N o=true) (h:VDo P ow o st K) (hk:∀ p st a w,Rel M0 w0 N p st a w→K st→K' a w) : o.wp P a w K' Q:=by
 unfold VDo at h;split at h
 ·rename_i st' he;obtain ⟨v,w',p',hh⟩:=b2n (P:=P) R hd he;unfold Oper.wp;rcases hh with ⟨h1,h2⟩|⟨h1,_,h2⟩
  ·rw [h1];exact hk _ _ _ _ h2 h
  ·rw [h1];exact hk _ _ _ _ h2 h
 ·split at h
  ·rename_i st' he;obtain ⟨v,w',p',hh⟩:=a7b (P:=P) R hd he;unfold Oper.wp;rcases hh with ⟨h1,h2⟩|⟨h1,_,h2⟩
   ·rw [h1];exact hk _ _ _ _ h2 h
   ·rw [h1];exact hk _ _ _ _ h2 h
  ·split at h
   ·rename_i c d hc;obtain ⟨e,sz,nl,es,ho,hK⟩:=h;exact c6d R hd hc ho fun p a w R=>hk _ _ _ _ R hK
   ·obtain ⟨r,hg,hK⟩:=h;have:=R.gives (P:=P) hg;exact e2_ this rfl fun v w' ⟨hv,hb⟩=>hk _ _ _ _ ((R.later hb).put (f8_ hd) hv) hK
theorem i6_ {ops:List Oper} {j:Nat} (R:Rel M0 w0 N p st a w) (hops:ops.all (q9_ N)=true) : (∀ b,e1_ ops st j = .lit (.bool b)→yielded ops.toArray a.tmps j=some b)∧(∀ vs,e1_ ops st j = .lit (.tuple vs)→yielded ops.toArray a.tmps j=none):=by
 unfold e1_ yielded;cases hj:ops[j]? with
 | none=>simp [hj,undef]
 | some o=>
  have hd:=List.all_eq_true.1 hops o (List.mem_of_getElem? hj);cases ho:o.dst with
  | none=>simp [hj,ho,undef]
  | some d=>
   have hlt:d < a.tmps.size:=R.size.lt (f8_ hd d ho);have hs:=R.slots d;have hget:a.tmps.getD d undef=a.tmps[d]:=by simp [hlt]
   rw [hget] at hs;simp only [List.getElem?_toArray,hj,Option.bind_some,ho];refine ⟨fun b hb=>?_,fun vs hb=>?_⟩
   ·rw [hb] at hs;have:=hs.lit_inv;simp [hlt,this]
   ·rw [hb] at hs;have:=hs.lit_inv;simp [hlt,this]
theorem r0_ {ow:List Nat} {ops:List Oper} {K:VS→Prop} {Q:Exit→Act→World→Prop} (hops:ops.all (q9_ N)=true) (hk:∀ p st a w,Rel M0 w0 N p st a w→K st→Q .normal a w) :
  ∀ (l:List Oper) (p:Pl) (st:VS) (a:Act) (w:World),l.all (q9_ N)=true→Rel M0 w0 N p st a w→y2_ P ow ops l st K→wpList P ops.toArray Q l a w
 | [],p,st,a,w,_,R,h=>wpList_nil (hk p st a w R h)
 | o::l,p,st,a,w,hl,R,h=>by
  simp only [List.all_cons,Bool.and_eq_true] at hl;have ih:=fun p st a w=>r0_ (ow:=ow) hops hk l p st a w hl.2;refine wpList_step fun Y Z=>?_;simp only [y2_,VOp] at h;have hdo:VDo P ow o st (fun st'=>y2_ P ow ops l st' K)→o.wp P a w Y Q:=fun h=>b4z R hl.1 h fun p st a w R h=>Z _ _ (ih p st a w R h);have hsk:y2_ P ow ops l (st.put o.dst (.lit undef)) K→Y (a.put o.dst undef) w:=fun h=>Z _ _ (ih p _ _ w (R.put (f8_ hl.1) (.base _ _ (.lit _))) h);split at h
  ·rename_i hg;simp only [Region.wanted,hg,if_true];exact hdo h
  ·rename_i j want hg;obtain ⟨hy1,hy2⟩:=i6_ (j:=j) R hops;simp only [Region.wanted,hg];split at h
   ·rename_i b hb;rw [hy1 b hb];by_cases hw:b=want
    ·subst hw;rw [if_pos (by simp)];rw [if_pos rfl] at h;exact hdo h
    ·rw [if_neg (by simpa using hw)];rw [if_neg hw] at h;exact hsk h
   ·rename_i vs hb;rw [hy2 vs hb,if_neg (by simp)];exact hsk h
   ·exact h.elim
def VWp (P:Program) (M0:Nat→Nat→Prop) (w0:Bas) (N:Nm) (c:Code) (Q:Exit→VS→Prop) (st:VS) : Prop:=
 n7_ N c=true→∀ p a w,Rel M0 w0 N p st a w→c.wp P (fun e a' w'=>∃ st' p',Rel M0 w0 N p' st' a' w'∧Q e st') a w
def a2n (K:VS→Prop) (Q:Exit→VS→Prop) : Exit→VS→Prop
 | .normal,st=>K st
 | e,st=>Q e st
def a5p (id:Nat) (Q:Exit→VS→Prop) : Exit→VS→Prop
 | .exit id',st=>if id'=id then Q .normal st else Q (.exit id') st
 | e,st=>Q e st
variable {Q:Exit→VS→Prop}
theorem b0_ (h:Q .normal st) : VWp P M0 w0 N .skip Q st:=fun _ p _ _ R=>wp_skip ⟨st,p,R,h⟩
theorem d4_ {id:Nat} (h:Q (.exit id) st) : VWp P M0 w0 N (.exit id) Q st:=fun _ p _ _ R=>wp_exit ⟨st,p,R,h⟩
theorem c5_ (h:Q .ret st) : VWp P M0 w0 N .ret Q st:=fun _ p _ _ R=>wp_ret ⟨st,p,R,h⟩
theorem a9_ {x y:Code} (h:VWp P M0 w0 N x (a2n (VWp P M0 w0 N y Q) Q) st) : VWp P M0 w0 N (.seq x y) Q st:=fun hB p a w R=>by
 simp only [n7_,Bool.and_eq_true] at hB;refine wp_seq (wp_mono (h hB.1 p a w R) ?_);rintro e a' w' ⟨st',p',R',hq⟩;cases e with
 | normal=>exact hq hB.2 p' a' w' R'
 | _=>exact ⟨st',p',R',hq⟩
theorem a3_ {K:VS→Prop} (h:K st) : a2n K Q .normal st:=h
theorem b8_ {K:VS→Prop} {id:Nat} (h:Q (.exit id) st) : a2n K Q (.exit id) st:=h
theorem b4_ {K:VS→Prop} (h:Q .ret st) : a2n K Q .ret st:=h
theorem b1_ {id:Nat} (h:Q .normal st) : a5p id Q .normal st:=h
theorem c2_ {id:Nat} (h:Q .ret st) : a5p id Q .ret st:=h
theorem b7_ {id:Nat} (h:Q .normal st) : a5p id Q (.exit id) st:=by simpa [a5p] using h
theorem a8_ {id:Nat} {c:Code} (h:VWp P M0 w0 N c (a5p id Q) st) : VWp P M0 w0 N (.block id c) Q st:=fun hB p a w R=>by
 refine wp_block (wp_mono (h (by simpa [n7_] using hB) p a w R) ?_);rintro e a' w' ⟨st',p',R',hq⟩;cases e with
 | exit id'=>
  simp only [Exit.inBlock];simp only [a5p] at hq;split
  ·rename_i he;rw [if_pos he] at hq;exact ⟨st',p',R',hq⟩
  ·rename_i he;rw [if_neg he] at hq;exact ⟨st',p',R',hq⟩
 | _=>exact ⟨st',p',R',hq⟩
theorem c8o {c:Operand} {x y:Code} {t:Bool} (hc:ev st c = .lit (.bool t)) (h1:t=true→VWp P M0 w0 N x Q st) (h2:t=false→VWp P M0 w0 N y Q st) : VWp P M0 w0 N (.cond c x y) Q st:=fun hB p a w R=>by
 simp only [n7_,Bool.and_eq_true] at hB;have he:=R.eval c;rw [hc] at he;exact wp_cond_split he.lit_inv (fun ht=>h1 ht hB.1 p a w R) (fun ht=>h2 ht hB.2 p a w R)
theorem a7_ {c:Operand} {x y:Code} (hc:ev st c = .lit (.bool true)) (h:VWp P M0 w0 N x Q st) : VWp P M0 w0 N (.cond c x y) Q st:=c8o hc (fun _=>h) (fun h=>by cases h)
theorem a6_ {c:Operand} {x y:Code} (hc:ev st c = .lit (.bool false)) (h:VWp P M0 w0 N y Q st) : VWp P M0 w0 N (.cond c x y) Q st:=c8o hc (fun h=>by cases h) (fun _=>h)
theorem a2_ {id:Nat} {l:List Oper} (ow:List Nat) (h:y2_ P ow l l st (Q .normal)) : VWp P M0 w0 N (.region id l.toArray false) Q st:=fun hB p a w R=>by
 have hB':l.all (q9_ N)=true:=by simpa [n7_] using hB
 exact wp_region_lit (r0_ (ow:=ow) hB' (fun p st a w R h=>⟨st,p,R,h⟩) l p st a w hB' R h)
def h5_ (k:Nat) : Nat→AV→Bool
 | 0,_=>false
 | n+1,.agg cs=>cs.all (h5_ k n)
 | n+1,.tup cs=>cs.all (h5_ k n)
 | n+1,.fn _ a b=>a.all (h5_ k n)&&b.all (h5_ k n)
 | n+1,.iface _ v=>h5_ k n v
 | _+1,.ref id _=>decide (id < k)
 | _+1,.aref id _ _ _=>decide (id < k)
 | _+1,.osl id=>decide (id < k)
 | _+1,.mp id=>decide (id < k)
 | _+1,.slw id _ _ _=>decide (id < k)
 | _+1,_=>true
def c2j (k:Nat) : Ob→Bool
 | .box cs=>cs.all (h5_ k 5)
 | .arr .. => true
 | .mpo .. => true
 | .bag .. => true
def leS (s:List (Nat×AV)) (n:Nat) : List (Nat×AV)→Prop
 | []=>True
 | (i,v)::r=>lkp s i=v∧h5_ n 5 v=true∧leS s n r
def leO (h:Hp) (n k:Nat) : Option Ob→Prop
 | none=>True
 | some ob=>h[k]? = some (some ob)∧c2j n ob=true
def leH (h:Hp) (n:Nat) : Nat→Hp→Prop
 | _,[]=>True
 | k,o::r=>leO h n k o∧leH h n (k+1) r
def Le (st st':VS) : Prop:=leS st.s st'.h.length st'.s∧st'.h.length≤st.h.length∧leH st.h st'.h.length 0 st'.h
theorem b5a {h:Hp} {n:Nat} : ∀ (h':Hp) (k id:Nat) (ob:Ob),leH h n k h'→h'[id]? = some (some ob)→h[k+id]? = some (some ob)∧c2j n ob=true
 | [],_,_,_,_,hi=>by simp at hi
 | o::r,k,id,ob,hh,hi=>by
  cases id with
  | zero=>
   simp only [List.getElem?_cons_zero,Option.some.injEq] at hi;subst hi;exact hh.1
  | succ id=>
   have:=b5a r (k+1) id ob hh.2 (by simpa using hi);rwa [show k+1+id=k+(id+1) by omega] at this
theorem V1.trunc {w:World} {M M':Nat→Nat→Prop} {h h':Hp} {p:Pl} (hM:∀ b j,¬M b j→¬M' b j) (hh:∀ (id:Nat) (ob:Ob),h'[id]? = some (some ob)→h[id]? = some (some ob)) :
  ∀ (n:Nat) (av:AV) (v:Value),V1 w M h p av v→h5_ h'.length n av=true→V1 w M' h' p av v
 | 0,_,_,_,hb=>by simp [h5_] at hb
 | n+1,av,v,hv,hb=>by
  have ih:=V1.trunc (w:=w) (p:=p) hM hh n;cases hv with
  | base _ _ h0=>exact .base _ _ (h0.keep (Keeps.refl _ _) fun b j _ hn=>hM b j hn)
  | slw id k sz es _ hid h0 hs=>exact .slw id k sz es v (by simpa [h5_] using hb) (h0.keep (Keeps.refl _ _) fun b j _ hn=>hM b j hn) fun e sz' pe qs he=>hs e sz' pe qs (hh id _ he)
  | agg cs us hl h1 hv=>
   simp only [h5_] at hb;exact .agg cs us hl h1 fun i c u hc hu=>ih c u (hv i c u hc hu) (List.all_eq_true.1 hb c (List.mem_of_getElem? hc))
  | tup cs us hl hv=>
   simp only [h5_] at hb;exact .tup cs us hl fun i c u hc hu=>ih c u (hv i c u hc hu) (List.all_eq_true.1 hb c (List.mem_of_getElem? hc))
  | fn f x y us vs hl hl' hv hv'=>
   simp only [h5_,Bool.and_eq_true] at hb;exact .fn f x y us vs hl hl' (fun i c u hc hu=>ih c u (hv i c u hc hu) (List.all_eq_true.1 hb.1 c (List.mem_of_getElem? hc))) (fun i c u hc hu=>ih c u (hv' i c u hc hu) (List.all_eq_true.1 hb.2 c (List.mem_of_getElem? hc)))
  | iface t x u hv=>exact .iface t x u (ih x u hv (by simpa [h5_] using hb))
  | ref id off hid=>exact .ref id off (by simpa [h5_] using hb)
  | aref id sz i off hid=>exact .aref id sz i off (by simpa [h5_] using hb)
  | osl id A m c hid hv hvb=>exact .osl id A m c (by simpa [h5_] using hb) (fun e sz nl es he=>hv e sz nl es (hh id _ he)) fun e sz nl pe qs he=>hvb e sz nl pe qs (hh id _ he)
  | mp id hid=>exact .mp id (by simpa [h5_] using hb)
theorem c6e {st:VS} {M:Nat→Nat→Prop} {h':Hp} {p:Pl} {tm:Nat→Value} (hs:∀ i,h5_ h'.length 5 (lkp st.s i)=true→V1 w M h' p (lkp st.s i) (tm i)) : ∀ (s':List (Nat×AV)),leS st.s h'.length s'→∀ i,V1 w M h' p (lkp s' i) (tm i)
 | [],_,_=>.base _ _ (.any _)
 | (d,v)::r,hl,i=>by
  simp only [lkp];split
  ·rename_i he;subst he;have h1:=hs d (by rw [hl.1];exact hl.2.1);rwa [hl.1] at h1
  ·exact c6e hs r hl.2.2 i
theorem Rel.le {st':VS} (R:Rel M0 w0 N p st a w) (hle:Le st st') : Rel M0 w0 N p st' a w:=by
 obtain ⟨h1,h2,h3⟩:=hle;have hh:∀ (id:Nat) (ob:Ob),st'.h[id]? = some (some ob)→st.h[id]? = some (some ob):=fun id ob hi=>by
  have:=(b5a st'.h 0 id ob h3 hi).1;rwa [Nat.zero_add] at this
 have hM:∀ b j,¬Mof M0 st.h p b j→¬Mof M0 st'.h p b j:=fun b j hn hm=>hn (by
  rcases hm with hm|⟨id,ob,hi,hl,hp⟩
  ·exact .inl hm
  ·exact .inr ⟨id,ob,hh id ob hi,hl,hp⟩)
 refine ⟨R.defers,R.size,R.below,R.m0,R.x0,fun i=>c6e (fun j hj=>V1.trunc hM hh 5 _ _ (R.slots j) hj) st'.s h1 i,fun id ob hi=>?_,fun id id' ob ob' hi hi'=>R.inj id id' ob ob' (hh _ _ hi) (hh _ _ hi')⟩;have ho:=R.objs id ob (hh id ob hi);have hids:=(b5a st'.h 0 id ob h3 hi).2;cases ob with
 | mpo kf kvs=>exact ho
 | bag e sz nl pend qs=>exact ho.keep (fun _=>⟨rfl,rfl⟩) (fun _ _ _ _ _=>rfl) (Nat.le_refl _) (fun hx=>hx.keep (Keeps.refl _ _) fun b j _ hn=>hM b j hn) fun cs h=>by cases h
 | box cs=>
  obtain ⟨a1,cur,e,a2,a3,a4,a5⟩:=ho;exact ⟨a1,cur,e,a2,a3,a4,fun j c hj=>let ⟨u,hu,hv⟩:=a5 j c hj;⟨u,hu,V1.trunc hM hh 5 c u hv (List.all_eq_true.1 hids c (List.mem_of_getElem? hj))⟩⟩
 | arr e sz nl es=>
  obtain ⟨a1,a2,a3⟩:=ho;refine ⟨a1,a2,?_⟩;split at a3
  ·rename_i hn;rw [if_pos hn];exact a3
  ·rename_i hn;rw [if_neg hn];obtain ⟨b1,cur,b2,b3,b4⟩:=a3;exact ⟨b1,cur,b2,b3,fun k x j c hk hj=>let ⟨u,hu,hv⟩:=b4 k x j c hk hj;⟨u,hu,hv.keep (Keeps.refl _ _) fun b j _ hn=>hM b j hn⟩⟩
theorem c4p {c:Code} {α:Type} (St:α→VS) (Inv:α→Prop) (μ:α→Nat) (x0:α) (hI:Inv x0) (h0:Le st (St x0))
  (round:∀ x,Inv x→∀ K:VS→Prop,(∀ st' y,Inv y→μ y < μ x→Le st' (St y)→K st')→VWp P M0 w0 N c (a2n K Q) (St x)) : VWp P M0 w0 N (.loop c) Q st:=fun hB p a w R=>by
 have hB':n7_ N c=true:=by simpa [n7_] using hB
 refine wp_loop_ghost (fun n a w=>∃ x p,Inv x∧μ x=n∧Rel M0 w0 N p (St x) a w) (μ x0) ⟨x0,p,hI,rfl,R.le h0⟩ ?_;rintro n a w ⟨x,p,hx,rfl,R⟩;refine wp_mono (round x hx (fun st'=>∃ y,Inv y∧μ y < μ x∧Le st' (St y)) (fun st' y h1 h2 h3=>⟨y,h1,h2,h3⟩) hB' p a w R) ?_;rintro e a' w' ⟨st',p',R',hq⟩;cases e with
 | normal=>
  obtain ⟨y,hy,hm,hle⟩:=hq;exact ⟨μ y,hm,y,p',hy,rfl,R'.le hle⟩
 | _=>exact ⟨st',p',R',hq⟩
theorem vle {c:Code} {st':VS} (hle:Le st st') (h:VWp P M0 w0 N c Q st') : VWp P M0 w0 N c Q st:=fun hB p a w R=>h hB p a w (R.le hle)
def b5_:Nat→List AV→List (Nat×AV)
 | _,[]=>[]
 | k,v::r=>(k,v)::b5_ (k+1) r
def c2k (P:Program) (st:VS) : List ResultVar→Option (List AV)
 | []=>some []
 | .tmp t::rs=>match c2k P st rs with|some vs=>some (a9z st.h (lkp st.s t)::vs)|none=>none
 | .cell x t::rs=>match a4a P st.h t (lkp st.s x),c2k P st rs with|some v,some vs=>some (a9z st.h v::vs)|_,_=>none
def c8p:List AV→AV
 | [v]=>v
 | vs=>.tup vs
def d4o (P:Program) (rs:List ResultVar) (r:AV) : Exit→VS→Prop
 | .ret,st=>(c2k P st rs).map c8p=some r
 | .normal,st=>(c2k P st rs).map c8p=some r
 | _,_=>False
theorem Rel.prep (R:Rel M0 w0 N p st a w) {v:AV} {u:Value} (hv:V1 w (Mof M0 st.h p) st.h p v u) : V0 w M0 (a9z st.h v) u:=by
 unfold a9z;split
 ·rename_i hp;exact (hv.pure 5 hp).keep (Keeps.refl _ _) fun b j _ hn hm=>hn (.inl hm)
 ·exact a8f R.objs R.h0 (fun _ _ hb=>.inl hb) 5 v u hv
theorem c0u (R:Rel M0 w0 N p st a w) : ∀ (rs:List ResultVar) (vs:List AV),c2k P st rs=some vs →
  ∃ us:List Value,(rs.mapM fun | .tmp t=>pure (a.tmps.getD t undef) | .cell x t=>do loadVar t (←asAddr (a.tmps.getD x undef)) : Sem (List Value)).run P w = .ok us w∧us.length=vs.length∧∀ (i:Nat) (c:AV) (u:Value),vs[i]? = some c→us[i]? = some u→V0 w M0 c u
 | [],vs,h=>by
  simp only [c2k,Option.some.injEq] at h;subst h;exact ⟨[],by simp,rfl,by simp⟩
 | .tmp t::rs,vs,h=>by
  simp only [c2k] at h;split at h
  ·rename_i vs' hvs;simp only [Option.some.injEq] at h;subst h;obtain ⟨us,hrun,hl,hv⟩:=c0u R rs vs' hvs;refine ⟨a.tmps.getD t undef::us,by simp only [List.mapM_cons,Sem.run_bind,Sem.run_pure,Result.andThen_ok,hrun],by simp [hl],fun i c u hc hu=>?_⟩;cases i with
   | zero=>simp at hc hu;subst hc;subst hu;simpa using R.prep (R.slots t)
   | succ i=>exact hv i c u (by simpa using hc) (by simpa using hu)
  ·cases h
 | .cell x t::rs,vs,h=>by
  simp only [c2k] at h;split at h
  ·rename_i v vs' hv' hvs;simp only [Option.some.injEq] at h;subst h;obtain ⟨us,hrun,hl,hv⟩:=c0u R rs vs' hvs;obtain ⟨u,hu,hvu⟩:=b2c (P:=P) R.objs (R.slots x) hv';have hptr:∃ ad,a.tmps.getD x undef = .pointer (some ad):=by
    unfold a4a at hv';split at hv'
    ·cases hv'
    ·split at hv'
     ·cases hv'
     ·rename_i cs hcs;obtain ⟨b,o,hq,_⟩:=a3e R.objs (R.slots x) hcs;exact ⟨_,hq⟩
   obtain ⟨ad,had⟩:=hptr;rw [had] at hu;simp only [Instr.loadAt,Instr.sureAddr,Sem.run_bind,Sem.run_pure,Result.andThen_ok] at hu;have e1:(asAddr (a.tmps.getD x undef)).run P w = .ok ad w:=by rw [had];rfl
   refine ⟨u::us,by simp only [List.mapM_cons,Sem.run_bind,Sem.run_pure,Result.andThen_ok,e1,hu,hrun],by simp [hl],fun i c y hc hy=>?_⟩;cases i with
   | zero=>simp at hc hy;subst hc;subst hy;exact R.prep hvu
   | succ i=>exact hv i c y (by simpa using hc) (by simpa using hy)
  ·cases h
theorem b2y:∀ (args:List AV) (k:Nat) (tm:Nat→Value) {M:Nat→Nat→Prop} {h:Hp} {p:Pl},(∀ (i:Nat) (c:AV),args[i]? = some c→V1 w M h p c (tm (k+i)))→∀ i,V1 w M h p (lkp (b5_ k args) i) (tm i)
 | [],_,_,_,_,_,_,_=>.base _ _ (.any _)
 | c::r,k,tm,M,h,p,hv,i=>by
  simp only [b5_,lkp];split
  ·rename_i he;subst he;exact hv 0 c rfl
  ·refine b2y r (k+1) tm (fun j c hj=>?_) i;have:=hv (j+1) c (by simpa using hj);rwa [show k+(j+1)=k+1+j by omega] at this
def pl0:Pl:=⟨fun _=>0,fun _ _ _=>False⟩
def d0b (w:World) : Bas:=⟨w,fun _ _=>False⟩
theorem MOK.none {w:World} {M:Nat→Nat→Prop} (h:MOK w M) : MOK w (fun _ _=>False):=⟨fun _ _ h=>h.elim,fun g vs hg=>⟨(h.2.1 g vs hg).1,fun _ h=>h,(h.2.1 g vs hg).2.2⟩,fun g hg=>⟨(h.2.2.1 g hg).1,fun _ h=>h⟩,h.2.2.2⟩
theorem b5b {fn:Func} {args:List AV} {M:Nat→Nat→Prop} {vs:List Value} (hn:Nat.ble args.length fn.ntmps=true) (hM:MOK w M) (hl:vs.length=args.length) (hv:∀ (i:Nat) (a:AV) (v:Value),args[i]? = some a→vs[i]? = some v→V0 w M a v) :
  Rel M (d0b w) (n0 fn.ntmps) pl0 ⟨b5_ 0 args,[]⟩ { tmps:=vs.toArray++Array.replicate (fn.ntmps - vs.toArray.size) undef,defers:=[] } w:=by
 refine ⟨rfl,⟨by have:=Nat.le_of_ble_eq_true hn;simp [n0];omega,fun i hi=>absurd hi (Nat.not_lt_zero i)⟩,Bel.start (d0b w),hM,⟨hM.none,fun _ _ _ h=>h⟩,fun i=>?_,fun id ob hi=>by simp at hi,fun id _ _ _ hi=>by simp at hi⟩;refine b2y args 0 (fun i=>(vs.toArray++Array.replicate (fn.ntmps - vs.toArray.size) undef).getD i undef) (fun i c hc=>?_) i;have hi:i < vs.length:=by rw [hl];exact (List.getElem?_eq_some_iff.1 hc).1
 rw [Nat.zero_add];have hgd:(vs.toArray++Array.replicate (fn.ntmps - vs.toArray.size) undef).getD i undef=vs[i]:=by
  rw [Array.getD_eq_getD_getElem?,Array.getElem?_append_left (by simpa using hi)];simp [hi]
 rw [hgd];refine .base _ _ ((hv i c _ hc (List.getElem?_eq_getElem hi)).keep (Keeps.refl _ _) fun b j _ hn hm=>?_);rcases hm with hm|⟨id,ob,hi,_⟩
 ·exact hn hm
 ·simp at hi
theorem c0_ {f:FuncId} {fn:Func} {c:Code} {args:List AV} {r:AV} (hf:P.funcs[f]? = some fn) (hb:fn.body=some c) (hg:a5f P f=true) (hN:n7_ (n0 fn.ntmps) c=true) (hn:Nat.ble args.length fn.ntmps=true)
  (h:∀ M0 w0,VWp P M0 w0 (n0 fn.ntmps) c (d4o P fn.results.toList r) ⟨b5_ 0 args,[]⟩) : VC P f args r:=by
 refine ⟨hg,fun w M vs hM hl hv=>?_⟩;refine calls_of_wp hf hb ?_;refine wp_mono (h M (d0b w) hN pl0 _ w (b5b hn hM hl hv)) ?_;have key:∀ (st':VS) (p':Pl) (a':Act) (w':World),Rel M (d0b w) (n0 fn.ntmps) p' st' a' w'→(c2k P st' fn.results.toList).map c8p=some r→a'.defers=[]∧∃ v,(results fn a'.tmps).run P w' = .ok v w'∧∃ v',Ending.returned v = .returned v'∧Below w.heap.size w w'∧V0 w' M r v':=by
  intro st' p' a' w' R' hr;obtain ⟨vs',hvs,hone⟩:=Option.map_eq_some_iff.1 hr;obtain ⟨us,hrun,hul,huv⟩:=c0u (P:=P) R' _ _ hvs;have hrun':(fn.results.mapM fun | .tmp t=>pure (a'.tmps.getD t undef) | .cell x t=>do loadVar t (←asAddr (a'.tmps.getD x undef)) : Sem (Array Value)).run P w' = .ok us.toArray w':=by
   rw [←Array.toArray_toList (xs:=fn.results),List.mapM_toArray];simp only [Sem.run_map,hrun,Result.andThen_ok]
  have hres:(results fn a'.tmps).run P w' = .ok (if h:us.toArray.size=1 then us.toArray[0] else .tuple us.toArray) w':=by
   unfold results;rw [Sem.run_bind];exact (congrArg (fun r=>Result.andThen r _) hrun').trans rfl
  refine ⟨R'.defers,_,hres,_,rfl,R'.below.below (fun _ _ h=>h),?_⟩;subst hone;by_cases h1:us.length=1
  ·obtain ⟨u,rfl⟩ : ∃ u,us=[u]:=List.length_eq_one_iff.1 h1;obtain ⟨c,rfl⟩ : ∃ c,vs'=[c]:=List.length_eq_one_iff.1 (by rw [←hul];rfl);exact huv 0 c u rfl rfl
  ·have h2:c8p vs' = .tup vs':=by
    cases vs' with
    | nil=>rfl
    | cons x y=>cases y with
     | nil=>simp at hul;omega
     | cons=>rfl
   rw [h2,dif_neg (by simpa using h1)];exact .tup _ _ hul huv
 rintro e a' w' ⟨st',p',R',hq⟩;cases e with
 | normal=>exact key st' p' a' w' R' hq
 | ret=>exact key st' p' a' w' R' hq
 | _=>exact hq.elim
def d3j (t:Nat) (e sz:Nat) (nl:Bool) (es:List (List AV)) : Exit→VS→Prop
 | .ret,st=>∃ id,lkp st.s t = .osl id∧st.h[id]? = some (some (.arr e sz nl es))
 | .normal,st=>∃ id,lkp st.s t = .osl id∧st.h[id]? = some (some (.arr e sz nl es))
 | _,_=>False
theorem b0t {f:FuncId} {fn:Func} {c:Code} {args:List AV} {t e sz:Nat} {nl:Bool} {es:List (List AV)} (hf:P.funcs[f]? = some fn) (hb:fn.body=some c) (hg:a5f P f=true) (hN:n7_ (n0 fn.ntmps) c=true) (hn:Nat.ble args.length fn.ntmps=true) (hr:fn.results=#[.tmp t])
  (hsz:0 < sz) (hes:∀ (k:Nat) (x:List AV),es[k]? = some x→x.length=sz∧∀ c∈x,g6_ c=true) (h:∀ M0 w0,VWp P M0 w0 (n0 fn.ntmps) c (d3j t e sz nl es) ⟨b5_ 0 args,[]⟩) : VCo P f args e sz nl es:=by
 refine ⟨hg,hsz,hes,fun w M vs hM hl hv=>?_⟩;refine calls_of_wp hf hb (wp_mono (h M (d0b w) hN pl0 _ w (b5b hn hM hl hv)) ?_);have key:∀ (st':VS) (p':Pl) (a':Act) (w':World),Rel M (d0b w) (n0 fn.ntmps) p' st' a' w'→(∃ id,lkp st'.s t = .osl id∧st'.h[id]? = some (some (.arr e sz nl es))) →
   a'.defers=[]∧∃ v,(results fn a'.tmps).run P w' = .ok v w'∧∃ v',Ending.returned v = .returned v'∧Below w.heap.size w w'∧OwnRow w w' M e sz nl es v':=by
  intro st' p' a' w' R ⟨id,hs,hi⟩;have hsl:=R.slots t;rw [hs] at hsl;obtain ⟨A,n,c,hq,hid,hosl⟩:=hsl.osl_inv;have ho:=hosl _ _ _ _ hi;have hob:=R.objs id _ hi;have hres:(results fn a'.tmps).run P w' = .ok (a'.tmps.getD t undef) w':=by
   unfold results;rw [hr];simp
  refine ⟨R.defers,_,hres,_,rfl,R.below.below (fun _ _ h=>h),?_⟩;unfold Osl at ho;unfold OwnRow;obtain ⟨_,_,hrow⟩:=hob;cases nl
  ·simp only [Bool.false_eq_true,if_false] at ho hrow ⊢;obtain ⟨cap,cur,h1,h2,h3,h4,h5⟩:=ho;obtain ⟨hge,cur',h6,_,h7⟩:=hrow;obtain rfl:cur'=cur:=by rw [h6] at h2;injection h2 with h2;injection h2
   refine ⟨p' id,cap,cur',h1,(hge.1 0).resolve_right (fun h=>h),h6,h3,h4,h5,fun k x j c hk hj=>?_⟩;obtain ⟨u,hu,hv⟩:=h7 k x j c hk hj;refine ⟨u,hu,hv.keep (Keeps.refl _ _) fun b j _ hn hm=>?_⟩;rcases hm with hm|hm
   ·exact hn (.inl hm)
   ·exact hn (.inr ⟨id,_,hi,rfl,.inl hm.symm⟩)
  ·simp only [if_true] at ho hrow ⊢;exact ⟨ho.1,hrow⟩
 rintro en a' w' ⟨st',p',R',hq⟩;cases en with
 | normal=>exact key st' p' a' w' R' hq
 | ret=>exact key st' p' a' w' R' hq
 | _=>exact hq.elim
theorem a2o {f:FuncId} {args:List AV} {e sz:Nat} {nl:Bool} {es:List (List AV)} (h:VCo P f args e sz nl es) : VC P f args (.sl sz es):=by
 obtain ⟨hg,hsz,hes,hc⟩:=h;refine ⟨hg,fun w M vs hM hl hv=>(hc w M vs hM hl hv).mono ?_⟩;rintro en w' ⟨v,rfl,hb,ho⟩;refine ⟨v,rfl,hb,?_⟩;unfold OwnRow at ho;cases nl
 ·simp only [Bool.false_eq_true,if_false] at ho;obtain ⟨g,cap,cur,rfl,hge,hh,hcs,hle,_,hvv⟩:=ho;by_cases hne:es=[]
  ·subst hne;exact .slNil _ _ _
  ·have hMg:∀ j,¬M g j:=fun j hm=>by have:=hM.1 g j hm;omega
   refine .sl sz es cap g 0 (fun k j=>cur.getD (k*sz+j) undef) hne (Array.getElem?_eq_some_iff.1 hh).1 (fun _ _ _ _=>hMg _) hle (fun k x hk=>(hes k x hk).1) (fun k x j c hk hj=>(hes k x hk).2 c (List.mem_of_getElem? hj)) (fun k j hk hj=>?_) fun k x j c hk hj=>?_
   ·rw [cell_of_row w' g _ cur e (0,0) hh,Nat.zero_add];have:(k+1)*sz≤cap*sz:=Nat.mul_le_mul_right _ (by omega);rw [Nat.add_mul] at this;have:k*sz+j < cur.size:=by omega
    simp [this]
   ·obtain ⟨u,hu,hv0⟩:=hvv k x j c hk hj;have:cur.getD (k*sz+j) undef=u:=by simp [hu]
    simp only [this];exact hv0.keep (Keeps.refl _ _) fun b j _ hn hm=>hn (.inl hm)
 ·simp only [if_true] at ho;obtain ⟨⟨A0,rfl⟩,rfl⟩:=ho;exact .slNil _ _ _
end
section
variable (P:Program)
def d2l (o:Oper) (st:VS) (K:VS→Prop) : Prop:=∃ r,j2_ P st.h (ev st) o.op r∧K (st.put o.dst r)
def b7p (ops:List Oper) (o:Oper) (st:VS) (K:VS→Prop) : Prop:=
 match o.guard with
 | none=>d2l P o st K
 | some (j,want)=>match e1_ ops st j with
  | .lit (.bool b)=>if b=want then d2l P o st K else K (st.put o.dst (.lit undef))
  | .lit (.tuple _)=>K (st.put o.dst (.lit undef))
  | _=>False
def a5q (ops:List Oper) : List Oper→VS→(VS→Prop)→Prop
 | [],st,K=>K st
 | o::l,st,K=>b7p P ops o st fun st'=>a5q ops l st' K
def q4_ (ops:List Oper) (o:Oper) (st:VS) (r:AV) : Prop:=
 match o.guard with
 | none=>j2_ P st.h (ev st) o.op r
 | some (j,want)=>match e1_ ops st j with
  | .lit (.bool b)=>if b=want then j2_ P st.h (ev st) o.op r else r = .lit undef
  | .lit (.tuple _)=>r = .lit undef
  | _=>False
end
def d5_:VS→List Oper→List AV→VS
 | st,o::l,r::rs=>d5_ (st.put o.dst r) l rs
 | st,_,_=>st
section
variable {P:Program} {M0:Nat→Nat→Prop} {w0:Bas} {N:Nm} {p:Pl} {st:VS} {a:Act} {w:World} {Q:Exit→VS→Prop}
theorem a5r {ops:List Oper} {o:Oper} {K:VS→Prop} (h:b7p P ops o st K) : ∃ r,q4_ P ops o st r∧K (st.put o.dst r):=by
 obtain ⟨dst,op,ty,pos,after,guard⟩:=o;cases guard with
 | none=>exact h
 | some g=>
  obtain ⟨j,want⟩:=g;simp only [b7p] at h;simp only [q4_];split at h
  ·split at h
   ·rename_i b hb hw;obtain ⟨r,h1,h2⟩:=h;exact ⟨r,by simp only [hw,if_true];exact h1,h2⟩
   ·rename_i b hb hw;exact ⟨_,by simp only [hw,if_false],h⟩
  ·rename_i vs hb;exact ⟨_,by simp only [],h⟩
  ·exact h.elim
theorem p5_ {ops:List Oper} {K:VS→Prop} : ∀ (l:List Oper) (st:VS),a5q P ops l st K→∃ rs:List AV,rs.length=l.length∧K (d5_ st l rs)∧∀ (i:Nat) (o:Oper) (r:AV),l[i]? = some o→rs[i]? = some r→q4_ P ops o (d5_ st (l.take i) (rs.take i)) r
 | [],st,h=>⟨[],rfl,h,by simp⟩
 | o::l,st,h=>by
  obtain ⟨r,h1,h2⟩:=a5r h;obtain ⟨rs,hl,hK,hs⟩:=p5_ l _ h2;refine ⟨r::rs,by simp [hl],hK,fun i o' r' ho hr=>?_⟩;cases i with
  | zero=>simp at ho hr;subst ho;subst hr;exact h1
  | succ i=>exact hs i o' r' (by simpa using ho) (by simpa using hr)
theorem h0_:∀ (l:List Oper) (rs:List AV) (st:VS),(d5_ st l rs).h=st.h
 | [],rs,st=>by simp [d5_]
 | o::l,[],st=>by simp [d5_]
 | o::l,r::rs,st=>by
  rw [d5_,h0_ l rs];cases o.dst<;>rfl
theorem g7_ (st:VS) (d:Option Tmp) (r:AV) (t:Nat) : lkp (st.put d r).s t=if d=some t then r else lkp st.s t:=by
 cases d with
 | none=>simp [VS.put]
 | some d=>simp [VS.put,lkp]
theorem p6_:∀ (l:List Oper) (rs:List AV) (st:VS) (t:Nat),(∀ o∈l,o.dst≠some t)→lkp (d5_ st l rs).s t=lkp st.s t
 | [],rs,st,t,_=>by simp [d5_]
 | o::l,[],st,t,_=>by simp [d5_]
 | o::l,r::rs,st,t,h=>by
  rw [d5_,p6_ l rs _ t fun o ho=>h o (List.mem_cons_of_mem _ ho),g7_,if_neg (h o (List.mem_cons_self ..))]
theorem r1_:∀ (l:List Oper) (rs:List AV) (st:VS) (t j:Nat) (o:Oper) (r:AV),j5_ l=true→l[j]? = some o→rs[j]? = some r→o.dst=some t→lkp (d5_ st l rs).s t=r
 | [],_,_,_,_,_,_,_,h,_,_=>by simp at h
 | o::l,[],_,_,_,_,_,_,_,h,_=>by simp at h
 | q::l,s::rs,st,t,j,o,r,hd,ho,hr,ht=>by
  obtain ⟨h1,h2⟩:=u9_ hd;cases j with
  | zero=>
   simp at ho hr;subst ho;subst hr;rw [d5_,p6_ l rs _ t fun o ho=>h1 o ho t ht,g7_,if_pos ht]
  | succ j=>exact r1_ l rs _ t j o r h2 (by simpa using ho) (by simpa using hr) ht
theorem u6_ {vs:Nat→Value} : ∀ (l:List Oper) (k:Nat) (a:Act) (t:Nat),(∀ o∈l,o.dst≠some t)→(∀ o∈l,∀ d,o.dst=some d→d < a.tmps.size)→(fill (fun _=>true) vs l k a).tmps.getD t undef=a.tmps.getD t undef
 | [],_,_,_,_,_=>rfl
 | o::l,k,a,t,h,hb=>by
  rw [fill,if_pos rfl];have hsz:(a.put o.dst (vs k)).tmps.size=a.tmps.size:=by cases o.dst<;>simp [Act.put]
  rw [u6_ l (k+1) _ t (fun o ho=>h o (List.mem_cons_of_mem _ ho)) (fun o ho d hd=>by rw [hsz];exact hb o (List.mem_cons_of_mem _ ho) d hd)];cases ho:o.dst with
  | none=>rfl
  | some d=>
   rw [k9_ a d _ t (hb o (List.mem_cons_self ..) d ho),if_neg];intro hdt;exact h o (List.mem_cons_self ..) (by rw [ho,hdt])
theorem a8s {vs:Nat→Value} : ∀ (l:List Oper) (k:Nat) (a:Act) (t j:Nat) (o:Oper),j5_ l=true→(∀ o∈l,∀ d,o.dst=some d→d < a.tmps.size)→l[j]? = some o→o.dst=some t→(fill (fun _=>true) vs l k a).tmps.getD t undef=vs (k+j)
 | [],_,_,_,_,_,_,_,h,_=>by simp at h
 | q::l,k,a,t,j,o,hd,hb,ho,ht=>by
  obtain ⟨h1,h2⟩:=u9_ hd;rw [fill,if_pos rfl];have hsz:(a.put q.dst (vs k)).tmps.size=a.tmps.size:=by cases q.dst<;>simp [Act.put]
  cases j with
  | zero=>
   simp at ho;subst ho;rw [u6_ l (k+1) _ t (fun o ho=>h1 o ho t ht) (fun o ho d hd=>by rw [hsz];exact hb o (List.mem_cons_of_mem _ ho) d hd),ht,k9_ a t _ t (hb q (List.mem_cons_self ..) t ht),if_pos rfl,Nat.add_zero]
  | succ j=>
   rw [a8s l (k+1) _ t j o h2 (fun o ho d hd=>by rw [hsz];exact hb o (List.mem_cons_of_mem _ ho) d hd) (by simpa using ho) ht];congr 1;omega
theorem a2p {vs:Nat→Value} {g:Nat→Bool} : ∀ (l:List Oper) (k:Nat) (a:Act),(fill g vs l k a).tmps.size=a.tmps.size∧(fill g vs l k a).defers=a.defers
 | [],_,_=>⟨rfl,rfl⟩
 | o::l,k,a=>by
  rw [fill];obtain ⟨h1,h2⟩:=a2p (vs:=vs) (g:=g) l (k+1) (if g k=true then a.put o.dst (vs k) else a);rw [h1,h2];split
  ·cases o.dst<;>simp [Act.put]
  ·exact ⟨rfl,rfl⟩
theorem b2z {M:Nat→Nat→Prop} {h:Hp} {hd:List Oper} {rs:List AV} {vs:Nat→Value} {i t:Nat} {w':World} (hdist:j5_ hd=true) (hrs:rs.length=hd.length) (hb:∀ o∈hd,∀ d,o.dst=some d→d < a.tmps.size)
  (hsl:V1 w' M h p (lkp st.s t) (a.tmps.getD t undef)) (_hi:i≤hd.length) (hw:∀ (j:Nat) (o:Oper),hd[j]? = some o→o.dst=some t→j < i∧V1 w' M h p (rs.getD j .any) (vs j)) :
  V1 w' M h p (lkp (d5_ st (hd.take i) (rs.take i)).s t) ((fill (fun _=>true) vs hd 0 a).tmps.getD t undef):=by
 by_cases hex:∃ (j:Nat) (o:Oper),hd[j]? = some o∧o.dst=some t
 ·obtain ⟨j,o,hj,ho⟩:=hex;obtain ⟨hlt,hv⟩:=hw j o hj ho;have hjl:=(List.getElem?_eq_some_iff.1 hj).1;have hdt:j5_ (hd.take i)=true:=by
   clear hw hsl hb hj _hi hv hlt hrs hjl;induction hd generalizing i with
   | nil=>simp [j5_]
   | cons x l ih=>
    cases i with
    | zero=>rfl
    | succ i=>
     simp only [j5_,Bool.and_eq_true] at hdist;simp only [List.take_succ_cons,j5_,Bool.and_eq_true];refine ⟨?_,ih hdist.2⟩;have h1:=hdist.1;cases hd':x.dst with
     | none=>rfl
     | some d=>
      simp only [hd'] at h1;exact List.all_eq_true.2 fun q hq=>List.all_eq_true.1 h1 q (List.mem_of_mem_take hq)
  rw [a8s hd 0 a t j o hdist hb hj ho,Nat.zero_add,r1_ (hd.take i) (rs.take i) st t j o (rs.getD j .any) hdt (by rw [List.getElem?_take_of_lt hlt];exact hj) (by rw [List.getElem?_take_of_lt hlt];simp [List.getD,show j < rs.length by omega]) ho];exact hv
 ·have hno:∀ o∈hd,o.dst≠some t:=fun o ho he=>by
   obtain ⟨j,hj⟩:=List.mem_iff_getElem?.1 ho;exact hex ⟨j,o,hj,he⟩
  rw [u6_ hd 0 a t hno hb,p6_ _ _ _ _ fun o ho=>hno o (List.mem_of_mem_take ho)];exact hsl
theorem x3_ {l:List Oper} {n:Nat} {rs:List AV} (R:Rel M0 w0 N p st a w) (hn:n≤l.length) (hd:j5_ (l.take n)=true) (hN:l.all (q9_ N)=true)
  (hlook:∀ i,i < n→∀ o,l[i]? = some o→∀ t∈o.looksAt l.toArray,∀ j,j < n→∀ q,l[j]? = some q→q.dst=some t→Region.waitsFor .any l.toArray i j=true)
  (hlt:∀ i j,i < n→Region.waitsFor .any l.toArray i j=true→j < i) (hrs:rs.length=n)
  (hst:∀ (i:Nat) (o:Oper) (r:AV),(l.take n)[i]? = some o→rs[i]? = some r→q4_ P l o (d5_ st ((l.take n).take i) (rs.take i)) r) (i:Nat) (hi:i < n) :
  a3q P l.toArray w a n (fun i v w'=>V1 w' (Mof M0 st.h p) st.h p (rs.getD i .any) v) i:=by
 intro o ho vs w' hbel hS;have ho':l[i]? = some o:=by simpa using ho
 have hti:(l.take n)[i]? = some o:=by rw [List.getElem?_take_of_lt hi];exact ho'
 have R':=R.later hbel;have hbnd:∀ q∈l.take n,∀ d,q.dst=some d→d < a.tmps.size:=fun q hq d hdd=>R.size.lt (f8_ (List.all_eq_true.1 hN q (List.mem_of_mem_take hq)) d hdd);have hlen:(l.take n).length=n:=by simp;omega
 have hlk:∀ t∈o.looksAt l.toArray,V1 w' (Mof M0 st.h p) st.h p (lkp (d5_ st ((l.take n).take i) (rs.take i)).s t) ((fill (fun _=>true) vs (l.take n) 0 a).tmps.getD t undef):=fun t ht=>
  b2z hd (by rw [hrs,hlen]) hbnd (R'.slots t) (by rw [hlen];omega) fun j q hj hq=>by
   have hjn:j < n:=by have:=(List.getElem?_eq_some_iff.1 hj).1;omega
   have hj':l[j]? = some q:=by rw [List.getElem?_take_of_lt hjn] at hj;exact hj
   have hw:=hlook i hi o ho' t ht j hjn q hj' hq;exact ⟨hlt i j hi hw,hS j hjn hw⟩
 have hr:rs[i]? = some (rs.getD i .any):=by simp [List.getD,show i < rs.length by omega]
 have hstep:=hst i o _ hti hr;simp only [];have hgive:j2_ P st.h (ev (d5_ st ((l.take n).take i) (rs.take i))) o.op (rs.getD i .any)→gives P o (fill (fun _=>true) vs (l.take n) 0 a) w' fun v w''=>V1 w'' (Mof M0 st.h p) st.h p (rs.getD i .any) v∧Below w'.heap.size w' w'':=by
  intro hg;refine q1_ R'.objs R'.mok R'.h0 R'.glob (fun _ _ hb=>.inl hb) (fun x hx=>?_) hg;cases x with
  | tmp t=>exact hlk t (List.mem_append_left _ (List.mem_filterMap.2 ⟨.tmp t,by simpa using hx,rfl⟩))
  | const v=>exact .base _ _ (.lit v)
  | global g=>exact .base _ _ (R'.evalG g)
  | func f=>exact .base _ _ (.lit _)
 unfold q4_ at hstep;split at hstep
 ·rename_i hg;simp only [Region.wanted,hg,if_true];rw [h0_] at hstep;exact hgive hstep
 ·rename_i j want hg;simp only [Region.wanted,hg];have hy:(∀ b,e1_ l (d5_ st ((l.take n).take i) (rs.take i)) j = .lit (.bool b)→yielded l.toArray (fill (fun _=>true) vs (l.take n) 0 a).tmps j=some b)∧(∀ us,e1_ l (d5_ st ((l.take n).take i) (rs.take i)) j = .lit (.tuple us)→yielded l.toArray (fill (fun _=>true) vs (l.take n) 0 a).tmps j=none):=by
   unfold e1_ yielded;cases hj:l[j]? with
   | none=>simp [hj,undef]
   | some q=>
    cases hq:q.dst with
    | none=>simp [hj,hq,undef]
    | some d=>
     have hmem:d∈o.looksAt l.toArray:=by
      unfold Oper.looksAt;refine List.mem_append_right _ ?_;simp [hg,hj,hq]
     have hs:=hlk d hmem;have hltd:d < (fill (fun _=>true) vs (l.take n) 0 a).tmps.size:=by
      rw [(a2p _ _ _).1];exact R.size.lt (f8_ (List.all_eq_true.1 hN q (List.mem_of_getElem? hj)) d hq)
     have hget:(fill (fun _=>true) vs (l.take n) 0 a).tmps.getD d undef=(fill (fun _=>true) vs (l.take n) 0 a).tmps[d]:=by simp [hltd]
     rw [hget] at hs;simp only [List.getElem?_toArray,hj,Option.bind_some,hq];refine ⟨fun b hb=>?_,fun us hb=>?_⟩
     ·rw [hb] at hs;have:=hs.lit_inv;simp [hltd,this]
     ·rw [hb] at hs;have:=hs.lit_inv;simp [hltd,this]
  split at hstep
  ·rename_i b hb;rw [hy.1 b hb];split at hstep
   ·rename_i hw;subst hw;rw [if_pos (by simp)];rw [h0_] at hstep;exact hgive hstep
   ·rename_i hw;rw [if_neg (by simpa using hw),hstep];exact .base _ _ (.lit _)
  ·rename_i us hb;rw [hy.2 us hb,if_neg (by simp),hstep];exact .base _ _ (.lit _)
  ·exact hstep.elim
theorem q5_ {l:List Oper} {rs:List AV} {vs:Nat→Value} {w':World} (R:Rel M0 w0 N p st a w) (hd:j5_ l=true) (hN:l.all (q9_ N)=true) (hrs:rs.length=l.length) (hb:Below w.heap.size w w')
  (hv:∀ i,i < l.length→V1 w' (Mof M0 st.h p) st.h p (rs.getD i .any) (vs i)) : Rel M0 w0 N p (d5_ st l rs) (fill (fun _=>true) vs l 0 a) w':=by
 have R':=R.later hb;have hbnd:∀ q∈l,∀ d,q.dst=some d→d < a.tmps.size:=fun q hq d hdd=>R.size.lt (f8_ (List.all_eq_true.1 hN q hq) d hdd);obtain ⟨hs1,hs2⟩:=a2p (vs:=vs) (g:=fun _=>true) l 0 a;have hh:=h0_ l rs st;refine ⟨by rw [hs2];exact R.defers,⟨by rw [hs1];exact R.size.size,fun i hi=>(u6_ l 0 a i (fun o ho he=>absurd (f8_ (List.all_eq_true.1 hN o ho) i he).1 (by omega)) hbnd).trans (R.size.fix i hi)⟩,R'.below,R.m0,R.x0,fun t=>?_,?_,?_⟩
 ·rw [hh];have:=b2z (i:=l.length) (vs:=vs) hd hrs hbnd (R'.slots t) (Nat.le_refl _) fun j o hj ho=>⟨(List.getElem?_eq_some_iff.1 hj).1,hv j (List.getElem?_eq_some_iff.1 hj).1⟩
  rwa [List.take_length,List.take_of_length_le (by omega)] at this
 ·rw [hh];exact R'.objs
 ·rw [hh];exact R.inj
def c8q (l:List Oper) (n:Nat) : Bool:=if n=l.length then Region.allB l.toArray else Region.specB l.toArray n
theorem a6h {id:Nat} {l:List Oper} (n:Nat) (ow:List Nat) (hm:P.follows .mixedOrders=true) (hB:c8q l n=true) (h:a5q P l (l.take n) st fun st'=>y2_ P ow l (l.drop n) st' (Q .normal)) :
  VWp P M0 w0 N (.region id l.toArray true) Q st:=fun hC p a w R=>by
 have hN:l.all (q9_ N)=true:=by simpa [n7_] using hC
 obtain ⟨rs,hrl,hK,hst⟩:=p5_ _ _ h;unfold c8q at hB;split at hB
 ·rename_i hn;subst hn;rw [List.take_length] at hrl hK hst;rw [List.drop_length] at hK;have hB':=hB;simp only [Region.allB,Bool.and_eq_true] at hB;obtain ⟨⟨hsel,hd⟩,hlook⟩:=hB;have hd':j5_ l=true:=by simpa using hd
  have hlk:∀ i,i < l.length→∀ o,l[i]? = some o→(∀ t∈o.looksAt l.toArray,∀ j,j < l.length→∀ q,l[j]? = some q→q.dst=some t→Region.waitsFor .any l.toArray i j=true)∧(∀ e∈o.after,Region.binds .any e=true→e.on < i):=by
   intro i hi o ho;have h:=List.all_eq_true.1 hlook i (List.mem_range.2 (by simpa using hi));simp only [List.getElem?_toArray,ho,Bool.and_eq_true] at h;refine ⟨fun t ht j hj q hq hqd=>?_,fun e he hb=>?_⟩
   ·have h1:=List.all_eq_true.1 (List.all_eq_true.1 h.1 t ht) j (List.mem_range.2 (by simpa using hj));simp only [hq,Option.bind_some,hqd,bne_self_eq_false,Bool.false_or] at h1;exact h1
   ·have h1:=Array.all_eq_true'.1 h.2 e he;simp only [hb,Bool.not_true,Bool.false_or,decide_eq_true_eq] at h1;exact h1
  have hlt:∀ i j,i < l.length→Region.waitsFor .any l.toArray i j=true→j < i:=by
   intro i j hi hw;obtain ⟨o,ho,e,he,hb,hon⟩:=Region.waitsFor_spec hw;rw [←hon];exact (hlk i hi o (by simpa using ho)).2 e he hb
  refine a8d (S:=fun i v w'=>V1 w' (Mof M0 st.h p) st.h p (rs.getD i .any) v) hm hB' (fun i _ v w1 w2 hv hb=>hv.later hb) (fun i hi=>?_) fun vs w' hb hv=>?_
  ·exact x3_ R (Nat.le_refl _) (by rw [List.take_length];exact hd') hN (fun i hi o ho t ht j hj q hq hqd=>(hlk i hi o ho).1 t ht j hj q hq hqd) hlt hrl (by rw [List.take_length];exact hst) i hi
  ·exact ⟨_,p,q5_ R hd' hN hrl hb hv,hK⟩
 ·rename_i hn;have hB':=hB;simp only [Region.specB,Bool.and_eq_true,decide_eq_true_eq] at hB;obtain ⟨⟨⟨⟨⟨⟨hsel,hnl⟩,hs⟩,hc⟩,hd⟩,hlook⟩,hseq⟩:=hB;have hnl':n < l.length:=by simpa using hnl
  have hd':j5_ (l.take n)=true:=by simpa using hd
  have hlen:(l.take n).length=n:=by simp;omega
  have hlk:∀ i,i < n→∀ o,l[i]? = some o→(∀ t∈o.looksAt l.toArray,∀ j,j < n→∀ q,l[j]? = some q→q.dst=some t→Region.waitsFor .any l.toArray i j=true)∧(∀ e∈o.after,Region.binds .any e=true→e.on < i):=by
   intro i hi o ho;have h:=List.all_eq_true.1 hlook i (List.mem_range.2 hi);simp only [List.getElem?_toArray,ho,Bool.and_eq_true] at h;refine ⟨fun t ht j hj q hq hqd=>?_,fun e he hb=>?_⟩
   ·have h1:=List.all_eq_true.1 (List.all_eq_true.1 h.1 t ht) j (List.mem_range.2 hj);simp only [hq,Option.bind_some,hqd,bne_self_eq_false,Bool.false_or] at h1;exact h1
   ·have h1:=Array.all_eq_true'.1 h.2 e he;simp only [hb,Bool.not_true,Bool.false_or,decide_eq_true_eq] at h1;exact h1
  have hlt:∀ i j,i < n→Region.waitsFor .any l.toArray i j=true→j < i:=by
   intro i j hi hw;obtain ⟨o,ho,e,he,hb,hon⟩:=Region.waitsFor_spec hw;rw [←hon];exact (hlk i hi o (by simpa using ho)).2 e he hb
  refine p8_ n (fun i v w'=>V1 w' (Mof M0 st.h p) st.h p (rs.getD i .any) v) hm hB' (fun i _ v w1 w2 hv hb=>hv.later hb) (fun i hi=>?_) fun vs w' hb hv=>?_
  ·exact x3_ R (Nat.le_of_lt hnl') hd' hN (fun i hi o ho t ht j hj q hq hqd=>(hlk i hi o ho).1 t ht j hj q hq hqd) hlt (by rw [hrl,hlen]) hst i hi
  ·have hNt:(l.take n).all (q9_ N)=true:=List.all_eq_true.2 fun q hq=>List.all_eq_true.1 hN q (List.mem_of_mem_take hq);have hNd:(l.drop n).all (q9_ N)=true:=List.all_eq_true.2 fun q hq=>List.all_eq_true.1 hN q (List.mem_of_mem_drop hq);exact r0_ (ow:=ow) hN (fun p st a w R h=>⟨st,p,R,h⟩) (l.drop n) p _ _ w' hNd (q5_ R hd' hNt hrl hb (by rw [hlen];exact hv)) hK
end
def x9_ (pid:Option Nat) (s:List (Nat×AV)) : List (Nat×AV):=match pid with|some id=>s.map (fun q=>(q.1,purge id q.2))|none=>s
def y0_ (d:Option Tmp) (av:AV) (pid:Option Nat) (s:List (Nat×AV)) : List (Nat×AV):=match d with|some d=>(d,av)::x9_ pid s|none=>x9_ pid s
abbrev a8t (d:Option Tmp) (av:AV) (pid:Option Nat) (s:List (Nat×AV)) (H:Hp) : VS:=⟨y0_ d av pid s,H⟩
def a2q (d:Option Tmp) (av:AV) (pid:Option Nat) (cs:List (Nat×AV)) : List (Nat×AV):=match d with|some d=>(d,av)::(match pid with|some _=>[]|none=>cs)|none=>cs
def c0v (st1 st2:VS) : Prop:=∀ (M0:Nat→Nat→Prop) (w0:Bas) (N:Nm) (p:Pl) (a:Act) (w:World),Rel M0 w0 N p st1 a w→Rel M0 w0 N p st2 a w
def b0u (fz:Bool) (av:AV) : AV:=if fz=true then av else .any
def z7_ (fz:Bool) (d:Option Tmp) (av:AV) (pid:Option Nat) (cs:List (Nat×AV)) : List (Nat×AV):=if fz=true then (match pid with|some _=>[]|none=>cs) else a2q d av pid cs
section
variable (P:Program)
def c0w (ow:List Nat) (o:Oper) (cs:List (Nat×AV)) (T:VS) (X X':Hp) (pid:Option Nat) (av:AV) : Prop:=
 o.guard=none∧(o.dst=none→pid=none)∧(∀ id,pid=some id→T.h.length≤id) ∧
  ∀ s2,(∀ t,Operand.tmp t∈o.op.operands→lkp (cs++T.s) t≠.any→lkp s2 t=lkp (cs++T.s) t)→VDo P ow o ⟨s2,T.h++X⟩ fun st'=>c0v st' (a8t o.dst av pid s2 (T.h++X'))
def r2_ (ow:List Nat) (ops:List Oper) (isC:Nat→Bool) : List Oper→Nat→VS→List (Nat×AV)→Hp→(VS→Prop)→Prop
 | [],_,T,cs,X,K=>K ⟨cs++T.s,T.h++X⟩
 | o::l,i,T,cs,X,K=>
  if isC i=true then ∃ X' pid av fz,(c0w P ow o cs T X X' pid av∧(fz=true→h5_ T.h.length 5 av=true))∧r2_ ow ops isC l (i+1) (T.put o.dst (b0u fz av)) (z7_ fz o.dst av pid cs) X' K
  else b7p P ops o T fun T'=>(∀ d,o.dst=some d→h5_ T.h.length 5 (lkp T'.s d)=true)∧r2_ ow ops isC l (i+1) T' cs X K
end
section
variable {P:Program} {M0:Nat→Nat→Prop} {w0:Bas} {N:Nm} {p:Pl} {st:VS} {a:Act} {w:World} {Q:Exit→VS→Prop}
theorem b0v (st:VS) (d:Option Tmp) (r:AV) : (st.put d r).h=st.h:=by cases d<;>rfl
structure ChainSteps (P:Program) (ow:List Nat) (ops:List Oper) (isC:Nat→Bool) (l:List Oper) (i0:Nat) (T:VS) (rs:List AV) (Xs:Nat→Hp) (css:Nat→List (Nat×AV)) : Prop where
 len:rs.length=l.length
 plain:∀ (i:Nat) (o:Oper) (r:AV),isC (i0+i)=false→l[i]? = some o→rs[i]? = some r→q4_ P ops o (d5_ T (l.take i) (rs.take i)) r∧(∀ d,o.dst=some d→h5_ T.h.length 5 r=true)∧Xs (i+1)=Xs i∧css (i+1)=css i
 chain:∀ (i:Nat) (o:Oper),isC (i0+i)=true→l[i]? = some o→∃ pid av fz,rs[i]? = some (b0u fz av)∧c0w P ow o (css i) (d5_ T (l.take i) (rs.take i)) (Xs i) (Xs (i+1)) pid av∧(fz=true→h5_ T.h.length 5 av=true)∧css (i+1)=z7_ fz o.dst av pid (css i)
theorem a3x (st:VS) (d:Nat) (r:AV) : lkp (st.put (some d) r).s d=r:=by simp [VS.put,lkp]
theorem t7_ {ow:List Nat} {ops:List Oper} {isC:Nat→Bool} {K:VS→Prop} : ∀ (l:List Oper) (i0:Nat) (T:VS) (cs:List (Nat×AV)) (X:Hp),r2_ P ow ops isC l i0 T cs X K →
  ∃ rs Xs css,ChainSteps P ow ops isC l i0 T rs Xs css∧Xs 0=X∧css 0=cs∧K ⟨css l.length++(d5_ T l rs).s,T.h++Xs l.length⟩
 | [],i0,T,cs,X,h=>⟨[],fun _=>X,fun _=>cs,⟨rfl,by simp,by simp⟩,rfl,rfl,h⟩
 | o::l,i0,T,cs,X,h=>by
  unfold r2_ at h;by_cases hc:isC i0=true
  ·rw [if_pos hc] at h;obtain ⟨X',pid,av,fz,⟨h1,hfz⟩,h2⟩:=h;obtain ⟨rs,Xs,css,S,e1,e2,hK⟩:=t7_ l (i0+1) _ _ _ h2;refine ⟨b0u fz av::rs,fun i=>match i with|0=>X|i+1=>Xs i,fun i=>match i with|0=>cs|i+1=>css i,⟨by simp [S.len],fun i q r hi hq hr=>?_,fun i q hi hq=>?_⟩,rfl,rfl,?_⟩
   ·cases i with
    | zero=>rw [Nat.add_zero,hc] at hi;cases hi
    | succ i=>
     have:=S.plain i q r (by rw [←hi];congr 1;omega) (by simpa using hq) (by simpa using hr);rw [b0v] at this;simpa [d5_] using this
   ·cases i with
    | zero=>
     simp at hq;subst hq;exact ⟨pid,av,fz,rfl,by simpa [d5_,e1] using h1,hfz,by simp [e2]⟩
    | succ i=>
     have:=S.chain i q (by rw [←hi];congr 1;omega) (by simpa using hq);rw [b0v] at this;simpa [d5_] using this
   ·rw [b0v] at hK;simpa [d5_] using hK
  ·rw [if_neg hc] at h;obtain ⟨r,h1,h2,h3⟩:=a5r h;obtain ⟨rs,Xs,css,S,e1,e2,hK⟩:=t7_ l (i0+1) _ _ _ h3;refine ⟨r::rs,fun i=>match i with|0=>X|i+1=>Xs i,fun i=>match i with|0=>cs|i+1=>css i,⟨by simp [S.len],fun i q x hi hq hr=>?_,fun i q hi hq=>?_⟩,rfl,rfl,?_⟩
   ·cases i with
    | zero=>
     simp at hq hr;subst hq;subst hr;refine ⟨h1,fun d hd=>?_,by simp [e1],by simp [e2]⟩;have:=h2 d hd;rw [hd,a3x] at this;simpa using this
    | succ i=>
     have:=S.plain i q x (by rw [←hi];congr 1;omega) (by simpa using hq) (by simpa using hr);rw [b0v] at this;simpa [d5_] using this
   ·cases i with
    | zero=>rw [Nat.add_zero] at hi;exact absurd hi hc
    | succ i=>
     have:=S.chain i q (by rw [←hi];congr 1;omega) (by simpa using hq);rw [b0v] at this;simpa [d5_] using this
   ·rw [b0v] at hK;simpa [d5_] using hK
theorem s7_ {n id:Nat} (hn:n≤id) : ∀ (k:Nat) (v:AV),h5_ n k v=true→g0_ id k v=true
 | 0,v,h=>by simp [h5_] at h
 | k+1,v,h=>by
  have ih:=s7_ hn k;cases v with
  | agg cs=>simp only [h5_,g0_,List.all_eq_true] at h ⊢;exact fun c hc=>ih c (h c hc)
  | tup cs=>simp only [h5_,g0_,List.all_eq_true] at h ⊢;exact fun c hc=>ih c (h c hc)
  | fn f x y=>simp only [h5_,g0_,Bool.and_eq_true,List.all_eq_true] at h ⊢;exact ⟨fun c hc=>ih c (h.1 c hc),fun c hc=>ih c (h.2 c hc)⟩
  | iface t x=>simp only [h5_,g0_] at h ⊢;exact ih x h
  | ref i o=>simp only [h5_,g0_,decide_eq_true_eq,bne_iff_ne,ne_eq] at h ⊢;omega
  | aref i a b c=>simp only [h5_,g0_,decide_eq_true_eq,bne_iff_ne,ne_eq] at h ⊢;omega
  | osl i=>simp only [h5_,g0_,decide_eq_true_eq,bne_iff_ne,ne_eq] at h ⊢;omega
  | mp i=>simp only [h5_,g0_,decide_eq_true_eq,bne_iff_ne,ne_eq] at h ⊢;omega
  | slw i _ _ _=>simp only [h5_,g0_,decide_eq_true_eq,bne_iff_ne,ne_eq] at h ⊢;omega
  | _=>rfl
theorem b6z {n id:Nat} (hn:n≤id) {v:AV} (h:h5_ n 5 v=true) : purge id v=v:=by
 unfold purge;rw [if_pos (s7_ hn 5 v h)]
theorem z8_ (id:Nat) : ∀ (s:List (Nat×AV)) (i:Nat),lkp (s.map fun q=>(q.1,purge id q.2)) i=purge id (lkp s i)
 | [],i=>by simp [lkp,purge,g0_]
 | q::s,i=>by
  simp only [List.map_cons,lkp];split
  ·rfl
  ·exact z8_ id s i
theorem z9_:∀ (x y:List (Nat×AV)) (t:Nat),lkp (x++y) t=lkp x t∨lkp (x++y) t=lkp y t
 | [],_,_=>.inr rfl
 | q::x,y,t=>by
  simp only [List.cons_append,lkp];split
  ·exact .inl rfl
  ·exact z9_ x y t
theorem Rel.weak {s':List (Nat×AV)} (R:Rel M0 w0 N p st a w) (h:∀ t,lkp s' t=lkp st.s t∨lkp s' t = .any) : Rel M0 w0 N p ⟨s',st.h⟩ a w:=
 ⟨R.defers,R.size,R.below,R.m0,R.x0,fun t=>by
  rcases h t with h|h
  ·show V1 _ _ _ _ (lkp s' t) _;rw [h];exact R.slots t
  ·show V1 _ _ _ _ (lkp s' t) _;rw [h];exact .base _ _ (.any _),R.objs,R.inj⟩
def sOK (n:Nat) : List (Nat×AV)→Prop
 | []=>True
 | q::r=>h5_ n 5 q.2=true∧sOK n r
def hOK (n:Nat) : Hp→Prop
 | []=>True
 | none::r=>hOK n r
 | some ob::r=>c2j n ob=true∧hOK n r
theorem a2r {n:Nat} : ∀ {s:List (Nat×AV)},sOK n s→∀ t,h5_ n 5 (lkp s t)=true
 | [],_,_=>rfl
 | q::s,h,t=>by
  simp only [lkp];split
  ·exact h.1
  ·exact a2r h.2 t
theorem b0w {n:Nat} : ∀ {h:Hp},hOK n h→∀ (id:Nat) (ob:Ob),h[id]? = some (some ob)→c2j n ob=true
 | [],_,_,_,hi=>by simp at hi
 | none::r,h,id,ob,hi=>by
  cases id with
  | zero=>simp at hi
  | succ id=>exact b0w (h:=r) h id ob (by simpa using hi)
 | some x::r,h,id,ob,hi=>by
  cases id with
  | zero=>simp at hi;subst hi;exact h.1
  | succ id=>exact b0w (h:=r) h.2 id ob (by simpa using hi)
theorem V1.short {M:Nat→Nat→Prop} {h X:Hp} {av:AV} {v:Value} (hv:V1 w M (h++X) p av v) (hi:h5_ h.length 5 av=true) : V1 w M h p av v:=
 V1.trunc (fun _ _ hb=>hb) (fun id ob hh=>by rw [List.getElem?_append_left (List.getElem?_eq_some_iff.1 hh).1];exact hh) 5 _ _ hv hi
theorem V1.long {M:Nat→Nat→Prop} {h X:Hp} {av:AV} {v:Value} (hv:V1 w M h p av v) : V1 w M (h++X) p av v:=
 V1.keep (Keeps.refl _ _) (fun _ _ _ hb=>hb) (by simp) (fun _ _=>rfl) (fun id e sz nl es v hid hh ho=>ho e sz nl es (by rw [List.getElem?_append_left hid] at hh;exact hh)) (fun id e sz nl pe qs v hid hh ho=>ho e sz nl pe qs (by rw [List.getElem?_append_left hid] at hh;exact hh))
  (fun id k sz v hid hs=>hs.keep (fun e sz pe qs he=>⟨by rw [List.getElem?_append_left hid] at he;exact he,rfl,rfl,fun _ _ _ _=>rfl⟩) (Nat.le_refl _)) hv
theorem Rel.short_objs {h X:Hp} {s:List (Nat×AV)} (R:Rel M0 w0 N p ⟨s,h++X⟩ a w) (hh:hOK h.length h) (id:Nat) (ob:Ob) (hi:h[id]? = some (some ob)) : ObOK w0 w (Mof M0 (h++X) p) h p id ob:=by
 have ho:=R.objs id ob (by show (h++X)[id]? = _;rw [List.getElem?_append_left (List.getElem?_eq_some_iff.1 hi).1];exact hi);have hids:=b0w hh id ob hi;cases ob with
 | mpo kf kvs=>exact ho
 | box cs=>
  obtain ⟨a1,cur,e,a2,a3,a4,a5⟩:=ho;exact ⟨a1,cur,e,a2,a3,a4,fun j c hj=>let ⟨u,hu,hv⟩:=a5 j c hj;⟨u,hu,V1.short hv (List.all_eq_true.1 hids c (List.mem_of_getElem? hj))⟩⟩
 | arr e sz nl es=>exact ho
 | bag e sz nl pend qs=>exact ho
theorem a7c {n:Nat} {pid:Option Nat} {s:List (Nat×AV)} {t:Nat} (hp:∀ id,pid=some id→n≤id) (hid:h5_ n 5 (lkp s t)=true) : lkp (x9_ pid s) t=lkp s t:=by
 unfold x9_;cases pid with
 | none=>rfl
 | some id=>
  show lkp (s.map fun q=>(q.1,purge id q.2)) t=_;rw [z8_,b6z (hp id rfl) hid]
theorem a7d {n:Nat} {d:Option Tmp} {av:AV} {pid:Option Nat} {s:List (Nat×AV)} {t:Nat} (hne:∀ d',d=some d'→d'≠t) (hp:∀ id,pid=some id→n≤id) (hid:h5_ n 5 (lkp s t)=true) : lkp (y0_ d av pid s) t=lkp s t:=by
 unfold y0_;cases d with
 | none=>exact a7c hp hid
 | some d=>
  show (if d=t then av else lkp (x9_ pid s) t)=_;rw [if_neg (hne d rfl)];exact a7c hp hid
theorem i0_:∀ (l:List Oper) (i:Nat),j5_ l=true→j5_ (l.take i)=true
 | [],i,_=>by simp [j5_]
 | x::l,0,_=>rfl
 | x::l,i+1,h=>by
  simp only [j5_,Bool.and_eq_true] at h;simp only [List.take_succ_cons,j5_,Bool.and_eq_true];refine ⟨?_,i0_ l i h.2⟩;have h1:=h.1;cases hd':x.dst with
  | none=>rfl
  | some d=>
   simp only [hd'] at h1;exact List.all_eq_true.2 fun q hq=>List.all_eq_true.1 h1 q (List.mem_of_mem_take hq)
theorem l4_:∀ {l:List Oper} {i j:Nat} {o q:Oper} {d:Nat},j5_ l=true→l[i]? = some o→l[j]? = some q→o.dst=some d→q.dst=some d→i=j
 | [],i,_,_,_,_,_,hi,_,_,_=>by simp at hi
 | x::l,i,j,o,q,d,h,hi,hj,ho,hq=>by
  obtain ⟨h1,h2⟩:=u9_ h;cases i with
  | zero=>
   simp at hi;subst hi;cases j with
   | zero=>rfl
   | succ j=>exact absurd hq (h1 q (List.mem_of_getElem? (by simpa using hj)) d ho)
  | succ i=>
   cases j with
   | zero=>
    simp at hj;subst hj;exact absurd ho (h1 o (List.mem_of_getElem? (by simpa using hi)) d hq)
   | succ j=>exact congrArg (· + 1) (l4_ h2 (by simpa using hi) (by simpa using hj) ho hq)
theorem ChainSteps.dom {ow:List Nat} {ops l:List Oper} {isC:Nat→Bool} {T:VS} {rs:List AV} {Xs:Nat→Hp} {css:Nat→List (Nat×AV)} (S:ChainSteps P ow ops isC l 0 T rs Xs css) (h0:css 0=[]) :
  ∀ (k:Nat),k≤l.length→∀ t,lkp (css k) t≠.any→∃ c o,c < k∧isC c=true∧l[c]? = some o∧o.dst=some t
 | 0,_,t,h=>by rw [h0] at h;exact absurd rfl h
 | k+1,hk,t,h=>by
  have ho:l[k]? = some l[k]:=List.getElem?_eq_getElem (by omega);by_cases hc:isC k=true
  ·obtain ⟨pid,av,fz,_,_,_,he⟩:=S.chain k l[k] (by rw [Nat.zero_add];exact hc) ho;rw [he] at h;unfold z7_ at h;split at h
   ·cases pid with
    | some _=>exact absurd rfl h
    | none=>
     obtain ⟨c,o,h1,h2,h3,h4⟩:=S.dom h0 k (by omega) t h;exact ⟨c,o,by omega,h2,h3,h4⟩
   unfold a2q at h;split at h
   ·rename_i d hd;by_cases hdt:d=t
    ·subst hdt;exact ⟨k,l[k],by omega,hc,ho,hd⟩
    ·cases pid with
     | some _=>simp [lkp,hdt] at h
     | none=>
      simp only [lkp,hdt,if_false] at h;obtain ⟨c,o,h1,h2,h3,h4⟩:=S.dom h0 k (by omega) t h;exact ⟨c,o,by omega,h2,h3,h4⟩
   ·obtain ⟨c,o,h1,h2,h3,h4⟩:=S.dom h0 k (by omega) t h;exact ⟨c,o,by omega,h2,h3,h4⟩
  ·have hr:rs[k]? = some (rs[k]'(by rw [S.len];omega)):=List.getElem?_eq_getElem _;have:=(S.plain k l[k] _ (by rw [Nat.zero_add];simpa using hc) ho hr).2.2.2;rw [this] at h;obtain ⟨c,o,h1,h2,h3,h4⟩:=S.dom h0 k (by omega) t h;exact ⟨c,o,by omega,h2,h3,h4⟩
theorem ChainSteps.same {ow:List Nat} {ops l:List Oper} {isC:Nat→Bool} {T:VS} {rs:List AV} {Xs:Nat→Hp} {css:Nat→List (Nat×AV)} (S:ChainSteps P ow ops isC l 0 T rs Xs css) {k:Nat} : ∀ (m:Nat),k+m≤l.length→(∀ c,k≤c→c < k+m→isC c=false)→Xs (k+m)=Xs k∧css (k+m)=css k
 | 0,_,_=>⟨rfl,rfl⟩
 | m+1,hk,h=>by
  have ih:=S.same (k:=k) m (by omega) fun c h1 h2=>h c h1 (by omega);have ho:l[k+m]? = some (l[k+m]'(by omega)):=List.getElem?_eq_getElem _;have hr:rs[k+m]? = some (rs[k+m]'(by rw [S.len];omega)):=List.getElem?_eq_getElem _;have:=(S.plain (k+m) _ _ (by rw [Nat.zero_add];exact h (k+m) (by omega) (by omega)) ho hr).2.2;exact ⟨this.1.trans ih.1,this.2.trans ih.2⟩
def chainB (l:List Oper) (n:Nat) (isC:Nat→Bool) : Bool:=(List.range n).all fun c=>!isC c || (List.range c).all fun d=>!isC d || Region.waitsFor .any l.toArray c d
theorem b0x {id:Nat} {l:List Oper} (n:Nat) (ow:List Nat) (isC:Nat→Bool) (hm:P.follows .mixedOrders=true) (hB:Region.specB l.toArray n=true) (hC:chainB l n isC=true) (hs:sOK st.h.length st.s) (hh:hOK st.h.length st.h)
  (h:r2_ P ow l isC (l.take n) 0 st [] [] fun st'=>y2_ P ow l (l.drop n) st' (Q .normal)) : VWp P M0 w0 N (.region id l.toArray true) Q st:=fun hCd p0 a0 wst R0=>by
 have hN:l.all (q9_ N)=true:=by simpa [n7_] using hCd
 obtain ⟨rs,Xs,css,S,e1,e2,hK⟩:=t7_ _ _ _ _ _ h;have hB':=hB;simp only [Region.specB,Bool.and_eq_true,decide_eq_true_eq] at hB';obtain ⟨⟨⟨⟨⟨⟨_,hnl⟩,_⟩,_⟩,hd⟩,hlook⟩,_⟩:=hB';have hnl':n < l.length:=by simpa using hnl
 have hd':j5_ (l.take n)=true:=by simpa using hd
 have hlen:(l.take n).length=n:=by simp;omega
 rw [hlen] at hK;have hat:∀ {i:Nat} {o:Oper},i < n→l[i]? = some o→(l.take n)[i]? = some o:=fun {i o} hi ho=>by rw [List.getElem?_take_of_lt hi];exact ho
 have hta:∀ {i:Nat} {o:Oper},(l.take n)[i]? = some o→i < n∧l[i]? = some o:=fun {i o} ho=>by
  have hi:i < n:=by have:=(List.getElem?_eq_some_iff.1 ho).1;omega
  rw [List.getElem?_take_of_lt hi] at ho;exact ⟨hi,ho⟩
 have hrs:∀ {i:Nat},i < n→rs[i]? = some (rs.getD i .any):=fun {i} hi=>by simp [List.getD,show i < rs.length by rw [S.len,hlen];exact hi]
 have hlk:∀ i,i < n→∀ o,l[i]? = some o→∀ t∈o.looksAt l.toArray,∀ j,j < n→∀ q,l[j]? = some q→q.dst=some t→Region.waitsFor .any l.toArray i j=true∧j < i:=by
  intro i hi o ho;have h:=List.all_eq_true.1 hlook i (List.mem_range.2 hi);simp only [List.getElem?_toArray,ho,Bool.and_eq_true] at h;have haft:∀ e∈o.after,Region.binds .any e=true→e.on < i:=fun e he hb=>by
   have h1:=Array.all_eq_true'.1 h.2 e he;simp only [hb,Bool.not_true,Bool.false_or,decide_eq_true_eq] at h1;exact h1
  intro t ht j hj q hq hqd;have h1:=List.all_eq_true.1 (List.all_eq_true.1 h.1 t ht) j (List.mem_range.2 hj);simp only [hq,Option.bind_some,hqd,bne_self_eq_false,Bool.false_or] at h1;refine ⟨h1,?_⟩;obtain ⟨o',ho',e,he,hb,hon⟩:=Region.waitsFor_spec h1;have:o'=o:=Option.some.inj (ho'.symm.trans (by simpa using ho));subst this;rw [←hon];exact haft e he hb
 have hCw:∀ c d,c < n→d < c→isC c=true→isC d=true→Region.waitsFor .any l.toArray c d=true:=fun c d hc hdc h1 h2=>by
  have:=List.all_eq_true.1 hC c (List.mem_range.2 hc);simp only [h1,Bool.not_true,Bool.false_or] at this;have:=List.all_eq_true.1 this d (List.mem_range.2 hdc);simpa [h2] using this
 have txt_in:∀ {i j:Nat} {q:Oper} {t:Nat},j < i→i≤n→l[j]? = some q→q.dst=some t→lkp (d5_ st ((l.take n).take i) (rs.take i)).s t=rs.getD j .any:=fun {i j q t} hj hi hq ht=>
  r1_ ((l.take n).take i) (rs.take i) st t j q (rs.getD j .any) (i0_ _ _ hd') (by rw [List.getElem?_take_of_lt hj];exact hat (by omega) hq) (by rw [List.getElem?_take_of_lt hj];exact hrs (by omega)) ht
 have txt_out:∀ {i t:Nat},(∀ j q,j < n→l[j]? = some q→q.dst≠some t)→lkp (d5_ st ((l.take n).take i) (rs.take i)).s t=lkp st.s t:=fun {i t} ho=>
  p6_ _ _ _ _ fun q hq he=>by
   obtain ⟨j,hj⟩:=List.mem_iff_getElem?.1 (List.mem_of_mem_take hq);obtain ⟨h1,h2⟩:=hta hj;exact ho j q h1 h2 he
 have hids:∀ {j:Nat} {q:Oper} {d:Nat},j < n→l[j]? = some q→q.dst=some d→h5_ st.h.length 5 (rs.getD j .any)=true:=fun {j q d} hj hq hqd=>by
  cases hc:isC j
  ·exact (S.plain j q _ (by rw [Nat.zero_add];exact hc) (hat hj hq) (hrs hj)).2.1 d hqd
  ·obtain ⟨pid,av,fz,h1,_,h2,_⟩:=S.chain j q (by rw [Nat.zero_add];exact hc) (hat hj hq);rw [hrs hj] at h1;rw [Option.some.inj h1];unfold b0u;split
   ·rename_i hf;exact h2 hf
   ·rfl
 refine wp_region_any hm ?_;refine p2_ (Inv:=fun listed a w=>HeadInv .any l.toArray n listed∧∃ (k:Nat) (p:Pl) (s:List (Nat×AV)),k≤n∧(∀ c,c < n→isC c=true→(listed.getD c false=true↔c < k))∧Rel M0 w0 N p ⟨s,st.h++Xs k⟩ a w ∧
   (∀ (j:Nat) (q:Oper) (d:Nat),j < n→listed.getD j false=true→l[j]? = some q→q.dst=some d→rs.getD j .any = .any∨lkp s d=rs.getD j .any) ∧
   (∀ t,(∀ j q,j < n→l[j]? = some q→q.dst≠some t)→lkp s t=lkp st.s t)∧(∀ t,lkp (css k) t≠.any→lkp s t=lkp (css k) t)) hB (fun _ _ _ inv=>inv.1) ?_ ?_ _ _ _ _ ?_ (by simp)
 ·rintro listed a w i o ⟨head,k,p,s,hk,hkc,R,S1,S2,S3⟩ hi hin ho hiu;have ho':l[i]? = some o:=by simpa using ho
  obtain ⟨_,o2,ho2,hdone⟩:=mem_ready.1 hi;have:o2=o:=Option.some.inj (ho2.symm.trans ho);subst this;have hwait:∀ j,Region.waitsFor .any l.toArray i j=true→listed.getD j false=true:=by
   intro j hj;obtain ⟨o3,ho3,e,he,hb,hon⟩:=Region.waitsFor_spec hj;have:o3=o2:=Option.some.inj (ho3.symm.trans ho);subst this;rw [←hon];exact hdone e he hb
  have hop:∀ t∈o2.looksAt l.toArray,lkp (d5_ st ((l.take n).take i) (rs.take i)).s t = .any∨(lkp (d5_ st ((l.take n).take i) (rs.take i)).s t=lkp s t∧h5_ st.h.length 5 (lkp s t)=true):=fun t ht=>by
   by_cases hex:∃ (j:Nat) (q:Oper),j < n∧l[j]? = some q∧q.dst=some t
   ·obtain ⟨j,q,hj,hq,hqd⟩:=hex;obtain ⟨h1,h2⟩:=hlk i hin o2 ho' t ht j hj q hq hqd;rw [txt_in h2 (by omega) hq hqd];rcases S1 j q t hj (hwait j h1) hq hqd with this|this
    ·exact .inl this
    ·exact .inr ⟨this.symm,by rw [this];exact hids hj hq hqd⟩
   ·have hno:∀ j q,j < n→l[j]? = some q→q.dst≠some t:=fun j q hj hq he=>hex ⟨j,q,hj,hq,he⟩;rw [txt_out hno,S2 t hno];exact .inr ⟨rfl,a2r hs t⟩
  have hnot:∀ {j:Nat} {q:Oper} {d d':Nat},j < n→j≠i→l[j]? = some q→q.dst=some d→o2.dst=some d'→d'≠d:=fun {j q d d'} hj hji hq hqd hd2 he=>by
   subst he;exact hji (l4_ hd' (hat hj hq) (hat hin ho') hqd hd2)
  cases hci:isC i
  ·obtain ⟨hstep,hidr,_,_⟩:=S.plain i o2 (rs.getD i .any) (by rw [Nat.zero_add];exact hci) (hat hin ho') (hrs hin);have fin:∀ v w',V1 w' (Mof M0 (st.h++Xs k) p) st.h p (rs.getD i .any) v→Below w.heap.size w w'→(fun listed a w=>HeadInv .any l.toArray n listed∧∃ (k:Nat) (p:Pl) (s:List (Nat×AV)),k≤n∧(∀ c,c < n→isC c=true→(listed.getD c false=true↔c < k))∧Rel M0 w0 N p ⟨s,st.h++Xs k⟩ a w ∧
     (∀ (j:Nat) (q:Oper) (d:Nat),j < n→listed.getD j false=true→l[j]? = some q→q.dst=some d→rs.getD j .any = .any∨lkp s d=rs.getD j .any) ∧
     (∀ t,(∀ j q,j < n→l[j]? = some q→q.dst≠some t)→lkp s t=lkp st.s t)∧(∀ t,lkp (css k) t≠.any→lkp s t=lkp (css k) t)) (listed.setIfInBounds i true) (a.put o2.dst v) w':=fun v w' hv hb=>by
    have R':=(R.later hb).put (d:=o2.dst) (f8_ (List.all_eq_true.1 hN o2 (List.mem_of_getElem? ho'))) (V1.long hv);have hes:(VS.put ⟨s,st.h++Xs k⟩ o2.dst (rs.getD i .any))=⟨(VS.put ⟨s,st.h++Xs k⟩ o2.dst (rs.getD i .any)).s,st.h++Xs k⟩:=by cases o2.dst<;>rfl
    rw [hes] at R';refine ⟨head.set hi hin,k,p,_,hk,fun c hc hcc=>?_,R',fun j q d hj hl hq hqd=>?_,fun t ht=>?_,fun t ht=>?_⟩
    ·have hne:i≠c:=fun e=>by rw [←e,hci] at hcc;cases hcc
     rw [getD_set_ne false hne];exact hkc c hc hcc
    ·rw [g7_];by_cases hji:j=i
     ·subst hji;have:q=o2:=Option.some.inj (hq.symm.trans ho');subst this;rw [if_pos hqd];exact .inr rfl
     ·rw [if_neg fun e=>hnot hj hji hq hqd e rfl];rw [getD_set_ne false (Ne.symm hji)] at hl;exact S1 j q d hj hl hq hqd
    ·rw [g7_,if_neg (ht i o2 hin ho')];exact S2 t ht
    ·obtain ⟨c,q,h1,h2,h3,h4⟩:=S.dom e2 k (by rw [hlen];exact hk) t ht;obtain ⟨h5,h6⟩:=hta h3;rw [g7_,if_neg fun e=>hnot h5 (fun e=>by rw [e,hci] at h2;cases h2) h6 h4 e rfl];exact S3 t ht
   have hgive:j2_ P st.h (ev (d5_ st ((l.take n).take i) (rs.take i))) o2.op (rs.getD i .any)→gives P o2 a w fun v w''=>V1 w'' (Mof M0 (st.h++Xs k) p) st.h p (rs.getD i .any) v∧Below w.heap.size w w'':=by
    intro hg;refine q1_ (R.short_objs hh) R.mok R.h0 R.glob (fun _ _ hb=>.inl hb) (fun x hx=>?_) hg;cases x with
    | tmp t=>
     show V1 _ _ _ _ (lkp (d5_ st ((l.take n).take i) (rs.take i)).s t) _;rcases hop t (List.mem_append_left _ (List.mem_filterMap.2 ⟨.tmp t,by simpa using hx,rfl⟩)) with h1|⟨h1,h2⟩
     ·rw [h1];exact .base _ _ (.any _)
     ·rw [h1];exact V1.short (R.slots t) h2
    | const v=>exact .base _ _ (.lit v)
    | global g=>exact .base _ _ (R.evalG g)
    | func f=>exact .base _ _ (.lit _)
   have hy:=fun j=>i6_ (ops:=l) (j:=j) R hN;have hguard:∀ (j:Nat) (want:Bool) (v:Value),o2.guard=some (j,want)→e1_ l (d5_ st ((l.take n).take i) (rs.take i)) j = .lit v→e1_ l ⟨s,st.h++Xs k⟩ j = .lit v:=by
    intro j want v hg hv;unfold e1_ at hv ⊢;cases hj:l[j]? with
    | none=>simpa [hj] using hv
    | some q=>
     cases hq:q.dst with
     | none=>simpa [hj,hq] using hv
     | some d=>
      have hmem:d∈o2.looksAt l.toArray:=by
       unfold Oper.looksAt;refine List.mem_append_right _ ?_;simp [hg,hj,hq]
      simp only [hj,hq] at hv ⊢;rcases hop d hmem with h1|⟨h1,_⟩
      ·rw [h1] at hv;cases hv
      ·rw [←h1];exact hv
   unfold wpOp;simp only [ho];unfold q4_ at hstep;split at hstep
   ·rename_i hg;rw [if_pos (by simp [Region.wanted,hg])];rw [h0_] at hstep;exact Or.inl (e2_ (hgive hstep) rfl fun v w' hv=>fin v w' hv.1 hv.2)
   ·rename_i j want hg;split at hstep
    ·rename_i b hb;have hyb:=(hy j).1 b (hguard j want _ hg hb);split at hstep
     ·rename_i hw;subst hw;rw [if_pos (by simp [Region.wanted,hg,hyb])];rw [h0_] at hstep;exact Or.inl (e2_ (hgive hstep) rfl fun v w' hv=>fin v w' hv.1 hv.2)
     ·rename_i hw;rw [if_neg (by simpa [Region.wanted,hg,hyb] using hw)];exact fin undef w (by rw [hstep];exact .base _ _ (.lit _)) (Below.refl _ _)
    ·rename_i us hb;have hyb:=(hy j).2 us (hguard j want _ hg hb);rw [if_neg (by simp [Region.wanted,hg,hyb])];exact fin undef w (by rw [hstep];exact .base _ _ (.lit _)) (Below.refl _ _)
    ·exact hstep.elim
  ·obtain ⟨pid,av,fz,hres,⟨hgd,hdp,hpid,hdo⟩,hfz,hcs⟩:=S.chain i o2 (by rw [Nat.zero_add];exact hci) (hat hin ho');rw [hrs hin] at hres;replace hres:=Option.some.inj hres
   have hki:k≤i:=by
    rcases Nat.lt_or_ge i k with h1|h1
    ·have h2:=(hkc i hin hci).2 h1;rw [getD_both hiu] at h2;cases h2
    ·exact h1
   have hbet:∀ c,k≤c→c < k+(i - k)→isC c=false:=fun c h1 h2=>by
    cases hcc:isC c
    ·rfl
    ·have:=hwait c (hCw i c hin (by omega) hci hcc);have:=(hkc c (by omega) hcc).1 this;omega
   obtain ⟨hX,hcsk⟩:=S.same (k:=k) (i - k) (by rw [hlen];omega) hbet;rw [show k+(i - k)=i by omega] at hX hcsk;rw [hX,hcsk] at hdo;rw [hcsk] at hcs;have hv:=hdo s (fun t ht hne=>by
    rw [h0_] at *;rcases z9_ (css k) (d5_ st ((l.take n).take i) (rs.take i)).s t with h1|h1
    ·rw [h1] at hne ⊢;exact S3 t hne
    ·rw [h1] at hne ⊢;rcases hop t (List.mem_append_left _ (List.mem_filterMap.2 ⟨.tmp t,by simpa using ht,rfl⟩)) with h2|⟨h2,_⟩
     ·exact absurd h2 hne
     ·exact h2.symm)
   rw [h0_] at hv;rw [h0_] at hpid;unfold wpOp;simp only [ho];rw [if_pos (by simp [Region.wanted,hgd])];refine Or.inl (b4z R (List.all_eq_true.1 hN o2 (List.mem_of_getElem? ho')) hv fun p' st' a' w' R' he=>?_);replace R':=he _ _ _ _ _ _ R'
   have hlks:∀ {t:Nat},(∀ d,o2.dst=some d→d≠t)→h5_ st.h.length 5 (lkp s t)=true→lkp (y0_ o2.dst av pid s) t=lkp s t:=fun {t} hne hid=>a7d hne hpid hid;refine ⟨head.set hi hin,i+1,p',_,by omega,fun c hc hcc=>?_,R',fun j q d hj hl hq hqd=>?_,fun t ht=>?_,fun t ht=>?_⟩
   ·by_cases hic:i=c
    ·subst hic;have hisz:i < listed.size:=by rw [head.size];simpa using (by omega:i < l.length)
     simp [hisz]
    ·rw [getD_set_ne false hic];rcases Nat.lt_or_ge c i with h1|h1
     ·have:=hwait c (hCw i c hin h1 hci hcc);exact ⟨fun _=>by omega,fun _=>this⟩
     ·have:=hkc c hc hcc;exact ⟨fun h=>by have:=this.1 h;omega,fun h=>by omega⟩
   ·by_cases hji:j=i
    ·subst hji;have:q=o2:=Option.some.inj (hq.symm.trans ho');subst this;rw [hres];unfold b0u;split
     ·refine .inr ?_;unfold y0_;rw [hqd];simp [lkp]
     ·exact .inl rfl
    ·rw [getD_set_ne false (Ne.symm hji)] at hl;rcases S1 j q d hj hl hq hqd with hsd|hsd
     ·exact .inl hsd
     ·refine .inr ?_;rw [hlks (fun d' hd2=>hnot hj hji hq hqd hd2) (by rw [hsd];exact hids hj hq hqd)];exact hsd
   ·rw [hlks (fun d' hd2 he=>ht i o2 hin ho' (by rw [hd2,he])) (by rw [S2 t ht];exact a2r hs t)];exact S2 t ht
   ·rw [hcs] at ht ⊢;unfold z7_ at ht ⊢;by_cases hf:fz=true
    ·rw [if_pos hf] at ht ⊢;cases pid with
     | some _=>exact absurd rfl ht
     | none=>
      simp only at ht ⊢;obtain ⟨c,q,g1,g2,g3,g4⟩:=S.dom e2 k (by rw [hlen];omega) t ht;obtain ⟨g5,g6⟩:=hta g3;unfold y0_;cases hd2:o2.dst with
      | none=>simp only [x9_];exact S3 t ht
      | some d=>
       simp only [lkp,x9_];rw [if_neg (hnot g5 (by omega) g6 g4 hd2)];exact S3 t ht
    rw [if_neg hf] at ht ⊢;unfold a2q at ht ⊢;unfold y0_;cases hd2:o2.dst with
    | none=>
     simp only [hd2] at ht ⊢;rw [hdp hd2];exact S3 t ht
    | some d=>
     simp only [hd2] at ht ⊢;by_cases hdt:d=t
     ·simp [lkp,hdt]
     ·cases pid with
      | some _=>simp [lkp,hdt] at ht
      | none=>
       simp only [lkp,hdt,if_false,x9_] at ht ⊢;exact S3 t ht
 ·rintro listed a w ⟨head,k,p,s,hk,hkc,R,S1,S2,S3⟩ hall;have hbet:∀ c,k≤c→c < k+(n - k)→isC c=false:=fun c h1 h2=>by
   cases hcc:isC c
   ·rfl
   ·have:=(hkc c (by omega) hcc).1 (hall c (by omega));omega
  obtain ⟨hX,hcsk⟩:=S.same (k:=k) (n - k) (by rw [hlen];omega) hbet;rw [show k+(n - k)=n by omega] at hX hcsk;rw [hX,hcsk] at hK;have hpt:d5_ st (l.take n) rs=d5_ st ((l.take n).take n) (rs.take n):=by
   rw [List.take_of_length_le (l:=l.take n) (by rw [hlen];exact Nat.le_refl _),List.take_of_length_le (l:=rs) (by rw [S.len,hlen];exact Nat.le_refl _)]
  have R':=R.weak (s':=css k++(d5_ st (l.take n) rs).s) fun t=>by
   show lkp (css k++(d5_ st (l.take n) rs).s) t=lkp s t∨_;rcases z9_ (css k) (d5_ st (l.take n) rs).s t with h1|h1
   ·rw [h1];by_cases hne:lkp (css k) t = .any
    ·exact .inr hne
    ·exact .inl (S3 t hne).symm
   ·rw [h1,hpt];by_cases hex:∃ (j:Nat) (q:Oper),j < n∧l[j]? = some q∧q.dst=some t
    ·obtain ⟨j,q,hj,hq,hqd⟩:=hex;rw [txt_in hj (Nat.le_refl _) hq hqd];rcases S1 j q t hj (hall j hj) hq hqd with h5|h5
     ·exact .inr h5
     ·exact .inl h5.symm
    ·have hno:∀ j q,j < n→l[j]? = some q→q.dst≠some t:=fun j q hj hq he=>hex ⟨j,q,hj,hq,he⟩;rw [txt_out hno,S2 t hno];exact .inl rfl
  have hNd:(l.drop n).all (q9_ N)=true:=List.all_eq_true.2 fun q hq=>List.all_eq_true.1 hN q (List.mem_of_mem_drop hq);exact r0_ (ow:=ow) hN (fun p st a w R h=>⟨st,p,R,h⟩) (l.drop n) p _ _ w hNd R' hK
 ·refine ⟨⟨by simp,fun j oj _ hl=>(by rw [getD_replicate_false] at hl;cases hl),fun t _ ht=>getD_in (by simpa using ht) (getD_replicate_false _ _)⟩,0,p0,st.s,Nat.zero_le _,fun c _ _=>⟨fun hl=>(by rw [getD_replicate_false] at hl;cases hl),fun h=>absurd h (Nat.not_lt_zero c)⟩,?_,fun j q d _ hl=>(by rw [getD_replicate_false] at hl;cases hl),fun _ _=>rfl,fun t ht=>?_⟩
  ·rw [e1,List.append_nil];exact R0.later (Below.refl _ _).drew
  ·rw [e2] at ht;exact absurd rfl ht
end
section
variable {P:Program} {ow:List Nat} {ops l:List Oper} {o:Oper} {st:VS} {K:VS→Prop}
theorem a1_ (h:K st) : y2_ P ow ops [] st K:=h
theorem a0_ (h:∀ Y:VS→Prop,(∀ st,y2_ P ow ops l st K→Y st)→VOp P ow ops o st Y) : y2_ P ow ops (o::l) st K:=h _ fun _ h=>h
theorem a5_ (h:K st) : a5q P ops [] st K:=h
theorem a4_ (h:∀ Y:VS→Prop,(∀ st,a5q P ops l st K→Y st)→b7p P ops o st Y) : a5q P ops (o::l) st K:=h _ fun _ h=>h
theorem h3_ {x:Int} (h1 : -9223372036854775808≤x) (h2:x≤9223372036854775807) : IntKind.i64.wrap x=x:=IntWalk.i64_in _ (by omega)
end
attribute [go_sem] b9f d2u dsl b3z d2h b0b c3s k6_ c0t u5_ Value.oneCell' b9l exists_eq_left' VOp VDo b7p d2l e1_ q2_ c3w c3x ev VS.put lkp j2_ a0z a8c a4a a1i g3_ d2g isK a9q b8y a9p d2f c7i unA c3m b3u b3v b9d b3w b3x a6s y9_ b4b a6b b4a c5x a6a g6_ d2i b9j d2v d2w m3_ a9z a8e a5e c7m a2c t4_ b6h g0_ purge b6i b0a p0_ j3_ a2n a5p d4o c2k c8p b5_ z0_ h5_ c2j leS leO leH Le
abbrev I (n:Int) : AV:=.lit (.int .i64 n)
abbrev B (b:Bool) : AV:=.lit (.bool b)
abbrev S (b:ByteArray) : AV:=.lit (.string b)
attribute [go_sem] y0_ x9_ a2q z7_ b0u sOK hOK
section
variable {P:Program} {ow:List Nat} {ops:List Oper} {isC:Nat→Bool} {o:Oper} {l:List Oper} {i:Nat} {T:VS} {cs:List (Nat×AV)} {X:Hp} {K:VS→Prop}
def c0x (n:Nat) (d:Option Tmp) (s:List (Nat×AV)) : Bool:=match d with|some d=>h5_ n 5 (lkp s d)|none=>true
attribute [go_sem] c0x
theorem a0a (h:K ⟨cs++T.s,T.h++X⟩) : r2_ P ow ops isC [] i T cs X K:=h
theorem k2_ (hc:isC i=false) (h:∀ Y:VS→Prop,(∀ T',c0x T.h.length o.dst T'.s=true→r2_ P ow ops isC l (i+1) T' cs X K→Y T')→b7p P ops o T Y) : r2_ P ow ops isC (o::l) i T cs X K:=by
 unfold r2_;rw [if_neg (by rw [hc];simp)];refine h _ fun T' h1 h2=>⟨fun d hd=>?_,h2⟩
 unfold c0x at h1;rw [hd] at h1;exact h1
theorem c4q {K K':VS→Prop} {st:VS} (h:VDo P ow o st K) (hk:∀ st',K st'→K' st') : VDo P ow o st K':=by
 unfold VDo at h ⊢;split
 ·rename_i st' he;rw [he] at h;exact hk _ h
 ·rename_i he;rw [he] at h;simp only at h;split
  ·rename_i st' he;rw [he] at h;exact hk _ h
  ·rename_i he;rw [he] at h;simp only at h;split
   ·rename_i c d hc;rw [hc] at h;obtain ⟨e,sz,nl,es,h1,h2⟩:=h;exact ⟨e,sz,nl,es,h1,hk _ h2⟩
   ·rename_i hc;rw [hc] at h;obtain ⟨r,h1,h2⟩:=h;exact ⟨r,h1,hk _ h2⟩
theorem h6_ (X':Hp) (pid:Option Nat) (av:AV) (hc:isC i=true) (h1:o.guard=none∧(o.dst=none→pid=none)∧∀ id,pid=some id→T.h.length≤id)
  (h2:∀ s2,(∀ t,Operand.tmp t∈o.op.operands→lkp (cs++T.s) t≠.any→lkp s2 t=lkp (cs++T.s) t)→VDo P ow o ⟨s2,T.h++X⟩ fun st'=>st'=a8t o.dst av pid s2 (T.h++X'))
  (h3:r2_ P ow ops isC l (i+1) (T.put o.dst .any) (a2q o.dst av pid cs) X' K) : r2_ P ow ops isC (o::l) i T cs X K:=by
 unfold r2_;rw [if_pos hc];exact ⟨X',pid,av,false,⟨⟨h1.1,h1.2.1,h1.2.2,fun s2 hs2=>c4q (h2 s2 hs2) fun st' e=>by rw [e];exact fun _ _ _ _ _ _ R=>R⟩,fun h=>by cases h⟩,h3⟩
theorem a0s (X':Hp) (pid:Option Nat) (av:AV) (hc:isC i=true) (h1:o.guard=none∧(o.dst=none→pid=none)∧∀ id,pid=some id→T.h.length≤id) (hav:h5_ T.h.length 5 av=true)
  (h2:∀ s2,(∀ t,Operand.tmp t∈o.op.operands→lkp (cs++T.s) t≠.any→lkp s2 t=lkp (cs++T.s) t)→VDo P ow o ⟨s2,T.h++X⟩ fun st'=>c0v st' (a8t o.dst av pid s2 (T.h++X')))
  (h3:r2_ P ow ops isC l (i+1) (T.put o.dst av) (z7_ true o.dst av pid cs) X' K) : r2_ P ow ops isC (o::l) i T cs X K:=by
 unfold r2_;rw [if_pos hc];exact ⟨X',pid,av,true,⟨⟨h1.1,h1.2.1,h1.2.2,h2⟩,fun _=>hav⟩,h3⟩
end
section
variable {P:Program} {M0:Nat→Nat→Prop} {w0:Bas} {N:Nm} {p:Pl} {st:VS} {a:Act} {w:World} {Q:Exit→VS→Prop}
theorem n6_ {h:Hp} {id i:Nat} {ob:Ob} (hi:(h.set id none)[i]? = some (some ob)) : i≠id∧h[i]? = some (some ob):=by
 by_cases hne:i=id
 ·subst hne;by_cases hl:i < h.length
  ·rw [List.getElem?_set_self hl] at hi;simp at hi
  ·rw [List.getElem?_eq_none (by simp;omega)] at hi;simp at hi
 ·rw [List.getElem?_set_ne (fun h=>hne h.symm)] at hi;exact ⟨hne,hi⟩
theorem Mof.drop {h:Hp} {p:Pl} {id b j:Nat} (hb:¬Mof M0 h p b j) : ¬Mof M0 (h.set id none) p b j:=fun hb'=>by
 rcases hb' with h|⟨i,ob,hi,hl,hp⟩
 ·exact hb (.inl h)
 ·exact hb (.inr ⟨i,ob,(n6_ hi).2,hl,hp⟩)
theorem Rel.reheap (R:Rel M0 w0 N p st a w) (h':Hp) (hl:st.h.length≤h'.length) (hlive:∀ (i:Nat) (ob:Ob),h'[i]? = some (some ob)→m8_ ob=true→∃ ob',st.h[i]? = some (some ob')∧m8_ ob'=true)
  (harr:∀ (i e sz:Nat) (nl:Bool) (es:List (List AV)),i < st.h.length→h'[i]? = some (some (.arr e sz nl es))→st.h[i]? = some (some (.arr e sz nl es)))
  (hbag:∀ (i e sz:Nat) (nl:Bool) (pe:Option Nat) (qs:List (List (List AV))),i < st.h.length→h'[i]? = some (some (.bag e sz nl pe qs))→st.h[i]? = some (some (.bag e sz nl pe qs)))
  (hobj:∀ (i:Nat) (ob:Ob),h'[i]? = some (some ob)→st.h[i]?≠some (some ob)→(∀ {av:AV} {v:Value},V1 w (Mof M0 st.h p) st.h p av v→V1 w (Mof M0 h' p) h' p av v)→ObOK w0 w (Mof M0 h' p) h' p i ob) :
  Rel M0 w0 N p ⟨st.s,h'⟩ a w∧∀ {av:AV} {v:Value},V1 w (Mof M0 st.h p) st.h p av v→V1 w (Mof M0 h' p) h' p av v:=by
 have hM:∀ b j,¬Mof M0 st.h p b j→¬Mof M0 h' p b j:=fun b j hb hb'=>by
  rcases hb' with h|⟨i,ob,hi,hlv,hp⟩
  ·exact hb (.inl h)
  ·obtain ⟨ob',h1,h2⟩:=hlive i ob hi hlv;exact hb (.inr ⟨i,ob',h1,h2,hp⟩)
 have keep:∀ {av:AV} {v:Value},V1 w (Mof M0 st.h p) st.h p av v→V1 w (Mof M0 h' p) h' p av v:=fun hv=>
  hv.keep (Keeps.refl _ _) (fun b j _ h=>hM b j h) hl (fun _ _=>rfl) (fun i e sz nl es v hil he hv=>hv _ _ _ _ (harr _ _ _ _ _ hil he)) (fun i e sz nl pe qs v hil he hv=>hv _ _ _ _ _ (hbag _ _ _ _ _ _ hil he)) (fun i k sz v hil hs=>hs.keep (fun e sz pe qs he=>⟨hbag _ _ _ _ _ _ hil he,rfl,rfl,fun _ _ _ _=>rfl⟩) (Nat.le_refl _))
 refine ⟨⟨R.defers,R.size,R.below,R.m0,R.x0,fun i=>keep (R.slots i),fun i ob hi=>?_,fun i i' ob ob' hi hi' hlv hlv' b j j' hO hO'=>?_⟩,keep⟩
 ·by_cases hs:st.h[i]? = some (some ob)
  ·exact (R.objs i ob hs).keep (fun _=>⟨rfl,rfl⟩) (fun _ _ _ _ _=>rfl) (Nat.le_refl _) (fun hx=>hx.keep (Keeps.refl _ _) fun b j _=>hM b j) fun _ _ _ _ _ hx=>keep hx
  ·exact hobj i ob hi hs keep
 ·obtain ⟨o1,h1,l1⟩:=hlive i ob hi hlv;obtain ⟨o2,h2,l2⟩:=hlive i' ob' hi' hlv';exact R.inj i i' o1 o2 h1 h2 l1 l2 b j j' hO hO'
theorem Rel.drop (R:Rel M0 w0 N p st a w) (id:Nat) : Rel M0 w0 N p ⟨st.s,st.h.set id none⟩ a w:=
 (R.reheap (st.h.set id none) (by simp) (fun i ob hi hl=>⟨ob,(n6_ hi).2,hl⟩) (fun i e sz nl es _ hi=>(n6_ hi).2) (fun i e sz nl pe qs _ hi=>(n6_ hi).2) fun i ob hi hne _=>absurd (n6_ hi).2 hne).1
theorem Rel.freeze (R:Rel M0 w0 N p st a w) {id t e sz:Nat} {nl:Bool} {es:List (List AV)} (ht:lkp st.s t = .osl id) (hi:st.h[id]? = some (some (.arr e sz nl es))) :
  Rel M0 w0 N p ⟨(t,.sl sz es)::st.s,st.h.set id none⟩ a w:=by
 have D:=R.drop id;refine ⟨D.defers,D.size,D.below,D.m0,D.x0,fun i=>?_,D.objs,D.inj⟩;by_cases hit:t=i
 ·subst hit;simp only [lkp,if_true];have hv:=R.slots t;rw [ht] at hv;obtain ⟨A,n,c,hu,hid,ho⟩:=hv.osl_inv;have hO:=ho _ _ _ _ hi;obtain ⟨o1,o2,o3⟩:=R.objs id _ hi;refine .base _ _ ?_;generalize a.tmps.getD t undef=v at hu hO;by_cases hnl:nl=true
  ·rw [if_pos hnl] at o3;unfold Osl at hO;rw [if_pos hnl] at hO;obtain ⟨⟨A,hO⟩,_⟩:=hO;rw [hO,o3];exact .slNil _ _ _
  ·rw [if_neg hnl] at o3;unfold Osl at hO;rw [if_neg hnl] at hO;obtain ⟨cap,cur,e1,e2,e3,e4,e5⟩:=hO;obtain ⟨q1,cur',q2,q3,q4⟩:=o3;have hcc:cur'=cur:=by
    rw [q2] at e2;injection e2 with e2
    injection e2 with e2
   subst hcc;rw [e1];by_cases hes:es=[]
   ·subst hes;exact .slNil _ _ _
   ·have hb:p id < w.heap.size:=(Array.getElem?_eq_some_iff.1 e2).1;have hlv:m8_ (.arr e sz nl es)=true:=by
     cases nl
     ·rfl
     ·exact absurd rfl hnl
    have hMn:∀ j,¬Mof M0 (st.h.set id none) p (p id) j:=by
     rintro j (h|⟨i,ob,hi2,hl,hp⟩)
     ·exact R.h0 _ _ h (q1.1 j)
     ·obtain ⟨hne,hi3⟩:=n6_ hi2;exact hne (R.inj i id ob _ hi3 hi hl hlv _ _ 0 hp (.inl rfl))
    have hM:∀ b j,¬Mof M0 st.h p b j→¬Mof M0 (st.h.set id none) p b j:=fun b j=>Mof.drop;have hcell:∀ j,w.cell? ⟨p id,j,none⟩=cur'[j]?:=fun j=>by simp [World.cell?,e2]
    have hlen:∀ (k:Nat) (x:List AV),es[k]? = some x→x.length=sz:=fun k x hk=>(o2 k x hk).1;refine .sl sz es cap (p id) 0 (fun k j=>(cur'[k*sz+j]?).getD undef) hes hb (fun _ _ _ _=>hMn _) e4 hlen (fun k x j c hk hj=>(o2 k x hk).2 c (List.mem_of_getElem? hj)) (fun k j hk hj=>?_) fun k x j c hk hj=>?_
    ·rw [Nat.zero_add,hcell];have hx:es[k]? = some es[k]:=List.getElem?_eq_getElem hk;have hjl:j < es[k].length:=by rw [hlen k _ hx];exact hj
     obtain ⟨u,hu,_⟩:=q4 k _ j _ hx (List.getElem?_eq_getElem hjl);rw [hu];rfl
    ·obtain ⟨u,hu,hv⟩:=q4 k x j c hk hj;rw [hu];exact hv.keep (Keeps.refl _ _) (fun b j _ h=>hM b j h)
 ·simp only [lkp,if_neg hit];exact D.slots i
theorem x4_ {c:Code} (t id:Nat) {e sz:Nat} {nl:Bool} {es:List (List AV)} (ht:lkp st.s t = .osl id) (hi:st.h[id]? = some (some (.arr e sz nl es))) (h:VWp P M0 w0 N c Q ⟨(t,.sl sz es)::st.s,st.h.set id none⟩) : VWp P M0 w0 N c Q st:=
 fun hB p a w R=>h hB p a w (R.freeze ht hi)
theorem a0t {s:List (Nat×AV)} {H H':Hp} {d id e sz:Nat} {nl:Bool} {es:List (List AV)} (hi:H[id]? = some (some (.arr e sz nl es))) (hH:H'=H.set id none) : c0v ⟨(d,.osl id)::s,H⟩ ⟨(d,.sl sz es)::s,H'⟩:=by
 subst hH;intro M0 w0 N p a w R;refine (R.freeze (t:=d) (id:=id) (by simp [lkp]) hi).weak (s':=(d,.sl sz es)::s) fun t=>.inl ?_;simp only [lkp];split<;>rfl
end
theorem VC.weak {P:Program} {f:FuncId} {args:List AV} {r r':AV} (h:VC P f args r) (hr:∀ (w:World) (M:Nat→Nat→Prop) (v:Value),V0 w M r v→V0 w M r' v) : VC P f args r':=
 ⟨h.1,fun w M vs hM hl hv=>(h.2 w M vs hM hl hv).mono fun _ _ ⟨v,he,hb,h0⟩=>⟨v,he,hb,hr _ _ _ h0⟩⟩
theorem V0.nilSl {w:World} {M:Nat→Nat→Prop} {v:Value} (h:V0 w M (.lit (.slice none 0 0)) v) (sz:Nat) : V0 w M (.sl sz []) v:=by
 cases h with
 | lit=>exact .slNil _ _ _
def b5c:AV→Bool
 | .lit (.bool b)=>b
 | _=>false
attribute [go_sem] b5c
def IsB (b want:Bool) : Prop:=b=want
def IsG (x y:AV) : Prop:=x=y
theorem IsB.out {b want:Bool} (h:IsB b want) : b=want:=h
section
variable {P:Program} {M0:Nat→Nat→Prop} {w0:Bas} {N:Nm} {st:VS} {Q:Exit→VS→Prop}
theorem c0y {c:Operand} {x y:Code} (hc:ev st c = .lit (.bool (b5c (ev st c)))) (h1:IsB (b5c (ev st c)) true→VWp P M0 w0 N x Q st) (h2:IsB (b5c (ev st c)) false→VWp P M0 w0 N y Q st) : VWp P M0 w0 N (.cond c x y) Q st:=c8o hc h1 h2
theorem x5_ {ow:List Nat} {ops:List Oper} {o:Oper} {l:List Oper} {K:VS→Prop} {j:Nat} {want:Bool} (C:Prop) [Decidable C] (hg:o.guard=some (j,want)) (hc:C→e1_ ops st j = .lit (.bool want)) (hn:¬C→e1_ ops st j = .lit (.bool (!want))∨e1_ ops st j = .lit undef) (ht:q2_ P ow st o=none∧s6_ P st o=none∧u5_ ow o=none)
  {r:AV} (h:C→j2_ P st.h (ev st) o.op r) (hK:∀ Y:VS→Prop,(∀ st,y2_ P ow ops l st K→Y st)→Y (st.put o.dst (if C then r else .lit undef))) : y2_ P ow ops (o::l) st K:=by
 refine a0_ fun Y Z=>?_;have hk:=hK Y Z;unfold VOp;rw [hg];simp only;by_cases hC:C
 ·rw [hc hC];simp only [if_true];rw [if_pos hC] at hk;unfold VDo;rw [ht.1,ht.2.1,ht.2.2];exact ⟨r,h hC,hk⟩
 ·rw [if_neg hC] at hk;rcases hn hC with e|e
  ·rw [e];simp only;rw [if_neg (by cases want<;>simp)];exact hk
  ·rw [e];exact hk
theorem m9_ {ow:List Nat} {ops:List Oper} {o:Oper} {l:List Oper} {K:VS→Prop} {j:Nat} {want:Bool}  {b:Bool} {r:AV} (hg:o.guard=some (j,want)) (hb:IsG (e1_ ops st j) ((.lit (.bool b)))) (ht:q2_ P ow st o=none∧s6_ P st o=none∧u5_ ow o=none)
  (h:IsB b want→j2_ P st.h (ev st) o.op r) (hK:∀ Y:VS→Prop,(∀ st,y2_ P ow ops l st K→Y st)→Y (st.put o.dst (w1_ b want r))) : y2_ P ow ops (o::l) st K:=by
 refine x5_ (r:=r) (b=want) hg (fun hC=>?_) (fun hC=>?_) ht (fun hC=>?_) fun Y Z=>?_
 ·rw [show e1_ ops st j=_ from hb,hC]
 ·rw [show e1_ ops st j=_ from hb];revert hC
  cases b<;>cases want<;>simp
 ·exact h hC
 ·exact hK Y Z
theorem a5s {ow:List Nat} {ops:List Oper} {o:Oper} {l:List Oper} {K:VS→Prop} {j:Nat} {want:Bool} {c0 w0:Bool} {b:Bool} {r:AV} (hg:o.guard=some (j,want)) (hb:IsG (e1_ ops st j) ((w1_ c0 w0 (.lit (.bool b))))) (ht:q2_ P ow st o=none∧s6_ P st o=none∧u5_ ow o=none)
  (h:IsB c0 w0→IsB b want→j2_ P st.h (ev st) o.op r) (hK:∀ Y:VS→Prop,(∀ st,y2_ P ow ops l st K→Y st)→Y (st.put o.dst (w1_ c0 w0 (w1_ b want r)))) : y2_ P ow ops (o::l) st K:=by
 refine x5_ (r:=r) (c0=w0∧b=want) hg (fun hC=>?_) (fun hC=>?_) ht (fun hC=>?_) fun Y Z=>?_
 ·rw [show e1_ ops st j=_ from hb];simp only [w1_,hC,if_true]
 ·rw [show e1_ ops st j=_ from hb];simp only [w1_];revert hC
  cases c0<;>cases w0<;>cases b<;>cases want<;>simp
 ·exact h hC.1 hC.2
 ·have hk:=hK Y Z;have e:(w1_ c0 w0 (w1_ b want r))=if c0=w0∧b=want then r else .lit undef:=by
   simp only [w1_];cases c0<;>cases w0<;>cases b<;>cases want<;>simp
  rw [e] at hk;exact hk
theorem a5t {ow:List Nat} {ops:List Oper} {o:Oper} {l:List Oper} {K:VS→Prop} {j:Nat} {want:Bool} {c0 w0:Bool} {c1 w1:Bool} {b:Bool} {r:AV} (hg:o.guard=some (j,want)) (hb:IsG (e1_ ops st j) ((w1_ c0 w0 (w1_ c1 w1 (.lit (.bool b)))))) (ht:q2_ P ow st o=none∧s6_ P st o=none∧u5_ ow o=none)
  (h:IsB c0 w0→IsB c1 w1→IsB b want→j2_ P st.h (ev st) o.op r) (hK:∀ Y:VS→Prop,(∀ st,y2_ P ow ops l st K→Y st)→Y (st.put o.dst (w1_ c0 w0 (w1_ c1 w1 (w1_ b want r))))) : y2_ P ow ops (o::l) st K:=by
 refine x5_ (r:=r) (c0=w0∧c1=w1∧b=want) hg (fun hC=>?_) (fun hC=>?_) ht (fun hC=>?_) fun Y Z=>?_
 ·rw [show e1_ ops st j=_ from hb];simp only [w1_,hC,if_true]
 ·rw [show e1_ ops st j=_ from hb];simp only [w1_];revert hC
  cases c0<;>cases w0<;>cases c1<;>cases w1<;>cases b<;>cases want<;>simp
 ·exact h hC.1 hC.2.1 hC.2.2
 ·have hk:=hK Y Z;have e:(w1_ c0 w0 (w1_ c1 w1 (w1_ b want r)))=if c0=w0∧c1=w1∧b=want then r else .lit undef:=by
   simp only [w1_];cases c0<;>cases w0<;>cases c1<;>cases w1<;>cases b<;>cases want<;>simp
  rw [e] at hk;exact hk
theorem a5u {ow:List Nat} {ops:List Oper} {o:Oper} {l:List Oper} {K:VS→Prop} {j:Nat} {want:Bool} {c0 w0:Bool} {c1 w1:Bool} {c2 w2:Bool} {b:Bool} {r:AV} (hg:o.guard=some (j,want)) (hb:IsG (e1_ ops st j) ((w1_ c0 w0 (w1_ c1 w1 (w1_ c2 w2 (.lit (.bool b))))))) (ht:q2_ P ow st o=none∧s6_ P st o=none∧u5_ ow o=none)
  (h:IsB c0 w0→IsB c1 w1→IsB c2 w2→IsB b want→j2_ P st.h (ev st) o.op r) (hK:∀ Y:VS→Prop,(∀ st,y2_ P ow ops l st K→Y st)→Y (st.put o.dst (w1_ c0 w0 (w1_ c1 w1 (w1_ c2 w2 (w1_ b want r)))))) : y2_ P ow ops (o::l) st K:=by
 refine x5_ (r:=r) (c0=w0∧c1=w1∧c2=w2∧b=want) hg (fun hC=>?_) (fun hC=>?_) ht (fun hC=>?_) fun Y Z=>?_
 ·rw [show e1_ ops st j=_ from hb];simp only [w1_,hC,if_true]
 ·rw [show e1_ ops st j=_ from hb];simp only [w1_];revert hC
  cases c0<;>cases w0<;>cases c1<;>cases w1<;>cases c2<;>cases w2<;>cases b<;>cases want<;>simp
 ·exact h hC.1 hC.2.1 hC.2.2.1 hC.2.2.2
 ·have hk:=hK Y Z;have e:(w1_ c0 w0 (w1_ c1 w1 (w1_ c2 w2 (w1_ b want r))))=if c0=w0∧c1=w1∧c2=w2∧b=want then r else .lit undef:=by
   simp only [w1_];cases c0<;>cases w0<;>cases c1<;>cases w1<;>cases c2<;>cases w2<;>cases b<;>cases want<;>simp
  rw [e] at hk;exact hk
end
@[go_sem] theorem ti3:c3_ Tryd.prog 3=some ⟨5,1,8,0,1,0,.i64,[],[.int .i64 0]⟩:=by kernel_rfl
@[go_sem] theorem ti4:c3_ Tryd.prog 4=some ⟨6,1,1,0,1,0,.i64,[],[.bool false]⟩:=by kernel_rfl
@[go_sem] theorem ti5:c3_ Tryd.prog 5=some ⟨5,1,1,0,1,0,.u8,[],[.int .u8 0]⟩:=by kernel_rfl
@[go_sem] theorem ti9:c3_ Tryd.prog 9=some ⟨4,1,16,0,1,0,.i64,[],[.string ⟨#[]⟩]⟩:=by kernel_rfl
@[go_sem] theorem d6d:c3_ Tryd.prog 20=some ⟨9,1,16,0,1,0,.i64,[],[.nilIface]⟩:=by kernel_rfl
@[go_sem] theorem d6e:c3_ Tryd.prog 22=some ⟨1,1,24,40,4,0,.i64,[],[.slice none 0 0]⟩:=by kernel_rfl
@[go_sem] theorem d6f:c3_ Tryd.prog 24=some ⟨3,3,40,0,1,0,.i64,[(0,1,false),(1,1,false),(2,1,false)],[.slice none 0 0,.int .i64 0,.int .i64 0]⟩:=by kernel_rfl
@[go_sem] theorem d6g:c3_ Tryd.prog 25=some ⟨1,1,24,29,4,0,.i64,[],[.slice none 0 0]⟩:=by kernel_rfl
@[go_sem] theorem d6h:c3_ Tryd.prog 29=some ⟨3,4,40,0,1,0,.i64,[(0,1,false),(1,1,false),(2,1,false),(3,1,false)],[.int .i64 0,.int .i64 0,.int .i64 0,.string ⟨#[]⟩]⟩:=by kernel_rfl
@[go_sem] theorem d6i:c3_ Tryd.prog 30=some ⟨1,1,24,38,4,0,.i64,[],[.slice none 0 0]⟩:=by kernel_rfl
@[go_sem] theorem d6j:c3_ Tryd.prog 31=some ⟨5,1,8,0,1,0,.i64,[],[.int .i64 0]⟩:=by kernel_rfl
@[go_sem] theorem d6k:c3_ Tryd.prog 38=some ⟨3,4,40,0,1,0,.i64,[(0,1,false),(1,1,false),(2,1,false),(3,1,false)],[.string ⟨#[]⟩,.int .i64 0,.int .i64 0,.int .i64 0]⟩:=by kernel_rfl
@[go_sem] theorem d6l:c3_ Tryd.prog 40=some ⟨3,4,40,0,1,0,.i64,[(0,1,false),(1,1,false),(2,1,false),(3,1,false)],[.string ⟨#[]⟩,.int .i64 0,.int .i64 0,.bool false]⟩:=by kernel_rfl
@[go_sem] theorem d5e:c3_ Tryd.prog 42=some ⟨1,1,24,81,1,0,.i64,[],[.slice none 0 0]⟩:=by kernel_rfl
@[go_sem] theorem d6m:c3_ Tryd.prog 43=some ⟨1,1,24,85,3,0,.i64,[],[.slice none 0 0]⟩:=by kernel_rfl
@[go_sem] theorem d4p:c3_ Tryd.prog 45=some ⟨3,3,56,0,1,0,.i64,[(0,1,false),(1,1,false),(2,1,false)],[.slice none 0 0,.slice none 0 0,.int .i64 0]⟩:=by kernel_rfl
@[go_sem] theorem d6n:c3_ Tryd.prog 56=some ⟨2,3,24,3,1,3,.i64,[],[.int .i64 0,.int .i64 0,.int .i64 0]⟩:=by kernel_rfl
@[go_sem] theorem d5f:c3_ Tryd.prog 60=some ⟨3,3,32,0,1,0,.i64,[(0,1,false),(1,1,false),(2,1,false)],[.int .i64 0,.int .i64 0,.string ⟨#[]⟩]⟩:=by kernel_rfl
@[go_sem] theorem d5g:c3_ Tryd.prog 61=some ⟨1,1,24,60,3,0,.i64,[],[.slice none 0 0]⟩:=by kernel_rfl
@[go_sem] theorem d6o:c3_ Tryd.prog 68=some ⟨7,1,8,74,4,0,.i64,[],[.pointer none]⟩:=by kernel_rfl
@[go_sem] theorem d6p:c3_ Tryd.prog 71=some ⟨10,1,8,0,1,0,.i64,[],[.map none]⟩:=by kernel_rfl
@[go_sem] theorem d6q:c3_ Tryd.prog 72=some ⟨1,1,24,140,3,0,.i64,[],[.slice none 0 0]⟩:=by kernel_rfl
@[go_sem] theorem d6r:c3_ Tryd.prog 74=some ⟨3,4,64,0,1,0,.i64,[(0,1,false),(1,1,false),(2,1,false),(3,1,false)],[.slice none 0 0,.map none,.slice none 0 0,.map none]⟩:=by kernel_rfl
@[go_sem] theorem d6s:c3_ Tryd.prog 75=some ⟨7,1,8,80,7,0,.i64,[],[.pointer none]⟩:=by kernel_rfl
@[go_sem] theorem d6t:c3_ Tryd.prog 78=some ⟨8,1,8,0,1,0,.i64,[],[.nilFunc]⟩:=by kernel_rfl
@[go_sem] theorem d6u:c3_ Tryd.prog 80=some ⟨3,7,120,0,1,0,.i64,[(0,3,true),(3,3,true),(6,1,false)],[.slice none 0 0,.slice none 0 0,.int .i64 0,.slice none 0 0,.int .i64 0,.int .i64 0,.slice none 0 0]⟩:=by kernel_rfl
@[go_sem] theorem c8r:c3_ Tryd.prog 81=some ⟨1,1,24,9,1,0,.i64,[],[.slice none 0 0]⟩:=by kernel_rfl
@[go_sem] theorem d2m:c3_ Tryd.prog 85=some ⟨3,3,32,0,1,0,.i64,[(0,1,false),(1,1,false),(2,1,false)],[.string ⟨#[]⟩,.int .i64 0,.int .i64 0]⟩:=by kernel_rfl
@[go_sem] theorem d6v:c3_ Tryd.prog 95=some ⟨1,1,24,3,1,0,.i64,[],[.slice none 0 0]⟩:=by kernel_rfl
@[go_sem] theorem d5h:c3_ Tryd.prog 108=some ⟨1,1,24,31,1,0,.i64,[],[.slice none 0 0]⟩:=by kernel_rfl
@[go_sem] theorem d5i:c3_ Tryd.prog 109=some ⟨10,1,8,0,1,0,.i64,[],[.map none]⟩:=by kernel_rfl
@[go_sem] theorem d5j:c3_ Tryd.prog 110=some ⟨8,1,8,0,1,0,.i64,[],[.nilFunc]⟩:=by kernel_rfl
@[go_sem] theorem d5k:c3_ Tryd.prog 114=some ⟨8,1,8,0,1,0,.i64,[],[.nilFunc]⟩:=by kernel_rfl
@[go_sem] theorem d5l:c3_ Tryd.prog 116=some ⟨3,2,24,0,1,0,.i64,[(0,1,false),(1,1,false)],[.string ⟨#[]⟩,.nilFunc]⟩:=by kernel_rfl
@[go_sem] theorem d5m:c3_ Tryd.prog 117=some ⟨2,12,144,116,2,6,.i64,[],[.string ⟨#[]⟩,.nilFunc,.string ⟨#[]⟩,.nilFunc,.string ⟨#[]⟩,.nilFunc,.string ⟨#[]⟩,.nilFunc,.string ⟨#[]⟩,.nilFunc,.string ⟨#[]⟩,.nilFunc]⟩:=by kernel_rfl
@[go_sem] theorem d5n:c3_ Tryd.prog 120=some ⟨1,1,24,5,1,0,.i64,[],[.slice none 0 0]⟩:=by kernel_rfl
@[go_sem] theorem d5o:c3_ Tryd.prog 121=some ⟨8,1,8,0,1,0,.i64,[],[.nilFunc]⟩:=by kernel_rfl
@[go_sem] theorem d5p:c3_ Tryd.prog 122=some ⟨8,1,8,0,1,0,.i64,[],[.nilFunc]⟩:=by kernel_rfl
@[go_sem] theorem d5q:c3_ Tryd.prog 138=some ⟨7,1,8,38,4,0,.i64,[],[.pointer none]⟩:=by kernel_rfl
@[go_sem] theorem d5r:c3_ Tryd.prog 140=some ⟨3,3,32,0,1,0,.i64,[(0,1,false),(1,1,false),(2,1,false)],[.string ⟨#[]⟩,.int .i64 0,.int .i64 0]⟩:=by kernel_rfl
@[go_sem] theorem d5s:c3_ Tryd.prog 144=some ⟨8,1,8,0,1,0,.i64,[],[.nilFunc]⟩:=by kernel_rfl
@[go_sem] theorem d5t:c3_ Tryd.prog 148=some ⟨8,1,8,0,1,0,.i64,[],[.nilFunc]⟩:=by kernel_rfl
@[go_sem] theorem d5u:c3_ Tryd.prog 150=some ⟨5,1,8,0,1,0,.u64,[],[.int .u64 0]⟩:=by kernel_rfl
@[go_sem] theorem d5v:c3_ Tryd.prog 161=some ⟨2,20,160,150,1,20,.i64,[],[.int .u64 0,.int .u64 0,.int .u64 0,.int .u64 0,.int .u64 0,.int .u64 0,.int .u64 0,.int .u64 0,.int .u64 0,.int .u64 0,.int .u64 0,.int .u64 0,.int .u64 0,.int .u64 0,.int .u64 0,.int .u64 0,.int .u64 0,.int .u64 0,.int .u64 0,.int .u64 0]⟩:=by kernel_rfl
@[go_sem] theorem d5w:c3_ Tryd.prog 167=some ⟨2,32,32,5,1,32,.i64,[],[.int .u8 0,.int .u8 0,.int .u8 0,.int .u8 0,.int .u8 0,.int .u8 0,.int .u8 0,.int .u8 0,.int .u8 0,.int .u8 0,.int .u8 0,.int .u8 0,.int .u8 0,.int .u8 0,.int .u8 0,.int .u8 0,.int .u8 0,.int .u8 0,.int .u8 0,.int .u8 0,.int .u8 0,.int .u8 0,.int .u8 0,.int .u8 0,.int .u8 0,.int .u8 0,.int .u8 0,.int .u8 0,.int .u8 0,.int .u8 0,.int .u8 0,.int .u8 0]⟩:=by kernel_rfl
@[go_sem] theorem d5x:c3_ Tryd.prog 168=some ⟨2,64,64,5,1,64,.i64,[],[.int .u8 0,.int .u8 0,.int .u8 0,.int .u8 0,.int .u8 0,.int .u8 0,.int .u8 0,.int .u8 0,.int .u8 0,.int .u8 0,.int .u8 0,.int .u8 0,.int .u8 0,.int .u8 0,.int .u8 0,.int .u8 0,.int .u8 0,.int .u8 0,.int .u8 0,.int .u8 0,.int .u8 0,.int .u8 0,.int .u8 0,.int .u8 0,.int .u8 0,.int .u8 0,.int .u8 0,.int .u8 0,.int .u8 0,.int .u8 0,.int .u8 0,.int .u8 0,.int .u8 0,.int .u8 0,.int .u8 0,.int .u8 0,.int .u8 0,.int .u8 0,.int .u8 0,.int .u8 0,.int .u8 0,.int .u8 0,.int .u8 0,.int .u8 0,.int .u8 0,.int .u8 0,.int .u8 0,.int .u8 0,.int .u8 0,.int .u8 0,.int .u8 0,.int .u8 0,.int .u8 0,.int .u8 0,.int .u8 0,.int .u8 0,.int .u8 0,.int .u8 0,.int .u8 0,.int .u8 0,.int .u8 0,.int .u8 0,.int .u8 0,.int .u8 0]⟩:=by kernel_rfl
@[go_sem] theorem d5y:c3_ Tryd.prog 182=some ⟨3,2,16,0,1,0,.i64,[(0,1,false),(1,1,false)],[.int .i64 0,.int .i64 0]⟩:=by kernel_rfl
@[go_sem] theorem d5z:c3_ Tryd.prog 190=some ⟨8,1,8,0,1,0,.i64,[],[.nilFunc]⟩:=by kernel_rfl
@[go_sem] theorem d6w:a9u Tryd.prog 71=some ((4,.i64),.int .i64 0):=by kernel_rfl
@[go_sem] theorem d6a:a9u Tryd.prog 109=some ((4,.i64),.bool false):=by kernel_rfl
@[go_sem] theorem tg3:b7o Tryd.prog 3=false:=by kernel_rfl
@[go_sem] theorem d6x:b7o Tryd.prog 31=false:=by kernel_rfl
@[go_sem] theorem tg9:b7o Tryd.prog 9=false:=by kernel_rfl
@[go_sem] theorem d6y:a0x Tryd.prog 56=some [(0,5),(1,5),(2,5)]:=by kernel_rfl
@[go_sem] theorem d6b:a0x Tryd.prog 182=some [(0,5),(1,5)]:=by kernel_rfl
@[go_sem] theorem d6z:a0x Tryd.prog 29=some [(0,5),(1,5),(2,5),(3,4)]:=by kernel_rfl
@[go_sem] theorem d7a:a0x Tryd.prog 60=some [(0,5),(1,5),(2,4)]:=by kernel_rfl
@[go_sem] theorem d7b:a0x Tryd.prog 85=some [(0,4),(1,5),(2,5)]:=by kernel_rfl
@[go_sem] theorem d7c:a0x Tryd.prog 38=some [(0,4),(1,5),(2,5),(3,5)]:=by kernel_rfl
@[go_sem] theorem d6c:a0x Tryd.prog 140=some [(0,4),(1,5),(2,5)]:=by kernel_rfl
def y3_ (n:Int) : List AV:=[I n]
def l1_ (s:ByteArray) : List AV:=[S s]
def d3k (p:Nat×Nat) : List AV:=[I p.1,I p.2]
attribute [go_sem] y3_ l1_ d3k
section
variable {P:Program} {w w':World} {M:Nat→Nat→Prop}
theorem V0.lit_inv {v u:Value} (h:V0 w M (.lit v) u) : u=v:=by cases h;rfl
theorem V0.of_lits (us:List Value) : V0 w M (.tup (us.map .lit)) (.tuple us.toArray):=
 .tup _ _ (by simp) fun i c u hc hu=>by
  obtain ⟨x,hx,rfl⟩:=g2_ hc;rw [hu] at hx;obtain rfl:=Option.some.inj hx;exact .lit u
theorem V0.sl_inv {α:Type} {F:α→List AV} {C:α→List Value} {sz:Nat} (hF:∀ x,F x=(C x).map .lit) {l:List α} {v:Value} (h:V0 w M (.sl sz (l.map F)) v) : ∃ A cap,v = .slice A l.length cap∧l.length≤cap∧Sl C sz w A l:=by
 generalize he:l.map F=es at h;cases h with
 | slNil _ A cap=>
  have:l=[]:=by simpa using he
  subst this;exact ⟨A,cap,rfl,Nat.zero_le _,Sl.nil _ _ _ _⟩
 | sl _ _ cap b o u hne hb hM hcap hsz h1 hc hv=>
  subst he;refine ⟨_,cap,by rw [List.length_map],by simpa using hcap,fun _=>⟨b,o,rfl,fun k x hk j c hj=>?_⟩⟩;have hkl:k < l.length:=(List.getElem?_eq_some_iff.1 hk).1;have hx:(l.map F)[k]? = some (F x):=by simp [hk]
  have hjj:(F x)[j]? = some (.lit c):=by rw [hF];simp [hj]
  have hjl:j < sz:=by rw [←hsz k _ hx];exact (List.getElem?_eq_some_iff.1 hjj).1
  rw [hc k j (by simpa using hkl) hjl];exact congrArg some (hv k _ j _ hx hjj).lit_inv
theorem d1j {f:FuncId} {a b r:AV} (hg:a5f P f=true) (h:∀ w M v1 v2,V0 w M a v1→V0 w M b v2→Calls P f #[v1,v2] w fun e w'=>∃ v,e = .returned v∧Below w.heap.size w w'∧V0 w' M r v) : VC P f [a,b] r:=
 ⟨hg,fun w M vs _ hl hv=>by
  match vs,hl with
  | [v1,v2],_=>
  exact h w M v1 v2 (hv 0 a v1 rfl rfl) (hv 1 b v2 rfl rfl)⟩
end
def inR (n lo hi:Int) : Bool:=decide (lo≤n)&&decide (n≤hi)
def unl (c:Bool) (e:Int) : Int:=if c then 0 else e
def fst:List Int→Int
 | []=>0
 | x::r=>if x≠0 then x else fst r
theorem m0_ {n lo hi:Int} : inR n lo hi=true↔lo≤n∧n≤hi:=by simp [inR]
def a0b (i:Nat) (n:Int) : Bool:=
 (decide (97≤n)&&decide (n≤122)) || (decide (65≤n)&&decide (n≤90)) || (decide (i≠0)&&(decide (n=45) || (decide (48≤n)&&decide (n≤57))))
def c0z (s:ByteArray) (n:Nat) : Bool:=(List.range n).all fun i=>a0b i (u7_ s i).toNat
theorem b0y (s:ByteArray) (n:Nat) : c0z s (n+1)=(c0z s n&&a0b n (u7_ s n).toNat):=by
 simp [c0z,List.range_succ]
theorem c1a (s:ByteArray) {n m:Nat} (h:n < m) (ho:a0b n (u7_ s n).toNat=false) : c0z s m=false:=by
 unfold c0z;rw [List.all_eq_false];exact ⟨n,by simpa using h,by simp [ho]⟩
def c8_ (s:ByteArray) : Bool:=decide (1≤s.size)&&decide (s.size≤12)&&c0z s s.size
def i9_ (E:Nat→Int) : Nat→Nat→Nat×Int
 | _,0=>(0,0)
 | k,n+1=>if E k≠0 then (k,E k) else i9_ E (k+1) n
def d1k (a b:ByteArray) : Bool:=a.toList == b.toList
theorem c1b {a b:ByteArray} : d1k a b=true↔a=b:=by
 unfold d1k;rw [beq_iff_eq,a4l,a4l];constructor
 ·intro h;cases a;cases b;congr;exact Array.toList_inj.1 h
 ·exact fun h=>by rw [h]
set_option maxRecDepth 100000
theorem i3_ (n lo hi:Int) : VC Tryd.prog 33 [I n,I lo,I hi] (B (inR n lo hi)):=by
 refine c0_ Tryd.func33 rfl (by kernel_rfl) (by kernel_rfl) rfl fun M0 w0=>?_;simp only [Tryd.ntmps33,Tryd.results33,b5_];repeat' first|(with_reducible first|apply a9_|apply a3_|apply c5_|apply a1_|refine a2_ [] ?_)|((with_reducible refine a0_ fun Y Z=>?_);go_simp;refine Z _ ?_;clear Z Y)|((apply m9_ rfl);(focus (go_simp<;>exact rfl));(focus (go_simp;done));(focus (intro hb0;replace hb0:=hb0.out;go_simp<;>(exact rfl)));intro Y Z;go_simp;refine Z _ ?_;clear Z Y)
 all_goals (first|(go_simp;done)|(go_simp;first|(simp [inR, *];done)|(simp [inR, *];omega)|(simp [inR,] at *;omega)|(rfl)))
theorem o5_ (n lo hi:Int) : VC Tryd.prog 9 [I n,I lo,I hi] (B (inR n lo hi)):=by
 refine c0_ Tryd.func9 rfl (by kernel_rfl) (by kernel_rfl) rfl fun M0 w0=>?_;simp only [Tryd.ntmps9,Tryd.results9,b5_];repeat' first|(with_reducible first|apply a9_|apply a3_|apply c5_|apply a1_|refine a2_ [] ?_)|((with_reducible refine a0_ fun Y Z=>?_);go_simp;refine Z _ ?_;clear Z Y)|((apply m9_ rfl);(focus (go_simp<;>exact rfl));(focus (go_simp;done));(focus (intro hb0;replace hb0:=hb0.out;go_simp<;>(exact rfl)));intro Y Z;go_simp;refine Z _ ?_;clear Z Y)
 all_goals (first|(go_simp;done)|(go_simp;first|(simp [inR, *];done)|(simp [inR, *];omega)|(simp [inR,] at *;omega)|(rfl)))
theorem b3_ (c:Bool) (e:Int) : VC Tryd.prog 32 [B c,I e] (I (unl c e)):=by
 refine c0_ Tryd.func32 rfl (by kernel_rfl) (by kernel_rfl) rfl fun M0 w0=>?_;simp only [Tryd.ntmps32,Tryd.results32,b5_];repeat' first|(with_reducible first|apply a9_|apply a3_|apply b4_|apply c5_|apply b0_|apply a1_|refine a2_ [] ?_)|((with_reducible refine a0_ fun Y Z=>?_);go_simp;refine Z _ ?_;clear Z Y)|((with_reducible refine c0y ?_ (fun ht=>?_) (fun ht=>?_));(focus (go_simp;done));(all_goals (simp [go_sem] at ht;replace ht:=ht.out)))
 all_goals (first|(go_simp;done)|(go_simp;first|(simp [unl, *];done)|(simp [unl, *];omega)|(simp [unl,] at *;omega)|(rfl)))
theorem c8s (l:List Int) (hl:l.length≤1000) : VC Tryd.prog 30 [.sl 1 (l.map y3_)] (I (fst l)):=by
 obtain ⟨R,hR⟩ : ∃ R,fst l=R:=⟨_,rfl⟩
 rw [hR];have HR:=Lib.hid hR;clear hR;refine c0_ Tryd.func30 rfl (by kernel_rfl) (by kernel_rfl) rfl fun M0 w0=>?_;simp only [Tryd.ntmps30,Tryd.results30,b5_];repeat (first|(with_reducible first|apply a9_|apply a3_|apply a8_|apply a1_|refine a2_ [] ?_)|((with_reducible refine a0_ fun Y Z=>?_);go_simp;refine Z _ ?_;clear Z Y))
 refine c4p (α:=Nat) (fun k=>⟨[(7,I k),(6,I l.length),(5,.sl 1 (l.map y3_))],[]⟩) (fun k=>k≤l.length∧Hid (fst (l.drop k)=R)) (fun k=>l.length - k) 0 ⟨by omega,by simpa using HR⟩ (by go_simp) ?_;rintro k ⟨hk,hf⟩ K hR;by_cases hlt:k < l.length
 ·have hw:=h3_ (x:=(k:Int)+1) (by omega) (by omega);have e:=hf.out;rw [List.drop_eq_getElem_cons hlt,fst] at e;obtain ⟨x,hx⟩ : ∃ x,l[k]=x:=⟨_,rfl⟩
  rw [hx] at e;have HE:=Lib.hid e;clear e;by_cases c:x=0
  ·subst c;repeat (first|(with_reducible first|apply a9_|apply a3_|apply b0_|apply a8_|apply b1_|apply a1_|refine a2_ [] ?_)|((with_reducible refine a7_ ?_ ?_);(focus (go_simp;done)))|((with_reducible refine a6_ ?_ ?_);(focus (go_simp;done)))|((with_reducible refine a0_ fun Y Z=>?_);go_simp;refine Z _ ?_;clear Z Y))
   refine hR _ (k+1) ⟨hlt,Lib.hid (by simpa using HE.out)⟩ (by omega) ?_;go_simp
  ·repeat (first|(with_reducible first|apply a9_|apply a3_|apply b4_|apply c5_|apply b0_|apply a8_|apply c2_|apply a1_|refine a2_ [] ?_)|((with_reducible refine a7_ ?_ ?_);(focus (go_simp;done)))|((with_reducible refine a0_ fun Y Z=>?_);go_simp;refine Z _ ?_;clear Z Y))
   have e:=HE.out;rw [if_pos c] at e;subst e;go_simp
 ·repeat (first|(with_reducible first|apply a9_|apply a3_|apply b8_|apply c5_|apply d4_|apply b7_|apply a1_|refine a2_ [] ?_)|((with_reducible refine a6_ ?_ ?_);(focus (go_simp;done)))|((with_reducible refine a0_ fun Y Z=>?_);go_simp;refine Z _ ?_;clear Z Y))
  have e:=hf.out;rw [List.drop_eq_nil_of_le (by omega)] at e;rw [show R=0 from e.symm];go_simp
theorem a0u (s:ByteArray) (hs:s.size≤1000) : VC Tryd.prog 38 [S s] (B (c8_ s)):=by
 obtain ⟨R,hR⟩ : ∃ R,c8_ s=R:=⟨_,rfl⟩
 rw [hR];have HR:=Lib.hid hR;clear hR;refine c0_ Tryd.func38 rfl (by kernel_rfl) (by kernel_rfl) rfl fun M0 w0=>?_;simp only [Tryd.ntmps38,Tryd.results38,b5_];repeat (first|(with_reducible first|apply a9_|apply a3_|apply a8_|apply a1_|refine a2_ [] ?_)|((with_reducible refine a0_ fun Y Z=>?_);go_simp;refine Z _ ?_;clear Z Y))
 refine c4p (α:=Nat) (fun k=>⟨[(9,I k),(8,I s.size),(7,.sl 1 ((List.range s.size).map fun i=>[.lit (.int .u8 (u7_ s i).toNat)])),(0,S s)],[]⟩) (fun k=>k≤s.size∧Hid (c0z s k=true)) (fun k=>s.size - k) 0 ⟨by omega,Lib.hid rfl⟩ (by go_simp) ?_;rintro k ⟨hk,hf⟩ K hR;by_cases hlt:k < s.size
 ·have hw:=h3_ (x:=(k:Int)+1) (by omega) (by omega);obtain ⟨x,hx⟩ : ∃ x:Int,((u7_ s k).toNat:Int)=x:=⟨_,rfl⟩
  have HX:=Lib.hid (b0y s k);have hno:Hid (a0b k x=false→R=false):=Lib.hid fun h=>by
   rw [←HR.out];unfold c8_;rw [c1a s hlt (by rw [hx];exact h)];simp
  have hch:((!decide (97≤x) || !decide (x≤122))&&(!decide (65≤x) || !decide (x≤90))&&(decide (k=0) || !decide (x=45)&&(decide (x < 48) || decide (57 < x)))) = !a0b k x:=by
   rw [Bool.eq_iff_iff];simp [a0b]
  have HC:=Lib.hid hch;have hok:Hid (a0b k x=true→c0z s (k+1)=true):=Lib.hid fun h=>by rw [HX.out,hf.out,hx,h];rfl
  clear hch;repeat' first|(with_reducible first|apply a9_|apply a3_|apply b4_|apply c5_|apply b0_|apply a8_|apply b1_|apply c2_|apply a1_|refine a2_ [] ?_)|((with_reducible refine a7_ ?_ ?_);(focus (go_simp;done)))|((with_reducible refine a0_ fun Y Z=>?_);go_simp;refine Z _ ?_;clear Z Y)|((with_reducible refine c0y ?_ (fun ht=>?_) (fun ht=>?_));(focus (go_simp;done));(all_goals (simp [go_sem] at ht;replace ht:=ht.out)))|((apply m9_ rfl);(focus (go_simp<;>exact rfl));(focus (go_simp;done));(focus (intro hb0;replace hb0:=hb0.out;go_simp<;>(exact rfl)));intro Y Z;go_simp;refine Z _ ?_;clear Z Y)|((apply a5s rfl);(focus (go_simp<;>exact rfl));(focus (go_simp;done));(focus (intro hb0 hb1;replace hb0:=hb0.out;replace hb1:=hb1.out;go_simp<;>(exact rfl)));intro Y Z;go_simp;refine Z _ ?_;clear Z Y)|((apply a5t rfl);(focus (go_simp<;>exact rfl));(focus (go_simp;done));(focus (intro hb0 hb1 hb2;replace hb0:=hb0.out;replace hb1:=hb1.out;replace hb2:=hb2.out;go_simp<;>(exact rfl)));intro Y Z;go_simp;refine Z _ ?_;clear Z Y)|((apply a5u rfl);(focus (go_simp<;>exact rfl));(focus (go_simp;done));(focus (intro hb0 hb1 hb2 hb3;replace hb0:=hb0.out;replace hb1:=hb1.out;replace hb2:=hb2.out;replace hb3:=hb3.out;go_simp<;>(exact rfl)));intro Y Z;go_simp;refine Z _ ?_;clear Z Y)
  ·rw [HC.out] at ht;have e:=hno.out (by simpa using ht);subst e;go_simp
  ·rw [HC.out] at ht;refine hR _ (k+1) ⟨hlt,Lib.hid (hok.out (by simpa using ht))⟩ (by omega) ?_;go_simp
 ·have hkk:k=s.size:=by omega
  subst hkk;have e:c8_ s=(decide (1≤s.size)&&decide (s.size≤12)):=by unfold c8_;rw [hf.out];simp
  rw [HR.out] at e;have he:=Lib.hid e;clear e;repeat' first|(with_reducible first|apply a9_|apply a3_|apply b8_|apply c5_|apply d4_|apply b7_|apply a1_|refine a2_ [] ?_)|((with_reducible refine a6_ ?_ ?_);(focus (go_simp;done)))|((with_reducible refine a0_ fun Y Z=>?_);go_simp;refine Z _ ?_;clear Z Y)|((apply m9_ rfl);(focus (go_simp<;>exact rfl));(focus (go_simp;done));(focus (intro hb0;replace hb0:=hb0.out;go_simp<;>(exact rfl)));intro Y Z;go_simp;refine Z _ ?_;clear Z Y)
  rw [he.out];have hz:s.size=0→s=ByteArray.empty:=fun h=>by
   cases s;rename_i a;have:a=#[]:=Array.eq_empty_of_size_eq_zero h;rw [this];rfl
  have HZ:=Lib.hid hz;clear hz;go_simp;by_cases h0:s=ByteArray.empty
  ·subst h0;rfl
  ·have h1:¬s.size=0:=fun h=>h0 (HZ.out h);have h2:¬s = { data:=#[] }:=h0;have h3:(1:Nat)≤s.size:=by omega
   have h4:decide ((s.size:Int)≤12)=decide (s.size≤12):=by
    rw [Bool.eq_iff_iff,decide_eq_true_eq,decide_eq_true_eq];omega
   rw [decide_eq_false h2,decide_eq_true h3,h4];rfl
theorem x6_ (s:ByteArray) (hs:s.size≤9223372036854775807) : VC Tryd.prog 26 [S s] (B (c8_ s)):=by
 obtain ⟨R,hR⟩ : ∃ R,c8_ s=R:=⟨_,rfl⟩
 rw [hR];have HR:=Lib.hid hR;clear hR;refine c0_ Tryd.func26 rfl (by kernel_rfl) (by kernel_rfl) rfl fun M0 w0=>?_;simp only [Tryd.ntmps26,Tryd.results26,b5_];by_cases h1:s.size < 1∨12 < s.size
 ·have e:R=false:=by
   rw [←HR.out];unfold c8_;rcases h1 with h|h
   ·rw [decide_eq_false (by omega)];rfl
   ·rw [show decide (s.size≤12)=false from decide_eq_false (by omega)];simp
  subst e;have hb:(decide ((s.size:Int) < 1) || decide (12 < (s.size:Int)))=true:=by simp;omega
  repeat' first|(with_reducible first|apply a9_|apply a3_|apply b4_|apply c5_|apply a1_|refine a2_ [] ?_)|((with_reducible refine a7_ ?_ ?_);(focus (go_simp;done)))|((with_reducible refine a0_ fun Y Z=>?_);go_simp;refine Z _ ?_;clear Z Y)|((apply m9_ rfl);(focus (go_simp<;>exact rfl));(focus (go_simp;done));(focus (intro hb0;replace hb0:=hb0.out;go_simp<;>(exact rfl)));intro Y Z;go_simp;refine Z _ ?_;clear Z Y)
  go_simp
 ·have hb:(decide ((s.size:Int) < 1) || decide (12 < (s.size:Int)))=false:=by simp;omega
  have hl1:s.size≤12:=by omega
  have e:c8_ s=c0z s s.size:=by
   unfold c8_;rw [decide_eq_true (by omega),decide_eq_true hl1];rfl
  rw [HR.out] at e;have HE:=Lib.hid e;clear e;repeat' first|(with_reducible first|apply a9_|apply a3_|apply b0_|apply a8_|apply a1_|refine a2_ [] ?_)|((with_reducible refine a6_ ?_ ?_);(focus (go_simp;done)))|((with_reducible refine a0_ fun Y Z=>?_);go_simp;refine Z _ ?_;clear Z Y)|((apply m9_ rfl);(focus (go_simp<;>exact rfl));(focus (go_simp;done));(focus (intro hb0;replace hb0:=hb0.out;go_simp<;>(exact rfl)));intro Y Z;go_simp;refine Z _ ?_;clear Z Y)
  ·clear hb;refine c4p (α:=Nat) (fun k=>⟨[(3,I k),(0,S s)],[]⟩) (fun k=>k≤s.size∧Hid (c0z s k=true)) (fun k=>s.size - k) 0 ⟨by omega,Lib.hid rfl⟩ (by go_simp) ?_;rintro k ⟨hk,hf⟩ K hR;by_cases hlt:k < s.size
   ·have hlt':(k:Int) < s.size:=by omega
    have hw:=h3_ (x:=(k:Int)+1) (by omega) (by omega);obtain ⟨x,hx⟩ : ∃ x:Int,((u7_ s k).toNat:Int)=x:=⟨_,rfl⟩
    have HX:=Lib.hid (b0y s k);have hno:Hid (a0b k x=false→R=false):=Lib.hid fun h=>by
     rw [HE.out];exact c1a s hlt (by rw [hx];exact h)
    have hch:((!decide (97≤x) || !decide (x≤122))&&(!decide (65≤x) || !decide (x≤90))&&(decide (k=0) || !decide (x=45)&&(decide (x < 48) || decide (57 < x)))) = !a0b k x:=by
     rw [Bool.eq_iff_iff];simp [a0b]
    have HC:=Lib.hid hch;have hok:Hid (a0b k x=true→c0z s (k+1)=true):=Lib.hid fun h=>by rw [HX.out,hf.out,hx,h];rfl
    clear hch;repeat' first|(with_reducible first|apply a9_|apply a3_|apply b4_|apply c5_|apply b0_|apply a8_|apply b1_|apply c2_|apply a1_|refine a2_ [] ?_)|((with_reducible refine a7_ ?_ ?_);(focus (go_simp;done)))|((with_reducible refine a0_ fun Y Z=>?_);go_simp;refine Z _ ?_;clear Z Y)|((with_reducible refine c0y ?_ (fun ht=>?_) (fun ht=>?_));(focus (go_simp;done));(all_goals (simp [go_sem] at ht;replace ht:=ht.out)))|((apply m9_ rfl);(focus (go_simp<;>exact rfl));(focus (go_simp;done));(focus (intro hb0;replace hb0:=hb0.out;go_simp<;>(exact rfl)));intro Y Z;go_simp;refine Z _ ?_;clear Z Y)|((apply a5s rfl);(focus (go_simp<;>exact rfl));(focus (go_simp;done));(focus (intro hb0 hb1;replace hb0:=hb0.out;replace hb1:=hb1.out;go_simp<;>(exact rfl)));intro Y Z;go_simp;refine Z _ ?_;clear Z Y)|((apply a5t rfl);(focus (go_simp<;>exact rfl));(focus (go_simp;done));(focus (intro hb0 hb1 hb2;replace hb0:=hb0.out;replace hb1:=hb1.out;replace hb2:=hb2.out;go_simp<;>(exact rfl)));intro Y Z;go_simp;refine Z _ ?_;clear Z Y)|((apply a5u rfl);(focus (go_simp<;>exact rfl));(focus (go_simp;done));(focus (intro hb0 hb1 hb2 hb3;replace hb0:=hb0.out;replace hb1:=hb1.out;replace hb2:=hb2.out;replace hb3:=hb3.out;go_simp<;>(exact rfl)));intro Y Z;go_simp;refine Z _ ?_;clear Z Y)
    ·rw [HC.out] at ht;have e:=hno.out (by simpa using ht);subst e;go_simp
    ·rw [HC.out] at ht;refine hR _ (k+1) ⟨hlt,Lib.hid (hok.out (by simpa using ht))⟩ (by omega) ?_;go_simp
   ·have hkk:k=s.size:=by omega
    subst hkk;repeat' first|(with_reducible first|apply a9_|apply a3_|apply b8_|apply c5_|apply d4_|apply b7_|apply a1_|refine a2_ [] ?_)|((with_reducible refine a6_ ?_ ?_);(focus (go_simp;done)))|((with_reducible refine a0_ fun Y Z=>?_);go_simp;refine Z _ ?_;clear Z Y)
    rw [HE.out,hf.out];go_simp
end Go.Proofs.YtoibondihdhnoaaDoor
