/- Texts in one: One element is appended to a row of a row of rows: of every program; no condition. -/
import Derived.Test.YtoibondihdhnoaaGreatDoorFRK5
import Derived.ArgAppend
import Derived.Deep.LoopGhost
import Derived.Test.YtoibondihdhnoaaGreatDoorFRK2
import Derived.Test.YtoibondihdhnoaaGreatDoorProg
namespace Go.Proofs.YtoibondihdhnoaaGreatDoor
open Go.RowKit
section
variable {P:Program}
theorem xW {w:World} {b o:Nat} {cur:Array Value} {t:TypeId} (v:Value) (h:w.heap[b]? = some (.cells cur t (0,0))) : (w.setCells b o [v]).heap[b]? = some (.cells (cur.setIfInBounds o v) t (0,0)):=by
 simp [World.setCells,World.setCell,Array.getElem?_modify,h]
theorem xX {w:World} {b o b':Nat} (v:Value) (h:b'≠b) : (w.setCells b o [v]).heap[b']? = w.heap[b']?:=by
 simp only [World.setCells,World.setCell,Array.getElem?_modify];rw [if_neg (Ne.symm h)]
theorem vh (w:World) (b o:Nat) (v:Value) : (w.setCells b o [v]).heap.size=w.heap.size:=by simp [World.setCells,World.setCell]
theorem CD {w:World} {t ty e:TypeId} {i:TypeInfo} {z:Value} (ht:P.underlying t=some (.slice e)) (hi:P.info? e=some i) (hz:i.zero=some z) (aL:i.size=1) (eT:z.cells.size=1) (gL:i.bytes≤100000)
  {A:Option Addr} {n cap:Nat} {olds:List Value} (hA:A=none→n=0∧cap=0) (bu:olds.length=n) (holds:∀ a0,A=some a0→∀ j u,olds[j]? = some u→w.cell? (a0.add j)=some u)
  {a:Addr} {c:Nat} {u0:Value} (hu:w.cell? (a.add 0)=some u0) (hg:cap < n+1) (ij:n+1≤1000000000) :
  ∃ g dy cur w',(Builtin.append_ #[t,t] ty #[.slice A n cap,.slice (some a) 1 c]).run P w = .ok (.slice (some ⟨g,0,none⟩) (n+1) dy) w'∧w.heap.size≤g∧g < w'.heap.size∧w'.heap[g]? = some (.cells cur e (0,0))∧n+1≤dy∧dy≤maxLen∧cur.size=dy ∧
   (∀ j,j < n→cur[j]? = olds[j]?)∧cur[n]? = some u0∧Below w.heap.size w w':=by
 have fi:∀ j u,[u0][j]? = some u→w.cell? (a.add j)=some u:=fun j u hj=>by
  cases j with
  | zero=>simp at hj;rw [←hj];exact hu
  | succ j=>simp at hj
 have CW:(n+1)*i.bytes≤140737488355328:=by
  have:(n+1)*i.bytes≤1000000000*100000:=Nat.mul_le_mul ij gL;omega
 cases A with
 | none=>
  obtain ⟨rfl,rfl⟩:=hA rfl;have zn:olds=[]:=List.eq_nil_of_length_eq_zero bu;subst zn;have hr:=run_append_nil (P:=P) (w:=w) t ty e i z ht hi hz a 1 c [u0] (by simp [aL]) fi (by decide) (by decide) (by omega);have du:=grownCap_ge w 1 0 e;have fO:=grownCap_le_maxLen w 1 0 e (by decide);refine ⟨w.heap.size,grownCap w 1 0 e,_,_,hr,Nat.le_refl _,by simp,heap_alloc_new w.drew _,du,fO,?_,by simp,?_,?_⟩
  ·rw [Array.size_append,size_zeroCells,eT];have:([u0].toArray).size=1:=rfl;omega
  ·rw [Array.getElem?_append_left (show 0 < ([u0].toArray).size from Nat.one_pos)];rfl
  ·exact ((Below.refl w.heap.size w).drew).alloc (Nat.le_refl _) _
 | some a0=>
  obtain ⟨v',w',hr,⟨hl,aX⟩,wQ⟩:=run_append_arg_grows (P:=P) w t ty e i z 1 i.bytes ht hi hz aL rfl eT (by decide) a0 n cap olds (by omega) (holds a0 rfl) a 1 c [u0] (by simp) fi hg (by simp only [maxLen];omega) CW;rcases aX with ⟨_,h0⟩|⟨g,dy,cur,rfl,du,nX,kB,fO,bM,lV⟩
  ·omega
  ·have bb:∀ j,j < n+1→cur[j]? = (olds++[u0])[j]?:=fun j hj=>by
    rw [←lV,List.getElem?_take_of_lt (by omega),←Array.getElem?_toList]
   refine ⟨g,dy,cur,w',hr,du,(Array.getElem?_eq_some_iff.1 nX).1,nX,kB,fO,by omega,fun j hj=>by rw [bb j (by omega),List.getElem?_append_left (by omega)],by rw [bb n (by omega),List.getElem?_append_right (by omega),bu];simp,?_⟩;exact ⟨wQ.os,wQ.tape,wQ.output,wQ.size,fun b hb=>wQ.block b hb (by simp)⟩
theorem Bel.keepF {w0:Bas} {w w':World} (h:Bel w0 w) (kZ:w'.os=w.os) (k6:w'.tape=w.tape) (k7:w'.output=w.output) (hk:Keeps (Fr w0) w w') : Bel w0 w':=
 ⟨kZ.trans h.os,k6.trans h.tape,k7.trans h.output,Nat.le_trans h.size hk.size,fun b aq hX=>(hk.block b (Nat.lt_of_lt_of_le aq h.size) fun j hf=>hf.elim (fun h=>by omega) (hX j)).trans (h.keeps.block b aq hX),
  fun aq hX hc=>hk.cell (Nat.lt_of_lt_of_le aq h.size) (fun hf=>hf.elim (fun h=>by omega) hX) (h.keeps.cell aq hX hc)⟩
variable {M0:Nat→Nat→Prop} {w0:Bas} {N:Nm} {p:Pl} {st:VS} {a:Act} {w:World}
theorem Rel.bagPend {w':World} {p':Pl} {id k e sz d:Nat} {ao:Option Nat} {qs:List (List (List AV))} {s5:List (List AV)} {v:Value} {cur:Array Value} (R:Rel M0 w0 N p st a w) (hd:N.has d)
  (hi:st.h[id]? = some (some (.bag e sz false ao qs))) (_hk:k < qs.length) (gE:ao=none∨ao=some k) (bN:w.heap[p id]? = some (.cells cur e (0,0)))
  (jj:∀ (i:Nat) (cs:List AV),st.h[i]? = some (some (.box cs))→∀ c∈cs,dK id 5 c=true)
  (kZ:w'.os=w.os) (k6:w'.tape=w.tape) (k7:w'.output=w.output) (hK:Keeps (fun b j=>p.S id b j) w w')
  (eR:∀ i,p' i=p i) (gx:∀ i,i≠id→p'.S i=p.S i)
  (Cr:∀ b j,p'.S id b j→Fr w0 b j∧b < w'.heap.size) (zf:∀ j,¬p'.S id (p id) j) (wA:∀ (i:Nat) (ob:Ob),i≠id→st.h[i]? = some (some ob)→cp ob=true→∀ b j j',p.O i b j→¬p'.S id b j') (Cs:∀ b j,b < w.heap.size→p'.S id b j→p.S id b j)
  (CX:∀ (k':Nat) (v':Value),k' < qs.length→k'≠k→cur[k']? = some v'→Spare w p id sz v'→Spare w' p' id sz v')
  (cz:V0 w' (Mof M0 (st.h.set id (some (.bag e sz false (some k) qs))) p') (.sl sz s5) v) (gh:Spare w' p' id sz v) (qW:∀ (k':Nat) (v':Value),k' < qs.length→k'≠k→cur[k']? = some v'→Dist v v') :
  Rel M0 w0 N p' ⟨(d,.slw id k sz s5)::st.s.map (fun q=>(q.1,unW id q.2)),st.h.set id (some (.bag e sz false (some k) qs))⟩ (a.put (some d) v) w':=by
 obtain ⟨iJ,eb⟩:=R.objs id _ hi;rw [if_neg (by simp)] at eb;obtain ⟨b1,b2,cur0,b3,b4,b5,b6⟩:=eb;have:cur0=cur:=by rw [bN] at b3;injection b3 with b3;injection b3 with b3;exact b3.symm
 subst this;have hid:=(List.getElem?_eq_some_iff.1 hi).1;have bY:cp (Ob.bag e sz false ao qs)=true:=rfl;have f_:∀ k',k'≠k→ao≠some k':=fun k' hn=>by rcases gE with h|h<;>rw [h]<;>simp [Ne.symm hn]
 generalize uB:st.h.set id (some (Ob.bag e sz false (some k) qs))=h2 at *;have hQ:h2.length=st.h.length:=by rw [←uB];simp
 have e_:h2[id]? = some (some (Ob.bag e sz false (some k) qs)):=by rw [←uB];exact List.getElem?_set_self hid
 have dG:∀ (i:Nat) (ob:Ob),i≠id→h2[i]? = some (some ob)→st.h[i]? = some (some ob):=fun i ob hn h=>by rwa [←uB,List.getElem?_set_ne (Ne.symm hn)] at h
 have ju:∀ {i b j},i≠id→(p'.O i b j↔p.O i b j):=fun {i b j} hn=>by unfold Pl.O;rw [eR,gx i hn]
 have hM:∀ b j,b < w.heap.size→¬Mof M0 st.h p b j→¬Mof M0 h2 p' b j:=fun b j aq hn hm=>by
  rcases hm with hm|⟨i,o,aF,bu,hO⟩
  ·exact hn (.inl hm)
  ·by_cases he:i=id
   ·subst he;rcases hO with hO|hO
    ·exact hn (.inr ⟨i,_,hi,bY,.inl (by rw [←eR];exact hO)⟩)
    ·exact hn (.inr ⟨i,_,hi,bY,.inr (Cs b j aq hO)⟩)
   ·exact hn (.inr ⟨i,o,dG i o he aF,bu,(ju he).1 hO⟩)
 have wB:Keeps (Mof M0 st.h p) w w':=hK.mono fun b j _ hS=>.inr ⟨id,_,hi,bY,.inr hS⟩;have OT:Keeps (Fr w0) w w':=hK.mono fun b j _ hS=>(b1 b j (.inr hS)).1;have au:∀ i o,i≠id→st.h[i]? = some (some o)→cp o=true→∀ b j,p.O i b j→b < w.heap.size→w'.heap[b]? = w.heap[b]?:=fun i o hn aF bu b j hO aq=>hK.block b aq fun j' hS=>hn (R.inj i id o _ aF hi bu bY b j j' hO (.inr hS));have aq:=(b1 (p id) 0 (.inl rfl)).2;have cS:w'.heap[p id]? = w.heap[p id]?:=hK.block _ aq b2;have dO:∀ {x:AV} {u:Value},V0 w (Mof M0 st.h p) x u→V0 w' (Mof M0 h2 p') x u:=fun hx=>hx.keep wB hM;have hV:∀ {x:AV} {u:Value},V1 w (Mof M0 st.h p) st.h p x u→dK id 5 x=true→V1 w' (Mof M0 h2 p') h2 p' x u:=fun {x u} hx hn=>
  V1.bag wB hM (by omega) eR (fun i e' bD nl b9 v' he hv=>by
   by_cases gP:i=id
   ·subst gP;rw [e_] at he;cases he
   ·have aF:=dG i _ gP he;exact (hv _ _ _ _ aF).keep fun aJ hl=>au i _ gP aF (by rw [aJ];rfl) _ 0 (.inl rfl) hl) (fun i e' bD nl nj pt v' he hv=>by
   by_cases gP:i=id
   ·subst gP;rw [e_] at he;simp only [Option.some.injEq,Ob.bag.injEq] at he;obtain ⟨rfl,rfl,rfl,rfl,rfl⟩:=he;exact (hv _ _ _ _ _ hi).keep fun _ _=>cS
   ·have aF:=dG i _ gP he;exact (hv _ _ _ _ _ aF).keep fun aJ hl=>au i _ gP aF (by rw [aJ];rfl) _ 0 (.inl rfl) hl) (fun i k' bD v' hn _ hs=>hs.keep (fun e' rF xr pt he=>by
   have aF:=dG i _ hn he;exact ⟨aF,eR i,gx i hn,fun b j hO hl=>au i _ hn aF rfl b j hO hl⟩) hK.size) 5 x u hx hn
 have hU:∀ {x:AV} {u:Value},V1 w (Mof M0 st.h p) st.h p x u→V1 w' (Mof M0 h2 p') h2 p' (unW id x) u:=fun {x u} hx=>by
  by_cases hs:∃ i k sz es,x = .slw i k sz es
  ·obtain ⟨i,k',bD,b9,rfl⟩:=hs;by_cases hn:i=id
   ·rw [show unW id (.slw i k' bD b9) = .sl bD b9 from if_pos hn];exact .base _ _ (dO hx.slw_inv.2.1)
   ·rw [show unW id (.slw i k' bD b9) = .slw i k' bD b9 from if_neg hn];exact hV hx (by simpa [dK] using hn)
  ·have e:unW id x=if dK id 5 x=true then x else .any:=by cases x<;>first|rfl|exact absurd ⟨_,_,_,_,rfl⟩ hs
   rw [e];split
   ·rename_i hn;exact hV hx hn
   ·exact .base _ _ (.any _)
 refine ⟨R.defers,R.size.put hd,R.below.keepF kZ k6 k7 OT,R.m0,R.x0,fun i=>?_,fun i o aF=>?_,fun i i' o o' aF br bu ep x j j' hO cw=>?_⟩
 ·rw [lu a d _ i (R.size.lt hd)];simp only [lkp];split
  ·refine .slw id k sz s5 v (by omega) cz fun e' bD xr pt he=>?_;rw [e_] at he;simp only [Option.some.injEq,Ob.bag.injEq] at he;obtain ⟨rfl,rfl,_,rfl,rfl⟩:=he;refine ⟨rfl,gh,by rw [eR];exact Nat.lt_of_lt_of_le aq hK.size,fun cur' JW k' v' hc dP rG _ bE=>?_⟩;rw [eR,cS,bN] at hc;injection hc with hc
   injection hc with hc _ _
   subst hc;exact qW k' v' dP rG bE
  ·rw [ni];exact hU (R.slots i)
 ·by_cases gP:i=id
  ·subst gP;rw [e_] at aF;simp only [Option.some.injEq] at aF;subst aF;refine ⟨iJ,?_⟩;rw [if_neg (by simp)];refine ⟨fun b j hO=>?_,fun j=>by rw [eR];exact zf j,cur0,by rw [eR,cS];exact bN,b4,fun k0 x hx=>?_,fun k1 k2 v1 v2 h1 h2 nV lT fX e1 e2=>b6 k1 k2 v1 v2 h1 h2 nV (f_ k1 fun h=>lT (by rw [h])) (f_ k2 fun h=>fX (by rw [h])) e1 e2⟩
   ·rcases hO with hO|hO
    ·have:=b1 b j (.inl (by rw [←eR];exact hO));exact ⟨this.1,Nat.lt_of_lt_of_le this.2 hK.size⟩
    ·exact Cr b j hO
   ·obtain ⟨v1,g1,g2,g3⟩:=b5 k0 x hx;refine ⟨v1,g1,dO g2,fun OU=>?_⟩;have oV:k0≠k:=fun h=>OU (by rw [h]);exact CX k0 v1 (List.getElem?_eq_some_iff.1 hx).1 oV g1 (g3 (f_ k0 oV))
  ·have br:=dG i o gP aF;exact (R.objs i o br).keep (fun _=>⟨eR i,gx i gP⟩) (fun bu b j hO hl=>au i o gP br bu b j hO hl) hK.size dO fun cs bM c hc u hx=>hV hx (jj i cs (by rw [br,bM]) c hc)
 ·by_cases h1:i=id
  ·by_cases h2:i'=id
   ·rw [h1,h2]
   ·subst h1;have pZ:=dG i' o' h2 br;have kH:=(ju h2).1 cw;rcases hO with hO|hO
    ·exact R.inj i i' _ o' hi pZ bY ep x j j' (.inl (by rw [←eR];exact hO)) kH
    ·exact absurd hO (wA i' o' h2 pZ ep x j' j kH)
  ·have mb:=dG i o h1 aF;have nW:=(ju h1).1 hO;by_cases h2:i'=id
   ·subst h2;rcases cw with cw|cw
    ·exact R.inj i i' o _ mb hi bu bY x j j' nW (.inl (by rw [←eR];exact cw))
    ·exact absurd cw (wA i o h1 mb bu x j j' nW)
   ·exact R.inj i i' o o' mb (dG i' o' h2 br) bu ep x j j' nW ((ju h2).1 cw)
end
section
variable {P:Program} {M0:Nat→Nat→Prop} {w0:Bas} {N:Nm} {p:Pl} {st:VS} {a:Act} {w:World}
theorem V0.row1 {M:Nat→Nat→Prop} {es:List (List AV)} {A:Option Addr} {n cap:Nat} (h:V0 w M (.sl 1 es) (.slice A n cap)) :
  n=es.length∧(∀ (k:Nat) (x:List AV),es[k]? = some x→x.length=1∧∀ c∈x,cV c=true)∧(0 < n→∃ b o,A=some ⟨b,o,none⟩∧b < w.heap.size ∧
   ∀ k,k < n→¬M b (o+k)∧∃ u,w.cell? ⟨b,o+k,none⟩=some u∧∀ (x:List AV) (c:AV),es[k]? = some x→x[0]? = some c→V0 w M c u):=by
 cases h with
 | slNil=>exact ⟨rfl,by simp,fun h=>by omega⟩
 | sl _ _ _ b o u au hb hM dC aL h1 hc hv=>
  refine ⟨rfl,fun k x hx=>⟨aL k x hx,fun c hc=>?_⟩,fun _=>⟨b,o,rfl,hb,fun k hk=>⟨?_,u k 0,?_,fun x c hx hc=>hv k x 0 c hx hc⟩⟩⟩
  ·obtain ⟨j,hj⟩:=List.mem_iff_getElem?.1 hc;exact h1 k x j c hx hj
  ·have:=hM k 0 hk (by decide);simpa using this
  ·have:=hc k 0 hk (by decide);simpa using this
theorem Rel.bagApp {t ty e id k d:Nat} {ti te:TI} {ao:Option Nat} {qs:List (List (List AV))} {es:List (List AV)} {x:AV} {vx vy:Value} (R:Rel M0 w0 N p st a w) (hd:N.has d) (aY:aZ P t=some ti) (kW:ti.kind=1) (gv:aZ P ti.elem=some te) (h1:te.size=1) (h2:te.zero.length=1) (gL:te.bytes≤100000)
  (hi:st.h[id]? = some (some (.bag e 1 false ao qs))) (hk:k < qs.length) (gE:ao=none∨ao=some k) (jj:∀ (i:Nat) (cs:List AV),st.h[i]? = some (some (.box cs))→∀ c∈cs,dK id 5 c=true)
  (hx:V1 w (Mof M0 st.h p) st.h p (.slw id k 1 es) vx) (hy:V0 w (Mof M0 st.h p) (.sl 1 [[x]]) vy) (ij:es.length+1≤1000000000) :
  ∃ v w' p',(Builtin.append_ #[t,t] ty #[vx,vy]).run P w = .ok v w'∧Rel M0 w0 N p' ⟨(d,.slw id k 1 (es++[[x]]))::st.s.map (fun q=>(q.1,unW id q.2)),st.h.set id (some (.bag e 1 false (some k) qs))⟩ (a.put (some d) v) w':=by
 obtain ⟨hb1,hb2,cur,bN,QN,OV,QO⟩:=R.bagRow hi;obtain ⟨_,h0,hs⟩:=hx.slw_inv;obtain ⟨_,gh,OW,qW⟩:=hs _ _ _ _ hi;obtain ⟨A,n,cap,rfl,hle,gh⟩:=gh;obtain ⟨rfl,cL,dq⟩:=h0.row1;obtain ⟨dd,inf,z,eC,gO,hz,gM,im⟩:=eS gv;have bF:inf.size=1:=by rw [←h1,im]
 have eT:z.cells.size=1:=by rw [←h2,im,Array.length_toList]
 have ma:inf.bytes≤100000:=by rw [im] at gL;exact gL
 have hu:=lC aY kW;have bY:cp (Ob.bag e 1 false ao qs)=true:=rfl;have f_:∀ k',k'≠k→ao≠some k':=fun k' hn=>by rcases gE with h|h<;>rw [h]<;>simp [Ne.symm hn]
 have hid:=(List.getElem?_eq_some_iff.1 hi).1;have dG:∀ (i:Nat) (ob:Ob),i≠id→(st.h.set id (some (Ob.bag e 1 false (some k) qs)))[i]? = some (some ob)→st.h[i]? = some (some ob):=fun i ob hn h=>by rwa [List.getElem?_set_ne (Ne.symm hn)] at h
 obtain ⟨ay,cy,u0,rfl,qY,sR,cf⟩ : ∃ (ay:Addr) (cy:Nat) (u0:Value),vy = .slice (some ay) 1 cy∧w.cell? (ay.add 0)=some u0∧V0 w (Mof M0 st.h p) x u0∧cV x=true:=by
  cases hy with
  | sl _ _ dy b o u au hb hM dC aL ho hc hv=>
   refine ⟨⟨b,o,none⟩,dy,u 0 0,rfl,?_,hv 0 _ 0 _ rfl rfl,ho 0 _ 0 _ rfl rfl⟩;have:=hc 0 0 (by simp) (by decide);rw [jk];simpa using this
 have wv:=sR.one cf;have wR:∀ (k':Nat) (v':Value),k' < qs.length→k'≠k→cur[k']? = some v'→Dist (.slice A es.length cap) v':=fun k' v' dP au bE=>qW cur e k' v' bN dP au (f_ k' au) bE;have wS:∀ (k':Nat) (v':Value),k' < qs.length→k'≠k→cur[k']? = some v'→Spare w p id 1 v':=fun k' v' dP au bE=>by
  obtain ⟨v2,g1,_,g3⟩:=OV k' _ (List.getElem?_eq_getElem dP);rw [bE] at g1;obtain rfl:=Option.some.inj g1;exact g3 (f_ k' au)
 have lL:(es++[[x]]).length=es.length+1:=by simp
 have mg:∀ (k:Nat) (y:List AV),(es++[[x]])[k]? = some y→y.length=1∧∀ c∈y,cV c=true:=fun k y hy=>by
  rcases Nat.lt_or_ge k es.length with hl|hl
  ·rw [List.getElem?_append_left hl] at hy;exact cL k y hy
  ·rw [List.getElem?_append_right hl] at hy;cases hj:k - es.length with
   | zero=>rw [hj] at hy;simp at hy;subst hy;exact ⟨rfl,by simpa using cf⟩
   | succ j=>rw [hj] at hy;simp at hy
 by_cases fj:es.length+1≤cap
 ·obtain ⟨b,o,sS,tb,rfl,wT,iQ,fO,_,Hb,hS⟩:=gh (by omega);simp only [Nat.mul_one] at iQ hS;have ue:=hS (o+es.length) (Nat.le_refl _);have aC:=run_append_room_cells (P:=P) w t ty ti.elem inf hu gO b o es.length cap ay 1 cy [u0] (by simp [bF]) (fun j u hj=>by
   cases j with
   | zero=>simp at hj;rw [←hj];exact qY
   | succ j=>simp at hj) (by simpa using wv) fj (fun j hj=>by
   obtain rfl:j=0:=by simpa using hj
   rw [bF,cell_of_row w b _ sS tb (0,0) wT];have:o+es.length*1+0 < sS.size:=by omega
   simpa using this) (fun j hj=>by simp [World.frozen?,wT])
  rw [bF,Nat.mul_one] at aC;have zy:∀ b' j,¬Mof M0 st.h p b' j→¬Mof M0 (st.h.set id (some (Ob.bag e 1 false (some k) qs))) ⟨p.b,fun i=>if i=id then fun b' j=>p.S id b' j∧¬(b'=b∧j=o+es.length) else p.S i⟩ b' j:=fun b' j hn hm=>by
   rcases hm with hm|⟨i,ob,aF,bu,hO⟩
   ·exact hn (.inl hm)
   ·by_cases he:i=id
    ·subst he;rcases hO with hO|hO
     ·exact hn (.inr ⟨i,_,hi,bY,.inl hO⟩)
     ·simp only [if_true] at hO;exact hn (.inr ⟨i,_,hi,bY,.inr hO.1⟩)
    ·refine hn (.inr ⟨i,ob,dG i ob he aF,bu,?_⟩);rcases hO with hO|hO
     ·exact .inl hO
     ·simp only [if_neg he] at hO;exact .inr hO
  have Hc:Keeps (fun b j=>p.S id b j) w (w.setCells b (o+es.length) [u0]):=by
   refine ⟨by rw [vh];exact Nat.le_refl _,fun b' _ hn=>xX u0 fun he=>hn (o+es.length) (by rw [he];exact ue),fun {b' o' v'} _ hn hc=>?_⟩;rw [World.cell?_setCells_out b [u0] (o+es.length) w ⟨b',o',none⟩ fun h1 _=>?_]
   ·exact hc
   ·simp only at h1 ⊢;have:o'≠o+es.length:=fun he=>hn (by rw [h1,he];exact ue);simp only [List.length_singleton];omega
  have de:=(Array.getElem?_eq_some_iff.1 wT).1;refine ⟨_,_,_,aC,R.bagPend (p':=⟨p.b,fun i=>if i=id then fun b' j=>p.S id b' j∧¬(b'=b∧j=o+es.length) else p.S i⟩) hd hi hk gE bN jj rfl rfl rfl Hc (fun _=>rfl) (fun i hn=>by simp only [if_neg hn]) (fun b' j h=>?_) (fun j h=>?_) (fun i ob hn aF bu b' j j' hO h=>?_) (fun b' j _ h=>?_) (fun k' v' dP au bE CY=>?_) ?_ ?_ fun k' v' dP au bE=>?_⟩
  ·simp only [if_true] at h;have:=hb1 b' j (.inr h.1);exact ⟨this.1,by rw [vh];exact this.2⟩
  ·simp only [if_true] at h;exact hb2 j h.1
  ·simp only [if_true] at h;exact hn (R.inj i id ob _ aF hi bu bY b' j j' hO (.inr h.1))
  ·simp only [if_true] at h;exact h.1
  ·obtain ⟨A2,n2,nR,rfl,q2,q3⟩:=CY;refine ⟨A2,n2,nR,rfl,q2,fun aq=>?_⟩;obtain ⟨b2,o2,ld,t2,rfl,g2,g3,g4,g5,g6,g7⟩:=q3 aq;have uf:b≠b2:=wR k' _ dP au bE b o es.length cap b2 o2 n2 nR rfl rfl (by omega) aq;refine ⟨b2,o2,ld,t2,rfl,by rw [xX u0 (Ne.symm uf)];exact g2,g3,g4,g5,g6,fun j hj=>?_⟩;simp only [if_true];exact ⟨g7 j hj,fun h=>uf h.1.symm⟩
  ·have aD:∀ k1,k1 < es.length+1→∃ u,(w.setCells b (o+es.length) [u0]).cell? ⟨b,o+k1,none⟩=some u∧∀ (y:List AV) (c:AV),(es++[[x]])[k1]? = some y→y[0]? = some c→V0 (w.setCells b (o+es.length) [u0]) (Mof M0 (st.h.set id (some (Ob.bag e 1 false (some k) qs))) ⟨p.b,fun i=>if i=id then fun b' j=>p.S id b' j∧¬(b'=b∧j=o+es.length) else p.S i⟩) c u:=fun k1 kA=>by
    have eg:∀ {c:AV} {u:Value},V0 w (Mof M0 st.h p) c u→V0 (w.setCells b (o+es.length) [u0]) (Mof M0 (st.h.set id (some (Ob.bag e 1 false (some k) qs))) ⟨p.b,fun i=>if i=id then fun b' j=>p.S id b' j∧¬(b'=b∧j=o+es.length) else p.S i⟩) c u:=fun hv=>hv.keep (Hc.mono fun b j _ hS=>.inr ⟨id,_,hi,bY,.inr hS⟩) fun b j _=>zy b j;rcases Nat.lt_or_ge k1 es.length with hl|hl
    ·obtain ⟨b3,o3,hA,_,cJ⟩:=dq (by omega);simp only [Option.some.injEq,Addr.mk.injEq] at hA;obtain ⟨rfl,rfl,_⟩:=hA;obtain ⟨_,u,g1,g2⟩:=cJ k1 hl;refine ⟨u,?_,fun y c hy hc=>eg (g2 y c (by rwa [List.getElem?_append_left hl] at hy) hc)⟩;rw [World.cell?_setCells_out b [u0] (o+es.length) w ⟨b,o+k1,none⟩ fun _ _=>.inl (by simp only;omega)];exact g1
    ·obtain rfl:k1=es.length:=by omega
     refine ⟨u0,?_,fun y c hy hc=>?_⟩
     ·rw [cell_of_row _ b _ _ tb (0,0) (xW u0 wT)];have:o+es.length < sS.size:=by omega
      simp [this]
     ·rw [List.getElem?_append_right (Nat.le_refl _),Nat.sub_self] at hy;simp at hy;subst hy;simp at hc;subst hc;exact eg sR
   have hv:=V0.sl (w:=w.setCells b (o+es.length) [u0]) (M:=Mof M0 (st.h.set id (some (Ob.bag e 1 false (some k) qs))) ⟨p.b,fun i=>if i=id then fun b' j=>p.S id b' j∧¬(b'=b∧j=o+es.length) else p.S i⟩) 1 (es++[[x]]) cap b o (fun k1 _=>((w.setCells b (o+es.length) [u0]).cell? ⟨b,o+k1,none⟩).getD undef) (by simp) (by rw [vh];exact de) (fun k1 j kA hj hm=>?_) (by omega) (fun k1 y hy=>(mg k1 y hy).1) (fun k1 y j c hy hc=>(mg k1 y hy).2 c (List.mem_of_getElem? hc)) (fun k1 j kA hj=>?_) fun k1 y j c hy hc=>?_
   ·rw [lL] at hv;exact hv
   ·obtain rfl:j=0:=by omega
    simp only [Nat.mul_one,Nat.add_zero] at hm;rcases Nat.lt_or_ge k1 es.length with hl|hl
    ·obtain ⟨b3,o3,hA,_,cJ⟩:=dq (by omega);simp only [Option.some.injEq,Addr.mk.injEq] at hA;obtain ⟨rfl,rfl,_⟩:=hA;exact zy _ _ (cJ k1 hl).1 hm
    ·obtain rfl:k1=es.length:=by omega
     rcases hm with hm|⟨i,ob,aF,bu,hO⟩
     ·exact R.h0 _ _ hm (hb1 _ _ (.inr ue)).1
     ·by_cases he:i=id
      ·subst he;rcases hO with hO|hO
       ·exact Hb hO.symm
       ·simp only [if_true] at hO;exact hO.2 ⟨trivial,trivial⟩
      ·refine he (R.inj i id ob _ (dG i ob he aF) hi bu bY b (o+es.length) (o+es.length) ?_ (.inr ue));rcases hO with hO|hO
       ·exact .inl hO
       ·simp only [if_neg he] at hO;exact .inr hO
   ·obtain rfl:j=0:=by omega
    obtain ⟨u,g1,_⟩:=aD k1 (by omega);simp only [Nat.mul_one,Nat.add_zero];rw [g1];rfl
   ·obtain ⟨u,g1,g2⟩:=aD k1 (by rw [←lL];exact (List.getElem?_eq_some_iff.1 hy).1);have l5:j=0:=by
     have:=(mg k1 y hy).1;have:=(List.getElem?_eq_some_iff.1 hc).1;omega
    subst l5;rw [g1];exact g2 y c hy hc
  ·refine ⟨_,_,_,rfl,fj,fun aq=>⟨b,o,_,tb,rfl,xW u0 wT,by simpa using iQ,fO,Nat.one_pos,Hb,fun j hj=>?_⟩⟩;show (if id=id then _ else _:Nat→Nat→Prop) b j;rw [if_pos rfl];exact ⟨hS j (by omega),fun h=>by omega⟩
  ·intro b3 o3 n3 c3 b4 o4 n4 c4 e3 e4 l3 l4;simp only [Value.slice.injEq,Option.some.injEq,Addr.mk.injEq] at e3;obtain ⟨⟨rfl,rfl,_⟩,rfl,rfl⟩:=e3;exact wR k' v' dP au bE b o es.length cap b4 o4 n4 c4 rfl e4 (by omega) l4
 ·have hA:A=none→es.length=0∧cap=0:=fun h=>by
   have:¬0 < es.length:=fun hl=>by
    obtain ⟨b,o,hA,_⟩:=dq hl;rw [h] at hA;cases hA
   omega
  obtain ⟨g,dy,p7,w',aC,du,zj,hg,kB,fO,bM,hold,fq,cq⟩:=CD (P:=P) (w:=w) (ty:=ty) (c:=cy) hu gO hz bF eT ma (A:=A) (n:=es.length) (cap:=cap) (olds:=(List.range es.length).map fun k=>match A with|some a0=>(w.cell? (a0.add k)).getD undef|none=>undef) hA (by simp) (fun a0 h0 j u hj=>by
   subst h0;have bI:j < es.length:=by simpa using (List.getElem?_eq_some_iff.1 hj).1
   rw [List.getElem?_map,List.getElem?_range bI] at hj;simp only [Option.map_some,Option.some.injEq] at hj;obtain ⟨b,o,hA,_,cJ⟩:=dq (by omega);simp only [Option.some.injEq] at hA;subst hA;obtain ⟨_,u1,g1,_⟩:=cJ j bI;rw [jk,g1] at hj;rw [jk,g1,←hj];rfl) qY (by omega) ij
  have zy:∀ b' j,b' < w.heap.size→¬Mof M0 st.h p b' j→¬Mof M0 (st.h.set id (some (Ob.bag e 1 false (some k) qs))) ⟨p.b,fun i=>if i=id then fun b' j=>p.S id b' j∨(b'=g∧es.length+1≤j) else p.S i⟩ b' j:=fun b' j aq hn hm=>by
   rcases hm with hm|⟨i,ob,aF,bu,hO⟩
   ·exact hn (.inl hm)
   ·by_cases he:i=id
    ·subst he;rcases hO with hO|hO
     ·exact hn (.inr ⟨i,_,hi,bY,.inl hO⟩)
     ·simp only [if_true] at hO;rcases hO with hO|⟨rfl,_⟩
      ·exact hn (.inr ⟨i,_,hi,bY,.inr hO⟩)
      ·omega
    ·refine hn (.inr ⟨i,ob,dG i ob he aF,bu,?_⟩);rcases hO with hO|hO
     ·exact .inl hO
     ·simp only [if_neg he] at hO;exact .inr hO
  have eg:∀ {c:AV} {u:Value},V0 w (Mof M0 st.h p) c u→V0 w' (Mof M0 (st.h.set id (some (Ob.bag e 1 false (some k) qs))) ⟨p.b,fun i=>if i=id then fun b' j=>p.S id b' j∨(b'=g∧es.length+1≤j) else p.S i⟩) c u:=fun hv=>hv.keep (.of_below cq) zy;refine ⟨_,_,_,aC,R.bagPend (p':=⟨p.b,fun i=>if i=id then fun b' j=>p.S id b' j∨(b'=g∧es.length+1≤j) else p.S i⟩) hd hi hk gE bN jj cq.os cq.tape cq.output (.of_below cq) (fun _=>rfl) (fun i hn=>by simp only [if_neg hn]) (fun b' j h=>?_) (fun j h=>?_) (fun i ob hn aF bu b' j j' hO h=>?_) (fun b' j aq h=>?_) (fun k' v' dP au bE CY=>?_) ?_ ?_ fun k' v' dP au bE=>?_⟩
  ·simp only [if_true] at h;rcases h with h|⟨rfl,_⟩
   ·have:=hb1 b' j (.inr h);exact ⟨this.1,Nat.lt_of_lt_of_le this.2 cq.size⟩
   ·exact ⟨.inl (Nat.le_trans R.below.size du),zj⟩
  ·simp only [if_true] at h;rcases h with h|⟨h,_⟩
   ·exact hb2 j h
   ·omega
  ·simp only [if_true] at h;rcases h with h|⟨rfl,_⟩
   ·exact hn (R.inj i id ob _ aF hi bu bY b' j j' hO (.inr h))
   ·have:=((R.objs i ob aF).own bu b' j hO).2;omega
  ·simp only [if_true] at h;rcases h with h|⟨rfl,_⟩
   ·exact h
   ·omega
  ·refine Spare.mono (p:=p) rfl (fun b j h=>?_) (fun b j _ aq=>cq.block b aq) CY;simp only [if_true];exact .inl h
  ·have aD:∀ k1,k1 < es.length+1→∃ u,p7[k1]? = some u∧∀ (y:List AV) (c:AV),(es++[[x]])[k1]? = some y→y[0]? = some c→V0 w' (Mof M0 (st.h.set id (some (Ob.bag e 1 false (some k) qs))) ⟨p.b,fun i=>if i=id then fun b' j=>p.S id b' j∨(b'=g∧es.length+1≤j) else p.S i⟩) c u:=fun k1 kA=>by
    rcases Nat.lt_or_ge k1 es.length with hl|hl
    ·obtain ⟨b3,o3,rfl,_,cJ⟩:=dq (by omega);obtain ⟨_,u,g1,g2⟩:=cJ k1 hl;refine ⟨u,?_,fun y c hy hc=>eg (g2 y c (by rwa [List.getElem?_append_left hl] at hy) hc)⟩;rw [hold k1 hl,List.getElem?_map,List.getElem?_range hl];simp only [Option.map_some,jk,g1,Option.getD_some]
    ·obtain rfl:k1=es.length:=by omega
     refine ⟨u0,fq,fun y c hy hc=>?_⟩;rw [List.getElem?_append_right (Nat.le_refl _),Nat.sub_self] at hy;simp at hy;subst hy;simp at hc;subst hc;exact eg sR
   have hv:=V0.sl (w:=w') (M:=Mof M0 (st.h.set id (some (Ob.bag e 1 false (some k) qs))) ⟨p.b,fun i=>if i=id then fun b' j=>p.S id b' j∨(b'=g∧es.length+1≤j) else p.S i⟩) 1 (es++[[x]]) dy g 0 (fun k1 _=>(p7[k1]?).getD undef) (by simp) zj (fun k1 j kA hj hm=>?_) (by omega) (fun k1 y hy=>(mg k1 y hy).1) (fun k1 y j c hy hc=>(mg k1 y hy).2 c (List.mem_of_getElem? hc)) (fun k1 j kA hj=>?_) fun k1 y j c hy hc=>?_
   ·rw [lL] at hv;exact hv
   ·obtain rfl:j=0:=by omega
    simp only [Nat.mul_one,Nat.add_zero,Nat.zero_add] at hm;rcases hm with hm|⟨i,ob,aF,bu,hO⟩
    ·have:=R.lt g k1 (.inl hm);omega
    ·by_cases he:i=id
     ·subst he;rcases hO with hO|hO
      ·have:p.b i=g:=hO;omega
      ·simp only [if_true] at hO;rcases hO with hO|⟨_,hO⟩
       ·have:=(hb1 _ _ (.inr hO)).2;omega
       ·omega
     ·have kH:p.O i g k1:=by
       rcases hO with hO|hO
       ·exact .inl hO
       ·simp only [if_neg he] at hO;exact .inr hO
      have:=((R.objs i ob (dG i ob he aF)).own bu g k1 kH).2;omega
   ·obtain rfl:j=0:=by omega
    obtain ⟨u,g1,_⟩:=aD k1 (by omega);simp only [Nat.mul_one,Nat.add_zero,Nat.zero_add];rw [cell_of_row w' g _ p7 ti.elem (0,0) hg,g1];rfl
   ·obtain ⟨u,g1,g2⟩:=aD k1 (by rw [←lL];exact (List.getElem?_eq_some_iff.1 hy).1);have l5:j=0:=by
     have:=(mg k1 y hy).1;have:=(List.getElem?_eq_some_iff.1 hc).1;omega
    subst l5;rw [g1];exact g2 y c hy hc
  ·refine ⟨_,_,_,rfl,kB,fun aq=>⟨g,0,p7,ti.elem,rfl,hg,by omega,fO,Nat.one_pos,?_,fun j hj=>?_⟩⟩
   ·show g≠p.b id;omega
   ·simp only [if_true];exact .inr ⟨trivial,by omega⟩
  ·intro b3 o3 n3 c3 b4 o4 n4 c4 e3 e4 l3 l4;simp only [Value.slice.injEq,Option.some.injEq,Addr.mk.injEq] at e3;obtain ⟨⟨rfl,_,_⟩,_,_⟩:=e3;obtain ⟨A2,n2,nR,q1,_,q3⟩:=wS k' v' dP au bE;rw [e4] at q1;simp only [Value.slice.injEq] at q1;obtain ⟨rfl,rfl,rfl⟩:=q1;obtain ⟨b5,o5,_,_,q4,q5,_⟩:=q3 l4;simp only [Option.some.injEq,Addr.mk.injEq] at q4;obtain ⟨rfl,rfl,_⟩:=q4;have:=(Array.getElem?_eq_some_iff.1 q5).1;omega
end
def nh (P:Program) (st:VS) (o:Oper) : Option VS:=
 match o.op with
 | .store t x y=>match o.dst,aZ P t,ev st x with
  | none,some ti,.aref id sz i off=>match st.h[id]? with
   | some (some (.bag e bD nl ao qs))=>if sz=1∧off=0∧nl=false∧i < qs.length∧(ao=none∨ao=some i)∧ti.size=1∧st.h.all (rE id)=true then
     (match ev st y with
     | .slw gR k oE es=>if gR=id∧k=i∧oE=bD then some ⟨st.s.map fun q=>(q.1,unW id q.2),st.h.set id (some (.bag e bD false none (qs.set i es)))⟩ else none
     | .osl r=>match st.h[r]? with
      | some (some (.arr _ oE _ Hd))=>if oE=bD then some ⟨st.s.map fun q=>(q.1,unW id q.2),(st.h.set r none).set id (some (.bag e bD false none (qs.set i Hd)))⟩ else none
      | _=>none
     | _=>none) else none
   | _=>none
  | _,_,_=>none
 | .call ⟨.builtin .append,xs,ts⟩=>match xs.toList,ts.toList,o.dst with
  | [x,y],[t,t'],some d=>match aZ P t,ev st x,ev st y with
   | some ti,.slw id k sz es,.sl bD [[c]]=>match st.h[id]? with
    | some (some (.bag e He nl ao qs))=>match aZ P ti.elem with
     | some te=>if t=t'∧ti.kind=1∧te.size=1∧te.zero.length=1∧te.bytes≤100000∧sz=1∧bD=1∧He=1∧nl=false∧k < qs.length∧(ao=none∨ao=some k)∧st.h.all (rE id)=true∧es.length+1≤1000000000 then
       some ⟨(d,.slw id k 1 (es++[[c]]))::st.s.map (fun q=>(q.1,unW id q.2)),st.h.set id (some (.bag e 1 false (some k) qs))⟩ else none
     | none=>none
    | _=>none
   | _,_,_=>none
  | _,_,_=>none
 | _=>none
section
variable {P:Program} {M0:Nat→Nat→Prop} {w0:Bas} {N:Nm} {p:Pl} {st:VS} {a:Act} {w:World}
theorem uN {h:Hp} {id:Nat} (hb:h.all (rE id)=true) (i:Nat) (cs:List AV) (hi:h[i]? = some (some (.box cs))) (c:AV) (hc:c∈cs) : dK id 5 c=true:=by
 have:=List.all_eq_true.1 hb _ (List.mem_of_getElem? hi);exact List.all_eq_true.1 this c hc
theorem OX {v:Value} (h:∃ A n c,v = .slice A n c) : v.cells.toList=[v]:=by
 obtain ⟨A,n,c,rfl⟩:=h;rfl
theorem V0.sl_form {M:Nat→Nat→Prop} {sz:Nat} {es:List (List AV)} {v:Value} (h:V0 w M (.sl sz es) v) : ∃ A n c,v = .slice A n c:=by
 cases h with
 | slNil _ A c=>exact ⟨A,0,c,rfl⟩
 | sl _ _ c b o u=>exact ⟨_,_,c,rfl⟩
theorem Hf {t:TypeId} {ti:TI} {id i e:Nat} {cur:Array Value} {v:Value} (aY:aZ P t=some ti) (h1:ti.size=1) (hv:∃ A n c,v = .slice A n c) (bN:w.heap[p id]? = some (.cells cur e (0,0))) (hi:i < cur.size) :
  (Instr.storeAt t (.pointer (some ⟨p id,i*1+0,none⟩)) v).run P w = .ok () (w.setRow (p id) (cur.setIfInBounds i v)):=by
 have hc:=OX hv;have:=Cj (P:=P) (w:=w) (o:=i*1+0) aY (v:=v) (by rw [←Array.length_toList,hc,h1];rfl) bN (by omega) (by
  rw [hc];intro x hx;simp only [List.mem_singleton] at hx;subst hx;obtain ⟨A,n,c,rfl⟩:=hv;rfl)
 rw [this,hc];simp only [Nat.mul_one,Nat.add_zero,List.length_singleton];rw [ND hi]
theorem DS (R:Rel M0 w0 N p st a w) {o:Oper} {aK:VS} (hd:cX N o=true) (ht:nh P st o=some aK) :
  ∃ v w' p',(execOp a.eval o).run P w = .ok (.value v) w'∧Rel M0 w0 N p' aK (a.put o.dst v) w'∨(execOp a.eval o).run P w = .ok .skip w'∧v=undef∧Rel M0 w0 N p' aK (a.put o.dst undef) w':=by
 have aq:=fw hd;obtain ⟨dst,op,ty,pos,after,guard⟩:=o;simp only at aq;unfold nh at ht;simp only at ht;split at ht
 ·rename_i t x y;split at ht
  ·rename_i ti id sz i off aY hx;split at ht
   ·rename_i e bD nl ao qs hid;split at ht
    ·rename_i hc;obtain ⟨rfl,rfl,rfl,hi,gE,h1,aG⟩:=hc;obtain ⟨_,_,cur,bN,hlen,_,_⟩:=R.bagRow hid;have iR:=R.eval x;rw [hx] at iR;obtain ⟨hq,_⟩:=iR.aref_inv;have jT:=R.eval y;split at ht
     ·rename_i gR k oE es hy;split at ht
      ·rename_i hc;obtain ⟨rfl,rfl,rfl⟩:=hc;simp only [Option.some.injEq] at ht;subst ht;rw [hy] at jT;have aC:=Hf (P:=P) (p:=p) aY h1 jT.slw_inv.2.1.sl_form bN (show k < cur.size by omega);exact ⟨undef,_,p,.inr ⟨by simp only [execOp,Sem.run_bind,hq,aC];rfl,rfl,R.bagStore hid hi gE bN (uN aG) jT⟩⟩
      ·cases ht
     ·rename_i r hy;split at ht
      ·rename_i er oE QP Hd hr;split at ht
       ·rename_i hc;subst hc;simp only [Option.some.injEq] at ht;subst ht;rw [hy] at jT;obtain ⟨p',R'⟩:=R.bagTake hid hi gE bN (uN aG) hr jT;obtain ⟨A,n,c,OY,_⟩:=jT.osl_inv;have aC:=Hf (P:=P) (p:=p) aY h1 ⟨A,n,c,OY⟩ bN (show i < cur.size by omega);exact ⟨undef,_,p',.inr ⟨by simp only [execOp,Sem.run_bind,hq,aC];rfl,rfl,R'⟩⟩
       ·cases ht
      ·cases ht
     ·cases ht
    ·cases ht
   ·cases ht
  ·cases ht
 ·rename_i xs ts;split at ht
  ·rename_i x y t t' d eo ja;split at ht
   ·rename_i ti id k sz es bD c aY hx hy;split at ht
    ·rename_i e He nl ao qs hid;split at ht
     ·rename_i te gv;split at ht
      ·rename_i hc;obtain ⟨rfl,hk,h1,h2,gL,rfl,rfl,rfl,rfl,cF,gE,aG,ij⟩:=hc;simp only [Option.some.injEq] at ht;subst ht;have iR:=R.eval x;rw [hx] at iR;have jT:=R.eval y;rw [hy] at jT;obtain ⟨v,w',p',aC,R'⟩:=R.bagApp (ty:=ty) (aq d rfl) aY hk gv h1 h2 gL hid cF gE (uN aG) iR jT.sl_inv ij;refine ⟨v,w',p',.inl ⟨?_,R'⟩⟩;have e1:xs=#[x,y]:=by apply Array.ext';exact eo
       have e2:ts=#[t,t]:=by apply Array.ext';exact ja
       subst e1 e2;simp only [execOp,resolve,invoke,builtin,Sem.run_bind,Sem.run_pure,Result.andThen_ok,List.map_toArray,List.map_cons,List.map_nil,aC]
      ·cases ht
     ·cases ht
    ·cases ht
   ·cases ht
  ·cases ht
 ·cases ht
end
attribute [go_sem] nh unW dK rE
def fk (N:Nm) : Code→Bool
 | .region _ ops _=>ops.toList.all (cX N)
 | .seq a b=>fk N a&&fk N b
 | .cond _ a b=>fk N a&&fk N b
 | .block _ c=>fk N c
 | .loop c=>fk N c
 | .skip=>true
 | .exit _=>true
 | .ret=>true
 | _=>false
section
variable (P:Program)
def OwnRow (w w':World) (M:Nat→Nat→Prop) (e sz:Nat) (nl:Bool) (es:List (List AV)) (v:Value) : Prop:=
 if nl=true then (∃ A,v = .slice A 0 0)∧es=[] else ∃ g cap cur,v = .slice (some ⟨g,0,none⟩) es.length cap∧w.heap.size≤g∧w'.heap[g]? = some (.cells cur e (0,0))∧cur.size=cap*sz∧es.length≤cap∧cap≤maxLen ∧
  ∀ (k:Nat) (x:List AV) (j:Nat) (c:AV),es[k]? = some x→x[j]? = some c→∃ u,cur[k*sz+j]? = some u∧V0 w' (fun b j=>M b j∨b=g) c u
def VCo (f:FuncId) (args:List AV) (e sz:Nat) (nl:Bool) (es:List (List AV)) : Prop:=
 lP P f=true∧0 < sz∧(∀ (k:Nat) (x:List AV),es[k]? = some x→x.length=sz∧∀ c∈x,cV c=true) ∧
 ∀ (w:World) (M:Nat→Nat→Prop) (vs:List Value),MOK w M→vs.length=args.length→(∀ (i:Nat) (a:AV) (v:Value),args[i]? = some a→vs[i]? = some v→V0 w M a v) →
  Calls P f vs.toArray w fun en w'=>∃ v,en = .returned v∧Below w.heap.size w w'∧OwnRow w w' M e sz nl es v
def uL (st:VS) (c:Call) (e sz:Nat) (nl:Bool) (es:List (List AV)) : Prop:=
 match qg P (ev st) c with
 | none=>False
 | some (k,args)=>VCo P k args e sz nl es∧args.all (fh 5)=true
def oD (ow:List Nat) (o:Oper) : Option (Call×Nat):=
 match o.op,o.dst with
 | .call c,some d=>match c.callee with
  | .value _=>if ow.contains d then some (c,d) else none
  | _=>none
 | _,_=>none
def VDo (ow:List Nat) (o:Oper) (st:VS) (K:VS→Prop) : Prop:=
 match j9 P ow st o with
 | some aK=>K aK
 | none=>match nh P st o with
  | some aK=>K aK
  | none=>match oD ow o with
   | some (c,d)=>∃ e sz nl es,uL P st c e sz nl es∧K ⟨(d,.osl st.h.length)::st.s,st.h++[some (.arr e sz nl es)]⟩
   | none=>∃ r,dJ P st.h (ev st) o.op r∧K (st.put o.dst r)
def db (ops:List Oper) (st:VS) (j:Nat) : AV:=match ops[j]? with|some o=>(match o.dst with|some d=>lkp st.s d|none=>.lit undef)|none=>.lit undef
def VOp (ow:List Nat) (ops:List Oper) (o:Oper) (st:VS) (K:VS→Prop) : Prop:=
 match o.guard with
 | none=>VDo P ow o st K
 | some (j,want)=>match db ops st j with
  | .lit (.bool b)=>if b=want then VDo P ow o st K else K (st.put o.dst (.lit undef))
  | .lit (.tuple _)=>K (st.put o.dst (.lit undef))
  | _=>False
def ef (ow:List Nat) (ops:List Oper) : List Oper→VS→(VS→Prop)→Prop
 | [],st,K=>K st
 | o::l,st,K=>VOp P ow ops o st fun aK=>ef ow ops l aK K
end
section
variable {P:Program} {M0:Nat→Nat→Prop} {w0:Bas} {N:Nm} {p:Pl} {st:VS} {a:Act} {w:World}
theorem DT (R:Rel M0 w0 N p st a w) {o:Oper} {ow:List Nat} {c:Call} {d e sz:Nat} {nl:Bool} {es:List (List AV)} {K':Act→World→Prop} {Q:Exit→Act→World→Prop} (hd:cX N o=true) (hc:oD ow o=some (c,d)) (h:uL P st c e sz nl es)
  (hk:∀ p a w,Rel M0 w0 N p ⟨(d,.osl st.h.length)::st.s,st.h++[some (.arr e sz nl es)]⟩ a w→K' a w) : o.wp P a w K' Q:=by
 obtain ⟨dst,op,ty,pos,after,guard⟩:=o;have aq:=fw hd;unfold oD at hc;simp only at hc aq;split at hc
 ·rename_i c' d';split at hc
  ·split at hc
   ·simp only [Option.some.injEq,Prod.mk.injEq] at hc;obtain ⟨rfl,rfl⟩:=hc;obtain ⟨callee,bJ,ln⟩:=c';unfold uL at h;split at h
    ·exact h.elim
    ·rename_i k args cQ;obtain ⟨⟨lp,aL,cL,eG⟩,hp⟩:=h;obtain ⟨vs,aC,hlen,gI⟩:=xo (P:=P) (dst:=some d') (ty:=ty) (pos:=pos) (after:=after) (guard:=guard) (fun x _=>R.eval x) cQ lp;unfold Oper.wp;rw [aC];simp only [Oper.upon];refine (eG w (Mof M0 st.h p) vs R.mok hlen fun i b v hb hv=>(gI i b v hb hv).pure 5 (List.all_eq_true.1 hp b (List.mem_of_getElem? hb))).mono ?_;rintro en w' ⟨v,rfl,hb,ho⟩;unfold OwnRow at ho;cases nl
     ·simp only [Bool.false_eq_true,if_false] at ho;obtain ⟨g,cap,cur,rfl,hg,hh,bM,hle,fO,hv⟩:=ho;have jY:cM p st.h.length g st.h.length=g:=(kP p _ _).1;have hM:∀ b j,¬(Mof M0 st.h p b j∨b=g)→¬Mof M0 (st.h++[some (.arr e sz false es)]) (cM p st.h.length g) b j:=by
       intro b j hn hm;rcases hm with hm|⟨i,ob,hi,hl,uH⟩
       ·exact hn (.inl (.inl hm))
       ·rcases ze hi with ⟨aq,bA⟩|⟨rfl,hx⟩
        ·exact hn (.inl (.inr ⟨i,ob,bA,hl,(jl (Nat.ne_of_lt aq)).1 uH⟩))
        ·exact hn (.inr (lU uH))
      refine hk _ _ _ (R.grow hb (aq d' rfl) (fun _=>hg) (fun _ _ _ _ _ h=>by cases h) ⟨aL,cL,?_⟩ (.osl _ _ _ _ (by simp) (fun e' bD kz b9 he=>?_) fun e' bD kz pe qs he=>?_))
      ·rw [if_neg (by simp)];refine ⟨rJ (Nat.le_trans R.below.size hg),cur,by rw [jY];exact hh,by rw [bM];exact Nat.mul_le_mul_right _ hle,fun k x j c hk hj=>?_⟩;obtain ⟨u,hu,kI⟩:=hv k x j c hk hj;exact ⟨u,hu,kI.keep (Keeps.refl _ _) fun b j _ hn=>hM b j hn⟩
      ·rw [List.getElem?_append_right (Nat.le_refl _)] at he;simp only [Nat.sub_self,List.getElem?_cons_zero,Option.some.injEq] at he;injection he with h1 h2 h3 h4
       subst h1 h2 h3 h4;unfold Osl;rw [if_neg (by simp),jY];exact ⟨cap,cur,rfl,hh,bM,hle,fO⟩
      ·rw [List.getElem?_append_right (Nat.le_refl _)] at he;simp at he
     ·simp only [if_true] at ho;obtain ⟨⟨A0,rfl⟩,rfl⟩:=ho;refine hk _ _ _ (R.grow (b:=0) hb (aq d' rfl) (fun h=>by cases h) (fun _ _ _ _ _ h=>by cases h) ⟨aL,by simp,by simp⟩ (.osl _ _ _ _ (by simp) (fun e' bD kz b9 he=>?_) fun e' bD kz pe qs he=>?_))
      ·rw [List.getElem?_append_right (Nat.le_refl _)] at he;simp only [Nat.sub_self,List.getElem?_cons_zero,Option.some.injEq] at he;injection he with h1 h2 h3 h4
       subst h1 h2 h3 h4;simp [Osl]
      ·rw [List.getElem?_append_right (Nat.le_refl _)] at he;simp at he
   ·cases hc
  ·cases hc
 ·cases hc
theorem xk {ow:List Nat} {o:Oper} {K:VS→Prop} {K':Act→World→Prop} {Q:Exit→Act→World→Prop} (R:Rel M0 w0 N p st a w) (hd:cX N o=true) (h:VDo P ow o st K) (hk:∀ p st a w,Rel M0 w0 N p st a w→K st→K' a w) : o.wp P a w K' Q:=by
 unfold VDo at h;split at h
 ·rename_i aK he;obtain ⟨v,w',p',hh⟩:=Cq (P:=P) R hd he;unfold Oper.wp;rcases hh with ⟨h1,h2⟩|⟨h1,_,h2⟩
  ·rw [h1];exact hk _ _ _ _ h2 h
  ·rw [h1];exact hk _ _ _ _ h2 h
 ·split at h
  ·rename_i aK he;obtain ⟨v,w',p',hh⟩:=DS (P:=P) R hd he;unfold Oper.wp;rcases hh with ⟨h1,h2⟩|⟨h1,_,h2⟩
   ·rw [h1];exact hk _ _ _ _ h2 h
   ·rw [h1];exact hk _ _ _ _ h2 h
  ·split at h
   ·rename_i c d hc;obtain ⟨e,sz,nl,es,ho,hK⟩:=h;exact DT R hd hc ho fun p a w R=>hk _ _ _ _ R hK
   ·obtain ⟨r,hg,hK⟩:=h;have:=R.gives (P:=P) hg;exact jB this rfl fun v w' ⟨hv,hb⟩=>hk _ _ _ _ ((R.later hb).put (fw hd) hv) hK
theorem oA {ops:List Oper} {j:Nat} (R:Rel M0 w0 N p st a w) (eD:ops.all (cX N)=true) : (∀ b,db ops st j = .lit (.bool b)→yielded ops.toArray a.tmps j=some b)∧(∀ vs,db ops st j = .lit (.tuple vs)→yielded ops.toArray a.tmps j=none):=by
 unfold db yielded;cases hj:ops[j]? with
 | none=>simp [hj,undef]
 | some o=>
  have hd:=List.all_eq_true.1 eD o (List.mem_of_getElem? hj);cases ho:o.dst with
  | none=>simp [hj,ho,undef]
  | some d=>
   have aq:d < a.tmps.size:=R.size.lt (fw hd d ho);have hs:=R.slots d;have dn:a.tmps.getD d undef=a.tmps[d]:=by simp [aq]
   rw [dn] at hs;simp only [List.getElem?_toArray,hj,Option.bind_some,ho];refine ⟨fun b hb=>?_,fun vs hb=>?_⟩
   ·rw [hb] at hs;have:=hs.lit_inv;simp [aq,this]
   ·rw [hb] at hs;have:=hs.lit_inv;simp [aq,this]
theorem mn {ow:List Nat} {ops:List Oper} {K:VS→Prop} {Q:Exit→Act→World→Prop} (eD:ops.all (cX N)=true) (hk:∀ p st a w,Rel M0 w0 N p st a w→K st→Q .normal a w) :
  ∀ (l:List Oper) (p:Pl) (st:VS) (a:Act) (w:World),l.all (cX N)=true→Rel M0 w0 N p st a w→ef P ow ops l st K→wpList P ops.toArray Q l a w
 | [],p,st,a,w,_,R,h=>wpList_nil (hk p st a w R h)
 | o::l,p,st,a,w,hl,R,h=>by
  simp only [List.all_cons,Bool.and_eq_true] at hl;have ih:=fun p st a w=>mn (ow:=ow) eD hk l p st a w hl.2;refine wpList_step fun Y Z=>?_;simp only [ef,VOp] at h;have ku:VDo P ow o st (fun aK=>ef P ow ops l aK K)→o.wp P a w Y Q:=fun h=>xk R hl.1 h fun p st a w R h=>Z _ _ (ih p st a w R h);have ml:ef P ow ops l (st.put o.dst (.lit undef)) K→Y (a.put o.dst undef) w:=fun h=>Z _ _ (ih p _ _ w (R.put (fw hl.1) (.base _ _ (.lit _))) h);split at h
  ·rename_i hg;simp only [Region.wanted,hg,if_true];exact ku h
  ·rename_i j want hg;obtain ⟨uC,zZ⟩:=oA (j:=j) R eD;simp only [Region.wanted,hg];split at h
   ·rename_i b hb;rw [uC b hb];by_cases hw:b=want
    ·subst hw;rw [if_pos (by simp)];rw [if_pos rfl] at h;exact ku h
    ·rw [if_neg (by simpa using hw)];rw [if_neg hw] at h;exact ml h
   ·rename_i vs hb;rw [zZ vs hb,if_neg (by simp)];exact ml h
   ·exact h.elim
def VWp (P:Program) (M0:Nat→Nat→Prop) (w0:Bas) (N:Nm) (c:Code) (Q:Exit→VS→Prop) (st:VS) : Prop:=
 fk N c=true→∀ p a w,Rel M0 w0 N p st a w→c.wp P (fun e a' w'=>∃ aK p',Rel M0 w0 N p' aK a' w'∧Q e aK) a w
def lq (K:VS→Prop) (Q:Exit→VS→Prop) : Exit→VS→Prop
 | .normal,st=>K st
 | e,st=>Q e st
def sT (id:Nat) (Q:Exit→VS→Prop) : Exit→VS→Prop
 | .exit gR,st=>if gR=id then Q .normal st else Q (.exit gR) st
 | e,st=>Q e st
variable {Q:Exit→VS→Prop}
theorem ar (h:Q .normal st) : VWp P M0 w0 N .skip Q st:=fun _ p _ _ R=>wp_skip ⟨st,p,R,h⟩
theorem bQ {id:Nat} (h:Q (.exit id) st) : VWp P M0 w0 N (.exit id) Q st:=fun _ p _ _ R=>wp_exit ⟨st,p,R,h⟩
theorem az (h:Q .ret st) : VWp P M0 w0 N .ret Q st:=fun _ p _ _ R=>wp_ret ⟨st,p,R,h⟩
theorem af {x y:Code} (h:VWp P M0 w0 N x (lq (VWp P M0 w0 N y Q) Q) st) : VWp P M0 w0 N (.seq x y) Q st:=fun hB p a w R=>by
 simp only [fk,Bool.and_eq_true] at hB;refine wp_seq (wp_mono (h hB.1 p a w R) ?_);rintro e a' w' ⟨aK,p',R',hq⟩;cases e with
 | normal=>exact hq hB.2 p' a' w' R'
 | _=>exact ⟨aK,p',R',hq⟩
theorem ae {K:VS→Prop} (h:K st) : lq K Q .normal st:=h
theorem bP {K:VS→Prop} {id:Nat} (h:Q (.exit id) st) : lq K Q (.exit id) st:=h
theorem aT {K:VS→Prop} (h:Q .ret st) : lq K Q .ret st:=h
theorem bf {id:Nat} (h:Q .normal st) : sT id Q .normal st:=h
theorem cG {id:Nat} (h:Q .ret st) : sT id Q .ret st:=h
theorem bT {id:Nat} (h:Q .normal st) : sT id Q (.exit id) st:=by simpa [sT] using h
theorem aA {id:Nat} {c:Code} (h:VWp P M0 w0 N c (sT id Q) st) : VWp P M0 w0 N (.block id c) Q st:=fun hB p a w R=>by
 refine wp_block (wp_mono (h (by simpa [fk] using hB) p a w R) ?_);rintro e a' w' ⟨aK,p',R',hq⟩;cases e with
 | exit gR=>
  simp only [Exit.inBlock];simp only [sT] at hq;split
  ·rename_i he;rw [if_pos he] at hq;exact ⟨aK,p',R',hq⟩
  ·rename_i he;rw [if_neg he] at hq;exact ⟨aK,p',R',hq⟩
 | _=>exact ⟨aK,p',R',hq⟩
theorem CZ {c:Operand} {x y:Code} {t:Bool} (hc:ev st c = .lit (.bool t)) (h1:t=true→VWp P M0 w0 N x Q st) (h2:t=false→VWp P M0 w0 N y Q st) : VWp P M0 w0 N (.cond c x y) Q st:=fun hB p a w R=>by
 simp only [fk,Bool.and_eq_true] at hB;have he:=R.eval c;rw [hc] at he;exact wp_cond_split he.lit_inv (fun ht=>h1 ht hB.1 p a w R) (fun ht=>h2 ht hB.2 p a w R)
theorem aw {c:Operand} {x y:Code} (hc:ev st c = .lit (.bool true)) (h:VWp P M0 w0 N x Q st) : VWp P M0 w0 N (.cond c x y) Q st:=CZ hc (fun _=>h) (fun h=>by cases h)
theorem ak {c:Operand} {x y:Code} (hc:ev st c = .lit (.bool false)) (h:VWp P M0 w0 N y Q st) : VWp P M0 w0 N (.cond c x y) Q st:=CZ hc (fun h=>by cases h) (fun _=>h)
theorem ah {id:Nat} {l:List Oper} (ow:List Nat) (h:ef P ow l l st (Q .normal)) : VWp P M0 w0 N (.region id l.toArray false) Q st:=fun hB p a w R=>by
 have dm:l.all (cX N)=true:=by simpa [fk] using hB
 exact wp_region_lit (mn (ow:=ow) dm (fun p st a w R h=>⟨st,p,R,h⟩) l p st a w dm R h)
def bn (k:Nat) : Nat→AV→Bool
 | 0,_=>false
 | n+1,.agg cs=>cs.all (bn k n)
 | n+1,.tup cs=>cs.all (bn k n)
 | n+1,.fn _ a b=>a.all (bn k n)&&b.all (bn k n)
 | n+1,.iface _ v=>bn k n v
 | _+1,.ref id _=>decide (id < k)
 | _+1,.aref id _ _ _=>decide (id < k)
 | _+1,.osl id=>decide (id < k)
 | _+1,.mp id=>decide (id < k)
 | _+1,.slw id _ _ _=>decide (id < k)
 | _+1,_=>true
def ov (k:Nat) : Ob→Bool
 | .box cs=>cs.all (bn k 5)
 | .arr .. => true
 | .mpo .. => true
 | .bag .. => true
def leS (s:List (Nat×AV)) (n:Nat) : List (Nat×AV)→Prop
 | []=>True
 | (i,v)::r=>lkp s i=v∧bn n 5 v=true∧leS s n r
def leO (h:Hp) (n k:Nat) : Option Ob→Prop
 | none=>True
 | some ob=>h[k]? = some (some ob)∧ov n ob=true
def leH (h:Hp) (n:Nat) : Nat→Hp→Prop
 | _,[]=>True
 | k,o::r=>leO h n k o∧leH h n (k+1) r
def Le (st aK:VS) : Prop:=leS st.s aK.h.length aK.s∧aK.h.length≤st.h.length∧leH st.h aK.h.length 0 aK.h
theorem xi {h:Hp} {n:Nat} : ∀ (h':Hp) (k id:Nat) (ob:Ob),leH h n k h'→h'[id]? = some (some ob)→h[k+id]? = some (some ob)∧ov n ob=true
 | [],_,_,_,_,hi=>by simp at hi
 | o::r,k,id,ob,hh,hi=>by
  cases id with
  | zero=>
   simp only [List.getElem?_cons_zero,Option.some.injEq] at hi;subst hi;exact hh.1
  | succ id=>
   have:=xi r (k+1) id ob hh.2 (by simpa using hi);rwa [show k+1+id=k+(id+1) by omega] at this
theorem V1.trunc {w:World} {M M':Nat→Nat→Prop} {h h':Hp} {p:Pl} (hM:∀ b j,¬M b j→¬M' b j) (hh:∀ (id:Nat) (ob:Ob),h'[id]? = some (some ob)→h[id]? = some (some ob)) :
  ∀ (n:Nat) (av:AV) (v:Value),V1 w M h p av v→bn h'.length n av=true→V1 w M' h' p av v
 | 0,_,_,_,hb=>by simp [bn] at hb
 | n+1,av,v,hv,hb=>by
  have ih:=V1.trunc (w:=w) (p:=p) hM hh n;cases hv with
  | base _ _ h0=>exact .base _ _ (h0.keep (Keeps.refl _ _) fun b j _ hn=>hM b j hn)
  | slw id k sz es _ hid h0 hs=>exact .slw id k sz es v (by simpa [bn] using hb) (h0.keep (Keeps.refl _ _) fun b j _ hn=>hM b j hn) fun e bD pe qs he=>hs e bD pe qs (hh id _ he)
  | agg cs us hl h1 hv=>
   simp only [bn] at hb;exact .agg cs us hl h1 fun i c u hc hu=>ih c u (hv i c u hc hu) (List.all_eq_true.1 hb c (List.mem_of_getElem? hc))
  | tup cs us hl hv=>
   simp only [bn] at hb;exact .tup cs us hl fun i c u hc hu=>ih c u (hv i c u hc hu) (List.all_eq_true.1 hb c (List.mem_of_getElem? hc))
  | fn f x y us vs hl bp hv bE=>
   simp only [bn,Bool.and_eq_true] at hb;exact .fn f x y us vs hl bp (fun i c u hc hu=>ih c u (hv i c u hc hu) (List.all_eq_true.1 hb.1 c (List.mem_of_getElem? hc))) (fun i c u hc hu=>ih c u (bE i c u hc hu) (List.all_eq_true.1 hb.2 c (List.mem_of_getElem? hc)))
  | iface t x u hv=>exact .iface t x u (ih x u hv (by simpa [bn] using hb))
  | ref id off hid=>exact .ref id off (by simpa [bn] using hb)
  | aref id sz i off hid=>exact .aref id sz i off (by simpa [bn] using hb)
  | osl id A m c hid hv lN=>exact .osl id A m c (by simpa [bn] using hb) (fun e sz nl es he=>hv e sz nl es (hh id _ he)) fun e sz nl pe qs he=>lN e sz nl pe qs (hh id _ he)
  | mp id hid=>exact .mp id (by simpa [bn] using hb)
theorem Hg {st:VS} {M:Nat→Nat→Prop} {h':Hp} {p:Pl} {tm:Nat→Value} (hs:∀ i,bn h'.length 5 (lkp st.s i)=true→V1 w M h' p (lkp st.s i) (tm i)) : ∀ (s':List (Nat×AV)),leS st.s h'.length s'→∀ i,V1 w M h' p (lkp s' i) (tm i)
 | [],_,_=>.base _ _ (.any _)
 | (d,v)::r,hl,i=>by
  simp only [lkp];split
  ·rename_i he;subst he;have h1:=hs d (by rw [hl.1];exact hl.2.1);rwa [hl.1] at h1
  ·exact Hg hs r hl.2.2 i
theorem Rel.le {aK:VS} (R:Rel M0 w0 N p st a w) (hle:Le st aK) : Rel M0 w0 N p aK a w:=by
 obtain ⟨h1,h2,h3⟩:=hle;have hh:∀ (id:Nat) (ob:Ob),aK.h[id]? = some (some ob)→st.h[id]? = some (some ob):=fun id ob hi=>by
  have:=(xi aK.h 0 id ob h3 hi).1;rwa [Nat.zero_add] at this
 have hM:∀ b j,¬Mof M0 st.h p b j→¬Mof M0 aK.h p b j:=fun b j hn hm=>hn (by
  rcases hm with hm|⟨id,ob,hi,hl,hp⟩
  ·exact .inl hm
  ·exact .inr ⟨id,ob,hh id ob hi,hl,hp⟩)
 refine ⟨R.defers,R.size,R.below,R.m0,R.x0,fun i=>Hg (fun j hj=>V1.trunc hM hh 5 _ _ (R.slots j) hj) aK.s h1 i,fun id ob hi=>?_,fun id gR ob ob' hi bA=>R.inj id gR ob ob' (hh _ _ hi) (hh _ _ bA)⟩;have ho:=R.objs id ob (hh id ob hi);have dA:=(xi aK.h 0 id ob h3 hi).2;cases ob with
 | mpo kf iA=>exact ho
 | bag e sz nl ao qs=>exact ho.keep (fun _=>⟨rfl,rfl⟩) (fun _ _ _ _ _=>rfl) (Nat.le_refl _) (fun hx=>hx.keep (Keeps.refl _ _) fun b j _ hn=>hM b j hn) fun cs h=>by cases h
 | box cs=>
  obtain ⟨a1,cur,e,a2,a3,a4,a5⟩:=ho;exact ⟨a1,cur,e,a2,a3,a4,fun j c hj=>let ⟨u,hu,hv⟩:=a5 j c hj;⟨u,hu,V1.trunc hM hh 5 c u hv (List.all_eq_true.1 dA c (List.mem_of_getElem? hj))⟩⟩
 | arr e sz nl es=>
  obtain ⟨a1,a2,a3⟩:=ho;refine ⟨a1,a2,?_⟩;split at a3
  ·rename_i hn;rw [if_pos hn];exact a3
  ·rename_i hn;rw [if_neg hn];obtain ⟨b1,cur,b2,b3,b4⟩:=a3;exact ⟨b1,cur,b2,b3,fun k x j c hk hj=>let ⟨u,hu,hv⟩:=b4 k x j c hk hj;⟨u,hu,hv.keep (Keeps.refl _ _) fun b j _ hn=>hM b j hn⟩⟩
theorem xb {c:Code} {α:Type} (St:α→VS) (Inv:α→Prop) (μ:α→Nat) (x0:α) (hI:Inv x0) (h0:Le st (St x0))
  (round:∀ x,Inv x→∀ K:VS→Prop,(∀ aK y,Inv y→μ y < μ x→Le aK (St y)→K aK)→VWp P M0 w0 N c (lq K Q) (St x)) : VWp P M0 w0 N (.loop c) Q st:=fun hB p a w R=>by
 have dm:fk N c=true:=by simpa [fk] using hB
 refine wp_loop_ghost (fun n a w=>∃ x p,Inv x∧μ x=n∧Rel M0 w0 N p (St x) a w) (μ x0) ⟨x0,p,hI,rfl,R.le h0⟩ ?_;rintro n a w ⟨x,p,hx,rfl,R⟩;refine wp_mono (round x hx (fun aK=>∃ y,Inv y∧μ y < μ x∧Le aK (St y)) (fun aK y h1 h2 h3=>⟨y,h1,h2,h3⟩) dm p a w R) ?_;rintro e a' w' ⟨aK,p',R',hq⟩;cases e with
 | normal=>
  obtain ⟨y,hy,hm,hle⟩:=hq;exact ⟨μ y,hm,y,p',hy,rfl,R'.le hle⟩
 | _=>exact ⟨aK,p',R',hq⟩
theorem vle {c:Code} {aK:VS} (hle:Le st aK) (h:VWp P M0 w0 N c Q aK) : VWp P M0 w0 N c Q st:=fun hB p a w R=>h hB p a w (R.le hle)
def aB:Nat→List AV→List (Nat×AV)
 | _,[]=>[]
 | k,v::r=>(k,v)::aB (k+1) r
def o_ (P:Program) (st:VS) : List ResultVar→Option (List AV)
 | []=>some []
 | .tmp t::rs=>match o_ P st rs with|some vs=>some (qL st.h (lkp st.s t)::vs)|none=>none
 | .cell x t::rs=>match mi P st.h t (lkp st.s x),o_ P st rs with|some v,some vs=>some (qL st.h v::vs)|_,_=>none
def rq:List AV→AV
 | [v]=>v
 | vs=>.tup vs
def C0 (P:Program) (rs:List ResultVar) (r:AV) : Exit→VS→Prop
 | .ret,st=>(o_ P st rs).map rq=some r
 | .normal,st=>(o_ P st rs).map rq=some r
 | _,_=>False
theorem Rel.prep (R:Rel M0 w0 N p st a w) {v:AV} {u:Value} (hv:V1 w (Mof M0 st.h p) st.h p v u) : V0 w M0 (qL st.h v) u:=by
 unfold qL;split
 ·rename_i hp;exact (hv.pure 5 hp).keep (Keeps.refl _ _) fun b j _ hn hm=>hn (.inl hm)
 ·exact yP R.objs R.h0 (fun _ _ hb=>.inl hb) 5 v u hv
theorem C1 (R:Rel M0 w0 N p st a w) : ∀ (rs:List ResultVar) (vs:List AV),o_ P st rs=some vs →
  ∃ us:List Value,(rs.mapM fun | .tmp t=>pure (a.tmps.getD t undef) | .cell x t=>do loadVar t (←asAddr (a.tmps.getD x undef)) : Sem (List Value)).run P w = .ok us w∧us.length=vs.length∧∀ (i:Nat) (c:AV) (u:Value),vs[i]? = some c→us[i]? = some u→V0 w M0 c u
 | [],vs,h=>by
  simp only [o_,Option.some.injEq] at h;subst h;exact ⟨[],by simp,rfl,by simp⟩
 | .tmp t::rs,vs,h=>by
  simp only [o_] at h;split at h
  ·rename_i vs' gI;simp only [Option.some.injEq] at h;subst h;obtain ⟨us,aC,hl,hv⟩:=C1 R rs vs' gI;refine ⟨a.tmps.getD t undef::us,by simp only [List.mapM_cons,Sem.run_bind,Sem.run_pure,Result.andThen_ok,aC],by simp [hl],fun i c u hc hu=>?_⟩;cases i with
   | zero=>simp at hc hu;subst hc;subst hu;simpa using R.prep (R.slots t)
   | succ i=>exact hv i c u (by simpa using hc) (by simpa using hu)
  ·cases h
 | .cell x t::rs,vs,h=>by
  simp only [o_] at h;split at h
  ·rename_i v vs' bE gI;simp only [Option.some.injEq] at h;subst h;obtain ⟨us,aC,hl,hv⟩:=C1 R rs vs' gI;obtain ⟨u,hu,kI⟩:=zS (P:=P) R.objs (R.slots x) bE;have rr:∃ ad,a.tmps.getD x undef = .pointer (some ad):=by
    unfold mi at bE;split at bE
    ·cases bE
    ·split at bE
     ·cases bE
     ·rename_i cs bM;obtain ⟨b,o,hq,_⟩:=zT R.objs (R.slots x) bM;exact ⟨_,hq⟩
   obtain ⟨ad,uA⟩:=rr;rw [uA] at hu;simp only [Instr.loadAt,Instr.sureAddr,Sem.run_bind,Sem.run_pure,Result.andThen_ok] at hu;have e1:(asAddr (a.tmps.getD x undef)).run P w = .ok ad w:=by rw [uA];rfl
   refine ⟨u::us,by simp only [List.mapM_cons,Sem.run_bind,Sem.run_pure,Result.andThen_ok,e1,hu,aC],by simp [hl],fun i c y hc hy=>?_⟩;cases i with
   | zero=>simp at hc hy;subst hc;subst hy;exact R.prep kI
   | succ i=>exact hv i c y (by simpa using hc) (by simpa using hy)
  ·cases h
theorem zU:∀ (args:List AV) (k:Nat) (tm:Nat→Value) {M:Nat→Nat→Prop} {h:Hp} {p:Pl},(∀ (i:Nat) (c:AV),args[i]? = some c→V1 w M h p c (tm (k+i)))→∀ i,V1 w M h p (lkp (aB k args) i) (tm i)
 | [],_,_,_,_,_,_,_=>.base _ _ (.any _)
 | c::r,k,tm,M,h,p,hv,i=>by
  simp only [aB,lkp];split
  ·rename_i he;subst he;exact hv 0 c rfl
  ·refine zU r (k+1) tm (fun j c hj=>?_) i;have:=hv (j+1) c (by simpa using hj);rwa [show k+(j+1)=k+1+j by omega] at this
def pl0:Pl:=⟨fun _=>0,fun _ _ _=>False⟩
def uk (w:World) : Bas:=⟨w,fun _ _=>False⟩
theorem MOK.none {w:World} {M:Nat→Nat→Prop} (h:MOK w M) : MOK w (fun _ _=>False):=⟨fun _ _ h=>h.elim,fun g vs hg=>⟨(h.2.1 g vs hg).1,fun _ h=>h,(h.2.1 g vs hg).2.2⟩,fun g hg=>⟨(h.2.2.1 g hg).1,fun _ h=>h⟩,h.2.2.2⟩
theorem Hh {fn:Func} {args:List AV} {M:Nat→Nat→Prop} {vs:List Value} (hn:Nat.ble args.length fn.ntmps=true) (hM:MOK w M) (hl:vs.length=args.length) (hv:∀ (i:Nat) (a:AV) (v:Value),args[i]? = some a→vs[i]? = some v→V0 w M a v) :
  Rel M (uk w) (n0 fn.ntmps) pl0 ⟨aB 0 args,[]⟩ { tmps:=vs.toArray++Array.replicate (fn.ntmps - vs.toArray.size) undef,defers:=[] } w:=by
 refine ⟨rfl,⟨by have:=Nat.le_of_ble_eq_true hn;simp [n0];omega,fun i hi=>absurd hi (Nat.not_lt_zero i)⟩,Bel.start (uk w),hM,⟨hM.none,fun _ _ _ h=>h⟩,fun i=>?_,fun id ob hi=>by simp at hi,fun id _ _ _ hi=>by simp at hi⟩;refine zU args 0 (fun i=>(vs.toArray++Array.replicate (fn.ntmps - vs.toArray.size) undef).getD i undef) (fun i c hc=>?_) i;have hi:i < vs.length:=by rw [hl];exact (List.getElem?_eq_some_iff.1 hc).1
 rw [Nat.zero_add];have mj:(vs.toArray++Array.replicate (fn.ntmps - vs.toArray.size) undef).getD i undef=vs[i]:=by
  rw [Array.getD_eq_getD_getElem?,Array.getElem?_append_left (by simpa using hi)];simp [hi]
 rw [mj];refine .base _ _ ((hv i c _ hc (List.getElem?_eq_getElem hi)).keep (Keeps.refl _ _) fun b j _ hn hm=>?_);rcases hm with hm|⟨id,ob,hi,_⟩
 ·exact hn hm
 ·simp at hi
theorem sD {f:FuncId} {fn:Func} {c:Code} {args:List AV} {r:AV} (hf:P.funcs[f]? = some fn) (hb:fn.body=some c) (hg:lP P f=true) (hN:fk (n0 fn.ntmps) c=true) (hn:Nat.ble args.length fn.ntmps=true)
  (h:∀ M0 w0,VWp P M0 w0 (n0 fn.ntmps) c (C0 P fn.results.toList r) ⟨aB 0 args,[]⟩) : VC P f args r:=by
 refine ⟨hg,fun w M vs hM hl hv=>?_⟩;refine calls_of_wp hf hb ?_;refine wp_mono (h M (uk w) hN pl0 _ w (Hh hn hM hl hv)) ?_;have key:∀ (aK:VS) (p':Pl) (a':Act) (w':World),Rel M (uk w) (n0 fn.ntmps) p' aK a' w'→(o_ P aK fn.results.toList).map rq=some r→a'.defers=[]∧∃ v,(results fn a'.tmps).run P w' = .ok v w'∧∃ v',Ending.returned v = .returned v'∧Below w.heap.size w w'∧V0 w' M r v':=by
  intro aK p' a' w' R' hr;obtain ⟨vs',gI,cf⟩:=Option.map_eq_some_iff.1 hr;obtain ⟨us,aC,ru,pk⟩:=C1 (P:=P) R' _ _ gI;have mV:(fn.results.mapM fun | .tmp t=>pure (a'.tmps.getD t undef) | .cell x t=>do loadVar t (←asAddr (a'.tmps.getD x undef)) : Sem (Array Value)).run P w' = .ok us.toArray w':=by
   rw [←Array.toArray_toList (xs:=fn.results),List.mapM_toArray];simp only [Sem.run_map,aC,Result.andThen_ok]
  have hres:(results fn a'.tmps).run P w' = .ok (if h:us.toArray.size=1 then us.toArray[0] else .tuple us.toArray) w':=by
   unfold results;rw [Sem.run_bind];exact (congrArg (fun r=>Result.andThen r _) mV).trans rfl
  refine ⟨R'.defers,_,hres,_,rfl,R'.below.below (fun _ _ h=>h),?_⟩;subst cf;by_cases h1:us.length=1
  ·obtain ⟨u,rfl⟩ : ∃ u,us=[u]:=List.length_eq_one_iff.1 h1;obtain ⟨c,rfl⟩ : ∃ c,vs'=[c]:=List.length_eq_one_iff.1 (by rw [←ru];rfl);exact pk 0 c u rfl rfl
  ·have h2:rq vs' = .tup vs':=by
    cases vs' with
    | nil=>rfl
    | cons x y=>cases y with
     | nil=>simp at ru;omega
     | cons=>rfl
   rw [h2,dif_neg (by simpa using h1)];exact .tup _ _ ru pk
 rintro e a' w' ⟨aK,p',R',hq⟩;cases e with
 | normal=>exact key aK p' a' w' R' hq
 | ret=>exact key aK p' a' w' R' hq
 | _=>exact hq.elim
def OZ (t:Nat) (e sz:Nat) (nl:Bool) (es:List (List AV)) : Exit→VS→Prop
 | .ret,st=>∃ id,lkp st.s t = .osl id∧st.h[id]? = some (some (.arr e sz nl es))
 | .normal,st=>∃ id,lkp st.s t = .osl id∧st.h[id]? = some (some (.arr e sz nl es))
 | _,_=>False
theorem xw {f:FuncId} {fn:Func} {c:Code} {args:List AV} {t e sz:Nat} {nl:Bool} {es:List (List AV)} (hf:P.funcs[f]? = some fn) (hb:fn.body=some c) (hg:lP P f=true) (hN:fk (n0 fn.ntmps) c=true) (hn:Nat.ble args.length fn.ntmps=true) (hr:fn.results=#[.tmp t])
  (aL:0 < sz) (cL:∀ (k:Nat) (x:List AV),es[k]? = some x→x.length=sz∧∀ c∈x,cV c=true) (h:∀ M0 w0,VWp P M0 w0 (n0 fn.ntmps) c (OZ t e sz nl es) ⟨aB 0 args,[]⟩) : VCo P f args e sz nl es:=by
 refine ⟨hg,aL,cL,fun w M vs hM hl hv=>?_⟩;refine calls_of_wp hf hb (wp_mono (h M (uk w) hN pl0 _ w (Hh hn hM hl hv)) ?_);have key:∀ (aK:VS) (p':Pl) (a':Act) (w':World),Rel M (uk w) (n0 fn.ntmps) p' aK a' w'→(∃ id,lkp aK.s t = .osl id∧aK.h[id]? = some (some (.arr e sz nl es))) →
   a'.defers=[]∧∃ v,(results fn a'.tmps).run P w' = .ok v w'∧∃ v',Ending.returned v = .returned v'∧Below w.heap.size w w'∧OwnRow w w' M e sz nl es v':=by
  intro aK p' a' w' R ⟨id,hs,hi⟩;have ky:=R.slots t;rw [hs] at ky;obtain ⟨A,n,c,hq,hid,bs⟩:=ky.osl_inv;have ho:=bs _ _ _ _ hi;have iQ:=R.objs id _ hi;have hres:(results fn a'.tmps).run P w' = .ok (a'.tmps.getD t undef) w':=by
   unfold results;rw [hr];simp
  refine ⟨R.defers,_,hres,_,rfl,R.below.below (fun _ _ h=>h),?_⟩;unfold Osl at ho;unfold OwnRow;obtain ⟨_,_,aX⟩:=iQ;cases nl
  ·simp only [Bool.false_eq_true,if_false] at ho aX ⊢;obtain ⟨cap,cur,h1,h2,h3,h4,h5⟩:=ho;obtain ⟨du,cur',h6,_,h7⟩:=aX;obtain rfl:cur'=cur:=by rw [h6] at h2;injection h2 with h2;injection h2
   refine ⟨p' id,cap,cur',h1,(du.1 0).resolve_right (fun h=>h),h6,h3,h4,h5,fun k x j c hk hj=>?_⟩;obtain ⟨u,hu,hv⟩:=h7 k x j c hk hj;refine ⟨u,hu,hv.keep (Keeps.refl _ _) fun b j _ hn hm=>?_⟩;rcases hm with hm|hm
   ·exact hn (.inl hm)
   ·exact hn (.inr ⟨id,_,hi,rfl,.inl hm.symm⟩)
  ·simp only [if_true] at ho aX ⊢;exact ⟨ho.1,aX⟩
 rintro en a' w' ⟨aK,p',R',hq⟩;cases en with
 | normal=>exact key aK p' a' w' R' hq
 | ret=>exact key aK p' a' w' R' hq
 | _=>exact hq.elim
theorem B1 {f:FuncId} {args:List AV} {e sz:Nat} {nl:Bool} {es:List (List AV)} (h:VCo P f args e sz nl es) : VC P f args (.sl sz es):=by
 obtain ⟨hg,aL,cL,hc⟩:=h;refine ⟨hg,fun w M vs hM hl hv=>(hc w M vs hM hl hv).mono ?_⟩;rintro en w' ⟨v,rfl,hb,ho⟩;refine ⟨v,rfl,hb,?_⟩;unfold OwnRow at ho;cases nl
 ·simp only [Bool.false_eq_true,if_false] at ho;obtain ⟨g,cap,cur,rfl,du,hh,bM,hle,_,iu⟩:=ho;by_cases au:es=[]
  ·subst au;exact .slNil _ _ _
  ·have O0:∀ j,¬M g j:=fun j hm=>by have:=hM.1 g j hm;omega
   refine .sl sz es cap g 0 (fun k j=>cur.getD (k*sz+j) undef) au (Array.getElem?_eq_some_iff.1 hh).1 (fun _ _ _ _=>O0 _) hle (fun k x hk=>(cL k x hk).1) (fun k x j c hk hj=>(cL k x hk).2 c (List.mem_of_getElem? hj)) (fun k j hk hj=>?_) fun k x j c hk hj=>?_
   ·rw [cell_of_row w' g _ cur e (0,0) hh,Nat.zero_add];have:(k+1)*sz≤cap*sz:=Nat.mul_le_mul_right _ (by omega);rw [Nat.add_mul] at this;have:k*sz+j < cur.size:=by omega
    simp [this]
   ·obtain ⟨u,hu,cz⟩:=iu k x j c hk hj;have:cur.getD (k*sz+j) undef=u:=by simp [hu]
    simp only [this];exact cz.keep (Keeps.refl _ _) fun b j _ hn hm=>hn (.inl hm)
 ·simp only [if_true] at ho;obtain ⟨⟨A0,rfl⟩,rfl⟩:=ho;exact .slNil _ _ _
end
section
variable (P:Program)
def zm (o:Oper) (st:VS) (K:VS→Prop) : Prop:=∃ r,dJ P st.h (ev st) o.op r∧K (st.put o.dst r)
def mM (ops:List Oper) (o:Oper) (st:VS) (K:VS→Prop) : Prop:=
 match o.guard with
 | none=>zm P o st K
 | some (j,want)=>match db ops st j with
  | .lit (.bool b)=>if b=want then zm P o st K else K (st.put o.dst (.lit undef))
  | .lit (.tuple _)=>K (st.put o.dst (.lit undef))
  | _=>False
def mX (ops:List Oper) : List Oper→VS→(VS→Prop)→Prop
 | [],st,K=>K st
 | o::l,st,K=>mM P ops o st fun aK=>mX ops l aK K
def jV (ops:List Oper) (o:Oper) (st:VS) (r:AV) : Prop:=
 match o.guard with
 | none=>dJ P st.h (ev st) o.op r
 | some (j,want)=>match db ops st j with
  | .lit (.bool b)=>if b=want then dJ P st.h (ev st) o.op r else r = .lit undef
  | .lit (.tuple _)=>r = .lit undef
  | _=>False
end
def aH:VS→List Oper→List AV→VS
 | st,o::l,r::rs=>aH (st.put o.dst r) l rs
 | st,_,_=>st
section
variable {P:Program} {M0:Nat→Nat→Prop} {w0:Bas} {N:Nm} {p:Pl} {st:VS} {a:Act} {w:World} {Q:Exit→VS→Prop}
theorem C2 {ops:List Oper} {o:Oper} {K:VS→Prop} (h:mM P ops o st K) : ∃ r,jV P ops o st r∧K (st.put o.dst r):=by
 obtain ⟨dst,op,ty,pos,after,guard⟩:=o;cases guard with
 | none=>exact h
 | some g=>
  obtain ⟨j,want⟩:=g;simp only [mM] at h;simp only [jV];split at h
  ·split at h
   ·rename_i b hb hw;obtain ⟨r,h1,h2⟩:=h;exact ⟨r,by simp only [hw,if_true];exact h1,h2⟩
   ·rename_i b hb hw;exact ⟨_,by simp only [hw,if_false],h⟩
  ·rename_i vs hb;exact ⟨_,by simp only [],h⟩
  ·exact h.elim
theorem s7 {ops:List Oper} {K:VS→Prop} : ∀ (l:List Oper) (st:VS),mX P ops l st K→∃ rs:List AV,rs.length=l.length∧K (aH st l rs)∧∀ (i:Nat) (o:Oper) (r:AV),l[i]? = some o→rs[i]? = some r→jV P ops o (aH st (l.take i) (rs.take i)) r
 | [],st,h=>⟨[],rfl,h,by simp⟩
 | o::l,st,h=>by
  obtain ⟨r,h1,h2⟩:=C2 h;obtain ⟨rs,hl,hK,hs⟩:=s7 l _ h2;refine ⟨r::rs,by simp [hl],hK,fun i o' r' ho hr=>?_⟩;cases i with
  | zero=>simp at ho hr;subst ho;subst hr;exact h1
  | succ i=>exact hs i o' r' (by simpa using ho) (by simpa using hr)
theorem eP:∀ (l:List Oper) (rs:List AV) (st:VS),(aH st l rs).h=st.h
 | [],rs,st=>by simp [aH]
 | o::l,[],st=>by simp [aH]
 | o::l,r::rs,st=>by
  rw [aH,eP l rs];cases o.dst<;>rfl
theorem gr (st:VS) (d:Option Tmp) (r:AV) (t:Nat) : lkp (st.put d r).s t=if d=some t then r else lkp st.s t:=by
 cases d with
 | none=>simp [VS.put]
 | some d=>simp [VS.put,lkp]
theorem lR:∀ (l:List Oper) (rs:List AV) (st:VS) (t:Nat),(∀ o∈l,o.dst≠some t)→lkp (aH st l rs).s t=lkp st.s t
 | [],rs,st,t,_=>by simp [aH]
 | o::l,[],st,t,_=>by simp [aH]
 | o::l,r::rs,st,t,h=>by
  rw [aH,lR l rs _ t fun o ho=>h o (List.mem_cons_of_mem _ ho),gr,if_neg (h o (List.mem_cons_self ..))]
theorem mr:∀ (l:List Oper) (rs:List AV) (st:VS) (t j:Nat) (o:Oper) (r:AV),dW l=true→l[j]? = some o→rs[j]? = some r→o.dst=some t→lkp (aH st l rs).s t=r
 | [],_,_,_,_,_,_,_,h,_,_=>by simp at h
 | o::l,[],_,_,_,_,_,_,_,h,_=>by simp at h
 | q::l,s::rs,st,t,j,o,r,hd,ho,hr,ht=>by
  obtain ⟨h1,h2⟩:=uW hd;cases j with
  | zero=>
   simp at ho hr;subst ho;subst hr;rw [aH,lR l rs _ t fun o ho=>h1 o ho t ht,gr,if_pos ht]
  | succ j=>exact mr l rs _ t j o r h2 (by simpa using ho) (by simpa using hr) ht
theorem oY {vs:Nat→Value} : ∀ (l:List Oper) (k:Nat) (a:Act) (t:Nat),(∀ o∈l,o.dst≠some t)→(∀ o∈l,∀ d,o.dst=some d→d < a.tmps.size)→(fill (fun _=>true) vs l k a).tmps.getD t undef=a.tmps.getD t undef
 | [],_,_,_,_,_=>rfl
 | o::l,k,a,t,h,hb=>by
  rw [fill,if_pos rfl];have aL:(a.put o.dst (vs k)).tmps.size=a.tmps.size:=by cases o.dst<;>simp [Act.put]
  rw [oY l (k+1) _ t (fun o ho=>h o (List.mem_cons_of_mem _ ho)) (fun o ho d hd=>by rw [aL];exact hb o (List.mem_cons_of_mem _ ho) d hd)];cases ho:o.dst with
  | none=>rfl
  | some d=>
   rw [lu a d _ t (hb o (List.mem_cons_self ..) d ho),if_neg];intro gy;exact h o (List.mem_cons_self ..) (by rw [ho,gy])
theorem zd {vs:Nat→Value} : ∀ (l:List Oper) (k:Nat) (a:Act) (t j:Nat) (o:Oper),dW l=true→(∀ o∈l,∀ d,o.dst=some d→d < a.tmps.size)→l[j]? = some o→o.dst=some t→(fill (fun _=>true) vs l k a).tmps.getD t undef=vs (k+j)
 | [],_,_,_,_,_,_,_,h,_=>by simp at h
 | q::l,k,a,t,j,o,hd,hb,ho,ht=>by
  obtain ⟨h1,h2⟩:=uW hd;rw [fill,if_pos rfl];have aL:(a.put q.dst (vs k)).tmps.size=a.tmps.size:=by cases q.dst<;>simp [Act.put]
  cases j with
  | zero=>
   simp at ho;subst ho;rw [oY l (k+1) _ t (fun o ho=>h1 o ho t ht) (fun o ho d hd=>by rw [aL];exact hb o (List.mem_cons_of_mem _ ho) d hd),ht,lu a t _ t (hb q (List.mem_cons_self ..) t ht),if_pos rfl,Nat.add_zero]
  | succ j=>
   rw [zd l (k+1) _ t j o h2 (fun o ho d hd=>by rw [aL];exact hb o (List.mem_cons_of_mem _ ho) d hd) (by simpa using ho) ht];congr 1;omega
theorem zc {vs:Nat→Value} {g:Nat→Bool} : ∀ (l:List Oper) (k:Nat) (a:Act),(fill g vs l k a).tmps.size=a.tmps.size∧(fill g vs l k a).defers=a.defers
 | [],_,_=>⟨rfl,rfl⟩
 | o::l,k,a=>by
  rw [fill];obtain ⟨h1,h2⟩:=zc (vs:=vs) (g:=g) l (k+1) (if g k=true then a.put o.dst (vs k) else a);rw [h1,h2];split
  ·cases o.dst<;>simp [Act.put]
  ·exact ⟨rfl,rfl⟩
theorem Ce {M:Nat→Nat→Prop} {h:Hp} {hd:List Oper} {rs:List AV} {vs:Nat→Value} {i t:Nat} {w':World} (iZ:dW hd=true) (dX:rs.length=hd.length) (hb:∀ o∈hd,∀ d,o.dst=some d→d < a.tmps.size)
  (ky:V1 w' M h p (lkp st.s t) (a.tmps.getD t undef)) (_hi:i≤hd.length) (hw:∀ (j:Nat) (o:Oper),hd[j]? = some o→o.dst=some t→j < i∧V1 w' M h p (rs.getD j .any) (vs j)) :
  V1 w' M h p (lkp (aH st (hd.take i) (rs.take i)).s t) ((fill (fun _=>true) vs hd 0 a).tmps.getD t undef):=by
 by_cases hex:∃ (j:Nat) (o:Oper),hd[j]? = some o∧o.dst=some t
 ·obtain ⟨j,o,hj,ho⟩:=hex;obtain ⟨aq,hv⟩:=hw j o hj ho;have bI:=(List.getElem?_eq_some_iff.1 hj).1;have gy:dW (hd.take i)=true:=by
   clear hw ky hb hj _hi hv aq dX bI;induction hd generalizing i with
   | nil=>simp [dW]
   | cons x l ih=>
    cases i with
    | zero=>rfl
    | succ i=>
     simp only [dW,Bool.and_eq_true] at iZ;simp only [List.take_succ_cons,dW,Bool.and_eq_true];refine ⟨?_,ih iZ.2⟩;have h1:=iZ.1;cases dv:x.dst with
     | none=>rfl
     | some d=>
      simp only [dv] at h1;exact List.all_eq_true.2 fun q hq=>List.all_eq_true.1 h1 q (List.mem_of_mem_take hq)
  rw [zd hd 0 a t j o iZ hb hj ho,Nat.zero_add,mr (hd.take i) (rs.take i) st t j o (rs.getD j .any) gy (by rw [List.getElem?_take_of_lt aq];exact hj) (by rw [List.getElem?_take_of_lt aq];simp [List.getD,show j < rs.length by omega]) ho];exact hv
 ·have bm:∀ o∈hd,o.dst≠some t:=fun o ho he=>by
   obtain ⟨j,hj⟩:=List.mem_iff_getElem?.1 ho;exact hex ⟨j,o,hj,he⟩
  rw [oY hd 0 a t bm hb,lR _ _ _ _ fun o ho=>bm o (List.mem_of_mem_take ho)];exact ky
theorem Af {l:List Oper} {n:Nat} {rs:List AV} (R:Rel M0 w0 N p st a w) (hn:n≤l.length) (hd:dW (l.take n)=true) (hN:l.all (cX N)=true)
  (bh:∀ i,i < n→∀ o,l[i]? = some o→∀ t∈o.looksAt l.toArray,∀ j,j < n→∀ q,l[j]? = some q→q.dst=some t→Region.waitsFor .any l.toArray i j=true)
  (aq:∀ i j,i < n→Region.waitsFor .any l.toArray i j=true→j < i) (dX:rs.length=n)
  (fU:∀ (i:Nat) (o:Oper) (r:AV),(l.take n)[i]? = some o→rs[i]? = some r→jV P l o (aH st ((l.take n).take i) (rs.take i)) r) (i:Nat) (hi:i < n) :
  qt P l.toArray w a n (fun i v w'=>V1 w' (Mof M0 st.h p) st.h p (rs.getD i .any) v) i:=by
 intro o ho vs w' cq hS;have aM:l[i]? = some o:=by simpa using ho
 have aY:(l.take n)[i]? = some o:=by rw [List.getElem?_take_of_lt hi];exact aM
 have R':=R.later cq;have ff:∀ q∈l.take n,∀ d,q.dst=some d→d < a.tmps.size:=fun q hq d eC=>R.size.lt (fw (List.all_eq_true.1 hN q (List.mem_of_mem_take hq)) d eC);have hlen:(l.take n).length=n:=by simp;omega
 have cn:∀ t∈o.looksAt l.toArray,V1 w' (Mof M0 st.h p) st.h p (lkp (aH st ((l.take n).take i) (rs.take i)).s t) ((fill (fun _=>true) vs (l.take n) 0 a).tmps.getD t undef):=fun t ht=>
  Ce hd (by rw [dX,hlen]) ff (R'.slots t) (by rw [hlen];omega) fun j q hj hq=>by
   have eK:j < n:=by have:=(List.getElem?_eq_some_iff.1 hj).1;omega
   have eY:l[j]? = some q:=by rw [List.getElem?_take_of_lt eK] at hj;exact hj
   have hw:=bh i hi o aM t ht j eK q eY hq;exact ⟨aq i j hi hw,hS j eK hw⟩
 have hr:rs[i]? = some (rs.getD i .any):=by simp [List.getD,show i < rs.length by omega]
 have aj:=fU i o _ aY hr;simp only [];have bL:dJ P st.h (ev (aH st ((l.take n).take i) (rs.take i))) o.op (rs.getD i .any)→gives P o (fill (fun _=>true) vs (l.take n) 0 a) w' fun v w''=>V1 w'' (Mof M0 st.h p) st.h p (rs.getD i .any) v∧Below w'.heap.size w' w'':=by
  intro hg;refine oC R'.objs R'.mok R'.h0 R'.glob (fun _ _ hb=>.inl hb) (fun x hx=>?_) hg;cases x with
  | tmp t=>exact cn t (List.mem_append_left _ (List.mem_filterMap.2 ⟨.tmp t,by simpa using hx,rfl⟩))
  | const v=>exact .base _ _ (.lit v)
  | global g=>exact .base _ _ (R'.evalG g)
  | func f=>exact .base _ _ (.lit _)
 unfold jV at aj;split at aj
 ·rename_i hg;simp only [Region.wanted,hg,if_true];rw [eP] at aj;exact bL aj
 ·rename_i j want hg;simp only [Region.wanted,hg];have hy:(∀ b,db l (aH st ((l.take n).take i) (rs.take i)) j = .lit (.bool b)→yielded l.toArray (fill (fun _=>true) vs (l.take n) 0 a).tmps j=some b)∧(∀ us,db l (aH st ((l.take n).take i) (rs.take i)) j = .lit (.tuple us)→yielded l.toArray (fill (fun _=>true) vs (l.take n) 0 a).tmps j=none):=by
   unfold db yielded;cases hj:l[j]? with
   | none=>simp [hj,undef]
   | some q=>
    cases hq:q.dst with
    | none=>simp [hj,hq,undef]
    | some d=>
     have c_:d∈o.looksAt l.toArray:=by
      unfold Oper.looksAt;refine List.mem_append_right _ ?_;simp [hg,hj,hq]
     have hs:=cn d c_;have k_:d < (fill (fun _=>true) vs (l.take n) 0 a).tmps.size:=by
      rw [(zc _ _ _).1];exact R.size.lt (fw (List.all_eq_true.1 hN q (List.mem_of_getElem? hj)) d hq)
     have dn:(fill (fun _=>true) vs (l.take n) 0 a).tmps.getD d undef=(fill (fun _=>true) vs (l.take n) 0 a).tmps[d]:=by simp [k_]
     rw [dn] at hs;simp only [List.getElem?_toArray,hj,Option.bind_some,hq];refine ⟨fun b hb=>?_,fun us hb=>?_⟩
     ·rw [hb] at hs;have:=hs.lit_inv;simp [k_,this]
     ·rw [hb] at hs;have:=hs.lit_inv;simp [k_,this]
  split at aj
  ·rename_i b hb;rw [hy.1 b hb];split at aj
   ·rename_i hw;subst hw;rw [if_pos (by simp)];rw [eP] at aj;exact bL aj
   ·rename_i hw;rw [if_neg (by simpa using hw),aj];exact .base _ _ (.lit _)
  ·rename_i us hb;rw [hy.2 us hb,if_neg (by simp),aj];exact .base _ _ (.lit _)
  ·exact aj.elim
theorem uI {l:List Oper} {rs:List AV} {vs:Nat→Value} {w':World} (R:Rel M0 w0 N p st a w) (hd:dW l=true) (hN:l.all (cX N)=true) (dX:rs.length=l.length) (hb:Below w.heap.size w w')
  (hv:∀ i,i < l.length→V1 w' (Mof M0 st.h p) st.h p (rs.getD i .any) (vs i)) : Rel M0 w0 N p (aH st l rs) (fill (fun _=>true) vs l 0 a) w':=by
 have R':=R.later hb;have ff:∀ q∈l,∀ d,q.dst=some d→d < a.tmps.size:=fun q hq d eC=>R.size.lt (fw (List.all_eq_true.1 hN q hq) d eC);obtain ⟨AF,cl⟩:=zc (vs:=vs) (g:=fun _=>true) l 0 a;have hh:=eP l rs st;refine ⟨by rw [cl];exact R.defers,⟨by rw [AF];exact R.size.size,fun i hi=>(oY l 0 a i (fun o ho he=>absurd (fw (List.all_eq_true.1 hN o ho) i he).1 (by omega)) ff).trans (R.size.fix i hi)⟩,R'.below,R.m0,R.x0,fun t=>?_,?_,?_⟩
 ·rw [hh];have:=Ce (i:=l.length) (vs:=vs) hd dX ff (R'.slots t) (Nat.le_refl _) fun j o hj ho=>⟨(List.getElem?_eq_some_iff.1 hj).1,hv j (List.getElem?_eq_some_iff.1 hj).1⟩
  rwa [List.take_length,List.take_of_length_le (by omega)] at this
 ·rw [hh];exact R'.objs
 ·rw [hh];exact R.inj
def C3 (l:List Oper) (n:Nat) : Bool:=if n=l.length then Region.allB l.toArray else Region.specB l.toArray n
theorem oF {id:Nat} {l:List Oper} (n:Nat) (ow:List Nat) (hm:P.follows .mixedOrders=true) (hB:C3 l n=true) (h:mX P l (l.take n) st fun aK=>ef P ow l (l.drop n) aK (Q .normal)) :
  VWp P M0 w0 N (.region id l.toArray true) Q st:=fun hC p a w R=>by
 have hN:l.all (cX N)=true:=by simpa [fk] using hC
 obtain ⟨rs,dQ,hK,fU⟩:=s7 _ _ h;unfold C3 at hB;split at hB
 ·rename_i hn;subst hn;rw [List.take_length] at dQ hK fU;rw [List.drop_length] at hK;have dm:=hB;simp only [Region.allB,Bool.and_eq_true] at hB;obtain ⟨⟨kJ,hd⟩,bh⟩:=hB;have dv:dW l=true:=by simpa using hd
  have cn:∀ i,i < l.length→∀ o,l[i]? = some o→(∀ t∈o.looksAt l.toArray,∀ j,j < l.length→∀ q,l[j]? = some q→q.dst=some t→Region.waitsFor .any l.toArray i j=true)∧(∀ e∈o.after,Region.binds .any e=true→e.on < i):=by
   intro i hi o ho;have h:=List.all_eq_true.1 bh i (List.mem_range.2 (by simpa using hi));simp only [List.getElem?_toArray,ho,Bool.and_eq_true] at h;refine ⟨fun t ht j hj q hq aE=>?_,fun e he hb=>?_⟩
   ·have h1:=List.all_eq_true.1 (List.all_eq_true.1 h.1 t ht) j (List.mem_range.2 (by simpa using hj));simp only [hq,Option.bind_some,aE,bne_self_eq_false,Bool.false_or] at h1;exact h1
   ·have h1:=Array.all_eq_true'.1 h.2 e he;simp only [hb,Bool.not_true,Bool.false_or,decide_eq_true_eq] at h1;exact h1
  have aq:∀ i j,i < l.length→Region.waitsFor .any l.toArray i j=true→j < i:=by
   intro i j hi hw;obtain ⟨o,ho,e,he,hb,cA⟩:=Region.waitsFor_spec hw;rw [←cA];exact (cn i hi o (by simpa using ho)).2 e he hb
  refine Lr (S:=fun i v w'=>V1 w' (Mof M0 st.h p) st.h p (rs.getD i .any) v) hm dm (fun i _ v w1 w2 hv hb=>hv.later hb) (fun i hi=>?_) fun vs w' hb hv=>?_
  ·exact Af R (Nat.le_refl _) (by rw [List.take_length];exact dv) hN (fun i hi o ho t ht j hj q hq aE=>(cn i hi o ho).1 t ht j hj q hq aE) aq dQ (by rw [List.take_length];exact fU) i hi
  ·exact ⟨_,p,uI R dv hN dQ hb hv,hK⟩
 ·rename_i hn;have dm:=hB;simp only [Region.specB,Bool.and_eq_true,decide_eq_true_eq] at hB;obtain ⟨⟨⟨⟨⟨⟨kJ,aJ⟩,hs⟩,hc⟩,hd⟩,bh⟩,mY⟩:=hB;have eZ:n < l.length:=by simpa using aJ
  have dv:dW (l.take n)=true:=by simpa using hd
  have hlen:(l.take n).length=n:=by simp;omega
  have cn:∀ i,i < n→∀ o,l[i]? = some o→(∀ t∈o.looksAt l.toArray,∀ j,j < n→∀ q,l[j]? = some q→q.dst=some t→Region.waitsFor .any l.toArray i j=true)∧(∀ e∈o.after,Region.binds .any e=true→e.on < i):=by
   intro i hi o ho;have h:=List.all_eq_true.1 bh i (List.mem_range.2 hi);simp only [List.getElem?_toArray,ho,Bool.and_eq_true] at h;refine ⟨fun t ht j hj q hq aE=>?_,fun e he hb=>?_⟩
   ·have h1:=List.all_eq_true.1 (List.all_eq_true.1 h.1 t ht) j (List.mem_range.2 hj);simp only [hq,Option.bind_some,aE,bne_self_eq_false,Bool.false_or] at h1;exact h1
   ·have h1:=Array.all_eq_true'.1 h.2 e he;simp only [hb,Bool.not_true,Bool.false_or,decide_eq_true_eq] at h1;exact h1
  have aq:∀ i j,i < n→Region.waitsFor .any l.toArray i j=true→j < i:=by
   intro i j hi hw;obtain ⟨o,ho,e,he,hb,cA⟩:=Region.waitsFor_spec hw;rw [←cA];exact (cn i hi o (by simpa using ho)).2 e he hb
  refine xp n (fun i v w'=>V1 w' (Mof M0 st.h p) st.h p (rs.getD i .any) v) hm dm (fun i _ v w1 w2 hv hb=>hv.later hb) (fun i hi=>?_) fun vs w' hb hv=>?_
  ·exact Af R (Nat.le_of_lt eZ) dv hN (fun i hi o ho t ht j hj q hq aE=>(cn i hi o ho).1 t ht j hj q hq aE) aq (by rw [dQ,hlen]) fU i hi
  ·have pq:(l.take n).all (cX N)=true:=List.all_eq_true.2 fun q hq=>List.all_eq_true.1 hN q (List.mem_of_mem_take hq);have iC:(l.drop n).all (cX N)=true:=List.all_eq_true.2 fun q hq=>List.all_eq_true.1 hN q (List.mem_of_mem_drop hq);exact mn (ow:=ow) hN (fun p st a w R h=>⟨st,p,R,h⟩) (l.drop n) p _ _ w' iC (uI R dv pq dQ hb (by rw [hlen];exact hv)) hK
end
def mO (pid:Option Nat) (s:List (Nat×AV)) : List (Nat×AV):=match pid with|some id=>s.map (fun q=>(q.1,purge id q.2))|none=>s
def mN (d:Option Tmp) (av:AV) (pid:Option Nat) (s:List (Nat×AV)) : List (Nat×AV):=match d with|some d=>(d,av)::mO pid s|none=>mO pid s
abbrev C4 (d:Option Tmp) (av:AV) (pid:Option Nat) (s:List (Nat×AV)) (H:Hp) : VS:=⟨mN d av pid s,H⟩
def lJ (d:Option Tmp) (av:AV) (pid:Option Nat) (cs:List (Nat×AV)) : List (Nat×AV):=match d with|some d=>(d,av)::(match pid with|some _=>[]|none=>cs)|none=>cs
def C5 (z7 mW:VS) : Prop:=∀ (M0:Nat→Nat→Prop) (w0:Bas) (N:Nm) (p:Pl) (a:Act) (w:World),Rel M0 w0 N p z7 a w→Rel M0 w0 N p mW a w
def rb (fz:Bool) (av:AV) : AV:=if fz=true then av else .any
def n_ (fz:Bool) (d:Option Tmp) (av:AV) (pid:Option Nat) (cs:List (Nat×AV)) : List (Nat×AV):=if fz=true then (match pid with|some _=>[]|none=>cs) else lJ d av pid cs
section
variable (P:Program)
def Hi (ow:List Nat) (o:Oper) (cs:List (Nat×AV)) (T:VS) (X X':Hp) (pid:Option Nat) (av:AV) : Prop:=
 o.guard=none∧(o.dst=none→pid=none)∧(∀ id,pid=some id→T.h.length≤id) ∧
  ∀ s2,(∀ t,Operand.tmp t∈o.op.operands→lkp (cs++T.s) t≠.any→lkp s2 t=lkp (cs++T.s) t)→VDo P ow o ⟨s2,T.h++X⟩ fun aK=>C5 aK (C4 o.dst av pid s2 (T.h++X'))
def kF (ow:List Nat) (ops:List Oper) (bj:Nat→Bool) : List Oper→Nat→VS→List (Nat×AV)→Hp→(VS→Prop)→Prop
 | [],_,T,cs,X,K=>K ⟨cs++T.s,T.h++X⟩
 | o::l,i,T,cs,X,K=>
  if bj i=true then ∃ X' pid av fz,(Hi P ow o cs T X X' pid av∧(fz=true→bn T.h.length 5 av=true))∧kF ow ops bj l (i+1) (T.put o.dst (rb fz av)) (n_ fz o.dst av pid cs) X' K
  else mM P ops o T fun T'=>(∀ d,o.dst=some d→bn T.h.length 5 (lkp T'.s d)=true)∧kF ow ops bj l (i+1) T' cs X K
end
section
variable {P:Program} {M0:Nat→Nat→Prop} {w0:Bas} {N:Nm} {p:Pl} {st:VS} {a:Act} {w:World} {Q:Exit→VS→Prop}
theorem rf (st:VS) (d:Option Tmp) (r:AV) : (st.put d r).h=st.h:=by cases d<;>rfl
structure ChainSteps (P:Program) (ow:List Nat) (ops:List Oper) (bj:Nat→Bool) (l:List Oper) (i0:Nat) (T:VS) (rs:List AV) (Xs:Nat→Hp) (dM:Nat→List (Nat×AV)) : Prop where
 len:rs.length=l.length
 plain:∀ (i:Nat) (o:Oper) (r:AV),bj (i0+i)=false→l[i]? = some o→rs[i]? = some r→jV P ops o (aH T (l.take i) (rs.take i)) r∧(∀ d,o.dst=some d→bn T.h.length 5 r=true)∧Xs (i+1)=Xs i∧dM (i+1)=dM i
 chain:∀ (i:Nat) (o:Oper),bj (i0+i)=true→l[i]? = some o→∃ pid av fz,rs[i]? = some (rb fz av)∧Hi P ow o (dM i) (aH T (l.take i) (rs.take i)) (Xs i) (Xs (i+1)) pid av∧(fz=true→bn T.h.length 5 av=true)∧dM (i+1)=n_ fz o.dst av pid (dM i)
theorem Hj (st:VS) (d:Nat) (r:AV) : lkp (st.put (some d) r).s d=r:=by simp [VS.put,lkp]
theorem zp {ow:List Nat} {ops:List Oper} {bj:Nat→Bool} {K:VS→Prop} : ∀ (l:List Oper) (i0:Nat) (T:VS) (cs:List (Nat×AV)) (X:Hp),kF P ow ops bj l i0 T cs X K →
  ∃ rs Xs dM,ChainSteps P ow ops bj l i0 T rs Xs dM∧Xs 0=X∧dM 0=cs∧K ⟨dM l.length++(aH T l rs).s,T.h++Xs l.length⟩
 | [],i0,T,cs,X,h=>⟨[],fun _=>X,fun _=>cs,⟨rfl,by simp,by simp⟩,rfl,rfl,h⟩
 | o::l,i0,T,cs,X,h=>by
  unfold kF at h;by_cases hc:bj i0=true
  ·rw [if_pos hc] at h;obtain ⟨X',pid,av,fz,⟨h1,zr⟩,h2⟩:=h;obtain ⟨rs,Xs,dM,S,e1,e2,hK⟩:=zp l (i0+1) _ _ _ h2;refine ⟨rb fz av::rs,fun i=>match i with|0=>X|i+1=>Xs i,fun i=>match i with|0=>cs|i+1=>dM i,⟨by simp [S.len],fun i q r hi hq hr=>?_,fun i q hi hq=>?_⟩,rfl,rfl,?_⟩
   ·cases i with
    | zero=>rw [Nat.add_zero,hc] at hi;cases hi
    | succ i=>
     have:=S.plain i q r (by rw [←hi];congr 1;omega) (by simpa using hq) (by simpa using hr);rw [rf] at this;simpa [aH] using this
   ·cases i with
    | zero=>
     simp at hq;subst hq;exact ⟨pid,av,fz,rfl,by simpa [aH,e1] using h1,zr,by simp [e2]⟩
    | succ i=>
     have:=S.chain i q (by rw [←hi];congr 1;omega) (by simpa using hq);rw [rf] at this;simpa [aH] using this
   ·rw [rf] at hK;simpa [aH] using hK
  ·rw [if_neg hc] at h;obtain ⟨r,h1,h2,h3⟩:=C2 h;obtain ⟨rs,Xs,dM,S,e1,e2,hK⟩:=zp l (i0+1) _ _ _ h3;refine ⟨r::rs,fun i=>match i with|0=>X|i+1=>Xs i,fun i=>match i with|0=>cs|i+1=>dM i,⟨by simp [S.len],fun i q x hi hq hr=>?_,fun i q hi hq=>?_⟩,rfl,rfl,?_⟩
   ·cases i with
    | zero=>
     simp at hq hr;subst hq;subst hr;refine ⟨h1,fun d hd=>?_,by simp [e1],by simp [e2]⟩;have:=h2 d hd;rw [hd,Hj] at this;simpa using this
    | succ i=>
     have:=S.plain i q x (by rw [←hi];congr 1;omega) (by simpa using hq) (by simpa using hr);rw [rf] at this;simpa [aH] using this
   ·cases i with
    | zero=>rw [Nat.add_zero] at hi;exact absurd hi hc
    | succ i=>
     have:=S.chain i q (by rw [←hi];congr 1;omega) (by simpa using hq);rw [rf] at this;simpa [aH] using this
   ·rw [rf] at hK;simpa [aH] using hK
theorem rL {n id:Nat} (hn:n≤id) : ∀ (k:Nat) (v:AV),bn n k v=true→cH id k v=true
 | 0,v,h=>by simp [bn] at h
 | k+1,v,h=>by
  have ih:=rL hn k;cases v with
  | agg cs=>simp only [bn,cH,List.all_eq_true] at h ⊢;exact fun c hc=>ih c (h c hc)
  | tup cs=>simp only [bn,cH,List.all_eq_true] at h ⊢;exact fun c hc=>ih c (h c hc)
  | fn f x y=>simp only [bn,cH,Bool.and_eq_true,List.all_eq_true] at h ⊢;exact ⟨fun c hc=>ih c (h.1 c hc),fun c hc=>ih c (h.2 c hc)⟩
  | iface t x=>simp only [bn,cH] at h ⊢;exact ih x h
  | ref i o=>simp only [bn,cH,decide_eq_true_eq,bne_iff_ne,ne_eq] at h ⊢;omega
  | aref i a b c=>simp only [bn,cH,decide_eq_true_eq,bne_iff_ne,ne_eq] at h ⊢;omega
  | osl i=>simp only [bn,cH,decide_eq_true_eq,bne_iff_ne,ne_eq] at h ⊢;omega
  | mp i=>simp only [bn,cH,decide_eq_true_eq,bne_iff_ne,ne_eq] at h ⊢;omega
  | slw i _ _ _=>simp only [bn,cH,decide_eq_true_eq,bne_iff_ne,ne_eq] at h ⊢;omega
  | _=>rfl
theorem O3 {n id:Nat} (hn:n≤id) {v:AV} (h:bn n 5 v=true) : purge id v=v:=by
 unfold purge;rw [if_pos (rL hn 5 v h)]
theorem wU (id:Nat) : ∀ (s:List (Nat×AV)) (i:Nat),lkp (s.map fun q=>(q.1,purge id q.2)) i=purge id (lkp s i)
 | [],i=>by simp [lkp,purge,cH]
 | q::s,i=>by
  simp only [List.map_cons,lkp];split
  ·rfl
  ·exact wU id s i
theorem qq:∀ (x y:List (Nat×AV)) (t:Nat),lkp (x++y) t=lkp x t∨lkp (x++y) t=lkp y t
 | [],_,_=>.inr rfl
 | q::x,y,t=>by
  simp only [List.cons_append,lkp];split
  ·exact .inl rfl
  ·exact qq x y t
theorem Rel.weak {s':List (Nat×AV)} (R:Rel M0 w0 N p st a w) (h:∀ t,lkp s' t=lkp st.s t∨lkp s' t = .any) : Rel M0 w0 N p ⟨s',st.h⟩ a w:=
 ⟨R.defers,R.size,R.below,R.m0,R.x0,fun t=>by
  rcases h t with h|h
  ·show V1 _ _ _ _ (lkp s' t) _;rw [h];exact R.slots t
  ·show V1 _ _ _ _ (lkp s' t) _;rw [h];exact .base _ _ (.any _),R.objs,R.inj⟩
def sOK (n:Nat) : List (Nat×AV)→Prop
 | []=>True
 | q::r=>bn n 5 q.2=true∧sOK n r
def hOK (n:Nat) : Hp→Prop
 | []=>True
 | none::r=>hOK n r
 | some ob::r=>ov n ob=true∧hOK n r
theorem pw {n:Nat} : ∀ {s:List (Nat×AV)},sOK n s→∀ t,bn n 5 (lkp s t)=true
 | [],_,_=>rfl
 | q::s,h,t=>by
  simp only [lkp];split
  ·exact h.1
  ·exact pw h.2 t
theorem uT {n:Nat} : ∀ {h:Hp},hOK n h→∀ (id:Nat) (ob:Ob),h[id]? = some (some ob)→ov n ob=true
 | [],_,_,_,hi=>by simp at hi
 | none::r,h,id,ob,hi=>by
  cases id with
  | zero=>simp at hi
  | succ id=>exact uT (h:=r) h id ob (by simpa using hi)
 | some x::r,h,id,ob,hi=>by
  cases id with
  | zero=>simp at hi;subst hi;exact h.1
  | succ id=>exact uT (h:=r) h.2 id ob (by simpa using hi)
theorem V1.short {M:Nat→Nat→Prop} {h X:Hp} {av:AV} {v:Value} (hv:V1 w M (h++X) p av v) (hi:bn h.length 5 av=true) : V1 w M h p av v:=
 V1.trunc (fun _ _ hb=>hb) (fun id ob hh=>by rw [List.getElem?_append_left (List.getElem?_eq_some_iff.1 hh).1];exact hh) 5 _ _ hv hi
theorem V1.long {M:Nat→Nat→Prop} {h X:Hp} {av:AV} {v:Value} (hv:V1 w M h p av v) : V1 w M (h++X) p av v:=
 V1.keep (Keeps.refl _ _) (fun _ _ _ hb=>hb) (by simp) (fun _ _=>rfl) (fun id e sz nl es v hid hh ho=>ho e sz nl es (by rw [List.getElem?_append_left hid] at hh;exact hh)) (fun id e sz nl pe qs v hid hh ho=>ho e sz nl pe qs (by rw [List.getElem?_append_left hid] at hh;exact hh))
  (fun id k sz v hid hs=>hs.keep (fun e sz pe qs he=>⟨by rw [List.getElem?_append_left hid] at he;exact he,rfl,rfl,fun _ _ _ _=>rfl⟩) (Nat.le_refl _)) hv
theorem Rel.short_objs {h X:Hp} {s:List (Nat×AV)} (R:Rel M0 w0 N p ⟨s,h++X⟩ a w) (hh:hOK h.length h) (id:Nat) (ob:Ob) (hi:h[id]? = some (some ob)) : ObOK w0 w (Mof M0 (h++X) p) h p id ob:=by
 have ho:=R.objs id ob (by show (h++X)[id]? = _;rw [List.getElem?_append_left (List.getElem?_eq_some_iff.1 hi).1];exact hi);have dA:=uT hh id ob hi;cases ob with
 | mpo kf iA=>exact ho
 | box cs=>
  obtain ⟨a1,cur,e,a2,a3,a4,a5⟩:=ho;exact ⟨a1,cur,e,a2,a3,a4,fun j c hj=>let ⟨u,hu,hv⟩:=a5 j c hj;⟨u,hu,V1.short hv (List.all_eq_true.1 dA c (List.mem_of_getElem? hj))⟩⟩
 | arr e sz nl es=>exact ho
 | bag e sz nl ao qs=>exact ho
theorem Hk {n:Nat} {pid:Option Nat} {s:List (Nat×AV)} {t:Nat} (hp:∀ id,pid=some id→n≤id) (hid:bn n 5 (lkp s t)=true) : lkp (mO pid s) t=lkp s t:=by
 unfold mO;cases pid with
 | none=>rfl
 | some id=>
  show lkp (s.map fun q=>(q.1,purge id q.2)) t=_;rw [wU,O3 (hp id rfl) hid]
theorem G8 {n:Nat} {d:Option Tmp} {av:AV} {pid:Option Nat} {s:List (Nat×AV)} {t:Nat} (au:∀ d',d=some d'→d'≠t) (hp:∀ id,pid=some id→n≤id) (hid:bn n 5 (lkp s t)=true) : lkp (mN d av pid s) t=lkp s t:=by
 unfold mN;cases d with
 | none=>exact Hk hp hid
 | some d=>
  show (if d=t then av else lkp (mO pid s) t)=_;rw [if_neg (au d rfl)];exact Hk hp hid
theorem mq:∀ (l:List Oper) (i:Nat),dW l=true→dW (l.take i)=true
 | [],i,_=>by simp [dW]
 | x::l,0,_=>rfl
 | x::l,i+1,h=>by
  simp only [dW,Bool.and_eq_true] at h;simp only [List.take_succ_cons,dW,Bool.and_eq_true];refine ⟨?_,mq l i h.2⟩;have h1:=h.1;cases dv:x.dst with
  | none=>rfl
  | some d=>
   simp only [dv] at h1;exact List.all_eq_true.2 fun q hq=>List.all_eq_true.1 h1 q (List.mem_of_mem_take hq)
theorem na:∀ {l:List Oper} {i j:Nat} {o q:Oper} {d:Nat},dW l=true→l[i]? = some o→l[j]? = some q→o.dst=some d→q.dst=some d→i=j
 | [],i,_,_,_,_,_,hi,_,_,_=>by simp at hi
 | x::l,i,j,o,q,d,h,hi,hj,ho,hq=>by
  obtain ⟨h1,h2⟩:=uW h;cases i with
  | zero=>
   simp at hi;subst hi;cases j with
   | zero=>rfl
   | succ j=>exact absurd hq (h1 q (List.mem_of_getElem? (by simpa using hj)) d ho)
  | succ i=>
   cases j with
   | zero=>
    simp at hj;subst hj;exact absurd ho (h1 o (List.mem_of_getElem? (by simpa using hi)) d hq)
   | succ j=>exact congrArg (· + 1) (na h2 (by simpa using hi) (by simpa using hj) ho hq)
theorem ChainSteps.dom {ow:List Nat} {ops l:List Oper} {bj:Nat→Bool} {T:VS} {rs:List AV} {Xs:Nat→Hp} {dM:Nat→List (Nat×AV)} (S:ChainSteps P ow ops bj l 0 T rs Xs dM) (h0:dM 0=[]) :
  ∀ (k:Nat),k≤l.length→∀ t,lkp (dM k) t≠.any→∃ c o,c < k∧bj c=true∧l[c]? = some o∧o.dst=some t
 | 0,_,t,h=>by rw [h0] at h;exact absurd rfl h
 | k+1,hk,t,h=>by
  have ho:l[k]? = some l[k]:=List.getElem?_eq_getElem (by omega);by_cases hc:bj k=true
  ·obtain ⟨pid,av,fz,_,_,_,he⟩:=S.chain k l[k] (by rw [Nat.zero_add];exact hc) ho;rw [he] at h;unfold n_ at h;split at h
   ·cases pid with
    | some _=>exact absurd rfl h
    | none=>
     obtain ⟨c,o,h1,h2,h3,h4⟩:=S.dom h0 k (by omega) t h;exact ⟨c,o,by omega,h2,h3,h4⟩
   unfold lJ at h;split at h
   ·rename_i d hd;by_cases gy:d=t
    ·subst gy;exact ⟨k,l[k],by omega,hc,ho,hd⟩
    ·cases pid with
     | some _=>simp [lkp,gy] at h
     | none=>
      simp only [lkp,gy,if_false] at h;obtain ⟨c,o,h1,h2,h3,h4⟩:=S.dom h0 k (by omega) t h;exact ⟨c,o,by omega,h2,h3,h4⟩
   ·obtain ⟨c,o,h1,h2,h3,h4⟩:=S.dom h0 k (by omega) t h;exact ⟨c,o,by omega,h2,h3,h4⟩
  ·have hr:rs[k]? = some (rs[k]'(by rw [S.len];omega)):=List.getElem?_eq_getElem _;have:=(S.plain k l[k] _ (by rw [Nat.zero_add];simpa using hc) ho hr).2.2.2;rw [this] at h;obtain ⟨c,o,h1,h2,h3,h4⟩:=S.dom h0 k (by omega) t h;exact ⟨c,o,by omega,h2,h3,h4⟩
theorem ChainSteps.same {ow:List Nat} {ops l:List Oper} {bj:Nat→Bool} {T:VS} {rs:List AV} {Xs:Nat→Hp} {dM:Nat→List (Nat×AV)} (S:ChainSteps P ow ops bj l 0 T rs Xs dM) {k:Nat} : ∀ (m:Nat),k+m≤l.length→(∀ c,k≤c→c < k+m→bj c=false)→Xs (k+m)=Xs k∧dM (k+m)=dM k
 | 0,_,_=>⟨rfl,rfl⟩
 | m+1,hk,h=>by
  have ih:=S.same (k:=k) m (by omega) fun c h1 h2=>h c h1 (by omega);have ho:l[k+m]? = some (l[k+m]'(by omega)):=List.getElem?_eq_getElem _;have hr:rs[k+m]? = some (rs[k+m]'(by rw [S.len];omega)):=List.getElem?_eq_getElem _;have:=(S.plain (k+m) _ _ (by rw [Nat.zero_add];exact h (k+m) (by omega) (by omega)) ho hr).2.2;exact ⟨this.1.trans ih.1,this.2.trans ih.2⟩
def chainB (l:List Oper) (n:Nat) (bj:Nat→Bool) : Bool:=(List.range n).all fun c=>!bj c || (List.range c).all fun d=>!bj d || Region.waitsFor .any l.toArray c d
theorem wK {id:Nat} {l:List Oper} (n:Nat) (ow:List Nat) (bj:Nat→Bool) (hm:P.follows .mixedOrders=true) (hB:Region.specB l.toArray n=true) (hC:chainB l n bj=true) (hs:sOK st.h.length st.s) (hh:hOK st.h.length st.h)
  (h:kF P ow l bj (l.take n) 0 st [] [] fun aK=>ef P ow l (l.drop n) aK (Q .normal)) : VWp P M0 w0 N (.region id l.toArray true) Q st:=fun iS p0 a0 s8 R0=>by
 have hN:l.all (cX N)=true:=by simpa [fk] using iS
 obtain ⟨rs,Xs,dM,S,e1,e2,hK⟩:=zp _ _ _ _ _ h;have dm:=hB;simp only [Region.specB,Bool.and_eq_true,decide_eq_true_eq] at dm;obtain ⟨⟨⟨⟨⟨⟨_,aJ⟩,_⟩,_⟩,hd⟩,bh⟩,_⟩:=dm;have eZ:n < l.length:=by simpa using aJ
 have dv:dW (l.take n)=true:=by simpa using hd
 have hlen:(l.take n).length=n:=by simp;omega
 rw [hlen] at hK;have bb:∀ {i:Nat} {o:Oper},i < n→l[i]? = some o→(l.take n)[i]? = some o:=fun {i o} hi ho=>by rw [List.getElem?_take_of_lt hi];exact ho
 have jA:∀ {i:Nat} {o:Oper},(l.take n)[i]? = some o→i < n∧l[i]? = some o:=fun {i o} ho=>by
  have hi:i < n:=by have:=(List.getElem?_eq_some_iff.1 ho).1;omega
  rw [List.getElem?_take_of_lt hi] at ho;exact ⟨hi,ho⟩
 have dX:∀ {i:Nat},i < n→rs[i]? = some (rs.getD i .any):=fun {i} hi=>by simp [List.getD,show i < rs.length by rw [S.len,hlen];exact hi]
 have cn:∀ i,i < n→∀ o,l[i]? = some o→∀ t∈o.looksAt l.toArray,∀ j,j < n→∀ q,l[j]? = some q→q.dst=some t→Region.waitsFor .any l.toArray i j=true∧j < i:=by
  intro i hi o ho;have h:=List.all_eq_true.1 bh i (List.mem_range.2 hi);simp only [List.getElem?_toArray,ho,Bool.and_eq_true] at h;have fm:∀ e∈o.after,Region.binds .any e=true→e.on < i:=fun e he hb=>by
   have h1:=Array.all_eq_true'.1 h.2 e he;simp only [hb,Bool.not_true,Bool.false_or,decide_eq_true_eq] at h1;exact h1
  intro t ht j hj q hq aE;have h1:=List.all_eq_true.1 (List.all_eq_true.1 h.1 t ht) j (List.mem_range.2 hj);simp only [hq,Option.bind_some,aE,bne_self_eq_false,Bool.false_or] at h1;refine ⟨h1,?_⟩;obtain ⟨o',aM,e,he,hb,cA⟩:=Region.waitsFor_spec h1;have:o'=o:=Option.some.inj (aM.symm.trans (by simpa using ho));subst this;rw [←cA];exact fm e he hb
 have wI:∀ c d,c < n→d < c→bj c=true→bj d=true→Region.waitsFor .any l.toArray c d=true:=fun c d hc CP h1 h2=>by
  have:=List.all_eq_true.1 hC c (List.mem_range.2 hc);simp only [h1,Bool.not_true,Bool.false_or] at this;have:=List.all_eq_true.1 this d (List.mem_range.2 CP);simpa [h2] using this
 have aV:∀ {i j:Nat} {q:Oper} {t:Nat},j < i→i≤n→l[j]? = some q→q.dst=some t→lkp (aH st ((l.take n).take i) (rs.take i)).s t=rs.getD j .any:=fun {i j q t} hj hi hq ht=>
  mr ((l.take n).take i) (rs.take i) st t j q (rs.getD j .any) (mq _ _ dv) (by rw [List.getElem?_take_of_lt hj];exact bb (by omega) hq) (by rw [List.getElem?_take_of_lt hj];exact dX (by omega)) ht
 have aO:∀ {i t:Nat},(∀ j q,j < n→l[j]? = some q→q.dst≠some t)→lkp (aH st ((l.take n).take i) (rs.take i)).s t=lkp st.s t:=fun {i t} ho=>
  lR _ _ _ _ fun q hq he=>by
   obtain ⟨j,hj⟩:=List.mem_iff_getElem?.1 (List.mem_of_mem_take hq);obtain ⟨h1,h2⟩:=jA hj;exact ho j q h1 h2 he
 have dA:∀ {j:Nat} {q:Oper} {d:Nat},j < n→l[j]? = some q→q.dst=some d→bn st.h.length 5 (rs.getD j .any)=true:=fun {j q d} hj hq aE=>by
  cases hc:bj j
  ·exact (S.plain j q _ (by rw [Nat.zero_add];exact hc) (bb hj hq) (dX hj)).2.1 d aE
  ·obtain ⟨pid,av,fz,h1,_,h2,_⟩:=S.chain j q (by rw [Nat.zero_add];exact hc) (bb hj hq);rw [dX hj] at h1;rw [Option.some.inj h1];unfold rb;split
   ·rename_i hf;exact h2 hf
   ·rfl
 refine wp_region_any hm ?_;refine rC (Inv:=fun listed a w=>HeadInv .any l.toArray n listed∧∃ (k:Nat) (p:Pl) (s:List (Nat×AV)),k≤n∧(∀ c,c < n→bj c=true→(listed.getD c false=true↔c < k))∧Rel M0 w0 N p ⟨s,st.h++Xs k⟩ a w ∧
   (∀ (j:Nat) (q:Oper) (d:Nat),j < n→listed.getD j false=true→l[j]? = some q→q.dst=some d→rs.getD j .any = .any∨lkp s d=rs.getD j .any) ∧
   (∀ t,(∀ j q,j < n→l[j]? = some q→q.dst≠some t)→lkp s t=lkp st.s t)∧(∀ t,lkp (dM k) t≠.any→lkp s t=lkp (dM k) t)) hB (fun _ _ _ inv=>inv.1) ?_ ?_ _ _ _ _ ?_ (by simp)
 ·rintro listed a w i o ⟨head,k,p,s,hk,fa,R,S1,S2,S3⟩ hi bc ho e8;have aM:l[i]? = some o:=by simpa using ho
  obtain ⟨_,o2,kL,cW⟩:=mem_ready.1 hi;have:o2=o:=Option.some.inj (kL.symm.trans ho);subst this;have bK:∀ j,Region.waitsFor .any l.toArray i j=true→listed.getD j false=true:=by
   intro j hj;obtain ⟨o3,lS,e,he,hb,cA⟩:=Region.waitsFor_spec hj;have:o3=o2:=Option.some.inj (lS.symm.trans ho);subst this;rw [←cA];exact cW e he hb
  have cP:∀ t∈o2.looksAt l.toArray,lkp (aH st ((l.take n).take i) (rs.take i)).s t = .any∨(lkp (aH st ((l.take n).take i) (rs.take i)).s t=lkp s t∧bn st.h.length 5 (lkp s t)=true):=fun t ht=>by
   by_cases hex:∃ (j:Nat) (q:Oper),j < n∧l[j]? = some q∧q.dst=some t
   ·obtain ⟨j,q,hj,hq,aE⟩:=hex;obtain ⟨h1,h2⟩:=cn i bc o2 aM t ht j hj q hq aE;rw [aV h2 (by omega) hq aE];rcases S1 j q t hj (bK j h1) hq aE with this|this
    ·exact .inl this
    ·exact .inr ⟨this.symm,by rw [this];exact dA hj hq aE⟩
   ·have bm:∀ j q,j < n→l[j]? = some q→q.dst≠some t:=fun j q hj hq he=>hex ⟨j,q,hj,hq,he⟩;rw [aO bm,S2 t bm];exact .inr ⟨rfl,pw hs t⟩
  have cg:∀ {j:Nat} {q:Oper} {d d':Nat},j < n→j≠i→l[j]? = some q→q.dst=some d→o2.dst=some d'→d'≠d:=fun {j q d d'} hj cK hq aE dY he=>by
   subst he;exact cK (na dv (bb hj hq) (bb bc aM) aE dY)
  cases ew:bj i
  ·obtain ⟨aj,nr,_,_⟩:=S.plain i o2 (rs.getD i .any) (by rw [Nat.zero_add];exact ew) (bb bc aM) (dX bc);have fin:∀ v w',V1 w' (Mof M0 (st.h++Xs k) p) st.h p (rs.getD i .any) v→Below w.heap.size w w'→(fun listed a w=>HeadInv .any l.toArray n listed∧∃ (k:Nat) (p:Pl) (s:List (Nat×AV)),k≤n∧(∀ c,c < n→bj c=true→(listed.getD c false=true↔c < k))∧Rel M0 w0 N p ⟨s,st.h++Xs k⟩ a w ∧
     (∀ (j:Nat) (q:Oper) (d:Nat),j < n→listed.getD j false=true→l[j]? = some q→q.dst=some d→rs.getD j .any = .any∨lkp s d=rs.getD j .any) ∧
     (∀ t,(∀ j q,j < n→l[j]? = some q→q.dst≠some t)→lkp s t=lkp st.s t)∧(∀ t,lkp (dM k) t≠.any→lkp s t=lkp (dM k) t)) (listed.setIfInBounds i true) (a.put o2.dst v) w':=fun v w' hv hb=>by
    have R':=(R.later hb).put (d:=o2.dst) (fw (List.all_eq_true.1 hN o2 (List.mem_of_getElem? aM))) (V1.long hv);have cL:(VS.put ⟨s,st.h++Xs k⟩ o2.dst (rs.getD i .any))=⟨(VS.put ⟨s,st.h++Xs k⟩ o2.dst (rs.getD i .any)).s,st.h++Xs k⟩:=by cases o2.dst<;>rfl
    rw [cL] at R';refine ⟨head.set hi bc,k,p,_,hk,fun c hc cJ=>?_,R',fun j q d hj hl hq aE=>?_,fun t ht=>?_,fun t ht=>?_⟩
    ·have au:i≠c:=fun e=>by rw [←e,ew] at cJ;cases cJ
     rw [getD_set_ne false au];exact fa c hc cJ
    ·rw [gr];by_cases cK:j=i
     ·subst cK;have:q=o2:=Option.some.inj (hq.symm.trans aM);subst this;rw [if_pos aE];exact .inr rfl
     ·rw [if_neg fun e=>cg hj cK hq aE e rfl];rw [getD_set_ne false (Ne.symm cK)] at hl;exact S1 j q d hj hl hq aE
    ·rw [gr,if_neg (ht i o2 bc aM)];exact S2 t ht
    ·obtain ⟨c,q,h1,h2,h3,h4⟩:=S.dom e2 k (by rw [hlen];exact hk) t ht;obtain ⟨h5,h6⟩:=jA h3;rw [gr,if_neg fun e=>cg h5 (fun e=>by rw [e,ew] at h2;cases h2) h6 h4 e rfl];exact S3 t ht
   have bL:dJ P st.h (ev (aH st ((l.take n).take i) (rs.take i))) o2.op (rs.getD i .any)→gives P o2 a w fun v w''=>V1 w'' (Mof M0 (st.h++Xs k) p) st.h p (rs.getD i .any) v∧Below w.heap.size w w'':=by
    intro hg;refine oC (R.short_objs hh) R.mok R.h0 R.glob (fun _ _ hb=>.inl hb) (fun x hx=>?_) hg;cases x with
    | tmp t=>
     show V1 _ _ _ _ (lkp (aH st ((l.take n).take i) (rs.take i)).s t) _;rcases cP t (List.mem_append_left _ (List.mem_filterMap.2 ⟨.tmp t,by simpa using hx,rfl⟩)) with h1|⟨h1,h2⟩
     ·rw [h1];exact .base _ _ (.any _)
     ·rw [h1];exact V1.short (R.slots t) h2
    | const v=>exact .base _ _ (.lit v)
    | global g=>exact .base _ _ (R.evalG g)
    | func f=>exact .base _ _ (.lit _)
   have hy:=fun j=>oA (ops:=l) (j:=j) R hN;have bG:∀ (j:Nat) (want:Bool) (v:Value),o2.guard=some (j,want)→db l (aH st ((l.take n).take i) (rs.take i)) j = .lit v→db l ⟨s,st.h++Xs k⟩ j = .lit v:=by
    intro j want v hg hv;unfold db at hv ⊢;cases hj:l[j]? with
    | none=>simpa [hj] using hv
    | some q=>
     cases hq:q.dst with
     | none=>simpa [hj,hq] using hv
     | some d=>
      have c_:d∈o2.looksAt l.toArray:=by
       unfold Oper.looksAt;refine List.mem_append_right _ ?_;simp [hg,hj,hq]
      simp only [hj,hq] at hv ⊢;rcases cP d c_ with h1|⟨h1,_⟩
      ·rw [h1] at hv;cases hv
      ·rw [←h1];exact hv
   unfold wpOp;simp only [ho];unfold jV at aj;split at aj
   ·rename_i hg;rw [if_pos (by simp [Region.wanted,hg])];rw [eP] at aj;exact Or.inl (jB (bL aj) rfl fun v w' hv=>fin v w' hv.1 hv.2)
   ·rename_i j want hg;split at aj
    ·rename_i b hb;have eQ:=(hy j).1 b (bG j want _ hg hb);split at aj
     ·rename_i hw;subst hw;rw [if_pos (by simp [Region.wanted,hg,eQ])];rw [eP] at aj;exact Or.inl (jB (bL aj) rfl fun v w' hv=>fin v w' hv.1 hv.2)
     ·rename_i hw;rw [if_neg (by simpa [Region.wanted,hg,eQ] using hw)];exact fin undef w (by rw [aj];exact .base _ _ (.lit _)) (Below.refl _ _)
    ·rename_i us hb;have eQ:=(hy j).2 us (bG j want _ hg hb);rw [if_neg (by simp [Region.wanted,hg,eQ])];exact fin undef w (by rw [aj];exact .base _ _ (.lit _)) (Below.refl _ _)
    ·exact aj.elim
  ·obtain ⟨pid,av,fz,hres,⟨mj,CQ,cS,ku⟩,zr,bM⟩:=S.chain i o2 (by rw [Nat.zero_add];exact ew) (bb bc aM);rw [dX bc] at hres;replace hres:=Option.some.inj hres
   have jZ:k≤i:=by
    rcases Nat.lt_or_ge i k with h1|h1
    ·have h2:=(fa i bc ew).2 h1;rw [getD_both e8] at h2;cases h2
    ·exact h1
   have lf:∀ c,k≤c→c < k+(i - k)→bj c=false:=fun c h1 h2=>by
    cases cJ:bj c
    ·rfl
    ·have:=bK c (wI i c bc (by omega) ew cJ);have:=(fa c (by omega) cJ).1 this;omega
   obtain ⟨hX,ga⟩:=S.same (k:=k) (i - k) (by rw [hlen];omega) lf;rw [show k+(i - k)=i by omega] at hX ga;rw [hX,ga] at ku;rw [ga] at bM;have hv:=ku s (fun t ht au=>by
    rw [eP] at *;rcases qq (dM k) (aH st ((l.take n).take i) (rs.take i)).s t with h1|h1
    ·rw [h1] at au ⊢;exact S3 t au
    ·rw [h1] at au ⊢;rcases cP t (List.mem_append_left _ (List.mem_filterMap.2 ⟨.tmp t,by simpa using ht,rfl⟩)) with h2|⟨h2,_⟩
     ·exact absurd h2 au
     ·exact h2.symm)
   rw [eP] at hv;rw [eP] at cS;unfold wpOp;simp only [ho];rw [if_pos (by simp [Region.wanted,mj])];refine Or.inl (xk R (List.all_eq_true.1 hN o2 (List.mem_of_getElem? aM)) hv fun p' aK a' w' R' he=>?_);replace R':=he _ _ _ _ _ _ R'
   have n8:∀ {t:Nat},(∀ d,o2.dst=some d→d≠t)→bn st.h.length 5 (lkp s t)=true→lkp (mN o2.dst av pid s) t=lkp s t:=fun {t} au hid=>G8 au cS hid;refine ⟨head.set hi bc,i+1,p',_,by omega,fun c hc cJ=>?_,R',fun j q d hj hl hq aE=>?_,fun t ht=>?_,fun t ht=>?_⟩
   ·by_cases mF:i=c
    ·subst mF;have bF:i < listed.size:=by rw [head.size];simpa using (by omega:i < l.length)
     simp [bF]
    ·rw [getD_set_ne false mF];rcases Nat.lt_or_ge c i with h1|h1
     ·have:=bK c (wI i c bc h1 ew cJ);exact ⟨fun _=>by omega,fun _=>this⟩
     ·have:=fa c hc cJ;exact ⟨fun h=>by have:=this.1 h;omega,fun h=>by omega⟩
   ·by_cases cK:j=i
    ·subst cK;have:q=o2:=Option.some.inj (hq.symm.trans aM);subst this;rw [hres];unfold rb;split
     ·refine .inr ?_;unfold mN;rw [aE];simp [lkp]
     ·exact .inl rfl
    ·rw [getD_set_ne false (Ne.symm cK)] at hl;rcases S1 j q d hj hl hq aE with mc|mc
     ·exact .inl mc
     ·refine .inr ?_;rw [n8 (fun d' dY=>cg hj cK hq aE dY) (by rw [mc];exact dA hj hq aE)];exact mc
   ·rw [n8 (fun d' dY he=>ht i o2 bc aM (by rw [dY,he])) (by rw [S2 t ht];exact pw hs t)];exact S2 t ht
   ·rw [bM] at ht ⊢;unfold n_ at ht ⊢;by_cases hf:fz=true
    ·rw [if_pos hf] at ht ⊢;cases pid with
     | some _=>exact absurd rfl ht
     | none=>
      simp only at ht ⊢;obtain ⟨c,q,g1,g2,g3,g4⟩:=S.dom e2 k (by rw [hlen];omega) t ht;obtain ⟨g5,g6⟩:=jA g3;unfold mN;cases dY:o2.dst with
      | none=>simp only [mO];exact S3 t ht
      | some d=>
       simp only [lkp,mO];rw [if_neg (cg g5 (by omega) g6 g4 dY)];exact S3 t ht
    rw [if_neg hf] at ht ⊢;unfold lJ at ht ⊢;unfold mN;cases dY:o2.dst with
    | none=>
     simp only [dY] at ht ⊢;rw [CQ dY];exact S3 t ht
    | some d=>
     simp only [dY] at ht ⊢;by_cases gy:d=t
     ·simp [lkp,gy]
     ·cases pid with
      | some _=>simp [lkp,gy] at ht
      | none=>
       simp only [lkp,gy,if_false,mO] at ht ⊢;exact S3 t ht
 ·rintro listed a w ⟨head,k,p,s,hk,fa,R,S1,S2,S3⟩ aG;have lf:∀ c,k≤c→c < k+(n - k)→bj c=false:=fun c h1 h2=>by
   cases cJ:bj c
   ·rfl
   ·have:=(fa c (by omega) cJ).1 (aG c (by omega));omega
  obtain ⟨hX,ga⟩:=S.same (k:=k) (n - k) (by rw [hlen];omega) lf;rw [show k+(n - k)=n by omega] at hX ga;rw [hX,ga] at hK;have gT:aH st (l.take n) rs=aH st ((l.take n).take n) (rs.take n):=by
   rw [List.take_of_length_le (l:=l.take n) (by rw [hlen];exact Nat.le_refl _),List.take_of_length_le (l:=rs) (by rw [S.len,hlen];exact Nat.le_refl _)]
  have R':=R.weak (s':=dM k++(aH st (l.take n) rs).s) fun t=>by
   show lkp (dM k++(aH st (l.take n) rs).s) t=lkp s t∨_;rcases qq (dM k) (aH st (l.take n) rs).s t with h1|h1
   ·rw [h1];by_cases au:lkp (dM k) t = .any
    ·exact .inr au
    ·exact .inl (S3 t au).symm
   ·rw [h1,gT];by_cases hex:∃ (j:Nat) (q:Oper),j < n∧l[j]? = some q∧q.dst=some t
    ·obtain ⟨j,q,hj,hq,aE⟩:=hex;rw [aV hj (Nat.le_refl _) hq aE];rcases S1 j q t hj (aG j hj) hq aE with h5|h5
     ·exact .inr h5
     ·exact .inl h5.symm
    ·have bm:∀ j q,j < n→l[j]? = some q→q.dst≠some t:=fun j q hj hq he=>hex ⟨j,q,hj,hq,he⟩;rw [aO bm,S2 t bm];exact .inl rfl
  have iC:(l.drop n).all (cX N)=true:=List.all_eq_true.2 fun q hq=>List.all_eq_true.1 hN q (List.mem_of_mem_drop hq);exact mn (ow:=ow) hN (fun p st a w R h=>⟨st,p,R,h⟩) (l.drop n) p _ _ w iC R' hK
 ·refine ⟨⟨by simp,fun j oj _ hl=>(by rw [getD_replicate_false] at hl;cases hl),fun t _ ht=>getD_in (by simpa using ht) (getD_replicate_false _ _)⟩,0,p0,st.s,Nat.zero_le _,fun c _ _=>⟨fun hl=>(by rw [getD_replicate_false] at hl;cases hl),fun h=>absurd h (Nat.not_lt_zero c)⟩,?_,fun j q d _ hl=>(by rw [getD_replicate_false] at hl;cases hl),fun _ _=>rfl,fun t ht=>?_⟩
  ·rw [e1,List.append_nil];exact R0.later (Below.refl _ _).drew
  ·rw [e2] at ht;exact absurd rfl ht
end
section
variable {P:Program} {ow:List Nat} {ops l:List Oper} {o:Oper} {st:VS} {K:VS→Prop}
theorem aa (h:K st) : ef P ow ops [] st K:=h
theorem ab (h:∀ Y:VS→Prop,(∀ st,ef P ow ops l st K→Y st)→VOp P ow ops o st Y) : ef P ow ops (o::l) st K:=h _ fun _ h=>h
theorem aR (h:K st) : mX P ops [] st K:=h
theorem aS (h:∀ Y:VS→Prop,(∀ st,mX P ops l st K→Y st)→mM P ops o st Y) : mX P ops (o::l) st K:=h _ fun _ h=>h
theorem gZ {x:Int} (h1 : -9223372036854775808≤x) (h2:x≤9223372036854775807) : IntKind.i64.wrap x=x:=IntWalk.i64_in _ (by omega)
end
attribute [go_sem] Bt BE dsl yG yF vN yN jJ uL oD Value.oneCell' BN exists_eq_left' VOp VDo mM zm db j9 pU yS ev VS.put lkp dJ oT yO mi sc fZ yx isK vC nF vB yu Br unA yy yz yA vF yB yC tM j7 yJ oS yI qJ oR cV yK BH BI BJ fh qL jq nI sg fC jD l6 cH purge tP qN jK gG lq sT C0 o_ rq aB qg bn ov leS leO leH Le
abbrev I (n:Int) : AV:=.lit (.int .i64 n)
abbrev B (b:Bool) : AV:=.lit (.bool b)
abbrev S (b:ByteArray) : AV:=.lit (.string b)
attribute [go_sem] mN mO lJ n_ rb sOK hOK
section
variable {P:Program} {ow:List Nat} {ops:List Oper} {bj:Nat→Bool} {o:Oper} {l:List Oper} {i:Nat} {T:VS} {cs:List (Nat×AV)} {X:Hp} {K:VS→Prop}
def wV (n:Nat) (d:Option Tmp) (s:List (Nat×AV)) : Bool:=match d with|some d=>bn n 5 (lkp s d)|none=>true
attribute [go_sem] wV
theorem re (h:K ⟨cs++T.s,T.h++X⟩) : kF P ow ops bj [] i T cs X K:=h
theorem lg (hc:bj i=false) (h:∀ Y:VS→Prop,(∀ T',wV T.h.length o.dst T'.s=true→kF P ow ops bj l (i+1) T' cs X K→Y T')→mM P ops o T Y) : kF P ow ops bj (o::l) i T cs X K:=by
 unfold kF;rw [if_neg (by rw [hc];simp)];refine h _ fun T' h1 h2=>⟨fun d hd=>?_,h2⟩
 unfold wV at h1;rw [hd] at h1;exact h1
theorem O4 {K K':VS→Prop} {st:VS} (h:VDo P ow o st K) (hk:∀ aK,K aK→K' aK) : VDo P ow o st K':=by
 unfold VDo at h ⊢;split
 ·rename_i aK he;rw [he] at h;exact hk _ h
 ·rename_i he;rw [he] at h;simp only at h;split
  ·rename_i aK he;rw [he] at h;exact hk _ h
  ·rename_i he;rw [he] at h;simp only at h;split
   ·rename_i c d hc;rw [hc] at h;obtain ⟨e,sz,nl,es,h1,h2⟩:=h;exact ⟨e,sz,nl,es,h1,hk _ h2⟩
   ·rename_i hc;rw [hc] at h;obtain ⟨r,h1,h2⟩:=h;exact ⟨r,h1,hk _ h2⟩
theorem lh (X':Hp) (pid:Option Nat) (av:AV) (hc:bj i=true) (h1:o.guard=none∧(o.dst=none→pid=none)∧∀ id,pid=some id→T.h.length≤id)
  (h2:∀ s2,(∀ t,Operand.tmp t∈o.op.operands→lkp (cs++T.s) t≠.any→lkp s2 t=lkp (cs++T.s) t)→VDo P ow o ⟨s2,T.h++X⟩ fun aK=>aK=C4 o.dst av pid s2 (T.h++X'))
  (h3:kF P ow ops bj l (i+1) (T.put o.dst .any) (lJ o.dst av pid cs) X' K) : kF P ow ops bj (o::l) i T cs X K:=by
 unfold kF;rw [if_pos hc];exact ⟨X',pid,av,false,⟨⟨h1.1,h1.2.1,h1.2.2,fun s2 cl=>O4 (h2 s2 cl) fun aK e=>by rw [e];exact fun _ _ _ _ _ _ R=>R⟩,fun h=>by cases h⟩,h3⟩
theorem zw (X':Hp) (pid:Option Nat) (av:AV) (hc:bj i=true) (h1:o.guard=none∧(o.dst=none→pid=none)∧∀ id,pid=some id→T.h.length≤id) (O5:bn T.h.length 5 av=true)
  (h2:∀ s2,(∀ t,Operand.tmp t∈o.op.operands→lkp (cs++T.s) t≠.any→lkp s2 t=lkp (cs++T.s) t)→VDo P ow o ⟨s2,T.h++X⟩ fun aK=>C5 aK (C4 o.dst av pid s2 (T.h++X')))
  (h3:kF P ow ops bj l (i+1) (T.put o.dst av) (n_ true o.dst av pid cs) X' K) : kF P ow ops bj (o::l) i T cs X K:=by
 unfold kF;rw [if_pos hc];exact ⟨X',pid,av,true,⟨⟨h1.1,h1.2.1,h1.2.2,h2⟩,fun _=>O5⟩,h3⟩
end
section
variable {P:Program} {M0:Nat→Nat→Prop} {w0:Bas} {N:Nm} {p:Pl} {st:VS} {a:Act} {w:World} {Q:Exit→VS→Prop}
theorem um {h:Hp} {id i:Nat} {ob:Ob} (hi:(h.set id none)[i]? = some (some ob)) : i≠id∧h[i]? = some (some ob):=by
 by_cases au:i=id
 ·subst au;by_cases hl:i < h.length
  ·rw [List.getElem?_set_self hl] at hi;simp at hi
  ·rw [List.getElem?_eq_none (by simp;omega)] at hi;simp at hi
 ·rw [List.getElem?_set_ne (fun h=>au h.symm)] at hi;exact ⟨au,hi⟩
theorem Mof.drop {h:Hp} {p:Pl} {id b j:Nat} (hb:¬Mof M0 h p b j) : ¬Mof M0 (h.set id none) p b j:=fun fo=>by
 rcases fo with h|⟨i,ob,hi,hl,hp⟩
 ·exact hb (.inl h)
 ·exact hb (.inr ⟨i,ob,(um hi).2,hl,hp⟩)
theorem Rel.reheap (R:Rel M0 w0 N p st a w) (h':Hp) (hl:st.h.length≤h'.length) (dt:∀ (i:Nat) (ob:Ob),h'[i]? = some (some ob)→cp ob=true→∃ ob',st.h[i]? = some (some ob')∧cp ob'=true)
  (sJ:∀ (i e sz:Nat) (nl:Bool) (es:List (List AV)),i < st.h.length→h'[i]? = some (some (.arr e sz nl es))→st.h[i]? = some (some (.arr e sz nl es)))
  (eb:∀ (i e sz:Nat) (nl:Bool) (pe:Option Nat) (qs:List (List (List AV))),i < st.h.length→h'[i]? = some (some (.bag e sz nl pe qs))→st.h[i]? = some (some (.bag e sz nl pe qs)))
  (C6:∀ (i:Nat) (ob:Ob),h'[i]? = some (some ob)→st.h[i]?≠some (some ob)→(∀ {av:AV} {v:Value},V1 w (Mof M0 st.h p) st.h p av v→V1 w (Mof M0 h' p) h' p av v)→ObOK w0 w (Mof M0 h' p) h' p i ob) :
  Rel M0 w0 N p ⟨st.s,h'⟩ a w∧∀ {av:AV} {v:Value},V1 w (Mof M0 st.h p) st.h p av v→V1 w (Mof M0 h' p) h' p av v:=by
 have hM:∀ b j,¬Mof M0 st.h p b j→¬Mof M0 h' p b j:=fun b j hb fo=>by
  rcases fo with h|⟨i,ob,hi,jC,hp⟩
  ·exact hb (.inl h)
  ·obtain ⟨ob',h1,h2⟩:=dt i ob hi jC;exact hb (.inr ⟨i,ob',h1,h2,hp⟩)
 have keep:∀ {av:AV} {v:Value},V1 w (Mof M0 st.h p) st.h p av v→V1 w (Mof M0 h' p) h' p av v:=fun hv=>
  hv.keep (Keeps.refl _ _) (fun b j _ h=>hM b j h) hl (fun _ _=>rfl) (fun i e sz nl es v cC he hv=>hv _ _ _ _ (sJ _ _ _ _ _ cC he)) (fun i e sz nl pe qs v cC he hv=>hv _ _ _ _ _ (eb _ _ _ _ _ _ cC he)) (fun i k sz v cC hs=>hs.keep (fun e sz pe qs he=>⟨eb _ _ _ _ _ _ cC he,rfl,rfl,fun _ _ _ _=>rfl⟩) (Nat.le_refl _))
 refine ⟨⟨R.defers,R.size,R.below,R.m0,R.x0,fun i=>keep (R.slots i),fun i ob hi=>?_,fun i i' ob ob' hi bA jC C7 b j j' hO cw=>?_⟩,keep⟩
 ·by_cases hs:st.h[i]? = some (some ob)
  ·exact (R.objs i ob hs).keep (fun _=>⟨rfl,rfl⟩) (fun _ _ _ _ _=>rfl) (Nat.le_refl _) (fun hx=>hx.keep (Keeps.refl _ _) fun b j _=>hM b j) fun _ _ _ _ _ hx=>keep hx
  ·exact C6 i ob hi hs keep
 ·obtain ⟨o1,h1,l1⟩:=dt i ob hi jC;obtain ⟨o2,h2,l2⟩:=dt i' ob' bA C7;exact R.inj i i' o1 o2 h1 h2 l1 l2 b j j' hO cw
theorem Rel.drop (R:Rel M0 w0 N p st a w) (id:Nat) : Rel M0 w0 N p ⟨st.s,st.h.set id none⟩ a w:=
 (R.reheap (st.h.set id none) (by simp) (fun i ob hi hl=>⟨ob,(um hi).2,hl⟩) (fun i e sz nl es _ hi=>(um hi).2) (fun i e sz nl pe qs _ hi=>(um hi).2) fun i ob hi au _=>absurd (um hi).2 au).1
theorem Rel.freeze (R:Rel M0 w0 N p st a w) {id t e sz:Nat} {nl:Bool} {es:List (List AV)} (ht:lkp st.s t = .osl id) (hi:st.h[id]? = some (some (.arr e sz nl es))) :
  Rel M0 w0 N p ⟨(t,.sl sz es)::st.s,st.h.set id none⟩ a w:=by
 have D:=R.drop id;refine ⟨D.defers,D.size,D.below,D.m0,D.x0,fun i=>?_,D.objs,D.inj⟩;by_cases hit:t=i
 ·subst hit;simp only [lkp,if_true];have hv:=R.slots t;rw [ht] at hv;obtain ⟨A,n,c,hu,hid,ho⟩:=hv.osl_inv;have hO:=ho _ _ _ _ hi;obtain ⟨o1,o2,o3⟩:=R.objs id _ hi;refine .base _ _ ?_;generalize a.tmps.getD t undef=v at hu hO;by_cases aJ:nl=true
  ·rw [if_pos aJ] at o3;unfold Osl at hO;rw [if_pos aJ] at hO;obtain ⟨⟨A,hO⟩,_⟩:=hO;rw [hO,o3];exact .slNil _ _ _
  ·rw [if_neg aJ] at o3;unfold Osl at hO;rw [if_neg aJ] at hO;obtain ⟨cap,cur,e1,e2,e3,e4,e5⟩:=hO;obtain ⟨q1,cur',q2,q3,q4⟩:=o3;have cJ:cur'=cur:=by
    rw [q2] at e2;injection e2 with e2
    injection e2 with e2
   subst cJ;rw [e1];by_cases cL:es=[]
   ·subst cL;exact .slNil _ _ _
   ·have hb:p id < w.heap.size:=(Array.getElem?_eq_some_iff.1 e2).1;have jC:cp (.arr e sz nl es)=true:=by
     cases nl
     ·rfl
     ·exact absurd rfl aJ
    have O6:∀ j,¬Mof M0 (st.h.set id none) p (p id) j:=by
     rintro j (h|⟨i,ob,bV,hl,hp⟩)
     ·exact R.h0 _ _ h (q1.1 j)
     ·obtain ⟨au,EL⟩:=um bV;exact au (R.inj i id ob _ EL hi hl jC _ _ 0 hp (.inl rfl))
    have hM:∀ b j,¬Mof M0 st.h p b j→¬Mof M0 (st.h.set id none) p b j:=fun b j=>Mof.drop;have aD:∀ j,w.cell? ⟨p id,j,none⟩=cur'[j]?:=fun j=>by simp [World.cell?,e2]
    have hlen:∀ (k:Nat) (x:List AV),es[k]? = some x→x.length=sz:=fun k x hk=>(o2 k x hk).1;refine .sl sz es cap (p id) 0 (fun k j=>(cur'[k*sz+j]?).getD undef) cL hb (fun _ _ _ _=>O6 _) e4 hlen (fun k x j c hk hj=>(o2 k x hk).2 c (List.mem_of_getElem? hj)) (fun k j hk hj=>?_) fun k x j c hk hj=>?_
    ·rw [Nat.zero_add,aD];have hx:es[k]? = some es[k]:=List.getElem?_eq_getElem hk;have bI:j < es[k].length:=by rw [hlen k _ hx];exact hj
     obtain ⟨u,hu,_⟩:=q4 k _ j _ hx (List.getElem?_eq_getElem bI);rw [hu];rfl
    ·obtain ⟨u,hu,hv⟩:=q4 k x j c hk hj;rw [hu];exact hv.keep (Keeps.refl _ _) (fun b j _ h=>hM b j h)
 ·simp only [lkp,if_neg hit];exact D.slots i
theorem ra {c:Code} (t id:Nat) {e sz:Nat} {nl:Bool} {es:List (List AV)} (ht:lkp st.s t = .osl id) (hi:st.h[id]? = some (some (.arr e sz nl es))) (h:VWp P M0 w0 N c Q ⟨(t,.sl sz es)::st.s,st.h.set id none⟩) : VWp P M0 w0 N c Q st:=
 fun hB p a w R=>h hB p a w (R.freeze ht hi)
theorem zx {s:List (Nat×AV)} {H H':Hp} {d id e sz:Nat} {nl:Bool} {es:List (List AV)} (hi:H[id]? = some (some (.arr e sz nl es))) (hH:H'=H.set id none) : C5 ⟨(d,.osl id)::s,H⟩ ⟨(d,.sl sz es)::s,H'⟩:=by
 subst hH;intro M0 w0 N p a w R;refine (R.freeze (t:=d) (id:=id) (by simp [lkp]) hi).weak (s':=(d,.sl sz es)::s) fun t=>.inl ?_;simp only [lkp];split<;>rfl
end
theorem VC.weak {P:Program} {f:FuncId} {args:List AV} {r r':AV} (h:VC P f args r) (hr:∀ (w:World) (M:Nat→Nat→Prop) (v:Value),V0 w M r v→V0 w M r' v) : VC P f args r':=
 ⟨h.1,fun w M vs hM hl hv=>(h.2 w M vs hM hl hv).mono fun _ _ ⟨v,he,hb,h0⟩=>⟨v,he,hb,hr _ _ _ h0⟩⟩
theorem V0.nilSl {w:World} {M:Nat→Nat→Prop} {v:Value} (h:V0 w M (.lit (.slice none 0 0)) v) (sz:Nat) : V0 w M (.sl sz []) v:=by
 cases h with
 | lit=>exact .slNil _ _ _
def zz:AV→Bool
 | .lit (.bool b)=>b
 | _=>false
attribute [go_sem] zz
def IsB (b want:Bool) : Prop:=b=want
def IsG (x y:AV) : Prop:=x=y
theorem IsB.out {b want:Bool} (h:IsB b want) : b=want:=h
section
variable {P:Program} {M0:Nat→Nat→Prop} {w0:Bas} {N:Nm} {st:VS} {Q:Exit→VS→Prop}
theorem zI {c:Operand} {x y:Code} (hc:ev st c = .lit (.bool (zz (ev st c)))) (h1:IsB (zz (ev st c)) true→VWp P M0 w0 N x Q st) (h2:IsB (zz (ev st c)) false→VWp P M0 w0 N y Q st) : VWp P M0 w0 N (.cond c x y) Q st:=CZ hc h1 h2
theorem zA {ow:List Nat} {ops:List Oper} {o:Oper} {l:List Oper} {K:VS→Prop} {j:Nat} {want:Bool} (C:Prop) [Decidable C] (hg:o.guard=some (j,want)) (hc:C→db ops st j = .lit (.bool want)) (hn:¬C→db ops st j = .lit (.bool (!want))∨db ops st j = .lit undef) (ht:j9 P ow st o=none∧nh P st o=none∧oD ow o=none)
  {r:AV} (h:C→dJ P st.h (ev st) o.op r) (hK:∀ Y:VS→Prop,(∀ st,ef P ow ops l st K→Y st)→Y (st.put o.dst (if C then r else .lit undef))) : ef P ow ops (o::l) st K:=by
 refine ab fun Y Z=>?_;have hk:=hK Y Z;unfold VOp;rw [hg];simp only;by_cases hC:C
 ·rw [hc hC];simp only [if_true];rw [if_pos hC] at hk;unfold VDo;rw [ht.1,ht.2.1,ht.2.2];exact ⟨r,h hC,hk⟩
 ·rw [if_neg hC] at hk;rcases hn hC with e|e
  ·rw [e];simp only;rw [if_neg (by cases want<;>simp)];exact hk
  ·rw [e];exact hk
theorem p_ {ow:List Nat} {ops:List Oper} {o:Oper} {l:List Oper} {K:VS→Prop} {j:Nat} {want:Bool}  {b:Bool} {r:AV} (hg:o.guard=some (j,want)) (hb:IsG (db ops st j) ((.lit (.bool b)))) (ht:j9 P ow st o=none∧nh P st o=none∧oD ow o=none)
  (h:IsB b want→dJ P st.h (ev st) o.op r) (hK:∀ Y:VS→Prop,(∀ st,ef P ow ops l st K→Y st)→Y (st.put o.dst (dS b want r))) : ef P ow ops (o::l) st K:=by
 refine zA (r:=r) (b=want) hg (fun hC=>?_) (fun hC=>?_) ht (fun hC=>?_) fun Y Z=>?_
 ·rw [show db ops st j=_ from hb,hC]
 ·rw [show db ops st j=_ from hb];revert hC
  cases b<;>cases want<;>simp
 ·exact h hC
 ·exact hK Y Z
theorem Dm {ow:List Nat} {ops:List Oper} {o:Oper} {l:List Oper} {K:VS→Prop} {j:Nat} {want:Bool} {c0 w0:Bool} {b:Bool} {r:AV} (hg:o.guard=some (j,want)) (hb:IsG (db ops st j) ((dS c0 w0 (.lit (.bool b))))) (ht:j9 P ow st o=none∧nh P st o=none∧oD ow o=none)
  (h:IsB c0 w0→IsB b want→dJ P st.h (ev st) o.op r) (hK:∀ Y:VS→Prop,(∀ st,ef P ow ops l st K→Y st)→Y (st.put o.dst (dS c0 w0 (dS b want r)))) : ef P ow ops (o::l) st K:=by
 refine zA (r:=r) (c0=w0∧b=want) hg (fun hC=>?_) (fun hC=>?_) ht (fun hC=>?_) fun Y Z=>?_
 ·rw [show db ops st j=_ from hb];simp only [dS,hC,if_true]
 ·rw [show db ops st j=_ from hb];simp only [dS];revert hC
  cases c0<;>cases w0<;>cases b<;>cases want<;>simp
 ·exact h hC.1 hC.2
 ·have hk:=hK Y Z;have e:(dS c0 w0 (dS b want r))=if c0=w0∧b=want then r else .lit undef:=by
   simp only [dS];cases c0<;>cases w0<;>cases b<;>cases want<;>simp
  rw [e] at hk;exact hk
theorem Dn {ow:List Nat} {ops:List Oper} {o:Oper} {l:List Oper} {K:VS→Prop} {j:Nat} {want:Bool} {c0 w0:Bool} {c1 w1:Bool} {b:Bool} {r:AV} (hg:o.guard=some (j,want)) (hb:IsG (db ops st j) ((dS c0 w0 (dS c1 w1 (.lit (.bool b)))))) (ht:j9 P ow st o=none∧nh P st o=none∧oD ow o=none)
  (h:IsB c0 w0→IsB c1 w1→IsB b want→dJ P st.h (ev st) o.op r) (hK:∀ Y:VS→Prop,(∀ st,ef P ow ops l st K→Y st)→Y (st.put o.dst (dS c0 w0 (dS c1 w1 (dS b want r))))) : ef P ow ops (o::l) st K:=by
 refine zA (r:=r) (c0=w0∧c1=w1∧b=want) hg (fun hC=>?_) (fun hC=>?_) ht (fun hC=>?_) fun Y Z=>?_
 ·rw [show db ops st j=_ from hb];simp only [dS,hC,if_true]
 ·rw [show db ops st j=_ from hb];simp only [dS];revert hC
  cases c0<;>cases w0<;>cases c1<;>cases w1<;>cases b<;>cases want<;>simp
 ·exact h hC.1 hC.2.1 hC.2.2
 ·have hk:=hK Y Z;have e:(dS c0 w0 (dS c1 w1 (dS b want r)))=if c0=w0∧c1=w1∧b=want then r else .lit undef:=by
   simp only [dS];cases c0<;>cases w0<;>cases c1<;>cases w1<;>cases b<;>cases want<;>simp
  rw [e] at hk;exact hk
theorem Dp {ow:List Nat} {ops:List Oper} {o:Oper} {l:List Oper} {K:VS→Prop} {j:Nat} {want:Bool} {c0 w0:Bool} {c1 w1:Bool} {c2 w2:Bool} {b:Bool} {r:AV} (hg:o.guard=some (j,want)) (hb:IsG (db ops st j) ((dS c0 w0 (dS c1 w1 (dS c2 w2 (.lit (.bool b))))))) (ht:j9 P ow st o=none∧nh P st o=none∧oD ow o=none)
  (h:IsB c0 w0→IsB c1 w1→IsB c2 w2→IsB b want→dJ P st.h (ev st) o.op r) (hK:∀ Y:VS→Prop,(∀ st,ef P ow ops l st K→Y st)→Y (st.put o.dst (dS c0 w0 (dS c1 w1 (dS c2 w2 (dS b want r)))))) : ef P ow ops (o::l) st K:=by
 refine zA (r:=r) (c0=w0∧c1=w1∧c2=w2∧b=want) hg (fun hC=>?_) (fun hC=>?_) ht (fun hC=>?_) fun Y Z=>?_
 ·rw [show db ops st j=_ from hb];simp only [dS,hC,if_true]
 ·rw [show db ops st j=_ from hb];simp only [dS];revert hC
  cases c0<;>cases w0<;>cases c1<;>cases w1<;>cases c2<;>cases w2<;>cases b<;>cases want<;>simp
 ·exact h hC.1 hC.2.1 hC.2.2.1 hC.2.2.2
 ·have hk:=hK Y Z;have e:(dS c0 w0 (dS c1 w1 (dS c2 w2 (dS b want r))))=if c0=w0∧c1=w1∧c2=w2∧b=want then r else .lit undef:=by
   simp only [dS];cases c0<;>cases w0<;>cases c1<;>cases w1<;>cases c2<;>cases w2<;>cases b<;>cases want<;>simp
  rw [e] at hk;exact hk
end
@[go_sem] theorem ti3:aZ Tryz.prog 3=some ⟨5,1,8,0,1,0,.i64,[],[.int .i64 0]⟩:=by kernel_rfl
@[go_sem] theorem ti4:aZ Tryz.prog 4=some ⟨6,1,1,0,1,0,.i64,[],[.bool false]⟩:=by kernel_rfl
@[go_sem] theorem ti5:aZ Tryz.prog 5=some ⟨5,1,1,0,1,0,.u8,[],[.int .u8 0]⟩:=by kernel_rfl
@[go_sem] theorem ti9:aZ Tryz.prog 9=some ⟨4,1,16,0,1,0,.i64,[],[.string ⟨#[]⟩]⟩:=by kernel_rfl
@[go_sem] theorem QQ:aZ Tryz.prog 20=some ⟨9,1,16,0,1,0,.i64,[],[.nilIface]⟩:=by kernel_rfl
@[go_sem] theorem QR:aZ Tryz.prog 22=some ⟨1,1,24,61,4,0,.i64,[],[.slice none 0 0]⟩:=by kernel_rfl
@[go_sem] theorem QS:aZ Tryz.prog 24=some ⟨3,3,40,0,1,0,.i64,[(0,1,false),(1,1,false),(2,1,false)],[.slice none 0 0,.int .i64 0,.int .i64 0]⟩:=by kernel_rfl
@[go_sem] theorem QT:aZ Tryz.prog 25=some ⟨1,1,24,58,4,0,.i64,[],[.slice none 0 0]⟩:=by kernel_rfl
@[go_sem] theorem Ou:aZ Tryz.prog 29=some ⟨1,1,24,62,1,0,.i64,[],[.slice none 0 0]⟩:=by kernel_rfl
@[go_sem] theorem QU:aZ Tryz.prog 30=some ⟨1,1,24,148,3,0,.i64,[],[.slice none 0 0]⟩:=by kernel_rfl
@[go_sem] theorem GX:aZ Tryz.prog 32=some ⟨3,3,56,0,1,0,.i64,[(0,1,false),(1,1,false),(2,1,false)],[.slice none 0 0,.slice none 0 0,.int .i64 0]⟩:=by kernel_rfl
@[go_sem] theorem QV:aZ Tryz.prog 33=some ⟨5,1,8,0,1,0,.i64,[],[.int .i64 0]⟩:=by kernel_rfl
@[go_sem] theorem QW:aZ Tryz.prog 40=some ⟨1,1,24,45,3,0,.i64,[],[.slice none 0 0]⟩:=by kernel_rfl
@[go_sem] theorem QX:aZ Tryz.prog 45=some ⟨3,3,32,0,1,0,.i64,[(0,1,false),(1,1,false),(2,1,false)],[.int .i64 0,.int .i64 0,.string ⟨#[]⟩]⟩:=by kernel_rfl
@[go_sem] theorem QY:aZ Tryz.prog 46=some ⟨2,3,24,3,1,3,.i64,[],[.int .i64 0,.int .i64 0,.int .i64 0]⟩:=by kernel_rfl
@[go_sem] theorem QZ:aZ Tryz.prog 58=some ⟨3,4,40,0,1,0,.i64,[(0,1,false),(1,1,false),(2,1,false),(3,1,false)],[.int .i64 0,.int .i64 0,.int .i64 0,.string ⟨#[]⟩]⟩:=by kernel_rfl
@[go_sem] theorem Q1:aZ Tryz.prog 61=some ⟨3,4,40,0,1,0,.i64,[(0,1,false),(1,1,false),(2,1,false),(3,1,false)],[.string ⟨#[]⟩,.int .i64 0,.int .i64 0,.bool false]⟩:=by kernel_rfl
@[go_sem] theorem rI:aZ Tryz.prog 62=some ⟨1,1,24,9,1,0,.i64,[],[.slice none 0 0]⟩:=by kernel_rfl
@[go_sem] theorem Q3:aZ Tryz.prog 63=some ⟨1,1,24,67,3,0,.i64,[],[.slice none 0 0]⟩:=by kernel_rfl
@[go_sem] theorem Q4:aZ Tryz.prog 67=some ⟨3,3,32,0,1,0,.i64,[(0,1,false),(1,1,false),(2,1,false)],[.string ⟨#[]⟩,.int .i64 0,.int .i64 0]⟩:=by kernel_rfl
@[go_sem] theorem Q5:aZ Tryz.prog 76=some ⟨1,1,24,167,4,0,.i64,[],[.slice none 0 0]⟩:=by kernel_rfl
@[go_sem] theorem Q6:aZ Tryz.prog 89=some ⟨8,1,8,0,1,0,.i64,[],[.nilFunc]⟩:=by kernel_rfl
@[go_sem] theorem Q7:aZ Tryz.prog 100=some ⟨3,2,16,0,1,0,.i64,[(0,1,false),(1,1,false)],[.int .i64 0,.int .i64 0]⟩:=by kernel_rfl
@[go_sem] theorem Q8:aZ Tryz.prog 124=some ⟨3,2,24,0,1,0,.i64,[(0,1,false),(1,1,false)],[.int .i64 0,.string ⟨#[]⟩]⟩:=by kernel_rfl
@[go_sem] theorem Q9:aZ Tryz.prog 128=some ⟨3,2,16,0,1,0,.i64,[(0,1,false),(1,1,false)],[.int .i64 0,.int .i64 0]⟩:=by kernel_rfl
@[go_sem] theorem Q_:aZ Tryz.prog 141=some ⟨7,1,8,146,7,0,.i64,[],[.pointer none]⟩:=by kernel_rfl
@[go_sem] theorem Ra:aZ Tryz.prog 144=some ⟨8,1,8,0,1,0,.i64,[],[.nilFunc]⟩:=by kernel_rfl
@[go_sem] theorem Rb:aZ Tryz.prog 146=some ⟨3,7,120,0,1,0,.i64,[(0,3,true),(3,3,true),(6,1,false)],[.slice none 0 0,.slice none 0 0,.int .i64 0,.slice none 0 0,.int .i64 0,.int .i64 0,.slice none 0 0]⟩:=by kernel_rfl
@[go_sem] theorem xy:aZ Tryz.prog 148=some ⟨3,3,32,0,1,0,.i64,[(0,1,false),(1,1,false),(2,1,false)],[.string ⟨#[]⟩,.int .i64 0,.int .i64 0]⟩:=by kernel_rfl
@[go_sem] theorem Rc:aZ Tryz.prog 150=some ⟨1,1,24,3,1,0,.i64,[],[.slice none 0 0]⟩:=by kernel_rfl
@[go_sem] theorem Rd:aZ Tryz.prog 155=some ⟨7,1,8,160,4,0,.i64,[],[.pointer none]⟩:=by kernel_rfl
@[go_sem] theorem Re:aZ Tryz.prog 158=some ⟨10,1,8,0,1,0,.i64,[],[.map none]⟩:=by kernel_rfl
@[go_sem] theorem Rf:aZ Tryz.prog 160=some ⟨3,4,64,0,1,0,.i64,[(0,1,false),(1,1,false),(2,1,false),(3,1,false)],[.slice none 0 0,.map none,.slice none 0 0,.map none]⟩:=by kernel_rfl
@[go_sem] theorem Rg:aZ Tryz.prog 162=some ⟨8,1,8,0,1,0,.i64,[],[.nilFunc]⟩:=by kernel_rfl
@[go_sem] theorem Rh:aZ Tryz.prog 167=some ⟨3,4,40,0,1,0,.i64,[(0,1,false),(1,1,false),(2,1,false),(3,1,false)],[.string ⟨#[]⟩,.int .i64 0,.int .i64 0,.int .i64 0]⟩:=by kernel_rfl
@[go_sem] theorem Ri:aZ Tryz.prog 169=some ⟨8,1,8,0,1,0,.i64,[],[.nilFunc]⟩:=by kernel_rfl
@[go_sem] theorem Rj:aZ Tryz.prog 171=some ⟨3,2,24,0,1,0,.i64,[(0,1,false),(1,1,false)],[.string ⟨#[]⟩,.nilFunc]⟩:=by kernel_rfl
@[go_sem] theorem Mj:aZ Tryz.prog 172=some ⟨2,12,144,171,2,6,.i64,[],[.string ⟨#[]⟩,.nilFunc,.string ⟨#[]⟩,.nilFunc,.string ⟨#[]⟩,.nilFunc,.string ⟨#[]⟩,.nilFunc,.string ⟨#[]⟩,.nilFunc,.string ⟨#[]⟩,.nilFunc]⟩:=by kernel_rfl
@[go_sem] theorem Rl:aZ Tryz.prog 177=some ⟨1,1,24,171,2,0,.i64,[],[.slice none 0 0]⟩:=by kernel_rfl
@[go_sem] theorem Rm:aZ Tryz.prog 178=some ⟨8,1,8,0,1,0,.i64,[],[.nilFunc]⟩:=by kernel_rfl
@[go_sem] theorem Rn:aZ Tryz.prog 184=some ⟨10,1,8,0,1,0,.i64,[],[.map none]⟩:=by kernel_rfl
@[go_sem] theorem Ro:aZ Tryz.prog 185=some ⟨8,1,8,0,1,0,.i64,[],[.nilFunc]⟩:=by kernel_rfl
@[go_sem] theorem Rp:aZ Tryz.prog 208=some ⟨8,1,8,0,1,0,.i64,[],[.nilFunc]⟩:=by kernel_rfl
@[go_sem] theorem Rq:aZ Tryz.prog 210=some ⟨1,1,24,33,1,0,.i64,[],[.slice none 0 0]⟩:=by kernel_rfl
@[go_sem] theorem Rr:aZ Tryz.prog 211=some ⟨1,1,24,5,1,0,.i64,[],[.slice none 0 0]⟩:=by kernel_rfl
@[go_sem] theorem Rs:aZ Tryz.prog 212=some ⟨8,1,8,0,1,0,.i64,[],[.nilFunc]⟩:=by kernel_rfl
@[go_sem] theorem Rt:aZ Tryz.prog 213=some ⟨8,1,8,0,1,0,.i64,[],[.nilFunc]⟩:=by kernel_rfl
@[go_sem] theorem Rv:aZ Tryz.prog 221=some ⟨9,1,16,0,1,0,.i64,[],[.nilIface]⟩:=by kernel_rfl
@[go_sem] theorem Rw:aZ Tryz.prog 233=some ⟨8,1,8,0,1,0,.i64,[],[.nilFunc]⟩:=by kernel_rfl
@[go_sem] theorem Rx:aZ Tryz.prog 234=some ⟨7,1,8,167,4,0,.i64,[],[.pointer none]⟩:=by kernel_rfl
@[go_sem] theorem Ry:aZ Tryz.prog 298=some ⟨8,1,8,0,1,0,.i64,[],[.nilFunc]⟩:=by kernel_rfl
@[go_sem] theorem Rz:qK Tryz.prog 158=some ((4,.i64),.int .i64 0):=by kernel_rfl
@[go_sem] theorem RA:qK Tryz.prog 184=some ((4,.i64),.bool false):=by kernel_rfl
@[go_sem] theorem tg3:mH Tryz.prog 3=false:=by kernel_rfl
@[go_sem] theorem RB:mH Tryz.prog 33=false:=by kernel_rfl
@[go_sem] theorem tg9:mH Tryz.prog 9=false:=by kernel_rfl
@[go_sem] theorem RC:nE Tryz.prog 46=some [(0,5),(1,5),(2,5)]:=by kernel_rfl
@[go_sem] theorem RD:nE Tryz.prog 128=some [(0,5),(1,5)]:=by kernel_rfl
@[go_sem] theorem RE:nE Tryz.prog 100=some [(0,5),(1,5)]:=by kernel_rfl
@[go_sem] theorem RF:nE Tryz.prog 58=some [(0,5),(1,5),(2,5),(3,4)]:=by kernel_rfl
@[go_sem] theorem RG:nE Tryz.prog 45=some [(0,5),(1,5),(2,4)]:=by kernel_rfl
@[go_sem] theorem RH:nE Tryz.prog 148=some [(0,4),(1,5),(2,5)]:=by kernel_rfl
@[go_sem] theorem RI:nE Tryz.prog 167=some [(0,4),(1,5),(2,5),(3,5)]:=by kernel_rfl
@[go_sem] theorem RJ:nE Tryz.prog 67=some [(0,4),(1,5),(2,5)]:=by kernel_rfl
def dN (n:Int) : List AV:=[I n]
def bU (s:ByteArray) : List AV:=[S s]
def O7 (p:Nat×Nat) : List AV:=[I p.1,I p.2]
attribute [go_sem] dN bU O7
section
variable {P:Program} {w w':World} {M:Nat→Nat→Prop}
theorem V0.lit_inv {v u:Value} (h:V0 w M (.lit v) u) : u=v:=by cases h;rfl
theorem V0.of_lits (us:List Value) : V0 w M (.tup (us.map .lit)) (.tuple us.toArray):=
 .tup _ _ (by simp) fun i c u hc hu=>by
  obtain ⟨x,hx,rfl⟩:=dT hc;rw [hu] at hx;obtain rfl:=Option.some.inj hx;exact .lit u
theorem V0.sl_inv {α:Type} {F:α→List AV} {C:α→List Value} {sz:Nat} (hF:∀ x,F x=(C x).map .lit) {l:List α} {v:Value} (h:V0 w M (.sl sz (l.map F)) v) : ∃ A cap,v = .slice A l.length cap∧l.length≤cap∧Sl C sz w A l:=by
 generalize he:l.map F=es at h;cases h with
 | slNil _ A cap=>
  have:l=[]:=by simpa using he
  subst this;exact ⟨A,cap,rfl,Nat.zero_le _,Sl.nil _ _ _ _⟩
 | sl _ _ cap b o u au hb hM dC aL h1 hc hv=>
  subst he;refine ⟨_,cap,by rw [List.length_map],by simpa using dC,fun _=>⟨b,o,rfl,fun k x hk j c hj=>?_⟩⟩;have cF:k < l.length:=(List.getElem?_eq_some_iff.1 hk).1;have hx:(l.map F)[k]? = some (F x):=by simp [hk]
  have Cw:(F x)[j]? = some (.lit c):=by rw [hF];simp [hj]
  have bI:j < sz:=by rw [←aL k _ hx];exact (List.getElem?_eq_some_iff.1 Cw).1
  rw [hc k j (by simpa using cF) bI];exact congrArg some (hv k _ j _ hx Cw).lit_inv
theorem LD {f:FuncId} {a b r:AV} (hg:lP P f=true) (h:∀ w M v1 v2,V0 w M a v1→V0 w M b v2→Calls P f #[v1,v2] w fun e w'=>∃ v,e = .returned v∧Below w.heap.size w w'∧V0 w' M r v) : VC P f [a,b] r:=
 ⟨hg,fun w M vs _ hl hv=>by
  match vs,hl with
  | [v1,v2],_=>
  exact h w M v1 v2 (hv 0 a v1 rfl rfl) (hv 1 b v2 rfl rfl)⟩
end
def inR (n lo hi:Int) : Bool:=decide (lo≤n)&&decide (n≤hi)
def unl (c:Bool) (e:Int) : Int:=if c then 0 else e
def fst:List Int→Int
 | []=>0
 | x::r=>if x≠0 then x else fst r
theorem mB {n lo hi:Int} : inR n lo hi=true↔lo≤n∧n≤hi:=by simp [inR]
def mQ (i:Nat) (n:Int) : Bool:=
 (decide (97≤n)&&decide (n≤122)) || (decide (65≤n)&&decide (n≤90)) || (decide (i≠0)&&(decide (n=45) || (decide (48≤n)&&decide (n≤57))))
def mP (s:ByteArray) (n:Nat) : Bool:=(List.range n).all fun i=>mQ i (lM s i).toNat
theorem Dk (s:ByteArray) (n:Nat) : mP s (n+1)=(mP s n&&mQ n (lM s n).toNat):=by
 simp [mP,List.range_succ]
theorem Dl (s:ByteArray) {n m:Nat} (h:n < m) (ho:mQ n (lM s n).toNat=false) : mP s m=false:=by
 unfold mP;rw [List.all_eq_false];exact ⟨n,by simpa using h,by simp [ho]⟩
def cI (s:ByteArray) : Bool:=decide (1≤s.size)&&decide (s.size≤12)&&mP s s.size
def kE (E:Nat→Int) : Nat→Nat→Nat×Int
 | _,0=>(0,0)
 | k,n+1=>if E k≠0 then (k,E k) else kE E (k+1) n
def Hl (a b:ByteArray) : Bool:=a.toList == b.toList
theorem L3 {a b:ByteArray} : Hl a b=true↔a=b:=by
 unfold Hl;rw [beq_iff_eq,Et,Et];constructor
 ·intro h;cases a;cases b;congr;exact Array.toList_inj.1 h
 ·exact fun h=>by rw [h]
end Go.Proofs.YtoibondihdhnoaaGreatDoor
