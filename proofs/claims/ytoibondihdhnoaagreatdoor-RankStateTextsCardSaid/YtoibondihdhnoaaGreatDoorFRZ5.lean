/- Texts in one: One element is appended to a row of a row of rows: of every program; no condition. -/
import Derived.Test.YtoibondihdhnoaaGreatDoorFRZ4
import Derived.ArgAppend
import Derived.Deep.LoopGhost
import Derived.Test.YtoibondihdhnoaaGreatDoorFRZ1
import Derived.Test.YtoibondihdhnoaaGreatDoorProg
namespace Go.Proofs.YtoibondihdhnoaaGreatDoor
open Go.RowKit
section
variable {P:Program}
theorem Bp {w:World} {b o:Nat} {cur:Array Value} {t:TypeId} (v:Value) (h:w.heap[b]? = some (.cells cur t (0,0))) : (w.setCells b o [v]).heap[b]? = some (.cells (cur.setIfInBounds o v) t (0,0)):=by
 simp [World.setCells,World.setCell,Array.getElem?_modify,h]
theorem Br {w:World} {b o b':Nat} (v:Value) (h:b'≠b) : (w.setCells b o [v]).heap[b']? = w.heap[b']?:=by
 simp only [World.setCells,World.setCell,Array.getElem?_modify];rw [if_neg (Ne.symm h)]
theorem ym (w:World) (b o:Nat) (v:Value) : (w.setCells b o [v]).heap.size=w.heap.size:=by simp [World.setCells,World.setCell]
theorem O0 {w:World} {t ty e:TypeId} {i:TypeInfo} {z:Value} (ht:P.underlying t=some (.slice e)) (hi:P.info? e=some i) (hz:i.zero=some z) (aM:i.size=1) (iJ:z.cells.size=1) (jl:i.bytes≤100000)
  {A:Option Addr} {n cap:Nat} {olds:List Value} (hA:A=none→n=0∧cap=0) (bD:olds.length=n) (holds:∀ a0,A=some a0→∀ j u,olds[j]? = some u→w.cell? (a0.add j)=some u)
  {a:Addr} {c:Nat} {u0:Value} (hu:w.cell? (a.add 0)=some u0) (hg:cap < n+1) (gK:n+1≤1000000000) :
  ∃ g fw cur w',(Builtin.append_ #[t,t] ty #[.slice A n cap,.slice (some a) 1 c]).run P w = .ok (.slice (some ⟨g,0,none⟩) (n+1) fw) w'∧w.heap.size≤g∧g < w'.heap.size∧w'.heap[g]? = some (.cells cur e (0,0))∧n+1≤fw∧fw≤maxLen∧cur.size=fw ∧
   (∀ j,j < n→cur[j]? = olds[j]?)∧cur[n]? = some u0∧Below w.heap.size w w':=by
 have eC:∀ j u,[u0][j]? = some u→w.cell? (a.add j)=some u:=fun j u hj=>by
  cases j with
  | zero=>simp at hj;rw [←hj];exact hu
  | succ j=>simp at hj
 have lL:(n+1)*i.bytes≤140737488355328:=by
  have:(n+1)*i.bytes≤1000000000*100000:=Nat.mul_le_mul gK jl;omega
 cases A with
 | none=>
  obtain ⟨rfl,rfl⟩:=hA rfl;have O3:olds=[]:=List.eq_nil_of_length_eq_zero bD;subst O3;have hr:=run_append_nil (P:=P) (w:=w) t ty e i z ht hi hz a 1 c [u0] (by simp [aM]) eC (by decide) (by decide) (by omega);have dn:=grownCap_ge w 1 0 e;have gP:=grownCap_le_maxLen w 1 0 e (by decide);refine ⟨w.heap.size,grownCap w 1 0 e,_,_,hr,Nat.le_refl _,by simp,heap_alloc_new w.drew _,dn,gP,?_,by simp,?_,?_⟩
  ·rw [Array.size_append,size_zeroCells,iJ];have:([u0].toArray).size=1:=rfl;omega
  ·rw [Array.getElem?_append_left (show 0 < ([u0].toArray).size from Nat.one_pos)];rfl
  ·exact ((Below.refl w.heap.size w).drew).alloc (Nat.le_refl _) _
 | some a0=>
  obtain ⟨v',w',hr,⟨hl,ba⟩,wU⟩:=run_append_arg_grows (P:=P) w t ty e i z 1 i.bytes ht hi hz aM rfl iJ (by decide) a0 n cap olds (by omega) (holds a0 rfl) a 1 c [u0] (by simp) eC hg (by simp only [maxLen];omega) lL;rcases ba with ⟨_,h0⟩|⟨g,fw,cur,rfl,dn,sC,nD,gP,bV,oR⟩
  ·omega
  ·have bo:∀ j,j < n+1→cur[j]? = (olds++[u0])[j]?:=fun j hj=>by
    rw [←oR,List.getElem?_take_of_lt (by omega),←Array.getElem?_toList]
   refine ⟨g,fw,cur,w',hr,dn,(Array.getElem?_eq_some_iff.1 sC).1,sC,nD,gP,by omega,fun j hj=>by rw [bo j (by omega),List.getElem?_append_left (by omega)],by rw [bo n (by omega),List.getElem?_append_right (by omega),bD];simp,?_⟩;exact ⟨wU.os,wU.tape,wU.output,wU.size,fun b hb=>wU.block b hb (by simp)⟩
theorem Bel.keepF {w0:Bas} {w w':World} (h:Bel w0 w) (m_:w'.os=w.os) (na:w'.tape=w.tape) (nb:w'.output=w.output) (hk:Keeps (Fr w0) w w') : Bel w0 w':=
 ⟨m_.trans h.os,na.trans h.tape,nb.trans h.output,Nat.le_trans h.size hk.size,fun b aw hX=>(hk.block b (Nat.lt_of_lt_of_le aw h.size) fun j hf=>hf.elim (fun h=>by omega) (hX j)).trans (h.keeps.block b aw hX),
  fun aw hX hc=>hk.cell (Nat.lt_of_lt_of_le aw h.size) (fun hf=>hf.elim (fun h=>by omega) hX) (h.keeps.cell aw hX hc)⟩
variable {M0:Nat→Nat→Prop} {w0:Bas} {N:Nm} {p:Pl} {st:VS} {a:Act} {w:World}
theorem Rel.bagPend {w':World} {p':Pl} {id k e sz d:Nat} {au:Option Nat} {qs:List (List (List AV))} {uz:List (List AV)} {v:Value} {cur:Array Value} (R:Rel M0 w0 N p st a w) (hd:N.has d)
  (hi:st.h[id]? = some (some (.bag e sz false au qs))) (_hk:k < qs.length) (cM:au=none∨au=some k) (bE:w.heap[p id]? = some (.cells cur e (0,0)))
  (jL:∀ (i:Nat) (cs:List AV),st.h[i]? = some (some (.box cs))→∀ c∈cs,dj id 5 c=true)
  (m_:w'.os=w.os) (na:w'.tape=w.tape) (nb:w'.output=w.output) (hK:Keeps (fun b j=>p.S id b j) w w')
  (ee:∀ i,p' i=p i) (jK:∀ i,i≠id→p'.S i=p.S i)
  (CK:∀ b j,p'.S id b j→Fr w0 b j∧b < w'.heap.size) (zw:∀ j,¬p'.S id (p id) j) (wF:∀ (i:Nat) (ob:Ob),i≠id→st.h[i]? = some (some ob)→cH ob=true→∀ b j j',p.O i b j→¬p'.S id b j') (CL:∀ b j,b < w.heap.size→p'.S id b j→p.S id b j)
  (C8:∀ (k':Nat) (v':Value),k' < qs.length→k'≠k→cur[k']? = some v'→Spare w p id sz v'→Spare w' p' id sz v')
  (cD:V0 w' (Mof M0 (st.h.set id (some (.bag e sz false (some k) qs))) p') (.sl sz uz) v) (iM:Spare w' p' id sz v) (qP:∀ (k':Nat) (v':Value),k' < qs.length→k'≠k→cur[k']? = some v'→Dist v v') :
  Rel M0 w0 N p' ⟨(d,.slw id k sz uz)::st.s.map (fun q=>(q.1,unW id q.2)),st.h.set id (some (.bag e sz false (some k) qs))⟩ (a.put (some d) v) w':=by
 obtain ⟨lA,fq⟩:=R.objs id _ hi;rw [if_neg (by simp)] at fq;obtain ⟨b1,b2,cur0,b3,b4,b5,b6⟩:=fq;have:cur0=cur:=by rw [bE] at b3;injection b3 with b3;injection b3 with b3;exact b3.symm
 subst this;have hid:=(List.getElem?_eq_some_iff.1 hi).1;have bH:cH (Ob.bag e sz false au qs)=true:=rfl;have fx:∀ k',k'≠k→au≠some k':=fun k' hn=>by rcases cM with h|h<;>rw [h]<;>simp [Ne.symm hn]
 generalize ux:st.h.set id (some (Ob.bag e sz false (some k) qs))=h2 at *;have l5:h2.length=st.h.length:=by rw [←ux];simp
 have ep:h2[id]? = some (some (Ob.bag e sz false (some k) qs)):=by rw [←ux];exact List.getElem?_set_self hid
 have de:∀ (i:Nat) (ob:Ob),i≠id→h2[i]? = some (some ob)→st.h[i]? = some (some ob):=fun i ob hn h=>by rwa [←ux,List.getElem?_set_ne (Ne.symm hn)] at h
 have jh:∀ {i b j},i≠id→(p'.O i b j↔p.O i b j):=fun {i b j} hn=>by unfold Pl.O;rw [ee,jK i hn]
 have hM:∀ b j,b < w.heap.size→¬Mof M0 st.h p b j→¬Mof M0 h2 p' b j:=fun b j aw hn hm=>by
  rcases hm with hm|⟨i,o,aL,bD,hO⟩
  ·exact hn (.inl hm)
  ·by_cases he:i=id
   ·subst he;rcases hO with hO|hO
    ·exact hn (.inr ⟨i,_,hi,bH,.inl (by rw [←ee];exact hO)⟩)
    ·exact hn (.inr ⟨i,_,hi,bH,.inr (CL b j aw hO)⟩)
   ·exact hn (.inr ⟨i,o,de i o he aL,bD,(jh he).1 hO⟩)
 have wG:Keeps (Mof M0 st.h p) w w':=hK.mono fun b j _ hS=>.inr ⟨id,_,hi,bH,.inr hS⟩;have O4:Keeps (Fr w0) w w':=hK.mono fun b j _ hS=>(b1 b j (.inr hS)).1;have aC:∀ i o,i≠id→st.h[i]? = some (some o)→cH o=true→∀ b j,p.O i b j→b < w.heap.size→w'.heap[b]? = w.heap[b]?:=fun i o hn aL bD b j hO aw=>hK.block b aw fun j' hS=>hn (R.inj i id o _ aL hi bD bH b j j' hO (.inr hS));have aw:=(b1 (p id) 0 (.inl rfl)).2;have jM:w'.heap[p id]? = w.heap[p id]?:=hK.block _ aw b2;have dF:∀ {x:AV} {u:Value},V0 w (Mof M0 st.h p) x u→V0 w' (Mof M0 h2 p') x u:=fun hx=>hx.keep wG hM;have hV:∀ {x:AV} {u:Value},V1 w (Mof M0 st.h p) st.h p x u→dj id 5 x=true→V1 w' (Mof M0 h2 p') h2 p' x u:=fun {x u} hx hn=>
  V1.bag wG hM (by omega) ee (fun i e' bm nl bQ v' he hv=>by
   by_cases fV:i=id
   ·subst fV;rw [ep] at he;cases he
   ·have aL:=de i _ fV he;exact (hv _ _ _ _ aL).keep fun bg hl=>aC i _ fV aL (by rw [bg];rfl) _ 0 (.inl rfl) hl) (fun i e' bm nl mF p8 v' he hv=>by
   by_cases fV:i=id
   ·subst fV;rw [ep] at he;simp only [Option.some.injEq,Ob.bag.injEq] at he;obtain ⟨rfl,rfl,rfl,rfl,rfl⟩:=he;exact (hv _ _ _ _ _ hi).keep fun _ _=>jM
   ·have aL:=de i _ fV he;exact (hv _ _ _ _ _ aL).keep fun bg hl=>aC i _ fV aL (by rw [bg];rfl) _ 0 (.inl rfl) hl) (fun i k' bm v' hn _ hs=>hs.keep (fun e' rz xI p8 he=>by
   have aL:=de i _ hn he;exact ⟨aL,ee i,jK i hn,fun b j hO hl=>aC i _ hn aL rfl b j hO hl⟩) hK.size) 5 x u hx hn
 have hU:∀ {x:AV} {u:Value},V1 w (Mof M0 st.h p) st.h p x u→V1 w' (Mof M0 h2 p') h2 p' (unW id x) u:=fun {x u} hx=>by
  by_cases hs:∃ i k sz es,x = .slw i k sz es
  ·obtain ⟨i,k',bm,bQ,rfl⟩:=hs;by_cases hn:i=id
   ·rw [show unW id (.slw i k' bm bQ) = .sl bm bQ from if_pos hn];exact .base _ _ (dF hx.slw_inv.2.1)
   ·rw [show unW id (.slw i k' bm bQ) = .slw i k' bm bQ from if_neg hn];exact hV hx (by simpa [dj] using hn)
  ·have e:unW id x=if dj id 5 x=true then x else .any:=by cases x<;>first|rfl|exact absurd ⟨_,_,_,_,rfl⟩ hs
   rw [e];split
   ·rename_i hn;exact hV hx hn
   ·exact .base _ _ (.any _)
 refine ⟨R.defers,R.size.put hd,R.below.keepF m_ na nb O4,R.m0,R.x0,fun i=>?_,fun i o aL=>?_,fun i i' o o' aL bG bD eI x j j' hO cO=>?_⟩
 ·rw [mI a d _ i (R.size.lt hd)];simp only [lkp];split
  ·refine .slw id k sz uz v (by omega) cD fun e' bm xI p8 he=>?_;rw [ep] at he;simp only [Option.some.injEq,Ob.bag.injEq] at he;obtain ⟨rfl,rfl,_,rfl,rfl⟩:=he;refine ⟨rfl,iM,by rw [ee];exact Nat.lt_of_lt_of_le aw hK.size,fun cur' KW k' v' hc dy rA _ bB=>?_⟩;rw [ee,jM,bE] at hc;injection hc with hc
   injection hc with hc _ _
   subst hc;exact qP k' v' dy rA bB
  ·rw [nK];exact hU (R.slots i)
 ·by_cases fV:i=id
  ·subst fV;rw [ep] at aL;simp only [Option.some.injEq] at aL;subst aL;refine ⟨lA,?_⟩;rw [if_neg (by simp)];refine ⟨fun b j hO=>?_,fun j=>by rw [ee];exact zw j,cur0,by rw [ee,jM];exact bE,b4,fun k0 x hx=>?_,fun k1 k2 v1 v2 h1 h2 nu l_ eX e1 e2=>b6 k1 k2 v1 v2 h1 h2 nu (fx k1 fun h=>l_ (by rw [h])) (fx k2 fun h=>eX (by rw [h])) e1 e2⟩
   ·rcases hO with hO|hO
    ·have:=b1 b j (.inl (by rw [←ee];exact hO));exact ⟨this.1,Nat.lt_of_lt_of_le this.2 hK.size⟩
    ·exact CK b j hO
   ·obtain ⟨v1,g1,g2,g3⟩:=b5 k0 x hx;refine ⟨v1,g1,dF g2,fun O5=>?_⟩;have qL:k0≠k:=fun h=>O5 (by rw [h]);exact C8 k0 v1 (List.getElem?_eq_some_iff.1 hx).1 qL g1 (g3 (fx k0 qL))
  ·have bG:=de i o fV aL;exact (R.objs i o bG).keep (fun _=>⟨ee i,jK i fV⟩) (fun bD b j hO hl=>aC i o fV bG bD b j hO hl) hK.size dF fun cs bV c hc u hx=>hV hx (jL i cs (by rw [bG,bV]) c hc)
 ·by_cases h1:i=id
  ·by_cases h2:i'=id
   ·rw [h1,h2]
   ·subst h1;have po:=de i' o' h2 bG;have my:=(jh h2).1 cO;rcases hO with hO|hO
    ·exact R.inj i i' _ o' hi po bH eI x j j' (.inl (by rw [←ee];exact hO)) my
    ·exact absurd hO (wF i' o' h2 po eI x j' j my)
  ·have lP:=de i o h1 aL;have sn:=(jh h1).1 hO;by_cases h2:i'=id
   ·subst h2;rcases cO with cO|cO
    ·exact R.inj i i' o _ lP hi bD bH x j j' sn (.inl (by rw [←ee];exact cO))
    ·exact absurd cO (wF i o h1 lP bD x j j' sn)
   ·exact R.inj i i' o o' lP (de i' o' h2 bG) bD eI x j j' sn ((jh h2).1 cO)
end
section
variable {P:Program} {M0:Nat→Nat→Prop} {w0:Bas} {N:Nm} {p:Pl} {st:VS} {a:Act} {w:World}
theorem V0.row1 {M:Nat→Nat→Prop} {es:List (List AV)} {A:Option Addr} {n cap:Nat} (h:V0 w M (.sl 1 es) (.slice A n cap)) :
  n=es.length∧(∀ (k:Nat) (x:List AV),es[k]? = some x→x.length=1∧∀ c∈x,cY c=true)∧(0 < n→∃ b o,A=some ⟨b,o,none⟩∧b < w.heap.size ∧
   ∀ k,k < n→¬M b (o+k)∧∃ u,w.cell? ⟨b,o+k,none⟩=some u∧∀ (x:List AV) (c:AV),es[k]? = some x→x[0]? = some c→V0 w M c u):=by
 cases h with
 | slNil=>exact ⟨rfl,by simp,fun h=>by omega⟩
 | sl _ _ _ b o u aC hb hM dh aM h1 hc hv=>
  refine ⟨rfl,fun k x hx=>⟨aM k x hx,fun c hc=>?_⟩,fun _=>⟨b,o,rfl,hb,fun k hk=>⟨?_,u k 0,?_,fun x c hx hc=>hv k x 0 c hx hc⟩⟩⟩
  ·obtain ⟨j,hj⟩:=List.mem_iff_getElem?.1 hc;exact h1 k x j c hx hj
  ·have:=hM k 0 hk (by decide);simpa using this
  ·have:=hc k 0 hk (by decide);simpa using this
theorem Rel.bagApp {t ty e id k d:Nat} {ti te:TI} {au:Option Nat} {qs:List (List (List AV))} {es:List (List AV)} {x:AV} {vx vy:Value} (R:Rel M0 w0 N p st a w) (hd:N.has d) (aV:aU P t=some ti) (iF:ti.kind=1) (f_:aU P ti.elem=some te) (h1:te.size=1) (h2:te.zero.length=1) (jl:te.bytes≤100000)
  (hi:st.h[id]? = some (some (.bag e 1 false au qs))) (hk:k < qs.length) (cM:au=none∨au=some k) (jL:∀ (i:Nat) (cs:List AV),st.h[i]? = some (some (.box cs))→∀ c∈cs,dj id 5 c=true)
  (hx:V1 w (Mof M0 st.h p) st.h p (.slw id k 1 es) vx) (hy:V0 w (Mof M0 st.h p) (.sl 1 [[x]]) vy) (gK:es.length+1≤1000000000) :
  ∃ v w' p',(Builtin.append_ #[t,t] ty #[vx,vy]).run P w = .ok v w'∧Rel M0 w0 N p' ⟨(d,.slw id k 1 (es++[[x]]))::st.s.map (fun q=>(q.1,unW id q.2)),st.h.set id (some (.bag e 1 false (some k) qs))⟩ (a.put (some d) v) w':=by
 obtain ⟨hb1,hb2,cur,bE,Si,O6,Sj⟩:=R.bagRow hi;obtain ⟨_,h0,hs⟩:=hx.slw_inv;obtain ⟨_,iM,O7,qP⟩:=hs _ _ _ _ hi;obtain ⟨A,n,cap,rfl,hle,iM⟩:=iM;obtain ⟨rfl,dp,dw⟩:=h0.row1;obtain ⟨dd,inf,z,fu,pj,hz,iX,kD⟩:=eQ f_;have cG:inf.size=1:=by rw [←h1,kD]
 have iJ:z.cells.size=1:=by rw [←h2,kD,Array.length_toList]
 have pk:inf.bytes≤100000:=by rw [kD] at jl;exact jl
 have hu:=lF aV iF;have bH:cH (Ob.bag e 1 false au qs)=true:=rfl;have fx:∀ k',k'≠k→au≠some k':=fun k' hn=>by rcases cM with h|h<;>rw [h]<;>simp [Ne.symm hn]
 have hid:=(List.getElem?_eq_some_iff.1 hi).1;have de:∀ (i:Nat) (ob:Ob),i≠id→(st.h.set id (some (Ob.bag e 1 false (some k) qs)))[i]? = some (some ob)→st.h[i]? = some (some ob):=fun i ob hn h=>by rwa [List.getElem?_set_ne (Ne.symm hn)] at h
 obtain ⟨ay,cy,u0,rfl,H8,sD,bx⟩ : ∃ (ay:Addr) (cy:Nat) (u0:Value),vy = .slice (some ay) 1 cy∧w.cell? (ay.add 0)=some u0∧V0 w (Mof M0 st.h p) x u0∧cY x=true:=by
  cases hy with
  | sl _ _ fw b o u aC hb hM dh aM ho hc hv=>
   refine ⟨⟨b,o,none⟩,fw,u 0 0,rfl,?_,hv 0 _ 0 _ rfl rfl,ho 0 _ 0 _ rfl rfl⟩;have:=hc 0 0 (by simp) (by decide);rw [jC];simpa using this
 have CH:=sD.one bx;have wV:∀ (k':Nat) (v':Value),k' < qs.length→k'≠k→cur[k']? = some v'→Dist (.slice A es.length cap) v':=fun k' v' dy aC bB=>qP cur e k' v' bE dy aC (fx k' aC) bB;have wW:∀ (k':Nat) (v':Value),k' < qs.length→k'≠k→cur[k']? = some v'→Spare w p id 1 v':=fun k' v' dy aC bB=>by
  obtain ⟨v2,g1,_,g3⟩:=O6 k' _ (List.getElem?_eq_getElem dy);rw [bB] at g1;obtain rfl:=Option.some.inj g1;exact g3 (fx k' aC)
 have k9:(es++[[x]]).length=es.length+1:=by simp
 have lT:∀ (k:Nat) (y:List AV),(es++[[x]])[k]? = some y→y.length=1∧∀ c∈y,cY c=true:=fun k y hy=>by
  rcases Nat.lt_or_ge k es.length with hl|hl
  ·rw [List.getElem?_append_left hl] at hy;exact dp k y hy
  ·rw [List.getElem?_append_right hl] at hy;cases hj:k - es.length with
   | zero=>rw [hj] at hy;simp at hy;subst hy;exact ⟨rfl,by simpa using bx⟩
   | succ j=>rw [hj] at hy;simp at hy
 by_cases gH:es.length+1≤cap
 ·obtain ⟨b,o,sE,tb,rfl,wX,j8,gP,_,H9,hS⟩:=iM (by omega);simp only [Nat.mul_one] at j8 hS;have zG:=hS (o+es.length) (Nat.le_refl _);have aG:=run_append_room_cells (P:=P) w t ty ti.elem inf hu pj b o es.length cap ay 1 cy [u0] (by simp [cG]) (fun j u hj=>by
   cases j with
   | zero=>simp at hj;rw [←hj];exact H8
   | succ j=>simp at hj) (by simpa using CH) gH (fun j hj=>by
   obtain rfl:j=0:=by simpa using hj
   rw [cG,cell_of_row w b _ sE tb (0,0) wX];have:o+es.length*1+0 < sE.size:=by omega
   simpa using this) (fun j hj=>by simp [World.frozen?,wX])
  rw [cG,Nat.mul_one] at aG;have zH:∀ b' j,¬Mof M0 st.h p b' j→¬Mof M0 (st.h.set id (some (Ob.bag e 1 false (some k) qs))) ⟨p.b,fun i=>if i=id then fun b' j=>p.S id b' j∧¬(b'=b∧j=o+es.length) else p.S i⟩ b' j:=fun b' j hn hm=>by
   rcases hm with hm|⟨i,ob,aL,bD,hO⟩
   ·exact hn (.inl hm)
   ·by_cases he:i=id
    ·subst he;rcases hO with hO|hO
     ·exact hn (.inr ⟨i,_,hi,bH,.inl hO⟩)
     ·simp only [if_true] at hO;exact hn (.inr ⟨i,_,hi,bH,.inr hO.1⟩)
    ·refine hn (.inr ⟨i,ob,de i ob he aL,bD,?_⟩);rcases hO with hO|hO
     ·exact .inl hO
     ·simp only [if_neg he] at hO;exact .inr hO
  have H_:Keeps (fun b j=>p.S id b j) w (w.setCells b (o+es.length) [u0]):=by
   refine ⟨by rw [ym];exact Nat.le_refl _,fun b' _ hn=>Br u0 fun he=>hn (o+es.length) (by rw [he];exact zG),fun {b' o' v'} _ hn hc=>?_⟩;rw [World.cell?_setCells_out b [u0] (o+es.length) w ⟨b',o',none⟩ fun h1 _=>?_]
   ·exact hc
   ·simp only at h1 ⊢;have:o'≠o+es.length:=fun he=>hn (by rw [h1,he];exact zG);simp only [List.length_singleton];omega
  have eN:=(Array.getElem?_eq_some_iff.1 wX).1;refine ⟨_,_,_,aG,R.bagPend (p':=⟨p.b,fun i=>if i=id then fun b' j=>p.S id b' j∧¬(b'=b∧j=o+es.length) else p.S i⟩) hd hi hk cM bE jL rfl rfl rfl H_ (fun _=>rfl) (fun i hn=>by simp only [if_neg hn]) (fun b' j h=>?_) (fun j h=>?_) (fun i ob hn aL bD b' j j' hO h=>?_) (fun b' j _ h=>?_) (fun k' v' dy aC bB C9=>?_) ?_ ?_ fun k' v' dy aC bB=>?_⟩
  ·simp only [if_true] at h;have:=hb1 b' j (.inr h.1);exact ⟨this.1,by rw [ym];exact this.2⟩
  ·simp only [if_true] at h;exact hb2 j h.1
  ·simp only [if_true] at h;exact hn (R.inj i id ob _ aL hi bD bH b' j j' hO (.inr h.1))
  ·simp only [if_true] at h;exact h.1
  ·obtain ⟨A2,n2,nk,rfl,q2,q3⟩:=C9;refine ⟨A2,n2,nk,rfl,q2,fun aw=>?_⟩;obtain ⟨b2,o2,np,t2,rfl,g2,g3,g4,g5,g6,g7⟩:=q3 aw;have qF:b≠b2:=wV k' _ dy aC bB b o es.length cap b2 o2 n2 nk rfl rfl (by omega) aw;refine ⟨b2,o2,np,t2,rfl,by rw [Br u0 (Ne.symm qF)];exact g2,g3,g4,g5,g6,fun j hj=>?_⟩;simp only [if_true];exact ⟨g7 j hj,fun h=>qF h.1.symm⟩
  ·have aE:∀ k1,k1 < es.length+1→∃ u,(w.setCells b (o+es.length) [u0]).cell? ⟨b,o+k1,none⟩=some u∧∀ (y:List AV) (c:AV),(es++[[x]])[k1]? = some y→y[0]? = some c→V0 (w.setCells b (o+es.length) [u0]) (Mof M0 (st.h.set id (some (Ob.bag e 1 false (some k) qs))) ⟨p.b,fun i=>if i=id then fun b' j=>p.S id b' j∧¬(b'=b∧j=o+es.length) else p.S i⟩) c u:=fun k1 dC=>by
    have dA:∀ {c:AV} {u:Value},V0 w (Mof M0 st.h p) c u→V0 (w.setCells b (o+es.length) [u0]) (Mof M0 (st.h.set id (some (Ob.bag e 1 false (some k) qs))) ⟨p.b,fun i=>if i=id then fun b' j=>p.S id b' j∧¬(b'=b∧j=o+es.length) else p.S i⟩) c u:=fun hv=>hv.keep (H_.mono fun b j _ hS=>.inr ⟨id,_,hi,bH,.inr hS⟩) fun b j _=>zH b j;rcases Nat.lt_or_ge k1 es.length with hl|hl
    ·obtain ⟨b3,o3,hA,_,ei⟩:=dw (by omega);simp only [Option.some.injEq,Addr.mk.injEq] at hA;obtain ⟨rfl,rfl,_⟩:=hA;obtain ⟨_,u,g1,g2⟩:=ei k1 hl;refine ⟨u,?_,fun y c hy hc=>dA (g2 y c (by rwa [List.getElem?_append_left hl] at hy) hc)⟩;rw [World.cell?_setCells_out b [u0] (o+es.length) w ⟨b,o+k1,none⟩ fun _ _=>.inl (by simp only;omega)];exact g1
    ·obtain rfl:k1=es.length:=by omega
     refine ⟨u0,?_,fun y c hy hc=>?_⟩
     ·rw [cell_of_row _ b _ _ tb (0,0) (Bp u0 wX)];have:o+es.length < sE.size:=by omega
      simp [this]
     ·rw [List.getElem?_append_right (Nat.le_refl _),Nat.sub_self] at hy;simp at hy;subst hy;simp at hc;subst hc;exact dA sD
   have hv:=V0.sl (w:=w.setCells b (o+es.length) [u0]) (M:=Mof M0 (st.h.set id (some (Ob.bag e 1 false (some k) qs))) ⟨p.b,fun i=>if i=id then fun b' j=>p.S id b' j∧¬(b'=b∧j=o+es.length) else p.S i⟩) 1 (es++[[x]]) cap b o (fun k1 _=>((w.setCells b (o+es.length) [u0]).cell? ⟨b,o+k1,none⟩).getD undef) (by simp) (by rw [ym];exact eN) (fun k1 j dC hj hm=>?_) (by omega) (fun k1 y hy=>(lT k1 y hy).1) (fun k1 y j c hy hc=>(lT k1 y hy).2 c (List.mem_of_getElem? hc)) (fun k1 j dC hj=>?_) fun k1 y j c hy hc=>?_
   ·rw [k9] at hv;exact hv
   ·obtain rfl:j=0:=by omega
    simp only [Nat.mul_one,Nat.add_zero] at hm;rcases Nat.lt_or_ge k1 es.length with hl|hl
    ·obtain ⟨b3,o3,hA,_,ei⟩:=dw (by omega);simp only [Option.some.injEq,Addr.mk.injEq] at hA;obtain ⟨rfl,rfl,_⟩:=hA;exact zH _ _ (ei k1 hl).1 hm
    ·obtain rfl:k1=es.length:=by omega
     rcases hm with hm|⟨i,ob,aL,bD,hO⟩
     ·exact R.h0 _ _ hm (hb1 _ _ (.inr zG)).1
     ·by_cases he:i=id
      ·subst he;rcases hO with hO|hO
       ·exact H9 hO.symm
       ·simp only [if_true] at hO;exact hO.2 ⟨trivial,trivial⟩
      ·refine he (R.inj i id ob _ (de i ob he aL) hi bD bH b (o+es.length) (o+es.length) ?_ (.inr zG));rcases hO with hO|hO
       ·exact .inl hO
       ·simp only [if_neg he] at hO;exact .inr hO
   ·obtain rfl:j=0:=by omega
    obtain ⟨u,g1,_⟩:=aE k1 (by omega);simp only [Nat.mul_one,Nat.add_zero];rw [g1];rfl
   ·obtain ⟨u,g1,g2⟩:=aE k1 (by rw [←k9];exact (List.getElem?_eq_some_iff.1 hy).1);have n9:j=0:=by
     have:=(lT k1 y hy).1;have:=(List.getElem?_eq_some_iff.1 hc).1;omega
    subst n9;rw [g1];exact g2 y c hy hc
  ·refine ⟨_,_,_,rfl,gH,fun aw=>⟨b,o,_,tb,rfl,Bp u0 wX,by simpa using j8,gP,Nat.one_pos,H9,fun j hj=>?_⟩⟩;show (if id=id then _ else _:Nat→Nat→Prop) b j;rw [if_pos rfl];exact ⟨hS j (by omega),fun h=>by omega⟩
  ·intro b3 o3 n3 c3 b4 o4 n4 c4 e3 e4 l3 l4;simp only [Value.slice.injEq,Option.some.injEq,Addr.mk.injEq] at e3;obtain ⟨⟨rfl,rfl,_⟩,rfl,rfl⟩:=e3;exact wV k' v' dy aC bB b o es.length cap b4 o4 n4 c4 rfl e4 (by omega) l4
 ·have hA:A=none→es.length=0∧cap=0:=fun h=>by
   have:¬0 < es.length:=fun hl=>by
    obtain ⟨b,o,hA,_⟩:=dw hl;rw [h] at hA;cases hA
   omega
  obtain ⟨g,fw,pt,w',aG,dn,Ia,hg,nD,gP,bV,hold,ku,eh⟩:=O0 (P:=P) (w:=w) (ty:=ty) (c:=cy) hu pj hz cG iJ pk (A:=A) (n:=es.length) (cap:=cap) (olds:=(List.range es.length).map fun k=>match A with|some a0=>(w.cell? (a0.add k)).getD undef|none=>undef) hA (by simp) (fun a0 h0 j u hj=>by
   subst h0;have bK:j < es.length:=by simpa using (List.getElem?_eq_some_iff.1 hj).1
   rw [List.getElem?_map,List.getElem?_range bK] at hj;simp only [Option.map_some,Option.some.injEq] at hj;obtain ⟨b,o,hA,_,ei⟩:=dw (by omega);simp only [Option.some.injEq] at hA;subst hA;obtain ⟨_,u1,g1,_⟩:=ei j bK;rw [jC,g1] at hj;rw [jC,g1,←hj];rfl) H8 (by omega) gK
  have zH:∀ b' j,b' < w.heap.size→¬Mof M0 st.h p b' j→¬Mof M0 (st.h.set id (some (Ob.bag e 1 false (some k) qs))) ⟨p.b,fun i=>if i=id then fun b' j=>p.S id b' j∨(b'=g∧es.length+1≤j) else p.S i⟩ b' j:=fun b' j aw hn hm=>by
   rcases hm with hm|⟨i,ob,aL,bD,hO⟩
   ·exact hn (.inl hm)
   ·by_cases he:i=id
    ·subst he;rcases hO with hO|hO
     ·exact hn (.inr ⟨i,_,hi,bH,.inl hO⟩)
     ·simp only [if_true] at hO;rcases hO with hO|⟨rfl,_⟩
      ·exact hn (.inr ⟨i,_,hi,bH,.inr hO⟩)
      ·omega
    ·refine hn (.inr ⟨i,ob,de i ob he aL,bD,?_⟩);rcases hO with hO|hO
     ·exact .inl hO
     ·simp only [if_neg he] at hO;exact .inr hO
  have dA:∀ {c:AV} {u:Value},V0 w (Mof M0 st.h p) c u→V0 w' (Mof M0 (st.h.set id (some (Ob.bag e 1 false (some k) qs))) ⟨p.b,fun i=>if i=id then fun b' j=>p.S id b' j∨(b'=g∧es.length+1≤j) else p.S i⟩) c u:=fun hv=>hv.keep (.of_below eh) zH;refine ⟨_,_,_,aG,R.bagPend (p':=⟨p.b,fun i=>if i=id then fun b' j=>p.S id b' j∨(b'=g∧es.length+1≤j) else p.S i⟩) hd hi hk cM bE jL eh.os eh.tape eh.output (.of_below eh) (fun _=>rfl) (fun i hn=>by simp only [if_neg hn]) (fun b' j h=>?_) (fun j h=>?_) (fun i ob hn aL bD b' j j' hO h=>?_) (fun b' j aw h=>?_) (fun k' v' dy aC bB C9=>?_) ?_ ?_ fun k' v' dy aC bB=>?_⟩
  ·simp only [if_true] at h;rcases h with h|⟨rfl,_⟩
   ·have:=hb1 b' j (.inr h);exact ⟨this.1,Nat.lt_of_lt_of_le this.2 eh.size⟩
   ·exact ⟨.inl (Nat.le_trans R.below.size dn),Ia⟩
  ·simp only [if_true] at h;rcases h with h|⟨h,_⟩
   ·exact hb2 j h
   ·omega
  ·simp only [if_true] at h;rcases h with h|⟨rfl,_⟩
   ·exact hn (R.inj i id ob _ aL hi bD bH b' j j' hO (.inr h))
   ·have:=((R.objs i ob aL).own bD b' j hO).2;omega
  ·simp only [if_true] at h;rcases h with h|⟨rfl,_⟩
   ·exact h
   ·omega
  ·refine Spare.mono (p:=p) rfl (fun b j h=>?_) (fun b j _ aw=>eh.block b aw) C9;simp only [if_true];exact .inl h
  ·have aE:∀ k1,k1 < es.length+1→∃ u,pt[k1]? = some u∧∀ (y:List AV) (c:AV),(es++[[x]])[k1]? = some y→y[0]? = some c→V0 w' (Mof M0 (st.h.set id (some (Ob.bag e 1 false (some k) qs))) ⟨p.b,fun i=>if i=id then fun b' j=>p.S id b' j∨(b'=g∧es.length+1≤j) else p.S i⟩) c u:=fun k1 dC=>by
    rcases Nat.lt_or_ge k1 es.length with hl|hl
    ·obtain ⟨b3,o3,rfl,_,ei⟩:=dw (by omega);obtain ⟨_,u,g1,g2⟩:=ei k1 hl;refine ⟨u,?_,fun y c hy hc=>dA (g2 y c (by rwa [List.getElem?_append_left hl] at hy) hc)⟩;rw [hold k1 hl,List.getElem?_map,List.getElem?_range hl];simp only [Option.map_some,jC,g1,Option.getD_some]
    ·obtain rfl:k1=es.length:=by omega
     refine ⟨u0,ku,fun y c hy hc=>?_⟩;rw [List.getElem?_append_right (Nat.le_refl _),Nat.sub_self] at hy;simp at hy;subst hy;simp at hc;subst hc;exact dA sD
   have hv:=V0.sl (w:=w') (M:=Mof M0 (st.h.set id (some (Ob.bag e 1 false (some k) qs))) ⟨p.b,fun i=>if i=id then fun b' j=>p.S id b' j∨(b'=g∧es.length+1≤j) else p.S i⟩) 1 (es++[[x]]) fw g 0 (fun k1 _=>(pt[k1]?).getD undef) (by simp) Ia (fun k1 j dC hj hm=>?_) (by omega) (fun k1 y hy=>(lT k1 y hy).1) (fun k1 y j c hy hc=>(lT k1 y hy).2 c (List.mem_of_getElem? hc)) (fun k1 j dC hj=>?_) fun k1 y j c hy hc=>?_
   ·rw [k9] at hv;exact hv
   ·obtain rfl:j=0:=by omega
    simp only [Nat.mul_one,Nat.add_zero,Nat.zero_add] at hm;rcases hm with hm|⟨i,ob,aL,bD,hO⟩
    ·have:=R.lt g k1 (.inl hm);omega
    ·by_cases he:i=id
     ·subst he;rcases hO with hO|hO
      ·have:p.b i=g:=hO;omega
      ·simp only [if_true] at hO;rcases hO with hO|⟨_,hO⟩
       ·have:=(hb1 _ _ (.inr hO)).2;omega
       ·omega
     ·have my:p.O i g k1:=by
       rcases hO with hO|hO
       ·exact .inl hO
       ·simp only [if_neg he] at hO;exact .inr hO
      have:=((R.objs i ob (de i ob he aL)).own bD g k1 my).2;omega
   ·obtain rfl:j=0:=by omega
    obtain ⟨u,g1,_⟩:=aE k1 (by omega);simp only [Nat.mul_one,Nat.add_zero,Nat.zero_add];rw [cell_of_row w' g _ pt ti.elem (0,0) hg,g1];rfl
   ·obtain ⟨u,g1,g2⟩:=aE k1 (by rw [←k9];exact (List.getElem?_eq_some_iff.1 hy).1);have n9:j=0:=by
     have:=(lT k1 y hy).1;have:=(List.getElem?_eq_some_iff.1 hc).1;omega
    subst n9;rw [g1];exact g2 y c hy hc
  ·refine ⟨_,_,_,rfl,nD,fun aw=>⟨g,0,pt,ti.elem,rfl,hg,by omega,gP,Nat.one_pos,?_,fun j hj=>?_⟩⟩
   ·show g≠p.b id;omega
   ·simp only [if_true];exact .inr ⟨trivial,by omega⟩
  ·intro b3 o3 n3 c3 b4 o4 n4 c4 e3 e4 l3 l4;simp only [Value.slice.injEq,Option.some.injEq,Addr.mk.injEq] at e3;obtain ⟨⟨rfl,_,_⟩,_,_⟩:=e3;obtain ⟨A2,n2,nk,q1,_,q3⟩:=wW k' v' dy aC bB;rw [e4] at q1;simp only [Value.slice.injEq] at q1;obtain ⟨rfl,rfl,rfl⟩:=q1;obtain ⟨b5,o5,_,_,q4,q5,_⟩:=q3 l4;simp only [Option.some.injEq,Addr.mk.injEq] at q4;obtain ⟨rfl,rfl,_⟩:=q4;have:=(Array.getElem?_eq_some_iff.1 q5).1;omega
end
def mE (P:Program) (st:VS) (o:Oper) : Option VS:=
 match o.op with
 | .store t x y=>match o.dst,aU P t,ev st x with
  | none,some ti,.aref id sz i off=>match st.h[id]? with
   | some (some (.bag e bm nl au qs))=>if sz=1∧off=0∧nl=false∧i < qs.length∧(au=none∨au=some i)∧ti.size=1∧st.h.all (ry id)=true then
     (match ev st y with
     | .slw fK k nL es=>if fK=id∧k=i∧nL=bm then some ⟨st.s.map fun q=>(q.1,unW id q.2),st.h.set id (some (.bag e bm false none (qs.set i es)))⟩ else none
     | .osl r=>match st.h[r]? with
      | some (some (.arr _ nL _ Ib))=>if nL=bm then some ⟨st.s.map fun q=>(q.1,unW id q.2),(st.h.set r none).set id (some (.bag e bm false none (qs.set i Ib)))⟩ else none
      | _=>none
     | _=>none) else none
   | _=>none
  | _,_,_=>none
 | .call ⟨.builtin .append,xs,ts⟩=>match xs.toList,ts.toList,o.dst with
  | [x,y],[t,t'],some d=>match aU P t,ev st x,ev st y with
   | some ti,.slw id k sz es,.sl bm [[c]]=>match st.h[id]? with
    | some (some (.bag e Ic nl au qs))=>match aU P ti.elem with
     | some te=>if t=t'∧ti.kind=1∧te.size=1∧te.zero.length=1∧te.bytes≤100000∧sz=1∧bm=1∧Ic=1∧nl=false∧k < qs.length∧(au=none∨au=some k)∧st.h.all (ry id)=true∧es.length+1≤1000000000 then
       some ⟨(d,.slw id k 1 (es++[[c]]))::st.s.map (fun q=>(q.1,unW id q.2)),st.h.set id (some (.bag e 1 false (some k) qs))⟩ else none
     | none=>none
    | _=>none
   | _,_,_=>none
  | _,_,_=>none
 | _=>none
section
variable {P:Program} {M0:Nat→Nat→Prop} {w0:Bas} {N:Nm} {p:Pl} {st:VS} {a:Act} {w:World}
theorem uI {h:Hp} {id:Nat} (hb:h.all (ry id)=true) (i:Nat) (cs:List AV) (hi:h[i]? = some (some (.box cs))) (c:AV) (hc:c∈cs) : dj id 5 c=true:=by
 have:=List.all_eq_true.1 hb _ (List.mem_of_getElem? hi);exact List.all_eq_true.1 this c hc
theorem O8 {v:Value} (h:∃ A n c,v = .slice A n c) : v.cells.toList=[v]:=by
 obtain ⟨A,n,c,rfl⟩:=h;rfl
theorem V0.sl_form {M:Nat→Nat→Prop} {sz:Nat} {es:List (List AV)} {v:Value} (h:V0 w M (.sl sz es) v) : ∃ A n c,v = .slice A n c:=by
 cases h with
 | slNil _ A c=>exact ⟨A,0,c,rfl⟩
 | sl _ _ c b o u=>exact ⟨_,_,c,rfl⟩
theorem Ie {t:TypeId} {ti:TI} {id i e:Nat} {cur:Array Value} {v:Value} (aV:aU P t=some ti) (h1:ti.size=1) (hv:∃ A n c,v = .slice A n c) (bE:w.heap[p id]? = some (.cells cur e (0,0))) (hi:i < cur.size) :
  (Instr.storeAt t (.pointer (some ⟨p id,i*1+0,none⟩)) v).run P w = .ok () (w.setRow (p id) (cur.setIfInBounds i v)):=by
 have hc:=O8 hv;have:=CB (P:=P) (w:=w) (o:=i*1+0) aV (v:=v) (by rw [←Array.length_toList,hc,h1];rfl) bE (by omega) (by
  rw [hc];intro x hx;simp only [List.mem_singleton] at hx;subst hx;obtain ⟨A,n,c,rfl⟩:=hv;rfl)
 rw [this,hc];simp only [Nat.mul_one,Nat.add_zero,List.length_singleton];rw [Nu hi]
theorem Ei (R:Rel M0 w0 N p st a w) {o:Oper} {aR:VS} (hd:dz N o=true) (ht:mE P st o=some aR) :
  ∃ v w' p',(execOp a.eval o).run P w = .ok (.value v) w'∧Rel M0 w0 N p' aR (a.put o.dst v) w'∨(execOp a.eval o).run P w = .ok .skip w'∧v=undef∧Rel M0 w0 N p' aR (a.put o.dst undef) w':=by
 have aw:=fL hd;obtain ⟨dst,op,ty,pos,after,guard⟩:=o;simp only at aw;unfold mE at ht;simp only at ht;split at ht
 ·rename_i t x y;split at ht
  ·rename_i ti id sz i off aV hx;split at ht
   ·rename_i e bm nl au qs hid;split at ht
    ·rename_i hc;obtain ⟨rfl,rfl,rfl,hi,cM,h1,ax⟩:=hc;obtain ⟨_,_,cur,bE,hlen,_,_⟩:=R.bagRow hid;have jH:=R.eval x;rw [hx] at jH;obtain ⟨hq,_⟩:=jH.aref_inv;have jI:=R.eval y;split at ht
     ·rename_i fK k nL es hy;split at ht
      ·rename_i hc;obtain ⟨rfl,rfl,rfl⟩:=hc;simp only [Option.some.injEq] at ht;subst ht;rw [hy] at jI;have aG:=Ie (P:=P) (p:=p) aV h1 jI.slw_inv.2.1.sl_form bE (show k < cur.size by omega);exact ⟨undef,_,p,.inr ⟨by simp only [execOp,Sem.run_bind,hq,aG];rfl,rfl,R.bagStore hid hi cM bE (uI ax) jI⟩⟩
      ·cases ht
     ·rename_i r hy;split at ht
      ·rename_i er nL Sk Ib hr;split at ht
       ·rename_i hc;subst hc;simp only [Option.some.injEq] at ht;subst ht;rw [hy] at jI;obtain ⟨p',R'⟩:=R.bagTake hid hi cM bE (uI ax) hr jI;obtain ⟨A,n,c,O9,_⟩:=jI.osl_inv;have aG:=Ie (P:=P) (p:=p) aV h1 ⟨A,n,c,O9⟩ bE (show i < cur.size by omega);exact ⟨undef,_,p',.inr ⟨by simp only [execOp,Sem.run_bind,hq,aG];rfl,rfl,R'⟩⟩
       ·cases ht
      ·cases ht
     ·cases ht
    ·cases ht
   ·cases ht
  ·cases ht
 ·rename_i xs ts;split at ht
  ·rename_i x y t t' d dG gq;split at ht
   ·rename_i ti id k sz es bm c aV hx hy;split at ht
    ·rename_i e Ic nl au qs hid;split at ht
     ·rename_i te f_;split at ht
      ·rename_i hc;obtain ⟨rfl,hk,h1,h2,jl,rfl,rfl,rfl,rfl,bJ,cM,ax,gK⟩:=hc;simp only [Option.some.injEq] at ht;subst ht;have jH:=R.eval x;rw [hx] at jH;have jI:=R.eval y;rw [hy] at jI;obtain ⟨v,w',p',aG,R'⟩:=R.bagApp (ty:=ty) (aw d rfl) aV hk f_ h1 h2 jl hid bJ cM (uI ax) jH jI.sl_inv gK;refine ⟨v,w',p',.inl ⟨?_,R'⟩⟩;have e1:xs=#[x,y]:=by apply Array.ext';exact dG
       have e2:ts=#[t,t]:=by apply Array.ext';exact gq
       subst e1 e2;simp only [execOp,resolve,invoke,builtin,Sem.run_bind,Sem.run_pure,Result.andThen_ok,List.map_toArray,List.map_cons,List.map_nil,aG]
      ·cases ht
     ·cases ht
    ·cases ht
   ·cases ht
  ·cases ht
 ·cases ht
end
attribute [go_sem] mE unW dj ry
def fJ (N:Nm) : Code→Bool
 | .region _ ops _=>ops.toList.all (dz N)
 | .seq a b=>fJ N a&&fJ N b
 | .cond _ a b=>fJ N a&&fJ N b
 | .block _ c=>fJ N c
 | .loop c=>fJ N c
 | .skip=>true
 | .exit _=>true
 | .ret=>true
 | _=>false
section
variable (P:Program)
def OwnRow (w w':World) (M:Nat→Nat→Prop) (e sz:Nat) (nl:Bool) (es:List (List AV)) (v:Value) : Prop:=
 if nl=true then (∃ A,v = .slice A 0 0)∧es=[] else ∃ g cap cur,v = .slice (some ⟨g,0,none⟩) es.length cap∧w.heap.size≤g∧w'.heap[g]? = some (.cells cur e (0,0))∧cur.size=cap*sz∧es.length≤cap∧cap≤maxLen ∧
  ∀ (k:Nat) (x:List AV) (j:Nat) (c:AV),es[k]? = some x→x[j]? = some c→∃ u,cur[k*sz+j]? = some u∧V0 w' (fun b j=>M b j∨b=g) c u
def VCo (f:FuncId) (args:List AV) (e sz:Nat) (nl:Bool) (es:List (List AV)) : Prop:=
 ln P f=true∧0 < sz∧(∀ (k:Nat) (x:List AV),es[k]? = some x→x.length=sz∧∀ c∈x,cY c=true) ∧
 ∀ (w:World) (M:Nat→Nat→Prop) (vs:List Value),MOK w M→vs.length=args.length→(∀ (i:Nat) (a:AV) (v:Value),args[i]? = some a→vs[i]? = some v→V0 w M a v) →
  Calls P f vs.toArray w fun en w'=>∃ v,en = .returned v∧Below w.heap.size w w'∧OwnRow w w' M e sz nl es v
def uH (st:VS) (c:Call) (e sz:Nat) (nl:Bool) (es:List (List AV)) : Prop:=
 match ri P (ev st) c with
 | none=>False
 | some (k,args)=>VCo P k args e sz nl es∧args.all (eP 5)=true
def nI (ow:List Nat) (o:Oper) : Option (Call×Nat):=
 match o.op,o.dst with
 | .call c,some d=>match c.callee with
  | .value _=>if ow.contains d then some (c,d) else none
  | _=>none
 | _,_=>none
def VDo (ow:List Nat) (o:Oper) (st:VS) (K:VS→Prop) : Prop:=
 match lI P ow st o with
 | some aR=>K aR
 | none=>match mE P st o with
  | some aR=>K aR
  | none=>match nI ow o with
   | some (c,d)=>∃ e sz nl es,uH P st c e sz nl es∧K ⟨(d,.osl st.h.length)::st.s,st.h++[some (.arr e sz nl es)]⟩
   | none=>∃ r,fN P st.h (ev st) o.op r∧K (st.put o.dst r)
def df (ops:List Oper) (st:VS) (j:Nat) : AV:=match ops[j]? with|some o=>(match o.dst with|some d=>lkp st.s d|none=>.lit undef)|none=>.lit undef
def VOp (ow:List Nat) (ops:List Oper) (o:Oper) (st:VS) (K:VS→Prop) : Prop:=
 match o.guard with
 | none=>VDo P ow o st K
 | some (j,want)=>match df ops st j with
  | .lit (.bool b)=>if b=want then VDo P ow o st K else K (st.put o.dst (.lit undef))
  | .lit (.tuple _)=>K (st.put o.dst (.lit undef))
  | _=>False
def eA (ow:List Nat) (ops:List Oper) : List Oper→VS→(VS→Prop)→Prop
 | [],st,K=>K st
 | o::l,st,K=>VOp P ow ops o st fun aR=>eA ow ops l aR K
end
section
variable {P:Program} {M0:Nat→Nat→Prop} {w0:Bas} {N:Nm} {p:Pl} {st:VS} {a:Act} {w:World}
theorem Ej (R:Rel M0 w0 N p st a w) {o:Oper} {ow:List Nat} {c:Call} {d e sz:Nat} {nl:Bool} {es:List (List AV)} {K':Act→World→Prop} {Q:Exit→Act→World→Prop} (hd:dz N o=true) (hc:nI ow o=some (c,d)) (h:uH P st c e sz nl es)
  (hk:∀ p a w,Rel M0 w0 N p ⟨(d,.osl st.h.length)::st.s,st.h++[some (.arr e sz nl es)]⟩ a w→K' a w) : o.wp P a w K' Q:=by
 obtain ⟨dst,op,ty,pos,after,guard⟩:=o;have aw:=fL hd;unfold nI at hc;simp only at hc aw;split at hc
 ·rename_i c' d';split at hc
  ·split at hc
   ·simp only [Option.some.injEq,Prod.mk.injEq] at hc;obtain ⟨rfl,rfl⟩:=hc;obtain ⟨callee,bL,oG⟩:=c';unfold uH at h;split at h
    ·exact h.elim
    ·rename_i k args cJ;obtain ⟨⟨oH,aM,dp,fj⟩,hp⟩:=h;obtain ⟨vs,aG,hlen,gA⟩:=AB (P:=P) (dst:=some d') (ty:=ty) (pos:=pos) (after:=after) (guard:=guard) (fun x _=>R.eval x) cJ oH;unfold Oper.wp;rw [aG];simp only [Oper.upon];refine (fj w (Mof M0 st.h p) vs R.mok hlen fun i b v hb hv=>(gA i b v hb hv).pure 5 (List.all_eq_true.1 hp b (List.mem_of_getElem? hb))).mono ?_;rintro en w' ⟨v,rfl,hb,ho⟩;unfold OwnRow at ho;cases nl
     ·simp only [Bool.false_eq_true,if_false] at ho;obtain ⟨g,cap,cur,rfl,hg,hh,bV,hle,gP,hv⟩:=ho;have jP:cq p st.h.length g st.h.length=g:=(ko p _ _).1;have hM:∀ b j,¬(Mof M0 st.h p b j∨b=g)→¬Mof M0 (st.h++[some (.arr e sz false es)]) (cq p st.h.length g) b j:=by
       intro b j hn hm;rcases hm with hm|⟨i,ob,hi,hl,uC⟩
       ·exact hn (.inl (.inl hm))
       ·rcases zv hi with ⟨aw,bF⟩|⟨rfl,hx⟩
        ·exact hn (.inl (.inr ⟨i,ob,bF,hl,(iY (Nat.ne_of_lt aw)).1 uC⟩))
        ·exact hn (.inr (lx uC))
      refine hk _ _ _ (R.grow hb (aw d' rfl) (fun _=>hg) (fun _ _ _ _ _ h=>by cases h) ⟨aM,dp,?_⟩ (.osl _ _ _ _ (by simp) (fun e' bm kQ bQ he=>?_) fun e' bm kQ pe qs he=>?_))
      ·rw [if_neg (by simp)];refine ⟨rB (Nat.le_trans R.below.size hg),cur,by rw [jP];exact hh,by rw [bV];exact Nat.mul_le_mul_right _ hle,fun k x j c hk hj=>?_⟩;obtain ⟨u,hu,km⟩:=hv k x j c hk hj;exact ⟨u,hu,km.keep (Keeps.refl _ _) fun b j _ hn=>hM b j hn⟩
      ·rw [List.getElem?_append_right (Nat.le_refl _)] at he;simp only [Nat.sub_self,List.getElem?_cons_zero,Option.some.injEq] at he;injection he with h1 h2 h3 h4
       subst h1 h2 h3 h4;unfold Osl;rw [if_neg (by simp),jP];exact ⟨cap,cur,rfl,hh,bV,hle,gP⟩
      ·rw [List.getElem?_append_right (Nat.le_refl _)] at he;simp at he
     ·simp only [if_true] at ho;obtain ⟨⟨A0,rfl⟩,rfl⟩:=ho;refine hk _ _ _ (R.grow (b:=0) hb (aw d' rfl) (fun h=>by cases h) (fun _ _ _ _ _ h=>by cases h) ⟨aM,by simp,by simp⟩ (.osl _ _ _ _ (by simp) (fun e' bm kQ bQ he=>?_) fun e' bm kQ pe qs he=>?_))
      ·rw [List.getElem?_append_right (Nat.le_refl _)] at he;simp only [Nat.sub_self,List.getElem?_cons_zero,Option.some.injEq] at he;injection he with h1 h2 h3 h4
       subst h1 h2 h3 h4;simp [Osl]
      ·rw [List.getElem?_append_right (Nat.le_refl _)] at he;simp at he
   ·cases hc
  ·cases hc
 ·cases hc
theorem Ec {ow:List Nat} {o:Oper} {K:VS→Prop} {K':Act→World→Prop} {Q:Exit→Act→World→Prop} (R:Rel M0 w0 N p st a w) (hd:dz N o=true) (h:VDo P ow o st K) (hk:∀ p st a w,Rel M0 w0 N p st a w→K st→K' a w) : o.wp P a w K' Q:=by
 unfold VDo at h;split at h
 ·rename_i aR he;obtain ⟨v,w',p',hh⟩:=G7 (P:=P) R hd he;unfold Oper.wp;rcases hh with ⟨h1,h2⟩|⟨h1,_,h2⟩
  ·rw [h1];exact hk _ _ _ _ h2 h
  ·rw [h1];exact hk _ _ _ _ h2 h
 ·split at h
  ·rename_i aR he;obtain ⟨v,w',p',hh⟩:=Ei (P:=P) R hd he;unfold Oper.wp;rcases hh with ⟨h1,h2⟩|⟨h1,_,h2⟩
   ·rw [h1];exact hk _ _ _ _ h2 h
   ·rw [h1];exact hk _ _ _ _ h2 h
  ·split at h
   ·rename_i c d hc;obtain ⟨e,sz,nl,es,ho,hK⟩:=h;exact Ej R hd hc ho fun p a w R=>hk _ _ _ _ R hK
   ·obtain ⟨r,hg,hK⟩:=h;have:=R.gives (P:=P) hg;exact lY this rfl fun v w' ⟨hv,hb⟩=>hk _ _ _ _ ((R.later hb).put (fL hd) hv) hK
theorem rf {ops:List Oper} {j:Nat} (R:Rel M0 w0 N p st a w) (dU:ops.all (dz N)=true) : (∀ b,df ops st j = .lit (.bool b)→yielded ops.toArray a.tmps j=some b)∧(∀ vs,df ops st j = .lit (.tuple vs)→yielded ops.toArray a.tmps j=none):=by
 unfold df yielded;cases hj:ops[j]? with
 | none=>simp [hj,undef]
 | some o=>
  have hd:=List.all_eq_true.1 dU o (List.mem_of_getElem? hj);cases ho:o.dst with
  | none=>simp [hj,ho,undef]
  | some d=>
   have aw:d < a.tmps.size:=R.size.lt (fL hd d ho);have hs:=R.slots d;have dH:a.tmps.getD d undef=a.tmps[d]:=by simp [aw]
   rw [dH] at hs;simp only [List.getElem?_toArray,hj,Option.bind_some,ho];refine ⟨fun b hb=>?_,fun vs hb=>?_⟩
   ·rw [hb] at hs;have:=hs.lit_inv;simp [aw,this]
   ·rw [hb] at hs;have:=hs.lit_inv;simp [aw,this]
theorem rD {ow:List Nat} {ops:List Oper} {K:VS→Prop} {Q:Exit→Act→World→Prop} (dU:ops.all (dz N)=true) (hk:∀ p st a w,Rel M0 w0 N p st a w→K st→Q .normal a w) :
  ∀ (l:List Oper) (p:Pl) (st:VS) (a:Act) (w:World),l.all (dz N)=true→Rel M0 w0 N p st a w→eA P ow ops l st K→wpList P ops.toArray Q l a w
 | [],p,st,a,w,_,R,h=>wpList_nil (hk p st a w R h)
 | o::l,p,st,a,w,hl,R,h=>by
  simp only [List.all_cons,Bool.and_eq_true] at hl;have ih:=fun p st a w=>rD (ow:=ow) dU hk l p st a w hl.2;refine wpList_step fun Y Z=>?_;simp only [eA,VOp] at h;have nH:VDo P ow o st (fun aR=>eA P ow ops l aR K)→o.wp P a w Y Q:=fun h=>Ec R hl.1 h fun p st a w R h=>Z _ _ (ih p st a w R h);have l6:eA P ow ops l (st.put o.dst (.lit undef)) K→Y (a.put o.dst undef) w:=fun h=>Z _ _ (ih p _ _ w (R.put (fL hl.1) (.base _ _ (.lit _))) h);split at h
  ·rename_i hg;simp only [Region.wanted,hg,if_true];exact nH h
  ·rename_i j want hg;obtain ⟨uy,Av⟩:=rf (j:=j) R dU;simp only [Region.wanted,hg];split at h
   ·rename_i b hb;rw [uy b hb];by_cases hw:b=want
    ·subst hw;rw [if_pos (by simp)];rw [if_pos rfl] at h;exact nH h
    ·rw [if_neg (by simpa using hw)];rw [if_neg hw] at h;exact l6 h
   ·rename_i vs hb;rw [Av vs hb,if_neg (by simp)];exact l6 h
   ·exact h.elim
def VWp (P:Program) (M0:Nat→Nat→Prop) (w0:Bas) (N:Nm) (c:Code) (Q:Exit→VS→Prop) (st:VS) : Prop:=
 fJ N c=true→∀ p a w,Rel M0 w0 N p st a w→c.wp P (fun e a' w'=>∃ aR p',Rel M0 w0 N p' aR a' w'∧Q e aR) a w
def kP (K:VS→Prop) (Q:Exit→VS→Prop) : Exit→VS→Prop
 | .normal,st=>K st
 | e,st=>Q e st
def pv (id:Nat) (Q:Exit→VS→Prop) : Exit→VS→Prop
 | .exit fK,st=>if fK=id then Q .normal st else Q (.exit fK) st
 | e,st=>Q e st
variable {Q:Exit→VS→Prop}
theorem aj (h:Q .normal st) : VWp P M0 w0 N .skip Q st:=fun _ p _ _ R=>wp_skip ⟨st,p,R,h⟩
theorem aX {id:Nat} (h:Q (.exit id) st) : VWp P M0 w0 N (.exit id) Q st:=fun _ p _ _ R=>wp_exit ⟨st,p,R,h⟩
theorem aq (h:Q .ret st) : VWp P M0 w0 N .ret Q st:=fun _ p _ _ R=>wp_ret ⟨st,p,R,h⟩
theorem af {x y:Code} (h:VWp P M0 w0 N x (kP (VWp P M0 w0 N y Q) Q) st) : VWp P M0 w0 N (.seq x y) Q st:=fun hB p a w R=>by
 simp only [fJ,Bool.and_eq_true] at hB;refine wp_seq (wp_mono (h hB.1 p a w R) ?_);rintro e a' w' ⟨aR,p',R',hq⟩;cases e with
 | normal=>exact hq hB.2 p' a' w' R'
 | _=>exact ⟨aR,p',R',hq⟩
theorem ae {K:VS→Prop} (h:K st) : kP K Q .normal st:=h
theorem aW {K:VS→Prop} {id:Nat} (h:Q (.exit id) st) : kP K Q (.exit id) st:=h
theorem aF {K:VS→Prop} (h:Q .ret st) : kP K Q .ret st:=h
theorem aT {id:Nat} (h:Q .normal st) : pv id Q .normal st:=h
theorem b_ {id:Nat} (h:Q .ret st) : pv id Q .ret st:=h
theorem aY {id:Nat} (h:Q .normal st) : pv id Q (.exit id) st:=by simpa [pv] using h
theorem Ig {id fK:Nat} (aC:Nat.beq fK id=false) (h:Q (.exit fK) st) : pv id Q (.exit fK) st:=by
 have:fK≠id:=fun e=>by subst e;simp at aC
 simpa [pv,this] using h
theorem ar {id:Nat} {c:Code} (h:VWp P M0 w0 N c (pv id Q) st) : VWp P M0 w0 N (.block id c) Q st:=fun hB p a w R=>by
 refine wp_block (wp_mono (h (by simpa [fJ] using hB) p a w R) ?_);rintro e a' w' ⟨aR,p',R',hq⟩;cases e with
 | exit fK=>
  simp only [Exit.inBlock];simp only [pv] at hq;split
  ·rename_i he;rw [if_pos he] at hq;exact ⟨aR,p',R',hq⟩
  ·rename_i he;rw [if_neg he] at hq;exact ⟨aR,p',R',hq⟩
 | _=>exact ⟨aR,p',R',hq⟩
theorem C_ {c:Operand} {x y:Code} {t:Bool} (hc:ev st c = .lit (.bool t)) (h1:t=true→VWp P M0 w0 N x Q st) (h2:t=false→VWp P M0 w0 N y Q st) : VWp P M0 w0 N (.cond c x y) Q st:=fun hB p a w R=>by
 simp only [fJ,Bool.and_eq_true] at hB;have he:=R.eval c;rw [hc] at he;exact wp_cond_split he.lit_inv (fun ht=>h1 ht hB.1 p a w R) (fun ht=>h2 ht hB.2 p a w R)
theorem ao {c:Operand} {x y:Code} (hc:ev st c = .lit (.bool true)) (h:VWp P M0 w0 N x Q st) : VWp P M0 w0 N (.cond c x y) Q st:=C_ hc (fun _=>h) (fun h=>by cases h)
theorem ak {c:Operand} {x y:Code} (hc:ev st c = .lit (.bool false)) (h:VWp P M0 w0 N y Q st) : VWp P M0 w0 N (.cond c x y) Q st:=C_ hc (fun h=>by cases h) (fun _=>h)
theorem ah {id:Nat} {l:List Oper} (ow:List Nat) (h:eA P ow l l st (Q .normal)) : VWp P M0 w0 N (.region id l.toArray false) Q st:=fun hB p a w R=>by
 have fb:l.all (dz N)=true:=by simpa [fJ] using hB
 exact wp_region_lit (rD (ow:=ow) fb (fun p st a w R h=>⟨st,p,R,h⟩) l p st a w fb R h)
def bj (k:Nat) : Nat→AV→Bool
 | 0,_=>false
 | n+1,.agg cs=>cs.all (bj k n)
 | n+1,.tup cs=>cs.all (bj k n)
 | n+1,.fn _ a b=>a.all (bj k n)&&b.all (bj k n)
 | n+1,.iface _ v=>bj k n v
 | _+1,.ref id _=>decide (id < k)
 | _+1,.aref id _ _ _=>decide (id < k)
 | _+1,.osl id=>decide (id < k)
 | _+1,.mp id=>decide (id < k)
 | _+1,.slw id _ _ _=>decide (id < k)
 | _+1,_=>true
def nF (k:Nat) : Ob→Bool
 | .box cs=>cs.all (bj k 5)
 | .arr .. => true
 | .mpo .. => true
 | .bag .. => true
def leS (s:List (Nat×AV)) (n:Nat) : List (Nat×AV)→Prop
 | []=>True
 | (i,v)::r=>lkp s i=v∧bj n 5 v=true∧leS s n r
def leO (h:Hp) (n k:Nat) : Option Ob→Prop
 | none=>True
 | some ob=>h[k]? = some (some ob)∧nF n ob=true
def leH (h:Hp) (n:Nat) : Nat→Hp→Prop
 | _,[]=>True
 | k,o::r=>leO h n k o∧leH h n (k+1) r
def Le (st aR:VS) : Prop:=leS st.s aR.h.length aR.s∧aR.h.length≤st.h.length∧leH st.h aR.h.length 0 aR.h
theorem xy {h:Hp} {n:Nat} : ∀ (h':Hp) (k id:Nat) (ob:Ob),leH h n k h'→h'[id]? = some (some ob)→h[k+id]? = some (some ob)∧nF n ob=true
 | [],_,_,_,_,hi=>by simp at hi
 | o::r,k,id,ob,hh,hi=>by
  cases id with
  | zero=>
   simp only [List.getElem?_cons_zero,Option.some.injEq] at hi;subst hi;exact hh.1
  | succ id=>
   have:=xy r (k+1) id ob hh.2 (by simpa using hi);rwa [show k+1+id=k+(id+1) by omega] at this
theorem V1.trunc {w:World} {M M':Nat→Nat→Prop} {h h':Hp} {p:Pl} (hM:∀ b j,¬M b j→¬M' b j) (hh:∀ (id:Nat) (ob:Ob),h'[id]? = some (some ob)→h[id]? = some (some ob)) :
  ∀ (n:Nat) (av:AV) (v:Value),V1 w M h p av v→bj h'.length n av=true→V1 w M' h' p av v
 | 0,_,_,_,hb=>by simp [bj] at hb
 | n+1,av,v,hv,hb=>by
  have ih:=V1.trunc (w:=w) (p:=p) hM hh n;cases hv with
  | base _ _ h0=>exact .base _ _ (h0.keep (Keeps.refl _ _) fun b j _ hn=>hM b j hn)
  | slw id k sz es _ hid h0 hs=>exact .slw id k sz es v (by simpa [bj] using hb) (h0.keep (Keeps.refl _ _) fun b j _ hn=>hM b j hn) fun e bm pe qs he=>hs e bm pe qs (hh id _ he)
  | agg cs us hl h1 hv=>
   simp only [bj] at hb;exact .agg cs us hl h1 fun i c u hc hu=>ih c u (hv i c u hc hu) (List.all_eq_true.1 hb c (List.mem_of_getElem? hc))
  | tup cs us hl hv=>
   simp only [bj] at hb;exact .tup cs us hl fun i c u hc hu=>ih c u (hv i c u hc hu) (List.all_eq_true.1 hb c (List.mem_of_getElem? hc))
  | fn f x y us vs hl bp hv bB=>
   simp only [bj,Bool.and_eq_true] at hb;exact .fn f x y us vs hl bp (fun i c u hc hu=>ih c u (hv i c u hc hu) (List.all_eq_true.1 hb.1 c (List.mem_of_getElem? hc))) (fun i c u hc hu=>ih c u (bB i c u hc hu) (List.all_eq_true.1 hb.2 c (List.mem_of_getElem? hc)))
  | iface t x u hv=>exact .iface t x u (ih x u hv (by simpa [bj] using hb))
  | ref id off hid=>exact .ref id off (by simpa [bj] using hb)
  | aref id sz i off hid=>exact .aref id sz i off (by simpa [bj] using hb)
  | osl id A m c hid hv lh=>exact .osl id A m c (by simpa [bj] using hb) (fun e sz nl es he=>hv e sz nl es (hh id _ he)) fun e sz nl pe qs he=>lh e sz nl pe qs (hh id _ he)
  | mp id hid=>exact .mp id (by simpa [bj] using hb)
theorem Ih {st:VS} {M:Nat→Nat→Prop} {h':Hp} {p:Pl} {tm:Nat→Value} (hs:∀ i,bj h'.length 5 (lkp st.s i)=true→V1 w M h' p (lkp st.s i) (tm i)) : ∀ (s':List (Nat×AV)),leS st.s h'.length s'→∀ i,V1 w M h' p (lkp s' i) (tm i)
 | [],_,_=>.base _ _ (.any _)
 | (d,v)::r,hl,i=>by
  simp only [lkp];split
  ·rename_i he;subst he;have h1:=hs d (by rw [hl.1];exact hl.2.1);rwa [hl.1] at h1
  ·exact Ih hs r hl.2.2 i
theorem Rel.le {aR:VS} (R:Rel M0 w0 N p st a w) (hle:Le st aR) : Rel M0 w0 N p aR a w:=by
 obtain ⟨h1,h2,h3⟩:=hle;have hh:∀ (id:Nat) (ob:Ob),aR.h[id]? = some (some ob)→st.h[id]? = some (some ob):=fun id ob hi=>by
  have:=(xy aR.h 0 id ob h3 hi).1;rwa [Nat.zero_add] at this
 have hM:∀ b j,¬Mof M0 st.h p b j→¬Mof M0 aR.h p b j:=fun b j hn hm=>hn (by
  rcases hm with hm|⟨id,ob,hi,hl,hp⟩
  ·exact .inl hm
  ·exact .inr ⟨id,ob,hh id ob hi,hl,hp⟩)
 refine ⟨R.defers,R.size,R.below,R.m0,R.x0,fun i=>Ih (fun j hj=>V1.trunc hM hh 5 _ _ (R.slots j) hj) aR.s h1 i,fun id ob hi=>?_,fun id fK ob ob' hi bF=>R.inj id fK ob ob' (hh _ _ hi) (hh _ _ bF)⟩;have ho:=R.objs id ob (hh id ob hi);have eH:=(xy aR.h 0 id ob h3 hi).2;cases ob with
 | mpo kf iv=>exact ho
 | bag e sz nl au qs=>exact ho.keep (fun _=>⟨rfl,rfl⟩) (fun _ _ _ _ _=>rfl) (Nat.le_refl _) (fun hx=>hx.keep (Keeps.refl _ _) fun b j _ hn=>hM b j hn) fun cs h=>by cases h
 | box cs=>
  obtain ⟨a1,cur,e,a2,a3,a4,a5⟩:=ho;exact ⟨a1,cur,e,a2,a3,a4,fun j c hj=>let ⟨u,hu,hv⟩:=a5 j c hj;⟨u,hu,V1.trunc hM hh 5 c u hv (List.all_eq_true.1 eH c (List.mem_of_getElem? hj))⟩⟩
 | arr e sz nl es=>
  obtain ⟨a1,a2,a3⟩:=ho;refine ⟨a1,a2,?_⟩;split at a3
  ·rename_i hn;rw [if_pos hn];exact a3
  ·rename_i hn;rw [if_neg hn];obtain ⟨b1,cur,b2,b3,b4⟩:=a3;exact ⟨b1,cur,b2,b3,fun k x j c hk hj=>let ⟨u,hu,hv⟩:=b4 k x j c hk hj;⟨u,hu,hv.keep (Keeps.refl _ _) fun b j _ hn=>hM b j hn⟩⟩
theorem zI {c:Code} {α:Type} (St:α→VS) (Inv:α→Prop) (μ:α→Nat) (x0:α) (hI:Inv x0) (h0:Le st (St x0))
  (round:∀ x,Inv x→∀ K:VS→Prop,(∀ aR y,Inv y→μ y < μ x→Le aR (St y)→K aR)→VWp P M0 w0 N c (kP K Q) (St x)) : VWp P M0 w0 N (.loop c) Q st:=fun hB p a w R=>by
 have fb:fJ N c=true:=by simpa [fJ] using hB
 refine wp_loop_ghost (fun n a w=>∃ x p,Inv x∧μ x=n∧Rel M0 w0 N p (St x) a w) (μ x0) ⟨x0,p,hI,rfl,R.le h0⟩ ?_;rintro n a w ⟨x,p,hx,rfl,R⟩;refine wp_mono (round x hx (fun aR=>∃ y,Inv y∧μ y < μ x∧Le aR (St y)) (fun aR y h1 h2 h3=>⟨y,h1,h2,h3⟩) fb p a w R) ?_;rintro e a' w' ⟨aR,p',R',hq⟩;cases e with
 | normal=>
  obtain ⟨y,hy,hm,hle⟩:=hq;exact ⟨μ y,hm,y,p',hy,rfl,R'.le hle⟩
 | _=>exact ⟨aR,p',R',hq⟩
theorem vle {c:Code} {aR:VS} (hle:Le st aR) (h:VWp P M0 w0 N c Q aR) : VWp P M0 w0 N c Q st:=fun hB p a w R=>h hB p a w (R.le hle)
def az:Nat→List AV→List (Nat×AV)
 | _,[]=>[]
 | k,v::r=>(k,v)::az (k+1) r
def ov (P:Program) (st:VS) : List ResultVar→Option (List AV)
 | []=>some []
 | .tmp t::rs=>match ov P st rs with|some vs=>some (qt st.h (lkp st.s t)::vs)|none=>none
 | .cell x t::rs=>match pU P st.h t (lkp st.s x),ov P st rs with|some v,some vs=>some (qt st.h v::vs)|_,_=>none
def ra:List AV→AV
 | [v]=>v
 | vs=>.tup vs
def Da (P:Program) (rs:List ResultVar) (r:AV) : Exit→VS→Prop
 | .ret,st=>(ov P st rs).map ra=some r
 | .normal,st=>(ov P st rs).map ra=some r
 | _,_=>False
theorem Rel.prep (R:Rel M0 w0 N p st a w) {v:AV} {u:Value} (hv:V1 w (Mof M0 st.h p) st.h p v u) : V0 w M0 (qt st.h v) u:=by
 unfold qt;split
 ·rename_i hp;exact (hv.pure 5 hp).keep (Keeps.refl _ _) fun b j _ hn hm=>hn (.inl hm)
 ·exact B2 R.objs R.h0 (fun _ _ hb=>.inl hb) 5 v u hv
theorem Db (R:Rel M0 w0 N p st a w) : ∀ (rs:List ResultVar) (vs:List AV),ov P st rs=some vs →
  ∃ us:List Value,(rs.mapM fun | .tmp t=>pure (a.tmps.getD t undef) | .cell x t=>do loadVar t (←asAddr (a.tmps.getD x undef)) : Sem (List Value)).run P w = .ok us w∧us.length=vs.length∧∀ (i:Nat) (c:AV) (u:Value),vs[i]? = some c→us[i]? = some u→V0 w M0 c u
 | [],vs,h=>by
  simp only [ov,Option.some.injEq] at h;subst h;exact ⟨[],by simp,rfl,by simp⟩
 | .tmp t::rs,vs,h=>by
  simp only [ov] at h;split at h
  ·rename_i vs' gA;simp only [Option.some.injEq] at h;subst h;obtain ⟨us,aG,hl,hv⟩:=Db R rs vs' gA;refine ⟨a.tmps.getD t undef::us,by simp only [List.mapM_cons,Sem.run_bind,Sem.run_pure,Result.andThen_ok,aG],by simp [hl],fun i c u hc hu=>?_⟩;cases i with
   | zero=>simp at hc hu;subst hc;subst hu;simpa using R.prep (R.slots t)
   | succ i=>exact hv i c u (by simpa using hc) (by simpa using hu)
  ·cases h
 | .cell x t::rs,vs,h=>by
  simp only [ov] at h;split at h
  ·rename_i v vs' bB gA;simp only [Option.some.injEq] at h;subst h;obtain ⟨us,aG,hl,hv⟩:=Db R rs vs' gA;obtain ⟨u,hu,km⟩:=Ap (P:=P) R.objs (R.slots x) bB;have rb:∃ ad,a.tmps.getD x undef = .pointer (some ad):=by
    unfold pU at bB;split at bB
    ·cases bB
    ·split at bB
     ·cases bB
     ·rename_i cs bV;obtain ⟨b,o,hq,_⟩:=Aq R.objs (R.slots x) bV;exact ⟨_,hq⟩
   obtain ⟨ad,uw⟩:=rb;rw [uw] at hu;simp only [Instr.loadAt,Instr.sureAddr,Sem.run_bind,Sem.run_pure,Result.andThen_ok] at hu;have e1:(asAddr (a.tmps.getD x undef)).run P w = .ok ad w:=by rw [uw];rfl
   refine ⟨u::us,by simp only [List.mapM_cons,Sem.run_bind,Sem.run_pure,Result.andThen_ok,e1,hu,aG],by simp [hl],fun i c y hc hy=>?_⟩;cases i with
   | zero=>simp at hc hy;subst hc;subst hy;exact R.prep km
   | succ i=>exact hv i c y (by simpa using hc) (by simpa using hy)
  ·cases h
theorem Ar:∀ (args:List AV) (k:Nat) (tm:Nat→Value) {M:Nat→Nat→Prop} {h:Hp} {p:Pl},(∀ (i:Nat) (c:AV),args[i]? = some c→V1 w M h p c (tm (k+i)))→∀ i,V1 w M h p (lkp (az k args) i) (tm i)
 | [],_,_,_,_,_,_,_=>.base _ _ (.any _)
 | c::r,k,tm,M,h,p,hv,i=>by
  simp only [az,lkp];split
  ·rename_i he;subst he;exact hv 0 c rfl
  ·refine Ar r (k+1) tm (fun j c hj=>?_) i;have:=hv (j+1) c (by simpa using hj);rwa [show k+(j+1)=k+1+j by omega] at this
def pl0:Pl:=⟨fun _=>0,fun _ _ _=>False⟩
def ud (w:World) : Bas:=⟨w,fun _ _=>False⟩
theorem MOK.none {w:World} {M:Nat→Nat→Prop} (h:MOK w M) : MOK w (fun _ _=>False):=⟨fun _ _ h=>h.elim,fun g vs hg=>⟨(h.2.1 g vs hg).1,fun _ h=>h,(h.2.1 g vs hg).2.2⟩,fun g hg=>⟨(h.2.2.1 g hg).1,fun _ h=>h⟩,h.2.2.2⟩
theorem Ii {fn:Func} {args:List AV} {M:Nat→Nat→Prop} {vs:List Value} (hn:Nat.ble args.length fn.ntmps=true) (hM:MOK w M) (hl:vs.length=args.length) (hv:∀ (i:Nat) (a:AV) (v:Value),args[i]? = some a→vs[i]? = some v→V0 w M a v) :
  Rel M (ud w) (n0 fn.ntmps) pl0 ⟨az 0 args,[]⟩ { tmps:=vs.toArray++Array.replicate (fn.ntmps - vs.toArray.size) undef,defers:=[] } w:=by
 refine ⟨rfl,⟨by have:=Nat.le_of_ble_eq_true hn;simp [n0];omega,fun i hi=>absurd hi (Nat.not_lt_zero i)⟩,Bel.start (ud w),hM,⟨hM.none,fun _ _ _ h=>h⟩,fun i=>?_,fun id ob hi=>by simp at hi,fun id _ _ _ hi=>by simp at hi⟩;refine Ar args 0 (fun i=>(vs.toArray++Array.replicate (fn.ntmps - vs.toArray.size) undef).getD i undef) (fun i c hc=>?_) i;have hi:i < vs.length:=by rw [hl];exact (List.getElem?_eq_some_iff.1 hc).1
 rw [Nat.zero_add];have pV:(vs.toArray++Array.replicate (fn.ntmps - vs.toArray.size) undef).getD i undef=vs[i]:=by
  rw [Array.getD_eq_getD_getElem?,Array.getElem?_append_left (by simpa using hi)];simp [hi]
 rw [pV];refine .base _ _ ((hv i c _ hc (List.getElem?_eq_getElem hi)).keep (Keeps.refl _ _) fun b j _ hn hm=>?_);rcases hm with hm|⟨id,ob,hi,_⟩
 ·exact hn hm
 ·simp at hi
theorem il {f:FuncId} {fn:Func} {c:Code} {args:List AV} {r:AV} (hf:P.funcs[f]? = some fn) (hb:fn.body=some c) (hg:ln P f=true) (hN:fJ (n0 fn.ntmps) c=true) (hn:Nat.ble args.length fn.ntmps=true)
  (h:∀ M0 w0,VWp P M0 w0 (n0 fn.ntmps) c (Da P fn.results.toList r) ⟨az 0 args,[]⟩) : VC P f args r:=by
 refine ⟨hg,fun w M vs hM hl hv=>?_⟩;refine calls_of_wp hf hb ?_;refine wp_mono (h M (ud w) hN pl0 _ w (Ii hn hM hl hv)) ?_;have key:∀ (aR:VS) (p':Pl) (a':Act) (w':World),Rel M (ud w) (n0 fn.ntmps) p' aR a' w'→(ov P aR fn.results.toList).map ra=some r→a'.defers=[]∧∃ v,(results fn a'.tmps).run P w' = .ok v w'∧∃ v',Ending.returned v = .returned v'∧Below w.heap.size w w'∧V0 w' M r v':=by
  intro aR p' a' w' R' hr;obtain ⟨vs',gA,bx⟩:=Option.map_eq_some_iff.1 hr;obtain ⟨us,aG,re,oF⟩:=Db (P:=P) R' _ _ gA;have mz:(fn.results.mapM fun | .tmp t=>pure (a'.tmps.getD t undef) | .cell x t=>do loadVar t (←asAddr (a'.tmps.getD x undef)) : Sem (Array Value)).run P w' = .ok us.toArray w':=by
   rw [←Array.toArray_toList (xs:=fn.results),List.mapM_toArray];simp only [Sem.run_map,aG,Result.andThen_ok]
  have gB:(results fn a'.tmps).run P w' = .ok (if h:us.toArray.size=1 then us.toArray[0] else .tuple us.toArray) w':=by
   unfold results;rw [Sem.run_bind];exact (congrArg (fun r=>Result.andThen r _) mz).trans rfl
  refine ⟨R'.defers,_,gB,_,rfl,R'.below.below (fun _ _ h=>h),?_⟩;subst bx;by_cases h1:us.length=1
  ·obtain ⟨u,rfl⟩ : ∃ u,us=[u]:=List.length_eq_one_iff.1 h1;obtain ⟨c,rfl⟩ : ∃ c,vs'=[c]:=List.length_eq_one_iff.1 (by rw [←re];rfl);exact oF 0 c u rfl rfl
  ·have h2:ra vs' = .tup vs':=by
    cases vs' with
    | nil=>rfl
    | cons x y=>cases y with
     | nil=>simp at re;omega
     | cons=>rfl
   rw [h2,dif_neg (by simpa using h1)];exact .tup _ _ re oF
 rintro e a' w' ⟨aR,p',R',hq⟩;cases e with
 | normal=>exact key aR p' a' w' R' hq
 | ret=>exact key aR p' a' w' R' hq
 | _=>exact hq.elim
def O_ (t:Nat) (e sz:Nat) (nl:Bool) (es:List (List AV)) : Exit→VS→Prop
 | .ret,st=>∃ id,lkp st.s t = .osl id∧st.h[id]? = some (some (.arr e sz nl es))
 | .normal,st=>∃ id,lkp st.s t = .osl id∧st.h[id]? = some (some (.arr e sz nl es))
 | _,_=>False
theorem Eu {f:FuncId} {fn:Func} {c:Code} {args:List AV} {t e sz:Nat} {nl:Bool} {es:List (List AV)} (hf:P.funcs[f]? = some fn) (hb:fn.body=some c) (hg:ln P f=true) (hN:fJ (n0 fn.ntmps) c=true) (hn:Nat.ble args.length fn.ntmps=true) (hr:fn.results=#[.tmp t])
  (aM:0 < sz) (dp:∀ (k:Nat) (x:List AV),es[k]? = some x→x.length=sz∧∀ c∈x,cY c=true) (h:∀ M0 w0,VWp P M0 w0 (n0 fn.ntmps) c (O_ t e sz nl es) ⟨az 0 args,[]⟩) : VCo P f args e sz nl es:=by
 refine ⟨hg,aM,dp,fun w M vs hM hl hv=>?_⟩;refine calls_of_wp hf hb (wp_mono (h M (ud w) hN pl0 _ w (Ii hn hM hl hv)) ?_);have key:∀ (aR:VS) (p':Pl) (a':Act) (w':World),Rel M (ud w) (n0 fn.ntmps) p' aR a' w'→(∃ id,lkp aR.s t = .osl id∧aR.h[id]? = some (some (.arr e sz nl es))) →
   a'.defers=[]∧∃ v,(results fn a'.tmps).run P w' = .ok v w'∧∃ v',Ending.returned v = .returned v'∧Below w.heap.size w w'∧OwnRow w w' M e sz nl es v':=by
  intro aR p' a' w' R ⟨id,hs,hi⟩;have ma:=R.slots t;rw [hs] at ma;obtain ⟨A,n,c,hq,hid,bs⟩:=ma.osl_inv;have ho:=bs _ _ _ _ hi;have j8:=R.objs id _ hi;have gB:(results fn a'.tmps).run P w' = .ok (a'.tmps.getD t undef) w':=by
   unfold results;rw [hr];simp
  refine ⟨R.defers,_,gB,_,rfl,R.below.below (fun _ _ h=>h),?_⟩;unfold Osl at ho;unfold OwnRow;obtain ⟨_,_,ba⟩:=j8;cases nl
  ·simp only [Bool.false_eq_true,if_false] at ho ba ⊢;obtain ⟨cap,cur,h1,h2,h3,h4,h5⟩:=ho;obtain ⟨dn,cur',h6,_,h7⟩:=ba;obtain rfl:cur'=cur:=by rw [h6] at h2;injection h2 with h2;injection h2
   refine ⟨p' id,cap,cur',h1,(dn.1 0).resolve_right (fun h=>h),h6,h3,h4,h5,fun k x j c hk hj=>?_⟩;obtain ⟨u,hu,hv⟩:=h7 k x j c hk hj;refine ⟨u,hu,hv.keep (Keeps.refl _ _) fun b j _ hn hm=>?_⟩;rcases hm with hm|hm
   ·exact hn (.inl hm)
   ·exact hn (.inr ⟨id,_,hi,rfl,.inl hm.symm⟩)
  ·simp only [if_true] at ho ba ⊢;exact ⟨ho.1,ba⟩
 rintro en a' w' ⟨aR,p',R',hq⟩;cases en with
 | normal=>exact key aR p' a' w' R' hq
 | ret=>exact key aR p' a' w' R' hq
 | _=>exact hq.elim
theorem N6 {f:FuncId} {args:List AV} {e sz:Nat} {nl:Bool} {es:List (List AV)} (h:VCo P f args e sz nl es) : VC P f args (.sl sz es):=by
 obtain ⟨hg,aM,dp,hc⟩:=h;refine ⟨hg,fun w M vs hM hl hv=>(hc w M vs hM hl hv).mono ?_⟩;rintro en w' ⟨v,rfl,hb,ho⟩;refine ⟨v,rfl,hb,?_⟩;unfold OwnRow at ho;cases nl
 ·simp only [Bool.false_eq_true,if_false] at ho;obtain ⟨g,cap,cur,rfl,dn,hh,bV,hle,_,iw⟩:=ho;by_cases aC:es=[]
  ·subst aC;exact .slNil _ _ _
  ·have Pb:∀ j,¬M g j:=fun j hm=>by have:=hM.1 g j hm;omega
   refine .sl sz es cap g 0 (fun k j=>cur.getD (k*sz+j) undef) aC (Array.getElem?_eq_some_iff.1 hh).1 (fun _ _ _ _=>Pb _) hle (fun k x hk=>(dp k x hk).1) (fun k x j c hk hj=>(dp k x hk).2 c (List.mem_of_getElem? hj)) (fun k j hk hj=>?_) fun k x j c hk hj=>?_
   ·rw [cell_of_row w' g _ cur e (0,0) hh,Nat.zero_add];have:(k+1)*sz≤cap*sz:=Nat.mul_le_mul_right _ (by omega);rw [Nat.add_mul] at this;have:k*sz+j < cur.size:=by omega
    simp [this]
   ·obtain ⟨u,hu,cD⟩:=iw k x j c hk hj;have:cur.getD (k*sz+j) undef=u:=by simp [hu]
    simp only [this];exact cD.keep (Keeps.refl _ _) fun b j _ hn hm=>hn (.inl hm)
 ·simp only [if_true] at ho;obtain ⟨⟨A0,rfl⟩,rfl⟩:=ho;exact .slNil _ _ _
end
section
variable (P:Program)
def Dc (o:Oper) (st:VS) (K:VS→Prop) : Prop:=∃ r,fN P st.h (ev st) o.op r∧K (st.put o.dst r)
def sF (ops:List Oper) (o:Oper) (st:VS) (K:VS→Prop) : Prop:=
 match o.guard with
 | none=>Dc P o st K
 | some (j,want)=>match df ops st j with
  | .lit (.bool b)=>if b=want then Dc P o st K else K (st.put o.dst (.lit undef))
  | .lit (.tuple _)=>K (st.put o.dst (.lit undef))
  | _=>False
def l8 (ops:List Oper) : List Oper→VS→(VS→Prop)→Prop
 | [],st,K=>K st
 | o::l,st,K=>sF P ops o st fun aR=>l8 ops l aR K
def kO (ops:List Oper) (o:Oper) (st:VS) (r:AV) : Prop:=
 match o.guard with
 | none=>fN P st.h (ev st) o.op r
 | some (j,want)=>match df ops st j with
  | .lit (.bool b)=>if b=want then fN P st.h (ev st) o.op r else r = .lit undef
  | .lit (.tuple _)=>r = .lit undef
  | _=>False
end
def a_:VS→List Oper→List AV→VS
 | st,o::l,r::rs=>a_ (st.put o.dst r) l rs
 | st,_,_=>st
section
variable {P:Program} {M0:Nat→Nat→Prop} {w0:Bas} {N:Nm} {p:Pl} {st:VS} {a:Act} {w:World} {Q:Exit→VS→Prop}
theorem Ij {ops:List Oper} {o:Oper} {K:VS→Prop} (h:sF P ops o st K) : ∃ r,kO P ops o st r∧K (st.put o.dst r):=by
 obtain ⟨dst,op,ty,pos,after,guard⟩:=o;cases guard with
 | none=>exact h
 | some g=>
  obtain ⟨j,want⟩:=g;simp only [sF] at h;simp only [kO];split at h
  ·split at h
   ·rename_i b hb hw;obtain ⟨r,h1,h2⟩:=h;exact ⟨r,by simp only [hw,if_true];exact h1,h2⟩
   ·rename_i b hb hw;exact ⟨_,by simp only [hw,if_false],h⟩
  ·rename_i vs hb;exact ⟨_,by simp only [],h⟩
  ·exact h.elim
theorem s5 {ops:List Oper} {K:VS→Prop} : ∀ (l:List Oper) (st:VS),l8 P ops l st K→∃ rs:List AV,rs.length=l.length∧K (a_ st l rs)∧∀ (i:Nat) (o:Oper) (r:AV),l[i]? = some o→rs[i]? = some r→kO P ops o (a_ st (l.take i) (rs.take i)) r
 | [],st,h=>⟨[],rfl,h,by simp⟩
 | o::l,st,h=>by
  obtain ⟨r,h1,h2⟩:=Ij h;obtain ⟨rs,hl,hK,hs⟩:=s5 l _ h2;refine ⟨r::rs,by simp [hl],hK,fun i o' r' ho hr=>?_⟩;cases i with
  | zero=>simp at ho hr;subst ho;subst hr;exact h1
  | succ i=>exact hs i o' r' (by simpa using ho) (by simpa using hr)
theorem gY:∀ (l:List Oper) (rs:List AV) (st:VS),(a_ st l rs).h=st.h
 | [],rs,st=>by simp [a_]
 | o::l,[],st=>by simp [a_]
 | o::l,r::rs,st=>by
  rw [a_,gY l rs];cases o.dst<;>rfl
theorem jJ (st:VS) (d:Option Tmp) (r:AV) (t:Nat) : lkp (st.put d r).s t=if d=some t then r else lkp st.s t:=by
 cases d with
 | none=>simp [VS.put]
 | some d=>simp [VS.put,lkp]
theorem oL:∀ (l:List Oper) (rs:List AV) (st:VS) (t:Nat),(∀ o∈l,o.dst≠some t)→lkp (a_ st l rs).s t=lkp st.s t
 | [],rs,st,t,_=>by simp [a_]
 | o::l,[],st,t,_=>by simp [a_]
 | o::l,r::rs,st,t,h=>by
  rw [a_,oL l rs _ t fun o ho=>h o (List.mem_cons_of_mem _ ho),jJ,if_neg (h o (List.mem_cons_self ..))]
theorem p5:∀ (l:List Oper) (rs:List AV) (st:VS) (t j:Nat) (o:Oper) (r:AV),d_ l=true→l[j]? = some o→rs[j]? = some r→o.dst=some t→lkp (a_ st l rs).s t=r
 | [],_,_,_,_,_,_,_,h,_,_=>by simp at h
 | o::l,[],_,_,_,_,_,_,_,h,_=>by simp at h
 | q::l,s::rs,st,t,j,o,r,hd,ho,hr,ht=>by
  obtain ⟨h1,h2⟩:=uj hd;cases j with
  | zero=>
   simp at ho hr;subst ho;subst hr;rw [a_,oL l rs _ t fun o ho=>h1 o ho t ht,jJ,if_pos ht]
  | succ j=>exact p5 l rs _ t j o r h2 (by simpa using ho) (by simpa using hr) ht
theorem sG {vs:Nat→Value} : ∀ (l:List Oper) (k:Nat) (a:Act) (t:Nat),(∀ o∈l,o.dst≠some t)→(∀ o∈l,∀ d,o.dst=some d→d < a.tmps.size)→(fill (fun _=>true) vs l k a).tmps.getD t undef=a.tmps.getD t undef
 | [],_,_,_,_,_=>rfl
 | o::l,k,a,t,h,hb=>by
  rw [fill,if_pos rfl];have aM:(a.put o.dst (vs k)).tmps.size=a.tmps.size:=by cases o.dst<;>simp [Act.put]
  rw [sG l (k+1) _ t (fun o ho=>h o (List.mem_cons_of_mem _ ho)) (fun o ho d hd=>by rw [aM];exact hb o (List.mem_cons_of_mem _ ho) d hd)];cases ho:o.dst with
  | none=>rfl
  | some d=>
   rw [mI a d _ t (hb o (List.mem_cons_self ..) d ho),if_neg];intro kT;exact h o (List.mem_cons_self ..) (by rw [ho,kT])
theorem Dd {vs:Nat→Value} : ∀ (l:List Oper) (k:Nat) (a:Act) (t j:Nat) (o:Oper),d_ l=true→(∀ o∈l,∀ d,o.dst=some d→d < a.tmps.size)→l[j]? = some o→o.dst=some t→(fill (fun _=>true) vs l k a).tmps.getD t undef=vs (k+j)
 | [],_,_,_,_,_,_,_,h,_=>by simp at h
 | q::l,k,a,t,j,o,hd,hb,ho,ht=>by
  obtain ⟨h1,h2⟩:=uj hd;rw [fill,if_pos rfl];have aM:(a.put q.dst (vs k)).tmps.size=a.tmps.size:=by cases q.dst<;>simp [Act.put]
  cases j with
  | zero=>
   simp at ho;subst ho;rw [sG l (k+1) _ t (fun o ho=>h1 o ho t ht) (fun o ho d hd=>by rw [aM];exact hb o (List.mem_cons_of_mem _ ho) d hd),ht,mI a t _ t (hb q (List.mem_cons_self ..) t ht),if_pos rfl,Nat.add_zero]
  | succ j=>
   rw [Dd l (k+1) _ t j o h2 (fun o ho d hd=>by rw [aM];exact hb o (List.mem_cons_of_mem _ ho) d hd) (by simpa using ho) ht];congr 1;omega
theorem zJ {vs:Nat→Value} {g:Nat→Bool} : ∀ (l:List Oper) (k:Nat) (a:Act),(fill g vs l k a).tmps.size=a.tmps.size∧(fill g vs l k a).defers=a.defers
 | [],_,_=>⟨rfl,rfl⟩
 | o::l,k,a=>by
  rw [fill];obtain ⟨h1,h2⟩:=zJ (vs:=vs) (g:=g) l (k+1) (if g k=true then a.put o.dst (vs k) else a);rw [h1,h2];split
  ·cases o.dst<;>simp [Act.put]
  ·exact ⟨rfl,rfl⟩
theorem De {M:Nat→Nat→Prop} {h:Hp} {hd:List Oper} {rs:List AV} {vs:Nat→Value} {i t:Nat} {w':World} (iD:d_ hd=true) (fZ:rs.length=hd.length) (hb:∀ o∈hd,∀ d,o.dst=some d→d < a.tmps.size)
  (ma:V1 w' M h p (lkp st.s t) (a.tmps.getD t undef)) (_hi:i≤hd.length) (hw:∀ (j:Nat) (o:Oper),hd[j]? = some o→o.dst=some t→j < i∧V1 w' M h p (rs.getD j .any) (vs j)) :
  V1 w' M h p (lkp (a_ st (hd.take i) (rs.take i)).s t) ((fill (fun _=>true) vs hd 0 a).tmps.getD t undef):=by
 by_cases hex:∃ (j:Nat) (o:Oper),hd[j]? = some o∧o.dst=some t
 ·obtain ⟨j,o,hj,ho⟩:=hex;obtain ⟨aw,hv⟩:=hw j o hj ho;have bK:=(List.getElem?_eq_some_iff.1 hj).1;have kT:d_ (hd.take i)=true:=by
   clear hw ma hb hj _hi hv aw fZ bK;induction hd generalizing i with
   | nil=>simp [d_]
   | cons x l ih=>
    cases i with
    | zero=>rfl
    | succ i=>
     simp only [d_,Bool.and_eq_true] at iD;simp only [List.take_succ_cons,d_,Bool.and_eq_true];refine ⟨?_,ih iD.2⟩;have h1:=iD.1;cases eB:x.dst with
     | none=>rfl
     | some d=>
      simp only [eB] at h1;exact List.all_eq_true.2 fun q hq=>List.all_eq_true.1 h1 q (List.mem_of_mem_take hq)
  rw [Dd hd 0 a t j o iD hb hj ho,Nat.zero_add,p5 (hd.take i) (rs.take i) st t j o (rs.getD j .any) kT (by rw [List.getElem?_take_of_lt aw];exact hj) (by rw [List.getElem?_take_of_lt aw];simp [List.getD,show j < rs.length by omega]) ho];exact hv
 ·have bw:∀ o∈hd,o.dst≠some t:=fun o ho he=>by
   obtain ⟨j,hj⟩:=List.mem_iff_getElem?.1 ho;exact hex ⟨j,o,hj,he⟩
  rw [sG hd 0 a t bw hb,oL _ _ _ _ fun o ho=>bw o (List.mem_of_mem_take ho)];exact ma
theorem AI {l:List Oper} {n:Nat} {rs:List AV} (R:Rel M0 w0 N p st a w) (hn:n≤l.length) (hd:d_ (l.take n)=true) (hN:l.all (dz N)=true)
  (bz:∀ i,i < n→∀ o,l[i]? = some o→∀ t∈o.looksAt l.toArray,∀ j,j < n→∀ q,l[j]? = some q→q.dst=some t→Region.waitsFor .any l.toArray i j=true)
  (aw:∀ i j,i < n→Region.waitsFor .any l.toArray i j=true→j < i) (fZ:rs.length=n)
  (cC:∀ (i:Nat) (o:Oper) (r:AV),(l.take n)[i]? = some o→rs[i]? = some r→kO P l o (a_ st ((l.take n).take i) (rs.take i)) r) (i:Nat) (hi:i < n) :
  pQ P l.toArray w a n (fun i v w'=>V1 w' (Mof M0 st.h p) st.h p (rs.getD i .any) v) i:=by
 intro o ho vs w' eh hS;have bA:l[i]? = some o:=by simpa using ho
 have aV:(l.take n)[i]? = some o:=by rw [List.getElem?_take_of_lt hi];exact bA
 have R':=R.later eh;have gN:∀ q∈l.take n,∀ d,q.dst=some d→d < a.tmps.size:=fun q hq d fu=>R.size.lt (fL (List.all_eq_true.1 hN q (List.mem_of_mem_take hq)) d fu);have hlen:(l.take n).length=n:=by simp;omega
 have cS:∀ t∈o.looksAt l.toArray,V1 w' (Mof M0 st.h p) st.h p (lkp (a_ st ((l.take n).take i) (rs.take i)).s t) ((fill (fun _=>true) vs (l.take n) 0 a).tmps.getD t undef):=fun t ht=>
  De hd (by rw [fZ,hlen]) gN (R'.slots t) (by rw [hlen];omega) fun j q hj hq=>by
   have fX:j < n:=by have:=(List.getElem?_eq_some_iff.1 hj).1;omega
   have eK:l[j]? = some q:=by rw [List.getElem?_take_of_lt fX] at hj;exact hj
   have hw:=bz i hi o bA t ht j fX q eK hq;exact ⟨aw i j hi hw,hS j fX hw⟩
 have hr:rs[i]? = some (rs.getD i .any):=by simp [List.getD,show i < rs.length by omega]
 have aD:=cC i o _ aV hr;simp only [];have cE:fN P st.h (ev (a_ st ((l.take n).take i) (rs.take i))) o.op (rs.getD i .any)→gives P o (fill (fun _=>true) vs (l.take n) 0 a) w' fun v w''=>V1 w'' (Mof M0 st.h p) st.h p (rs.getD i .any) v∧Below w'.heap.size w' w'':=by
  intro hg;refine rv R'.objs R'.mok R'.h0 R'.glob (fun _ _ hb=>.inl hb) (fun x hx=>?_) hg;cases x with
  | tmp t=>exact cS t (List.mem_append_left _ (List.mem_filterMap.2 ⟨.tmp t,by simpa using hx,rfl⟩))
  | const v=>exact .base _ _ (.lit v)
  | global g=>exact .base _ _ (R'.evalG g)
  | func f=>exact .base _ _ (.lit _)
 unfold kO at aD;split at aD
 ·rename_i hg;simp only [Region.wanted,hg,if_true];rw [gY] at aD;exact cE aD
 ·rename_i j want hg;simp only [Region.wanted,hg];have hy:(∀ b,df l (a_ st ((l.take n).take i) (rs.take i)) j = .lit (.bool b)→yielded l.toArray (fill (fun _=>true) vs (l.take n) 0 a).tmps j=some b)∧(∀ us,df l (a_ st ((l.take n).take i) (rs.take i)) j = .lit (.tuple us)→yielded l.toArray (fill (fun _=>true) vs (l.take n) 0 a).tmps j=none):=by
   unfold df yielded;cases hj:l[j]? with
   | none=>simp [hj,undef]
   | some q=>
    cases hq:q.dst with
    | none=>simp [hj,hq,undef]
    | some d=>
     have eV:d∈o.looksAt l.toArray:=by
      unfold Oper.looksAt;refine List.mem_append_right _ ?_;simp [hg,hj,hq]
     have hs:=cS d eV;have kG:d < (fill (fun _=>true) vs (l.take n) 0 a).tmps.size:=by
      rw [(zJ _ _ _).1];exact R.size.lt (fL (List.all_eq_true.1 hN q (List.mem_of_getElem? hj)) d hq)
     have dH:(fill (fun _=>true) vs (l.take n) 0 a).tmps.getD d undef=(fill (fun _=>true) vs (l.take n) 0 a).tmps[d]:=by simp [kG]
     rw [dH] at hs;simp only [List.getElem?_toArray,hj,Option.bind_some,hq];refine ⟨fun b hb=>?_,fun us hb=>?_⟩
     ·rw [hb] at hs;have:=hs.lit_inv;simp [kG,this]
     ·rw [hb] at hs;have:=hs.lit_inv;simp [kG,this]
  split at aD
  ·rename_i b hb;rw [hy.1 b hb];split at aD
   ·rename_i hw;subst hw;rw [if_pos (by simp)];rw [gY] at aD;exact cE aD
   ·rename_i hw;rw [if_neg (by simpa using hw),aD];exact .base _ _ (.lit _)
  ·rename_i us hb;rw [hy.2 us hb,if_neg (by simp),aD];exact .base _ _ (.lit _)
  ·exact aD.elim
theorem xE {l:List Oper} {rs:List AV} {vs:Nat→Value} {w':World} (R:Rel M0 w0 N p st a w) (hd:d_ l=true) (hN:l.all (dz N)=true) (fZ:rs.length=l.length) (hb:Below w.heap.size w w')
  (hv:∀ i,i < l.length→V1 w' (Mof M0 st.h p) st.h p (rs.getD i .any) (vs i)) : Rel M0 w0 N p (a_ st l rs) (fill (fun _=>true) vs l 0 a) w':=by
 have R':=R.later hb;have gN:∀ q∈l,∀ d,q.dst=some d→d < a.tmps.size:=fun q hq d fu=>R.size.lt (fL (List.all_eq_true.1 hN q hq) d fu);obtain ⟨lg,wC⟩:=zJ (vs:=vs) (g:=fun _=>true) l 0 a;have hh:=gY l rs st;refine ⟨by rw [wC];exact R.defers,⟨by rw [lg];exact R.size.size,fun i hi=>(sG l 0 a i (fun o ho he=>absurd (fL (List.all_eq_true.1 hN o ho) i he).1 (by omega)) gN).trans (R.size.fix i hi)⟩,R'.below,R.m0,R.x0,fun t=>?_,?_,?_⟩
 ·rw [hh];have:=De (i:=l.length) (vs:=vs) hd fZ gN (R'.slots t) (Nat.le_refl _) fun j o hj ho=>⟨(List.getElem?_eq_some_iff.1 hj).1,hv j (List.getElem?_eq_some_iff.1 hj).1⟩
  rwa [List.take_length,List.take_of_length_le (by omega)] at this
 ·rw [hh];exact R'.objs
 ·rw [hh];exact R.inj
def zK (l:List Oper) (n:Nat) : Bool:=if n=l.length then Region.allB l.toArray else Region.specB l.toArray n
theorem mH {id:Nat} {l:List Oper} (n:Nat) (ow:List Nat) (hm:P.follows .mixedOrders=true) (hB:zK l n=true) (h:l8 P l (l.take n) st fun aR=>eA P ow l (l.drop n) aR (Q .normal)) :
  VWp P M0 w0 N (.region id l.toArray true) Q st:=fun hC p a w R=>by
 have hN:l.all (dz N)=true:=by simpa [fJ] using hC
 obtain ⟨rs,fB,hK,cC⟩:=s5 _ _ h;unfold zK at hB;split at hB
 ·rename_i hn;subst hn;rw [List.take_length] at fB hK cC;rw [List.drop_length] at hK;have fb:=hB;simp only [Region.allB,Bool.and_eq_true] at hB;obtain ⟨⟨kl,hd⟩,bz⟩:=hB;have eB:d_ l=true:=by simpa using hd
  have cS:∀ i,i < l.length→∀ o,l[i]? = some o→(∀ t∈o.looksAt l.toArray,∀ j,j < l.length→∀ q,l[j]? = some q→q.dst=some t→Region.waitsFor .any l.toArray i j=true)∧(∀ e∈o.after,Region.binds .any e=true→e.on < i):=by
   intro i hi o ho;have h:=List.all_eq_true.1 bz i (List.mem_range.2 (by simpa using hi));simp only [List.getElem?_toArray,ho,Bool.and_eq_true] at h;refine ⟨fun t ht j hj q hq aS=>?_,fun e he hb=>?_⟩
   ·have h1:=List.all_eq_true.1 (List.all_eq_true.1 h.1 t ht) j (List.mem_range.2 (by simpa using hj));simp only [hq,Option.bind_some,aS,bne_self_eq_false,Bool.false_or] at h1;exact h1
   ·have h1:=Array.all_eq_true'.1 h.2 e he;simp only [hb,Bool.not_true,Bool.false_or,decide_eq_true_eq] at h1;exact h1
  have aw:∀ i j,i < l.length→Region.waitsFor .any l.toArray i j=true→j < i:=by
   intro i j hi hw;obtain ⟨o,ho,e,he,hb,cX⟩:=Region.waitsFor_spec hw;rw [←cX];exact (cS i hi o (by simpa using ho)).2 e he hb
  refine LM (S:=fun i v w'=>V1 w' (Mof M0 st.h p) st.h p (rs.getD i .any) v) hm fb (fun i _ v w1 w2 hv hb=>hv.later hb) (fun i hi=>?_) fun vs w' hb hv=>?_
  ·exact AI R (Nat.le_refl _) (by rw [List.take_length];exact eB) hN (fun i hi o ho t ht j hj q hq aS=>(cS i hi o ho).1 t ht j hj q hq aS) aw fB (by rw [List.take_length];exact cC) i hi
  ·exact ⟨_,p,xE R eB hN fB hb hv,hK⟩
 ·rename_i hn;have fb:=hB;simp only [Region.specB,Bool.and_eq_true,decide_eq_true_eq] at hB;obtain ⟨⟨⟨⟨⟨⟨kl,bg⟩,hs⟩,hc⟩,hd⟩,bz⟩,mr⟩:=hB;have iS:n < l.length:=by simpa using bg
  have eB:d_ (l.take n)=true:=by simpa using hd
  have hlen:(l.take n).length=n:=by simp;omega
  have cS:∀ i,i < n→∀ o,l[i]? = some o→(∀ t∈o.looksAt l.toArray,∀ j,j < n→∀ q,l[j]? = some q→q.dst=some t→Region.waitsFor .any l.toArray i j=true)∧(∀ e∈o.after,Region.binds .any e=true→e.on < i):=by
   intro i hi o ho;have h:=List.all_eq_true.1 bz i (List.mem_range.2 hi);simp only [List.getElem?_toArray,ho,Bool.and_eq_true] at h;refine ⟨fun t ht j hj q hq aS=>?_,fun e he hb=>?_⟩
   ·have h1:=List.all_eq_true.1 (List.all_eq_true.1 h.1 t ht) j (List.mem_range.2 hj);simp only [hq,Option.bind_some,aS,bne_self_eq_false,Bool.false_or] at h1;exact h1
   ·have h1:=Array.all_eq_true'.1 h.2 e he;simp only [hb,Bool.not_true,Bool.false_or,decide_eq_true_eq] at h1;exact h1
  have aw:∀ i j,i < n→Region.waitsFor .any l.toArray i j=true→j < i:=by
   intro i j hi hw;obtain ⟨o,ho,e,he,hb,cX⟩:=Region.waitsFor_spec hw;rw [←cX];exact (cS i hi o (by simpa using ho)).2 e he hb
  refine Ag n (fun i v w'=>V1 w' (Mof M0 st.h p) st.h p (rs.getD i .any) v) hm fb (fun i _ v w1 w2 hv hb=>hv.later hb) (fun i hi=>?_) fun vs w' hb hv=>?_
  ·exact AI R (Nat.le_of_lt iS) eB hN (fun i hi o ho t ht j hj q hq aS=>(cS i hi o ho).1 t ht j hj q hq aS) aw (by rw [fB,hlen]) cC i hi
  ·have s6:(l.take n).all (dz N)=true:=List.all_eq_true.2 fun q hq=>List.all_eq_true.1 hN q (List.mem_of_mem_take hq);have lu:(l.drop n).all (dz N)=true:=List.all_eq_true.2 fun q hq=>List.all_eq_true.1 hN q (List.mem_of_mem_drop hq);exact rD (ow:=ow) hN (fun p st a w R h=>⟨st,p,R,h⟩) (l.drop n) p _ _ w' lu (xE R eB s6 fB hb (by rw [hlen];exact hv)) hK
end
def Df (pid:Option Nat) (s:List (Nat×AV)) : List (Nat×AV):=match pid with|some id=>s.map (fun q=>(q.1,purge id q.2))|none=>s
def Ik (d:Option Tmp) (av:AV) (pid:Option Nat) (s:List (Nat×AV)) : List (Nat×AV):=match d with|some d=>(d,av)::Df pid s|none=>Df pid s
abbrev Pc (d:Option Tmp) (av:AV) (pid:Option Nat) (s:List (Nat×AV)) (H:Hp) : VS:=⟨Ik d av pid s,H⟩
def Il (d:Option Tmp) (av:AV) (pid:Option Nat) (cs:List (Nat×AV)) : List (Nat×AV):=match d with|some d=>(d,av)::(match pid with|some _=>[]|none=>cs)|none=>cs
def Pd (Pe rh:VS) : Prop:=∀ (M0:Nat→Nat→Prop) (w0:Bas) (N:Nm) (p:Pl) (a:Act) (w:World),Rel M0 w0 N p Pe a w→Rel M0 w0 N p rh a w
def Im (fz:Bool) (av:AV) : AV:=if fz=true then av else .any
def Io (fz:Bool) (d:Option Tmp) (av:AV) (pid:Option Nat) (cs:List (Nat×AV)) : List (Nat×AV):=if fz=true then (match pid with|some _=>[]|none=>cs) else Il d av pid cs
section
variable (P:Program)
def Pf (ow:List Nat) (o:Oper) (cs:List (Nat×AV)) (T:VS) (X X':Hp) (pid:Option Nat) (av:AV) : Prop:=
 o.guard=none∧(o.dst=none→pid=none)∧(∀ id,pid=some id→T.h.length≤id) ∧
  ∀ s2,(∀ t,Operand.tmp t∈o.op.operands→lkp (cs++T.s) t≠.any→lkp s2 t=lkp (cs++T.s) t)→VDo P ow o ⟨s2,T.h++X⟩ fun aR=>Pd aR (Pc o.dst av pid s2 (T.h++X'))
end
section
variable {P:Program} {M0:Nat→Nat→Prop} {w0:Bas} {N:Nm} {p:Pl} {st:VS} {a:Act} {w:World} {Q:Exit→VS→Prop}
theorem Ip (st:VS) (d:Option Tmp) (r:AV) : (st.put d r).h=st.h:=by cases d<;>rfl
structure ChainSteps (P:Program) (ow:List Nat) (ops:List Oper) (dZ:Nat→Bool) (l:List Oper) (i0:Nat) (T:VS) (rs:List AV) (Xs:Nat→Hp) (pw:Nat→List (Nat×AV)) : Prop where
 len:rs.length=l.length
 plain:∀ (i:Nat) (o:Oper) (r:AV),dZ (i0+i)=false→l[i]? = some o→rs[i]? = some r→kO P ops o (a_ T (l.take i) (rs.take i)) r∧(∀ d,o.dst=some d→bj T.h.length 5 r=true)∧Xs (i+1)=Xs i∧pw (i+1)=pw i
 chain:∀ (i:Nat) (o:Oper),dZ (i0+i)=true→l[i]? = some o→∃ pid av fz,rs[i]? = some (Im fz av)∧Pf P ow o (pw i) (a_ T (l.take i) (rs.take i)) (Xs i) (Xs (i+1)) pid av∧(fz=true→bj T.h.length 5 av=true)∧pw (i+1)=Io fz o.dst av pid (pw i)
theorem Pg (st:VS) (d:Nat) (r:AV) : lkp (st.put (some d) r).s d=r:=by simp [VS.put,lkp]
theorem tg {n id:Nat} (hn:n≤id) : ∀ (k:Nat) (v:AV),bj n k v=true→cu id k v=true
 | 0,v,h=>by simp [bj] at h
 | k+1,v,h=>by
  have ih:=tg hn k;cases v with
  | agg cs=>simp only [bj,cu,List.all_eq_true] at h ⊢;exact fun c hc=>ih c (h c hc)
  | tup cs=>simp only [bj,cu,List.all_eq_true] at h ⊢;exact fun c hc=>ih c (h c hc)
  | fn f x y=>simp only [bj,cu,Bool.and_eq_true,List.all_eq_true] at h ⊢;exact ⟨fun c hc=>ih c (h.1 c hc),fun c hc=>ih c (h.2 c hc)⟩
  | iface t x=>simp only [bj,cu] at h ⊢;exact ih x h
  | ref i o=>simp only [bj,cu,decide_eq_true_eq,bne_iff_ne,ne_eq] at h ⊢;omega
  | aref i a b c=>simp only [bj,cu,decide_eq_true_eq,bne_iff_ne,ne_eq] at h ⊢;omega
  | osl i=>simp only [bj,cu,decide_eq_true_eq,bne_iff_ne,ne_eq] at h ⊢;omega
  | mp i=>simp only [bj,cu,decide_eq_true_eq,bne_iff_ne,ne_eq] at h ⊢;omega
  | slw i _ _ _=>simp only [bj,cu,decide_eq_true_eq,bne_iff_ne,ne_eq] at h ⊢;omega
  | _=>rfl
theorem zL (id:Nat) : ∀ (s:List (Nat×AV)) (i:Nat),lkp (s.map fun q=>(q.1,purge id q.2)) i=purge id (lkp s i)
 | [],i=>by simp [lkp,purge,cu]
 | q::s,i=>by
  simp only [List.map_cons,lkp];split
  ·rfl
  ·exact zL id s i
theorem A_:∀ (x y:List (Nat×AV)) (t:Nat),lkp (x++y) t=lkp x t∨lkp (x++y) t=lkp y t
 | [],_,_=>.inr rfl
 | q::x,y,t=>by
  simp only [List.cons_append,lkp];split
  ·exact .inl rfl
  ·exact A_ x y t
theorem Rel.weak {s':List (Nat×AV)} (R:Rel M0 w0 N p st a w) (h:∀ t,lkp s' t=lkp st.s t∨lkp s' t = .any) : Rel M0 w0 N p ⟨s',st.h⟩ a w:=
 ⟨R.defers,R.size,R.below,R.m0,R.x0,fun t=>by
  rcases h t with h|h
  ·show V1 _ _ _ _ (lkp s' t) _;rw [h];exact R.slots t
  ·show V1 _ _ _ _ (lkp s' t) _;rw [h];exact .base _ _ (.any _),R.objs,R.inj⟩
def sOK (n:Nat) : List (Nat×AV)→Prop
 | []=>True
 | q::r=>bj n 5 q.2=true∧sOK n r
def hOK (n:Nat) : Hp→Prop
 | []=>True
 | none::r=>hOK n r
 | some ob::r=>nF n ob=true∧hOK n r
theorem uR {n:Nat} : ∀ {s:List (Nat×AV)},sOK n s→∀ t,bj n 5 (lkp s t)=true
 | [],_,_=>rfl
 | q::s,h,t=>by
  simp only [lkp];split
  ·exact h.1
  ·exact uR h.2 t
theorem uS {n:Nat} : ∀ {h:Hp},hOK n h→∀ (id:Nat) (ob:Ob),h[id]? = some (some ob)→nF n ob=true
 | [],_,_,_,hi=>by simp at hi
 | none::r,h,id,ob,hi=>by
  cases id with
  | zero=>simp at hi
  | succ id=>exact uS (h:=r) h id ob (by simpa using hi)
 | some x::r,h,id,ob,hi=>by
  cases id with
  | zero=>simp at hi;subst hi;exact h.1
  | succ id=>exact uS (h:=r) h.2 id ob (by simpa using hi)
theorem V1.short {M:Nat→Nat→Prop} {h X:Hp} {av:AV} {v:Value} (hv:V1 w M (h++X) p av v) (hi:bj h.length 5 av=true) : V1 w M h p av v:=
 V1.trunc (fun _ _ hb=>hb) (fun id ob hh=>by rw [List.getElem?_append_left (List.getElem?_eq_some_iff.1 hh).1];exact hh) 5 _ _ hv hi
theorem V1.long {M:Nat→Nat→Prop} {h X:Hp} {av:AV} {v:Value} (hv:V1 w M h p av v) : V1 w M (h++X) p av v:=
 V1.keep (Keeps.refl _ _) (fun _ _ _ hb=>hb) (by simp) (fun _ _=>rfl) (fun id e sz nl es v hid hh ho=>ho e sz nl es (by rw [List.getElem?_append_left hid] at hh;exact hh)) (fun id e sz nl pe qs v hid hh ho=>ho e sz nl pe qs (by rw [List.getElem?_append_left hid] at hh;exact hh))
  (fun id k sz v hid hs=>hs.keep (fun e sz pe qs he=>⟨by rw [List.getElem?_append_left hid] at he;exact he,rfl,rfl,fun _ _ _ _=>rfl⟩) (Nat.le_refl _)) hv
theorem Rel.short_objs {h X:Hp} {s:List (Nat×AV)} (R:Rel M0 w0 N p ⟨s,h++X⟩ a w) (hh:hOK h.length h) (id:Nat) (ob:Ob) (hi:h[id]? = some (some ob)) : ObOK w0 w (Mof M0 (h++X) p) h p id ob:=by
 have ho:=R.objs id ob (by show (h++X)[id]? = _;rw [List.getElem?_append_left (List.getElem?_eq_some_iff.1 hi).1];exact hi);have eH:=uS hh id ob hi;cases ob with
 | mpo kf iv=>exact ho
 | box cs=>
  obtain ⟨a1,cur,e,a2,a3,a4,a5⟩:=ho;exact ⟨a1,cur,e,a2,a3,a4,fun j c hj=>let ⟨u,hu,hv⟩:=a5 j c hj;⟨u,hu,V1.short hv (List.all_eq_true.1 eH c (List.mem_of_getElem? hj))⟩⟩
 | arr e sz nl es=>exact ho
 | bag e sz nl au qs=>exact ho
theorem pY:∀ (l:List Oper) (i:Nat),d_ l=true→d_ (l.take i)=true
 | [],i,_=>by simp [d_]
 | x::l,0,_=>rfl
 | x::l,i+1,h=>by
  simp only [d_,Bool.and_eq_true] at h;simp only [List.take_succ_cons,d_,Bool.and_eq_true];refine ⟨?_,pY l i h.2⟩;have h1:=h.1;cases eB:x.dst with
  | none=>rfl
  | some d=>
   simp only [eB] at h1;exact List.all_eq_true.2 fun q hq=>List.all_eq_true.1 h1 q (List.mem_of_mem_take hq)
theorem p6:∀ {l:List Oper} {i j:Nat} {o q:Oper} {d:Nat},d_ l=true→l[i]? = some o→l[j]? = some q→o.dst=some d→q.dst=some d→i=j
 | [],i,_,_,_,_,_,hi,_,_,_=>by simp at hi
 | x::l,i,j,o,q,d,h,hi,hj,ho,hq=>by
  obtain ⟨h1,h2⟩:=uj h;cases i with
  | zero=>
   simp at hi;subst hi;cases j with
   | zero=>rfl
   | succ j=>exact absurd hq (h1 q (List.mem_of_getElem? (by simpa using hj)) d ho)
  | succ i=>
   cases j with
   | zero=>
    simp at hj;subst hj;exact absurd ho (h1 o (List.mem_of_getElem? (by simpa using hi)) d hq)
   | succ j=>exact congrArg (· + 1) (p6 h2 (by simpa using hi) (by simpa using hj) ho hq)
theorem ChainSteps.same {ow:List Nat} {ops l:List Oper} {dZ:Nat→Bool} {T:VS} {rs:List AV} {Xs:Nat→Hp} {pw:Nat→List (Nat×AV)} (S:ChainSteps P ow ops dZ l 0 T rs Xs pw) {k:Nat} : ∀ (m:Nat),k+m≤l.length→(∀ c,k≤c→c < k+m→dZ c=false)→Xs (k+m)=Xs k∧pw (k+m)=pw k
 | 0,_,_=>⟨rfl,rfl⟩
 | m+1,hk,h=>by
  have ih:=S.same (k:=k) m (by omega) fun c h1 h2=>h c h1 (by omega);have ho:l[k+m]? = some (l[k+m]'(by omega)):=List.getElem?_eq_getElem _;have hr:rs[k+m]? = some (rs[k+m]'(by rw [S.len];omega)):=List.getElem?_eq_getElem _;have:=(S.plain (k+m) _ _ (by rw [Nat.zero_add];exact h (k+m) (by omega) (by omega)) ho hr).2.2;exact ⟨this.1.trans ih.1,this.2.trans ih.2⟩
def chainB (l:List Oper) (n:Nat) (dZ:Nat→Bool) : Bool:=(List.range n).all fun c=>!dZ c || (List.range c).all fun d=>!dZ d || Region.waitsFor .any l.toArray c d
end
section
variable {P:Program} {ow:List Nat} {ops l:List Oper} {o:Oper} {st:VS} {K:VS→Prop}
theorem aa (h:K st) : eA P ow ops [] st K:=h
theorem ab (h:∀ Y:VS→Prop,(∀ st,eA P ow ops l st K→Y st)→VOp P ow ops o st Y) : eA P ow ops (o::l) st K:=h _ fun _ h=>h
theorem aI (h:K st) : l8 P ops [] st K:=h
theorem aJ (h:∀ Y:VS→Prop,(∀ st,l8 P ops l st K→Y st)→sF P ops o st Y) : l8 P ops (o::l) st K:=h _ fun _ h=>h
theorem cj {x:Int} (h1 : -9223372036854775808≤x) (h2:x≤9223372036854775807) : IntKind.i64.wrap x=x:=IntWalk.i64_in _ (by omega)
end
attribute [go_sem] BI BR dsl yN yM vD yU jv uH nI Value.oneCell' B4 exists_eq_left' VOp VDo sF Dc df lI o7 yZ ev VS.put lkp fN yV yW pU rN fp yB isK vt mW vr yA BH unA yD yF yG vw yH yI tx jV yQ n7 yP qp nZ cY yR BU BW BX eP qt jw mZ tB eW jr lH cu purge yY vC oZ ky kP pv Da ov ra az ri bj nF leS leO leH Le
abbrev I (n:Int) : AV:=.lit (.int .i64 n)
abbrev B (b:Bool) : AV:=.lit (.bool b)
abbrev S (b:ByteArray) : AV:=.lit (.string b)
attribute [go_sem] Ik Df Il Io Im sOK hOK
section
variable {P:Program} {ow:List Nat} {ops:List Oper} {dZ:Nat→Bool} {o:Oper} {l:List Oper} {i:Nat} {T:VS} {cs:List (Nat×AV)} {X:Hp} {K:VS→Prop}
def Dg (n:Nat) (d:Option Tmp) (s:List (Nat×AV)) : Bool:=match d with|some d=>bj n 5 (lkp s d)|none=>true
attribute [go_sem] Dg
end
section
variable {P:Program} {M0:Nat→Nat→Prop} {w0:Bas} {N:Nm} {p:Pl} {st:VS} {a:Act} {w:World} {Q:Exit→VS→Prop}
theorem ue {h:Hp} {id i:Nat} {ob:Ob} (hi:(h.set id none)[i]? = some (some ob)) : i≠id∧h[i]? = some (some ob):=by
 by_cases aC:i=id
 ·subst aC;by_cases hl:i < h.length
  ·rw [List.getElem?_set_self hl] at hi;simp at hi
  ·rw [List.getElem?_eq_none (by simp;omega)] at hi;simp at hi
 ·rw [List.getElem?_set_ne (fun h=>aC h.symm)] at hi;exact ⟨aC,hi⟩
theorem Mof.drop {h:Hp} {p:Pl} {id b j:Nat} (hb:¬Mof M0 h p b j) : ¬Mof M0 (h.set id none) p b j:=fun fM=>by
 rcases fM with h|⟨i,ob,hi,hl,hp⟩
 ·exact hb (.inl h)
 ·exact hb (.inr ⟨i,ob,(ue hi).2,hl,hp⟩)
theorem Rel.reheap (R:Rel M0 w0 N p st a w) (h':Hp) (hl:st.h.length≤h'.length) (e8:∀ (i:Nat) (ob:Ob),h'[i]? = some (some ob)→cH ob=true→∃ ob',st.h[i]? = some (some ob')∧cH ob'=true)
  (sk:∀ (i e sz:Nat) (nl:Bool) (es:List (List AV)),i < st.h.length→h'[i]? = some (some (.arr e sz nl es))→st.h[i]? = some (some (.arr e sz nl es)))
  (fq:∀ (i e sz:Nat) (nl:Bool) (pe:Option Nat) (qs:List (List (List AV))),i < st.h.length→h'[i]? = some (some (.bag e sz nl pe qs))→st.h[i]? = some (some (.bag e sz nl pe qs)))
  (Dh:∀ (i:Nat) (ob:Ob),h'[i]? = some (some ob)→st.h[i]?≠some (some ob)→(∀ {av:AV} {v:Value},V1 w (Mof M0 st.h p) st.h p av v→V1 w (Mof M0 h' p) h' p av v)→ObOK w0 w (Mof M0 h' p) h' p i ob) :
  Rel M0 w0 N p ⟨st.s,h'⟩ a w∧∀ {av:AV} {v:Value},V1 w (Mof M0 st.h p) st.h p av v→V1 w (Mof M0 h' p) h' p av v:=by
 have hM:∀ b j,¬Mof M0 st.h p b j→¬Mof M0 h' p b j:=fun b j hb fM=>by
  rcases fM with h|⟨i,ob,hi,nJ,hp⟩
  ·exact hb (.inl h)
  ·obtain ⟨ob',h1,h2⟩:=e8 i ob hi nJ;exact hb (.inr ⟨i,ob',h1,h2,hp⟩)
 have keep:∀ {av:AV} {v:Value},V1 w (Mof M0 st.h p) st.h p av v→V1 w (Mof M0 h' p) h' p av v:=fun hv=>
  hv.keep (Keeps.refl _ _) (fun b j _ h=>hM b j h) hl (fun _ _=>rfl) (fun i e sz nl es v cK he hv=>hv _ _ _ _ (sk _ _ _ _ _ cK he)) (fun i e sz nl pe qs v cK he hv=>hv _ _ _ _ _ (fq _ _ _ _ _ _ cK he)) (fun i k sz v cK hs=>hs.keep (fun e sz pe qs he=>⟨fq _ _ _ _ _ _ cK he,rfl,rfl,fun _ _ _ _=>rfl⟩) (Nat.le_refl _))
 refine ⟨⟨R.defers,R.size,R.below,R.m0,R.x0,fun i=>keep (R.slots i),fun i ob hi=>?_,fun i i' ob ob' hi bF nJ Di b j j' hO cO=>?_⟩,keep⟩
 ·by_cases hs:st.h[i]? = some (some ob)
  ·exact (R.objs i ob hs).keep (fun _=>⟨rfl,rfl⟩) (fun _ _ _ _ _=>rfl) (Nat.le_refl _) (fun hx=>hx.keep (Keeps.refl _ _) fun b j _=>hM b j) fun _ _ _ _ _ hx=>keep hx
  ·exact Dh i ob hi hs keep
 ·obtain ⟨o1,h1,l1⟩:=e8 i ob hi nJ;obtain ⟨o2,h2,l2⟩:=e8 i' ob' bF Di;exact R.inj i i' o1 o2 h1 h2 l1 l2 b j j' hO cO
theorem Rel.drop (R:Rel M0 w0 N p st a w) (id:Nat) : Rel M0 w0 N p ⟨st.s,st.h.set id none⟩ a w:=
 (R.reheap (st.h.set id none) (by simp) (fun i ob hi hl=>⟨ob,(ue hi).2,hl⟩) (fun i e sz nl es _ hi=>(ue hi).2) (fun i e sz nl pe qs _ hi=>(ue hi).2) fun i ob hi aC _=>absurd (ue hi).2 aC).1
theorem Rel.freeze (R:Rel M0 w0 N p st a w) {id t e sz:Nat} {nl:Bool} {es:List (List AV)} (ht:lkp st.s t = .osl id) (hi:st.h[id]? = some (some (.arr e sz nl es))) :
  Rel M0 w0 N p ⟨(t,.sl sz es)::st.s,st.h.set id none⟩ a w:=by
 have D:=R.drop id;refine ⟨D.defers,D.size,D.below,D.m0,D.x0,fun i=>?_,D.objs,D.inj⟩;by_cases hit:t=i
 ·subst hit;simp only [lkp,if_true];have hv:=R.slots t;rw [ht] at hv;obtain ⟨A,n,c,hu,hid,ho⟩:=hv.osl_inv;have hO:=ho _ _ _ _ hi;obtain ⟨o1,o2,o3⟩:=R.objs id _ hi;refine .base _ _ ?_;generalize a.tmps.getD t undef=v at hu hO;by_cases bg:nl=true
  ·rw [if_pos bg] at o3;unfold Osl at hO;rw [if_pos bg] at hO;obtain ⟨⟨A,hO⟩,_⟩:=hO;rw [hO,o3];exact .slNil _ _ _
  ·rw [if_neg bg] at o3;unfold Osl at hO;rw [if_neg bg] at hO;obtain ⟨cap,cur,e1,e2,e3,e4,e5⟩:=hO;obtain ⟨q1,cur',q2,q3,q4⟩:=o3;have ei:cur'=cur:=by
    rw [q2] at e2;injection e2 with e2
    injection e2 with e2
   subst ei;rw [e1];by_cases dp:es=[]
   ·subst dp;exact .slNil _ _ _
   ·have hb:p id < w.heap.size:=(Array.getElem?_eq_some_iff.1 e2).1;have nJ:cH (.arr e sz nl es)=true:=by
     cases nl
     ·rfl
     ·exact absurd rfl bg
    have Ph:∀ j,¬Mof M0 (st.h.set id none) p (p id) j:=by
     rintro j (h|⟨i,ob,eb,hl,hp⟩)
     ·exact R.h0 _ _ h (q1.1 j)
     ·obtain ⟨aC,FB⟩:=ue eb;exact aC (R.inj i id ob _ FB hi hl nJ _ _ 0 hp (.inl rfl))
    have hM:∀ b j,¬Mof M0 st.h p b j→¬Mof M0 (st.h.set id none) p b j:=fun b j=>Mof.drop;have aE:∀ j,w.cell? ⟨p id,j,none⟩=cur'[j]?:=fun j=>by simp [World.cell?,e2]
    have hlen:∀ (k:Nat) (x:List AV),es[k]? = some x→x.length=sz:=fun k x hk=>(o2 k x hk).1;refine .sl sz es cap (p id) 0 (fun k j=>(cur'[k*sz+j]?).getD undef) dp hb (fun _ _ _ _=>Ph _) e4 hlen (fun k x j c hk hj=>(o2 k x hk).2 c (List.mem_of_getElem? hj)) (fun k j hk hj=>?_) fun k x j c hk hj=>?_
    ·rw [Nat.zero_add,aE];have hx:es[k]? = some es[k]:=List.getElem?_eq_getElem hk;have bK:j < es[k].length:=by rw [hlen k _ hx];exact hj
     obtain ⟨u,hu,_⟩:=q4 k _ j _ hx (List.getElem?_eq_getElem bK);rw [hu];rfl
    ·obtain ⟨u,hu,hv⟩:=q4 k x j c hk hj;rw [hu];exact hv.keep (Keeps.refl _ _) (fun b j _ h=>hM b j h)
 ·simp only [lkp,if_neg hit];exact D.slots i
end
theorem VC.weak {P:Program} {f:FuncId} {args:List AV} {r r':AV} (h:VC P f args r) (hr:∀ (w:World) (M:Nat→Nat→Prop) (v:Value),V0 w M r v→V0 w M r' v) : VC P f args r':=
 ⟨h.1,fun w M vs hM hl hv=>(h.2 w M vs hM hl hv).mono fun _ _ ⟨v,he,hb,h0⟩=>⟨v,he,hb,hr _ _ _ h0⟩⟩
theorem V0.nilSl {w:World} {M:Nat→Nat→Prop} {v:Value} (h:V0 w M (.lit (.slice none 0 0)) v) (sz:Nat) : V0 w M (.sl sz []) v:=by
 cases h with
 | lit=>exact .slNil _ _ _
def zM:AV→Bool
 | .lit (.bool b)=>b
 | _=>false
attribute [go_sem] zM
def IsB (b want:Bool) : Prop:=b=want
def IsG (x y:AV) : Prop:=x=y
theorem IsB.out {b want:Bool} (h:IsB b want) : b=want:=h
section
variable {P:Program} {M0:Nat→Nat→Prop} {w0:Bas} {N:Nm} {st:VS} {Q:Exit→VS→Prop}
theorem Dj {c:Operand} {x y:Code} (hc:ev st c = .lit (.bool (zM (ev st c)))) (h1:IsB (zM (ev st c)) true→VWp P M0 w0 N x Q st) (h2:IsB (zM (ev st c)) false→VWp P M0 w0 N y Q st) : VWp P M0 w0 N (.cond c x y) Q st:=C_ hc h1 h2
theorem zN {ow:List Nat} {ops:List Oper} {o:Oper} {l:List Oper} {K:VS→Prop} {j:Nat} {want:Bool} (C:Prop) [Decidable C] (hg:o.guard=some (j,want)) (hc:C→df ops st j = .lit (.bool want)) (hn:¬C→df ops st j = .lit (.bool (!want))∨df ops st j = .lit undef) (ht:lI P ow st o=none∧mE P st o=none∧nI ow o=none)
  {r:AV} (h:C→fN P st.h (ev st) o.op r) (hK:∀ Y:VS→Prop,(∀ st,eA P ow ops l st K→Y st)→Y (st.put o.dst (if C then r else .lit undef))) : eA P ow ops (o::l) st K:=by
 refine ab fun Y Z=>?_;have hk:=hK Y Z;unfold VOp;rw [hg];simp only;by_cases hC:C
 ·rw [hc hC];simp only [if_true];rw [if_pos hC] at hk;unfold VDo;rw [ht.1,ht.2.1,ht.2.2];exact ⟨r,h hC,hk⟩
 ·rw [if_neg hC] at hk;rcases hn hC with e|e
  ·rw [e];simp only;rw [if_neg (by cases want<;>simp)];exact hk
  ·rw [e];exact hk
theorem qQ {ow:List Nat} {ops:List Oper} {o:Oper} {l:List Oper} {K:VS→Prop} {j:Nat} {want:Bool}  {b:Bool} {r:AV} (hg:o.guard=some (j,want)) (hb:IsG (df ops st j) ((.lit (.bool b)))) (ht:lI P ow st o=none∧mE P st o=none∧nI ow o=none)
  (h:IsB b want→fN P st.h (ev st) o.op r) (hK:∀ Y:VS→Prop,(∀ st,eA P ow ops l st K→Y st)→Y (st.put o.dst (dr b want r))) : eA P ow ops (o::l) st K:=by
 refine zN (r:=r) (b=want) hg (fun hC=>?_) (fun hC=>?_) ht (fun hC=>?_) fun Y Z=>?_
 ·rw [show df ops st j=_ from hb,hC]
 ·rw [show df ops st j=_ from hb];revert hC
  cases b<;>cases want<;>simp
 ·exact h hC
 ·exact hK Y Z
theorem Iq {ow:List Nat} {ops:List Oper} {o:Oper} {l:List Oper} {K:VS→Prop} {j:Nat} {want:Bool} {c0 w0:Bool} {b:Bool} {r:AV} (hg:o.guard=some (j,want)) (hb:IsG (df ops st j) ((dr c0 w0 (.lit (.bool b))))) (ht:lI P ow st o=none∧mE P st o=none∧nI ow o=none)
  (h:IsB c0 w0→IsB b want→fN P st.h (ev st) o.op r) (hK:∀ Y:VS→Prop,(∀ st,eA P ow ops l st K→Y st)→Y (st.put o.dst (dr c0 w0 (dr b want r)))) : eA P ow ops (o::l) st K:=by
 refine zN (r:=r) (c0=w0∧b=want) hg (fun hC=>?_) (fun hC=>?_) ht (fun hC=>?_) fun Y Z=>?_
 ·rw [show df ops st j=_ from hb];simp only [dr,hC,if_true]
 ·rw [show df ops st j=_ from hb];simp only [dr];revert hC
  cases c0<;>cases w0<;>cases b<;>cases want<;>simp
 ·exact h hC.1 hC.2
 ·have hk:=hK Y Z;have e:(dr c0 w0 (dr b want r))=if c0=w0∧b=want then r else .lit undef:=by
   simp only [dr];cases c0<;>cases w0<;>cases b<;>cases want<;>simp
  rw [e] at hk;exact hk
theorem Ir {ow:List Nat} {ops:List Oper} {o:Oper} {l:List Oper} {K:VS→Prop} {j:Nat} {want:Bool} {c0 w0:Bool} {c1 w1:Bool} {b:Bool} {r:AV} (hg:o.guard=some (j,want)) (hb:IsG (df ops st j) ((dr c0 w0 (dr c1 w1 (.lit (.bool b)))))) (ht:lI P ow st o=none∧mE P st o=none∧nI ow o=none)
  (h:IsB c0 w0→IsB c1 w1→IsB b want→fN P st.h (ev st) o.op r) (hK:∀ Y:VS→Prop,(∀ st,eA P ow ops l st K→Y st)→Y (st.put o.dst (dr c0 w0 (dr c1 w1 (dr b want r))))) : eA P ow ops (o::l) st K:=by
 refine zN (r:=r) (c0=w0∧c1=w1∧b=want) hg (fun hC=>?_) (fun hC=>?_) ht (fun hC=>?_) fun Y Z=>?_
 ·rw [show df ops st j=_ from hb];simp only [dr,hC,if_true]
 ·rw [show df ops st j=_ from hb];simp only [dr];revert hC
  cases c0<;>cases w0<;>cases c1<;>cases w1<;>cases b<;>cases want<;>simp
 ·exact h hC.1 hC.2.1 hC.2.2
 ·have hk:=hK Y Z;have e:(dr c0 w0 (dr c1 w1 (dr b want r)))=if c0=w0∧c1=w1∧b=want then r else .lit undef:=by
   simp only [dr];cases c0<;>cases w0<;>cases c1<;>cases w1<;>cases b<;>cases want<;>simp
  rw [e] at hk;exact hk
theorem Is {ow:List Nat} {ops:List Oper} {o:Oper} {l:List Oper} {K:VS→Prop} {j:Nat} {want:Bool} {c0 w0:Bool} {c1 w1:Bool} {c2 w2:Bool} {b:Bool} {r:AV} (hg:o.guard=some (j,want)) (hb:IsG (df ops st j) ((dr c0 w0 (dr c1 w1 (dr c2 w2 (.lit (.bool b))))))) (ht:lI P ow st o=none∧mE P st o=none∧nI ow o=none)
  (h:IsB c0 w0→IsB c1 w1→IsB c2 w2→IsB b want→fN P st.h (ev st) o.op r) (hK:∀ Y:VS→Prop,(∀ st,eA P ow ops l st K→Y st)→Y (st.put o.dst (dr c0 w0 (dr c1 w1 (dr c2 w2 (dr b want r)))))) : eA P ow ops (o::l) st K:=by
 refine zN (r:=r) (c0=w0∧c1=w1∧c2=w2∧b=want) hg (fun hC=>?_) (fun hC=>?_) ht (fun hC=>?_) fun Y Z=>?_
 ·rw [show df ops st j=_ from hb];simp only [dr,hC,if_true]
 ·rw [show df ops st j=_ from hb];simp only [dr];revert hC
  cases c0<;>cases w0<;>cases c1<;>cases w1<;>cases c2<;>cases w2<;>cases b<;>cases want<;>simp
 ·exact h hC.1 hC.2.1 hC.2.2.1 hC.2.2.2
 ·have hk:=hK Y Z;have e:(dr c0 w0 (dr c1 w1 (dr c2 w2 (dr b want r))))=if c0=w0∧c1=w1∧c2=w2∧b=want then r else .lit undef:=by
   simp only [dr];cases c0<;>cases w0<;>cases c1<;>cases w1<;>cases c2<;>cases w2<;>cases b<;>cases want<;>simp
  rw [e] at hk;exact hk
end
@[go_sem] theorem ti3:aU Tryz.prog 3=some ⟨5,1,8,0,1,0,.i64,[],[.int .i64 0]⟩:=by kernel_rfl
@[go_sem] theorem ti4:aU Tryz.prog 4=some ⟨6,1,1,0,1,0,.i64,[],[.bool false]⟩:=by kernel_rfl
@[go_sem] theorem ti5:aU Tryz.prog 5=some ⟨5,1,1,0,1,0,.u8,[],[.int .u8 0]⟩:=by kernel_rfl
@[go_sem] theorem ti9:aU Tryz.prog 9=some ⟨4,1,16,0,1,0,.i64,[],[.string ⟨#[]⟩]⟩:=by kernel_rfl
@[go_sem] theorem Sm:aU Tryz.prog 20=some ⟨9,1,16,0,1,0,.i64,[],[.nilIface]⟩:=by kernel_rfl
@[go_sem] theorem Sn:aU Tryz.prog 22=some ⟨1,1,24,61,4,0,.i64,[],[.slice none 0 0]⟩:=by kernel_rfl
@[go_sem] theorem So:aU Tryz.prog 24=some ⟨3,3,40,0,1,0,.i64,[(0,1,false),(1,1,false),(2,1,false)],[.slice none 0 0,.int .i64 0,.int .i64 0]⟩:=by kernel_rfl
@[go_sem] theorem Sq:aU Tryz.prog 25=some ⟨1,1,24,58,4,0,.i64,[],[.slice none 0 0]⟩:=by kernel_rfl
@[go_sem] theorem Sr:aU Tryz.prog 29=some ⟨1,1,24,62,1,0,.i64,[],[.slice none 0 0]⟩:=by kernel_rfl
@[go_sem] theorem Ss:aU Tryz.prog 30=some ⟨1,1,24,148,3,0,.i64,[],[.slice none 0 0]⟩:=by kernel_rfl
@[go_sem] theorem Pj:aU Tryz.prog 32=some ⟨3,3,56,0,1,0,.i64,[(0,1,false),(1,1,false),(2,1,false)],[.slice none 0 0,.slice none 0 0,.int .i64 0]⟩:=by kernel_rfl
@[go_sem] theorem Su:aU Tryz.prog 33=some ⟨5,1,8,0,1,0,.i64,[],[.int .i64 0]⟩:=by kernel_rfl
@[go_sem] theorem Sv:aU Tryz.prog 40=some ⟨1,1,24,45,3,0,.i64,[],[.slice none 0 0]⟩:=by kernel_rfl
@[go_sem] theorem Sw:aU Tryz.prog 45=some ⟨3,3,32,0,1,0,.i64,[(0,1,false),(1,1,false),(2,1,false)],[.int .i64 0,.int .i64 0,.string ⟨#[]⟩]⟩:=by kernel_rfl
@[go_sem] theorem Sz:aU Tryz.prog 46=some ⟨2,3,24,3,1,3,.i64,[],[.int .i64 0,.int .i64 0,.int .i64 0]⟩:=by kernel_rfl
@[go_sem] theorem SA:aU Tryz.prog 58=some ⟨3,4,40,0,1,0,.i64,[(0,1,false),(1,1,false),(2,1,false),(3,1,false)],[.int .i64 0,.int .i64 0,.int .i64 0,.string ⟨#[]⟩]⟩:=by kernel_rfl
@[go_sem] theorem SB:aU Tryz.prog 61=some ⟨3,4,40,0,1,0,.i64,[(0,1,false),(1,1,false),(2,1,false),(3,1,false)],[.string ⟨#[]⟩,.int .i64 0,.int .i64 0,.bool false]⟩:=by kernel_rfl
@[go_sem] theorem uL:aU Tryz.prog 62=some ⟨1,1,24,9,1,0,.i64,[],[.slice none 0 0]⟩:=by kernel_rfl
@[go_sem] theorem SC:aU Tryz.prog 63=some ⟨1,1,24,67,3,0,.i64,[],[.slice none 0 0]⟩:=by kernel_rfl
@[go_sem] theorem SD:aU Tryz.prog 67=some ⟨3,3,32,0,1,0,.i64,[(0,1,false),(1,1,false),(2,1,false)],[.string ⟨#[]⟩,.int .i64 0,.int .i64 0]⟩:=by kernel_rfl
@[go_sem] theorem SE:aU Tryz.prog 76=some ⟨1,1,24,167,4,0,.i64,[],[.slice none 0 0]⟩:=by kernel_rfl
@[go_sem] theorem SF:aU Tryz.prog 89=some ⟨8,1,8,0,1,0,.i64,[],[.nilFunc]⟩:=by kernel_rfl
@[go_sem] theorem SG:aU Tryz.prog 100=some ⟨3,2,16,0,1,0,.i64,[(0,1,false),(1,1,false)],[.int .i64 0,.int .i64 0]⟩:=by kernel_rfl
@[go_sem] theorem SH:aU Tryz.prog 124=some ⟨3,2,24,0,1,0,.i64,[(0,1,false),(1,1,false)],[.int .i64 0,.string ⟨#[]⟩]⟩:=by kernel_rfl
@[go_sem] theorem SI:aU Tryz.prog 128=some ⟨3,2,16,0,1,0,.i64,[(0,1,false),(1,1,false)],[.int .i64 0,.int .i64 0]⟩:=by kernel_rfl
@[go_sem] theorem SJ:aU Tryz.prog 141=some ⟨7,1,8,146,7,0,.i64,[],[.pointer none]⟩:=by kernel_rfl
@[go_sem] theorem SK:aU Tryz.prog 144=some ⟨8,1,8,0,1,0,.i64,[],[.nilFunc]⟩:=by kernel_rfl
@[go_sem] theorem SL:aU Tryz.prog 146=some ⟨3,7,120,0,1,0,.i64,[(0,3,true),(3,3,true),(6,1,false)],[.slice none 0 0,.slice none 0 0,.int .i64 0,.slice none 0 0,.int .i64 0,.int .i64 0,.slice none 0 0]⟩:=by kernel_rfl
@[go_sem] theorem EX:aU Tryz.prog 148=some ⟨3,3,32,0,1,0,.i64,[(0,1,false),(1,1,false),(2,1,false)],[.string ⟨#[]⟩,.int .i64 0,.int .i64 0]⟩:=by kernel_rfl
@[go_sem] theorem SM:aU Tryz.prog 150=some ⟨1,1,24,3,1,0,.i64,[],[.slice none 0 0]⟩:=by kernel_rfl
@[go_sem] theorem SN:aU Tryz.prog 155=some ⟨7,1,8,160,4,0,.i64,[],[.pointer none]⟩:=by kernel_rfl
@[go_sem] theorem SO:aU Tryz.prog 158=some ⟨10,1,8,0,1,0,.i64,[],[.map none]⟩:=by kernel_rfl
@[go_sem] theorem SQ:aU Tryz.prog 160=some ⟨3,4,64,0,1,0,.i64,[(0,1,false),(1,1,false),(2,1,false),(3,1,false)],[.slice none 0 0,.map none,.slice none 0 0,.map none]⟩:=by kernel_rfl
@[go_sem] theorem SR:aU Tryz.prog 162=some ⟨8,1,8,0,1,0,.i64,[],[.nilFunc]⟩:=by kernel_rfl
@[go_sem] theorem SS:aU Tryz.prog 167=some ⟨3,4,40,0,1,0,.i64,[(0,1,false),(1,1,false),(2,1,false),(3,1,false)],[.string ⟨#[]⟩,.int .i64 0,.int .i64 0,.int .i64 0]⟩:=by kernel_rfl
@[go_sem] theorem SU:aU Tryz.prog 169=some ⟨8,1,8,0,1,0,.i64,[],[.nilFunc]⟩:=by kernel_rfl
@[go_sem] theorem SV:aU Tryz.prog 171=some ⟨3,2,24,0,1,0,.i64,[(0,1,false),(1,1,false)],[.string ⟨#[]⟩,.nilFunc]⟩:=by kernel_rfl
@[go_sem] theorem NA:aU Tryz.prog 172=some ⟨2,12,144,171,2,6,.i64,[],[.string ⟨#[]⟩,.nilFunc,.string ⟨#[]⟩,.nilFunc,.string ⟨#[]⟩,.nilFunc,.string ⟨#[]⟩,.nilFunc,.string ⟨#[]⟩,.nilFunc,.string ⟨#[]⟩,.nilFunc]⟩:=by kernel_rfl
@[go_sem] theorem SW:aU Tryz.prog 177=some ⟨1,1,24,171,2,0,.i64,[],[.slice none 0 0]⟩:=by kernel_rfl
@[go_sem] theorem SX:aU Tryz.prog 178=some ⟨8,1,8,0,1,0,.i64,[],[.nilFunc]⟩:=by kernel_rfl
@[go_sem] theorem SY:aU Tryz.prog 184=some ⟨10,1,8,0,1,0,.i64,[],[.map none]⟩:=by kernel_rfl
@[go_sem] theorem SZ:aU Tryz.prog 185=some ⟨8,1,8,0,1,0,.i64,[],[.nilFunc]⟩:=by kernel_rfl
@[go_sem] theorem S6:aU Tryz.prog 208=some ⟨8,1,8,0,1,0,.i64,[],[.nilFunc]⟩:=by kernel_rfl
@[go_sem] theorem S7:aU Tryz.prog 210=some ⟨1,1,24,33,1,0,.i64,[],[.slice none 0 0]⟩:=by kernel_rfl
@[go_sem] theorem S8:aU Tryz.prog 211=some ⟨1,1,24,5,1,0,.i64,[],[.slice none 0 0]⟩:=by kernel_rfl
@[go_sem] theorem S9:aU Tryz.prog 212=some ⟨8,1,8,0,1,0,.i64,[],[.nilFunc]⟩:=by kernel_rfl
@[go_sem] theorem S_:aU Tryz.prog 213=some ⟨8,1,8,0,1,0,.i64,[],[.nilFunc]⟩:=by kernel_rfl
@[go_sem] theorem Ta:aU Tryz.prog 221=some ⟨9,1,16,0,1,0,.i64,[],[.nilIface]⟩:=by kernel_rfl
@[go_sem] theorem Tb:aU Tryz.prog 233=some ⟨8,1,8,0,1,0,.i64,[],[.nilFunc]⟩:=by kernel_rfl
@[go_sem] theorem Tc:aU Tryz.prog 234=some ⟨7,1,8,167,4,0,.i64,[],[.pointer none]⟩:=by kernel_rfl
@[go_sem] theorem Td:aU Tryz.prog 298=some ⟨8,1,8,0,1,0,.i64,[],[.nilFunc]⟩:=by kernel_rfl
@[go_sem] theorem Te:qq Tryz.prog 158=some ((4,.i64),.int .i64 0):=by kernel_rfl
@[go_sem] theorem Tf:qq Tryz.prog 184=some ((4,.i64),.bool false):=by kernel_rfl
@[go_sem] theorem tg3:mf Tryz.prog 3=false:=by kernel_rfl
@[go_sem] theorem Tg:mf Tryz.prog 33=false:=by kernel_rfl
@[go_sem] theorem tg9:mf Tryz.prog 9=false:=by kernel_rfl
@[go_sem] theorem Th:mV Tryz.prog 46=some [(0,5),(1,5),(2,5)]:=by kernel_rfl
@[go_sem] theorem Ti:mV Tryz.prog 128=some [(0,5),(1,5)]:=by kernel_rfl
@[go_sem] theorem Tj:mV Tryz.prog 100=some [(0,5),(1,5)]:=by kernel_rfl
@[go_sem] theorem Tl:mV Tryz.prog 58=some [(0,5),(1,5),(2,5),(3,4)]:=by kernel_rfl
@[go_sem] theorem Tm:mV Tryz.prog 45=some [(0,5),(1,5),(2,4)]:=by kernel_rfl
@[go_sem] theorem Tn:mV Tryz.prog 148=some [(0,4),(1,5),(2,5)]:=by kernel_rfl
@[go_sem] theorem To:mV Tryz.prog 167=some [(0,4),(1,5),(2,5),(3,5)]:=by kernel_rfl
@[go_sem] theorem Tp:mV Tryz.prog 67=some [(0,4),(1,5),(2,5)]:=by kernel_rfl
def dk (n:Int) : List AV:=[I n]
def cL (s:ByteArray) : List AV:=[S s]
def Pk (p:Nat×Nat) : List AV:=[I p.1,I p.2]
attribute [go_sem] dk cL Pk
section
variable {P:Program} {w w':World} {M:Nat→Nat→Prop}
theorem V0.lit_inv {v u:Value} (h:V0 w M (.lit v) u) : u=v:=by cases h;rfl
theorem V0.of_lits (us:List Value) : V0 w M (.tup (us.map .lit)) (.tuple us.toArray):=
 .tup _ _ (by simp) fun i c u hc hu=>by
  obtain ⟨x,hx,rfl⟩:=dT hc;rw [hu] at hx;obtain rfl:=Option.some.inj hx;exact .lit u
theorem V0.sl_inv {α:Type} {F:α→List AV} {C:α→List Value} {sz:Nat} (hF:∀ x,F x=(C x).map .lit) {l:List α} {v:Value} (h:V0 w M (.sl sz (l.map F)) v) : ∃ A cap,v = .slice A l.length cap∧l.length≤cap∧Sl C sz w A l:=by
 generalize he:l.map F=es at h;cases h with
 | slNil _ A cap=>
  have:l=[]:=by simpa using he
  subst this;exact ⟨A,cap,rfl,Nat.zero_le _,Sl.nil _ _ _ _⟩
 | sl _ _ cap b o u aC hb hM dh aM h1 hc hv=>
  subst he;refine ⟨_,cap,by rw [List.length_map],by simpa using dh,fun _=>⟨b,o,rfl,fun k x hk j c hj=>?_⟩⟩;have bJ:k < l.length:=(List.getElem?_eq_some_iff.1 hk).1;have hx:(l.map F)[k]? = some (F x):=by simp [hk]
  have CP:(F x)[j]? = some (.lit c):=by rw [hF];simp [hj]
  have bK:j < sz:=by rw [←aM k _ hx];exact (List.getElem?_eq_some_iff.1 CP).1
  rw [hc k j (by simpa using bJ) bK];exact congrArg some (hv k _ j _ hx CP).lit_inv
theorem MH {f:FuncId} {a b r:AV} (hg:ln P f=true) (h:∀ w M v1 v2,V0 w M a v1→V0 w M b v2→Calls P f #[v1,v2] w fun e w'=>∃ v,e = .returned v∧Below w.heap.size w w'∧V0 w' M r v) : VC P f [a,b] r:=
 ⟨hg,fun w M vs _ hl hv=>by
  match vs,hl with
  | [v1,v2],_=>
  exact h w M v1 v2 (hv 0 a v1 rfl rfl) (hv 1 b v2 rfl rfl)⟩
end
def inR (n lo hi:Int) : Bool:=decide (lo≤n)&&decide (n≤hi)
def unl (c:Bool) (e:Int) : Int:=if c then 0 else e
def fst:List Int→Int
 | []=>0
 | x::r=>if x≠0 then x else fst r
theorem jt {n lo hi:Int} : inR n lo hi=true↔lo≤n∧n≤hi:=by simp [inR]
def jj (i:Nat) (n:Int) : Bool:=
 (decide (97≤n)&&decide (n≤122)) || (decide (65≤n)&&decide (n≤90)) || (decide (i≠0)&&(decide (n=45) || (decide (48≤n)&&decide (n≤57))))
def nA (s:ByteArray) (n:Nat) : Bool:=(List.range n).all fun i=>jj i (cR s i).toNat
theorem It (s:ByteArray) (n:Nat) : nA s (n+1)=(nA s n&&jj n (cR s n).toNat):=by
 simp [nA,List.range_succ]
theorem Iu (s:ByteArray) {n m:Nat} (h:n < m) (ho:jj n (cR s n).toNat=false) : nA s m=false:=by
 unfold nA;rw [List.all_eq_false];exact ⟨n,by simpa using h,by simp [ho]⟩
def bP (s:ByteArray) : Bool:=decide (1≤s.size)&&decide (s.size≤12)&&nA s s.size
def jU (E:Nat→Int) : Nat→Nat→Nat×Int
 | _,0=>(0,0)
 | k,n+1=>if E k≠0 then (k,E k) else jU E (k+1) n
def Iv (a b:ByteArray) : Bool:=a.toList == b.toList
theorem M4 {a b:ByteArray} : Iv a b=true↔a=b:=by
 unfold Iv;rw [beq_iff_eq,DT,DT];constructor
 ·intro h;cases a;cases b;congr;exact Array.toList_inj.1 h
 ·exact fun h=>by rw [h]
end Go.Proofs.YtoibondihdhnoaaGreatDoor
