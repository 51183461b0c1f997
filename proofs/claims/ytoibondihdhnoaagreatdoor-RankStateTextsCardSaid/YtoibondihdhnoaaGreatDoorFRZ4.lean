/- Texts in one: Walks on plain values: the layer; of every program; no condition. -/
import Derived.Test.YtoibondihdhnoaaGreatDoorFRZ3
import Derived.IntWalk
import Derived.Deep.LoopGhost
import Derived.Test.YtoibondihdhnoaaGreatDoorFRZ1
namespace Go.Proofs.YtoibondihdhnoaaGreatDoor
open Go.RowKit
section
variable {P:Program} {M0:Nat→Nat→Prop} {w0:Bas} {N:Nm} {p:Pl} {st:VS} {a:Act} {w:World}
def cq (p:Pl) (n b:Nat) : Pl:=⟨fun i=>if i=n then b else p i,fun i=>if i=n then fun _ _=>False else p.S i⟩
theorem jO {p:Pl} {n b i:Nat} (h:i≠n) : cq p n b i=p i∧(cq p n b).S i=p.S i:=⟨if_neg h,if_neg h⟩
theorem ko (p:Pl) (n b:Nat) : cq p n b n=b∧∀ x j,¬(cq p n b).S n x j:=⟨if_pos rfl,fun x j h=>by simp [cq] at h⟩
theorem iY {p:Pl} {n b i x j:Nat} (h:i≠n) : (cq p n b).O i x j↔p.O i x j:=by unfold Pl.O;rw [(jO h).1,(jO h).2]
theorem lx {p:Pl} {n b x j:Nat} (h:(cq p n b).O n x j) : x=b:=h.elim (fun h=>h.symm.trans (ko p n b).1) fun h=>absurd h ((ko p n b).2 x j)
theorem zv {h:Hp} {x:Option Ob} {id:Nat} {ob:Ob} (hi:(h++[x])[id]? = some (some ob)) : (id < h.length∧h[id]? = some (some ob))∨(id=h.length∧x=some ob):=by
 rcases Nat.lt_trichotomy id h.length with aw|heq|Se
 ·rw [List.getElem?_append_left aw] at hi;exact .inl ⟨aw,hi⟩
 ·subst heq;rw [List.getElem?_append_right (Nat.le_refl _)] at hi;simp at hi;exact .inr ⟨rfl,hi⟩
 ·rw [List.getElem?_eq_none (by simp;omega)] at hi;cases hi
theorem tR {h:Hp} {x:Option Ob} {id:Nat} (hi:id < h.length) : (h++[x])[id]? = h[id]?:=List.getElem?_append_left hi
theorem Rel.growM {ob:Ob} {b:Nat} (_R:Rel M0 w0 N p st a w) (hb0:cH ob=true→w.heap.size≤b) : ∀ c j,c < w.heap.size→¬Mof M0 st.h p c j→¬Mof M0 (st.h++[some ob]) (cq p st.h.length b) c j:=by
 intro c j hc hn hm;rcases hm with hm|⟨id,ob',hi,hl,kL⟩
 ·exact hn (.inl hm)
 ·rcases zv hi with ⟨aw,bF⟩|⟨rfl,hx⟩
  ·exact hn (.inr ⟨id,ob',bF,hl,(iY (Nat.ne_of_lt aw)).1 kL⟩)
  ·obtain rfl:=Option.some.inj hx;have:=lx kL;have:=hb0 hl;omega
theorem Rel.growV {w':World} {ob:Ob} {b:Nat} (R:Rel M0 w0 N p st a w) (hb:Below w.heap.size w w') (hb0:cH ob=true→w.heap.size≤b) {x:AV} {u:Value} (hx:V1 w (Mof M0 st.h p) st.h p x u) : V1 w' (Mof M0 (st.h++[some ob]) (cq p st.h.length b)) (st.h++[some ob]) (cq p st.h.length b) x u:=by
 have hp:∀ id,id < st.h.length→cq p st.h.length b id=p id:=fun id hid=>(jO (Nat.ne_of_lt hid)).1;exact hx.keep (.of_below hb) (R.growM hb0) (by simp) hp (fun id e sz nl es u hid he hv=>by
   rw [tR hid] at he;exact (hv e sz nl es he).below hb) (fun id e sz nl au qs u hid he hv=>by
   rw [tR hid] at he;exact (hv e sz nl au qs he).below hb) fun id k sz v hid hs=>hs.keep (fun e sz au qs he=>by
   rw [tR hid] at he;exact ⟨he,hp id hid,(jO (Nat.ne_of_lt hid)).2,fun b _ _ aw=>hb.block b aw⟩) hb.size
theorem rB {w0:Bas} {n b:Nat} (h:w0.w.heap.size≤b) : Own w0 (cq p n b) n:=⟨fun j=>.inl (by rw [(ko p n b).1];exact h),(ko p n b).2⟩
theorem Rel.grow {w':World} {ob:Ob} {b:Nat} {d:Nat} {av:AV} {v:Value} (R:Rel M0 w0 N p st a w) (hb:Below w.heap.size w w') (hd:N.has d) (hb0:cH ob=true→w.heap.size≤b) (_hnb:∀ e sz nl au qs,ob≠.bag e sz nl au qs)
  (j8:ObOK w0 w' (Mof M0 (st.h++[some ob]) (cq p st.h.length b)) (st.h++[some ob]) (cq p st.h.length b) st.h.length ob)
  (hv:V1 w' (Mof M0 (st.h++[some ob]) (cq p st.h.length b)) (st.h++[some ob]) (cq p st.h.length b) av v) :
  Rel M0 w0 N (cq p st.h.length b) ⟨(d,av)::st.s,st.h++[some ob]⟩ (a.put (some d) v) w':=by
 have hp:∀ id,id < st.h.length→cq p st.h.length b id=p id:=fun id hid=>(jO (Nat.ne_of_lt hid)).1;have hM:∀ c j,c < w.heap.size→¬Mof M0 st.h p c j→¬Mof M0 (st.h++[some ob]) (cq p st.h.length b) c j:=by
  intro c j hc hn hm;rcases hm with hm|⟨id,ob',hi,hl,kL⟩
  ·exact hn (.inl hm)
  ·rcases zv hi with ⟨aw,bF⟩|⟨rfl,hx⟩
   ·exact hn (.inr ⟨id,ob',bF,hl,(iY (Nat.ne_of_lt aw)).1 kL⟩)
   ·obtain rfl:=Option.some.inj hx;have:=lx kL;have:=hb0 hl;omega
 have hV:∀ {x:AV} {u:Value},V1 w (Mof M0 st.h p) st.h p x u→V1 w' (Mof M0 (st.h++[some ob]) (cq p st.h.length b)) (st.h++[some ob]) (cq p st.h.length b) x u:=fun hx=>
  hx.keep (.of_below hb) hM (by simp) hp (fun id e sz nl es u hid he hv=>by
   rw [tR hid] at he;exact (hv e sz nl es he).below hb) (fun id e sz nl au qs u hid he hv=>by
   rw [tR hid] at he;exact (hv e sz nl au qs he).below hb) fun id k sz v hid hs=>hs.keep (fun e sz au qs he=>by
   rw [tR hid] at he;exact ⟨he,hp id hid,(jO (Nat.ne_of_lt hid)).2,fun b _ _ aw=>hb.block b aw⟩) hb.size
 have bN:∀ id ob',(st.h++[some ob])[id]? = some (some ob')→(id < st.h.length∧st.h[id]? = some (some ob'))∨(id=st.h.length∧ob=ob'):=fun id ob' hi=>by
  rcases zv hi with h|⟨h1,h2⟩
  ·exact .inl h
  ·exact .inr ⟨h1,Option.some.inj h2⟩
 refine ⟨R.defers,R.size.put hd,R.below.later hb,R.m0,R.x0,fun i=>?_,fun id ob' hi=>?_,fun id fK GQ ob2 hi bF hl bp x j j' hO cO=>?_⟩
 ·rw [mI a d v i (R.size.lt hd)];simp only [lkp];split
  ·exact hv
  ·exact hV (R.slots i)
 ·rcases bN id ob' hi with ⟨aw,bF⟩|⟨rfl,rfl⟩
  ·exact (R.objs id ob' bF).keep (fun _=>jO (Nat.ne_of_lt aw)) (fun _ b _ _ eN=>hb.block b eN) hb.size (fun hx=>hx.keep (.of_below hb) hM) fun _ _ _ _ _ hx=>hV hx
  ·exact j8
 ·rcases bN id GQ hi with ⟨aw,GR⟩|⟨rfl,rfl⟩<;>rcases bN fK ob2 bF with ⟨lk,eb⟩|⟨rfl,rfl⟩
  ·exact R.inj id fK _ _ GR eb hl bp x j j' ((iY (Nat.ne_of_lt aw)).1 hO) ((iY (Nat.ne_of_lt lk)).1 cO)
  ·have h1:=((R.objs id GQ GR).own hl x j ((iY (Nat.ne_of_lt aw)).1 hO)).2;have h2:=hb0 bp;have h3:=lx cO;omega
  ·have h1:=((R.objs fK ob2 eb).own bp x j' ((iY (Nat.ne_of_lt lk)).1 cO)).2;have h2:=hb0 hl;have h3:=lx hO;omega
  ·rfl
theorem Rel.write {w':World} {h':Hp} {id:Nat} {ob ob':Ob} (R:Rel M0 w0 N p st a w) (hi:st.h[id]? = some (some ob)) (hl:cH ob=true) (bp:cH ob'=true) (_hnb:∀ e sz nl au qs,ob≠.bag e sz nl au qs) (wo:∀ e sz nl au qs,ob'≠.bag e sz nl au qs) (aM:w.heap.size=w'.heap.size) (m_:w'.os=w.os) (na:w'.tape=w.tape) (nb:w'.output=w.output)
  (cI:∀ b,b≠p id→w'.heap[b]? = w.heap[b]?) (hh:h'=st.h.set id (some ob'))
  (bs:∀ e sz nl es v,ob' = .arr e sz nl es→(∀ e sz nl es,ob = .arr e sz nl es→Osl w (p id) e sz nl es.length v)→Osl w' (p id) e sz nl es.length v)
  (j8:(∀ {x:AV} {u:Value},V1 w (Mof M0 st.h p) st.h p x u→V1 w' (Mof M0 h' p) h' p x u)→(∀ {x:AV} {u:Value},V0 w (Mof M0 st.h p) x u→V0 w' (Mof M0 h' p) x u)→ObOK w0 w' (Mof M0 h' p) h' p id ob') :
  Rel M0 w0 N p ⟨st.s,h'⟩ a w':=by
 subst hh;have hid:id < st.h.length:=(List.getElem?_eq_some_iff.1 hi).1;have bN:∀ i o,(st.h.set id (some ob'))[i]? = some (some o)→(i=id∧o=ob')∨(i≠id∧st.h[i]? = some (some o)):=by
  intro i o aL;rw [List.getElem?_set] at aL;by_cases he:id=i
  ·rw [if_pos he,if_pos (by omega)] at aL;simp only [Option.some.injEq] at aL;exact .inl ⟨he.symm,aL.symm⟩
  ·rw [if_neg he] at aL;exact .inr ⟨fun h=>he h.symm,aL⟩
 have hM:∀ c j,¬Mof M0 st.h p c j→¬Mof M0 (st.h.set id (some ob')) p c j:=by
  intro c j hn hm;rcases hm with hm|⟨i,o,aL,bD,hp⟩
  ·exact hn (.inl hm)
  ·rcases bN i o aL with ⟨rfl,rfl⟩|⟨_,bG⟩
   ·exact hn (.inr ⟨i,ob,hi,hl,hp⟩)
   ·exact hn (.inr ⟨i,o,bG,bD,hp⟩)
 have hk:Keeps (Mof M0 st.h p) w w':=.of_blocks (by omega) fun b _ hb=>cI b fun he=>hb fun j=>.inr ⟨id,ob,hi,hl,.inl he.symm⟩;have aC:∀ i o,i≠id→st.h[i]? = some (some o)→cH o=true→∀ b j,p.O i b j→w'.heap[b]? = w.heap[b]?:=fun i o hn aL bD b j hO=>cI b fun he=>hn (R.inj i id o ob aL hi bD hl b j 0 hO (.inl he.symm));have hV:∀ {x:AV} {u:Value},V1 w (Mof M0 st.h p) st.h p x u→V1 w' (Mof M0 (st.h.set id (some ob')) p) (st.h.set id (some ob')) p x u:=fun hx=>
  hx.keep hk (fun b j _=>hM b j) (by simp) (fun _ _=>rfl) (fun i e sz nl es v cK he hv=>by
   rcases bN i _ he with ⟨rfl,ho⟩|⟨hn,aL⟩
   ·exact bs e sz nl es v ho.symm fun e' bm kQ bQ j8=>hv e' bm kQ bQ (by rw [hi,j8])
   ·exact (hv _ _ _ _ aL).keep fun bg _=>aC i _ hn aL (by rw [bg];rfl) _ 0 (.inl rfl)) (fun i e sz nl au qs v cK he hv=>by
   rcases bN i _ he with ⟨rfl,ho⟩|⟨hn,aL⟩
   ·exact absurd ho.symm (wo _ _ _ _ _)
   ·exact (hv _ _ _ _ _ aL).keep fun bg _=>aC i _ hn aL (by rw [bg];rfl) _ 0 (.inl rfl)) fun i k sz v cK hs=>hs.keep (fun e sz au qs he=>by
   rcases bN i _ he with ⟨rfl,ho⟩|⟨hn,aL⟩
   ·exact absurd ho.symm (wo _ _ _ _ _)
   ·exact ⟨aL,rfl,rfl,fun b j hO _=>aC i _ hn aL rfl b j hO⟩) (by omega)
 have dF:∀ {x:AV} {u:Value},V0 w (Mof M0 st.h p) x u→V0 w' (Mof M0 (st.h.set id (some ob')) p) x u:=fun hx=>hx.keep hk fun b j _=>hM b j;have dn:=(R.objs id ob hi).ge hl;refine ⟨R.defers,R.size,R.below.blocks m_ na nb (by omega) fun b _ hF=>cI b fun he=>hF fun j=>by rw [he];exact dn j,R.m0,R.x0,fun i=>hV (R.slots i),fun i o aL=>?_,fun i i' o o' aL bG bD eI x j j' hO cO=>?_⟩
 ·rcases bN i o aL with ⟨rfl,rfl⟩|⟨hn,bG⟩
  ·exact j8 hV dF
  ·exact (R.objs i o bG).keep (fun _=>⟨rfl,rfl⟩) (fun bD b j hO _=>aC i o hn bG bD b j hO) (by omega) dF fun _ _ _ _ _ hx=>hV hx
 ·rcases bN i o aL with ⟨rfl,rfl⟩|⟨hn,h1⟩<;>rcases bN i' o' bG with ⟨rfl,rfl⟩|⟨nP,h2⟩
  ·rfl
  ·exact R.inj _ _ _ _ hi h2 hl eI x j j' hO cO
  ·exact R.inj _ _ _ _ h1 hi bD hl x j j' hO cO
  ·exact R.inj i i' o o' h1 h2 bD eI x j j' hO cO
end
section
variable {P:Program} {M0:Nat→Nat→Prop} {w0:Bas} {N:Nm} {p:Pl} {st:VS} {a:Act} {w:World}
theorem V1.purge {w w':World} {M M':Nat→Nat→Prop} {h h':Hp} {p p':Pl} {id:Nat} (hk:Keeps M w w') (hM:∀ b j,b < w.heap.size→¬M b j→¬M' b j) (hl:h.length≤h'.length) (hp:∀ i,i≠id→p' i=p i)
  (hO:∀ i e sz nl es v,i≠id→h'[i]? = some (some (.arr e sz nl es))→(∀ e sz nl es,h[i]? = some (some (.arr e sz nl es))→Osl w (p i) e sz nl es.length v)→Osl w' (p i) e sz nl es.length v)
  (hG:∀ i e sz nl au qs v,i≠id→h'[i]? = some (some (.bag e sz nl au qs))→(∀ e sz nl au qs,h[i]? = some (some (.bag e sz nl au qs))→Osl w (p i) e 1 nl qs.length v)→Osl w' (p i) e 1 nl qs.length v)
  (hW:∀ i k sz v,i≠id→i < h.length→Sp w h p i k sz v→Sp w' h' p' i k sz v) :
  ∀ (n:Nat) (av:AV) (v:Value),V1 w M h p av v→cu id n av=true→V1 w' M' h' p' av v
 | 0,_,_,_,hb=>by simp [cu] at hb
 | n+1,av,v,hv,hb=>by
  have ih:=V1.purge (w:=w) (p:=p) (h:=h) hk hM hl hp hO hG hW n;cases hv with
  | base _ _ h0=>exact .base _ _ (h0.keep hk hM)
  | agg cs us hl h1 hv=>
   simp only [cu] at hb;exact .agg cs us hl h1 fun i c u hc hu=>ih c u (hv i c u hc hu) (List.all_eq_true.1 hb c (List.mem_of_getElem? hc))
  | tup cs us hl hv=>
   simp only [cu] at hb;exact .tup cs us hl fun i c u hc hu=>ih c u (hv i c u hc hu) (List.all_eq_true.1 hb c (List.mem_of_getElem? hc))
  | fn f x y us vs hl bp hv bB=>
   simp only [cu,Bool.and_eq_true] at hb;exact .fn f x y us vs hl bp (fun i c u hc hu=>ih c u (hv i c u hc hu) (List.all_eq_true.1 hb.1 c (List.mem_of_getElem? hc))) (fun i c u hc hu=>ih c u (bB i c u hc hu) (List.all_eq_true.1 hb.2 c (List.mem_of_getElem? hc)))
  | iface t x u hv=>exact .iface t x u (ih x u hv (by simpa [cu] using hb))
  | ref i off hid=>rw [←hp i (by simpa [cu] using hb)];exact .ref i off (Nat.lt_of_lt_of_le hid hl)
  | aref i sz k off hid=>rw [←hp i (by simpa [cu] using hb)];exact .aref i sz k off (Nat.lt_of_lt_of_le hid hl)
  | osl i A m c hid hv lh=>
   have hn:i≠id:=by simpa [cu] using hb
   exact .osl i A m c (Nat.lt_of_lt_of_le hid hl) (fun e sz nl es he=>by rw [hp i hn];exact hO i e sz nl es _ hn he hv) fun e sz nl au qs he=>by rw [hp i hn];exact hG i e sz nl au qs _ hn he lh
  | slw i k sz es _ hid h0 hs=>
   have hn:i≠id:=by simpa [cu] using hb
   exact .slw i k sz es v (Nat.lt_of_lt_of_le hid hl) (h0.keep hk hM) (hW i k sz v hn hid hs)
  | mp i hid=>rw [←hp i (by simpa [cu] using hb)];exact .mp i (Nat.lt_of_lt_of_le hid hl)
theorem GS (id:Nat) : ∀ (s:List (Nat×AV)) (i:Nat),lkp (s.map fun q=>(q.1,purge id q.2)) i=purge id (lkp s i)∨lkp (s.map fun q=>(q.1,purge id q.2)) i = .any
 | [],i=>.inr rfl
 | (d,v)::r,i=>by
  simp only [List.map_cons,lkp];split
  ·exact .inl rfl
  ·exact GS id r i
theorem Rel.append {w':World} {id g:Nat} {e:TypeId} {sz:Nat} {nl:Bool} {es qM:List (List AV)} {d:Nat} {A:Option Addr} {n c:Nat} (R:Rel M0 w0 N p st a w) (hd:N.has d) (hi:st.h[id]? = some (some (.arr e sz nl es)))
  (_hge:∀ j,Fr w0 g j) (hg:g=w.heap.size∨(nl=false∧g=p id)) (m_:w'.os=w.os) (na:w'.tape=w.tape) (nb:w'.output=w.output) (aM:w.heap.size≤w'.heap.size) (cI:∀ b,b < w.heap.size→¬(nl=false∧b=p id)→w'.heap[b]? = w.heap[b]?)
  (j8:(∀ {x:AV} {u:Value},V0 w (Mof M0 st.h p) x u→V0 w' (Mof M0 (ky id 0 (st.h.set id (some (.arr e sz false qM)))) (cq p id g)) x u)→ObOK w0 w' (Mof M0 (ky id 0 (st.h.set id (some (.arr e sz false qM)))) (cq p id g)) (ky id 0 (st.h.set id (some (.arr e sz false qM)))) (cq p id g) id (.arr e sz false qM))
  (hv:Osl w' g e sz false qM.length (.slice A n c)) :
  Rel M0 w0 N (cq p id g) ⟨(d,.osl id)::st.s.map (fun q=>(q.1,purge id q.2)),ky id 0 (st.h.set id (some (.arr e sz false qM)))⟩ (a.put (some d) (.slice A n c)) w':=by
 generalize fA:ky id 0 (st.h.set id (some (.arr e sz false qM)))=h' at *;generalize sg:cq p id g=p' at *;have fk:id < st.h.length:=(List.getElem?_eq_some_iff.1 hi).1;have hlen:h'.length=st.h.length:=by rw [←fA,Fz];simp
 have jM:p' id=g:=by rw [←sg];exact (ko p id g).1
 have oi:∀ i,i≠id→p' i=p i:=fun i hn=>by rw [←sg];exact (jO hn).1
 have jK:∀ i,i≠id→p'.S i=p.S i:=fun i hn=>by rw [←sg];exact (jO hn).2
 have wq:∀ {i x j},i≠id→(p'.O i x j↔p.O i x j):=fun hn=>by rw [←sg];exact iY hn
 have sj:∀ {x j},p'.O id x j→x=g:=fun h=>by rw [←sg] at h;exact lx h
 have bN:∀ i o,h'[i]? = some (some o)→(i=id∧o = .arr e sz false qM)∨(i≠id∧∃ o0,st.h[i]? = some (some o0)∧cH o0=cH o∧((o0=o∧∀ cs,o = .box cs→cs.all (cu id 5)=true)∨∃ cs,o0 = .box cs∧o = .box (cs.map (vC id i))∧cs.all (fun c=>cu id 5 c || yY id c)=true)):=by
  intro i o aL;rw [←fA,FA] at aL;obtain ⟨x,hx,jz⟩:=Option.map_eq_some_iff.1 aL;rw [Nat.zero_add] at jz;rw [List.getElem?_set] at hx;by_cases he:id=i
  ·rw [if_pos he,if_pos (by omega)] at hx;simp only [Option.some.injEq] at hx;subst hx;simp only [oZ,Option.some.injEq] at jz;exact .inl ⟨he.symm,jz.symm⟩
  ·rw [if_neg he] at hx;refine .inr ⟨fun h=>he h.symm,?_⟩;cases x with
   | none=>simp [oZ] at jz
   | some y=>
    cases y with
    | box cs=>
     simp only [oZ] at jz;split at jz
     ·rename_i bw;simp only [Option.some.injEq] at jz;subst jz;exact ⟨_,hx,rfl,.inl ⟨rfl,fun dP hc=>by injection hc with hc;subst hc;exact bw⟩⟩
     ·split at jz
      ·rename_i bw;simp only [Option.some.injEq] at jz;subst jz;exact ⟨_,hx,rfl,.inr ⟨cs,rfl,rfl,bw⟩⟩
      ·cases jz
    | arr e1 s1 n1 l1=>
     simp only [oZ,Option.some.injEq] at jz;subst jz;exact ⟨_,hx,rfl,.inl ⟨rfl,fun dP hc=>by cases hc⟩⟩
    | mpo kf iv=>
     simp only [oZ,Option.some.injEq] at jz;subst jz;exact ⟨_,hx,rfl,.inl ⟨rfl,fun dP hc=>by cases hc⟩⟩
    | bag e1 s1 n1 Sf q1=>
     simp only [oZ,Option.some.injEq] at jz;subst jz;exact ⟨_,hx,rfl,.inl ⟨rfl,fun dP hc=>by cases hc⟩⟩
 have e8:nl=false→cH (.arr e sz nl es)=true:=fun h=>by subst h;rfl
 have hM:∀ c j,c < w.heap.size→¬Mof M0 st.h p c j→¬Mof M0 h' p' c j:=by
  intro c j hc hn hm;rcases hm with hm|⟨i,o,aL,bD,hp⟩
  ·exact hn (.inl hm)
  ·rcases bN i o aL with ⟨rfl,rfl⟩|⟨aC,o0,bG,yL,_⟩
   ·have Sh:=sj hp;rcases hg with hg|⟨bg,hg⟩
    ·omega
    ·exact hn (.inr ⟨_,_,hi,e8 bg,.inl (by omega)⟩)
   ·exact hn (.inr ⟨i,o0,bG,yL.trans bD,(wq aC).1 hp⟩)
 have hk:Keeps (Mof M0 st.h p) w w':=.of_blocks aM fun b eN hn=>cI b eN fun ⟨bg,he⟩=>hn fun j=>.inr ⟨id,_,hi,e8 bg,.inl he.symm⟩;have aC:∀ i o,i≠id→st.h[i]? = some (some o)→cH o=true→∀ b j,p.O i b j→b < w.heap.size→w'.heap[b]? = w.heap[b]?:=fun i o hn aL bD b j hO eN=>cI b eN fun ⟨bg,he⟩=>hn (R.inj i id o _ aL hi bD (e8 bg) b j 0 hO (.inl he.symm));have cm:∀ i o,i≠id→(∀ cs,o≠.box cs)→h'[i]? = some (some o)→st.h[i]? = some (some o):=fun i o hn fY he=>by
  rcases bN i _ he with ⟨h,_⟩|⟨_,o0,aL,_,⟨rfl,_⟩|⟨cs,_,hb,_⟩⟩
  ·exact absurd h hn
  ·exact aL
  ·exact absurd hb (fY _)
 have s9:∀ i e sz nl es v,i≠id→h'[i]? = some (some (.arr e sz nl es))→(∀ e sz nl es,st.h[i]? = some (some (.arr e sz nl es))→Osl w (p i) e sz nl es.length v)→Osl w' (p i) e sz nl es.length v:=fun i e sz nl es v hn he hv=>by
  have aL:=cm i _ hn (fun cs h=>by cases h) he;exact (hv _ _ _ _ aL).keep fun bg aw=>aC i _ hn aL (by rw [bg];rfl) _ 0 (.inl rfl) aw
 have Nd:∀ i e sz nl au qs v,i≠id→h'[i]? = some (some (.bag e sz nl au qs))→(∀ e sz nl au qs,st.h[i]? = some (some (.bag e sz nl au qs))→Osl w (p i) e 1 nl qs.length v)→Osl w' (p i) e 1 nl qs.length v:=fun i e sz nl au qs v hn he hv=>by
  have aL:=cm i _ hn (fun cs h=>by cases h) he;exact (hv _ _ _ _ _ aL).keep fun bg aw=>aC i _ hn aL (by rw [bg];rfl) _ 0 (.inl rfl) aw
 have Nf:∀ i k sz v,i≠id→i < st.h.length→Sp w st.h p i k sz v→Sp w' h' p' i k sz v:=fun i k sz v hn _ hs=>hs.keep (fun e sz au qs he=>by
  have aL:=cm i _ hn (fun cs h=>by cases h) he;exact ⟨aL,oi i hn,jK i hn,aC i _ hn aL rfl⟩) aM
 have hV:∀ (n:Nat) {x:AV} {u:Value},V1 w (Mof M0 st.h p) st.h p x u→cu id n x=true→V1 w' (Mof M0 h' p') h' p' x u:=fun n x u hx hn=>V1.purge hk hM (by omega) oi s9 Nd Nf n x u hx hn;have dF:∀ {x:AV} {u:Value},V0 w (Mof M0 st.h p) x u→V0 w' (Mof M0 h' p') x u:=fun hx=>hx.keep hk hM;have hF:∀ b,b < w.heap.size→¬(∀ j,Fr w0 b j)→w'.heap[b]? = w.heap[b]?:=fun b eN hn=>cI b eN fun ⟨bg,he⟩=>hn fun j=>by rw [he];exact (R.objs id _ hi).ge (e8 bg) j
 refine ⟨R.defers,R.size.put hd,R.below.blocks m_ na nb aM hF,R.m0,R.x0,fun i=>?_,fun i o aL=>?_,fun i i' o o' aL bG bD eI x j j' hO cO=>?_⟩
 ·rw [mI a d _ i (R.size.lt hd)];simp only [lkp];split
  ·refine .osl id A n c (by omega) (fun e' bm kQ bQ he=>?_) fun e' bm kQ pe qs he=>?_
   ·rcases bN id _ he with ⟨_,h⟩|⟨h,_⟩
    ·injection h with h1 h2 h3 h4
     subst h1 h2 h3 h4;rw [jM];exact hv
    ·exact absurd rfl h
   ·rcases bN id _ he with ⟨_,h⟩|⟨h,_⟩
    ·cases h
    ·exact absurd rfl h
  ·rcases GS id st.s i with h|h
   ·rw [h];unfold Go.Proofs.YtoibondihdhnoaaGreatDoor.purge;split
    ·rename_i hn;exact hV 5 (R.slots i) hn
    ·exact .base _ _ (.any _)
   ·rw [h];exact .base _ _ (.any _)
 ·rcases bN i o aL with ⟨rfl,rfl⟩|⟨hn,o0,bG,yL,⟨rfl,jL⟩|⟨cs,rfl,rfl,ax⟩⟩
  ·exact j8 dF
  rotate_left
  ·obtain ⟨h1,cur,e,hg,h2,h3,h4⟩:=R.objs i _ bG;refine ⟨by unfold Own;rw [oi i hn,jK i hn];exact h1,cur,e,by rw [oi i hn,aC i _ hn bG rfl _ 0 (.inl rfl) (Array.getElem?_eq_some_iff.1 hg).1];exact hg,by simpa using h2,fun c hc=>?_,fun j c hj=>?_⟩
   ·obtain ⟨c0,kX,rfl⟩:=List.mem_map.1 hc;unfold vC;split
    ·exact h3 c0 kX
    ·rfl
   ·rw [List.getElem?_map] at hj;obtain ⟨c0,n9,rfl⟩:=Option.map_eq_some_iff.1 hj;obtain ⟨u,hu,hv⟩:=h4 j c0 n9;refine ⟨u,hu,?_⟩;unfold vC;split
    ·rename_i bw;exact hV 5 hv bw
    ·rename_i bw;have:=List.all_eq_true.1 ax c0 (List.mem_of_getElem? n9);rw [Bool.or_eq_true] at this;rcases this with h|h
     ·exact absurd h bw
     ·obtain ⟨k,rfl⟩ : ∃ k,c0 = .osl k:=by cases c0<;>first|exact ⟨_,rfl⟩|(simp [yY] at h;done)
      obtain ⟨A2,n2,c2,rfl,_,_⟩:=hv.osl_inv;refine .osl _ _ _ _ (by rw [hlen];exact (List.getElem?_eq_some_iff.1 bG).1) (fun e sz nl es he=>?_) fun e sz nl pe qs he=>?_
      ·rw [aL] at he;cases he
      ·rw [aL] at he;cases he
  ·exact (R.objs i o0 bG).keep (fun _=>⟨oi i hn,jK i hn⟩) (fun bD b j hO eN=>aC i o0 hn bG bD b j hO eN) aM dF fun cs bV c hc u hx=>hV 5 hx (List.all_eq_true.1 (jL cs bV) c hc)
 ·have aw:∀ i o,i≠id→st.h[i]? = some (some o)→cH o=true→∀ x j,p.O i x j→g≠x:=by
   intro i o hn h1 hl x j hO he;rcases hg with hg|⟨bg,hg⟩
   ·have:=((R.objs i o h1).own hl x j hO).2;omega
   ·exact hn (R.inj i id o _ h1 hi hl (e8 bg) x j 0 hO (.inl (by omega)))
  rcases bN i o aL with ⟨rfl,rfl⟩|⟨hn,o1,h1,e1,_⟩<;>rcases bN i' o' bG with ⟨rfl,rfl⟩|⟨nP,o2,h2,e2,_⟩
  ·rfl
  ·exact absurd (sj hO).symm (aw i' o2 nP h2 (e2.trans eI) x j' ((wq nP).1 cO))
  ·exact absurd (sj cO).symm (aw i o1 hn h1 (e1.trans bD) x j ((wq hn).1 hO))
  ·exact R.inj i i' o1 o2 h1 h2 (e1.trans bD) (e2.trans eI) x j j' ((wq hn).1 hO) ((wq nP).1 cO)
theorem Ng {es:List (List AV)} {sz:Nat} {u:Nat→Nat→Value} {k:Nat} {x:List AV} {j:Nat} {c:AV} (hk:es[k]? = some x) (hj:x[j]? = some c) (hl:x.length=sz) :
  ((List.range es.length).flatMap fun k=>(List.range sz).map fun j=>if k < es.length then u k j else .bool false)[k*sz+j]? = some (u k j):=by
 have bJ:=(List.getElem?_eq_some_iff.1 hk).1;have bK:=(List.getElem?_eq_some_iff.1 hj).1;have key:∀ (n b:Nat),b+k < b+n→(((List.range' b n).flatMap fun k=>(List.range sz).map fun j=>if k < es.length then u k j else Value.bool false))[k*sz+j]? = some (if b+k < es.length then u (b+k) j else .bool false):=by
  clear bJ hk;induction k with
  | zero=>
   intro n b hn;cases n with
   | zero=>omega
   | succ n=>
    rw [List.range'_succ,List.flatMap_cons,List.getElem?_append_left (by simp;omega)];simp [show j < sz by omega]
  | succ k ih=>
   intro n b hn;cases n with
   | zero=>omega
   | succ n=>
    rw [List.range'_succ,List.flatMap_cons,List.getElem?_append_right (by simp [Nat.add_mul];omega)];have:=ih n (b+1) (by omega);simp only [List.length_map,List.length_range];rw [show (k+1)*sz+j - sz=k*sz+j by rw [Nat.add_mul];omega,this,show b+1+k=b+(k+1) by omega]
 have:=key es.length 0 (by omega);rw [show List.range es.length=List.range' 0 es.length from List.range_eq_range',this];simp [bJ]
end
section
variable {P:Program} {M0:Nat→Nat→Prop} {w0:Bas} {N:Nm} {p:Pl} {st:VS} {a:Act} {w:World}
theorem GU {us:List Value} {cs:List AV} {d:Nat} (R:Rel M0 w0 N p st a w) (hd:N.has d) (hc:Cells w (Mof M0 st.h p) st.h p cs us) (t:TypeId) :
  Rel M0 w0 N (cq p st.h.length w.heap.size) ⟨(d,.ref st.h.length 0)::st.s,st.h++[some (.box cs)]⟩ (a.put (some d) (.pointer (some ⟨w.heap.size,0,none⟩))) { w with heap:=w.heap.push (.cells us.toArray t) }:=by
 have hb:=nO w (.cells us.toArray t);have jP:cq p st.h.length w.heap.size st.h.length=w.heap.size:=(ko p _ _).1;refine R.grow hb hd (fun _=>Nat.le_refl _) (fun _ _ _ _ _ h=>by cases h) ⟨rB R.below.size,us.toArray,t,by rw [jP];simp [-World.alloc_eq],by simp [hc.1],hc.2.1,fun j c hj=>?_⟩ ?_
 ·have eK:j < us.length:=by rw [hc.1];exact (List.getElem?_eq_some_iff.1 hj).1
  exact ⟨us[j],by simp [eK],R.growV hb (fun _=>Nat.le_refl _) (hc.2.2 j c us[j] hj (List.getElem?_eq_getElem eK))⟩
 ·have:=V1.ref (w:={ w with heap:=w.heap.push (.cells us.toArray t) }) (M:=Mof M0 (st.h++[some (.box cs)]) (cq p st.h.length w.heap.size)) (h:=st.h++[some (.box cs)]) (p:=cq p st.h.length w.heap.size) st.h.length 0 (by simp);rwa [jP] at this
theorem GV {us:List Value} {es:List (List AV)} {d e sz:Nat} (R:Rel M0 w0 N p st a w) (hd:N.has d) (aM:0 < sz) (hlen:us.length=es.length*sz) (gK:es.length≤maxLen) (dp:∀ (k:Nat) (x:List AV),es[k]? = some x→x.length=sz∧∀ c∈x,cY c=true)
  (hv:∀ (k:Nat) (x:List AV) (j:Nat) (c:AV) (u:Value),es[k]? = some x→x[j]? = some c→us[k*sz+j]? = some u→V0 w (Mof M0 st.h p) c u) :
  Rel M0 w0 N (cq p st.h.length w.heap.size) ⟨(d,.osl st.h.length)::st.s,st.h++[some (.arr e sz false es)]⟩ (a.put (some d) (.slice (some ⟨w.heap.size,0,none⟩) es.length es.length)) { w with heap:=w.heap.push (.cells us.toArray e) }:=by
 have hb:=nO w (.cells us.toArray e);have jP:cq p st.h.length w.heap.size st.h.length=w.heap.size:=(ko p _ _).1;have hg:({ w with heap:=w.heap.push (.cells us.toArray e) } : World).heap[w.heap.size]? = some (.cells us.toArray e (0,0)):=by simp [-World.alloc_eq]
 have hM:=R.growM (ob:=.arr e sz false es) (b:=w.heap.size) (fun _=>Nat.le_refl _);refine R.grow hb hd (fun _=>Nat.le_refl _) (fun _ _ _ _ _ h=>by cases h) ⟨aM,dp,?_⟩ ?_
 ·rw [if_neg (by simp)];refine ⟨rB R.below.size,us.toArray,by rw [jP];exact hg,by simp [hlen],fun k x j c hk hj=>?_⟩;have bJ:=(List.getElem?_eq_some_iff.1 hk).1;have bK:=(List.getElem?_eq_some_iff.1 hj).1;have lr:=(dp k x hk).1;have h1:(k+1)*sz≤es.length*sz:=Nat.mul_le_mul_right _ bJ;rw [Nat.add_mul] at h1;have aw:k*sz+j < us.length:=by omega
  exact ⟨us[k*sz+j],by simp [aw],(hv k x j c _ hk hj (List.getElem?_eq_getElem aw)).keep (.of_below hb) hM⟩
 ·refine .osl _ _ _ _ (by simp) (fun e' bm kQ bQ he=>?_) fun e' bm kQ pe qs he=>?_
  ·rw [List.getElem?_append_right (Nat.le_refl _)] at he;simp only [Nat.sub_self,List.getElem?_cons_zero,Option.some.injEq] at he;injection he with h1 h2 h3 h4
   subst h1 h2 h3 h4;unfold Osl;rw [if_neg (by simp),jP];exact ⟨es.length,us.toArray,rfl,hg,by simp [hlen],Nat.le_refl _,gK⟩
  ·rw [List.getElem?_append_right (Nat.le_refl _)] at he;simp at he
theorem Nh {d e sz:Nat} (R:Rel M0 w0 N p st a w) (hd:N.has d) (aM:0 < sz) :
  Rel M0 w0 N (cq p st.h.length 0) ⟨(d,.osl st.h.length)::st.s,st.h++[some (.arr e sz true [])]⟩ (a.put (some d) (.slice none 0 0)) w:=by
 refine R.grow (Below.refl _ _) hd (fun h=>by cases h) (fun _ _ _ _ _ h=>by cases h) ⟨aM,by simp,by simp⟩ (.osl _ _ _ _ (by simp) (fun e' bm kQ bQ he=>?_) fun e' bm kQ pe qs he=>?_)
 ·rw [List.getElem?_append_right (Nat.le_refl _)] at he;simp only [Nat.sub_self,List.getElem?_cons_zero,Option.some.injEq] at he;injection he with h1 h2 h3 h4
  subst h1 h2 h3 h4;simp [Osl]
 ·rw [List.getElem?_append_right (Nat.le_refl _)] at he;simp at he
theorem GW {cs vs:List AV} {off:Nat} (dV:off+vs.length≤cs.length) (j:Nat) : (lH cs off vs)[j]? = if j < off then cs[j]? else if j < off+vs.length then vs[j - off]? else cs[j]?:=by
 unfold lH;by_cases h1:j < off
 ·rw [if_pos h1,List.append_assoc,List.getElem?_append_left (by simp;omega),List.getElem?_take_of_lt h1]
 ·rw [if_neg h1,List.append_assoc,List.getElem?_append_right (by simp;omega)];have e1:(cs.take off).length=off:=by simp;omega
  rw [e1];by_cases h2:j < off+vs.length
  ·rw [if_pos h2,List.getElem?_append_left (by omega)]
  ·rw [if_neg h2,List.getElem?_append_right (by omega),List.getElem?_drop];congr 1;omega
theorem GX {cs vs:List Value} {off:Nat} (dV:off+vs.length≤cs.length) (j:Nat) : (cs.take off++vs++cs.drop (off+vs.length))[j]? = if j < off then cs[j]? else if j < off+vs.length then vs[j - off]? else cs[j]?:=by
 by_cases h1:j < off
 ·rw [if_pos h1,List.append_assoc,List.getElem?_append_left (by simp;omega),List.getElem?_take_of_lt h1]
 ·rw [if_neg h1,List.append_assoc,List.getElem?_append_right (by simp;omega)];have e1:(cs.take off).length=off:=by simp;omega
  rw [e1];by_cases h2:j < off+vs.length
  ·rw [if_pos h2,List.getElem?_append_left (by omega)]
  ·rw [if_neg h2,List.getElem?_append_right (by omega),List.getElem?_drop];congr 1;omega
theorem GY {cs vs:List AV} {off:Nat} (h1:∀ c∈cs,cY c=true) (h2:∀ c∈vs,cY c=true) : ∀ c∈lH cs off vs,cY c=true:=by
 intro c hc;unfold lH at hc;rcases List.mem_append.1 hc with hc|hc
 ·rcases List.mem_append.1 hc with hc|hc
  ·exact h1 c (List.mem_of_mem_take hc)
  ·exact h2 c hc
 ·exact h1 c (List.mem_of_mem_drop hc)
theorem GZ {cs vs:List AV} {off:Nat} (dV:off+vs.length≤cs.length) : (lH cs off vs).length=cs.length:=by
 unfold lH;simp;omega
theorem wu (w:World) (g:Nat) (cs:Array Value) (b:Nat) (h:b≠g) : (w.setRow g cs).heap[b]? = w.heap[b]?:=by
 simp only [World.setRow,Array.getElem?_modify];rw [if_neg (by omega)]
theorem wv (w:World) (g:Nat) (cs:Array Value) : (w.setRow g cs).heap.size=w.heap.size:=by simp [World.setRow]
theorem CB {t:TypeId} {ti:TI} {g o:Nat} {cur:Array Value} {e:TypeId} {v:Value} (aV:aU P t=some ti) (aM:v.cells.size=ti.size) (hg:w.heap[g]? = some (.cells cur e (0,0))) (dV:o+ti.size≤cur.size) (h1:∀ x∈v.cells.toList,x.oneCell'=true) :
  (Instr.storeAt t (.pointer (some ⟨g,o,none⟩)) v).run P w = .ok () (w.setRow g (cur.toList.take o++v.cells.toList++cur.toList.drop (o+v.cells.toList.length)).toArray):=by
 have:=run_storeCells_at P g o e v.cells.toList 0 cur w hg (by simp;omega) h1;simp only [Nat.add_zero] at this;simp only [Instr.storeAt,Instr.sureAddr,Sem.run_bind,Sem.run_pure,Result.andThen_ok,storeVar,K6 aV,Sem.run_ite,aM,ne_eq,not_true_eq_false,if_false];exact this
theorem G0 {cs:List AV} {us:List Value} {M:Nat→Nat→Prop} {h:Hp} (hc:Cells w M h p cs us) : ∀ x∈us,x.oneCell'=true:=by
 intro x hx;obtain ⟨i,hi⟩:=List.mem_iff_getElem?.1 hx;have hl:i < cs.length:=by rw [←hc.1];exact (List.getElem?_eq_some_iff.1 hi).1
 exact (hc.2.2 i cs[i] x (List.getElem?_eq_getElem hl) hi).one (hc.2.1 _ (List.getElem_mem hl))
theorem G1 {t:TypeId} {x y:Operand} {ti:TI} {id off:Nat} {cs:List AV} (R:Rel M0 w0 N p st a w) (aV:aU P t=some ti) (hx:ev st x = .ref id off) (hid:st.h[id]? = some (some (.box cs))) (h1:nZ (ev st y)=true) (h2:(fp (ev st y)).length=ti.size) (h3:off+ti.size≤cs.length) :
  ∃ w',(Instr.storeAt t (a.eval x) (a.eval y)).run P w = .ok () w'∧Rel M0 w0 N p ⟨st.s,st.h.set id (some (.box (lH cs off (fp (ev st y)))))⟩ a w':=by
 have jH:=R.eval x;rw [hx] at jH;obtain ⟨hq,_⟩:=jH.ref_inv;have aE:=(R.eval y).cells h1;obtain ⟨dn,cur,e,hg,bV,bx,hv⟩:=R.objs id _ hid;have gA:(a.eval y).cells.size=ti.size:=by rw [←Array.length_toList,aE.1,h2]
 refine ⟨_,by rw [hq];exact CB aV gA hg (by omega) (G0 aE),?_⟩;have dV:off+(a.eval y).cells.toList.length≤cur.toList.length:=by simp;omega
 have j0:off+(fp (ev st y)).length≤cs.length:=by omega
 have hlen:(a.eval y).cells.toList.length=(fp (ev st y)).length:=aE.1;have aw:=(Array.getElem?_eq_some_iff.1 hg).1;refine R.write hid rfl rfl (fun _ _ _ _ _ h=>by cases h) (fun _ _ _ _ _ h=>by cases h) (wv w _ _).symm rfl rfl rfl (fun b hb=>wu w _ _ b hb) rfl (fun e sz nl es v he=>by cases he) fun hV _=>?_;refine ⟨dn,_,e,setRow_heap w (p id) cur _ e _ hg,?_,GY bx aE.2.1,fun j c hj=>?_⟩
 ·rw [GZ j0];simp;omega
 ·rw [GW j0] at hj;have bo:=GX dV j;rw [hlen] at bo;split at hj
  ·rename_i aw;rw [if_pos aw] at bo;obtain ⟨u,hu,km⟩:=hv j c hj;exact ⟨u,by rw [List.getElem?_toArray,hlen,bo];simpa using hu,hV km⟩
  ·rename_i aw;rw [if_neg aw] at bo;split at hj
   ·rename_i nj;rw [if_pos nj] at bo;have bK:j - off < (a.eval y).cells.toList.length:=by rw [hlen];exact (List.getElem?_eq_some_iff.1 hj).1
    exact ⟨_,by rw [List.getElem?_toArray,hlen,bo];exact List.getElem?_eq_getElem bK,hV (aE.2.2 _ c _ hj (List.getElem?_eq_getElem bK))⟩
   ·rename_i nj;rw [if_neg nj] at bo;obtain ⟨u,hu,km⟩:=hv j c hj;exact ⟨u,by rw [List.getElem?_toArray,hlen,bo];simpa using hu,hV km⟩
theorem Ni {t:TypeId} {x y:Operand} {ti:TI} {id sz i off e:Nat} {nl:Bool} {es:List (List AV)} (R:Rel M0 w0 N p st a w) (aV:aU P t=some ti) (hx:ev st x = .aref id sz i off) (hid:st.h[id]? = some (some (.arr e sz nl es))) (hi:i < es.length) (h1:nZ (ev st y)=true)
  (hp:(fp (ev st y)).all (eP 5)=true) (h2:(fp (ev st y)).length=ti.size) (h3:off+ti.size≤sz) :
  ∃ w',(Instr.storeAt t (a.eval x) (a.eval y)).run P w = .ok () w'∧Rel M0 w0 N p ⟨st.s,st.h.set id (some (.arr e sz nl (es.set i (lH (es.getD i []) off (fp (ev st y))))))⟩ a w':=by
 have jH:=R.eval x;rw [hx] at jH;obtain ⟨hq,_⟩:=jH.aref_inv;have aE:=(R.eval y).cells h1;obtain ⟨aM,dp,hr⟩:=R.objs id _ hid;have bg:nl=false:=by cases nl;rfl;simp only [if_true] at hr;subst hr;simp at hi
 subst bg;simp only [Bool.false_eq_true,if_false] at hr;obtain ⟨dn,cur,hg,bV,hv⟩:=hr;have gA:(a.eval y).cells.size=ti.size:=by rw [←Array.length_toList,aE.1,h2]
 have hlen:(a.eval y).cells.toList.length=(fp (ev st y)).length:=aE.1;have CC:es[i]? = some (es.getD i []):=by simp [List.getD,hi]
 obtain ⟨lr,wx⟩:=dp i _ CC;have ba:(i+1)*sz≤es.length*sz:=Nat.mul_le_mul_right _ hi;rw [Nat.add_mul] at ba;refine ⟨_,by rw [hq];exact CB aV gA hg (by omega) (G0 aE),?_⟩;have dV:i*sz+off+(a.eval y).cells.toList.length≤cur.toList.length:=by simp;omega
 have j0:off+(fp (ev st y)).length≤(es.getD i []).length:=by omega
 have wy:∀ (j:Nat) (c:AV) (u:Value),(fp (ev st y))[j]? = some c→(a.eval y).cells.toList[j]? = some u→V0 w (Mof M0 st.h p) c u:=fun j c u hc hu=>(aE.2.2 j c u hc hu).pure 5 (List.all_eq_true.1 hp c (List.mem_of_getElem? hc));refine R.write hid rfl rfl (fun _ _ _ _ _ h=>by cases h) (fun _ _ _ _ _ h=>by cases h) (wv w _ _).symm rfl rfl rfl (fun b hb=>wu w _ _ b hb) rfl (fun e' bm kQ bQ v he ho=>?_) fun _ dF=>⟨aM,fun k z hk=>?_,?_⟩
 ·injection he with q1 q2 q3 q4
  subst q1 q2 q3 q4;have:=ho _ _ _ _ rfl;unfold Osl at this ⊢;simp only [Bool.false_eq_true,if_false,List.length_set] at this ⊢;obtain ⟨cap,cur',b1,b2,b3,b4⟩:=this;obtain rfl:cur'=cur:=by rw [hg] at b2;injection b2 with b2;injection b2 with b2;exact b2.symm
  refine ⟨cap,_,b1,setRow_heap w (p id) cur' _ e _ hg,?_,b4⟩;rw [←b3];simp;simp at dV;omega
 ·rw [List.getElem?_set] at hk;split at hk
  ·first|rw [if_pos hi] at hk|skip
   simp only [Option.some.injEq] at hk;subst hk;exact ⟨by rw [GZ j0,lr],GY wx aE.2.1⟩
  ·exact dp k z hk
 ·simp only [Bool.false_eq_true,if_false];refine ⟨dn,_,setRow_heap w (p id) cur _ e _ hg,?_,fun k z j c hk hj=>?_⟩
  ·simp;simp at dV;omega
  ·have bo:=GX dV (k*sz+j);rw [hlen] at bo;rw [List.getElem?_set] at hk;split at hk
   ·rename_i fO;subst fO;first|rw [if_pos hi] at hk|skip
    simp only [Option.some.injEq] at hk;subst hk;rw [GW j0] at hj;split at hj
    ·rename_i aw;rw [if_pos (by omega)] at bo;obtain ⟨u,hu,km⟩:=hv i _ j c CC hj;exact ⟨u,by rw [List.getElem?_toArray,hlen,bo];simpa using hu,dF km⟩
    ·rename_i aw;rw [if_neg (by omega)] at bo;split at hj
     ·rename_i nj;rw [if_pos (by omega)] at bo;have bK:j - off < (a.eval y).cells.toList.length:=by rw [hlen];exact (List.getElem?_eq_some_iff.1 hj).1
      refine ⟨(a.eval y).cells.toList[j - off],?_,dF (wy _ c _ hj (List.getElem?_eq_getElem bK))⟩;rw [List.getElem?_toArray,hlen,bo,show i*sz+j - (i*sz+off)=j - off by omega];exact List.getElem?_eq_getElem bK
     ·rename_i nj;rw [if_neg (by omega)] at bo;obtain ⟨u,hu,km⟩:=hv i _ j c CC hj;exact ⟨u,by rw [List.getElem?_toArray,hlen,bo];simpa using hu,dF km⟩
   ·rename_i fO;obtain ⟨u,hu,km⟩:=hv k z j c hk hj;have vb:=(dp k z hk).1;have bK:=(List.getElem?_eq_some_iff.1 hj).1;have CD:k*sz+j < i*sz+off∨i*sz+off+(fp (ev st y)).length≤k*sz+j:=by
     rcases Nat.lt_or_ge k i with aw|Nj
     ·left;have:(k+1)*sz≤i*sz:=Nat.mul_le_mul_right _ aw;rw [Nat.add_mul] at this;omega
     ·right;have:(i+1)*sz≤k*sz:=Nat.mul_le_mul_right _ (by omega);rw [Nat.add_mul] at this;omega
    refine ⟨u,?_,dF km⟩;rw [List.getElem?_toArray,hlen,bo];rcases CD with h|h
    ·rw [if_pos h];simpa using hu
    ·rw [if_neg (by omega),if_neg (by omega)];simpa using hu
end
section
variable {P:Program} {M0:Nat→Nat→Prop} {w0:Bas} {N:Nm} {p:Pl} {st:VS} {a:Act} {w:World}
theorem tS {d:Option Tmp} {av:AV} {ob:Ob} {aR:VS} (h:o7 st d av ob=some aR) : ∃ t,d=some t∧aR=⟨(t,av)::st.s,st.h++[some ob]⟩:=by
 unfold o7 at h;cases d with
 | none=>cases h
 | some t=>exact ⟨t,rfl,(Option.some.inj h).symm⟩
theorem EJ {t:TypeId} {ti te:TI} {n:Nat} (aV:aU P t=some ti) (f_:aU P ti.elem=some te) (hk:ti.kind=1) (h1:te.size=ti.esz) (h2:te.zero.length=ti.esz) (h3:ti.esz≠0) (hn:n≤1000000000) (jl:te.bytes≤100000) :
  (Instr.makeSlice t (.int .i64 n) (.int .i64 n)).run P w = .ok (.slice (some ⟨w.heap.size,0,none⟩) n n) { w with heap:=w.heap.push (.cells (eW te.zero n).toArray ti.elem) }:=by
 obtain ⟨z,hz,iX,ka⟩:=oP f_;have hu:=lF aV hk;have eL:ti.esz=dq P ti.elem:=by obtain ⟨d,i,z,hd,hi,hz,fc,rfl⟩:=eQ aV;rfl
 have bZ:0 < dq P ti.elem:=by omega
 have wz:∃ i:TypeInfo,(typeInfo ti.elem).run P w = .ok i w∧i.bytes=te.bytes:=by
  obtain ⟨d,i,z,hd,hi,hz,fc,rfl⟩:=eQ f_;exact ⟨i,by simp [typeInfo,hi],rfl⟩
 obtain ⟨inf,pj,hb⟩:=wz;have hw:IntKind.i64.wrap (n:Int)=n:=IntWalk.i64_in _ (by omega);have hmul:inf.bytes*n≤100000*1000000000:=Nat.mul_le_mul (by omega) hn;have G2:(inf.bytes:Int)*(n:Int)≤100000000000000:=by
  have:((inf.bytes*n:Nat) : Int)≤((100000*1000000000:Nat) : Int):=Int.ofNat_le.2 hmul;simpa using this
 have lJ:¬((n:Int) < 0):=by omega
 have oW:¬((inf.bytes:Int)*(n:Int) > 2 ^ 48):=by omega
 have iJ:z.cells.size=dq P ti.elem:=by rw [←Array.length_toList,hz,h2,eL]
 have ba:=Fx z.cells n (by omega);rw [hz] at ba;have sk:(Array.range (n*z.cells.size)).map (z.cells[· % z.cells.size]!)=(eW te.zero n).toArray:=by rw [←ba]
 have CF:decide ((inf.bytes:Int)*(n:Int) > 2 ^ 48)=false:=by simp;omega
 have Nk:¬((n:Int) > (n:Int)):=by omega
 simp only [Instr.makeSlice,Sem.run_bind,run_underlying hu,Result.andThen_ok,asInt,asIntOf,Sem.run_pure,pj,hw,CF,Sem.run_ite,lJ,Nk,decide_false,Bool.or_false,Bool.false_or,Bool.false_eq_true,if_false,run_askRoom,Int.toNat_natCast,j_ bZ];by_cases h0:n*dq P ti.elem=0
 ·have B1:n=0:=by
   rcases Nat.mul_eq_zero.1 h0 with h|h
   ·exact h
   ·omega
  subst B1;have e0:∀ f:Nat→Value,(Array.range 0).map f=#[]:=fun f=>by simp
  simp [newRow,eW,e0]
 ·simp only [Sem.run_bind,ka,Result.andThen_ok,Sem.run_pure,←iJ,sk,newRow,run_newObj];rw [if_neg (by rw [iJ];exact h0)]
theorem Ey {z:List Value} {n:Nat} : ∀ (k j:Nat) (c:AV) (u:Value),k < n→(z.map AV.lit)[j]? = some c→(eW z n)[k*z.length+j]? = some u→c = .lit u:=by
 intro k j c u hk hj hu;have bK:j < z.length:=by simpa using (List.getElem?_eq_some_iff.1 hj).1
 have aw:k*z.length+j < n*z.length:=by
  have:(k+1)*z.length≤n*z.length:=Nat.mul_le_mul_right _ hk;rw [Nat.add_mul] at this;omega
 rw [BY z n _ aw,Nat.mul_comm,Nat.mul_add_mod,Nat.mod_eq_of_lt bK] at hu;rw [List.getElem?_map,hu] at hj;simpa using hj.symm
theorem Nl (a:Addr) : loadCells a 0=pure #[]:=rfl
theorem G3 {P:Program} {w:World} {t ty e:TypeId} {i:TypeInfo} (ht:P.underlying t=some (.slice e)) (hi:P.info? e=some i) (a0:Addr) (B:Option Addr) (m c:Nat) (hm:0 < m) (hb:m*i.bytes≤281474976710656) (tt:m≤1000000000) :
  (Builtin.append_ #[t,t] ty #[.slice (some a0) 0 0,.slice B m c]).run P w=(Builtin.append_ #[t,t] ty #[.slice none 0 0,.slice B m c]).run P w:=by
 have h1:¬m=0:=by omega
 have h2:Builtin.nextslicecap m 0=m:=by unfold Builtin.nextslicecap;rw [if_pos (by omega)]
 have h3:¬(281474976710656 < m*i.bytes):=by omega
 have h4:¬((9223372036854775807:Int) < m):=by omega
 simp [Builtin.append_,run_underlying ht,sizeOf,typeInfo,hi,Builtin.lenOf,Builtin.firstCells,h1,h2,h3,h4,Nl]
theorem Nn {t ty e id sz d:Nat} {x y:Operand} {ti te:TI} {nl:Bool} {bQ es:List (List AV)} {G4:Array TypeId} (R:Rel M0 w0 N p st a w) (hd:N.has d) (aV:aU P t=some ti) (hx:ev st x = .osl id) (hy:ev st y = .sl sz es) (hid:st.h[id]? = some (some (.arr e sz nl bQ))) (f_:aU P ti.elem=some te)
  (hk:ti.kind=1) (he:ti.elem=e) (_hez:ti.esz=sz) (h1:te.size=sz) (h2:te.zero.length=sz) (eJ:nl=true→0 < es.length) (gK:bQ.length+es.length≤1000000000) (jl:te.bytes≤100000) (CG:G4=#[t,t]) :
  ∃ v w' p',(Builtin.append_ G4 ty #[a.eval x,a.eval y]).run P w = .ok v w'∧Rel M0 w0 N p' ⟨(d,.osl id)::st.s.map (fun q=>(q.1,purge id q.2)),ky id 0 (st.h.set id (some (.arr e sz false (bQ++es))))⟩ (a.put (some d) v) w':=by
 subst CG;subst he;have jH:=R.eval x;rw [hx] at jH;have jI:=R.eval y;rw [hy] at jI;obtain ⟨A0,n0,c0,hq,fk,bs⟩:=jH.osl_inv;have bs:=bs _ _ _ _ hid;obtain ⟨aM,wA,hr⟩:=R.objs id _ hid;obtain ⟨dd,inf,z,fu,hi,hz,iX,kD⟩:=eQ f_;have cG:inf.size=sz:=by rw [←h1,kD]
 have iJ:z.cells.size=sz:=by rw [←h2,kD,Array.length_toList]
 have pk:inf.bytes≤100000:=by rw [kD] at jl;exact jl
 have hu:=lF aV hk;have No:∃ vx:Value,(Builtin.append_ #[t,t] ty #[a.eval x,a.eval y]).run P w=(Builtin.append_ #[t,t] ty #[vx,a.eval y]).run P w∧(if nl=true then vx = .slice none 0 0∧bQ.length=0 else ∃ cap cur,vx = .slice (some ⟨p id,0,none⟩) bQ.length cap∧w.heap[p id]? = some (.cells cur ti.elem (0,0))∧cur.size=cap*sz∧bQ.length≤cap∧cap≤maxLen):=by
  unfold Osl at bs;cases nl
  ·simp only [Bool.false_eq_true,if_false] at bs ⊢;exact ⟨_,rfl,bs⟩
  ·simp only [if_true] at bs ⊢;obtain ⟨⟨A,hA⟩,h0⟩:=bs;refine ⟨_,?_,rfl,h0⟩;cases A with
   | none=>rw [hA]
   | some a0=>
    have oS:=eJ rfl;have cD:=jI.sl_inv;have dQ:es.length*inf.bytes≤281474976710656:=by
     have:es.length*inf.bytes≤1000000000*100000:=Nat.mul_le_mul (by omega) pk;omega
    obtain ⟨B,c,hB⟩ : ∃ B c,a.eval y = .slice B es.length c:=by
     generalize a.eval y=yv at cD;cases cD with
     | slNil=>simp at oS
     | sl _ _ cap b o u=>exact ⟨_,_,rfl⟩
    rw [hA,hB];exact G3 hu hi a0 B es.length c oS dQ (by omega)
 obtain ⟨vx,cm,bs⟩:=No;rw [cm];clear cm;have cf:∃ xs,w.ownsRow 0 ti.elem sz vx bQ.length xs∧(nl=true→xs=[]∧bQ=[])∧(nl=false→∃ cap cur,vx = .slice (some ⟨p id,0,none⟩) bQ.length cap∧w.heap[p id]? = some (.cells cur ti.elem (0,0))∧xs=cur.toList.take (bQ.length*sz)∧bQ.length*sz≤cur.size):=by
  cases nl
  ·simp only [Bool.false_eq_true,if_false] at hr;simp only [Bool.false_eq_true,if_false] at bs;obtain ⟨cap,cur,b1,b2,b3,b4,b5⟩:=bs;obtain ⟨dn,cur',hg,hle,hv⟩:=hr;obtain rfl:cur'=cur:=by rw [hg] at b2;injection b2 with b2;injection b2
   refine ⟨cur'.toList.take (bQ.length*sz),⟨by simp;omega,.inr ⟨p id,cap,cur',b1,Nat.zero_le _,hg,b4,b5,b3,rfl⟩⟩,(fun h=>by cases h),fun _=>⟨cap,cur',b1,hg,rfl,hle⟩⟩
  ·simp only [if_true] at hr;subst hr;simp only [if_true] at bs;exact ⟨[],⟨by simp,.inl ⟨bs.1,rfl⟩⟩,fun _=>⟨rfl,rfl⟩,fun h=>by cases h⟩
 obtain ⟨xs,cf,qN,k7⟩:=cf;obtain ⟨A1,m,c1,u,ph,hm,hS,CH,oF⟩ : ∃ (A1:Option Addr) (m c1:Nat) (u:Nat→Nat→Value),a.eval y = .slice A1 m c1∧m=es.length∧Sl (fun k=>(List.range sz).map fun j=>if k < es.length then u k j else .bool false) sz w A1 (List.range es.length) ∧
   (∀ k j,k < es.length→j < sz→(u k j).oneCell'=true)∧∀ (k:Nat) (x:List AV) (j:Nat) (c:AV),es[k]? = some x→x[j]? = some c→x.length=sz∧cY c=true∧V0 w (Mof M0 st.h p) c (u k j):=by
  have cD:=jI.sl_inv;generalize a.eval y=yv at cD;cases cD with
  | slNil _ A cap=>exact ⟨A,0,cap,fun _ _=>undef,rfl,rfl,fun h=>absurd rfl h,by simp,by simp⟩
  | sl _ _ cap b o u aC hb hM dh cg bx aE iw=>
   refine ⟨_,_,_,u,rfl,rfl,fun _=>⟨b,o,rfl,fun k q hk j v hj=>?_⟩,fun k j hk hj=>?_,fun k x j c hk hj=>⟨cg k x hk,bx k x j c hk hj,iw k x j c hk hj⟩⟩
   ·have bJ:k < es.length:=by simpa using (List.getElem?_eq_some_iff.1 hk).1
    have tu:k=q:=by simpa using (List.getElem?_eq_some_iff.1 hk).2
    subst tu;have bK:j < sz:=by simpa using (List.getElem?_eq_some_iff.1 hj).1
    have:v=u k j:=by
     have:=(List.getElem?_eq_some_iff.1 hj).2;simp [bJ] at this;exact this.symm
    rw [this];exact aE k j bJ bK
   ·have hx:=List.getElem?_eq_getElem hk;have bK:j < es[k].length:=by rw [cg k _ hx];exact hj
    exact (iw k _ j _ hx (List.getElem?_eq_getElem bK)).one (bx k _ j _ hx (List.getElem?_eq_getElem bK))
 subst hm;rw [ph];have mX:=DS _ cf;obtain ⟨A,c,tT⟩:=mX;rw [tT] at cf ⊢;have dQ:(bQ.length+es.length)*inf.bytes≤140737488355328:=by
  have:(bQ.length+es.length)*inf.bytes≤1000000000*100000:=Nat.mul_le_mul gK pk;omega
 obtain ⟨A2,c2,w',aG,wB,j1,cI⟩:=Jr (P:=P) w 0 t ty ti.elem inf z sz inf.bytes hu hi hz cG rfl iJ aM (C:=fun k=>(List.range sz).map fun j=>if k < es.length then u k j else .bool false) (fun x=>by simp) (fun x v hv=>by
  obtain ⟨j,hj,rfl⟩:=List.mem_map.1 hv;split
  ·rename_i hx;exact CH x j hx (by simpa using hj)
  ·rfl) A bQ.length c xs cf A1 es.length c1 (List.range es.length) (by simp) hS (by simp only [maxLen];omega) dQ (Nat.zero_le _)
 have pn:(Value.slice A2 (bQ.length+es.length) c2)≠.slice none 0 0:=by
  intro hh;injection hh with q1 q2 q3
  subst q1;rcases cI with hb|hb
  ·cases nl
   ·obtain ⟨cap,cur,b1,_⟩:=k7 rfl;rw [tT] at b1;injection b1 with b1
    subst b1;simp [Value.ownBlock] at hb
   ·have:=eJ rfl;omega
  ·simp [Value.ownBlock] at hb
 rcases wB.2 with ⟨h,_⟩|⟨g,nk,np,Np,Nq,G5,gC,lK,wC,vi⟩
 ·exact absurd h pn
 ·injection Np with q1 q2 q3
  subst q1;subst q3;have nr:g=w.heap.size∨(nl=false∧g=p id):=by
   rcases cI with hb|hb
   ·right;cases nl
    ·obtain ⟨cap,cur,b1,_⟩:=k7 rfl;rw [tT] at b1;injection b1 with b1
     subst b1;simp [Value.ownBlock] at hb;exact ⟨rfl,hb⟩
    ·rcases cf.2 with ⟨h,_⟩|⟨g',fw,cur',h,_⟩
     ·injection h with h1
      subst h1;simp [Value.ownBlock] at hb
     ·have:=(qN rfl)
      simp only [if_true] at bs;rw [tT,h] at bs;have:=bs.1;injection this with h1
      cases h1
   ·left;simpa [Value.ownBlock] using hb
  have ba:∀ b,b < w.heap.size→¬(nl=false∧b=p id)→w'.heap[b]? = w.heap[b]?:=by
   intro b hb hn;refine j1.block b hb fun hs=>?_;cases nl
   ·obtain ⟨cap,cur,b1,_⟩:=k7 rfl;rw [tT] at b1;injection b1 with b1
    subst b1;simp [Value.ownBlock] at hs;exact hn ⟨rfl,hs⟩
   ·unfold Osl at bs;simp only [if_true] at bs;rw [tT] at bs;have:=bs.1;injection this with h1
    subst h1;simp [Value.ownBlock] at hs
  have wD:∀ j,Fr w0 g j:=fun j=>by
   rcases nr with h|⟨h,h2⟩
   ·exact .inl (by rw [h];exact R.below.size)
   ·subst h;rw [h2];exact (R.objs id _ hid).ge rfl j
  refine ⟨_,w',cq p id g,aG,?_⟩;refine R.append hd hid wD nr j1.os j1.tape j1.output j1.size ba (fun dF=>⟨aM,fun k x hk=>?_,?_⟩) ?_
  ·rcases Nat.lt_or_ge k bQ.length with aw|dn
   ·rw [List.getElem?_append_left aw] at hk;exact wA k x hk
   ·rw [List.getElem?_append_right dn] at hk;have wE:0 < x.length∨x=[]:=by cases x;right;rfl;left;simp
    refine ⟨?_,fun c hc=>?_⟩
    ·rcases wE with wE|wE
     ·exact (oF _ x 0 x[0] hk (List.getElem?_eq_getElem wE)).1
     ·exfalso;have cD:=jI.sl_inv;generalize a.eval y=yv at cD;cases cD with
      | slNil=>simp at hk
      | sl _ _ _ _ _ _ _ _ _ _ cg=>have:=cg _ x hk;subst wE;simp at this;omega
    ·obtain ⟨j,hj⟩:=List.mem_iff_getElem?.1 hc;exact (oF _ x j c hk hj).2.1
  ·simp only [Bool.false_eq_true,if_false];refine ⟨⟨fun j=>by rw [(ko p id g).1];exact wD j,(ko p id g).2⟩,np,by rw [(ko p id g).1];exact G5,by rw [wC,List.length_append];exact Nat.mul_le_mul_right _ gC,fun k x j c hk hj=>?_⟩;have qO:∀ i v,i < (bQ.length+es.length)*sz→(xs++(List.range es.length).flatMap fun k=>(List.range sz).map fun j=>if k < es.length then u k j else .bool false)[i]? = some v→np[i]? = some v:=by
    intro i v hi hh;rw [←vi,List.getElem?_take_of_lt hi] at hh;simpa using hh
   have lr:xs.length=bQ.length*sz:=cf.1;have bK:=(List.getElem?_eq_some_iff.1 hj).1;rcases Nat.lt_or_ge k bQ.length with aw|dn
   ·rw [List.getElem?_append_left aw] at hk;have bg:nl=false:=by cases nl;rfl;have:=(qN rfl).2;subst this;simp at aw
    subst bg;simp only [Bool.false_eq_true,if_false] at hr;obtain ⟨_,cur',gX,oI,iw⟩:=hr;obtain ⟨cap,cur,b1,b2,b3,b4⟩:=k7 rfl;obtain rfl:cur'=cur:=by rw [gX] at b2;injection b2 with b2;injection b2
    obtain ⟨v,hv,cD⟩:=iw k x j c hk hj;have Nr:=(wA k x hk).1;have h3:(k+1)*sz≤bQ.length*sz:=Nat.mul_le_mul_right _ aw;rw [Nat.add_mul] at h3;refine ⟨v,qO _ v ?_ ?_,dF cD⟩
    ·rw [Nat.add_mul];omega
    ·rw [List.getElem?_append_left (by omega),b3,List.getElem?_take_of_lt (by omega)];simpa using hv
   ·rw [List.getElem?_append_right dn] at hk;obtain ⟨CI,_,cD⟩:=oF _ x j c hk hj;have bJ:=(List.getElem?_eq_some_iff.1 hk).1;refine ⟨u (k - bQ.length) j,qO _ _ ?_ ?_,dF cD⟩
    ·have h3:(k - bQ.length+1)*sz≤es.length*sz:=Nat.mul_le_mul_right _ bJ;have h4:k*sz=bQ.length*sz+(k - bQ.length)*sz:=by rw [←Nat.add_mul];congr 1;omega
     rw [Nat.add_mul] at h3;rw [Nat.add_mul];omega
    ·have h4:k*sz=bQ.length*sz+(k - bQ.length)*sz:=by rw [←Nat.add_mul];congr 1;omega
     rw [List.getElem?_append_right (by omega),lr,show k*sz+j - bQ.length*sz=(k - bQ.length)*sz+j by omega];exact Ng hk hj CI
  ·unfold Osl;simp only [Bool.false_eq_true,if_false,List.length_append];exact ⟨_,np,rfl,G5,wC,gC,lK⟩
def dz (N:Nm) (o:Oper) : Bool:=match o.dst with|some d=>Nat.ble N.k d&&Nat.blt d N.n|none=>true
theorem fL {o:Oper} (hd:dz N o=true) : ∀ t,o.dst=some t→N.has t:=by
 intro t ht;unfold dz at hd;rw [ht] at hd;simpa [Nm.has] using hd
theorem Ns {t:TypeId} {kf:Nat×IntKind} {d:Nat} (R:Rel M0 w0 N p st a w) (hd:N.has d) : (Instr.makeMap t none).run P w = .ok (.map (some w.heap.size)) (w.alloc (.map #[] 0))∧Rel M0 w0 N (cq p st.h.length w.heap.size) ⟨(d,.mp st.h.length)::st.s,st.h++[some (.mpo kf [])]⟩ (a.put (some d) (.map (some w.heap.size))) (w.alloc (.map #[] 0)):=by
 have hb:Below w.heap.size w (w.alloc (.map #[] 0)):=(Below.refl _ w).alloc (Nat.le_refl _) _;have aE:(w.alloc (.map #[] 0)).heap[w.heap.size]? = some (.map #[] 0):=(MapKept.heap_alloc w _).1;refine ⟨rfl,R.grow hb hd (fun _=>Nat.le_refl _) (fun _ _ _ _ _ h=>by cases h) ⟨rB R.below.size,(fun q hq=>(by cases hq)),#[],0,?_,rfl,K9 _⟩ ?_⟩
 ·rw [(ko p _ _).1];exact aE
 ·have:=V1.mp (w:=w.alloc (.map #[] 0)) (M:=Mof M0 (st.h++[some (.mpo kf [])]) (cq p st.h.length w.heap.size)) (h:=st.h++[some (Ob.mpo kf [])]) (p:=cq p st.h.length w.heap.size) st.h.length (by simp);simpa [cq] using this
theorem G6 {t:TypeId} {m x y:Operand} {aR:VS} (R:Rel M0 w0 N p st a w) (ht:vD P st t m x y=some aR) : ∃ w',(Instr.mapUpdate t (a.eval m) (a.eval x) (a.eval y)).run P w = .ok () w'∧Rel M0 w0 N p aR a w':=by
 unfold vD at ht;split at ht
 ·rename_i kf z id key val tA hm hx hy;split at ht
  ·rename_i tz iv hid;split at ht
   ·rename_i hc;obtain ⟨rfl,jX⟩:=hc;simp only [Option.some.injEq] at ht;subst ht;have em:=R.eval m;rw [hm] at em;obtain ⟨em,_⟩:=em.mp_inv;have ex:a.eval x=key:=by have:=R.eval x;rw [hx] at this;exact this.lit_inv
    have ey:a.eval y=val:=by have:=R.eval y;rw [hy] at this;exact this.lit_inv
    obtain ⟨h1,h2,es,clock,hg,h3,cC⟩:=R.objs id _ hid;obtain ⟨bQ,clock',aG,vA,CJ⟩:=LA (P:=P) (v:=val) tA jX hg (fun q hq=>h2 (q.key,q.val) (by rw [←h3];exact List.mem_map.2 ⟨q,hq,rfl⟩)) cC;refine ⟨_,by rw [em,ex,ey];exact aG,?_⟩;have aw:p id < w.heap.size:=(Array.getElem?_eq_some_iff.1 hg).1;refine R.write hid rfl rfl (fun _ _ _ _ _ h=>by cases h) (fun _ _ _ _ _ h=>by cases h) (by simp [ChangeMaps.setBlock]) rfl rfl rfl (fun b hb=>ChangeMaps.heap_setBlock_other hg _ hb) rfl (fun e sz nl es v h=>by cases h) fun _ _=>?_;refine ⟨h1,fun q hq=>?_,bQ,clock',ChangeMaps.heap_setBlock_same hg _,by rw [vA,h3],CJ⟩;have ns:∀ (l:List (Value×Value)),(∀ q∈l,jv q.1=some kf)→∀ q∈ic key val l,jv q.1=some kf:=by
     intro l;induction l with
     | nil=>intro _ q hq;simp [ic] at hq;subst hq;exact jX
     | cons c l ih=>
      intro hl q hq;obtain ⟨ck,cv⟩:=c;simp only [ic] at hq;split at hq
      ·rcases List.mem_cons.1 hq with rfl|hq
       ·exact jX
       ·exact hl q (List.mem_cons_of_mem _ hq)
      ·rcases List.mem_cons.1 hq with rfl|hq
       ·exact hl _ (List.mem_cons_self ..)
       ·exact ih (fun q hq=>hl q (List.mem_cons_of_mem _ hq)) q hq
    exact ns iv h2 q hq
   ·cases ht
  ·cases ht
 ·cases ht
theorem G7 (R:Rel M0 w0 N p st a w) {ow:List Nat} {o:Oper} {aR:VS} (hd:dz N o=true) (ht:lI P ow st o=some aR) :
  ∃ v w' p',(execOp a.eval o).run P w = .ok (.value v) w'∧Rel M0 w0 N p' aR (a.put o.dst v) w'∨(execOp a.eval o).run P w = .ok .skip w'∧v=undef∧Rel M0 w0 N p' aR (a.put o.dst undef) w':=by
 have aw:=fL hd;obtain ⟨dst,op,ty,pos,after,guard⟩:=o;simp only at aw;unfold lI at ht;simp only at ht;split at ht
 ·rename_i t;split at ht
  ·rename_i ti aV;obtain ⟨d,fu,rfl⟩:=tS ht;subst fu;obtain ⟨z,hz,iX,ka⟩:=oP aV;have hc:Cells w (Mof M0 st.h p) st.h p (ti.zero.map .lit) z.cells.toList:=by rw [hz];exact Cells.of_lits _ iX
   refine ⟨.pointer (some ⟨w.heap.size,0,none⟩),_,_,.inl ⟨?_,GU R (aw d rfl) hc t⟩⟩;simp [execOp,Instr.alloc,ka,newVar,newRow]
  ·cases ht
 ·rename_i t x;split at ht
  ·rename_i hc;simp only [Bool.and_eq_true] at hc;obtain ⟨d,fu,rfl⟩:=tS ht;subst fu;refine ⟨.pointer (some ⟨w.heap.size,0,none⟩),_,_,.inl ⟨?_,GU R (aw d rfl) ((R.eval x).cells hc.2) t⟩⟩;simp [execOp,Instr.box,newVar,newRow]
  ·cases ht
 ·rename_i t n parts;split at ht
  ·split at ht
   ·rename_i cs ti ba;split at ht
    ·rename_i hp;obtain ⟨d,fu,rfl⟩:=tS ht;subst fu;obtain ⟨us,aG,hc,hlen,aV,hk,bZ⟩:=B0 (P:=P) (w:=w) (M:=Mof M0 st.h p) (h:=st.h) (p:=p) (vals:=parts.map fun (i,x)=>(i,a.eval x)) (by simp) (fun i b v hb hv=>by
      obtain ⟨x,hx,rfl⟩:=dT hb;simp only [Array.toList_map] at hv;obtain ⟨y,hy,rfl⟩:=dT hv;rw [hx] at hy;obtain rfl:=Option.some.inj hy;exact R.eval x.2) ba
     have nM:=xJ ti.esz n cs;have bo:=fun k e=>xK ti.esz n cs k e (by omega);have oW:n≤maxLen:=by
      unfold tB at ba;rw [aV] at ba;simp only at ba;split at ba
      ·cases ba
      ·split at ba
       ·rename_i dX;have:=dX.2.2.2.2;have h2:n*1≤n*ti.esz:=Nat.mul_le_mul_left _ bZ;simp only [maxLen];omega
       ·cases ba
     have hrel:=GV (es:=jr ti.esz n cs) (e:=ti.elem) (sz:=ti.esz) R (aw d rfl) bZ (us:=us) (by rw [hc.1,hlen,nM]) (by rw [nM];exact oW) (fun k x hk=>⟨(bo k x hk).1,fun c gP=>by
      obtain ⟨j,hj⟩:=List.mem_iff_getElem?.1 gP;exact hc.2.1 c (List.mem_of_getElem? ((bo k x hk).2 j c hj))⟩) (fun k x j c u hk hj hu=>by
      have h1:=(bo k x hk).2 j c hj;exact (hc.2.2 _ c u h1 hu).pure 5 (List.all_eq_true.1 hp c (List.mem_of_getElem? h1)))
     rw [nM] at hrel;refine ⟨_,_,_,.inl ⟨?_,hrel⟩⟩;simp only [execOp,Sem.run_bind,aG];rfl
    ·cases ht
   ·cases ht
  ·cases ht
 ·split at ht
  ·split at ht
   ·rename_i ti aV;split at ht
    ·rename_i hc;obtain ⟨d,fu,rfl⟩:=tS ht;subst fu;exact ⟨.slice none 0 0,w,_,.inl ⟨rfl,Nh R (aw d rfl) (Nat.pos_of_ne_zero hc.2)⟩⟩
    ·cases ht
   ·cases ht
  ·cases ht
 ·rename_i t l c;split at ht
  ·rename_i ti n m aV hl ei;split at ht
   ·rename_i te f_;split at ht
    ·rename_i hc;obtain ⟨hk,h1,h2,h3,bI,h0,hn,jl⟩:=hc;subst bI;obtain ⟨d,fu,rfl⟩:=tS ht;subst fu;have e1:a.eval l = .int .i64 n:=by have:=R.eval l;rw [hl] at this;exact this.lit_inv
     have e2:a.eval c = .int .i64 n:=by have:=R.eval c;rw [ei] at this;exact this.lit_inv
     obtain ⟨k,rfl⟩:=Int.eq_ofNat_of_zero_le h0;have aG:=EJ (P:=P) (w:=w) aV f_ hk h1 h2 h3 (n:=k) (by omega) jl;obtain ⟨z,hz,iX,ka⟩:=oP f_;have hrel:=GV (es:=List.replicate k (te.zero.map .lit)) (e:=ti.elem) (sz:=ti.esz) (us:=eW te.zero k) R (aw d rfl) (Nat.pos_of_ne_zero h3) (by rw [tf,h2,List.length_replicate]) (by rw [List.length_replicate];simp only [maxLen];omega) (fun i x hx=>by
      obtain ⟨_,rfl⟩:=List.mem_replicate.1 (List.mem_of_getElem? hx);refine ⟨by simp [h2],fun c hc=>?_⟩;obtain ⟨z',uM,rfl⟩:=List.mem_map.1 hc;exact List.all_eq_true.1 iX z' uM) (fun i x j c u hx hj hu=>by
      obtain ⟨_,rfl⟩:=List.mem_replicate.1 (List.mem_of_getElem? hx);have p7:i < k:=by simpa using (List.getElem?_eq_some_iff.1 hx).1
      rw [←h2] at hu;rw [Ey i j c u p7 hj hu];exact .lit u)
     rw [List.length_replicate] at hrel;refine ⟨_,_,_,.inl ⟨?_,by simpa using hrel⟩⟩;simp only [execOp,e1,e2,Sem.run_bind];rw [show ((k:Int))=((k:Nat) : Int) from rfl,aG];rfl
    ·cases ht
   ·cases ht
  ·cases ht
 ·rename_i t x y;split at ht
  ·rename_i ti id off aV hx;split at ht
   ·rename_i cs hid;split at ht
    ·rename_i hc;simp only [Option.some.injEq] at ht;subst ht;obtain ⟨w',aG,hrel⟩:=G1 (P:=P) (y:=y) R aV hx hid hc.1 hc.2.1 hc.2.2;exact ⟨undef,w',p,.inr ⟨by simp only [execOp,Sem.run_bind,aG];rfl,rfl,hrel⟩⟩
    ·cases ht
   ·cases ht
  ·rename_i ti id sz i off aV hx;split at ht
   ·rename_i e bm nl es hid;split at ht
    ·rename_i hc;obtain ⟨rfl,hi,h1,h2,h3,h4⟩:=hc;simp only [Option.some.injEq] at ht;subst ht;obtain ⟨w',aG,hrel⟩:=Ni (P:=P) (y:=y) R aV hx hid hi h1 h2 h3 h4;exact ⟨undef,w',p,.inr ⟨by simp only [execOp,Sem.run_bind,aG];rfl,rfl,hrel⟩⟩
    ·cases ht
   ·cases ht
  ·cases ht
 ·rename_i xs ts;split at ht
  ·rename_i x y t t' d dG gq;split at ht
   ·rename_i ti id sz es aV hx hy;split at ht
    ·rename_i e bm nl bQ hid;split at ht
     ·rename_i te f_;split at ht
      ·rename_i hc;obtain ⟨rfl,hk,he,rfl,s_,h1,h2,eJ,gK,jl⟩:=hc;simp only [Option.some.injEq] at ht;subst ht;have e1:xs=#[x,y]:=by apply Array.ext';rw [dG]
       have e2:ts=#[t,t]:=by apply Array.ext';rw [gq]
       subst e1;obtain ⟨v,w',p',aG,hrel⟩:=Nn (P:=P) (ty:=ty) R (aw d rfl) aV hx hy hid f_ hk he s_ h1 h2 eJ gK jl e2;refine ⟨v,w',p',.inl ⟨?_,hrel⟩⟩;simp only [execOp,resolve,invoke,builtin,Sem.run_bind,Sem.run_pure,Result.andThen_ok,List.map_toArray,List.map_cons,List.map_nil,aG]
      ·cases ht
     ·cases ht
    ·cases ht
   ·cases ht
  ·cases ht
 ·rename_i t;split at ht
  ·rename_i kf z tA;obtain ⟨d,fu,rfl⟩:=tS ht;subst fu;obtain ⟨aG,hrel⟩:=Ns (P:=P) (t:=t) (kf:=kf) R (aw d rfl);exact ⟨_,_,_,.inl ⟨by simp only [execOp,Sem.run_bind,Option.map_none,aG];rfl,hrel⟩⟩
  ·cases ht
 ·rename_i t m x y;split at ht
  ·obtain ⟨w',aG,hrel⟩:=G6 (P:=P) R ht;exact ⟨undef,w',p,.inr ⟨by simp only [execOp,Sem.run_bind,aG];rfl,rfl,hrel⟩⟩
  ·cases ht
 ·rename_i t m x y;split at ht
  ·obtain ⟨w',aG,hrel⟩:=G6 (P:=P) R ht;exact ⟨undef,w',p,.inr ⟨by simp only [execOp,Sem.run_bind,aG];rfl,rfl,hrel⟩⟩
  ·cases ht
 ·cases ht
end
def dj (id:Nat) : Nat→AV→Bool
 | 0,_=>false
 | n+1,.agg cs=>cs.all (dj id n)
 | n+1,.tup cs=>cs.all (dj id n)
 | n+1,.fn _ x y=>x.all (dj id n)&&y.all (dj id n)
 | n+1,.iface _ v=>dj id n v
 | _+1,.slw i _ _ _=>i != id
 | _+1,_=>true
def unW (id:Nat) : AV→AV
 | .slw i k sz es=>if i=id then .sl sz es else .slw i k sz es
 | v=>if dj id 5 v=true then v else .any
def ry (id:Nat) : Option Ob→Bool
 | some (.box cs)=>cs.all (dj id 5)
 | _=>true
theorem nK (id:Nat) : ∀ (s:List (Nat×AV)) (i:Nat),lkp (s.map fun q=>(q.1,unW id q.2)) i=unW id (lkp s i)
 | [],_=>by simp [lkp,unW,dj]
 | (d,v)::r,i=>by
  simp only [List.map_cons,lkp];split
  ·rfl
  ·exact nK id r i
theorem Dist.symm {v v':Value} (h:Dist v v') : Dist v' v:=fun b o n c b' o' n' c' e e' l l' he=>h b' o' n' c' b o n c e' e l' l he.symm
theorem Spare.mono {w w':World} {p p':Pl} {id sz:Nat} {v:Value} (hp:p' id=p id) (hS:∀ b j,p.S id b j→p'.S id b j) (hb:∀ b j,p.S id b j→b < w.heap.size→w'.heap[b]? = w.heap[b]?) (h:Spare w p id sz v) : Spare w' p' id sz v:=by
 obtain ⟨A,n,cap,hv,hle,h⟩:=h;refine ⟨A,n,cap,hv,hle,fun aw=>?_⟩;obtain ⟨b,o,cur,t,h1,h2,h3,h4,h5,h6,h7⟩:=h aw;exact ⟨b,o,cur,t,h1,(hb b _ (h7 _ (Nat.le_refl _)) (Array.getElem?_eq_some_iff.1 h2).1).trans h2,h3,h4,h5,by rw [hp];exact h6,fun j hj=>hS b j (h7 j hj)⟩
section
variable {P:Program} {M0:Nat→Nat→Prop} {w0:Bas} {N:Nm} {p:Pl} {st:VS} {a:Act} {w:World}
theorem V1.bag {w w':World} {M M':Nat→Nat→Prop} {h h':Hp} {p p':Pl} {id:Nat} (hk:Keeps M w w') (hM:∀ b j,b < w.heap.size→¬M b j→¬M' b j) (hl:h.length≤h'.length) (hp:∀ i,p' i=p i)
  (hO:∀ i e sz nl es v,h'[i]? = some (some (.arr e sz nl es))→(∀ e sz nl es,h[i]? = some (some (.arr e sz nl es))→Osl w (p i) e sz nl es.length v)→Osl w' (p i) e sz nl es.length v)
  (hG:∀ i e sz nl au qs v,h'[i]? = some (some (.bag e sz nl au qs))→(∀ e sz nl au qs,h[i]? = some (some (.bag e sz nl au qs))→Osl w (p i) e 1 nl qs.length v)→Osl w' (p i) e 1 nl qs.length v)
  (hW:∀ i k sz v,i≠id→i < h.length→Sp w h p i k sz v→Sp w' h' p' i k sz v) :
  ∀ (n:Nat) (av:AV) (v:Value),V1 w M h p av v→dj id n av=true→V1 w' M' h' p' av v
 | 0,_,_,_,hb=>by simp [dj] at hb
 | n+1,av,v,hv,hb=>by
  have ih:=V1.bag (w:=w) (p:=p) (h:=h) hk hM hl hp hO hG hW n;cases hv with
  | base _ _ h0=>exact .base _ _ (h0.keep hk hM)
  | agg cs us hl h1 hv=>
   simp only [dj] at hb;exact .agg cs us hl h1 fun i c u hc hu=>ih c u (hv i c u hc hu) (List.all_eq_true.1 hb c (List.mem_of_getElem? hc))
  | tup cs us hl hv=>
   simp only [dj] at hb;exact .tup cs us hl fun i c u hc hu=>ih c u (hv i c u hc hu) (List.all_eq_true.1 hb c (List.mem_of_getElem? hc))
  | fn f x y us vs hl bp hv bB=>
   simp only [dj,Bool.and_eq_true] at hb;exact .fn f x y us vs hl bp (fun i c u hc hu=>ih c u (hv i c u hc hu) (List.all_eq_true.1 hb.1 c (List.mem_of_getElem? hc))) (fun i c u hc hu=>ih c u (bB i c u hc hu) (List.all_eq_true.1 hb.2 c (List.mem_of_getElem? hc)))
  | iface t x u hv=>exact .iface t x u (ih x u hv (by simpa [dj] using hb))
  | ref i off hid=>rw [←hp i];exact .ref i off (Nat.lt_of_lt_of_le hid hl)
  | aref i sz k off hid=>rw [←hp i];exact .aref i sz k off (Nat.lt_of_lt_of_le hid hl)
  | osl i A m c hid hv lh=>exact .osl i A m c (Nat.lt_of_lt_of_le hid hl) (fun e sz nl es he=>by rw [hp i];exact hO i e sz nl es _ he hv) fun e sz nl au qs he=>by rw [hp i];exact hG i e sz nl au qs _ he lh
  | slw i k sz es _ hid h0 hs=>
   have hn:i≠id:=by simpa [dj] using hb
   exact .slw i k sz es v (Nat.lt_of_lt_of_le hid hl) (h0.keep hk hM) (hW i k sz v hn hid hs)
  | mp i hid=>rw [←hp i];exact .mp i (Nat.lt_of_lt_of_le hid hl)
theorem Rel.bagSet {w':World} {h2:Hp} {p':Pl} {id k e sz:Nat} {au:Option Nat} {qs:List (List (List AV))} {es:List (List AV)} {v:Value} {cur:Array Value} (R:Rel M0 w0 N p st a w)
  (hi:st.h[id]? = some (some (.bag e sz false au qs))) (hk:k < qs.length) (cM:au=none∨au=some k) (bE:w.heap[p id]? = some (.cells cur e (0,0)))
  (jL:∀ (i:Nat) (cs:List AV),st.h[i]? = some (some (.box cs))→∀ c∈cs,dj id 5 c=true)
  (aM:w.heap.size=w'.heap.size) (m_:w'.os=w.os) (na:w'.tape=w.tape) (nb:w'.output=w.output) (cI:∀ b,b≠p id→w'.heap[b]? = w.heap[b]?) (ba:w'.heap[p id]? = some (.cells (cur.setIfInBounds k v) e (0,0)))
  (l5:h2.length=st.h.length) (ep:h2[id]? = some (some (.bag e sz false none (qs.set k es)))) (de:∀ (i:Nat) (ob:Ob),i≠id→h2[i]? = some (some ob)→st.h[i]? = some (some ob))
  (ee:∀ i,p' i=p i) (jK:∀ i,i≠id→p'.S i=p.S i) (Nt:∀ b j,p.S id b j→p'.S id b j)
  (CK:∀ b j,p'.S id b j→Fr w0 b j∧b < w.heap.size) (zw:∀ j,¬p'.S id (p id) j) (wF:∀ (i:Nat) (ob:Ob),i≠id→h2[i]? = some (some ob)→cH ob=true→∀ b j j',p.O i b j→¬p'.S id b j') (CL:∀ b j,p'.S id b j→Mof M0 st.h p b j)
  (cD:V0 w (Mof M0 h2 p') (.sl sz es) v) (iM:Spare w p' id sz v) (qP:∀ (k':Nat) (v':Value),k' < qs.length→k'≠k→cur[k']? = some v'→Dist v v') :
  Rel M0 w0 N p' ⟨st.s.map (fun q=>(q.1,unW id q.2)),h2⟩ a w':=by
 have fq:=(R.objs id _ hi)
 obtain ⟨lA,fq⟩:=fq;rw [if_neg (by simp)] at fq;obtain ⟨b1,b2,cur0,b3,b4,b5,b6⟩:=fq;have:cur0=cur:=by rw [bE] at b3;injection b3 with b3;injection b3 with b3;exact b3.symm
 subst this;have jh:∀ {i b j},i≠id→(p'.O i b j↔p.O i b j):=fun {i b j} hn=>by unfold Pl.O;rw [ee,jK i hn]
 have bH:cH (Ob.bag e sz false au qs)=true:=rfl;have hM:∀ b j,¬Mof M0 st.h p b j→¬Mof M0 h2 p' b j:=fun b j hn hm=>by
  rcases hm with hm|⟨i,o,aL,bD,hO⟩
  ·exact hn (.inl hm)
  ·by_cases he:i=id
   ·subst he;rcases hO with hO|hO
    ·exact hn (.inr ⟨i,_,hi,bH,.inl (by rw [←ee];exact hO)⟩)
    ·exact hn (CL b j hO)
   ·exact hn (.inr ⟨i,o,de i o he aL,bD,(jh he).1 hO⟩)
 have wG:Keeps (Mof M0 st.h p) w w':=.of_blocks (by omega) fun b _ hb=>cI b fun he=>hb fun j=>.inr ⟨id,_,hi,bH,.inl he.symm⟩;have CM:Keeps (Mof M0 h2 p') w w':=.of_blocks (by omega) fun b _ hb=>cI b fun he=>hb fun j=>.inr ⟨id,_,ep,rfl,.inl (by rw [ee,he])⟩;have aC:∀ i o,i≠id→st.h[i]? = some (some o)→cH o=true→∀ b j,p.O i b j→w'.heap[b]? = w.heap[b]?:=fun i o hn aL bD b j hO=>cI b fun he=>hn (R.inj i id o _ aL hi bD bH b j 0 hO (.inl he.symm));have dF:∀ {x:AV} {u:Value},V0 w (Mof M0 st.h p) x u→V0 w' (Mof M0 h2 p') x u:=fun hx=>hx.keep wG fun b j _=>hM b j;have hV:∀ {x:AV} {u:Value},V1 w (Mof M0 st.h p) st.h p x u→dj id 5 x=true→V1 w' (Mof M0 h2 p') h2 p' x u:=fun {x u} hx hn=>
  V1.bag wG (fun b j _=>hM b j) (by omega) ee (fun i e' bm nl bQ v' he hv=>by
   by_cases hid:i=id
   ·subst hid;rw [ep] at he;cases he
   ·have aL:=de i _ hid he;exact (hv _ _ _ _ aL).keep fun bg _=>aC i _ hid aL (by rw [bg];rfl) _ 0 (.inl rfl)) (fun i e' bm nl mF p8 v' he hv=>by
   by_cases hid:i=id
   ·subst hid;rw [ep] at he;simp only [Option.some.injEq,Ob.bag.injEq] at he;obtain ⟨rfl,rfl,rfl,rfl,rfl⟩:=he;have h1:=hv _ _ _ _ _ hi;unfold Osl at h1 ⊢;rw [if_neg (by simp)] at h1 ⊢;obtain ⟨cap,c1,e1,e2,e3,e4,e5⟩:=h1;have:c1=cur0:=by rw [bE] at e2;injection e2 with e2;injection e2 with e2;exact e2.symm
    subst this;exact ⟨cap,_,by rw [List.length_set];exact e1,ba,by rw [Array.size_setIfInBounds];exact e3,by rw [List.length_set];exact e4,e5⟩
   ·have aL:=de i _ hid he;exact (hv _ _ _ _ _ aL).keep fun bg _=>aC i _ hid aL (by rw [bg];rfl) _ 0 (.inl rfl)) (fun i k' bm v' hn _ hs=>hs.keep (fun e' rz xI p8 he=>by
   have aL:=de i _ hn he;exact ⟨aL,ee i,jK i hn,fun b j hO _=>aC i _ hn aL rfl b j hO⟩) (by omega)) 5 x u hx hn
 have hU:∀ {x:AV} {u:Value},V1 w (Mof M0 st.h p) st.h p x u→V1 w' (Mof M0 h2 p') h2 p' (unW id x) u:=fun {x u} hx=>by
  by_cases hs:∃ i k sz es,x = .slw i k sz es
  ·obtain ⟨i,k',bm,bQ,rfl⟩:=hs;by_cases hn:i=id
   ·rw [show unW id (.slw i k' bm bQ) = .sl bm bQ from if_pos hn];exact .base _ _ (dF hx.slw_inv.2.1)
   ·rw [show unW id (.slw i k' bm bQ) = .slw i k' bm bQ from if_neg hn];exact hV hx (by simpa [dj] using hn)
  ·have e:unW id x=if dj id 5 x=true then x else .any:=by cases x<;>first|rfl|exact absurd ⟨_,_,_,_,rfl⟩ hs
   rw [e];split
   ·rename_i hn;exact hV hx hn
   ·exact .base _ _ (.any _)
 have dn:=fun j=>(b1 (p id) j (.inl rfl)).1;refine ⟨R.defers,R.size,R.below.blocks m_ na nb (by omega) fun b _ hF=>cI b fun he=>hF fun j=>by rw [he];exact dn j,R.m0,R.x0,fun i=>?_,fun i o aL=>?_,fun i i' o o' aL bG bD eI x j j' hO cO=>?_⟩
 ·show V1 w' (Mof M0 h2 p') h2 p' (lkp (st.s.map fun q=>(q.1,unW id q.2)) i) _;rw [nK];exact hU (R.slots i)
 ·by_cases hid:i=id
  ·subst hid;rw [ep] at aL;simp only [Option.some.injEq] at aL;subst aL;refine ⟨lA,?_⟩;rw [if_neg (by simp)];have iZ:k < cur0.size:=by omega
   refine ⟨fun b j hO=>?_,fun j=>by rw [ee];exact zw j,cur0.setIfInBounds k v,by rw [ee];exact ba,by simp;omega,fun k0 x hx=>?_,fun k1 k2 v1 v2 h1 h2 nu _ _ e1 e2=>?_⟩
   ·rcases hO with hO|hO
    ·have:=b1 b j (.inl (by rw [←ee];exact hO));exact ⟨this.1,by omega⟩
    ·have:=CK b j hO;exact ⟨this.1,by omega⟩
   ·rw [List.getElem?_set] at hx;by_cases kE:k=k0
    ·subst kE;rw [if_pos rfl,if_pos hk] at hx;obtain rfl:=Option.some.inj hx;refine ⟨v,by simp [iZ],cD.keep CM fun b j _ h=>h,fun _=>iM.keep rfl rfl fun b j hS _=>cI b fun he=>zw j (by rw [←he];exact hS)⟩
    ·rw [if_neg kE] at hx;obtain ⟨v1,g1,g2,g3⟩:=b5 k0 x hx;refine ⟨v1,by rw [Array.getElem?_setIfInBounds_ne kE];exact g1,dF g2,fun _=>(g3 (by rcases cM with h|h<;>rw [h]<;>simp [kE])).mono (ee i) Nt fun b j hS _=>cI b fun he=>b2 j (by rw [←he];exact hS)⟩
   ·rw [List.length_set] at h1 h2;have fx:∀ k',k'≠k→au≠some k':=fun k' hn=>by rcases cM with h|h<;>rw [h]<;>simp [Ne.symm hn]
    by_cases dC:k1=k
    ·subst dC;rw [Array.getElem?_setIfInBounds_self_of_lt iZ] at e1;obtain rfl:=Option.some.inj e1;rw [Array.getElem?_setIfInBounds_ne nu] at e2;exact qP k2 v2 h2 (Ne.symm nu) e2
    ·rw [Array.getElem?_setIfInBounds_ne (Ne.symm dC)] at e1;by_cases cp:k2=k
     ·subst cp;rw [Array.getElem?_setIfInBounds_self_of_lt iZ] at e2;obtain rfl:=Option.some.inj e2;exact (qP k1 v1 h1 dC e1).symm
     ·rw [Array.getElem?_setIfInBounds_ne (Ne.symm cp)] at e2;exact b6 k1 k2 v1 v2 h1 h2 nu (fx k1 dC) (fx k2 cp) e1 e2
  ·have bG:=de i o hid aL;exact (R.objs i o bG).keep (fun _=>⟨ee i,jK i hid⟩) (fun bD b j hO _=>aC i o hid bG bD b j hO) (by omega) dF fun cs bV c hc u hx=>hV hx (jL i cs (by rw [bG,bV]) c hc)
 ·by_cases h1:i=id
  ·by_cases h2:i'=id
   ·rw [h1,h2]
   ·subst h1;have po:=de i' o' h2 bG;have my:=(jh h2).1 cO;rcases hO with hO|hO
    ·exact R.inj i i' _ o' hi po bH eI x j j' (.inl (by rw [←ee];exact hO)) my
    ·exact absurd hO (wF i' o' h2 bG eI x j' j my)
  ·have lP:=de i o h1 aL;have sn:=(jh h1).1 hO;by_cases h2:i'=id
   ·subst h2;rcases cO with cO|cO
    ·exact R.inj i i' o _ lP hi bD bH x j j' sn (.inl (by rw [←ee];exact cO))
    ·exact absurd cO (wF i o h1 aL bD x j j' sn)
   ·exact R.inj i i' o o' lP (de i' o' h2 bG) bD eI x j j' sn ((jh h2).1 cO)
theorem Nu {cur:Array Value} {k:Nat} {v:Value} (hk:k < cur.size) : (cur.toList.take k++[v]++cur.toList.drop (k+1)).toArray=cur.setIfInBounds k v:=by
 apply Array.ext';rw [Array.toList_setIfInBounds,List.set_eq_take_append_cons_drop,if_pos (by simpa using hk)];simp
theorem Keeps.same (M:Nat→Nat→Prop) (w:World) : Keeps M w w:=.of_blocks (Nat.le_refl _) fun _ _ _=>rfl
section
variable {id k e sz:Nat} {au:Option Nat} {qs:List (List (List AV))} {es:List (List AV)} {v:Value}
theorem Rel.bagRow (R:Rel M0 w0 N p st a w) (hi:st.h[id]? = some (some (.bag e sz false au qs))) : BagOK w0 w (Mof M0 st.h p) p id e sz au qs:=by
 obtain ⟨_,h⟩:=R.objs id _ hi;rwa [if_neg (by simp)] at h
theorem Rel.bagStore {cur:Array Value} (R:Rel M0 w0 N p st a w) (hi:st.h[id]? = some (some (.bag e sz false au qs))) (hk:k < qs.length) (cM:au=none∨au=some k) (bE:w.heap[p id]? = some (.cells cur e (0,0)))
  (jL:∀ (i:Nat) (cs:List AV),st.h[i]? = some (some (.box cs))→∀ c∈cs,dj id 5 c=true) (hv:V1 w (Mof M0 st.h p) st.h p (.slw id k sz es) v) :
  Rel M0 w0 N p ⟨st.s.map (fun q=>(q.1,unW id q.2)),st.h.set id (some (.bag e sz false none (qs.set k es)))⟩ a (w.setRow (p id) (cur.setIfInBounds k v)):=by
 have hB:=R.bagRow hi;obtain ⟨_,h0,hs⟩:=hv.slw_inv;obtain ⟨_,iM,_,qP⟩:=hs _ _ _ _ hi;have hid:=(List.getElem?_eq_some_iff.1 hi).1;have bH:cH (Ob.bag e sz false au qs)=true:=rfl;have fx:∀ k',k'≠k→au≠some k':=fun k' hn=>by rcases cM with h|h<;>rw [h]<;>simp [Ne.symm hn]
 have de:∀ (i:Nat) (ob:Ob),i≠id→(st.h.set id (some (Ob.bag e sz false none (qs.set k es))))[i]? = some (some ob)→st.h[i]? = some (some ob):=fun i ob hn h=>by rwa [List.getElem?_set_ne (Ne.symm hn)] at h
 refine R.bagSet hi hk cM bE jL (wv w _ _).symm rfl rfl rfl (fun b hb=>wu w _ _ b hb) (setRow_heap w (p id) cur _ e _ bE) (by simp) (List.getElem?_set_self hid) de (fun _=>rfl) (fun _ _=>rfl) (fun _ _ h=>h)
  (fun b j hS=>hB.1 b j (.inr hS)) hB.2.1 (fun i ob hn aL bD b j j' hO hS=>hn (R.inj i id ob _ (de i ob hn aL) hi bD bH b j j' hO (.inr hS))) (fun b j hS=>.inr ⟨id,_,hi,bH,.inr hS⟩)
  (h0.keep (Keeps.same _ w) fun b j _ hn hm=>hn ?_) iM fun k' v' dy aC bB=>qP cur e k' v' bE dy aC (fx k' aC) bB
 rcases hm with hm|⟨i,o,aL,bD,hO⟩
 ·exact .inl hm
 ·by_cases he:i=id
  ·subst he;exact .inr ⟨i,_,hi,bH,hO⟩
  ·exact .inr ⟨i,o,de i o he aL,bD,hO⟩
theorem Rel.bagTake {cur:Array Value} {r er:Nat} {nl:Bool} (R:Rel M0 w0 N p st a w) (hi:st.h[id]? = some (some (.bag e sz false au qs))) (hk:k < qs.length) (cM:au=none∨au=some k) (bE:w.heap[p id]? = some (.cells cur e (0,0)))
  (jL:∀ (i:Nat) (cs:List AV),st.h[i]? = some (some (.box cs))→∀ c∈cs,dj id 5 c=true) (hr:st.h[r]? = some (some (.arr er sz nl es))) (hv:V1 w (Mof M0 st.h p) st.h p (.osl r) v) :
  ∃ p',Rel M0 w0 N p' ⟨st.s.map (fun q=>(q.1,unW id q.2)),(st.h.set r none).set id (some (.bag e sz false none (qs.set k es)))⟩ a (w.setRow (p id) (cur.setIfInBounds k v)):=by
 have hB:=R.bagRow hi;have hid:=(List.getElem?_eq_some_iff.1 hi).1;have wH:r≠id:=fun h=>by rw [h,hi] at hr;cases hr
 have bH:cH (Ob.bag e sz false au qs)=true:=rfl;have fx:∀ k',k'≠k→au≠some k':=fun k' hn=>by rcases cM with h|h<;>rw [h]<;>simp [Ne.symm hn]
 have ep:((st.h.set r none).set id (some (Ob.bag e sz false none (qs.set k es))))[id]? = some (some (Ob.bag e sz false none (qs.set k es))):=List.getElem?_set_self (by simpa using hid);have CN:∀ (i:Nat) (ob:Ob),i≠id→((st.h.set r none).set id (some (Ob.bag e sz false none (qs.set k es))))[i]? = some (some ob)→i≠r:=fun i ob hn h he=>by
  subst he;rw [List.getElem?_set_ne (Ne.symm hn),List.getElem?_set] at h;simp at h
 have de:∀ (i:Nat) (ob:Ob),i≠id→((st.h.set r none).set id (some (Ob.bag e sz false none (qs.set k es))))[i]? = some (some ob)→st.h[i]? = some (some ob):=fun i ob hn h=>by
  have Nv:=CN i ob hn h;rwa [List.getElem?_set_ne (Ne.symm hn),List.getElem?_set_ne (Ne.symm Nv)] at h
 obtain ⟨A,n,c,hq,_,bs⟩:=hv.osl_inv;have bs:=bs _ _ _ _ hr;obtain ⟨lA,oS,ba⟩:=R.objs r _ hr;cases nl
 ·rw [if_neg (by simp)] at ba;obtain ⟨cf,cr,hg,hle,dw⟩:=ba;unfold Osl at bs;rw [if_neg (by simp)] at bs;obtain ⟨cap,wI,e1,e2,e3,e4,e5⟩:=bs;have:wI=cr:=by rw [hg] at e2;injection e2 with e2;injection e2 with e2;exact e2.symm
  subst this;have tU:cH (Ob.arr er sz false es)=true:=rfl;have CO:p r≠p id:=fun h=>wH (R.inj r id _ _ hr hi tU bH (p r) 0 0 (.inl rfl) (.inl h.symm));have G8:∀ j,¬p.S id (p r) j:=fun j h=>wH (R.inj r id _ _ hr hi tU bH (p r) 0 j (.inl rfl) (.inr h));have fB:=(Array.getElem?_eq_some_iff.1 hg).1;refine ⟨⟨p.b,fun i=>if i=id then fun b j=>p.S id b j∨(b=p r∧es.length*sz≤j) else p.S i⟩,?_⟩;have hM:∀ b j,¬Mof M0 st.h p b j→¬Mof M0 ((st.h.set r none).set id (some (Ob.bag e sz false none (qs.set k es)))) ⟨p.b,fun i=>if i=id then fun b j=>p.S id b j∨(b=p r∧es.length*sz≤j) else p.S i⟩ b j:=fun b j hn hm=>by
   rcases hm with hm|⟨i,o,aL,bD,hO⟩
   ·exact hn (.inl hm)
   ·by_cases he:i=id
    ·subst he;rcases hO with hO|hO
     ·exact hn (.inr ⟨i,_,hi,bH,.inl hO⟩)
     ·simp only [if_true] at hO;rcases hO with hO|⟨rfl,_⟩
      ·exact hn (.inr ⟨i,_,hi,bH,.inr hO⟩)
      ·exact hn (.inr ⟨r,_,hr,tU,.inl rfl⟩)
    ·refine hn (.inr ⟨i,o,de i o he aL,bD,?_⟩);rcases hO with hO|hO
     ·exact .inl hO
     ·simp only [if_neg he] at hO;exact .inr hO
  refine R.bagSet hi hk cM bE jL (wv w _ _).symm rfl rfl rfl (fun b hb=>wu w _ _ b hb) (setRow_heap w (p id) cur _ e _ bE) (by simp) ep de (fun _=>rfl) (fun i hn=>by simp only [if_neg hn]) (fun b j h=>by simp only [if_true];exact .inl h)
   (fun b j hS=>?_) (fun j hS=>?_) (fun i ob hn aL bD b j j' hO hS=>?_) (fun b j hS=>?_) ?_ ?_ fun k' v' dy aC bB=>?_
  ·simp only [if_true] at hS;rcases hS with hS|⟨rfl,_⟩
   ·exact hB.1 b j (.inr hS)
   ·exact ⟨cf.1 j,fB⟩
  ·simp only [if_true] at hS;rcases hS with hS|⟨h,_⟩
   ·exact hB.2.1 j hS
   ·exact CO h.symm
  ·simp only [if_true] at hS;rcases hS with hS|⟨rfl,_⟩
   ·exact hn (R.inj i id ob _ (de i ob hn aL) hi bD bH b j j' hO (.inr hS))
   ·exact CN i ob hn aL (R.inj i r ob _ (de i ob hn aL) hr bD tU _ j 0 hO (.inl rfl))
  ·simp only [if_true] at hS;rcases hS with hS|⟨rfl,_⟩
   ·exact .inr ⟨id,_,hi,bH,.inr hS⟩
   ·exact .inr ⟨r,_,hr,tU,.inl rfl⟩
  ·rw [e1];by_cases dp:es=[]
   ·subst dp;exact .slNil _ _ _
   ·have bo:∀ k j,k < es.length→j < sz→k*sz+j < wI.size∧k*sz+j < es.length*sz:=fun k j h1 h2=>by
     have:(k+1)*sz≤es.length*sz:=Nat.mul_le_mul_right _ h1;rw [Nat.add_mul] at this;omega
    refine .sl sz es cap (p r) 0 (fun k j=>(wI[k*sz+j]?).getD undef) dp fB (fun k1 j h1 h2 hm=>?_) e4 (fun k1 x hx=>(oS k1 x hx).1) (fun k1 x j c hx hc=>(oS k1 x hx).2 c (List.mem_of_getElem? hc)) (fun k1 j h1 h2=>?_) fun k1 x j c hx hc=>?_
    ·rw [Nat.zero_add] at hm;have CP:=(bo k1 j h1 h2).2;rcases hm with hm|⟨i,o,aL,bD,hO⟩
     ·exact R.h0 _ _ hm (cf.1 _)
     ·by_cases he:i=id
      ·subst he;rcases hO with hO|hO
       ·exact CO hO.symm
       ·simp only [if_true] at hO;rcases hO with hO|⟨_,hO⟩
        ·exact G8 _ hO
        ·omega
      ·refine CN i o he aL (R.inj i r o _ (de i o he aL) hr bD tU (p r) (k1*sz+j) 0 ?_ (.inl rfl));rcases hO with hO|hO
       ·exact .inl hO
       ·simp only [if_neg he] at hO;exact .inr hO
    ·rw [cell_of_row w (p r) _ wI er (0,0) hg,Nat.zero_add];have:=(bo k1 j h1 h2).1;simp [this]
    ·obtain ⟨u,hu,cD⟩:=dw k1 x j c hx hc;rw [hu];exact cD.keep (Keeps.same _ w) fun b j _=>hM b j
  ·rw [e1];refine ⟨_,_,_,rfl,e4,fun _=>⟨p r,0,wI,er,rfl,hg,by rw [Nat.zero_add,e3];exact Nat.le_refl _,e5,lA,CO,fun j hj=>?_⟩⟩;simp only [if_true];exact .inr ⟨trivial,by omega⟩
  ·rw [e1];intro b o n1 c1 b' o' n' c' h1 h2 l1 l2 he;simp only [Value.slice.injEq,Option.some.injEq,Addr.mk.injEq] at h1;obtain ⟨⟨rfl,_,_⟩,_,_⟩:=h1;obtain ⟨_,_,cur0,tV,_,Nw,_⟩:=R.bagRow hi;have ei:cur0=cur:=by rw [bE] at tV;injection tV with tV;injection tV with tV;exact tV.symm
   subst ei;obtain ⟨v2,g1,_,g3⟩:=Nw k' _ (List.getElem?_eq_getElem dy);rw [bB] at g1;obtain rfl:=Option.some.inj g1;obtain ⟨A2,n2,nk,q1,q2,q3⟩:=g3 (fx k' aC);rw [h2] at q1;simp only [Value.slice.injEq] at q1;obtain ⟨rfl,rfl,rfl⟩:=q1;obtain ⟨b2,o2,_,_,q4,_,_,_,_,_,q5⟩:=q3 l2;simp only [Option.some.injEq,Addr.mk.injEq] at q4;obtain ⟨rfl,rfl,_⟩:=q4;exact G8 _ (by rw [he];exact q5 _ (Nat.le_refl _))
 ·rw [if_pos rfl] at ba;subst ba;unfold Osl at bs;rw [if_pos rfl] at bs;refine ⟨p,?_⟩;refine R.bagSet hi hk cM bE jL (wv w _ _).symm rfl rfl rfl (fun b hb=>wu w _ _ b hb) (setRow_heap w (p id) cur _ e _ bE) (by simp) ep de (fun _=>rfl) (fun _ _=>rfl) (fun _ _ h=>h)
   (fun b j hS=>hB.1 b j (.inr hS)) hB.2.1 (fun i ob hn aL bD b j j' hO hS=>hn (R.inj i id ob _ (de i ob hn aL) hi bD bH b j j' hO (.inr hS))) (fun b j hS=>.inr ⟨id,_,hi,bH,.inr hS⟩)
   ?_ ?_ fun k' v' _ _ _=>?_
  ·obtain ⟨⟨A,bs⟩,_⟩:=bs;rw [bs];exact .slNil _ _ _
  ·obtain ⟨⟨A,bs⟩,_⟩:=bs;rw [bs];exact ⟨A,0,0,rfl,Nat.le_refl _,fun h=>by omega⟩
  ·obtain ⟨⟨A,bs⟩,_⟩:=bs;rw [bs];intro b o n1 c1 b' o' n' c' h1 _ l1;simp only [Value.slice.injEq] at h1;omega
end
end
end Go.Proofs.YtoibondihdhnoaaGreatDoor
