/- Texts in one: Walks on plain values: the layer; of every program; no condition. -/
import Derived.Test.YtoibondihdhnoaaDoorFRX3
import Derived.IntWalk
import Derived.Deep.LoopGhost
import Derived.Test.YtoibondihdhnoaaDoorFRX1
namespace Go.Proofs.YtoibondihdhnoaaDoor
open Go.RowKit
section
variable {P:Program} {M0:Nat→Nat→Prop} {w0:Bas} {N:Nm} {p:Pl} {st:VS} {a:Act} {w:World}
def p1_ (p:Pl) (n b:Nat) : Pl:=⟨fun i=>if i=n then b else p i,fun i=>if i=n then fun _ _=>False else p.S i⟩
theorem i2_ {p:Pl} {n b i:Nat} (h:i≠n) : p1_ p n b i=p i∧(p1_ p n b).S i=p.S i:=⟨if_neg h,if_neg h⟩
theorem k0_ (p:Pl) (n b:Nat) : p1_ p n b n=b∧∀ x j,¬(p1_ p n b).S n x j:=⟨if_pos rfl,fun x j h=>by simp [p1_] at h⟩
theorem o4_ {p:Pl} {n b i x j:Nat} (h:i≠n) : (p1_ p n b).O i x j↔p.O i x j:=by unfold Pl.O;rw [(i2_ h).1,(i2_ h).2]
theorem p3_ {p:Pl} {n b x j:Nat} (h:(p1_ p n b).O n x j) : x=b:=h.elim (fun h=>h.symm.trans (k0_ p n b).1) fun h=>absurd h ((k0_ p n b).2 x j)
theorem a8n {h:Hp} {x:Option Ob} {id:Nat} {ob:Ob} (hi:(h++[x])[id]? = some (some ob)) : (id < h.length∧h[id]? = some (some ob))∨(id=h.length∧x=some ob):=by
 rcases Nat.lt_trichotomy id h.length with hlt|heq|hgt
 ·rw [List.getElem?_append_left hlt] at hi;exact .inl ⟨hlt,hi⟩
 ·subst heq;rw [List.getElem?_append_right (Nat.le_refl _)] at hi;simp at hi;exact .inr ⟨rfl,hi⟩
 ·rw [List.getElem?_eq_none (by simp;omega)] at hi;cases hi
theorem a3i {h:Hp} {x:Option Ob} {id:Nat} (hi:id < h.length) : (h++[x])[id]? = h[id]?:=List.getElem?_append_left hi
theorem Rel.growM {ob:Ob} {b:Nat} (_R:Rel M0 w0 N p st a w) (hb0:m8_ ob=true→w.heap.size≤b) : ∀ c j,c < w.heap.size→¬Mof M0 st.h p c j→¬Mof M0 (st.h++[some ob]) (p1_ p st.h.length b) c j:=by
 intro c j hc hn hm;rcases hm with hm|⟨id,ob',hi,hl,hpc⟩
 ·exact hn (.inl hm)
 ·rcases a8n hi with ⟨hlt,hi'⟩|⟨rfl,hx⟩
  ·exact hn (.inr ⟨id,ob',hi',hl,(o4_ (Nat.ne_of_lt hlt)).1 hpc⟩)
  ·obtain rfl:=Option.some.inj hx;have:=p3_ hpc;have:=hb0 hl;omega
theorem Rel.growV {w':World} {ob:Ob} {b:Nat} (R:Rel M0 w0 N p st a w) (hb:Below w.heap.size w w') (hb0:m8_ ob=true→w.heap.size≤b) {x:AV} {u:Value} (hx:V1 w (Mof M0 st.h p) st.h p x u) : V1 w' (Mof M0 (st.h++[some ob]) (p1_ p st.h.length b)) (st.h++[some ob]) (p1_ p st.h.length b) x u:=by
 have hp:∀ id,id < st.h.length→p1_ p st.h.length b id=p id:=fun id hid=>(i2_ (Nat.ne_of_lt hid)).1;exact hx.keep (.of_below hb) (R.growM hb0) (by simp) hp (fun id e sz nl es u hid he hv=>by
   rw [a3i hid] at he;exact (hv e sz nl es he).below hb) (fun id e sz nl pend qs u hid he hv=>by
   rw [a3i hid] at he;exact (hv e sz nl pend qs he).below hb) fun id k sz v hid hs=>hs.keep (fun e sz pend qs he=>by
   rw [a3i hid] at he;exact ⟨he,hp id hid,(i2_ (Nat.ne_of_lt hid)).2,fun b _ _ hlt=>hb.block b hlt⟩) hb.size
theorem a1k {w0:Bas} {n b:Nat} (h:w0.w.heap.size≤b) : Own w0 (p1_ p n b) n:=⟨fun j=>.inl (by rw [(k0_ p n b).1];exact h),(k0_ p n b).2⟩
theorem Rel.grow {w':World} {ob:Ob} {b:Nat} {d:Nat} {av:AV} {v:Value} (R:Rel M0 w0 N p st a w) (hb:Below w.heap.size w w') (hd:N.has d) (hb0:m8_ ob=true→w.heap.size≤b) (_hnb:∀ e sz nl pend qs,ob≠.bag e sz nl pend qs)
  (hob:ObOK w0 w' (Mof M0 (st.h++[some ob]) (p1_ p st.h.length b)) (st.h++[some ob]) (p1_ p st.h.length b) st.h.length ob)
  (hv:V1 w' (Mof M0 (st.h++[some ob]) (p1_ p st.h.length b)) (st.h++[some ob]) (p1_ p st.h.length b) av v) :
  Rel M0 w0 N (p1_ p st.h.length b) ⟨(d,av)::st.s,st.h++[some ob]⟩ (a.put (some d) v) w':=by
 have hp:∀ id,id < st.h.length→p1_ p st.h.length b id=p id:=fun id hid=>(i2_ (Nat.ne_of_lt hid)).1;have hM:∀ c j,c < w.heap.size→¬Mof M0 st.h p c j→¬Mof M0 (st.h++[some ob]) (p1_ p st.h.length b) c j:=by
  intro c j hc hn hm;rcases hm with hm|⟨id,ob',hi,hl,hpc⟩
  ·exact hn (.inl hm)
  ·rcases a8n hi with ⟨hlt,hi'⟩|⟨rfl,hx⟩
   ·exact hn (.inr ⟨id,ob',hi',hl,(o4_ (Nat.ne_of_lt hlt)).1 hpc⟩)
   ·obtain rfl:=Option.some.inj hx;have:=p3_ hpc;have:=hb0 hl;omega
 have hV:∀ {x:AV} {u:Value},V1 w (Mof M0 st.h p) st.h p x u→V1 w' (Mof M0 (st.h++[some ob]) (p1_ p st.h.length b)) (st.h++[some ob]) (p1_ p st.h.length b) x u:=fun hx=>
  hx.keep (.of_below hb) hM (by simp) hp (fun id e sz nl es u hid he hv=>by
   rw [a3i hid] at he;exact (hv e sz nl es he).below hb) (fun id e sz nl pend qs u hid he hv=>by
   rw [a3i hid] at he;exact (hv e sz nl pend qs he).below hb) fun id k sz v hid hs=>hs.keep (fun e sz pend qs he=>by
   rw [a3i hid] at he;exact ⟨he,hp id hid,(i2_ (Nat.ne_of_lt hid)).2,fun b _ _ hlt=>hb.block b hlt⟩) hb.size
 have hobs:∀ id ob',(st.h++[some ob])[id]? = some (some ob')→(id < st.h.length∧st.h[id]? = some (some ob'))∨(id=st.h.length∧ob=ob'):=fun id ob' hi=>by
  rcases a8n hi with h|⟨h1,h2⟩
  ·exact .inl h
  ·exact .inr ⟨h1,Option.some.inj h2⟩
 refine ⟨R.defers,R.size.put hd,R.below.later hb,R.m0,R.x0,fun i=>?_,fun id ob' hi=>?_,fun id id' ob1 ob2 hi hi' hl hl' x j j' hO hO'=>?_⟩
 ·rw [k9_ a d v i (R.size.lt hd)];simp only [lkp];split
  ·exact hv
  ·exact hV (R.slots i)
 ·rcases hobs id ob' hi with ⟨hlt,hi'⟩|⟨rfl,rfl⟩
  ·exact (R.objs id ob' hi').keep (fun _=>i2_ (Nat.ne_of_lt hlt)) (fun _ b _ _ hbl=>hb.block b hbl) hb.size (fun hx=>hx.keep (.of_below hb) hM) fun _ _ _ _ _ hx=>hV hx
  ·exact hob
 ·rcases hobs id ob1 hi with ⟨hlt,hi1⟩|⟨rfl,rfl⟩<;>rcases hobs id' ob2 hi' with ⟨hlt',hi2⟩|⟨rfl,rfl⟩
  ·exact R.inj id id' _ _ hi1 hi2 hl hl' x j j' ((o4_ (Nat.ne_of_lt hlt)).1 hO) ((o4_ (Nat.ne_of_lt hlt')).1 hO')
  ·have h1:=((R.objs id ob1 hi1).own hl x j ((o4_ (Nat.ne_of_lt hlt)).1 hO)).2;have h2:=hb0 hl';have h3:=p3_ hO';omega
  ·have h1:=((R.objs id' ob2 hi2).own hl' x j' ((o4_ (Nat.ne_of_lt hlt')).1 hO')).2;have h2:=hb0 hl;have h3:=p3_ hO;omega
  ·rfl
theorem Rel.write {w':World} {h':Hp} {id:Nat} {ob ob':Ob} (R:Rel M0 w0 N p st a w) (hi:st.h[id]? = some (some ob)) (hl:m8_ ob=true) (hl':m8_ ob'=true) (_hnb:∀ e sz nl pend qs,ob≠.bag e sz nl pend qs) (hnb':∀ e sz nl pend qs,ob'≠.bag e sz nl pend qs) (hsz:w.heap.size=w'.heap.size) (hos:w'.os=w.os) (htp:w'.tape=w.tape) (hou:w'.output=w.output)
  (hblk:∀ b,b≠p id→w'.heap[b]? = w.heap[b]?) (hh:h'=st.h.set id (some ob'))
  (hosl:∀ e sz nl es v,ob' = .arr e sz nl es→(∀ e sz nl es,ob = .arr e sz nl es→Osl w (p id) e sz nl es.length v)→Osl w' (p id) e sz nl es.length v)
  (hob:(∀ {x:AV} {u:Value},V1 w (Mof M0 st.h p) st.h p x u→V1 w' (Mof M0 h' p) h' p x u)→(∀ {x:AV} {u:Value},V0 w (Mof M0 st.h p) x u→V0 w' (Mof M0 h' p) x u)→ObOK w0 w' (Mof M0 h' p) h' p id ob') :
  Rel M0 w0 N p ⟨st.s,h'⟩ a w':=by
 subst hh;have hid:id < st.h.length:=(List.getElem?_eq_some_iff.1 hi).1;have hobs:∀ i o,(st.h.set id (some ob'))[i]? = some (some o)→(i=id∧o=ob')∨(i≠id∧st.h[i]? = some (some o)):=by
  intro i o hio;rw [List.getElem?_set] at hio;by_cases he:id=i
  ·rw [if_pos he,if_pos (by omega)] at hio;simp only [Option.some.injEq] at hio;exact .inl ⟨he.symm,hio.symm⟩
  ·rw [if_neg he] at hio;exact .inr ⟨fun h=>he h.symm,hio⟩
 have hM:∀ c j,¬Mof M0 st.h p c j→¬Mof M0 (st.h.set id (some ob')) p c j:=by
  intro c j hn hm;rcases hm with hm|⟨i,o,hio,hlo,hp⟩
  ·exact hn (.inl hm)
  ·rcases hobs i o hio with ⟨rfl,rfl⟩|⟨_,hio'⟩
   ·exact hn (.inr ⟨i,ob,hi,hl,hp⟩)
   ·exact hn (.inr ⟨i,o,hio',hlo,hp⟩)
 have hk:Keeps (Mof M0 st.h p) w w':=.of_blocks (by omega) fun b _ hb=>hblk b fun he=>hb fun j=>.inr ⟨id,ob,hi,hl,.inl he.symm⟩;have hne:∀ i o,i≠id→st.h[i]? = some (some o)→m8_ o=true→∀ b j,p.O i b j→w'.heap[b]? = w.heap[b]?:=fun i o hn hio hlo b j hO=>hblk b fun he=>hn (R.inj i id o ob hio hi hlo hl b j 0 hO (.inl he.symm));have hV:∀ {x:AV} {u:Value},V1 w (Mof M0 st.h p) st.h p x u→V1 w' (Mof M0 (st.h.set id (some ob')) p) (st.h.set id (some ob')) p x u:=fun hx=>
  hx.keep hk (fun b j _=>hM b j) (by simp) (fun _ _=>rfl) (fun i e sz nl es v hil he hv=>by
   rcases hobs i _ he with ⟨rfl,ho⟩|⟨hn,hio⟩
   ·exact hosl e sz nl es v ho.symm fun e' sz' nl' es' hob=>hv e' sz' nl' es' (by rw [hi,hob])
   ·exact (hv _ _ _ _ hio).keep fun hnl _=>hne i _ hn hio (by rw [hnl];rfl) _ 0 (.inl rfl)) (fun i e sz nl pend qs v hil he hv=>by
   rcases hobs i _ he with ⟨rfl,ho⟩|⟨hn,hio⟩
   ·exact absurd ho.symm (hnb' _ _ _ _ _)
   ·exact (hv _ _ _ _ _ hio).keep fun hnl _=>hne i _ hn hio (by rw [hnl];rfl) _ 0 (.inl rfl)) fun i k sz v hil hs=>hs.keep (fun e sz pend qs he=>by
   rcases hobs i _ he with ⟨rfl,ho⟩|⟨hn,hio⟩
   ·exact absurd ho.symm (hnb' _ _ _ _ _)
   ·exact ⟨hio,rfl,rfl,fun b j hO _=>hne i _ hn hio rfl b j hO⟩) (by omega)
 have hV0:∀ {x:AV} {u:Value},V0 w (Mof M0 st.h p) x u→V0 w' (Mof M0 (st.h.set id (some ob')) p) x u:=fun hx=>hx.keep hk fun b j _=>hM b j;have hge:=(R.objs id ob hi).ge hl;refine ⟨R.defers,R.size,R.below.blocks hos htp hou (by omega) fun b _ hF=>hblk b fun he=>hF fun j=>by rw [he];exact hge j,R.m0,R.x0,fun i=>hV (R.slots i),fun i o hio=>?_,fun i i' o o' hio hio' hlo hlo' x j j' hO hO'=>?_⟩
 ·rcases hobs i o hio with ⟨rfl,rfl⟩|⟨hn,hio'⟩
  ·exact hob hV hV0
  ·exact (R.objs i o hio').keep (fun _=>⟨rfl,rfl⟩) (fun hlo b j hO _=>hne i o hn hio' hlo b j hO) (by omega) hV0 fun _ _ _ _ _ hx=>hV hx
 ·rcases hobs i o hio with ⟨rfl,rfl⟩|⟨hn,h1⟩<;>rcases hobs i' o' hio' with ⟨rfl,rfl⟩|⟨hn',h2⟩
  ·rfl
  ·exact R.inj _ _ _ _ hi h2 hl hlo' x j j' hO hO'
  ·exact R.inj _ _ _ _ h1 hi hlo hl x j j' hO hO'
  ·exact R.inj i i' o o' h1 h2 hlo hlo' x j j' hO hO'
end
section
variable {P:Program} {M0:Nat→Nat→Prop} {w0:Bas} {N:Nm} {p:Pl} {st:VS} {a:Act} {w:World}
theorem V1.purge {w w':World} {M M':Nat→Nat→Prop} {h h':Hp} {p p':Pl} {id:Nat} (hk:Keeps M w w') (hM:∀ b j,b < w.heap.size→¬M b j→¬M' b j) (hl:h.length≤h'.length) (hp:∀ i,i≠id→p' i=p i)
  (hO:∀ i e sz nl es v,i≠id→h'[i]? = some (some (.arr e sz nl es))→(∀ e sz nl es,h[i]? = some (some (.arr e sz nl es))→Osl w (p i) e sz nl es.length v)→Osl w' (p i) e sz nl es.length v)
  (hG:∀ i e sz nl pend qs v,i≠id→h'[i]? = some (some (.bag e sz nl pend qs))→(∀ e sz nl pend qs,h[i]? = some (some (.bag e sz nl pend qs))→Osl w (p i) e 1 nl qs.length v)→Osl w' (p i) e 1 nl qs.length v)
  (hW:∀ i k sz v,i≠id→i < h.length→Sp w h p i k sz v→Sp w' h' p' i k sz v) :
  ∀ (n:Nat) (av:AV) (v:Value),V1 w M h p av v→g0_ id n av=true→V1 w' M' h' p' av v
 | 0,_,_,_,hb=>by simp [g0_] at hb
 | n+1,av,v,hv,hb=>by
  have ih:=V1.purge (w:=w) (p:=p) (h:=h) hk hM hl hp hO hG hW n;cases hv with
  | base _ _ h0=>exact .base _ _ (h0.keep hk hM)
  | agg cs us hl h1 hv=>
   simp only [g0_] at hb;exact .agg cs us hl h1 fun i c u hc hu=>ih c u (hv i c u hc hu) (List.all_eq_true.1 hb c (List.mem_of_getElem? hc))
  | tup cs us hl hv=>
   simp only [g0_] at hb;exact .tup cs us hl fun i c u hc hu=>ih c u (hv i c u hc hu) (List.all_eq_true.1 hb c (List.mem_of_getElem? hc))
  | fn f x y us vs hl hl' hv hv'=>
   simp only [g0_,Bool.and_eq_true] at hb;exact .fn f x y us vs hl hl' (fun i c u hc hu=>ih c u (hv i c u hc hu) (List.all_eq_true.1 hb.1 c (List.mem_of_getElem? hc))) (fun i c u hc hu=>ih c u (hv' i c u hc hu) (List.all_eq_true.1 hb.2 c (List.mem_of_getElem? hc)))
  | iface t x u hv=>exact .iface t x u (ih x u hv (by simpa [g0_] using hb))
  | ref i off hid=>rw [←hp i (by simpa [g0_] using hb)];exact .ref i off (Nat.lt_of_lt_of_le hid hl)
  | aref i sz k off hid=>rw [←hp i (by simpa [g0_] using hb)];exact .aref i sz k off (Nat.lt_of_lt_of_le hid hl)
  | osl i A m c hid hv hvb=>
   have hn:i≠id:=by simpa [g0_] using hb
   exact .osl i A m c (Nat.lt_of_lt_of_le hid hl) (fun e sz nl es he=>by rw [hp i hn];exact hO i e sz nl es _ hn he hv) fun e sz nl pend qs he=>by rw [hp i hn];exact hG i e sz nl pend qs _ hn he hvb
  | slw i k sz es _ hid h0 hs=>
   have hn:i≠id:=by simpa [g0_] using hb
   exact .slw i k sz es v (Nat.lt_of_lt_of_le hid hl) (h0.keep hk hM) (hW i k sz v hn hid hs)
  | mp i hid=>rw [←hp i (by simpa [g0_] using hb)];exact .mp i (Nat.lt_of_lt_of_le hid hl)
theorem b2l (id:Nat) : ∀ (s:List (Nat×AV)) (i:Nat),lkp (s.map fun q=>(q.1,purge id q.2)) i=purge id (lkp s i)∨lkp (s.map fun q=>(q.1,purge id q.2)) i = .any
 | [],i=>.inr rfl
 | (d,v)::r,i=>by
  simp only [List.map_cons,lkp];split
  ·exact .inl rfl
  ·exact b2l id r i
theorem Rel.append {w':World} {id g:Nat} {e:TypeId} {sz:Nat} {nl:Bool} {es es2:List (List AV)} {d:Nat} {A:Option Addr} {n c:Nat} (R:Rel M0 w0 N p st a w) (hd:N.has d) (hi:st.h[id]? = some (some (.arr e sz nl es)))
  (_hge:∀ j,Fr w0 g j) (hg:g=w.heap.size∨(nl=false∧g=p id)) (hos:w'.os=w.os) (htp:w'.tape=w.tape) (hou:w'.output=w.output) (hsz:w.heap.size≤w'.heap.size) (hblk:∀ b,b < w.heap.size→¬(nl=false∧b=p id)→w'.heap[b]? = w.heap[b]?)
  (hob:(∀ {x:AV} {u:Value},V0 w (Mof M0 st.h p) x u→V0 w' (Mof M0 (j3_ id 0 (st.h.set id (some (.arr e sz false es2)))) (p1_ p id g)) x u)→ObOK w0 w' (Mof M0 (j3_ id 0 (st.h.set id (some (.arr e sz false es2)))) (p1_ p id g)) (j3_ id 0 (st.h.set id (some (.arr e sz false es2)))) (p1_ p id g) id (.arr e sz false es2))
  (hv:Osl w' g e sz false es2.length (.slice A n c)) :
  Rel M0 w0 N (p1_ p id g) ⟨(d,.osl id)::st.s.map (fun q=>(q.1,purge id q.2)),j3_ id 0 (st.h.set id (some (.arr e sz false es2)))⟩ (a.put (some d) (.slice A n c)) w':=by
 generalize hh':j3_ id 0 (st.h.set id (some (.arr e sz false es2)))=h' at *;generalize hp':p1_ p id g=p' at *;have hidl:id < st.h.length:=(List.getElem?_eq_some_iff.1 hi).1;have hlen:h'.length=st.h.length:=by rw [←hh',a0o];simp
 have hpid:p' id=g:=by rw [←hp'];exact (k0_ p id g).1
 have hpo:∀ i,i≠id→p' i=p i:=fun i hn=>by rw [←hp'];exact (i2_ hn).1
 have hpS:∀ i,i≠id→p'.S i=p.S i:=fun i hn=>by rw [←hp'];exact (i2_ hn).2
 have hpO:∀ {i x j},i≠id→(p'.O i x j↔p.O i x j):=fun hn=>by rw [←hp'];exact o4_ hn
 have hpOn:∀ {x j},p'.O id x j→x=g:=fun h=>by rw [←hp'] at h;exact p3_ h
 have hobs:∀ i o,h'[i]? = some (some o)→(i=id∧o = .arr e sz false es2)∨(i≠id∧∃ o0,st.h[i]? = some (some o0)∧m8_ o0=m8_ o∧((o0=o∧∀ cs,o = .box cs→cs.all (g0_ id 5)=true)∨∃ cs,o0 = .box cs∧o = .box (cs.map (b0a id i))∧cs.all (fun c=>g0_ id 5 c || b6i id c)=true)):=by
  intro i o hio;rw [←hh',v3_] at hio;obtain ⟨x,hx,hpx⟩:=Option.map_eq_some_iff.1 hio;rw [Nat.zero_add] at hpx;rw [List.getElem?_set] at hx;by_cases he:id=i
  ·rw [if_pos he,if_pos (by omega)] at hx;simp only [Option.some.injEq] at hx;subst hx;simp only [p0_,Option.some.injEq] at hpx;exact .inl ⟨he.symm,hpx.symm⟩
  ·rw [if_neg he] at hx;refine .inr ⟨fun h=>he h.symm,?_⟩;cases x with
   | none=>simp [p0_] at hpx
   | some y=>
    cases y with
    | box cs=>
     simp only [p0_] at hpx;split at hpx
     ·rename_i hno;simp only [Option.some.injEq] at hpx;subst hpx;exact ⟨_,hx,rfl,.inl ⟨rfl,fun cs' hc=>by injection hc with hc;subst hc;exact hno⟩⟩
     ·split at hpx
      ·rename_i hno;simp only [Option.some.injEq] at hpx;subst hpx;exact ⟨_,hx,rfl,.inr ⟨cs,rfl,rfl,hno⟩⟩
      ·cases hpx
    | arr e1 s1 n1 l1=>
     simp only [p0_,Option.some.injEq] at hpx;subst hpx;exact ⟨_,hx,rfl,.inl ⟨rfl,fun cs' hc=>by cases hc⟩⟩
    | mpo kf kvs=>
     simp only [p0_,Option.some.injEq] at hpx;subst hpx;exact ⟨_,hx,rfl,.inl ⟨rfl,fun cs' hc=>by cases hc⟩⟩
    | bag e1 s1 n1 pe1 q1=>
     simp only [p0_,Option.some.injEq] at hpx;subst hpx;exact ⟨_,hx,rfl,.inl ⟨rfl,fun cs' hc=>by cases hc⟩⟩
 have hlive:nl=false→m8_ (.arr e sz nl es)=true:=fun h=>by subst h;rfl
 have hM:∀ c j,c < w.heap.size→¬Mof M0 st.h p c j→¬Mof M0 h' p' c j:=by
  intro c j hc hn hm;rcases hm with hm|⟨i,o,hio,hlo,hp⟩
  ·exact hn (.inl hm)
  ·rcases hobs i o hio with ⟨rfl,rfl⟩|⟨hne,o0,hio',hl0,_⟩
   ·have hcg:=hpOn hp;rcases hg with hg|⟨hnl,hg⟩
    ·omega
    ·exact hn (.inr ⟨_,_,hi,hlive hnl,.inl (by omega)⟩)
   ·exact hn (.inr ⟨i,o0,hio',hl0.trans hlo,(hpO hne).1 hp⟩)
 have hk:Keeps (Mof M0 st.h p) w w':=.of_blocks hsz fun b hbl hn=>hblk b hbl fun ⟨hnl,he⟩=>hn fun j=>.inr ⟨id,_,hi,hlive hnl,.inl he.symm⟩;have hne:∀ i o,i≠id→st.h[i]? = some (some o)→m8_ o=true→∀ b j,p.O i b j→b < w.heap.size→w'.heap[b]? = w.heap[b]?:=fun i o hn hio hlo b j hO hbl=>hblk b hbl fun ⟨hnl,he⟩=>hn (R.inj i id o _ hio hi hlo (hlive hnl) b j 0 hO (.inl he.symm));have hsame:∀ i o,i≠id→(∀ cs,o≠.box cs)→h'[i]? = some (some o)→st.h[i]? = some (some o):=fun i o hn hnb he=>by
  rcases hobs i _ he with ⟨h,_⟩|⟨_,o0,hio,_,⟨rfl,_⟩|⟨cs,_,hb,_⟩⟩
  ·exact absurd h hn
  ·exact hio
  ·exact absurd hb (hnb _)
 have hOs:∀ i e sz nl es v,i≠id→h'[i]? = some (some (.arr e sz nl es))→(∀ e sz nl es,st.h[i]? = some (some (.arr e sz nl es))→Osl w (p i) e sz nl es.length v)→Osl w' (p i) e sz nl es.length v:=fun i e sz nl es v hn he hv=>by
  have hio:=hsame i _ hn (fun cs h=>by cases h) he;exact (hv _ _ _ _ hio).keep fun hnl hlt=>hne i _ hn hio (by rw [hnl];rfl) _ 0 (.inl rfl) hlt
 have hGs:∀ i e sz nl pend qs v,i≠id→h'[i]? = some (some (.bag e sz nl pend qs))→(∀ e sz nl pend qs,st.h[i]? = some (some (.bag e sz nl pend qs))→Osl w (p i) e 1 nl qs.length v)→Osl w' (p i) e 1 nl qs.length v:=fun i e sz nl pend qs v hn he hv=>by
  have hio:=hsame i _ hn (fun cs h=>by cases h) he;exact (hv _ _ _ _ _ hio).keep fun hnl hlt=>hne i _ hn hio (by rw [hnl];rfl) _ 0 (.inl rfl) hlt
 have hWs:∀ i k sz v,i≠id→i < st.h.length→Sp w st.h p i k sz v→Sp w' h' p' i k sz v:=fun i k sz v hn _ hs=>hs.keep (fun e sz pend qs he=>by
  have hio:=hsame i _ hn (fun cs h=>by cases h) he;exact ⟨hio,hpo i hn,hpS i hn,hne i _ hn hio rfl⟩) hsz
 have hV:∀ (n:Nat) {x:AV} {u:Value},V1 w (Mof M0 st.h p) st.h p x u→g0_ id n x=true→V1 w' (Mof M0 h' p') h' p' x u:=fun n x u hx hn=>V1.purge hk hM (by omega) hpo hOs hGs hWs n x u hx hn;have hV0:∀ {x:AV} {u:Value},V0 w (Mof M0 st.h p) x u→V0 w' (Mof M0 h' p') x u:=fun hx=>hx.keep hk hM;have hF:∀ b,b < w.heap.size→¬(∀ j,Fr w0 b j)→w'.heap[b]? = w.heap[b]?:=fun b hbl hn=>hblk b hbl fun ⟨hnl,he⟩=>hn fun j=>by rw [he];exact (R.objs id _ hi).ge (hlive hnl) j
 refine ⟨R.defers,R.size.put hd,R.below.blocks hos htp hou hsz hF,R.m0,R.x0,fun i=>?_,fun i o hio=>?_,fun i i' o o' hio hio' hlo hlo' x j j' hO hO'=>?_⟩
 ·rw [k9_ a d _ i (R.size.lt hd)];simp only [lkp];split
  ·refine .osl id A n c (by omega) (fun e' sz' nl' es' he=>?_) fun e' sz' nl' pe qs he=>?_
   ·rcases hobs id _ he with ⟨_,h⟩|⟨h,_⟩
    ·injection h with h1 h2 h3 h4
     subst h1 h2 h3 h4;rw [hpid];exact hv
    ·exact absurd rfl h
   ·rcases hobs id _ he with ⟨_,h⟩|⟨h,_⟩
    ·cases h
    ·exact absurd rfl h
  ·rcases b2l id st.s i with h|h
   ·rw [h];unfold Go.Proofs.YtoibondihdhnoaaDoor.purge;split
    ·rename_i hn;exact hV 5 (R.slots i) hn
    ·exact .base _ _ (.any _)
   ·rw [h];exact .base _ _ (.any _)
 ·rcases hobs i o hio with ⟨rfl,rfl⟩|⟨hn,o0,hio',hl0,⟨rfl,hbx⟩|⟨cs,rfl,rfl,hall⟩⟩
  ·exact hob hV0
  rotate_left
  ·obtain ⟨h1,cur,e,hg,h2,h3,h4⟩:=R.objs i _ hio';refine ⟨by unfold Own;rw [hpo i hn,hpS i hn];exact h1,cur,e,by rw [hpo i hn,hne i _ hn hio' rfl _ 0 (.inl rfl) (Array.getElem?_eq_some_iff.1 hg).1];exact hg,by simpa using h2,fun c hc=>?_,fun j c hj=>?_⟩
   ·obtain ⟨c0,hc0,rfl⟩:=List.mem_map.1 hc;unfold b0a;split
    ·exact h3 c0 hc0
    ·rfl
   ·rw [List.getElem?_map] at hj;obtain ⟨c0,hj0,rfl⟩:=Option.map_eq_some_iff.1 hj;obtain ⟨u,hu,hv⟩:=h4 j c0 hj0;refine ⟨u,hu,?_⟩;unfold b0a;split
    ·rename_i hno;exact hV 5 hv hno
    ·rename_i hno;have:=List.all_eq_true.1 hall c0 (List.mem_of_getElem? hj0);rw [Bool.or_eq_true] at this;rcases this with h|h
     ·exact absurd h hno
     ·obtain ⟨k,rfl⟩ : ∃ k,c0 = .osl k:=by cases c0<;>first|exact ⟨_,rfl⟩|(simp [b6i] at h;done)
      obtain ⟨A2,n2,c2,rfl,_,_⟩:=hv.osl_inv;refine .osl _ _ _ _ (by rw [hlen];exact (List.getElem?_eq_some_iff.1 hio').1) (fun e sz nl es he=>?_) fun e sz nl pe qs he=>?_
      ·rw [hio] at he;cases he
      ·rw [hio] at he;cases he
  ·exact (R.objs i o0 hio').keep (fun _=>⟨hpo i hn,hpS i hn⟩) (fun hlo b j hO hbl=>hne i o0 hn hio' hlo b j hO hbl) hsz hV0 fun cs hcs c hc u hx=>hV 5 hx (List.all_eq_true.1 (hbx cs hcs) c hc)
 ·have hlt:∀ i o,i≠id→st.h[i]? = some (some o)→m8_ o=true→∀ x j,p.O i x j→g≠x:=by
   intro i o hn h1 hl x j hO he;rcases hg with hg|⟨hnl,hg⟩
   ·have:=((R.objs i o h1).own hl x j hO).2;omega
   ·exact hn (R.inj i id o _ h1 hi hl (hlive hnl) x j 0 hO (.inl (by omega)))
  rcases hobs i o hio with ⟨rfl,rfl⟩|⟨hn,o1,h1,e1,_⟩<;>rcases hobs i' o' hio' with ⟨rfl,rfl⟩|⟨hn',o2,h2,e2,_⟩
  ·rfl
  ·exact absurd (hpOn hO).symm (hlt i' o2 hn' h2 (e2.trans hlo') x j' ((hpO hn').1 hO'))
  ·exact absurd (hpOn hO').symm (hlt i o1 hn h1 (e1.trans hlo) x j ((hpO hn).1 hO))
  ·exact R.inj i i' o1 o2 h1 h2 (e1.trans hlo) (e2.trans hlo') x j j' ((hpO hn).1 hO) ((hpO hn').1 hO')
theorem c7w {es:List (List AV)} {sz:Nat} {u:Nat→Nat→Value} {k:Nat} {x:List AV} {j:Nat} {c:AV} (hk:es[k]? = some x) (hj:x[j]? = some c) (hl:x.length=sz) :
  ((List.range es.length).flatMap fun k=>(List.range sz).map fun j=>if k < es.length then u k j else .bool false)[k*sz+j]? = some (u k j):=by
 have hkl:=(List.getElem?_eq_some_iff.1 hk).1;have hjl:=(List.getElem?_eq_some_iff.1 hj).1;have key:∀ (n b:Nat),b+k < b+n→(((List.range' b n).flatMap fun k=>(List.range sz).map fun j=>if k < es.length then u k j else Value.bool false))[k*sz+j]? = some (if b+k < es.length then u (b+k) j else .bool false):=by
  clear hkl hk;induction k with
  | zero=>
   intro n b hn;cases n with
   | zero=>omega
   | succ n=>
    rw [List.range'_succ,List.flatMap_cons,List.getElem?_append_left (by simp;omega)];simp [show j < sz by omega]
  | succ k ih=>
   intro n b hn;cases n with
   | zero=>omega
   | succ n=>
    rw [List.range'_succ,List.flatMap_cons,List.getElem?_append_right (by simp [Nat.add_mul];omega)];have:=ih n (b+1) (by omega);simp only [List.length_map,List.length_range];rw [show (k+1)*sz+j - sz=k*sz+j by rw [Nat.add_mul];omega,this,show b+1+k=b+(k+1) by omega]
 have:=key es.length 0 (by omega);rw [show List.range es.length=List.range' 0 es.length from List.range_eq_range',this];simp [hkl]
end
section
variable {P:Program} {M0:Nat→Nat→Prop} {w0:Bas} {N:Nm} {p:Pl} {st:VS} {a:Act} {w:World}
theorem b9w {us:List Value} {cs:List AV} {d:Nat} (R:Rel M0 w0 N p st a w) (hd:N.has d) (hc:Cells w (Mof M0 st.h p) st.h p cs us) (t:TypeId) :
  Rel M0 w0 N (p1_ p st.h.length w.heap.size) ⟨(d,.ref st.h.length 0)::st.s,st.h++[some (.box cs)]⟩ (a.put (some d) (.pointer (some ⟨w.heap.size,0,none⟩))) { w with heap:=w.heap.push (.cells us.toArray t) }:=by
 have hb:=g9_ w (.cells us.toArray t);have hpn:p1_ p st.h.length w.heap.size st.h.length=w.heap.size:=(k0_ p _ _).1;refine R.grow hb hd (fun _=>Nat.le_refl _) (fun _ _ _ _ _ h=>by cases h) ⟨a1k R.below.size,us.toArray,t,by rw [hpn];simp [-World.alloc_eq],by simp [hc.1],hc.2.1,fun j c hj=>?_⟩ ?_
 ·have hj':j < us.length:=by rw [hc.1];exact (List.getElem?_eq_some_iff.1 hj).1
  exact ⟨us[j],by simp [hj'],R.growV hb (fun _=>Nat.le_refl _) (hc.2.2 j c us[j] hj (List.getElem?_eq_getElem hj'))⟩
 ·have:=V1.ref (w:={ w with heap:=w.heap.push (.cells us.toArray t) }) (M:=Mof M0 (st.h++[some (.box cs)]) (p1_ p st.h.length w.heap.size)) (h:=st.h++[some (.box cs)]) (p:=p1_ p st.h.length w.heap.size) st.h.length 0 (by simp);rwa [hpn] at this
theorem b9x {us:List Value} {es:List (List AV)} {d e sz:Nat} (R:Rel M0 w0 N p st a w) (hd:N.has d) (hsz:0 < sz) (hlen:us.length=es.length*sz) (hmax:es.length≤maxLen) (hes:∀ (k:Nat) (x:List AV),es[k]? = some x→x.length=sz∧∀ c∈x,g6_ c=true)
  (hv:∀ (k:Nat) (x:List AV) (j:Nat) (c:AV) (u:Value),es[k]? = some x→x[j]? = some c→us[k*sz+j]? = some u→V0 w (Mof M0 st.h p) c u) :
  Rel M0 w0 N (p1_ p st.h.length w.heap.size) ⟨(d,.osl st.h.length)::st.s,st.h++[some (.arr e sz false es)]⟩ (a.put (some d) (.slice (some ⟨w.heap.size,0,none⟩) es.length es.length)) { w with heap:=w.heap.push (.cells us.toArray e) }:=by
 have hb:=g9_ w (.cells us.toArray e);have hpn:p1_ p st.h.length w.heap.size st.h.length=w.heap.size:=(k0_ p _ _).1;have hg:({ w with heap:=w.heap.push (.cells us.toArray e) } : World).heap[w.heap.size]? = some (.cells us.toArray e (0,0)):=by simp [-World.alloc_eq]
 have hM:=R.growM (ob:=.arr e sz false es) (b:=w.heap.size) (fun _=>Nat.le_refl _);refine R.grow hb hd (fun _=>Nat.le_refl _) (fun _ _ _ _ _ h=>by cases h) ⟨hsz,hes,?_⟩ ?_
 ·rw [if_neg (by simp)];refine ⟨a1k R.below.size,us.toArray,by rw [hpn];exact hg,by simp [hlen],fun k x j c hk hj=>?_⟩;have hkl:=(List.getElem?_eq_some_iff.1 hk).1;have hjl:=(List.getElem?_eq_some_iff.1 hj).1;have hxl:=(hes k x hk).1;have h1:(k+1)*sz≤es.length*sz:=Nat.mul_le_mul_right _ hkl;rw [Nat.add_mul] at h1;have hlt:k*sz+j < us.length:=by omega
  exact ⟨us[k*sz+j],by simp [hlt],(hv k x j c _ hk hj (List.getElem?_eq_getElem hlt)).keep (.of_below hb) hM⟩
 ·refine .osl _ _ _ _ (by simp) (fun e' sz' nl' es' he=>?_) fun e' sz' nl' pe qs he=>?_
  ·rw [List.getElem?_append_right (Nat.le_refl _)] at he;simp only [Nat.sub_self,List.getElem?_cons_zero,Option.some.injEq] at he;injection he with h1 h2 h3 h4
   subst h1 h2 h3 h4;unfold Osl;rw [if_neg (by simp),hpn];exact ⟨es.length,us.toArray,rfl,hg,by simp [hlen],Nat.le_refl _,hmax⟩
  ·rw [List.getElem?_append_right (Nat.le_refl _)] at he;simp at he
theorem c7x {d e sz:Nat} (R:Rel M0 w0 N p st a w) (hd:N.has d) (hsz:0 < sz) :
  Rel M0 w0 N (p1_ p st.h.length 0) ⟨(d,.osl st.h.length)::st.s,st.h++[some (.arr e sz true [])]⟩ (a.put (some d) (.slice none 0 0)) w:=by
 refine R.grow (Below.refl _ _) hd (fun h=>by cases h) (fun _ _ _ _ _ h=>by cases h) ⟨hsz,by simp,by simp⟩ (.osl _ _ _ _ (by simp) (fun e' sz' nl' es' he=>?_) fun e' sz' nl' pe qs he=>?_)
 ·rw [List.getElem?_append_right (Nat.le_refl _)] at he;simp only [Nat.sub_self,List.getElem?_cons_zero,Option.some.injEq] at he;injection he with h1 h2 h3 h4
  subst h1 h2 h3 h4;simp [Osl]
 ·rw [List.getElem?_append_right (Nat.le_refl _)] at he;simp at he
theorem c6b {cs vs:List AV} {off:Nat} (hfit:off+vs.length≤cs.length) (j:Nat) : (b6h cs off vs)[j]? = if j < off then cs[j]? else if j < off+vs.length then vs[j - off]? else cs[j]?:=by
 unfold b6h;by_cases h1:j < off
 ·rw [if_pos h1,List.append_assoc,List.getElem?_append_left (by simp;omega),List.getElem?_take_of_lt h1]
 ·rw [if_neg h1,List.append_assoc,List.getElem?_append_right (by simp;omega)];have e1:(cs.take off).length=off:=by simp;omega
  rw [e1];by_cases h2:j < off+vs.length
  ·rw [if_pos h2,List.getElem?_append_left (by omega)]
  ·rw [if_neg h2,List.getElem?_append_right (by omega),List.getElem?_drop];congr 1;omega
theorem b9y {cs vs:List Value} {off:Nat} (hfit:off+vs.length≤cs.length) (j:Nat) : (cs.take off++vs++cs.drop (off+vs.length))[j]? = if j < off then cs[j]? else if j < off+vs.length then vs[j - off]? else cs[j]?:=by
 by_cases h1:j < off
 ·rw [if_pos h1,List.append_assoc,List.getElem?_append_left (by simp;omega),List.getElem?_take_of_lt h1]
 ·rw [if_neg h1,List.append_assoc,List.getElem?_append_right (by simp;omega)];have e1:(cs.take off).length=off:=by simp;omega
  rw [e1];by_cases h2:j < off+vs.length
  ·rw [if_pos h2,List.getElem?_append_left (by omega)]
  ·rw [if_neg h2,List.getElem?_append_right (by omega),List.getElem?_drop];congr 1;omega
theorem b9z {cs vs:List AV} {off:Nat} (h1:∀ c∈cs,g6_ c=true) (h2:∀ c∈vs,g6_ c=true) : ∀ c∈b6h cs off vs,g6_ c=true:=by
 intro c hc;unfold b6h at hc;rcases List.mem_append.1 hc with hc|hc
 ·rcases List.mem_append.1 hc with hc|hc
  ·exact h1 c (List.mem_of_mem_take hc)
  ·exact h2 c hc
 ·exact h1 c (List.mem_of_mem_drop hc)
theorem c0a {cs vs:List AV} {off:Nat} (hfit:off+vs.length≤cs.length) : (b6h cs off vs).length=cs.length:=by
 unfold b6h;simp;omega
theorem q3_ (w:World) (g:Nat) (cs:Array Value) (b:Nat) (h:b≠g) : (w.setRow g cs).heap[b]? = w.heap[b]?:=by
 simp only [World.setRow,Array.getElem?_modify];rw [if_neg (by omega)]
theorem s3_ (w:World) (g:Nat) (cs:Array Value) : (w.setRow g cs).heap.size=w.heap.size:=by simp [World.setRow]
theorem s4_ {t:TypeId} {ti:TI} {g o:Nat} {cur:Array Value} {e:TypeId} {v:Value} (hti:c3_ P t=some ti) (hsz:v.cells.size=ti.size) (hg:w.heap[g]? = some (.cells cur e (0,0))) (hfit:o+ti.size≤cur.size) (h1:∀ x∈v.cells.toList,x.oneCell'=true) :
  (Instr.storeAt t (.pointer (some ⟨g,o,none⟩)) v).run P w = .ok () (w.setRow g (cur.toList.take o++v.cells.toList++cur.toList.drop (o+v.cells.toList.length)).toArray):=by
 have:=run_storeCells_at P g o e v.cells.toList 0 cur w hg (by simp;omega) h1;simp only [Nat.add_zero] at this;simp only [Instr.storeAt,Instr.sureAddr,Sem.run_bind,Sem.run_pure,Result.andThen_ok,storeVar,c7g hti,Sem.run_ite,hsz,ne_eq,not_true_eq_false,if_false];exact this
theorem b0l {cs:List AV} {us:List Value} {M:Nat→Nat→Prop} {h:Hp} (hc:Cells w M h p cs us) : ∀ x∈us,x.oneCell'=true:=by
 intro x hx;obtain ⟨i,hi⟩:=List.mem_iff_getElem?.1 hx;have hl:i < cs.length:=by rw [←hc.1];exact (List.getElem?_eq_some_iff.1 hi).1
 exact (hc.2.2 i cs[i] x (List.getElem?_eq_getElem hl) hi).one (hc.2.1 _ (List.getElem_mem hl))
theorem a6x {t:TypeId} {x y:Operand} {ti:TI} {id off:Nat} {cs:List AV} (R:Rel M0 w0 N p st a w) (hti:c3_ P t=some ti) (hx:ev st x = .ref id off) (hid:st.h[id]? = some (some (.box cs))) (h1:a6a (ev st y)=true) (h2:(g3_ (ev st y)).length=ti.size) (h3:off+ti.size≤cs.length) :
  ∃ w',(Instr.storeAt t (a.eval x) (a.eval y)).run P w = .ok () w'∧Rel M0 w0 N p ⟨st.s,st.h.set id (some (.box (b6h cs off (g3_ (ev st y)))))⟩ a w':=by
 have hxv:=R.eval x;rw [hx] at hxv;obtain ⟨hq,_⟩:=hxv.ref_inv;have hcell:=(R.eval y).cells h1;obtain ⟨hge,cur,e,hg,hcs,hone,hv⟩:=R.objs id _ hid;have hvs:(a.eval y).cells.size=ti.size:=by rw [←Array.length_toList,hcell.1,h2]
 refine ⟨_,by rw [hq];exact s4_ hti hvs hg (by omega) (b0l hcell),?_⟩;have hfit:off+(a.eval y).cells.toList.length≤cur.toList.length:=by simp;omega
 have hfit2:off+(g3_ (ev st y)).length≤cs.length:=by omega
 have hlen:(a.eval y).cells.toList.length=(g3_ (ev st y)).length:=hcell.1;have hlt:=(Array.getElem?_eq_some_iff.1 hg).1;refine R.write hid rfl rfl (fun _ _ _ _ _ h=>by cases h) (fun _ _ _ _ _ h=>by cases h) (s3_ w _ _).symm rfl rfl rfl (fun b hb=>q3_ w _ _ b hb) rfl (fun e sz nl es v he=>by cases he) fun hV _=>?_;refine ⟨hge,_,e,setRow_heap w (p id) cur _ e _ hg,?_,b9z hone hcell.2.1,fun j c hj=>?_⟩
 ·rw [c0a hfit2];simp;omega
 ·rw [c6b hfit2] at hj;have hat:=b9y hfit j;rw [hlen] at hat;split at hj
  ·rename_i hlt;rw [if_pos hlt] at hat;obtain ⟨u,hu,hvu⟩:=hv j c hj;exact ⟨u,by rw [List.getElem?_toArray,hlen,hat];simpa using hu,hV hvu⟩
  ·rename_i hlt;rw [if_neg hlt] at hat;split at hj
   ·rename_i hlt2;rw [if_pos hlt2] at hat;have hjl:j - off < (a.eval y).cells.toList.length:=by rw [hlen];exact (List.getElem?_eq_some_iff.1 hj).1
    exact ⟨_,by rw [List.getElem?_toArray,hlen,hat];exact List.getElem?_eq_getElem hjl,hV (hcell.2.2 _ c _ hj (List.getElem?_eq_getElem hjl))⟩
   ·rename_i hlt2;rw [if_neg hlt2] at hat;obtain ⟨u,hu,hvu⟩:=hv j c hj;exact ⟨u,by rw [List.getElem?_toArray,hlen,hat];simpa using hu,hV hvu⟩
theorem b2m {t:TypeId} {x y:Operand} {ti:TI} {id sz i off e:Nat} {nl:Bool} {es:List (List AV)} (R:Rel M0 w0 N p st a w) (hti:c3_ P t=some ti) (hx:ev st x = .aref id sz i off) (hid:st.h[id]? = some (some (.arr e sz nl es))) (hi:i < es.length) (h1:a6a (ev st y)=true)
  (hp:(g3_ (ev st y)).all (m3_ 5)=true) (h2:(g3_ (ev st y)).length=ti.size) (h3:off+ti.size≤sz) :
  ∃ w',(Instr.storeAt t (a.eval x) (a.eval y)).run P w = .ok () w'∧Rel M0 w0 N p ⟨st.s,st.h.set id (some (.arr e sz nl (es.set i (b6h (es.getD i []) off (g3_ (ev st y))))))⟩ a w':=by
 have hxv:=R.eval x;rw [hx] at hxv;obtain ⟨hq,_⟩:=hxv.aref_inv;have hcell:=(R.eval y).cells h1;obtain ⟨hsz,hes,hr⟩:=R.objs id _ hid;have hnl:nl=false:=by cases nl;rfl;simp only [if_true] at hr;subst hr;simp at hi
 subst hnl;simp only [Bool.false_eq_true,if_false] at hr;obtain ⟨hge,cur,hg,hcs,hv⟩:=hr;have hvs:(a.eval y).cells.size=ti.size:=by rw [←Array.length_toList,hcell.1,h2]
 have hlen:(a.eval y).cells.toList.length=(g3_ (ev st y)).length:=hcell.1;have hxi:es[i]? = some (es.getD i []):=by simp [List.getD,hi]
 obtain ⟨hxl,hxone⟩:=hes i _ hxi;have hrow:(i+1)*sz≤es.length*sz:=Nat.mul_le_mul_right _ hi;rw [Nat.add_mul] at hrow;refine ⟨_,by rw [hq];exact s4_ hti hvs hg (by omega) (b0l hcell),?_⟩;have hfit:i*sz+off+(a.eval y).cells.toList.length≤cur.toList.length:=by simp;omega
 have hfit2:off+(g3_ (ev st y)).length≤(es.getD i []).length:=by omega
 have hpure:∀ (j:Nat) (c:AV) (u:Value),(g3_ (ev st y))[j]? = some c→(a.eval y).cells.toList[j]? = some u→V0 w (Mof M0 st.h p) c u:=fun j c u hc hu=>(hcell.2.2 j c u hc hu).pure 5 (List.all_eq_true.1 hp c (List.mem_of_getElem? hc));refine R.write hid rfl rfl (fun _ _ _ _ _ h=>by cases h) (fun _ _ _ _ _ h=>by cases h) (s3_ w _ _).symm rfl rfl rfl (fun b hb=>q3_ w _ _ b hb) rfl (fun e' sz' nl' es' v he ho=>?_) fun _ hV0=>⟨hsz,fun k z hk=>?_,?_⟩
 ·injection he with q1 q2 q3 q4
  subst q1 q2 q3 q4;have:=ho _ _ _ _ rfl;unfold Osl at this ⊢;simp only [Bool.false_eq_true,if_false,List.length_set] at this ⊢;obtain ⟨cap,cur',b1,b2,b3,b4⟩:=this;obtain rfl:cur'=cur:=by rw [hg] at b2;injection b2 with b2;injection b2 with b2;exact b2.symm
  refine ⟨cap,_,b1,setRow_heap w (p id) cur' _ e _ hg,?_,b4⟩;rw [←b3];simp;simp at hfit;omega
 ·rw [List.getElem?_set] at hk;split at hk
  ·first|rw [if_pos hi] at hk|skip
   simp only [Option.some.injEq] at hk;subst hk;exact ⟨by rw [c0a hfit2,hxl],b9z hxone hcell.2.1⟩
  ·exact hes k z hk
 ·simp only [Bool.false_eq_true,if_false];refine ⟨hge,_,setRow_heap w (p id) cur _ e _ hg,?_,fun k z j c hk hj=>?_⟩
  ·simp;simp at hfit;omega
  ·have hat:=b9y hfit (k*sz+j);rw [hlen] at hat;rw [List.getElem?_set] at hk;split at hk
   ·rename_i hki;subst hki;first|rw [if_pos hi] at hk|skip
    simp only [Option.some.injEq] at hk;subst hk;rw [c6b hfit2] at hj;split at hj
    ·rename_i hlt;rw [if_pos (by omega)] at hat;obtain ⟨u,hu,hvu⟩:=hv i _ j c hxi hj;exact ⟨u,by rw [List.getElem?_toArray,hlen,hat];simpa using hu,hV0 hvu⟩
    ·rename_i hlt;rw [if_neg (by omega)] at hat;split at hj
     ·rename_i hlt2;rw [if_pos (by omega)] at hat;have hjl:j - off < (a.eval y).cells.toList.length:=by rw [hlen];exact (List.getElem?_eq_some_iff.1 hj).1
      refine ⟨(a.eval y).cells.toList[j - off],?_,hV0 (hpure _ c _ hj (List.getElem?_eq_getElem hjl))⟩;rw [List.getElem?_toArray,hlen,hat,show i*sz+j - (i*sz+off)=j - off by omega];exact List.getElem?_eq_getElem hjl
     ·rename_i hlt2;rw [if_neg (by omega)] at hat;obtain ⟨u,hu,hvu⟩:=hv i _ j c hxi hj;exact ⟨u,by rw [List.getElem?_toArray,hlen,hat];simpa using hu,hV0 hvu⟩
   ·rename_i hki;obtain ⟨u,hu,hvu⟩:=hv k z j c hk hj;have hzl:=(hes k z hk).1;have hjl:=(List.getElem?_eq_some_iff.1 hj).1;have hout:k*sz+j < i*sz+off∨i*sz+off+(g3_ (ev st y)).length≤k*sz+j:=by
     rcases Nat.lt_or_ge k i with hlt|hge'
     ·left;have:(k+1)*sz≤i*sz:=Nat.mul_le_mul_right _ hlt;rw [Nat.add_mul] at this;omega
     ·right;have:(i+1)*sz≤k*sz:=Nat.mul_le_mul_right _ (by omega);rw [Nat.add_mul] at this;omega
    refine ⟨u,?_,hV0 hvu⟩;rw [List.getElem?_toArray,hlen,hat];rcases hout with h|h
    ·rw [if_pos h];simpa using hu
    ·rw [if_neg (by omega),if_neg (by omega)];simpa using hu
end
section
variable {P:Program} {M0:Nat→Nat→Prop} {w0:Bas} {N:Nm} {p:Pl} {st:VS} {a:Act} {w:World}
theorem v7_ {d:Option Tmp} {av:AV} {ob:Ob} {st':VS} (h:c3w st d av ob=some st') : ∃ t,d=some t∧st'=⟨(t,av)::st.s,st.h++[some ob]⟩:=by
 unfold c3w at h;cases d with
 | none=>cases h
 | some t=>exact ⟨t,rfl,(Option.some.inj h).symm⟩
theorem b4t {t:TypeId} {ti te:TI} {n:Nat} (hti:c3_ P t=some ti) (hte:c3_ P ti.elem=some te) (hk:ti.kind=1) (h1:te.size=ti.esz) (h2:te.zero.length=ti.esz) (h3:ti.esz≠0) (hn:n≤1000000000) (hby:te.bytes≤100000) :
  (Instr.makeSlice t (.int .i64 n) (.int .i64 n)).run P w = .ok (.slice (some ⟨w.heap.size,0,none⟩) n n) { w with heap:=w.heap.push (.cells (a2c te.zero n).toArray ti.elem) }:=by
 obtain ⟨z,hz,hz1,hzr⟩:=u1_ hte;have hu:=k8_ hti hk;have hez':ti.esz=k3_ P ti.elem:=by obtain ⟨d,i,z,hd,hi,hz,h1z,rfl⟩:=c1_ hti;rfl
 have hpos:0 < k3_ P ti.elem:=by omega
 have hinfo:∃ i:TypeInfo,(typeInfo ti.elem).run P w = .ok i w∧i.bytes=te.bytes:=by
  obtain ⟨d,i,z,hd,hi,hz,h1z,rfl⟩:=c1_ hte;exact ⟨i,by simp [typeInfo,hi],rfl⟩
 obtain ⟨inf,hinf,hb⟩:=hinfo;have hw:IntKind.i64.wrap (n:Int)=n:=IntWalk.i64_in _ (by omega);have hmul:inf.bytes*n≤100000*1000000000:=Nat.mul_le_mul (by omega) hn;have hmul':(inf.bytes:Int)*(n:Int)≤100000000000000:=by
  have:((inf.bytes*n:Nat) : Int)≤((100000*1000000000:Nat) : Int):=Int.ofNat_le.2 hmul;simpa using this
 have hneg:¬((n:Int) < 0):=by omega
 have hbig:¬((inf.bytes:Int)*(n:Int) > 2 ^ 48):=by omega
 have hzs:z.cells.size=k3_ P ti.elem:=by rw [←Array.length_toList,hz,h2,hez']
 have hrow:=b4c z.cells n (by omega);rw [hz] at hrow;have harr:(Array.range (n*z.cells.size)).map (z.cells[· % z.cells.size]!)=(a2c te.zero n).toArray:=by rw [←hrow]
 have hdec:decide ((inf.bytes:Int)*(n:Int) > 2 ^ 48)=false:=by simp;omega
 have hnn:¬((n:Int) > (n:Int)):=by omega
 simp only [Instr.makeSlice,Sem.run_bind,run_underlying hu,Result.andThen_ok,asInt,asIntOf,Sem.run_pure,hinf,hw,hdec,Sem.run_ite,hneg,hnn,decide_false,Bool.or_false,Bool.false_or,Bool.false_eq_true,if_false,run_askRoom,Int.toNat_natCast,j9_ hpos];by_cases h0:n*k3_ P ti.elem=0
 ·have hn0:n=0:=by
   rcases Nat.mul_eq_zero.1 h0 with h|h
   ·exact h
   ·omega
  subst hn0;have e0:∀ f:Nat→Value,(Array.range 0).map f=#[]:=fun f=>by simp
  simp [newRow,a2c,e0]
 ·simp only [Sem.run_bind,hzr,Result.andThen_ok,Sem.run_pure,←hzs,harr,newRow,run_newObj];rw [if_neg (by rw [hzs];exact h0)]
theorem a6y {z:List Value} {n:Nat} : ∀ (k j:Nat) (c:AV) (u:Value),k < n→(z.map AV.lit)[j]? = some c→(a2c z n)[k*z.length+j]? = some u→c = .lit u:=by
 intro k j c u hk hj hu;have hjl:j < z.length:=by simpa using (List.getElem?_eq_some_iff.1 hj).1
 have hlt:k*z.length+j < n*z.length:=by
  have:(k+1)*z.length≤n*z.length:=Nat.mul_le_mul_right _ hk;rw [Nat.add_mul] at this;omega
 rw [b2g z n _ hlt,Nat.mul_comm,Nat.mul_add_mod,Nat.mod_eq_of_lt hjl] at hu;rw [List.getElem?_map,hu] at hj;simpa using hj.symm
theorem b6r (a:Addr) : loadCells a 0=pure #[]:=rfl
theorem a5j {P:Program} {w:World} {t ty e:TypeId} {i:TypeInfo} (ht:P.underlying t=some (.slice e)) (hi:P.info? e=some i) (a0:Addr) (B:Option Addr) (m c:Nat) (hm:0 < m) (hb:m*i.bytes≤281474976710656) (hmx:m≤1000000000) :
  (Builtin.append_ #[t,t] ty #[.slice (some a0) 0 0,.slice B m c]).run P w=(Builtin.append_ #[t,t] ty #[.slice none 0 0,.slice B m c]).run P w:=by
 have h1:¬m=0:=by omega
 have h2:Builtin.nextslicecap m 0=m:=by unfold Builtin.nextslicecap;rw [if_pos (by omega)]
 have h3:¬(281474976710656 < m*i.bytes):=by omega
 have h4:¬((9223372036854775807:Int) < m):=by omega
 simp [Builtin.append_,run_underlying ht,sizeOf,typeInfo,hi,Builtin.lenOf,Builtin.firstCells,h1,h2,h3,h4,b6r]
theorem a5k {t ty e id sz d:Nat} {x y:Operand} {ti te:TI} {nl:Bool} {es' es:List (List AV)} {ats:Array TypeId} (R:Rel M0 w0 N p st a w) (hd:N.has d) (hti:c3_ P t=some ti) (hx:ev st x = .osl id) (hy:ev st y = .sl sz es) (hid:st.h[id]? = some (some (.arr e sz nl es'))) (hte:c3_ P ti.elem=some te)
  (hk:ti.kind=1) (he:ti.elem=e) (_hez:ti.esz=sz) (h1:te.size=sz) (h2:te.zero.length=sz) (hnil:nl=true→0 < es.length) (hmax:es'.length+es.length≤1000000000) (hby:te.bytes≤100000) (hats:ats=#[t,t]) :
  ∃ v w' p',(Builtin.append_ ats ty #[a.eval x,a.eval y]).run P w = .ok v w'∧Rel M0 w0 N p' ⟨(d,.osl id)::st.s.map (fun q=>(q.1,purge id q.2)),j3_ id 0 (st.h.set id (some (.arr e sz false (es'++es))))⟩ (a.put (some d) v) w':=by
 subst hats;subst he;have hxv:=R.eval x;rw [hx] at hxv;have hyv:=R.eval y;rw [hy] at hyv;obtain ⟨A0,n0,c0,hq,hidl,hosl⟩:=hxv.osl_inv;have hosl:=hosl _ _ _ _ hid;obtain ⟨hsz,hes',hr⟩:=R.objs id _ hid;obtain ⟨dd,inf,z,hdd,hi,hz,hz1,hteq⟩:=c1_ hte;have hisz:inf.size=sz:=by rw [←h1,hteq]
 have hzs:z.cells.size=sz:=by rw [←h2,hteq,Array.length_toList]
 have hby':inf.bytes≤100000:=by rw [hteq] at hby;exact hby
 have hu:=k8_ hti hk;have hax:∃ vx:Value,(Builtin.append_ #[t,t] ty #[a.eval x,a.eval y]).run P w=(Builtin.append_ #[t,t] ty #[vx,a.eval y]).run P w∧(if nl=true then vx = .slice none 0 0∧es'.length=0 else ∃ cap cur,vx = .slice (some ⟨p id,0,none⟩) es'.length cap∧w.heap[p id]? = some (.cells cur ti.elem (0,0))∧cur.size=cap*sz∧es'.length≤cap∧cap≤maxLen):=by
  unfold Osl at hosl;cases nl
  ·simp only [Bool.false_eq_true,if_false] at hosl ⊢;exact ⟨_,rfl,hosl⟩
  ·simp only [if_true] at hosl ⊢;obtain ⟨⟨A,hA⟩,h0⟩:=hosl;refine ⟨_,?_,rfl,h0⟩;cases A with
   | none=>rw [hA]
   | some a0=>
    have hel:=hnil rfl;have hv0:=hyv.sl_inv;have hbytes:es.length*inf.bytes≤281474976710656:=by
     have:es.length*inf.bytes≤1000000000*100000:=Nat.mul_le_mul (by omega) hby';omega
    obtain ⟨B,c,hB⟩ : ∃ B c,a.eval y = .slice B es.length c:=by
     generalize a.eval y=yv at hv0;cases hv0 with
     | slNil=>simp at hel
     | sl _ _ cap b o u=>exact ⟨_,_,rfl⟩
    rw [hA,hB];exact a5j hu hi a0 B es.length c hel hbytes (by omega)
 obtain ⟨vx,hsame,hosl⟩:=hax;rw [hsame];clear hsame;have hown:∃ xs,w.ownsRow 0 ti.elem sz vx es'.length xs∧(nl=true→xs=[]∧es'=[])∧(nl=false→∃ cap cur,vx = .slice (some ⟨p id,0,none⟩) es'.length cap∧w.heap[p id]? = some (.cells cur ti.elem (0,0))∧xs=cur.toList.take (es'.length*sz)∧es'.length*sz≤cur.size):=by
  cases nl
  ·simp only [Bool.false_eq_true,if_false] at hr;simp only [Bool.false_eq_true,if_false] at hosl;obtain ⟨cap,cur,b1,b2,b3,b4,b5⟩:=hosl;obtain ⟨hge,cur',hg,hle,hv⟩:=hr;obtain rfl:cur'=cur:=by rw [hg] at b2;injection b2 with b2;injection b2
   refine ⟨cur'.toList.take (es'.length*sz),⟨by simp;omega,.inr ⟨p id,cap,cur',b1,Nat.zero_le _,hg,b4,b5,b3,rfl⟩⟩,(fun h=>by cases h),fun _=>⟨cap,cur',b1,hg,rfl,hle⟩⟩
  ·simp only [if_true] at hr;subst hr;simp only [if_true] at hosl;exact ⟨[],⟨by simp,.inl ⟨hosl.1,rfl⟩⟩,fun _=>⟨rfl,rfl⟩,fun h=>by cases h⟩
 obtain ⟨xs,hown,hxnil,hxrow⟩:=hown;obtain ⟨A1,m,c1,u,hq1,hm,hS,hu1,huv⟩ : ∃ (A1:Option Addr) (m c1:Nat) (u:Nat→Nat→Value),a.eval y = .slice A1 m c1∧m=es.length∧Sl (fun k=>(List.range sz).map fun j=>if k < es.length then u k j else .bool false) sz w A1 (List.range es.length) ∧
   (∀ k j,k < es.length→j < sz→(u k j).oneCell'=true)∧∀ (k:Nat) (x:List AV) (j:Nat) (c:AV),es[k]? = some x→x[j]? = some c→x.length=sz∧g6_ c=true∧V0 w (Mof M0 st.h p) c (u k j):=by
  have hv0:=hyv.sl_inv;generalize a.eval y=yv at hv0;cases hv0 with
  | slNil _ A cap=>exact ⟨A,0,cap,fun _ _=>undef,rfl,rfl,fun h=>absurd rfl h,by simp,by simp⟩
  | sl _ _ cap b o u hne hb hM hcap hsz' hone hcell hvv=>
   refine ⟨_,_,_,u,rfl,rfl,fun _=>⟨b,o,rfl,fun k q hk j v hj=>?_⟩,fun k j hk hj=>?_,fun k x j c hk hj=>⟨hsz' k x hk,hone k x j c hk hj,hvv k x j c hk hj⟩⟩
   ·have hkl:k < es.length:=by simpa using (List.getElem?_eq_some_iff.1 hk).1
    have hqk:k=q:=by simpa using (List.getElem?_eq_some_iff.1 hk).2
    subst hqk;have hjl:j < sz:=by simpa using (List.getElem?_eq_some_iff.1 hj).1
    have:v=u k j:=by
     have:=(List.getElem?_eq_some_iff.1 hj).2;simp [hkl] at this;exact this.symm
    rw [this];exact hcell k j hkl hjl
   ·have hx:=List.getElem?_eq_getElem hk;have hjl:j < es[k].length:=by rw [hsz' k _ hx];exact hj
    exact (hvv k _ j _ hx (List.getElem?_eq_getElem hjl)).one (hone k _ j _ hx (List.getElem?_eq_getElem hjl))
 subst hm;rw [hq1];have hform:=b3f _ hown;obtain ⟨A,c,hqx⟩:=hform;rw [hqx] at hown ⊢;have hbytes:(es'.length+es.length)*inf.bytes≤140737488355328:=by
  have:(es'.length+es.length)*inf.bytes≤1000000000*100000:=Nat.mul_le_mul hmax hby';omega
 obtain ⟨A2,c2,w',hrun,hown2,hgrow,hblk⟩:=a7l (P:=P) w 0 t ty ti.elem inf z sz inf.bytes hu hi hz hisz rfl hzs hsz (C:=fun k=>(List.range sz).map fun j=>if k < es.length then u k j else .bool false) (fun x=>by simp) (fun x v hv=>by
  obtain ⟨j,hj,rfl⟩:=List.mem_map.1 hv;split
  ·rename_i hx;exact hu1 x j hx (by simpa using hj)
  ·rfl) A es'.length c xs hown A1 es.length c1 (List.range es.length) (by simp) hS (by simp only [maxLen];omega) hbytes (Nat.zero_le _)
 have hnotnil:(Value.slice A2 (es'.length+es.length) c2)≠.slice none 0 0:=by
  intro hh;injection hh with q1 q2 q3
  subst q1;rcases hblk with hb|hb
  ·cases nl
   ·obtain ⟨cap,cur,b1,_⟩:=hxrow rfl;rw [hqx] at b1;injection b1 with b1
    subst b1;simp [Value.ownBlock] at hb
   ·have:=hnil rfl;omega
  ·simp [Value.ownBlock] at hb
 rcases hown2.2 with ⟨h,_⟩|⟨g,cap2,cur2,hv2,hge2,hg2,hn2,hc2,hs2,ht2⟩
 ·exact absurd h hnotnil
 ·injection hv2 with q1 q2 q3
  subst q1;subst q3;have hgcase:g=w.heap.size∨(nl=false∧g=p id):=by
   rcases hblk with hb|hb
   ·right;cases nl
    ·obtain ⟨cap,cur,b1,_⟩:=hxrow rfl;rw [hqx] at b1;injection b1 with b1
     subst b1;simp [Value.ownBlock] at hb;exact ⟨rfl,hb⟩
    ·rcases hown.2 with ⟨h,_⟩|⟨g',cap',cur',h,_⟩
     ·injection h with h1
      subst h1;simp [Value.ownBlock] at hb
     ·have:=(hxnil rfl)
      simp only [if_true] at hosl;rw [hqx,h] at hosl;have:=hosl.1;injection this with h1
      cases h1
   ·left;simpa [Value.ownBlock] using hb
  have hrow:∀ b,b < w.heap.size→¬(nl=false∧b=p id)→w'.heap[b]? = w.heap[b]?:=by
   intro b hb hn;refine hgrow.block b hb fun hs=>?_;cases nl
   ·obtain ⟨cap,cur,b1,_⟩:=hxrow rfl;rw [hqx] at b1;injection b1 with b1
    subst b1;simp [Value.ownBlock] at hs;exact hn ⟨rfl,hs⟩
   ·unfold Osl at hosl;simp only [if_true] at hosl;rw [hqx] at hosl;have:=hosl.1;injection this with h1
    subst h1;simp [Value.ownBlock] at hs
  have hgeg:∀ j,Fr w0 g j:=fun j=>by
   rcases hgcase with h|⟨h,h2⟩
   ·exact .inl (by rw [h];exact R.below.size)
   ·subst h;rw [h2];exact (R.objs id _ hid).ge rfl j
  refine ⟨_,w',p1_ p id g,hrun,?_⟩;refine R.append hd hid hgeg hgcase hgrow.os hgrow.tape hgrow.output hgrow.size hrow (fun hV0=>⟨hsz,fun k x hk=>?_,?_⟩) ?_
  ·rcases Nat.lt_or_ge k es'.length with hlt|hge
   ·rw [List.getElem?_append_left hlt] at hk;exact hes' k x hk
   ·rw [List.getElem?_append_right hge] at hk;have hx0:0 < x.length∨x=[]:=by cases x;right;rfl;left;simp
    refine ⟨?_,fun c hc=>?_⟩
    ·rcases hx0 with hx0|hx0
     ·exact (huv _ x 0 x[0] hk (List.getElem?_eq_getElem hx0)).1
     ·exfalso;have hv0:=hyv.sl_inv;generalize a.eval y=yv at hv0;cases hv0 with
      | slNil=>simp at hk
      | sl _ _ _ _ _ _ _ _ _ _ hsz'=>have:=hsz' _ x hk;subst hx0;simp at this;omega
    ·obtain ⟨j,hj⟩:=List.mem_iff_getElem?.1 hc;exact (huv _ x j c hk hj).2.1
  ·simp only [Bool.false_eq_true,if_false];refine ⟨⟨fun j=>by rw [(k0_ p id g).1];exact hgeg j,(k0_ p id g).2⟩,cur2,by rw [(k0_ p id g).1];exact hg2,by rw [hs2,List.length_append];exact Nat.mul_le_mul_right _ hn2,fun k x j c hk hj=>?_⟩;have hread:∀ i v,i < (es'.length+es.length)*sz→(xs++(List.range es.length).flatMap fun k=>(List.range sz).map fun j=>if k < es.length then u k j else .bool false)[i]? = some v→cur2[i]? = some v:=by
    intro i v hi hh;rw [←ht2,List.getElem?_take_of_lt hi] at hh;simpa using hh
   have hxl:xs.length=es'.length*sz:=hown.1;have hjl:=(List.getElem?_eq_some_iff.1 hj).1;rcases Nat.lt_or_ge k es'.length with hlt|hge
   ·rw [List.getElem?_append_left hlt] at hk;have hnl:nl=false:=by cases nl;rfl;have:=(hxnil rfl).2;subst this;simp at hlt
    subst hnl;simp only [Bool.false_eq_true,if_false] at hr;obtain ⟨_,cur',hg',hle',hvv⟩:=hr;obtain ⟨cap,cur,b1,b2,b3,b4⟩:=hxrow rfl;obtain rfl:cur'=cur:=by rw [hg'] at b2;injection b2 with b2;injection b2
    obtain ⟨v,hv,hv0⟩:=hvv k x j c hk hj;have hxl':=(hes' k x hk).1;have h3:(k+1)*sz≤es'.length*sz:=Nat.mul_le_mul_right _ hlt;rw [Nat.add_mul] at h3;refine ⟨v,hread _ v ?_ ?_,hV0 hv0⟩
    ·rw [Nat.add_mul];omega
    ·rw [List.getElem?_append_left (by omega),b3,List.getElem?_take_of_lt (by omega)];simpa using hv
   ·rw [List.getElem?_append_right hge] at hk;obtain ⟨hxsz,_,hv0⟩:=huv _ x j c hk hj;have hkl:=(List.getElem?_eq_some_iff.1 hk).1;refine ⟨u (k - es'.length) j,hread _ _ ?_ ?_,hV0 hv0⟩
    ·have h3:(k - es'.length+1)*sz≤es.length*sz:=Nat.mul_le_mul_right _ hkl;have h4:k*sz=es'.length*sz+(k - es'.length)*sz:=by rw [←Nat.add_mul];congr 1;omega
     rw [Nat.add_mul] at h3;rw [Nat.add_mul];omega
    ·have h4:k*sz=es'.length*sz+(k - es'.length)*sz:=by rw [←Nat.add_mul];congr 1;omega
     rw [List.getElem?_append_right (by omega),hxl,show k*sz+j - es'.length*sz=(k - es'.length)*sz+j by omega];exact c7w hk hj hxsz
  ·unfold Osl;simp only [Bool.false_eq_true,if_false,List.length_append];exact ⟨_,cur2,rfl,hg2,hs2,hn2,hc2⟩
def q9_ (N:Nm) (o:Oper) : Bool:=match o.dst with|some d=>Nat.ble N.k d&&Nat.blt d N.n|none=>true
theorem f8_ {o:Oper} (hd:q9_ N o=true) : ∀ t,o.dst=some t→N.has t:=by
 intro t ht;unfold q9_ at hd;rw [ht] at hd;simpa [Nm.has] using hd
theorem c4e {t:TypeId} {kf:Nat×IntKind} {d:Nat} (R:Rel M0 w0 N p st a w) (hd:N.has d) : (Instr.makeMap t none).run P w = .ok (.map (some w.heap.size)) (w.alloc (.map #[] 0))∧Rel M0 w0 N (p1_ p st.h.length w.heap.size) ⟨(d,.mp st.h.length)::st.s,st.h++[some (.mpo kf [])]⟩ (a.put (some d) (.map (some w.heap.size))) (w.alloc (.map #[] 0)):=by
 have hb:Below w.heap.size w (w.alloc (.map #[] 0)):=(Below.refl _ w).alloc (Nat.le_refl _) _;have hcell:(w.alloc (.map #[] 0)).heap[w.heap.size]? = some (.map #[] 0):=(MapKept.heap_alloc w _).1;refine ⟨rfl,R.grow hb hd (fun _=>Nat.le_refl _) (fun _ _ _ _ _ h=>by cases h) ⟨a1k R.below.size,(fun q hq=>(by cases hq)),#[],0,?_,rfl,b8x _⟩ ?_⟩
 ·rw [(k0_ p _ _).1];exact hcell
 ·have:=V1.mp (w:=w.alloc (.map #[] 0)) (M:=Mof M0 (st.h++[some (.mpo kf [])]) (p1_ p st.h.length w.heap.size)) (h:=st.h++[some (Ob.mpo kf [])]) (p:=p1_ p st.h.length w.heap.size) st.h.length (by simp);simpa [p1_] using this
theorem b4u {t:TypeId} {m x y:Operand} {st':VS} (R:Rel M0 w0 N p st a w) (ht:b0b P st t m x y=some st') : ∃ w',(Instr.mapUpdate t (a.eval m) (a.eval x) (a.eval y)).run P w = .ok () w'∧Rel M0 w0 N p st' a w':=by
 unfold b0b at ht;split at ht
 ·rename_i kf z id key val hmi hm hx hy;split at ht
  ·rename_i kf' kvs hid;split at ht
   ·rename_i hc;obtain ⟨rfl,hkey⟩:=hc;simp only [Option.some.injEq] at ht;subst ht;have em:=R.eval m;rw [hm] at em;obtain ⟨em,_⟩:=em.mp_inv;have ex:a.eval x=key:=by have:=R.eval x;rw [hx] at this;exact this.lit_inv
    have ey:a.eval y=val:=by have:=R.eval y;rw [hy] at this;exact this.lit_inv
    obtain ⟨h1,h2,es,clock,hg,h3,hst⟩:=R.objs id _ hid;obtain ⟨es',clock',hrun,hkv,hst'⟩:=b9i (P:=P) (v:=val) hmi hkey hg (fun q hq=>h2 (q.key,q.val) (by rw [←h3];exact List.mem_map.2 ⟨q,hq,rfl⟩)) hst;refine ⟨_,by rw [em,ex,ey];exact hrun,?_⟩;have hlt:p id < w.heap.size:=(Array.getElem?_eq_some_iff.1 hg).1;refine R.write hid rfl rfl (fun _ _ _ _ _ h=>by cases h) (fun _ _ _ _ _ h=>by cases h) (by simp [ChangeMaps.setBlock]) rfl rfl rfl (fun b hb=>ChangeMaps.heap_setBlock_other hg _ hb) rfl (fun e sz nl es v h=>by cases h) fun _ _=>?_;refine ⟨h1,fun q hq=>?_,es',clock',ChangeMaps.heap_setBlock_same hg _,by rw [hkv,h3],hst'⟩;have key_form:∀ (l:List (Value×Value)),(∀ q∈l,k6_ q.1=some kf)→∀ q∈a6c key val l,k6_ q.1=some kf:=by
     intro l;induction l with
     | nil=>intro _ q hq;simp [a6c] at hq;subst hq;exact hkey
     | cons c l ih=>
      intro hl q hq;obtain ⟨ck,cv⟩:=c;simp only [a6c] at hq;split at hq
      ·rcases List.mem_cons.1 hq with rfl|hq
       ·exact hkey
       ·exact hl q (List.mem_cons_of_mem _ hq)
      ·rcases List.mem_cons.1 hq with rfl|hq
       ·exact hl _ (List.mem_cons_self ..)
       ·exact ih (fun q hq=>hl q (List.mem_cons_of_mem _ hq)) q hq
    exact key_form kvs h2 q hq
   ·cases ht
  ·cases ht
 ·cases ht
theorem b2n (R:Rel M0 w0 N p st a w) {ow:List Nat} {o:Oper} {st':VS} (hd:q9_ N o=true) (ht:q2_ P ow st o=some st') :
  ∃ v w' p',(execOp a.eval o).run P w = .ok (.value v) w'∧Rel M0 w0 N p' st' (a.put o.dst v) w'∨(execOp a.eval o).run P w = .ok .skip w'∧v=undef∧Rel M0 w0 N p' st' (a.put o.dst undef) w':=by
 have hlt:=f8_ hd;obtain ⟨dst,op,ty,pos,after,guard⟩:=o;simp only at hlt;unfold q2_ at ht;simp only at ht;split at ht
 ·rename_i t;split at ht
  ·rename_i ti hti;obtain ⟨d,hdd,rfl⟩:=v7_ ht;subst hdd;obtain ⟨z,hz,hz1,hzr⟩:=u1_ hti;have hc:Cells w (Mof M0 st.h p) st.h p (ti.zero.map .lit) z.cells.toList:=by rw [hz];exact Cells.of_lits _ hz1
   refine ⟨.pointer (some ⟨w.heap.size,0,none⟩),_,_,.inl ⟨?_,b9w R (hlt d rfl) hc t⟩⟩;simp [execOp,Instr.alloc,hzr,newVar,newRow]
  ·cases ht
 ·rename_i t x;split at ht
  ·rename_i hc;simp only [Bool.and_eq_true] at hc;obtain ⟨d,hdd,rfl⟩:=v7_ ht;subst hdd;refine ⟨.pointer (some ⟨w.heap.size,0,none⟩),_,_,.inl ⟨?_,b9w R (hlt d rfl) ((R.eval x).cells hc.2) t⟩⟩;simp [execOp,Instr.box,newVar,newRow]
  ·cases ht
 ·rename_i t n parts;split at ht
  ·split at ht
   ·rename_i cs ti hrow;split at ht
    ·rename_i hp;obtain ⟨d,hdd,rfl⟩:=v7_ ht;subst hdd;obtain ⟨us,hrun,hc,hlen,hti,hk,hpos⟩:=a9x (P:=P) (w:=w) (M:=Mof M0 st.h p) (h:=st.h) (p:=p) (vals:=parts.map fun (i,x)=>(i,a.eval x)) (by simp) (fun i b v hb hv=>by
      obtain ⟨x,hx,rfl⟩:=g2_ hb;simp only [Array.toList_map] at hv;obtain ⟨y,hy,rfl⟩:=g2_ hv;rw [hx] at hy;obtain rfl:=Option.some.inj hy;exact R.eval x.2) hrow
     have hcl:=a3g ti.esz n cs;have hat:=fun k e=>a5d ti.esz n cs k e (by omega);have hbig:n≤maxLen:=by
      unfold c7m at hrow;rw [hti] at hrow;simp only at hrow;split at hrow
      ·cases hrow
      ·split at hrow
       ·rename_i hcond;have:=hcond.2.2.2.2;have h2:n*1≤n*ti.esz:=Nat.mul_le_mul_left _ hpos;simp only [maxLen];omega
       ·cases hrow
     have hrel:=b9x (es:=t4_ ti.esz n cs) (e:=ti.elem) (sz:=ti.esz) R (hlt d rfl) hpos (us:=us) (by rw [hc.1,hlen,hcl]) (by rw [hcl];exact hbig) (fun k x hk=>⟨(hat k x hk).1,fun c hcm=>by
      obtain ⟨j,hj⟩:=List.mem_iff_getElem?.1 hcm;exact hc.2.1 c (List.mem_of_getElem? ((hat k x hk).2 j c hj))⟩) (fun k x j c u hk hj hu=>by
      have h1:=(hat k x hk).2 j c hj;exact (hc.2.2 _ c u h1 hu).pure 5 (List.all_eq_true.1 hp c (List.mem_of_getElem? h1)))
     rw [hcl] at hrel;refine ⟨_,_,_,.inl ⟨?_,hrel⟩⟩;simp only [execOp,Sem.run_bind,hrun];rfl
    ·cases ht
   ·cases ht
  ·cases ht
 ·split at ht
  ·split at ht
   ·rename_i ti hti;split at ht
    ·rename_i hc;obtain ⟨d,hdd,rfl⟩:=v7_ ht;subst hdd;exact ⟨.slice none 0 0,w,_,.inl ⟨rfl,c7x R (hlt d rfl) (Nat.pos_of_ne_zero hc.2)⟩⟩
    ·cases ht
   ·cases ht
  ·cases ht
 ·rename_i t l c;split at ht
  ·rename_i ti n m hti hl hcc;split at ht
   ·rename_i te hte;split at ht
    ·rename_i hc;obtain ⟨hk,h1,h2,h3,hnm,h0,hn,hby⟩:=hc;subst hnm;obtain ⟨d,hdd,rfl⟩:=v7_ ht;subst hdd;have e1:a.eval l = .int .i64 n:=by have:=R.eval l;rw [hl] at this;exact this.lit_inv
     have e2:a.eval c = .int .i64 n:=by have:=R.eval c;rw [hcc] at this;exact this.lit_inv
     obtain ⟨k,rfl⟩:=Int.eq_ofNat_of_zero_le h0;have hrun:=b4t (P:=P) (w:=w) hti hte hk h1 h2 h3 (n:=k) (by omega) hby;obtain ⟨z,hz,hz1,hzr⟩:=u1_ hte;have hrel:=b9x (es:=List.replicate k (te.zero.map .lit)) (e:=ti.elem) (sz:=ti.esz) (us:=a2c te.zero k) R (hlt d rfl) (Nat.pos_of_ne_zero h3) (by rw [a0m,h2,List.length_replicate]) (by rw [List.length_replicate];simp only [maxLen];omega) (fun i x hx=>by
      obtain ⟨_,rfl⟩:=List.mem_replicate.1 (List.mem_of_getElem? hx);refine ⟨by simp [h2],fun c hc=>?_⟩;obtain ⟨z',hz',rfl⟩:=List.mem_map.1 hc;exact List.all_eq_true.1 hz1 z' hz') (fun i x j c u hx hj hu=>by
      obtain ⟨_,rfl⟩:=List.mem_replicate.1 (List.mem_of_getElem? hx);have hik:i < k:=by simpa using (List.getElem?_eq_some_iff.1 hx).1
      rw [←h2] at hu;rw [a6y i j c u hik hj hu];exact .lit u)
     rw [List.length_replicate] at hrel;refine ⟨_,_,_,.inl ⟨?_,by simpa using hrel⟩⟩;simp only [execOp,e1,e2,Sem.run_bind];rw [show ((k:Int))=((k:Nat) : Int) from rfl,hrun];rfl
    ·cases ht
   ·cases ht
  ·cases ht
 ·rename_i t x y;split at ht
  ·rename_i ti id off hti hx;split at ht
   ·rename_i cs hid;split at ht
    ·rename_i hc;simp only [Option.some.injEq] at ht;subst ht;obtain ⟨w',hrun,hrel⟩:=a6x (P:=P) (y:=y) R hti hx hid hc.1 hc.2.1 hc.2.2;exact ⟨undef,w',p,.inr ⟨by simp only [execOp,Sem.run_bind,hrun];rfl,rfl,hrel⟩⟩
    ·cases ht
   ·cases ht
  ·rename_i ti id sz i off hti hx;split at ht
   ·rename_i e sz' nl es hid;split at ht
    ·rename_i hc;obtain ⟨rfl,hi,h1,h2,h3,h4⟩:=hc;simp only [Option.some.injEq] at ht;subst ht;obtain ⟨w',hrun,hrel⟩:=b2m (P:=P) (y:=y) R hti hx hid hi h1 h2 h3 h4;exact ⟨undef,w',p,.inr ⟨by simp only [execOp,Sem.run_bind,hrun];rfl,rfl,hrel⟩⟩
    ·cases ht
   ·cases ht
  ·cases ht
 ·rename_i xs ts;split at ht
  ·rename_i x y t t' d hxs hts;split at ht
   ·rename_i ti id sz es hti hx hy;split at ht
    ·rename_i e sz' nl es' hid;split at ht
     ·rename_i te hte;split at ht
      ·rename_i hc;obtain ⟨rfl,hk,he,rfl,hez,h1,h2,hnil,hmax,hby⟩:=hc;simp only [Option.some.injEq] at ht;subst ht;have e1:xs=#[x,y]:=by apply Array.ext';rw [hxs]
       have e2:ts=#[t,t]:=by apply Array.ext';rw [hts]
       subst e1;obtain ⟨v,w',p',hrun,hrel⟩:=a5k (P:=P) (ty:=ty) R (hlt d rfl) hti hx hy hid hte hk he hez h1 h2 hnil hmax hby e2;refine ⟨v,w',p',.inl ⟨?_,hrel⟩⟩;simp only [execOp,resolve,invoke,builtin,Sem.run_bind,Sem.run_pure,Result.andThen_ok,List.map_toArray,List.map_cons,List.map_nil,hrun]
      ·cases ht
     ·cases ht
    ·cases ht
   ·cases ht
  ·cases ht
 ·rename_i t;split at ht
  ·rename_i kf z hmi;obtain ⟨d,hdd,rfl⟩:=v7_ ht;subst hdd;obtain ⟨hrun,hrel⟩:=c4e (P:=P) (t:=t) (kf:=kf) R (hlt d rfl);exact ⟨_,_,_,.inl ⟨by simp only [execOp,Sem.run_bind,Option.map_none,hrun];rfl,hrel⟩⟩
  ·cases ht
 ·rename_i t m x y;split at ht
  ·obtain ⟨w',hrun,hrel⟩:=b4u (P:=P) R ht;exact ⟨undef,w',p,.inr ⟨by simp only [execOp,Sem.run_bind,hrun];rfl,rfl,hrel⟩⟩
  ·cases ht
 ·rename_i t m x y;split at ht
  ·obtain ⟨w',hrun,hrel⟩:=b4u (P:=P) R ht;exact ⟨undef,w',p,.inr ⟨by simp only [execOp,Sem.run_bind,hrun];rfl,rfl,hrel⟩⟩
  ·cases ht
 ·cases ht
end
def j4_ (id:Nat) : Nat→AV→Bool
 | 0,_=>false
 | n+1,.agg cs=>cs.all (j4_ id n)
 | n+1,.tup cs=>cs.all (j4_ id n)
 | n+1,.fn _ x y=>x.all (j4_ id n)&&y.all (j4_ id n)
 | n+1,.iface _ v=>j4_ id n v
 | _+1,.slw i _ _ _=>i != id
 | _+1,_=>true
def unW (id:Nat) : AV→AV
 | .slw i k sz es=>if i=id then .sl sz es else .slw i k sz es
 | v=>if j4_ id 5 v=true then v else .any
def a5l (id:Nat) : Option Ob→Bool
 | some (.box cs)=>cs.all (j4_ id 5)
 | _=>true
theorem s5_ (id:Nat) : ∀ (s:List (Nat×AV)) (i:Nat),lkp (s.map fun q=>(q.1,unW id q.2)) i=unW id (lkp s i)
 | [],_=>by simp [lkp,unW,j4_]
 | (d,v)::r,i=>by
  simp only [List.map_cons,lkp];split
  ·rfl
  ·exact s5_ id r i
theorem Dist.symm {v v':Value} (h:Dist v v') : Dist v' v:=fun b o n c b' o' n' c' e e' l l' he=>h b' o' n' c' b o n c e' e l' l he.symm
theorem Spare.mono {w w':World} {p p':Pl} {id sz:Nat} {v:Value} (hp:p' id=p id) (hS:∀ b j,p.S id b j→p'.S id b j) (hb:∀ b j,p.S id b j→b < w.heap.size→w'.heap[b]? = w.heap[b]?) (h:Spare w p id sz v) : Spare w' p' id sz v:=by
 obtain ⟨A,n,cap,hv,hle,h⟩:=h;refine ⟨A,n,cap,hv,hle,fun hlt=>?_⟩;obtain ⟨b,o,cur,t,h1,h2,h3,h4,h5,h6,h7⟩:=h hlt;exact ⟨b,o,cur,t,h1,(hb b _ (h7 _ (Nat.le_refl _)) (Array.getElem?_eq_some_iff.1 h2).1).trans h2,h3,h4,h5,by rw [hp];exact h6,fun j hj=>hS b j (h7 j hj)⟩
section
variable {P:Program} {M0:Nat→Nat→Prop} {w0:Bas} {N:Nm} {p:Pl} {st:VS} {a:Act} {w:World}
theorem V1.bag {w w':World} {M M':Nat→Nat→Prop} {h h':Hp} {p p':Pl} {id:Nat} (hk:Keeps M w w') (hM:∀ b j,b < w.heap.size→¬M b j→¬M' b j) (hl:h.length≤h'.length) (hp:∀ i,p' i=p i)
  (hO:∀ i e sz nl es v,h'[i]? = some (some (.arr e sz nl es))→(∀ e sz nl es,h[i]? = some (some (.arr e sz nl es))→Osl w (p i) e sz nl es.length v)→Osl w' (p i) e sz nl es.length v)
  (hG:∀ i e sz nl pend qs v,h'[i]? = some (some (.bag e sz nl pend qs))→(∀ e sz nl pend qs,h[i]? = some (some (.bag e sz nl pend qs))→Osl w (p i) e 1 nl qs.length v)→Osl w' (p i) e 1 nl qs.length v)
  (hW:∀ i k sz v,i≠id→i < h.length→Sp w h p i k sz v→Sp w' h' p' i k sz v) :
  ∀ (n:Nat) (av:AV) (v:Value),V1 w M h p av v→j4_ id n av=true→V1 w' M' h' p' av v
 | 0,_,_,_,hb=>by simp [j4_] at hb
 | n+1,av,v,hv,hb=>by
  have ih:=V1.bag (w:=w) (p:=p) (h:=h) hk hM hl hp hO hG hW n;cases hv with
  | base _ _ h0=>exact .base _ _ (h0.keep hk hM)
  | agg cs us hl h1 hv=>
   simp only [j4_] at hb;exact .agg cs us hl h1 fun i c u hc hu=>ih c u (hv i c u hc hu) (List.all_eq_true.1 hb c (List.mem_of_getElem? hc))
  | tup cs us hl hv=>
   simp only [j4_] at hb;exact .tup cs us hl fun i c u hc hu=>ih c u (hv i c u hc hu) (List.all_eq_true.1 hb c (List.mem_of_getElem? hc))
  | fn f x y us vs hl hl' hv hv'=>
   simp only [j4_,Bool.and_eq_true] at hb;exact .fn f x y us vs hl hl' (fun i c u hc hu=>ih c u (hv i c u hc hu) (List.all_eq_true.1 hb.1 c (List.mem_of_getElem? hc))) (fun i c u hc hu=>ih c u (hv' i c u hc hu) (List.all_eq_true.1 hb.2 c (List.mem_of_getElem? hc)))
  | iface t x u hv=>exact .iface t x u (ih x u hv (by simpa [j4_] using hb))
  | ref i off hid=>rw [←hp i];exact .ref i off (Nat.lt_of_lt_of_le hid hl)
  | aref i sz k off hid=>rw [←hp i];exact .aref i sz k off (Nat.lt_of_lt_of_le hid hl)
  | osl i A m c hid hv hvb=>exact .osl i A m c (Nat.lt_of_lt_of_le hid hl) (fun e sz nl es he=>by rw [hp i];exact hO i e sz nl es _ he hv) fun e sz nl pend qs he=>by rw [hp i];exact hG i e sz nl pend qs _ he hvb
  | slw i k sz es _ hid h0 hs=>
   have hn:i≠id:=by simpa [j4_] using hb
   exact .slw i k sz es v (Nat.lt_of_lt_of_le hid hl) (h0.keep hk hM) (hW i k sz v hn hid hs)
  | mp i hid=>rw [←hp i];exact .mp i (Nat.lt_of_lt_of_le hid hl)
theorem Rel.bagSet {w':World} {h2:Hp} {p':Pl} {id k e sz:Nat} {pend:Option Nat} {qs:List (List (List AV))} {es:List (List AV)} {v:Value} {cur:Array Value} (R:Rel M0 w0 N p st a w)
  (hi:st.h[id]? = some (some (.bag e sz false pend qs))) (hk:k < qs.length) (hpe:pend=none∨pend=some k) (hcur:w.heap[p id]? = some (.cells cur e (0,0)))
  (hbx:∀ (i:Nat) (cs:List AV),st.h[i]? = some (some (.box cs))→∀ c∈cs,j4_ id 5 c=true)
  (hsz:w.heap.size=w'.heap.size) (hos:w'.os=w.os) (htp:w'.tape=w.tape) (hou:w'.output=w.output) (hblk:∀ b,b≠p id→w'.heap[b]? = w.heap[b]?) (hrow:w'.heap[p id]? = some (.cells (cur.setIfInBounds k v) e (0,0)))
  (hl2:h2.length=st.h.length) (h2id:h2[id]? = some (some (.bag e sz false none (qs.set k es)))) (h2o:∀ (i:Nat) (ob:Ob),i≠id→h2[i]? = some (some ob)→st.h[i]? = some (some ob))
  (hpb:∀ i,p' i=p i) (hpS:∀ i,i≠id→p'.S i=p.S i) (hS5:∀ b j,p.S id b j→p'.S id b j)
  (hS1:∀ b j,p'.S id b j→Fr w0 b j∧b < w.heap.size) (hS2:∀ j,¬p'.S id (p id) j) (hS3:∀ (i:Nat) (ob:Ob),i≠id→h2[i]? = some (some ob)→m8_ ob=true→∀ b j j',p.O i b j→¬p'.S id b j') (hS4:∀ b j,p'.S id b j→Mof M0 st.h p b j)
  (hv0:V0 w (Mof M0 h2 p') (.sl sz es) v) (hsp:Spare w p' id sz v) (hds:∀ (k':Nat) (v':Value),k' < qs.length→k'≠k→cur[k']? = some v'→Dist v v') :
  Rel M0 w0 N p' ⟨st.s.map (fun q=>(q.1,unW id q.2)),h2⟩ a w':=by
 have hbag:=(R.objs id _ hi)
 obtain ⟨hsz0,hbag⟩:=hbag;rw [if_neg (by simp)] at hbag;obtain ⟨b1,b2,cur0,b3,b4,b5,b6⟩:=hbag;have:cur0=cur:=by rw [hcur] at b3;injection b3 with b3;injection b3 with b3;exact b3.symm
 subst this;have hObs:∀ {i b j},i≠id→(p'.O i b j↔p.O i b j):=fun {i b j} hn=>by unfold Pl.O;rw [hpb,hpS i hn]
 have hlid:m8_ (Ob.bag e sz false pend qs)=true:=rfl;have hM:∀ b j,¬Mof M0 st.h p b j→¬Mof M0 h2 p' b j:=fun b j hn hm=>by
  rcases hm with hm|⟨i,o,hio,hlo,hO⟩
  ·exact hn (.inl hm)
  ·by_cases he:i=id
   ·subst he;rcases hO with hO|hO
    ·exact hn (.inr ⟨i,_,hi,hlid,.inl (by rw [←hpb];exact hO)⟩)
    ·exact hn (hS4 b j hO)
   ·exact hn (.inr ⟨i,o,h2o i o he hio,hlo,(hObs he).1 hO⟩)
 have hkp:Keeps (Mof M0 st.h p) w w':=.of_blocks (by omega) fun b _ hb=>hblk b fun he=>hb fun j=>.inr ⟨id,_,hi,hlid,.inl he.symm⟩;have hkp':Keeps (Mof M0 h2 p') w w':=.of_blocks (by omega) fun b _ hb=>hblk b fun he=>hb fun j=>.inr ⟨id,_,h2id,rfl,.inl (by rw [hpb,he])⟩;have hne:∀ i o,i≠id→st.h[i]? = some (some o)→m8_ o=true→∀ b j,p.O i b j→w'.heap[b]? = w.heap[b]?:=fun i o hn hio hlo b j hO=>hblk b fun he=>hn (R.inj i id o _ hio hi hlo hlid b j 0 hO (.inl he.symm));have hV0:∀ {x:AV} {u:Value},V0 w (Mof M0 st.h p) x u→V0 w' (Mof M0 h2 p') x u:=fun hx=>hx.keep hkp fun b j _=>hM b j;have hV:∀ {x:AV} {u:Value},V1 w (Mof M0 st.h p) st.h p x u→j4_ id 5 x=true→V1 w' (Mof M0 h2 p') h2 p' x u:=fun {x u} hx hn=>
  V1.bag hkp (fun b j _=>hM b j) (by omega) hpb (fun i e' sz' nl es' v' he hv=>by
   by_cases hid:i=id
   ·subst hid;rw [h2id] at he;cases he
   ·have hio:=h2o i _ hid he;exact (hv _ _ _ _ hio).keep fun hnl _=>hne i _ hid hio (by rw [hnl];rfl) _ 0 (.inl rfl)) (fun i e' sz' nl pend' qs' v' he hv=>by
   by_cases hid:i=id
   ·subst hid;rw [h2id] at he;simp only [Option.some.injEq,Ob.bag.injEq] at he;obtain ⟨rfl,rfl,rfl,rfl,rfl⟩:=he;have h1:=hv _ _ _ _ _ hi;unfold Osl at h1 ⊢;rw [if_neg (by simp)] at h1 ⊢;obtain ⟨cap,c1,e1,e2,e3,e4,e5⟩:=h1;have:c1=cur0:=by rw [hcur] at e2;injection e2 with e2;injection e2 with e2;exact e2.symm
    subst this;exact ⟨cap,_,by rw [List.length_set];exact e1,hrow,by rw [Array.size_setIfInBounds];exact e3,by rw [List.length_set];exact e4,e5⟩
   ·have hio:=h2o i _ hid he;exact (hv _ _ _ _ _ hio).keep fun hnl _=>hne i _ hid hio (by rw [hnl];rfl) _ 0 (.inl rfl)) (fun i k' sz' v' hn _ hs=>hs.keep (fun e' sz'' pe' qs' he=>by
   have hio:=h2o i _ hn he;exact ⟨hio,hpb i,hpS i hn,fun b j hO _=>hne i _ hn hio rfl b j hO⟩) (by omega)) 5 x u hx hn
 have hU:∀ {x:AV} {u:Value},V1 w (Mof M0 st.h p) st.h p x u→V1 w' (Mof M0 h2 p') h2 p' (unW id x) u:=fun {x u} hx=>by
  by_cases hs:∃ i k sz es,x = .slw i k sz es
  ·obtain ⟨i,k',sz',es',rfl⟩:=hs;by_cases hn:i=id
   ·rw [show unW id (.slw i k' sz' es') = .sl sz' es' from if_pos hn];exact .base _ _ (hV0 hx.slw_inv.2.1)
   ·rw [show unW id (.slw i k' sz' es') = .slw i k' sz' es' from if_neg hn];exact hV hx (by simpa [j4_] using hn)
  ·have e:unW id x=if j4_ id 5 x=true then x else .any:=by cases x<;>first|rfl|exact absurd ⟨_,_,_,_,rfl⟩ hs
   rw [e];split
   ·rename_i hn;exact hV hx hn
   ·exact .base _ _ (.any _)
 have hge:=fun j=>(b1 (p id) j (.inl rfl)).1;refine ⟨R.defers,R.size,R.below.blocks hos htp hou (by omega) fun b _ hF=>hblk b fun he=>hF fun j=>by rw [he];exact hge j,R.m0,R.x0,fun i=>?_,fun i o hio=>?_,fun i i' o o' hio hio' hlo hlo' x j j' hO hO'=>?_⟩
 ·show V1 w' (Mof M0 h2 p') h2 p' (lkp (st.s.map fun q=>(q.1,unW id q.2)) i) _;rw [s5_];exact hU (R.slots i)
 ·by_cases hid:i=id
  ·subst hid;rw [h2id] at hio;simp only [Option.some.injEq] at hio;subst hio;refine ⟨hsz0,?_⟩;rw [if_neg (by simp)];have hkc:k < cur0.size:=by omega
   refine ⟨fun b j hO=>?_,fun j=>by rw [hpb];exact hS2 j,cur0.setIfInBounds k v,by rw [hpb];exact hrow,by simp;omega,fun k0 x hx=>?_,fun k1 k2 v1 v2 h1 h2 hn12 _ _ e1 e2=>?_⟩
   ·rcases hO with hO|hO
    ·have:=b1 b j (.inl (by rw [←hpb];exact hO));exact ⟨this.1,by omega⟩
    ·have:=hS1 b j hO;exact ⟨this.1,by omega⟩
   ·rw [List.getElem?_set] at hx;by_cases hkk:k=k0
    ·subst hkk;rw [if_pos rfl,if_pos hk] at hx;obtain rfl:=Option.some.inj hx;refine ⟨v,by simp [hkc],hv0.keep hkp' fun b j _ h=>h,fun _=>hsp.keep rfl rfl fun b j hS _=>hblk b fun he=>hS2 j (by rw [←he];exact hS)⟩
    ·rw [if_neg hkk] at hx;obtain ⟨v1,g1,g2,g3⟩:=b5 k0 x hx;refine ⟨v1,by rw [Array.getElem?_setIfInBounds_ne hkk];exact g1,hV0 g2,fun _=>(g3 (by rcases hpe with h|h<;>rw [h]<;>simp [hkk])).mono (hpb i) hS5 fun b j hS _=>hblk b fun he=>b2 j (by rw [←he];exact hS)⟩
   ·rw [List.length_set] at h1 h2;have hpe':∀ k',k'≠k→pend≠some k':=fun k' hn=>by rcases hpe with h|h<;>rw [h]<;>simp [Ne.symm hn]
    by_cases hk1:k1=k
    ·subst hk1;rw [Array.getElem?_setIfInBounds_self_of_lt hkc] at e1;obtain rfl:=Option.some.inj e1;rw [Array.getElem?_setIfInBounds_ne hn12] at e2;exact hds k2 v2 h2 (Ne.symm hn12) e2
    ·rw [Array.getElem?_setIfInBounds_ne (Ne.symm hk1)] at e1;by_cases hk2:k2=k
     ·subst hk2;rw [Array.getElem?_setIfInBounds_self_of_lt hkc] at e2;obtain rfl:=Option.some.inj e2;exact (hds k1 v1 h1 hk1 e1).symm
     ·rw [Array.getElem?_setIfInBounds_ne (Ne.symm hk2)] at e2;exact b6 k1 k2 v1 v2 h1 h2 hn12 (hpe' k1 hk1) (hpe' k2 hk2) e1 e2
  ·have hio':=h2o i o hid hio;exact (R.objs i o hio').keep (fun _=>⟨hpb i,hpS i hid⟩) (fun hlo b j hO _=>hne i o hid hio' hlo b j hO) (by omega) hV0 fun cs hcs c hc u hx=>hV hx (hbx i cs (by rw [hio',hcs]) c hc)
 ·by_cases h1:i=id
  ·by_cases h2:i'=id
   ·rw [h1,h2]
   ·subst h1;have hio2:=h2o i' o' h2 hio';have hO2:=(hObs h2).1 hO';rcases hO with hO|hO
    ·exact R.inj i i' _ o' hi hio2 hlid hlo' x j j' (.inl (by rw [←hpb];exact hO)) hO2
    ·exact absurd hO (hS3 i' o' h2 hio' hlo' x j' j hO2)
  ·have hio1:=h2o i o h1 hio;have hO1:=(hObs h1).1 hO;by_cases h2:i'=id
   ·subst h2;rcases hO' with hO'|hO'
    ·exact R.inj i i' o _ hio1 hi hlo hlid x j j' hO1 (.inl (by rw [←hpb];exact hO'))
    ·exact absurd hO' (hS3 i o h1 hio hlo x j j' hO1)
   ·exact R.inj i i' o o' hio1 (h2o i' o' h2 hio') hlo hlo' x j j' hO1 ((hObs h2).1 hO')
theorem b6s {cur:Array Value} {k:Nat} {v:Value} (hk:k < cur.size) : (cur.toList.take k++[v]++cur.toList.drop (k+1)).toArray=cur.setIfInBounds k v:=by
 apply Array.ext';rw [Array.toList_setIfInBounds,List.set_eq_take_append_cons_drop,if_pos (by simpa using hk)];simp
theorem Keeps.same (M:Nat→Nat→Prop) (w:World) : Keeps M w w:=.of_blocks (Nat.le_refl _) fun _ _ _=>rfl
section
variable {id k e sz:Nat} {pend:Option Nat} {qs:List (List (List AV))} {es:List (List AV)} {v:Value}
theorem Rel.bagRow (R:Rel M0 w0 N p st a w) (hi:st.h[id]? = some (some (.bag e sz false pend qs))) : BagOK w0 w (Mof M0 st.h p) p id e sz pend qs:=by
 obtain ⟨_,h⟩:=R.objs id _ hi;rwa [if_neg (by simp)] at h
theorem Rel.bagStore {cur:Array Value} (R:Rel M0 w0 N p st a w) (hi:st.h[id]? = some (some (.bag e sz false pend qs))) (hk:k < qs.length) (hpe:pend=none∨pend=some k) (hcur:w.heap[p id]? = some (.cells cur e (0,0)))
  (hbx:∀ (i:Nat) (cs:List AV),st.h[i]? = some (some (.box cs))→∀ c∈cs,j4_ id 5 c=true) (hv:V1 w (Mof M0 st.h p) st.h p (.slw id k sz es) v) :
  Rel M0 w0 N p ⟨st.s.map (fun q=>(q.1,unW id q.2)),st.h.set id (some (.bag e sz false none (qs.set k es)))⟩ a (w.setRow (p id) (cur.setIfInBounds k v)):=by
 have hB:=R.bagRow hi;obtain ⟨_,h0,hs⟩:=hv.slw_inv;obtain ⟨_,hsp,_,hds⟩:=hs _ _ _ _ hi;have hid:=(List.getElem?_eq_some_iff.1 hi).1;have hlid:m8_ (Ob.bag e sz false pend qs)=true:=rfl;have hpe':∀ k',k'≠k→pend≠some k':=fun k' hn=>by rcases hpe with h|h<;>rw [h]<;>simp [Ne.symm hn]
 have h2o:∀ (i:Nat) (ob:Ob),i≠id→(st.h.set id (some (Ob.bag e sz false none (qs.set k es))))[i]? = some (some ob)→st.h[i]? = some (some ob):=fun i ob hn h=>by rwa [List.getElem?_set_ne (Ne.symm hn)] at h
 refine R.bagSet hi hk hpe hcur hbx (s3_ w _ _).symm rfl rfl rfl (fun b hb=>q3_ w _ _ b hb) (setRow_heap w (p id) cur _ e _ hcur) (by simp) (List.getElem?_set_self hid) h2o (fun _=>rfl) (fun _ _=>rfl) (fun _ _ h=>h)
  (fun b j hS=>hB.1 b j (.inr hS)) hB.2.1 (fun i ob hn hio hlo b j j' hO hS=>hn (R.inj i id ob _ (h2o i ob hn hio) hi hlo hlid b j j' hO (.inr hS))) (fun b j hS=>.inr ⟨id,_,hi,hlid,.inr hS⟩)
  (h0.keep (Keeps.same _ w) fun b j _ hn hm=>hn ?_) hsp fun k' v' hk' hne hv'=>hds cur e k' v' hcur hk' hne (hpe' k' hne) hv'
 rcases hm with hm|⟨i,o,hio,hlo,hO⟩
 ·exact .inl hm
 ·by_cases he:i=id
  ·subst he;exact .inr ⟨i,_,hi,hlid,hO⟩
  ·exact .inr ⟨i,o,h2o i o he hio,hlo,hO⟩
theorem Rel.bagTake {cur:Array Value} {r er:Nat} {nl:Bool} (R:Rel M0 w0 N p st a w) (hi:st.h[id]? = some (some (.bag e sz false pend qs))) (hk:k < qs.length) (hpe:pend=none∨pend=some k) (hcur:w.heap[p id]? = some (.cells cur e (0,0)))
  (hbx:∀ (i:Nat) (cs:List AV),st.h[i]? = some (some (.box cs))→∀ c∈cs,j4_ id 5 c=true) (hr:st.h[r]? = some (some (.arr er sz nl es))) (hv:V1 w (Mof M0 st.h p) st.h p (.osl r) v) :
  ∃ p',Rel M0 w0 N p' ⟨st.s.map (fun q=>(q.1,unW id q.2)),(st.h.set r none).set id (some (.bag e sz false none (qs.set k es)))⟩ a (w.setRow (p id) (cur.setIfInBounds k v)):=by
 have hB:=R.bagRow hi;have hid:=(List.getElem?_eq_some_iff.1 hi).1;have hrid:r≠id:=fun h=>by rw [h,hi] at hr;cases hr
 have hlid:m8_ (Ob.bag e sz false pend qs)=true:=rfl;have hpe':∀ k',k'≠k→pend≠some k':=fun k' hn=>by rcases hpe with h|h<;>rw [h]<;>simp [Ne.symm hn]
 have h2id:((st.h.set r none).set id (some (Ob.bag e sz false none (qs.set k es))))[id]? = some (some (Ob.bag e sz false none (qs.set k es))):=List.getElem?_set_self (by simpa using hid);have h2r:∀ (i:Nat) (ob:Ob),i≠id→((st.h.set r none).set id (some (Ob.bag e sz false none (qs.set k es))))[i]? = some (some ob)→i≠r:=fun i ob hn h he=>by
  subst he;rw [List.getElem?_set_ne (Ne.symm hn),List.getElem?_set] at h;simp at h
 have h2o:∀ (i:Nat) (ob:Ob),i≠id→((st.h.set r none).set id (some (Ob.bag e sz false none (qs.set k es))))[i]? = some (some ob)→st.h[i]? = some (some ob):=fun i ob hn h=>by
  have hir:=h2r i ob hn h;rwa [List.getElem?_set_ne (Ne.symm hn),List.getElem?_set_ne (Ne.symm hir)] at h
 obtain ⟨A,n,c,hq,_,hosl⟩:=hv.osl_inv;have hosl:=hosl _ _ _ _ hr;obtain ⟨hsz0,hel,hrow⟩:=R.objs r _ hr;cases nl
 ·rw [if_neg (by simp)] at hrow;obtain ⟨hown,cr,hg,hle,hcells⟩:=hrow;unfold Osl at hosl;rw [if_neg (by simp)] at hosl;obtain ⟨cap,cr',e1,e2,e3,e4,e5⟩:=hosl;have:cr'=cr:=by rw [hg] at e2;injection e2 with e2;injection e2 with e2;exact e2.symm
  subst this;have hlr:m8_ (Ob.arr er sz false es)=true:=rfl;have hpr:p r≠p id:=fun h=>hrid (R.inj r id _ _ hr hi hlr hlid (p r) 0 0 (.inl rfl) (.inl h.symm));have hSr:∀ j,¬p.S id (p r) j:=fun j h=>hrid (R.inj r id _ _ hr hi hlr hlid (p r) 0 j (.inl rfl) (.inr h));have hrl:=(Array.getElem?_eq_some_iff.1 hg).1;refine ⟨⟨p.b,fun i=>if i=id then fun b j=>p.S id b j∨(b=p r∧es.length*sz≤j) else p.S i⟩,?_⟩;have hM:∀ b j,¬Mof M0 st.h p b j→¬Mof M0 ((st.h.set r none).set id (some (Ob.bag e sz false none (qs.set k es)))) ⟨p.b,fun i=>if i=id then fun b j=>p.S id b j∨(b=p r∧es.length*sz≤j) else p.S i⟩ b j:=fun b j hn hm=>by
   rcases hm with hm|⟨i,o,hio,hlo,hO⟩
   ·exact hn (.inl hm)
   ·by_cases he:i=id
    ·subst he;rcases hO with hO|hO
     ·exact hn (.inr ⟨i,_,hi,hlid,.inl hO⟩)
     ·simp only [if_true] at hO;rcases hO with hO|⟨rfl,_⟩
      ·exact hn (.inr ⟨i,_,hi,hlid,.inr hO⟩)
      ·exact hn (.inr ⟨r,_,hr,hlr,.inl rfl⟩)
    ·refine hn (.inr ⟨i,o,h2o i o he hio,hlo,?_⟩);rcases hO with hO|hO
     ·exact .inl hO
     ·simp only [if_neg he] at hO;exact .inr hO
  refine R.bagSet hi hk hpe hcur hbx (s3_ w _ _).symm rfl rfl rfl (fun b hb=>q3_ w _ _ b hb) (setRow_heap w (p id) cur _ e _ hcur) (by simp) h2id h2o (fun _=>rfl) (fun i hn=>by simp only [if_neg hn]) (fun b j h=>by simp only [if_true];exact .inl h)
   (fun b j hS=>?_) (fun j hS=>?_) (fun i ob hn hio hlo b j j' hO hS=>?_) (fun b j hS=>?_) ?_ ?_ fun k' v' hk' hne hv'=>?_
  ·simp only [if_true] at hS;rcases hS with hS|⟨rfl,_⟩
   ·exact hB.1 b j (.inr hS)
   ·exact ⟨hown.1 j,hrl⟩
  ·simp only [if_true] at hS;rcases hS with hS|⟨h,_⟩
   ·exact hB.2.1 j hS
   ·exact hpr h.symm
  ·simp only [if_true] at hS;rcases hS with hS|⟨rfl,_⟩
   ·exact hn (R.inj i id ob _ (h2o i ob hn hio) hi hlo hlid b j j' hO (.inr hS))
   ·exact h2r i ob hn hio (R.inj i r ob _ (h2o i ob hn hio) hr hlo hlr _ j 0 hO (.inl rfl))
  ·simp only [if_true] at hS;rcases hS with hS|⟨rfl,_⟩
   ·exact .inr ⟨id,_,hi,hlid,.inr hS⟩
   ·exact .inr ⟨r,_,hr,hlr,.inl rfl⟩
  ·rw [e1];by_cases hes:es=[]
   ·subst hes;exact .slNil _ _ _
   ·have hat:∀ k j,k < es.length→j < sz→k*sz+j < cr'.size∧k*sz+j < es.length*sz:=fun k j h1 h2=>by
     have:(k+1)*sz≤es.length*sz:=Nat.mul_le_mul_right _ h1;rw [Nat.add_mul] at this;omega
    refine .sl sz es cap (p r) 0 (fun k j=>(cr'[k*sz+j]?).getD undef) hes hrl (fun k1 j h1 h2 hm=>?_) e4 (fun k1 x hx=>(hel k1 x hx).1) (fun k1 x j c hx hc=>(hel k1 x hx).2 c (List.mem_of_getElem? hc)) (fun k1 j h1 h2=>?_) fun k1 x j c hx hc=>?_
    ·rw [Nat.zero_add] at hm;have hjj:=(hat k1 j h1 h2).2;rcases hm with hm|⟨i,o,hio,hlo,hO⟩
     ·exact R.h0 _ _ hm (hown.1 _)
     ·by_cases he:i=id
      ·subst he;rcases hO with hO|hO
       ·exact hpr hO.symm
       ·simp only [if_true] at hO;rcases hO with hO|⟨_,hO⟩
        ·exact hSr _ hO
        ·omega
      ·refine h2r i o he hio (R.inj i r o _ (h2o i o he hio) hr hlo hlr (p r) (k1*sz+j) 0 ?_ (.inl rfl));rcases hO with hO|hO
       ·exact .inl hO
       ·simp only [if_neg he] at hO;exact .inr hO
    ·rw [cell_of_row w (p r) _ cr' er (0,0) hg,Nat.zero_add];have:=(hat k1 j h1 h2).1;simp [this]
    ·obtain ⟨u,hu,hv0⟩:=hcells k1 x j c hx hc;rw [hu];exact hv0.keep (Keeps.same _ w) fun b j _=>hM b j
  ·rw [e1];refine ⟨_,_,_,rfl,e4,fun _=>⟨p r,0,cr',er,rfl,hg,by rw [Nat.zero_add,e3];exact Nat.le_refl _,e5,hsz0,hpr,fun j hj=>?_⟩⟩;simp only [if_true];exact .inr ⟨trivial,by omega⟩
  ·rw [e1];intro b o n1 c1 b' o' n' c' h1 h2 l1 l2 he;simp only [Value.slice.injEq,Option.some.injEq,Addr.mk.injEq] at h1;obtain ⟨⟨rfl,_,_⟩,_,_⟩:=h1;obtain ⟨_,_,cur0,hB3,_,hB5,_⟩:=R.bagRow hi;have hcc:cur0=cur:=by rw [hcur] at hB3;injection hB3 with hB3;injection hB3 with hB3;exact hB3.symm
   subst hcc;obtain ⟨v2,g1,_,g3⟩:=hB5 k' _ (List.getElem?_eq_getElem hk');rw [hv'] at g1;obtain rfl:=Option.some.inj g1;obtain ⟨A2,n2,cap2,q1,q2,q3⟩:=g3 (hpe' k' hne);rw [h2] at q1;simp only [Value.slice.injEq] at q1;obtain ⟨rfl,rfl,rfl⟩:=q1;obtain ⟨b2,o2,_,_,q4,_,_,_,_,_,q5⟩:=q3 l2;simp only [Option.some.injEq,Addr.mk.injEq] at q4;obtain ⟨rfl,rfl,_⟩:=q4;exact hSr _ (by rw [he];exact q5 _ (Nat.le_refl _))
 ·rw [if_pos rfl] at hrow;subst hrow;unfold Osl at hosl;rw [if_pos rfl] at hosl;refine ⟨p,?_⟩;refine R.bagSet hi hk hpe hcur hbx (s3_ w _ _).symm rfl rfl rfl (fun b hb=>q3_ w _ _ b hb) (setRow_heap w (p id) cur _ e _ hcur) (by simp) h2id h2o (fun _=>rfl) (fun _ _=>rfl) (fun _ _ h=>h)
   (fun b j hS=>hB.1 b j (.inr hS)) hB.2.1 (fun i ob hn hio hlo b j j' hO hS=>hn (R.inj i id ob _ (h2o i ob hn hio) hi hlo hlid b j j' hO (.inr hS))) (fun b j hS=>.inr ⟨id,_,hi,hlid,.inr hS⟩)
   ?_ ?_ fun k' v' _ _ _=>?_
  ·obtain ⟨⟨A,hosl⟩,_⟩:=hosl;rw [hosl];exact .slNil _ _ _
  ·obtain ⟨⟨A,hosl⟩,_⟩:=hosl;rw [hosl];exact ⟨A,0,0,rfl,Nat.le_refl _,fun h=>by omega⟩
  ·obtain ⟨⟨A,hosl⟩,_⟩:=hosl;rw [hosl];intro b o n1 c1 b' o' n' c' h1 _ l1;simp only [Value.slice.injEq] at h1;omega
end
end
end Go.Proofs.YtoibondihdhnoaaDoor
