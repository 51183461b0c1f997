/- Texts in one: Walks on plain values: the layer; of every program; no condition. -/
import Derived.Test.YtoibondihdhnoaaGreatDoorFRK4
import Derived.IntWalk
import Derived.Deep.LoopGhost
import Derived.Test.YtoibondihdhnoaaGreatDoorFRK2
namespace Go.Proofs.YtoibondihdhnoaaGreatDoor
open Go.RowKit
section
variable {P:Program} {M0:Nat→Nat→Prop} {w0:Bas} {N:Nm} {p:Pl} {st:VS} {a:Act} {w:World}
def cM (p:Pl) (n b:Nat) : Pl:=⟨fun i=>if i=n then b else p i,fun i=>if i=n then fun _ _=>False else p.S i⟩
theorem jX {p:Pl} {n b i:Nat} (h:i≠n) : cM p n b i=p i∧(cM p n b).S i=p.S i:=⟨if_neg h,if_neg h⟩
theorem kP (p:Pl) (n b:Nat) : cM p n b n=b∧∀ x j,¬(cM p n b).S n x j:=⟨if_pos rfl,fun x j h=>by simp [cM] at h⟩
theorem jl {p:Pl} {n b i x j:Nat} (h:i≠n) : (cM p n b).O i x j↔p.O i x j:=by unfold Pl.O;rw [(jX h).1,(jX h).2]
theorem lU {p:Pl} {n b x j:Nat} (h:(cM p n b).O n x j) : x=b:=h.elim (fun h=>h.symm.trans (kP p n b).1) fun h=>absurd h ((kP p n b).2 x j)
theorem ze {h:Hp} {x:Option Ob} {id:Nat} {ob:Ob} (hi:(h++[x])[id]? = some (some ob)) : (id < h.length∧h[id]? = some (some ob))∨(id=h.length∧x=some ob):=by
 rcases Nat.lt_trichotomy id h.length with aq|heq|QF
 ·rw [List.getElem?_append_left aq] at hi;exact .inl ⟨aq,hi⟩
 ·subst heq;rw [List.getElem?_append_right (Nat.le_refl _)] at hi;simp at hi;exact .inr ⟨rfl,hi⟩
 ·rw [List.getElem?_eq_none (by simp;omega)] at hi;cases hi
theorem tZ {h:Hp} {x:Option Ob} {id:Nat} (hi:id < h.length) : (h++[x])[id]? = h[id]?:=List.getElem?_append_left hi
theorem Rel.growM {ob:Ob} {b:Nat} (_R:Rel M0 w0 N p st a w) (hb0:cp ob=true→w.heap.size≤b) : ∀ c j,c < w.heap.size→¬Mof M0 st.h p c j→¬Mof M0 (st.h++[some ob]) (cM p st.h.length b) c j:=by
 intro c j hc hn hm;rcases hm with hm|⟨id,ob',hi,hl,jS⟩
 ·exact hn (.inl hm)
 ·rcases ze hi with ⟨aq,bA⟩|⟨rfl,hx⟩
  ·exact hn (.inr ⟨id,ob',bA,hl,(jl (Nat.ne_of_lt aq)).1 jS⟩)
  ·obtain rfl:=Option.some.inj hx;have:=lU jS;have:=hb0 hl;omega
theorem Rel.growV {w':World} {ob:Ob} {b:Nat} (R:Rel M0 w0 N p st a w) (hb:Below w.heap.size w w') (hb0:cp ob=true→w.heap.size≤b) {x:AV} {u:Value} (hx:V1 w (Mof M0 st.h p) st.h p x u) : V1 w' (Mof M0 (st.h++[some ob]) (cM p st.h.length b)) (st.h++[some ob]) (cM p st.h.length b) x u:=by
 have hp:∀ id,id < st.h.length→cM p st.h.length b id=p id:=fun id hid=>(jX (Nat.ne_of_lt hid)).1;exact hx.keep (.of_below hb) (R.growM hb0) (by simp) hp (fun id e sz nl es u hid he hv=>by
   rw [tZ hid] at he;exact (hv e sz nl es he).below hb) (fun id e sz nl ao qs u hid he hv=>by
   rw [tZ hid] at he;exact (hv e sz nl ao qs he).below hb) fun id k sz v hid hs=>hs.keep (fun e sz ao qs he=>by
   rw [tZ hid] at he;exact ⟨he,hp id hid,(jX (Nat.ne_of_lt hid)).2,fun b _ _ aq=>hb.block b aq⟩) hb.size
theorem rJ {w0:Bas} {n b:Nat} (h:w0.w.heap.size≤b) : Own w0 (cM p n b) n:=⟨fun j=>.inl (by rw [(kP p n b).1];exact h),(kP p n b).2⟩
theorem Rel.grow {w':World} {ob:Ob} {b:Nat} {d:Nat} {av:AV} {v:Value} (R:Rel M0 w0 N p st a w) (hb:Below w.heap.size w w') (hd:N.has d) (hb0:cp ob=true→w.heap.size≤b) (_hnb:∀ e sz nl ao qs,ob≠.bag e sz nl ao qs)
  (iQ:ObOK w0 w' (Mof M0 (st.h++[some ob]) (cM p st.h.length b)) (st.h++[some ob]) (cM p st.h.length b) st.h.length ob)
  (hv:V1 w' (Mof M0 (st.h++[some ob]) (cM p st.h.length b)) (st.h++[some ob]) (cM p st.h.length b) av v) :
  Rel M0 w0 N (cM p st.h.length b) ⟨(d,av)::st.s,st.h++[some ob]⟩ (a.put (some d) v) w':=by
 have hp:∀ id,id < st.h.length→cM p st.h.length b id=p id:=fun id hid=>(jX (Nat.ne_of_lt hid)).1;have hM:∀ c j,c < w.heap.size→¬Mof M0 st.h p c j→¬Mof M0 (st.h++[some ob]) (cM p st.h.length b) c j:=by
  intro c j hc hn hm;rcases hm with hm|⟨id,ob',hi,hl,jS⟩
  ·exact hn (.inl hm)
  ·rcases ze hi with ⟨aq,bA⟩|⟨rfl,hx⟩
   ·exact hn (.inr ⟨id,ob',bA,hl,(jl (Nat.ne_of_lt aq)).1 jS⟩)
   ·obtain rfl:=Option.some.inj hx;have:=lU jS;have:=hb0 hl;omega
 have hV:∀ {x:AV} {u:Value},V1 w (Mof M0 st.h p) st.h p x u→V1 w' (Mof M0 (st.h++[some ob]) (cM p st.h.length b)) (st.h++[some ob]) (cM p st.h.length b) x u:=fun hx=>
  hx.keep (.of_below hb) hM (by simp) hp (fun id e sz nl es u hid he hv=>by
   rw [tZ hid] at he;exact (hv e sz nl es he).below hb) (fun id e sz nl ao qs u hid he hv=>by
   rw [tZ hid] at he;exact (hv e sz nl ao qs he).below hb) fun id k sz v hid hs=>hs.keep (fun e sz ao qs he=>by
   rw [tZ hid] at he;exact ⟨he,hp id hid,(jX (Nat.ne_of_lt hid)).2,fun b _ _ aq=>hb.block b aq⟩) hb.size
 have bB:∀ id ob',(st.h++[some ob])[id]? = some (some ob')→(id < st.h.length∧st.h[id]? = some (some ob'))∨(id=st.h.length∧ob=ob'):=fun id ob' hi=>by
  rcases ze hi with h|⟨h1,h2⟩
  ·exact .inl h
  ·exact .inr ⟨h1,Option.some.inj h2⟩
 refine ⟨R.defers,R.size.put hd,R.below.later hb,R.m0,R.x0,fun i=>?_,fun id ob' hi=>?_,fun id gR t_ ob2 hi bA hl bp x j j' hO cw=>?_⟩
 ·rw [lu a d v i (R.size.lt hd)];simp only [lkp];split
  ·exact hv
  ·exact hV (R.slots i)
 ·rcases bB id ob' hi with ⟨aq,bA⟩|⟨rfl,rfl⟩
  ·exact (R.objs id ob' bA).keep (fun _=>jX (Nat.ne_of_lt aq)) (fun _ b _ _ de=>hb.block b de) hb.size (fun hx=>hx.keep (.of_below hb) hM) fun _ _ _ _ _ hx=>hV hx
  ·exact iQ
 ·rcases bB id t_ hi with ⟨aq,qS⟩|⟨rfl,rfl⟩<;>rcases bB gR ob2 bA with ⟨g_,bV⟩|⟨rfl,rfl⟩
  ·exact R.inj id gR _ _ qS bV hl bp x j j' ((jl (Nat.ne_of_lt aq)).1 hO) ((jl (Nat.ne_of_lt g_)).1 cw)
  ·have h1:=((R.objs id t_ qS).own hl x j ((jl (Nat.ne_of_lt aq)).1 hO)).2;have h2:=hb0 bp;have h3:=lU cw;omega
  ·have h1:=((R.objs gR ob2 bV).own bp x j' ((jl (Nat.ne_of_lt g_)).1 cw)).2;have h2:=hb0 hl;have h3:=lU hO;omega
  ·rfl
theorem Rel.write {w':World} {h':Hp} {id:Nat} {ob ob':Ob} (R:Rel M0 w0 N p st a w) (hi:st.h[id]? = some (some ob)) (hl:cp ob=true) (bp:cp ob'=true) (_hnb:∀ e sz nl ao qs,ob≠.bag e sz nl ao qs) (wj:∀ e sz nl ao qs,ob'≠.bag e sz nl ao qs) (aL:w.heap.size=w'.heap.size) (kZ:w'.os=w.os) (k6:w'.tape=w.tape) (k7:w'.output=w.output)
  (ca:∀ b,b≠p id→w'.heap[b]? = w.heap[b]?) (hh:h'=st.h.set id (some ob'))
  (bs:∀ e sz nl es v,ob' = .arr e sz nl es→(∀ e sz nl es,ob = .arr e sz nl es→Osl w (p id) e sz nl es.length v)→Osl w' (p id) e sz nl es.length v)
  (iQ:(∀ {x:AV} {u:Value},V1 w (Mof M0 st.h p) st.h p x u→V1 w' (Mof M0 h' p) h' p x u)→(∀ {x:AV} {u:Value},V0 w (Mof M0 st.h p) x u→V0 w' (Mof M0 h' p) x u)→ObOK w0 w' (Mof M0 h' p) h' p id ob') :
  Rel M0 w0 N p ⟨st.s,h'⟩ a w':=by
 subst hh;have hid:id < st.h.length:=(List.getElem?_eq_some_iff.1 hi).1;have bB:∀ i o,(st.h.set id (some ob'))[i]? = some (some o)→(i=id∧o=ob')∨(i≠id∧st.h[i]? = some (some o)):=by
  intro i o aF;rw [List.getElem?_set] at aF;by_cases he:id=i
  ·rw [if_pos he,if_pos (by omega)] at aF;simp only [Option.some.injEq] at aF;exact .inl ⟨he.symm,aF.symm⟩
  ·rw [if_neg he] at aF;exact .inr ⟨fun h=>he h.symm,aF⟩
 have hM:∀ c j,¬Mof M0 st.h p c j→¬Mof M0 (st.h.set id (some ob')) p c j:=by
  intro c j hn hm;rcases hm with hm|⟨i,o,aF,bu,hp⟩
  ·exact hn (.inl hm)
  ·rcases bB i o aF with ⟨rfl,rfl⟩|⟨_,br⟩
   ·exact hn (.inr ⟨i,ob,hi,hl,hp⟩)
   ·exact hn (.inr ⟨i,o,br,bu,hp⟩)
 have hk:Keeps (Mof M0 st.h p) w w':=.of_blocks (by omega) fun b _ hb=>ca b fun he=>hb fun j=>.inr ⟨id,ob,hi,hl,.inl he.symm⟩;have au:∀ i o,i≠id→st.h[i]? = some (some o)→cp o=true→∀ b j,p.O i b j→w'.heap[b]? = w.heap[b]?:=fun i o hn aF bu b j hO=>ca b fun he=>hn (R.inj i id o ob aF hi bu hl b j 0 hO (.inl he.symm));have hV:∀ {x:AV} {u:Value},V1 w (Mof M0 st.h p) st.h p x u→V1 w' (Mof M0 (st.h.set id (some ob')) p) (st.h.set id (some ob')) p x u:=fun hx=>
  hx.keep hk (fun b j _=>hM b j) (by simp) (fun _ _=>rfl) (fun i e sz nl es v cC he hv=>by
   rcases bB i _ he with ⟨rfl,ho⟩|⟨hn,aF⟩
   ·exact bs e sz nl es v ho.symm fun e' bD kz b9 iQ=>hv e' bD kz b9 (by rw [hi,iQ])
   ·exact (hv _ _ _ _ aF).keep fun aJ _=>au i _ hn aF (by rw [aJ];rfl) _ 0 (.inl rfl)) (fun i e sz nl ao qs v cC he hv=>by
   rcases bB i _ he with ⟨rfl,ho⟩|⟨hn,aF⟩
   ·exact absurd ho.symm (wj _ _ _ _ _)
   ·exact (hv _ _ _ _ _ aF).keep fun aJ _=>au i _ hn aF (by rw [aJ];rfl) _ 0 (.inl rfl)) fun i k sz v cC hs=>hs.keep (fun e sz ao qs he=>by
   rcases bB i _ he with ⟨rfl,ho⟩|⟨hn,aF⟩
   ·exact absurd ho.symm (wj _ _ _ _ _)
   ·exact ⟨aF,rfl,rfl,fun b j hO _=>au i _ hn aF rfl b j hO⟩) (by omega)
 have dO:∀ {x:AV} {u:Value},V0 w (Mof M0 st.h p) x u→V0 w' (Mof M0 (st.h.set id (some ob')) p) x u:=fun hx=>hx.keep hk fun b j _=>hM b j;have du:=(R.objs id ob hi).ge hl;refine ⟨R.defers,R.size,R.below.blocks kZ k6 k7 (by omega) fun b _ hF=>ca b fun he=>hF fun j=>by rw [he];exact du j,R.m0,R.x0,fun i=>hV (R.slots i),fun i o aF=>?_,fun i i' o o' aF br bu ep x j j' hO cw=>?_⟩
 ·rcases bB i o aF with ⟨rfl,rfl⟩|⟨hn,br⟩
  ·exact iQ hV dO
  ·exact (R.objs i o br).keep (fun _=>⟨rfl,rfl⟩) (fun bu b j hO _=>au i o hn br bu b j hO) (by omega) dO fun _ _ _ _ _ hx=>hV hx
 ·rcases bB i o aF with ⟨rfl,rfl⟩|⟨hn,h1⟩<;>rcases bB i' o' br with ⟨rfl,rfl⟩|⟨lv,h2⟩
  ·rfl
  ·exact R.inj _ _ _ _ hi h2 hl ep x j j' hO cw
  ·exact R.inj _ _ _ _ h1 hi bu hl x j j' hO cw
  ·exact R.inj i i' o o' h1 h2 bu ep x j j' hO cw
end
section
variable {P:Program} {M0:Nat→Nat→Prop} {w0:Bas} {N:Nm} {p:Pl} {st:VS} {a:Act} {w:World}
theorem V1.purge {w w':World} {M M':Nat→Nat→Prop} {h h':Hp} {p p':Pl} {id:Nat} (hk:Keeps M w w') (hM:∀ b j,b < w.heap.size→¬M b j→¬M' b j) (hl:h.length≤h'.length) (hp:∀ i,i≠id→p' i=p i)
  (hO:∀ i e sz nl es v,i≠id→h'[i]? = some (some (.arr e sz nl es))→(∀ e sz nl es,h[i]? = some (some (.arr e sz nl es))→Osl w (p i) e sz nl es.length v)→Osl w' (p i) e sz nl es.length v)
  (hG:∀ i e sz nl ao qs v,i≠id→h'[i]? = some (some (.bag e sz nl ao qs))→(∀ e sz nl ao qs,h[i]? = some (some (.bag e sz nl ao qs))→Osl w (p i) e 1 nl qs.length v)→Osl w' (p i) e 1 nl qs.length v)
  (hW:∀ i k sz v,i≠id→i < h.length→Sp w h p i k sz v→Sp w' h' p' i k sz v) :
  ∀ (n:Nat) (av:AV) (v:Value),V1 w M h p av v→cH id n av=true→V1 w' M' h' p' av v
 | 0,_,_,_,hb=>by simp [cH] at hb
 | n+1,av,v,hv,hb=>by
  have ih:=V1.purge (w:=w) (p:=p) (h:=h) hk hM hl hp hO hG hW n;cases hv with
  | base _ _ h0=>exact .base _ _ (h0.keep hk hM)
  | agg cs us hl h1 hv=>
   simp only [cH] at hb;exact .agg cs us hl h1 fun i c u hc hu=>ih c u (hv i c u hc hu) (List.all_eq_true.1 hb c (List.mem_of_getElem? hc))
  | tup cs us hl hv=>
   simp only [cH] at hb;exact .tup cs us hl fun i c u hc hu=>ih c u (hv i c u hc hu) (List.all_eq_true.1 hb c (List.mem_of_getElem? hc))
  | fn f x y us vs hl bp hv bE=>
   simp only [cH,Bool.and_eq_true] at hb;exact .fn f x y us vs hl bp (fun i c u hc hu=>ih c u (hv i c u hc hu) (List.all_eq_true.1 hb.1 c (List.mem_of_getElem? hc))) (fun i c u hc hu=>ih c u (bE i c u hc hu) (List.all_eq_true.1 hb.2 c (List.mem_of_getElem? hc)))
  | iface t x u hv=>exact .iface t x u (ih x u hv (by simpa [cH] using hb))
  | ref i off hid=>rw [←hp i (by simpa [cH] using hb)];exact .ref i off (Nat.lt_of_lt_of_le hid hl)
  | aref i sz k off hid=>rw [←hp i (by simpa [cH] using hb)];exact .aref i sz k off (Nat.lt_of_lt_of_le hid hl)
  | osl i A m c hid hv lN=>
   have hn:i≠id:=by simpa [cH] using hb
   exact .osl i A m c (Nat.lt_of_lt_of_le hid hl) (fun e sz nl es he=>by rw [hp i hn];exact hO i e sz nl es _ hn he hv) fun e sz nl ao qs he=>by rw [hp i hn];exact hG i e sz nl ao qs _ hn he lN
  | slw i k sz es _ hid h0 hs=>
   have hn:i≠id:=by simpa [cH] using hb
   exact .slw i k sz es v (Nat.lt_of_lt_of_le hid hl) (h0.keep hk hM) (hW i k sz v hn hid hs)
  | mp i hid=>rw [←hp i (by simpa [cH] using hb)];exact .mp i (Nat.lt_of_lt_of_le hid hl)
theorem Cg (id:Nat) : ∀ (s:List (Nat×AV)) (i:Nat),lkp (s.map fun q=>(q.1,purge id q.2)) i=purge id (lkp s i)∨lkp (s.map fun q=>(q.1,purge id q.2)) i = .any
 | [],i=>.inr rfl
 | (d,v)::r,i=>by
  simp only [List.map_cons,lkp];split
  ·exact .inl rfl
  ·exact Cg id r i
theorem Rel.append {w':World} {id g:Nat} {e:TypeId} {sz:Nat} {nl:Bool} {es qT:List (List AV)} {d:Nat} {A:Option Addr} {n c:Nat} (R:Rel M0 w0 N p st a w) (hd:N.has d) (hi:st.h[id]? = some (some (.arr e sz nl es)))
  (_hge:∀ j,Fr w0 g j) (hg:g=w.heap.size∨(nl=false∧g=p id)) (kZ:w'.os=w.os) (k6:w'.tape=w.tape) (k7:w'.output=w.output) (aL:w.heap.size≤w'.heap.size) (ca:∀ b,b < w.heap.size→¬(nl=false∧b=p id)→w'.heap[b]? = w.heap[b]?)
  (iQ:(∀ {x:AV} {u:Value},V0 w (Mof M0 st.h p) x u→V0 w' (Mof M0 (gG id 0 (st.h.set id (some (.arr e sz false qT)))) (cM p id g)) x u)→ObOK w0 w' (Mof M0 (gG id 0 (st.h.set id (some (.arr e sz false qT)))) (cM p id g)) (gG id 0 (st.h.set id (some (.arr e sz false qT)))) (cM p id g) id (.arr e sz false qT))
  (hv:Osl w' g e sz false qT.length (.slice A n c)) :
  Rel M0 w0 N (cM p id g) ⟨(d,.osl id)::st.s.map (fun q=>(q.1,purge id q.2)),gG id 0 (st.h.set id (some (.arr e sz false qT)))⟩ (a.put (some d) (.slice A n c)) w':=by
 generalize fy:gG id 0 (st.h.set id (some (.arr e sz false qT)))=h' at *;generalize sr:cM p id g=p' at *;have eI:id < st.h.length:=(List.getElem?_eq_some_iff.1 hi).1;have hlen:h'.length=st.h.length:=by rw [←fy,yR];simp
 have cS:p' id=g:=by rw [←sr];exact (kP p id g).1
 have jt:∀ i,i≠id→p' i=p i:=fun i hn=>by rw [←sr];exact (jX hn).1
 have gx:∀ i,i≠id→p'.S i=p.S i:=fun i hn=>by rw [←sr];exact (jX hn).2
 have kc:∀ {i x j},i≠id→(p'.O i x j↔p.O i x j):=fun hn=>by rw [←sr];exact jl hn
 have sI:∀ {x j},p'.O id x j→x=g:=fun h=>by rw [←sr] at h;exact lU h
 have bB:∀ i o,h'[i]? = some (some o)→(i=id∧o = .arr e sz false qT)∨(i≠id∧∃ o0,st.h[i]? = some (some o0)∧cp o0=cp o∧((o0=o∧∀ cs,o = .box cs→cs.all (cH id 5)=true)∨∃ cs,o0 = .box cs∧o = .box (cs.map (qN id i))∧cs.all (fun c=>cH id 5 c || tP id c)=true)):=by
  intro i o aF;rw [←fy,vM] at aF;obtain ⟨x,hx,df⟩:=Option.map_eq_some_iff.1 aF;rw [Nat.zero_add] at df;rw [List.getElem?_set] at hx;by_cases he:id=i
  ·rw [if_pos he,if_pos (by omega)] at hx;simp only [Option.some.injEq] at hx;subst hx;simp only [jK,Option.some.injEq] at df;exact .inl ⟨he.symm,df.symm⟩
  ·rw [if_neg he] at hx;refine .inr ⟨fun h=>he h.symm,?_⟩;cases x with
   | none=>simp [jK] at df
   | some y=>
    cases y with
    | box cs=>
     simp only [jK] at df;split at df
     ·rename_i bm;simp only [Option.some.injEq] at df;subst df;exact ⟨_,hx,rfl,.inl ⟨rfl,fun dU hc=>by injection hc with hc;subst hc;exact bm⟩⟩
     ·split at df
      ·rename_i bm;simp only [Option.some.injEq] at df;subst df;exact ⟨_,hx,rfl,.inr ⟨cs,rfl,rfl,bm⟩⟩
      ·cases df
    | arr e1 s1 n1 l1=>
     simp only [jK,Option.some.injEq] at df;subst df;exact ⟨_,hx,rfl,.inl ⟨rfl,fun dU hc=>by cases hc⟩⟩
    | mpo kf iA=>
     simp only [jK,Option.some.injEq] at df;subst df;exact ⟨_,hx,rfl,.inl ⟨rfl,fun dU hc=>by cases hc⟩⟩
    | bag e1 s1 n1 Nq q1=>
     simp only [jK,Option.some.injEq] at df;subst df;exact ⟨_,hx,rfl,.inl ⟨rfl,fun dU hc=>by cases hc⟩⟩
 have dt:nl=false→cp (.arr e sz nl es)=true:=fun h=>by subst h;rfl
 have hM:∀ c j,c < w.heap.size→¬Mof M0 st.h p c j→¬Mof M0 h' p' c j:=by
  intro c j hc hn hm;rcases hm with hm|⟨i,o,aF,bu,hp⟩
  ·exact hn (.inl hm)
  ·rcases bB i o aF with ⟨rfl,rfl⟩|⟨au,o0,br,se,_⟩
   ·have GF:=sI hp;rcases hg with hg|⟨aJ,hg⟩
    ·omega
    ·exact hn (.inr ⟨_,_,hi,dt aJ,.inl (by omega)⟩)
   ·exact hn (.inr ⟨i,o0,br,se.trans bu,(kc au).1 hp⟩)
 have hk:Keeps (Mof M0 st.h p) w w':=.of_blocks aL fun b de hn=>ca b de fun ⟨aJ,he⟩=>hn fun j=>.inr ⟨id,_,hi,dt aJ,.inl he.symm⟩;have au:∀ i o,i≠id→st.h[i]? = some (some o)→cp o=true→∀ b j,p.O i b j→b < w.heap.size→w'.heap[b]? = w.heap[b]?:=fun i o hn aF bu b j hO de=>ca b de fun ⟨aJ,he⟩=>hn (R.inj i id o _ aF hi bu (dt aJ) b j 0 hO (.inl he.symm));have b_:∀ i o,i≠id→(∀ cs,o≠.box cs)→h'[i]? = some (some o)→st.h[i]? = some (some o):=fun i o hn fL he=>by
  rcases bB i _ he with ⟨h,_⟩|⟨_,o0,aF,_,⟨rfl,_⟩|⟨cs,_,hb,_⟩⟩
  ·exact absurd h hn
  ·exact aF
  ·exact absurd hb (fL _)
 have ql:∀ i e sz nl es v,i≠id→h'[i]? = some (some (.arr e sz nl es))→(∀ e sz nl es,st.h[i]? = some (some (.arr e sz nl es))→Osl w (p i) e sz nl es.length v)→Osl w' (p i) e sz nl es.length v:=fun i e sz nl es v hn he hv=>by
  have aF:=b_ i _ hn (fun cs h=>by cases h) he;exact (hv _ _ _ _ aF).keep fun aJ aq=>au i _ hn aF (by rw [aJ];rfl) _ 0 (.inl rfl) aq
 have Ch:∀ i e sz nl ao qs v,i≠id→h'[i]? = some (some (.bag e sz nl ao qs))→(∀ e sz nl ao qs,st.h[i]? = some (some (.bag e sz nl ao qs))→Osl w (p i) e 1 nl qs.length v)→Osl w' (p i) e 1 nl qs.length v:=fun i e sz nl ao qs v hn he hv=>by
  have aF:=b_ i _ hn (fun cs h=>by cases h) he;exact (hv _ _ _ _ _ aF).keep fun aJ aq=>au i _ hn aF (by rw [aJ];rfl) _ 0 (.inl rfl) aq
 have Ci:∀ i k sz v,i≠id→i < st.h.length→Sp w st.h p i k sz v→Sp w' h' p' i k sz v:=fun i k sz v hn _ hs=>hs.keep (fun e sz ao qs he=>by
  have aF:=b_ i _ hn (fun cs h=>by cases h) he;exact ⟨aF,jt i hn,gx i hn,au i _ hn aF rfl⟩) aL
 have hV:∀ (n:Nat) {x:AV} {u:Value},V1 w (Mof M0 st.h p) st.h p x u→cH id n x=true→V1 w' (Mof M0 h' p') h' p' x u:=fun n x u hx hn=>V1.purge hk hM (by omega) jt ql Ch Ci n x u hx hn;have dO:∀ {x:AV} {u:Value},V0 w (Mof M0 st.h p) x u→V0 w' (Mof M0 h' p') x u:=fun hx=>hx.keep hk hM;have hF:∀ b,b < w.heap.size→¬(∀ j,Fr w0 b j)→w'.heap[b]? = w.heap[b]?:=fun b de hn=>ca b de fun ⟨aJ,he⟩=>hn fun j=>by rw [he];exact (R.objs id _ hi).ge (dt aJ) j
 refine ⟨R.defers,R.size.put hd,R.below.blocks kZ k6 k7 aL hF,R.m0,R.x0,fun i=>?_,fun i o aF=>?_,fun i i' o o' aF br bu ep x j j' hO cw=>?_⟩
 ·rw [lu a d _ i (R.size.lt hd)];simp only [lkp];split
  ·refine .osl id A n c (by omega) (fun e' bD kz b9 he=>?_) fun e' bD kz pe qs he=>?_
   ·rcases bB id _ he with ⟨_,h⟩|⟨h,_⟩
    ·injection h with h1 h2 h3 h4
     subst h1 h2 h3 h4;rw [cS];exact hv
    ·exact absurd rfl h
   ·rcases bB id _ he with ⟨_,h⟩|⟨h,_⟩
    ·cases h
    ·exact absurd rfl h
  ·rcases Cg id st.s i with h|h
   ·rw [h];unfold Go.Proofs.YtoibondihdhnoaaGreatDoor.purge;split
    ·rename_i hn;exact hV 5 (R.slots i) hn
    ·exact .base _ _ (.any _)
   ·rw [h];exact .base _ _ (.any _)
 ·rcases bB i o aF with ⟨rfl,rfl⟩|⟨hn,o0,br,se,⟨rfl,jj⟩|⟨cs,rfl,rfl,aG⟩⟩
  ·exact iQ dO
  rotate_left
  ·obtain ⟨h1,cur,e,hg,h2,h3,h4⟩:=R.objs i _ br;refine ⟨by unfold Own;rw [jt i hn,gx i hn];exact h1,cur,e,by rw [jt i hn,au i _ hn br rfl _ 0 (.inl rfl) (Array.getElem?_eq_some_iff.1 hg).1];exact hg,by simpa using h2,fun c hc=>?_,fun j c hj=>?_⟩
   ·obtain ⟨c0,mI,rfl⟩:=List.mem_map.1 hc;unfold qN;split
    ·exact h3 c0 mI
    ·rfl
   ·rw [List.getElem?_map] at hj;obtain ⟨c0,l5,rfl⟩:=Option.map_eq_some_iff.1 hj;obtain ⟨u,hu,hv⟩:=h4 j c0 l5;refine ⟨u,hu,?_⟩;unfold qN;split
    ·rename_i bm;exact hV 5 hv bm
    ·rename_i bm;have:=List.all_eq_true.1 aG c0 (List.mem_of_getElem? l5);rw [Bool.or_eq_true] at this;rcases this with h|h
     ·exact absurd h bm
     ·obtain ⟨k,rfl⟩ : ∃ k,c0 = .osl k:=by cases c0<;>first|exact ⟨_,rfl⟩|(simp [tP] at h;done)
      obtain ⟨A2,n2,c2,rfl,_,_⟩:=hv.osl_inv;refine .osl _ _ _ _ (by rw [hlen];exact (List.getElem?_eq_some_iff.1 br).1) (fun e sz nl es he=>?_) fun e sz nl pe qs he=>?_
      ·rw [aF] at he;cases he
      ·rw [aF] at he;cases he
  ·exact (R.objs i o0 br).keep (fun _=>⟨jt i hn,gx i hn⟩) (fun bu b j hO de=>au i o0 hn br bu b j hO de) aL dO fun cs bM c hc u hx=>hV 5 hx (List.all_eq_true.1 (jj cs bM) c hc)
 ·have aq:∀ i o,i≠id→st.h[i]? = some (some o)→cp o=true→∀ x j,p.O i x j→g≠x:=by
   intro i o hn h1 hl x j hO he;rcases hg with hg|⟨aJ,hg⟩
   ·have:=((R.objs i o h1).own hl x j hO).2;omega
   ·exact hn (R.inj i id o _ h1 hi hl (dt aJ) x j 0 hO (.inl (by omega)))
  rcases bB i o aF with ⟨rfl,rfl⟩|⟨hn,o1,h1,e1,_⟩<;>rcases bB i' o' br with ⟨rfl,rfl⟩|⟨lv,o2,h2,e2,_⟩
  ·rfl
  ·exact absurd (sI hO).symm (aq i' o2 lv h2 (e2.trans ep) x j' ((kc lv).1 cw))
  ·exact absurd (sI cw).symm (aq i o1 hn h1 (e1.trans bu) x j ((kc hn).1 hO))
  ·exact R.inj i i' o1 o2 h1 h2 (e1.trans bu) (e2.trans ep) x j j' ((kc hn).1 hO) ((kc lv).1 cw)
theorem Nr {es:List (List AV)} {sz:Nat} {u:Nat→Nat→Value} {k:Nat} {x:List AV} {j:Nat} {c:AV} (hk:es[k]? = some x) (hj:x[j]? = some c) (hl:x.length=sz) :
  ((List.range es.length).flatMap fun k=>(List.range sz).map fun j=>if k < es.length then u k j else .bool false)[k*sz+j]? = some (u k j):=by
 have cF:=(List.getElem?_eq_some_iff.1 hk).1;have bI:=(List.getElem?_eq_some_iff.1 hj).1;have key:∀ (n b:Nat),b+k < b+n→(((List.range' b n).flatMap fun k=>(List.range sz).map fun j=>if k < es.length then u k j else Value.bool false))[k*sz+j]? = some (if b+k < es.length then u (b+k) j else .bool false):=by
  clear cF hk;induction k with
  | zero=>
   intro n b hn;cases n with
   | zero=>omega
   | succ n=>
    rw [List.range'_succ,List.flatMap_cons,List.getElem?_append_left (by simp;omega)];simp [show j < sz by omega]
  | succ k ih=>
   intro n b hn;cases n with
   | zero=>omega
   | succ n=>
    rw [List.range'_succ,List.flatMap_cons,List.getElem?_append_right (by simp [Nat.add_mul];omega)];have:=ih n (b+1) (by omega);simp only [List.length_map,List.length_range];rw [show (k+1)*sz+j - sz=k*sz+j by rw [Nat.add_mul];omega,this,show b+1+k=b+(k+1) by omega]
 have:=key es.length 0 (by omega);rw [show List.range es.length=List.range' 0 es.length from List.range_eq_range',this];simp [cF]
end
section
variable {P:Program} {M0:Nat→Nat→Prop} {w0:Bas} {N:Nm} {p:Pl} {st:VS} {a:Act} {w:World}
theorem GG {us:List Value} {cs:List AV} {d:Nat} (R:Rel M0 w0 N p st a w) (hd:N.has d) (hc:Cells w (Mof M0 st.h p) st.h p cs us) (t:TypeId) :
  Rel M0 w0 N (cM p st.h.length w.heap.size) ⟨(d,.ref st.h.length 0)::st.s,st.h++[some (.box cs)]⟩ (a.put (some d) (.pointer (some ⟨w.heap.size,0,none⟩))) { w with heap:=w.heap.push (.cells us.toArray t) }:=by
 have hb:=lr w (.cells us.toArray t);have jY:cM p st.h.length w.heap.size st.h.length=w.heap.size:=(kP p _ _).1;refine R.grow hb hd (fun _=>Nat.le_refl _) (fun _ _ _ _ _ h=>by cases h) ⟨rJ R.below.size,us.toArray,t,by rw [jY];simp [-World.alloc_eq],by simp [hc.1],hc.2.1,fun j c hj=>?_⟩ ?_
 ·have eY:j < us.length:=by rw [hc.1];exact (List.getElem?_eq_some_iff.1 hj).1
  exact ⟨us[j],by simp [eY],R.growV hb (fun _=>Nat.le_refl _) (hc.2.2 j c us[j] hj (List.getElem?_eq_getElem eY))⟩
 ·have:=V1.ref (w:={ w with heap:=w.heap.push (.cells us.toArray t) }) (M:=Mof M0 (st.h++[some (.box cs)]) (cM p st.h.length w.heap.size)) (h:=st.h++[some (.box cs)]) (p:=cM p st.h.length w.heap.size) st.h.length 0 (by simp);rwa [jY] at this
theorem GH {us:List Value} {es:List (List AV)} {d e sz:Nat} (R:Rel M0 w0 N p st a w) (hd:N.has d) (aL:0 < sz) (hlen:us.length=es.length*sz) (ij:es.length≤maxLen) (cL:∀ (k:Nat) (x:List AV),es[k]? = some x→x.length=sz∧∀ c∈x,cV c=true)
  (hv:∀ (k:Nat) (x:List AV) (j:Nat) (c:AV) (u:Value),es[k]? = some x→x[j]? = some c→us[k*sz+j]? = some u→V0 w (Mof M0 st.h p) c u) :
  Rel M0 w0 N (cM p st.h.length w.heap.size) ⟨(d,.osl st.h.length)::st.s,st.h++[some (.arr e sz false es)]⟩ (a.put (some d) (.slice (some ⟨w.heap.size,0,none⟩) es.length es.length)) { w with heap:=w.heap.push (.cells us.toArray e) }:=by
 have hb:=lr w (.cells us.toArray e);have jY:cM p st.h.length w.heap.size st.h.length=w.heap.size:=(kP p _ _).1;have hg:({ w with heap:=w.heap.push (.cells us.toArray e) } : World).heap[w.heap.size]? = some (.cells us.toArray e (0,0)):=by simp [-World.alloc_eq]
 have hM:=R.growM (ob:=.arr e sz false es) (b:=w.heap.size) (fun _=>Nat.le_refl _);refine R.grow hb hd (fun _=>Nat.le_refl _) (fun _ _ _ _ _ h=>by cases h) ⟨aL,cL,?_⟩ ?_
 ·rw [if_neg (by simp)];refine ⟨rJ R.below.size,us.toArray,by rw [jY];exact hg,by simp [hlen],fun k x j c hk hj=>?_⟩;have cF:=(List.getElem?_eq_some_iff.1 hk).1;have bI:=(List.getElem?_eq_some_iff.1 hj).1;have lQ:=(cL k x hk).1;have h1:(k+1)*sz≤es.length*sz:=Nat.mul_le_mul_right _ cF;rw [Nat.add_mul] at h1;have aq:k*sz+j < us.length:=by omega
  exact ⟨us[k*sz+j],by simp [aq],(hv k x j c _ hk hj (List.getElem?_eq_getElem aq)).keep (.of_below hb) hM⟩
 ·refine .osl _ _ _ _ (by simp) (fun e' bD kz b9 he=>?_) fun e' bD kz pe qs he=>?_
  ·rw [List.getElem?_append_right (Nat.le_refl _)] at he;simp only [Nat.sub_self,List.getElem?_cons_zero,Option.some.injEq] at he;injection he with h1 h2 h3 h4
   subst h1 h2 h3 h4;unfold Osl;rw [if_neg (by simp),jY];exact ⟨es.length,us.toArray,rfl,hg,by simp [hlen],Nat.le_refl _,ij⟩
  ·rw [List.getElem?_append_right (Nat.le_refl _)] at he;simp at he
theorem Ns {d e sz:Nat} (R:Rel M0 w0 N p st a w) (hd:N.has d) (aL:0 < sz) :
  Rel M0 w0 N (cM p st.h.length 0) ⟨(d,.osl st.h.length)::st.s,st.h++[some (.arr e sz true [])]⟩ (a.put (some d) (.slice none 0 0)) w:=by
 refine R.grow (Below.refl _ _) hd (fun h=>by cases h) (fun _ _ _ _ _ h=>by cases h) ⟨aL,by simp,by simp⟩ (.osl _ _ _ _ (by simp) (fun e' bD kz b9 he=>?_) fun e' bD kz pe qs he=>?_)
 ·rw [List.getElem?_append_right (Nat.le_refl _)] at he;simp only [Nat.sub_self,List.getElem?_cons_zero,Option.some.injEq] at he;injection he with h1 h2 h3 h4
  subst h1 h2 h3 h4;simp [Osl]
 ·rw [List.getElem?_append_right (Nat.le_refl _)] at he;simp at he
theorem GI {cs vs:List AV} {off:Nat} (dV:off+vs.length≤cs.length) (j:Nat) : (l6 cs off vs)[j]? = if j < off then cs[j]? else if j < off+vs.length then vs[j - off]? else cs[j]?:=by
 unfold l6;by_cases h1:j < off
 ·rw [if_pos h1,List.append_assoc,List.getElem?_append_left (by simp;omega),List.getElem?_take_of_lt h1]
 ·rw [if_neg h1,List.append_assoc,List.getElem?_append_right (by simp;omega)];have e1:(cs.take off).length=off:=by simp;omega
  rw [e1];by_cases h2:j < off+vs.length
  ·rw [if_pos h2,List.getElem?_append_left (by omega)]
  ·rw [if_neg h2,List.getElem?_append_right (by omega),List.getElem?_drop];congr 1;omega
theorem GJ {cs vs:List Value} {off:Nat} (dV:off+vs.length≤cs.length) (j:Nat) : (cs.take off++vs++cs.drop (off+vs.length))[j]? = if j < off then cs[j]? else if j < off+vs.length then vs[j - off]? else cs[j]?:=by
 by_cases h1:j < off
 ·rw [if_pos h1,List.append_assoc,List.getElem?_append_left (by simp;omega),List.getElem?_take_of_lt h1]
 ·rw [if_neg h1,List.append_assoc,List.getElem?_append_right (by simp;omega)];have e1:(cs.take off).length=off:=by simp;omega
  rw [e1];by_cases h2:j < off+vs.length
  ·rw [if_pos h2,List.getElem?_append_left (by omega)]
  ·rw [if_neg h2,List.getElem?_append_right (by omega),List.getElem?_drop];congr 1;omega
theorem GK {cs vs:List AV} {off:Nat} (h1:∀ c∈cs,cV c=true) (h2:∀ c∈vs,cV c=true) : ∀ c∈l6 cs off vs,cV c=true:=by
 intro c hc;unfold l6 at hc;rcases List.mem_append.1 hc with hc|hc
 ·rcases List.mem_append.1 hc with hc|hc
  ·exact h1 c (List.mem_of_mem_take hc)
  ·exact h2 c hc
 ·exact h1 c (List.mem_of_mem_drop hc)
theorem GL {cs vs:List AV} {off:Nat} (dV:off+vs.length≤cs.length) : (l6 cs off vs).length=cs.length:=by
 unfold l6;simp;omega
theorem wk (w:World) (g:Nat) (cs:Array Value) (b:Nat) (h:b≠g) : (w.setRow g cs).heap[b]? = w.heap[b]?:=by
 simp only [World.setRow,Array.getElem?_modify];rw [if_neg (by omega)]
theorem wm (w:World) (g:Nat) (cs:Array Value) : (w.setRow g cs).heap.size=w.heap.size:=by simp [World.setRow]
theorem Cj {t:TypeId} {ti:TI} {g o:Nat} {cur:Array Value} {e:TypeId} {v:Value} (aY:aZ P t=some ti) (aL:v.cells.size=ti.size) (hg:w.heap[g]? = some (.cells cur e (0,0))) (dV:o+ti.size≤cur.size) (h1:∀ x∈v.cells.toList,x.oneCell'=true) :
  (Instr.storeAt t (.pointer (some ⟨g,o,none⟩)) v).run P w = .ok () (w.setRow g (cur.toList.take o++v.cells.toList++cur.toList.drop (o+v.cells.toList.length)).toArray):=by
 have:=run_storeCells_at P g o e v.cells.toList 0 cur w hg (by simp;omega) h1;simp only [Nat.add_zero] at this;simp only [Instr.storeAt,Instr.sureAddr,Sem.run_bind,Sem.run_pure,Result.andThen_ok,storeVar,KJ aY,Sem.run_ite,aL,ne_eq,not_true_eq_false,if_false];exact this
theorem GM {cs:List AV} {us:List Value} {M:Nat→Nat→Prop} {h:Hp} (hc:Cells w M h p cs us) : ∀ x∈us,x.oneCell'=true:=by
 intro x hx;obtain ⟨i,hi⟩:=List.mem_iff_getElem?.1 hx;have hl:i < cs.length:=by rw [←hc.1];exact (List.getElem?_eq_some_iff.1 hi).1
 exact (hc.2.2 i cs[i] x (List.getElem?_eq_getElem hl) hi).one (hc.2.1 _ (List.getElem_mem hl))
theorem GN {t:TypeId} {x y:Operand} {ti:TI} {id off:Nat} {cs:List AV} (R:Rel M0 w0 N p st a w) (aY:aZ P t=some ti) (hx:ev st x = .ref id off) (hid:st.h[id]? = some (some (.box cs))) (h1:oR (ev st y)=true) (h2:(fZ (ev st y)).length=ti.size) (h3:off+ti.size≤cs.length) :
  ∃ w',(Instr.storeAt t (a.eval x) (a.eval y)).run P w = .ok () w'∧Rel M0 w0 N p ⟨st.s,st.h.set id (some (.box (l6 cs off (fZ (ev st y)))))⟩ a w':=by
 have iR:=R.eval x;rw [hx] at iR;obtain ⟨hq,_⟩:=iR.ref_inv;have aD:=(R.eval y).cells h1;obtain ⟨du,cur,e,hg,bM,cf,hv⟩:=R.objs id _ hid;have gI:(a.eval y).cells.size=ti.size:=by rw [←Array.length_toList,aD.1,h2]
 refine ⟨_,by rw [hq];exact Cj aY gI hg (by omega) (GM aD),?_⟩;have dV:off+(a.eval y).cells.toList.length≤cur.toList.length:=by simp;omega
 have ke:off+(fZ (ev st y)).length≤cs.length:=by omega
 have hlen:(a.eval y).cells.toList.length=(fZ (ev st y)).length:=aD.1;have aq:=(Array.getElem?_eq_some_iff.1 hg).1;refine R.write hid rfl rfl (fun _ _ _ _ _ h=>by cases h) (fun _ _ _ _ _ h=>by cases h) (wm w _ _).symm rfl rfl rfl (fun b hb=>wk w _ _ b hb) rfl (fun e sz nl es v he=>by cases he) fun hV _=>?_;refine ⟨du,_,e,setRow_heap w (p id) cur _ e _ hg,?_,GK cf aD.2.1,fun j c hj=>?_⟩
 ·rw [GL ke];simp;omega
 ·rw [GI ke] at hj;have bb:=GJ dV j;rw [hlen] at bb;split at hj
  ·rename_i aq;rw [if_pos aq] at bb;obtain ⟨u,hu,kI⟩:=hv j c hj;exact ⟨u,by rw [List.getElem?_toArray,hlen,bb];simpa using hu,hV kI⟩
  ·rename_i aq;rw [if_neg aq] at bb;split at hj
   ·rename_i la;rw [if_pos la] at bb;have bI:j - off < (a.eval y).cells.toList.length:=by rw [hlen];exact (List.getElem?_eq_some_iff.1 hj).1
    exact ⟨_,by rw [List.getElem?_toArray,hlen,bb];exact List.getElem?_eq_getElem bI,hV (aD.2.2 _ c _ hj (List.getElem?_eq_getElem bI))⟩
   ·rename_i la;rw [if_neg la] at bb;obtain ⟨u,hu,kI⟩:=hv j c hj;exact ⟨u,by rw [List.getElem?_toArray,hlen,bb];simpa using hu,hV kI⟩
theorem Nt {t:TypeId} {x y:Operand} {ti:TI} {id sz i off e:Nat} {nl:Bool} {es:List (List AV)} (R:Rel M0 w0 N p st a w) (aY:aZ P t=some ti) (hx:ev st x = .aref id sz i off) (hid:st.h[id]? = some (some (.arr e sz nl es))) (hi:i < es.length) (h1:oR (ev st y)=true)
  (hp:(fZ (ev st y)).all (fh 5)=true) (h2:(fZ (ev st y)).length=ti.size) (h3:off+ti.size≤sz) :
  ∃ w',(Instr.storeAt t (a.eval x) (a.eval y)).run P w = .ok () w'∧Rel M0 w0 N p ⟨st.s,st.h.set id (some (.arr e sz nl (es.set i (l6 (es.getD i []) off (fZ (ev st y))))))⟩ a w':=by
 have iR:=R.eval x;rw [hx] at iR;obtain ⟨hq,_⟩:=iR.aref_inv;have aD:=(R.eval y).cells h1;obtain ⟨aL,cL,hr⟩:=R.objs id _ hid;have aJ:nl=false:=by cases nl;rfl;simp only [if_true] at hr;subst hr;simp at hi
 subst aJ;simp only [Bool.false_eq_true,if_false] at hr;obtain ⟨du,cur,hg,bM,hv⟩:=hr;have gI:(a.eval y).cells.size=ti.size:=by rw [←Array.length_toList,aD.1,h2]
 have hlen:(a.eval y).cells.toList.length=(fZ (ev st y)).length:=aD.1;have Ck:es[i]? = some (es.getD i []):=by simp [List.getD,hi]
 obtain ⟨lQ,wo⟩:=cL i _ Ck;have aX:(i+1)*sz≤es.length*sz:=Nat.mul_le_mul_right _ hi;rw [Nat.add_mul] at aX;refine ⟨_,by rw [hq];exact Cj aY gI hg (by omega) (GM aD),?_⟩;have dV:i*sz+off+(a.eval y).cells.toList.length≤cur.toList.length:=by simp;omega
 have ke:off+(fZ (ev st y)).length≤(es.getD i []).length:=by omega
 have kg:∀ (j:Nat) (c:AV) (u:Value),(fZ (ev st y))[j]? = some c→(a.eval y).cells.toList[j]? = some u→V0 w (Mof M0 st.h p) c u:=fun j c u hc hu=>(aD.2.2 j c u hc hu).pure 5 (List.all_eq_true.1 hp c (List.mem_of_getElem? hc));refine R.write hid rfl rfl (fun _ _ _ _ _ h=>by cases h) (fun _ _ _ _ _ h=>by cases h) (wm w _ _).symm rfl rfl rfl (fun b hb=>wk w _ _ b hb) rfl (fun e' bD kz b9 v he ho=>?_) fun _ dO=>⟨aL,fun k z hk=>?_,?_⟩
 ·injection he with q1 q2 q3 q4
  subst q1 q2 q3 q4;have:=ho _ _ _ _ rfl;unfold Osl at this ⊢;simp only [Bool.false_eq_true,if_false,List.length_set] at this ⊢;obtain ⟨cap,cur',b1,b2,b3,b4⟩:=this;obtain rfl:cur'=cur:=by rw [hg] at b2;injection b2 with b2;injection b2 with b2;exact b2.symm
  refine ⟨cap,_,b1,setRow_heap w (p id) cur' _ e _ hg,?_,b4⟩;rw [←b3];simp;simp at dV;omega
 ·rw [List.getElem?_set] at hk;split at hk
  ·first|rw [if_pos hi] at hk|skip
   simp only [Option.some.injEq] at hk;subst hk;exact ⟨by rw [GL ke,lQ],GK wo aD.2.1⟩
  ·exact cL k z hk
 ·simp only [Bool.false_eq_true,if_false];refine ⟨du,_,setRow_heap w (p id) cur _ e _ hg,?_,fun k z j c hk hj=>?_⟩
  ·simp;simp at dV;omega
  ·have bb:=GJ dV (k*sz+j);rw [hlen] at bb;rw [List.getElem?_set] at hk;split at hk
   ·rename_i jZ;subst jZ;first|rw [if_pos hi] at hk|skip
    simp only [Option.some.injEq] at hk;subst hk;rw [GI ke] at hj;split at hj
    ·rename_i aq;rw [if_pos (by omega)] at bb;obtain ⟨u,hu,kI⟩:=hv i _ j c Ck hj;exact ⟨u,by rw [List.getElem?_toArray,hlen,bb];simpa using hu,dO kI⟩
    ·rename_i aq;rw [if_neg (by omega)] at bb;split at hj
     ·rename_i la;rw [if_pos (by omega)] at bb;have bI:j - off < (a.eval y).cells.toList.length:=by rw [hlen];exact (List.getElem?_eq_some_iff.1 hj).1
      refine ⟨(a.eval y).cells.toList[j - off],?_,dO (kg _ c _ hj (List.getElem?_eq_getElem bI))⟩;rw [List.getElem?_toArray,hlen,bb,show i*sz+j - (i*sz+off)=j - off by omega];exact List.getElem?_eq_getElem bI
     ·rename_i la;rw [if_neg (by omega)] at bb;obtain ⟨u,hu,kI⟩:=hv i _ j c Ck hj;exact ⟨u,by rw [List.getElem?_toArray,hlen,bb];simpa using hu,dO kI⟩
   ·rename_i jZ;obtain ⟨u,hu,kI⟩:=hv k z j c hk hj;have vi:=(cL k z hk).1;have bI:=(List.getElem?_eq_some_iff.1 hj).1;have Cl:k*sz+j < i*sz+off∨i*sz+off+(fZ (ev st y)).length≤k*sz+j:=by
     rcases Nat.lt_or_ge k i with aq|Nu
     ·left;have:(k+1)*sz≤i*sz:=Nat.mul_le_mul_right _ aq;rw [Nat.add_mul] at this;omega
     ·right;have:(i+1)*sz≤k*sz:=Nat.mul_le_mul_right _ (by omega);rw [Nat.add_mul] at this;omega
    refine ⟨u,?_,dO kI⟩;rw [List.getElem?_toArray,hlen,bb];rcases Cl with h|h
    ·rw [if_pos h];simpa using hu
    ·rw [if_neg (by omega),if_neg (by omega)];simpa using hu
end
section
variable {P:Program} {M0:Nat→Nat→Prop} {w0:Bas} {N:Nm} {p:Pl} {st:VS} {a:Act} {w:World}
theorem ua {d:Option Tmp} {av:AV} {ob:Ob} {aK:VS} (h:pU st d av ob=some aK) : ∃ t,d=some t∧aK=⟨(t,av)::st.s,st.h++[some ob]⟩:=by
 unfold pU at h;cases d with
 | none=>cases h
 | some t=>exact ⟨t,rfl,(Option.some.inj h).symm⟩
theorem Eo {t:TypeId} {ti te:TI} {n:Nat} (aY:aZ P t=some ti) (gv:aZ P ti.elem=some te) (hk:ti.kind=1) (h1:te.size=ti.esz) (h2:te.zero.length=ti.esz) (h3:ti.esz≠0) (hn:n≤1000000000) (gL:te.bytes≤100000) :
  (Instr.makeSlice t (.int .i64 n) (.int .i64 n)).run P w = .ok (.slice (some ⟨w.heap.size,0,none⟩) n n) { w with heap:=w.heap.push (.cells (fC te.zero n).toArray ti.elem) }:=by
 obtain ⟨z,hz,gM,jF⟩:=oI gv;have hu:=lC aY hk;have fu:ti.esz=dR P ti.elem:=by obtain ⟨d,i,z,hd,hi,hz,fp,rfl⟩:=eS aY;rfl
 have cu:0 < dR P ti.elem:=by omega
 have wq:∃ i:TypeInfo,(typeInfo ti.elem).run P w = .ok i w∧i.bytes=te.bytes:=by
  obtain ⟨d,i,z,hd,hi,hz,fp,rfl⟩:=eS gv;exact ⟨i,by simp [typeInfo,hi],rfl⟩
 obtain ⟨inf,gO,hb⟩:=wq;have hw:IntKind.i64.wrap (n:Int)=n:=IntWalk.i64_in _ (by omega);have hmul:inf.bytes*n≤100000*1000000000:=Nat.mul_le_mul (by omega) hn;have GO:(inf.bytes:Int)*(n:Int)≤100000000000000:=by
  have:((inf.bytes*n:Nat) : Int)≤((100000*1000000000:Nat) : Int):=Int.ofNat_le.2 hmul;simpa using this
 have bZ:¬((n:Int) < 0):=by omega
 have pR:¬((inf.bytes:Int)*(n:Int) > 2 ^ 48):=by omega
 have eT:z.cells.size=dR P ti.elem:=by rw [←Array.length_toList,hz,h2,fu]
 have aX:=FT z.cells n (by omega);rw [hz] at aX;have sJ:(Array.range (n*z.cells.size)).map (z.cells[· % z.cells.size]!)=(fC te.zero n).toArray:=by rw [←aX]
 have Cm:decide ((inf.bytes:Int)*(n:Int) > 2 ^ 48)=false:=by simp;omega
 have gH:¬((n:Int) > (n:Int)):=by omega
 simp only [Instr.makeSlice,Sem.run_bind,run_underlying hu,Result.andThen_ok,asInt,asIntOf,Sem.run_pure,gO,hw,Cm,Sem.run_ite,bZ,gH,decide_false,Bool.or_false,Bool.false_or,Bool.false_eq_true,if_false,run_askRoom,Int.toNat_natCast,kx cu];by_cases h0:n*dR P ti.elem=0
 ·have vK:n=0:=by
   rcases Nat.mul_eq_zero.1 h0 with h|h
   ·exact h
   ·omega
  subst vK;have e0:∀ f:Nat→Value,(Array.range 0).map f=#[]:=fun f=>by simp
  simp [newRow,fC,e0]
 ·simp only [Sem.run_bind,jF,Result.andThen_ok,Sem.run_pure,←eT,sJ,newRow,run_newObj];rw [if_neg (by rw [eT];exact h0)]
theorem Ec {z:List Value} {n:Nat} : ∀ (k j:Nat) (c:AV) (u:Value),k < n→(z.map AV.lit)[j]? = some c→(fC z n)[k*z.length+j]? = some u→c = .lit u:=by
 intro k j c u hk hj hu;have bI:j < z.length:=by simpa using (List.getElem?_eq_some_iff.1 hj).1
 have aq:k*z.length+j < n*z.length:=by
  have:(k+1)*z.length≤n*z.length:=Nat.mul_le_mul_right _ hk;rw [Nat.add_mul] at this;omega
 rw [BK z n _ aq,Nat.mul_comm,Nat.mul_add_mod,Nat.mod_eq_of_lt bI] at hu;rw [List.getElem?_map,hu] at hj;simpa using hj.symm
theorem Nv (a:Addr) : loadCells a 0=pure #[]:=rfl
theorem Ap {P:Program} {w:World} {t ty e:TypeId} {i:TypeInfo} (ht:P.underlying t=some (.slice e)) (hi:P.info? e=some i) (a0:Addr) (B:Option Addr) (m c:Nat) (hm:0 < m) (hb:m*i.bytes≤281474976710656) (tB:m≤1000000000) :
  (Builtin.append_ #[t,t] ty #[.slice (some a0) 0 0,.slice B m c]).run P w=(Builtin.append_ #[t,t] ty #[.slice none 0 0,.slice B m c]).run P w:=by
 have h1:¬m=0:=by omega
 have h2:Builtin.nextslicecap m 0=m:=by unfold Builtin.nextslicecap;rw [if_pos (by omega)]
 have h3:¬(281474976710656 < m*i.bytes):=by omega
 have h4:¬((9223372036854775807:Int) < m):=by omega
 simp [Builtin.append_,run_underlying ht,sizeOf,typeInfo,hi,Builtin.lenOf,Builtin.firstCells,h1,h2,h3,h4,Nv]
theorem Nw {t ty e id sz d:Nat} {x y:Operand} {ti te:TI} {nl:Bool} {b9 es:List (List AV)} {GP:Array TypeId} (R:Rel M0 w0 N p st a w) (hd:N.has d) (aY:aZ P t=some ti) (hx:ev st x = .osl id) (hy:ev st y = .sl sz es) (hid:st.h[id]? = some (some (.arr e sz nl b9))) (gv:aZ P ti.elem=some te)
  (hk:ti.kind=1) (he:ti.elem=e) (_hez:ti.esz=sz) (h1:te.size=sz) (h2:te.zero.length=sz) (dZ:nl=true→0 < es.length) (ij:b9.length+es.length≤1000000000) (gL:te.bytes≤100000) (Cn:GP=#[t,t]) :
  ∃ v w' p',(Builtin.append_ GP ty #[a.eval x,a.eval y]).run P w = .ok v w'∧Rel M0 w0 N p' ⟨(d,.osl id)::st.s.map (fun q=>(q.1,purge id q.2)),gG id 0 (st.h.set id (some (.arr e sz false (b9++es))))⟩ (a.put (some d) v) w':=by
 subst Cn;subst he;have iR:=R.eval x;rw [hx] at iR;have jT:=R.eval y;rw [hy] at jT;obtain ⟨A0,n0,c0,hq,eI,bs⟩:=iR.osl_inv;have bs:=bs _ _ _ _ hid;obtain ⟨aL,wu,hr⟩:=R.objs id _ hid;obtain ⟨dd,inf,z,eC,hi,hz,gM,im⟩:=eS gv;have bF:inf.size=sz:=by rw [←h1,im]
 have eT:z.cells.size=sz:=by rw [←h2,im,Array.length_toList]
 have ma:inf.bytes≤100000:=by rw [im] at gL;exact gL
 have hu:=lC aY hk;have Nx:∃ vx:Value,(Builtin.append_ #[t,t] ty #[a.eval x,a.eval y]).run P w=(Builtin.append_ #[t,t] ty #[vx,a.eval y]).run P w∧(if nl=true then vx = .slice none 0 0∧b9.length=0 else ∃ cap cur,vx = .slice (some ⟨p id,0,none⟩) b9.length cap∧w.heap[p id]? = some (.cells cur ti.elem (0,0))∧cur.size=cap*sz∧b9.length≤cap∧cap≤maxLen):=by
  unfold Osl at bs;cases nl
  ·simp only [Bool.false_eq_true,if_false] at bs ⊢;exact ⟨_,rfl,bs⟩
  ·simp only [if_true] at bs ⊢;obtain ⟨⟨A,hA⟩,h0⟩:=bs;refine ⟨_,?_,rfl,h0⟩;cases A with
   | none=>rw [hA]
   | some a0=>
    have pH:=dZ rfl;have cz:=jT.sl_inv;have dp:es.length*inf.bytes≤281474976710656:=by
     have:es.length*inf.bytes≤1000000000*100000:=Nat.mul_le_mul (by omega) ma;omega
    obtain ⟨B,c,hB⟩ : ∃ B c,a.eval y = .slice B es.length c:=by
     generalize a.eval y=yv at cz;cases cz with
     | slNil=>simp at pH
     | sl _ _ cap b o u=>exact ⟨_,_,rfl⟩
    rw [hA,hB];exact Ap hu hi a0 B es.length c pH dp (by omega)
 obtain ⟨vx,b_,bs⟩:=Nx;rw [b_];clear b_;have cE:∃ xs,w.ownsRow 0 ti.elem sz vx b9.length xs∧(nl=true→xs=[]∧b9=[])∧(nl=false→∃ cap cur,vx = .slice (some ⟨p id,0,none⟩) b9.length cap∧w.heap[p id]? = some (.cells cur ti.elem (0,0))∧xs=cur.toList.take (b9.length*sz)∧b9.length*sz≤cur.size):=by
  cases nl
  ·simp only [Bool.false_eq_true,if_false] at hr;simp only [Bool.false_eq_true,if_false] at bs;obtain ⟨cap,cur,b1,b2,b3,b4,b5⟩:=bs;obtain ⟨du,cur',hg,hle,hv⟩:=hr;obtain rfl:cur'=cur:=by rw [hg] at b2;injection b2 with b2;injection b2
   refine ⟨cur'.toList.take (b9.length*sz),⟨by simp;omega,.inr ⟨p id,cap,cur',b1,Nat.zero_le _,hg,b4,b5,b3,rfl⟩⟩,(fun h=>by cases h),fun _=>⟨cap,cur',b1,hg,rfl,hle⟩⟩
  ·simp only [if_true] at hr;subst hr;simp only [if_true] at bs;exact ⟨[],⟨by simp,.inl ⟨bs.1,rfl⟩⟩,fun _=>⟨rfl,rfl⟩,fun h=>by cases h⟩
 obtain ⟨xs,cE,qU,lG⟩:=cE;obtain ⟨A1,m,c1,u,oZ,hm,hS,wv,pk⟩ : ∃ (A1:Option Addr) (m c1:Nat) (u:Nat→Nat→Value),a.eval y = .slice A1 m c1∧m=es.length∧Sl (fun k=>(List.range sz).map fun j=>if k < es.length then u k j else .bool false) sz w A1 (List.range es.length) ∧
   (∀ k j,k < es.length→j < sz→(u k j).oneCell'=true)∧∀ (k:Nat) (x:List AV) (j:Nat) (c:AV),es[k]? = some x→x[j]? = some c→x.length=sz∧cV c=true∧V0 w (Mof M0 st.h p) c (u k j):=by
  have cz:=jT.sl_inv;generalize a.eval y=yv at cz;cases cz with
  | slNil _ A cap=>exact ⟨A,0,cap,fun _ _=>undef,rfl,rfl,fun h=>absurd rfl h,by simp,by simp⟩
  | sl _ _ cap b o u au hb hM dC iD cf aD iu=>
   refine ⟨_,_,_,u,rfl,rfl,fun _=>⟨b,o,rfl,fun k q hk j v hj=>?_⟩,fun k j hk hj=>?_,fun k x j c hk hj=>⟨iD k x hk,cf k x j c hk hj,iu k x j c hk hj⟩⟩
   ·have cF:k < es.length:=by simpa using (List.getElem?_eq_some_iff.1 hk).1
    have tC:k=q:=by simpa using (List.getElem?_eq_some_iff.1 hk).2
    subst tC;have bI:j < sz:=by simpa using (List.getElem?_eq_some_iff.1 hj).1
    have:v=u k j:=by
     have:=(List.getElem?_eq_some_iff.1 hj).2;simp [cF] at this;exact this.symm
    rw [this];exact aD k j cF bI
   ·have hx:=List.getElem?_eq_getElem hk;have bI:j < es[k].length:=by rw [iD k _ hx];exact hj
    exact (iu k _ j _ hx (List.getElem?_eq_getElem bI)).one (cf k _ j _ hx (List.getElem?_eq_getElem bI))
 subst hm;rw [oZ];have nG:=Es _ cE;obtain ⟨A,c,ub⟩:=nG;rw [ub] at cE ⊢;have dp:(b9.length+es.length)*inf.bytes≤140737488355328:=by
  have:(b9.length+es.length)*inf.bytes≤1000000000*100000:=Nat.mul_le_mul ij ma;omega
 obtain ⟨A2,c2,w',aC,wx,kh,ca⟩:=Ji (P:=P) w 0 t ty ti.elem inf z sz inf.bytes hu hi hz bF rfl eT aL (C:=fun k=>(List.range sz).map fun j=>if k < es.length then u k j else .bool false) (fun x=>by simp) (fun x v hv=>by
  obtain ⟨j,hj,rfl⟩:=List.mem_map.1 hv;split
  ·rename_i hx;exact wv x j hx (by simpa using hj)
  ·rfl) A b9.length c xs cE A1 es.length c1 (List.range es.length) (by simp) hS (by simp only [maxLen];omega) dp (Nat.zero_le _)
 have pY:(Value.slice A2 (b9.length+es.length) c2)≠.slice none 0 0:=by
  intro hh;injection hh with q1 q2 q3
  subst q1;rcases ca with hb|hb
  ·cases nl
   ·obtain ⟨cap,cur,b1,_⟩:=lG rfl;rw [ub] at b1;injection b1 with b1
    subst b1;simp [Value.ownBlock] at hb
   ·have:=dZ rfl;omega
  ·simp [Value.ownBlock] at hb
 rcases wx.2 with ⟨h,_⟩|⟨g,nR,ld,Ny,Nz,GQ,ji,gD,cl,jn⟩
 ·exact absurd h pY
 ·injection Ny with q1 q2 q3
  subst q1;subst q3;have nS:g=w.heap.size∨(nl=false∧g=p id):=by
   rcases ca with hb|hb
   ·right;cases nl
    ·obtain ⟨cap,cur,b1,_⟩:=lG rfl;rw [ub] at b1;injection b1 with b1
     subst b1;simp [Value.ownBlock] at hb;exact ⟨rfl,hb⟩
    ·rcases cE.2 with ⟨h,_⟩|⟨g',dy,cur',h,_⟩
     ·injection h with h1
      subst h1;simp [Value.ownBlock] at hb
     ·have:=(qU rfl)
      simp only [if_true] at bs;rw [ub,h] at bs;have:=bs.1;injection this with h1
      cases h1
   ·left;simpa [Value.ownBlock] using hb
  have aX:∀ b,b < w.heap.size→¬(nl=false∧b=p id)→w'.heap[b]? = w.heap[b]?:=by
   intro b hb hn;refine kh.block b hb fun hs=>?_;cases nl
   ·obtain ⟨cap,cur,b1,_⟩:=lG rfl;rw [ub] at b1;injection b1 with b1
    subst b1;simp [Value.ownBlock] at hs;exact hn ⟨rfl,hs⟩
   ·unfold Osl at bs;simp only [if_true] at bs;rw [ub] at bs;have:=bs.1;injection this with h1
    subst h1;simp [Value.ownBlock] at hs
  have wy:∀ j,Fr w0 g j:=fun j=>by
   rcases nS with h|⟨h,h2⟩
   ·exact .inl (by rw [h];exact R.below.size)
   ·subst h;rw [h2];exact (R.objs id _ hid).ge rfl j
  refine ⟨_,w',cM p id g,aC,?_⟩;refine R.append hd hid wy nS kh.os kh.tape kh.output kh.size aX (fun dO=>⟨aL,fun k x hk=>?_,?_⟩) ?_
  ·rcases Nat.lt_or_ge k b9.length with aq|du
   ·rw [List.getElem?_append_left aq] at hk;exact wu k x hk
   ·rw [List.getElem?_append_right du] at hk;have wz:0 < x.length∨x=[]:=by cases x;right;rfl;left;simp
    refine ⟨?_,fun c hc=>?_⟩
    ·rcases wz with wz|wz
     ·exact (pk _ x 0 x[0] hk (List.getElem?_eq_getElem wz)).1
     ·exfalso;have cz:=jT.sl_inv;generalize a.eval y=yv at cz;cases cz with
      | slNil=>simp at hk
      | sl _ _ _ _ _ _ _ _ _ _ iD=>have:=iD _ x hk;subst wz;simp at this;omega
    ·obtain ⟨j,hj⟩:=List.mem_iff_getElem?.1 hc;exact (pk _ x j c hk hj).2.1
  ·simp only [Bool.false_eq_true,if_false];refine ⟨⟨fun j=>by rw [(kP p id g).1];exact wy j,(kP p id g).2⟩,ld,by rw [(kP p id g).1];exact GQ,by rw [cl,List.length_append];exact Nat.mul_le_mul_right _ ji,fun k x j c hk hj=>?_⟩;have qV:∀ i v,i < (b9.length+es.length)*sz→(xs++(List.range es.length).flatMap fun k=>(List.range sz).map fun j=>if k < es.length then u k j else .bool false)[i]? = some v→ld[i]? = some v:=by
    intro i v hi hh;rw [←jn,List.getElem?_take_of_lt hi] at hh;simpa using hh
   have lQ:xs.length=b9.length*sz:=cE.1;have bI:=(List.getElem?_eq_some_iff.1 hj).1;rcases Nat.lt_or_ge k b9.length with aq|du
   ·rw [List.getElem?_append_left aq] at hk;have aJ:nl=false:=by cases nl;rfl;have:=(qU rfl).2;subst this;simp at aq
    subst aJ;simp only [Bool.false_eq_true,if_false] at hr;obtain ⟨_,cur',fA,po,iu⟩:=hr;obtain ⟨cap,cur,b1,b2,b3,b4⟩:=lG rfl;obtain rfl:cur'=cur:=by rw [fA] at b2;injection b2 with b2;injection b2
    obtain ⟨v,hv,cz⟩:=iu k x j c hk hj;have NA:=(wu k x hk).1;have h3:(k+1)*sz≤b9.length*sz:=Nat.mul_le_mul_right _ aq;rw [Nat.add_mul] at h3;refine ⟨v,qV _ v ?_ ?_,dO cz⟩
    ·rw [Nat.add_mul];omega
    ·rw [List.getElem?_append_left (by omega),b3,List.getElem?_take_of_lt (by omega)];simpa using hv
   ·rw [List.getElem?_append_right du] at hk;obtain ⟨Co,_,cz⟩:=pk _ x j c hk hj;have cF:=(List.getElem?_eq_some_iff.1 hk).1;refine ⟨u (k - b9.length) j,qV _ _ ?_ ?_,dO cz⟩
    ·have h3:(k - b9.length+1)*sz≤es.length*sz:=Nat.mul_le_mul_right _ cF;have h4:k*sz=b9.length*sz+(k - b9.length)*sz:=by rw [←Nat.add_mul];congr 1;omega
     rw [Nat.add_mul] at h3;rw [Nat.add_mul];omega
    ·have h4:k*sz=b9.length*sz+(k - b9.length)*sz:=by rw [←Nat.add_mul];congr 1;omega
     rw [List.getElem?_append_right (by omega),lQ,show k*sz+j - b9.length*sz=(k - b9.length)*sz+j by omega];exact Nr hk hj Co
  ·unfold Osl;simp only [Bool.false_eq_true,if_false,List.length_append];exact ⟨_,ld,rfl,GQ,cl,ji,gD⟩
def cX (N:Nm) (o:Oper) : Bool:=match o.dst with|some d=>Nat.ble N.k d&&Nat.blt d N.n|none=>true
theorem fw {o:Oper} (hd:cX N o=true) : ∀ t,o.dst=some t→N.has t:=by
 intro t ht;unfold cX at hd;rw [ht] at hd;simpa [Nm.has] using hd
theorem NB {t:TypeId} {kf:Nat×IntKind} {d:Nat} (R:Rel M0 w0 N p st a w) (hd:N.has d) : (Instr.makeMap t none).run P w = .ok (.map (some w.heap.size)) (w.alloc (.map #[] 0))∧Rel M0 w0 N (cM p st.h.length w.heap.size) ⟨(d,.mp st.h.length)::st.s,st.h++[some (.mpo kf [])]⟩ (a.put (some d) (.map (some w.heap.size))) (w.alloc (.map #[] 0)):=by
 have hb:Below w.heap.size w (w.alloc (.map #[] 0)):=(Below.refl _ w).alloc (Nat.le_refl _) _;have aD:(w.alloc (.map #[] 0)).heap[w.heap.size]? = some (.map #[] 0):=(MapKept.heap_alloc w _).1;refine ⟨rfl,R.grow hb hd (fun _=>Nat.le_refl _) (fun _ _ _ _ _ h=>by cases h) ⟨rJ R.below.size,(fun q hq=>(by cases hq)),#[],0,?_,rfl,KM _⟩ ?_⟩
 ·rw [(kP p _ _).1];exact aD
 ·have:=V1.mp (w:=w.alloc (.map #[] 0)) (M:=Mof M0 (st.h++[some (.mpo kf [])]) (cM p st.h.length w.heap.size)) (h:=st.h++[some (Ob.mpo kf [])]) (p:=cM p st.h.length w.heap.size) st.h.length (by simp);simpa [cM] using this
theorem GR {t:TypeId} {m x y:Operand} {aK:VS} (R:Rel M0 w0 N p st a w) (ht:vN P st t m x y=some aK) : ∃ w',(Instr.mapUpdate t (a.eval m) (a.eval x) (a.eval y)).run P w = .ok () w'∧Rel M0 w0 N p aK a w':=by
 unfold vN at ht;split at ht
 ·rename_i kf z id key val tO hm hx hy;split at ht
  ·rename_i tN iA hid;split at ht
   ·rename_i hc;obtain ⟨rfl,j8⟩:=hc;simp only [Option.some.injEq] at ht;subst ht;have em:=R.eval m;rw [hm] at em;obtain ⟨em,_⟩:=em.mp_inv;have ex:a.eval x=key:=by have:=R.eval x;rw [hx] at this;exact this.lit_inv
    have ey:a.eval y=val:=by have:=R.eval y;rw [hy] at this;exact this.lit_inv
    obtain ⟨h1,h2,es,clock,hg,h3,fU⟩:=R.objs id _ hid;obtain ⟨b9,clock',aC,vI,Cp⟩:=Lg (P:=P) (v:=val) tO j8 hg (fun q hq=>h2 (q.key,q.val) (by rw [←h3];exact List.mem_map.2 ⟨q,hq,rfl⟩)) fU;refine ⟨_,by rw [em,ex,ey];exact aC,?_⟩;have aq:p id < w.heap.size:=(Array.getElem?_eq_some_iff.1 hg).1;refine R.write hid rfl rfl (fun _ _ _ _ _ h=>by cases h) (fun _ _ _ _ _ h=>by cases h) (by simp [ChangeMaps.setBlock]) rfl rfl rfl (fun b hb=>ChangeMaps.heap_setBlock_other hg _ hb) rfl (fun e sz nl es v h=>by cases h) fun _ _=>?_;refine ⟨h1,fun q hq=>?_,b9,clock',ChangeMaps.heap_setBlock_same hg _,by rw [vI,h3],Cp⟩;have nU:∀ (l:List (Value×Value)),(∀ q∈l,jJ q.1=some kf)→∀ q∈iN key val l,jJ q.1=some kf:=by
     intro l;induction l with
     | nil=>intro _ q hq;simp [iN] at hq;subst hq;exact j8
     | cons c l ih=>
      intro hl q hq;obtain ⟨ck,cv⟩:=c;simp only [iN] at hq;split at hq
      ·rcases List.mem_cons.1 hq with rfl|hq
       ·exact j8
       ·exact hl q (List.mem_cons_of_mem _ hq)
      ·rcases List.mem_cons.1 hq with rfl|hq
       ·exact hl _ (List.mem_cons_self ..)
       ·exact ih (fun q hq=>hl q (List.mem_cons_of_mem _ hq)) q hq
    exact nU iA h2 q hq
   ·cases ht
  ·cases ht
 ·cases ht
theorem Cq (R:Rel M0 w0 N p st a w) {ow:List Nat} {o:Oper} {aK:VS} (hd:cX N o=true) (ht:j9 P ow st o=some aK) :
  ∃ v w' p',(execOp a.eval o).run P w = .ok (.value v) w'∧Rel M0 w0 N p' aK (a.put o.dst v) w'∨(execOp a.eval o).run P w = .ok .skip w'∧v=undef∧Rel M0 w0 N p' aK (a.put o.dst undef) w':=by
 have aq:=fw hd;obtain ⟨dst,op,ty,pos,after,guard⟩:=o;simp only at aq;unfold j9 at ht;simp only at ht;split at ht
 ·rename_i t;split at ht
  ·rename_i ti aY;obtain ⟨d,eC,rfl⟩:=ua ht;subst eC;obtain ⟨z,hz,gM,jF⟩:=oI aY;have hc:Cells w (Mof M0 st.h p) st.h p (ti.zero.map .lit) z.cells.toList:=by rw [hz];exact Cells.of_lits _ gM
   refine ⟨.pointer (some ⟨w.heap.size,0,none⟩),_,_,.inl ⟨?_,GG R (aq d rfl) hc t⟩⟩;simp [execOp,Instr.alloc,jF,newVar,newRow]
  ·cases ht
 ·rename_i t x;split at ht
  ·rename_i hc;simp only [Bool.and_eq_true] at hc;obtain ⟨d,eC,rfl⟩:=ua ht;subst eC;refine ⟨.pointer (some ⟨w.heap.size,0,none⟩),_,_,.inl ⟨?_,GG R (aq d rfl) ((R.eval x).cells hc.2) t⟩⟩;simp [execOp,Instr.box,newVar,newRow]
  ·cases ht
 ·rename_i t n parts;split at ht
  ·split at ht
   ·rename_i cs ti aX;split at ht
    ·rename_i hp;obtain ⟨d,eC,rfl⟩:=ua ht;subst eC;obtain ⟨us,aC,hc,hlen,aY,hk,cu⟩:=vJ (P:=P) (w:=w) (M:=Mof M0 st.h p) (h:=st.h) (p:=p) (vals:=parts.map fun (i,x)=>(i,a.eval x)) (by simp) (fun i b v hb hv=>by
      obtain ⟨x,hx,rfl⟩:=dT hb;simp only [Array.toList_map] at hv;obtain ⟨y,hy,rfl⟩:=dT hv;rw [hx] at hy;obtain rfl:=Option.some.inj hy;exact R.eval x.2) aX
     have jE:=xt ti.esz n cs;have bb:=fun k e=>xu ti.esz n cs k e (by omega);have pR:n≤maxLen:=by
      unfold sg at aX;rw [aY] at aX;simp only at aX;split at aX
      ·cases aX
      ·split at aX
       ·rename_i eL;have:=eL.2.2.2.2;have h2:n*1≤n*ti.esz:=Nat.mul_le_mul_left _ cu;simp only [maxLen];omega
       ·cases aX
     have hrel:=GH (es:=jD ti.esz n cs) (e:=ti.elem) (sz:=ti.esz) R (aq d rfl) cu (us:=us) (by rw [hc.1,hlen,jE]) (by rw [jE];exact pR) (fun k x hk=>⟨(bb k x hk).1,fun c fO=>by
      obtain ⟨j,hj⟩:=List.mem_iff_getElem?.1 fO;exact hc.2.1 c (List.mem_of_getElem? ((bb k x hk).2 j c hj))⟩) (fun k x j c u hk hj hu=>by
      have h1:=(bb k x hk).2 j c hj;exact (hc.2.2 _ c u h1 hu).pure 5 (List.all_eq_true.1 hp c (List.mem_of_getElem? h1)))
     rw [jE] at hrel;refine ⟨_,_,_,.inl ⟨?_,hrel⟩⟩;simp only [execOp,Sem.run_bind,aC];rfl
    ·cases ht
   ·cases ht
  ·cases ht
 ·split at ht
  ·split at ht
   ·rename_i ti aY;split at ht
    ·rename_i hc;obtain ⟨d,eC,rfl⟩:=ua ht;subst eC;exact ⟨.slice none 0 0,w,_,.inl ⟨rfl,Ns R (aq d rfl) (Nat.pos_of_ne_zero hc.2)⟩⟩
    ·cases ht
   ·cases ht
  ·cases ht
 ·rename_i t l c;split at ht
  ·rename_i ti n m aY hl cJ;split at ht
   ·rename_i te gv;split at ht
    ·rename_i hc;obtain ⟨hk,h1,h2,h3,ch,h0,hn,gL⟩:=hc;subst ch;obtain ⟨d,eC,rfl⟩:=ua ht;subst eC;have e1:a.eval l = .int .i64 n:=by have:=R.eval l;rw [hl] at this;exact this.lit_inv
     have e2:a.eval c = .int .i64 n:=by have:=R.eval c;rw [cJ] at this;exact this.lit_inv
     obtain ⟨k,rfl⟩:=Int.eq_ofNat_of_zero_le h0;have aC:=Eo (P:=P) (w:=w) aY gv hk h1 h2 h3 (n:=k) (by omega) gL;obtain ⟨z,hz,gM,jF⟩:=oI gv;have hrel:=GH (es:=List.replicate k (te.zero.map .lit)) (e:=ti.elem) (sz:=ti.esz) (us:=fC te.zero k) R (aq d rfl) (Nat.pos_of_ne_zero h3) (by rw [tl,h2,List.length_replicate]) (by rw [List.length_replicate];simp only [maxLen];omega) (fun i x hx=>by
      obtain ⟨_,rfl⟩:=List.mem_replicate.1 (List.mem_of_getElem? hx);refine ⟨by simp [h2],fun c hc=>?_⟩;obtain ⟨z',uQ,rfl⟩:=List.mem_map.1 hc;exact List.all_eq_true.1 gM z' uQ) (fun i x j c u hx hj hu=>by
      obtain ⟨_,rfl⟩:=List.mem_replicate.1 (List.mem_of_getElem? hx);have qk:i < k:=by simpa using (List.getElem?_eq_some_iff.1 hx).1
      rw [←h2] at hu;rw [Ec i j c u qk hj hu];exact .lit u)
     rw [List.length_replicate] at hrel;refine ⟨_,_,_,.inl ⟨?_,by simpa using hrel⟩⟩;simp only [execOp,e1,e2,Sem.run_bind];rw [show ((k:Int))=((k:Nat) : Int) from rfl,aC];rfl
    ·cases ht
   ·cases ht
  ·cases ht
 ·rename_i t x y;split at ht
  ·rename_i ti id off aY hx;split at ht
   ·rename_i cs hid;split at ht
    ·rename_i hc;simp only [Option.some.injEq] at ht;subst ht;obtain ⟨w',aC,hrel⟩:=GN (P:=P) (y:=y) R aY hx hid hc.1 hc.2.1 hc.2.2;exact ⟨undef,w',p,.inr ⟨by simp only [execOp,Sem.run_bind,aC];rfl,rfl,hrel⟩⟩
    ·cases ht
   ·cases ht
  ·rename_i ti id sz i off aY hx;split at ht
   ·rename_i e bD nl es hid;split at ht
    ·rename_i hc;obtain ⟨rfl,hi,h1,h2,h3,h4⟩:=hc;simp only [Option.some.injEq] at ht;subst ht;obtain ⟨w',aC,hrel⟩:=Nt (P:=P) (y:=y) R aY hx hid hi h1 h2 h3 h4;exact ⟨undef,w',p,.inr ⟨by simp only [execOp,Sem.run_bind,aC];rfl,rfl,hrel⟩⟩
    ·cases ht
   ·cases ht
  ·cases ht
 ·rename_i xs ts;split at ht
  ·rename_i x y t t' d eo ja;split at ht
   ·rename_i ti id sz es aY hx hy;split at ht
    ·rename_i e bD nl b9 hid;split at ht
     ·rename_i te gv;split at ht
      ·rename_i hc;obtain ⟨rfl,hk,he,rfl,tf,h1,h2,dZ,ij,gL⟩:=hc;simp only [Option.some.injEq] at ht;subst ht;have e1:xs=#[x,y]:=by apply Array.ext';rw [eo]
       have e2:ts=#[t,t]:=by apply Array.ext';rw [ja]
       subst e1;obtain ⟨v,w',p',aC,hrel⟩:=Nw (P:=P) (ty:=ty) R (aq d rfl) aY hx hy hid gv hk he tf h1 h2 dZ ij gL e2;refine ⟨v,w',p',.inl ⟨?_,hrel⟩⟩;simp only [execOp,resolve,invoke,builtin,Sem.run_bind,Sem.run_pure,Result.andThen_ok,List.map_toArray,List.map_cons,List.map_nil,aC]
      ·cases ht
     ·cases ht
    ·cases ht
   ·cases ht
  ·cases ht
 ·rename_i t;split at ht
  ·rename_i kf z tO;obtain ⟨d,eC,rfl⟩:=ua ht;subst eC;obtain ⟨aC,hrel⟩:=NB (P:=P) (t:=t) (kf:=kf) R (aq d rfl);exact ⟨_,_,_,.inl ⟨by simp only [execOp,Sem.run_bind,Option.map_none,aC];rfl,hrel⟩⟩
  ·cases ht
 ·rename_i t m x y;split at ht
  ·obtain ⟨w',aC,hrel⟩:=GR (P:=P) R ht;exact ⟨undef,w',p,.inr ⟨by simp only [execOp,Sem.run_bind,aC];rfl,rfl,hrel⟩⟩
  ·cases ht
 ·rename_i t m x y;split at ht
  ·obtain ⟨w',aC,hrel⟩:=GR (P:=P) R ht;exact ⟨undef,w',p,.inr ⟨by simp only [execOp,Sem.run_bind,aC];rfl,rfl,hrel⟩⟩
  ·cases ht
 ·cases ht
end
def dK (id:Nat) : Nat→AV→Bool
 | 0,_=>false
 | n+1,.agg cs=>cs.all (dK id n)
 | n+1,.tup cs=>cs.all (dK id n)
 | n+1,.fn _ x y=>x.all (dK id n)&&y.all (dK id n)
 | n+1,.iface _ v=>dK id n v
 | _+1,.slw i _ _ _=>i != id
 | _+1,_=>true
def unW (id:Nat) : AV→AV
 | .slw i k sz es=>if i=id then .sl sz es else .slw i k sz es
 | v=>if dK id 5 v=true then v else .any
def rE (id:Nat) : Option Ob→Bool
 | some (.box cs)=>cs.all (dK id 5)
 | _=>true
theorem ni (id:Nat) : ∀ (s:List (Nat×AV)) (i:Nat),lkp (s.map fun q=>(q.1,unW id q.2)) i=unW id (lkp s i)
 | [],_=>by simp [lkp,unW,dK]
 | (d,v)::r,i=>by
  simp only [List.map_cons,lkp];split
  ·rfl
  ·exact ni id r i
theorem Dist.symm {v v':Value} (h:Dist v v') : Dist v' v:=fun b o n c b' o' n' c' e e' l l' he=>h b' o' n' c' b o n c e' e l' l he.symm
theorem Spare.mono {w w':World} {p p':Pl} {id sz:Nat} {v:Value} (hp:p' id=p id) (hS:∀ b j,p.S id b j→p'.S id b j) (hb:∀ b j,p.S id b j→b < w.heap.size→w'.heap[b]? = w.heap[b]?) (h:Spare w p id sz v) : Spare w' p' id sz v:=by
 obtain ⟨A,n,cap,hv,hle,h⟩:=h;refine ⟨A,n,cap,hv,hle,fun aq=>?_⟩;obtain ⟨b,o,cur,t,h1,h2,h3,h4,h5,h6,h7⟩:=h aq;exact ⟨b,o,cur,t,h1,(hb b _ (h7 _ (Nat.le_refl _)) (Array.getElem?_eq_some_iff.1 h2).1).trans h2,h3,h4,h5,by rw [hp];exact h6,fun j hj=>hS b j (h7 j hj)⟩
section
variable {P:Program} {M0:Nat→Nat→Prop} {w0:Bas} {N:Nm} {p:Pl} {st:VS} {a:Act} {w:World}
theorem V1.bag {w w':World} {M M':Nat→Nat→Prop} {h h':Hp} {p p':Pl} {id:Nat} (hk:Keeps M w w') (hM:∀ b j,b < w.heap.size→¬M b j→¬M' b j) (hl:h.length≤h'.length) (hp:∀ i,p' i=p i)
  (hO:∀ i e sz nl es v,h'[i]? = some (some (.arr e sz nl es))→(∀ e sz nl es,h[i]? = some (some (.arr e sz nl es))→Osl w (p i) e sz nl es.length v)→Osl w' (p i) e sz nl es.length v)
  (hG:∀ i e sz nl ao qs v,h'[i]? = some (some (.bag e sz nl ao qs))→(∀ e sz nl ao qs,h[i]? = some (some (.bag e sz nl ao qs))→Osl w (p i) e 1 nl qs.length v)→Osl w' (p i) e 1 nl qs.length v)
  (hW:∀ i k sz v,i≠id→i < h.length→Sp w h p i k sz v→Sp w' h' p' i k sz v) :
  ∀ (n:Nat) (av:AV) (v:Value),V1 w M h p av v→dK id n av=true→V1 w' M' h' p' av v
 | 0,_,_,_,hb=>by simp [dK] at hb
 | n+1,av,v,hv,hb=>by
  have ih:=V1.bag (w:=w) (p:=p) (h:=h) hk hM hl hp hO hG hW n;cases hv with
  | base _ _ h0=>exact .base _ _ (h0.keep hk hM)
  | agg cs us hl h1 hv=>
   simp only [dK] at hb;exact .agg cs us hl h1 fun i c u hc hu=>ih c u (hv i c u hc hu) (List.all_eq_true.1 hb c (List.mem_of_getElem? hc))
  | tup cs us hl hv=>
   simp only [dK] at hb;exact .tup cs us hl fun i c u hc hu=>ih c u (hv i c u hc hu) (List.all_eq_true.1 hb c (List.mem_of_getElem? hc))
  | fn f x y us vs hl bp hv bE=>
   simp only [dK,Bool.and_eq_true] at hb;exact .fn f x y us vs hl bp (fun i c u hc hu=>ih c u (hv i c u hc hu) (List.all_eq_true.1 hb.1 c (List.mem_of_getElem? hc))) (fun i c u hc hu=>ih c u (bE i c u hc hu) (List.all_eq_true.1 hb.2 c (List.mem_of_getElem? hc)))
  | iface t x u hv=>exact .iface t x u (ih x u hv (by simpa [dK] using hb))
  | ref i off hid=>rw [←hp i];exact .ref i off (Nat.lt_of_lt_of_le hid hl)
  | aref i sz k off hid=>rw [←hp i];exact .aref i sz k off (Nat.lt_of_lt_of_le hid hl)
  | osl i A m c hid hv lN=>exact .osl i A m c (Nat.lt_of_lt_of_le hid hl) (fun e sz nl es he=>by rw [hp i];exact hO i e sz nl es _ he hv) fun e sz nl ao qs he=>by rw [hp i];exact hG i e sz nl ao qs _ he lN
  | slw i k sz es _ hid h0 hs=>
   have hn:i≠id:=by simpa [dK] using hb
   exact .slw i k sz es v (Nat.lt_of_lt_of_le hid hl) (h0.keep hk hM) (hW i k sz v hn hid hs)
  | mp i hid=>rw [←hp i];exact .mp i (Nat.lt_of_lt_of_le hid hl)
theorem Rel.bagSet {w':World} {h2:Hp} {p':Pl} {id k e sz:Nat} {ao:Option Nat} {qs:List (List (List AV))} {es:List (List AV)} {v:Value} {cur:Array Value} (R:Rel M0 w0 N p st a w)
  (hi:st.h[id]? = some (some (.bag e sz false ao qs))) (hk:k < qs.length) (gE:ao=none∨ao=some k) (bN:w.heap[p id]? = some (.cells cur e (0,0)))
  (jj:∀ (i:Nat) (cs:List AV),st.h[i]? = some (some (.box cs))→∀ c∈cs,dK id 5 c=true)
  (aL:w.heap.size=w'.heap.size) (kZ:w'.os=w.os) (k6:w'.tape=w.tape) (k7:w'.output=w.output) (ca:∀ b,b≠p id→w'.heap[b]? = w.heap[b]?) (aX:w'.heap[p id]? = some (.cells (cur.setIfInBounds k v) e (0,0)))
  (hQ:h2.length=st.h.length) (e_:h2[id]? = some (some (.bag e sz false none (qs.set k es)))) (dG:∀ (i:Nat) (ob:Ob),i≠id→h2[i]? = some (some ob)→st.h[i]? = some (some ob))
  (eR:∀ i,p' i=p i) (gx:∀ i,i≠id→p'.S i=p.S i) (NC:∀ b j,p.S id b j→p'.S id b j)
  (Cr:∀ b j,p'.S id b j→Fr w0 b j∧b < w.heap.size) (zf:∀ j,¬p'.S id (p id) j) (wA:∀ (i:Nat) (ob:Ob),i≠id→h2[i]? = some (some ob)→cp ob=true→∀ b j j',p.O i b j→¬p'.S id b j') (Cs:∀ b j,p'.S id b j→Mof M0 st.h p b j)
  (cz:V0 w (Mof M0 h2 p') (.sl sz es) v) (gh:Spare w p' id sz v) (qW:∀ (k':Nat) (v':Value),k' < qs.length→k'≠k→cur[k']? = some v'→Dist v v') :
  Rel M0 w0 N p' ⟨st.s.map (fun q=>(q.1,unW id q.2)),h2⟩ a w':=by
 have eb:=(R.objs id _ hi)
 obtain ⟨iJ,eb⟩:=eb;rw [if_neg (by simp)] at eb;obtain ⟨b1,b2,cur0,b3,b4,b5,b6⟩:=eb;have:cur0=cur:=by rw [bN] at b3;injection b3 with b3;injection b3 with b3;exact b3.symm
 subst this;have ju:∀ {i b j},i≠id→(p'.O i b j↔p.O i b j):=fun {i b j} hn=>by unfold Pl.O;rw [eR,gx i hn]
 have bY:cp (Ob.bag e sz false ao qs)=true:=rfl;have hM:∀ b j,¬Mof M0 st.h p b j→¬Mof M0 h2 p' b j:=fun b j hn hm=>by
  rcases hm with hm|⟨i,o,aF,bu,hO⟩
  ·exact hn (.inl hm)
  ·by_cases he:i=id
   ·subst he;rcases hO with hO|hO
    ·exact hn (.inr ⟨i,_,hi,bY,.inl (by rw [←eR];exact hO)⟩)
    ·exact hn (Cs b j hO)
   ·exact hn (.inr ⟨i,o,dG i o he aF,bu,(ju he).1 hO⟩)
 have wB:Keeps (Mof M0 st.h p) w w':=.of_blocks (by omega) fun b _ hb=>ca b fun he=>hb fun j=>.inr ⟨id,_,hi,bY,.inl he.symm⟩;have Ct:Keeps (Mof M0 h2 p') w w':=.of_blocks (by omega) fun b _ hb=>ca b fun he=>hb fun j=>.inr ⟨id,_,e_,rfl,.inl (by rw [eR,he])⟩;have au:∀ i o,i≠id→st.h[i]? = some (some o)→cp o=true→∀ b j,p.O i b j→w'.heap[b]? = w.heap[b]?:=fun i o hn aF bu b j hO=>ca b fun he=>hn (R.inj i id o _ aF hi bu bY b j 0 hO (.inl he.symm));have dO:∀ {x:AV} {u:Value},V0 w (Mof M0 st.h p) x u→V0 w' (Mof M0 h2 p') x u:=fun hx=>hx.keep wB fun b j _=>hM b j;have hV:∀ {x:AV} {u:Value},V1 w (Mof M0 st.h p) st.h p x u→dK id 5 x=true→V1 w' (Mof M0 h2 p') h2 p' x u:=fun {x u} hx hn=>
  V1.bag wB (fun b j _=>hM b j) (by omega) eR (fun i e' bD nl b9 v' he hv=>by
   by_cases hid:i=id
   ·subst hid;rw [e_] at he;cases he
   ·have aF:=dG i _ hid he;exact (hv _ _ _ _ aF).keep fun aJ _=>au i _ hid aF (by rw [aJ];rfl) _ 0 (.inl rfl)) (fun i e' bD nl nj pt v' he hv=>by
   by_cases hid:i=id
   ·subst hid;rw [e_] at he;simp only [Option.some.injEq,Ob.bag.injEq] at he;obtain ⟨rfl,rfl,rfl,rfl,rfl⟩:=he;have h1:=hv _ _ _ _ _ hi;unfold Osl at h1 ⊢;rw [if_neg (by simp)] at h1 ⊢;obtain ⟨cap,c1,e1,e2,e3,e4,e5⟩:=h1;have:c1=cur0:=by rw [bN] at e2;injection e2 with e2;injection e2 with e2;exact e2.symm
    subst this;exact ⟨cap,_,by rw [List.length_set];exact e1,aX,by rw [Array.size_setIfInBounds];exact e3,by rw [List.length_set];exact e4,e5⟩
   ·have aF:=dG i _ hid he;exact (hv _ _ _ _ _ aF).keep fun aJ _=>au i _ hid aF (by rw [aJ];rfl) _ 0 (.inl rfl)) (fun i k' bD v' hn _ hs=>hs.keep (fun e' rF xr pt he=>by
   have aF:=dG i _ hn he;exact ⟨aF,eR i,gx i hn,fun b j hO _=>au i _ hn aF rfl b j hO⟩) (by omega)) 5 x u hx hn
 have hU:∀ {x:AV} {u:Value},V1 w (Mof M0 st.h p) st.h p x u→V1 w' (Mof M0 h2 p') h2 p' (unW id x) u:=fun {x u} hx=>by
  by_cases hs:∃ i k sz es,x = .slw i k sz es
  ·obtain ⟨i,k',bD,b9,rfl⟩:=hs;by_cases hn:i=id
   ·rw [show unW id (.slw i k' bD b9) = .sl bD b9 from if_pos hn];exact .base _ _ (dO hx.slw_inv.2.1)
   ·rw [show unW id (.slw i k' bD b9) = .slw i k' bD b9 from if_neg hn];exact hV hx (by simpa [dK] using hn)
  ·have e:unW id x=if dK id 5 x=true then x else .any:=by cases x<;>first|rfl|exact absurd ⟨_,_,_,_,rfl⟩ hs
   rw [e];split
   ·rename_i hn;exact hV hx hn
   ·exact .base _ _ (.any _)
 have du:=fun j=>(b1 (p id) j (.inl rfl)).1;refine ⟨R.defers,R.size,R.below.blocks kZ k6 k7 (by omega) fun b _ hF=>ca b fun he=>hF fun j=>by rw [he];exact du j,R.m0,R.x0,fun i=>?_,fun i o aF=>?_,fun i i' o o' aF br bu ep x j j' hO cw=>?_⟩
 ·show V1 w' (Mof M0 h2 p') h2 p' (lkp (st.s.map fun q=>(q.1,unW id q.2)) i) _;rw [ni];exact hU (R.slots i)
 ·by_cases hid:i=id
  ·subst hid;rw [e_] at aF;simp only [Option.some.injEq] at aF;subst aF;refine ⟨iJ,?_⟩;rw [if_neg (by simp)];have fa:k < cur0.size:=by omega
   refine ⟨fun b j hO=>?_,fun j=>by rw [eR];exact zf j,cur0.setIfInBounds k v,by rw [eR];exact aX,by simp;omega,fun k0 x hx=>?_,fun k1 k2 v1 v2 h1 h2 nV _ _ e1 e2=>?_⟩
   ·rcases hO with hO|hO
    ·have:=b1 b j (.inl (by rw [←eR];exact hO));exact ⟨this.1,by omega⟩
    ·have:=Cr b j hO;exact ⟨this.1,by omega⟩
   ·rw [List.getElem?_set] at hx;by_cases qa:k=k0
    ·subst qa;rw [if_pos rfl,if_pos hk] at hx;obtain rfl:=Option.some.inj hx;refine ⟨v,by simp [fa],cz.keep Ct fun b j _ h=>h,fun _=>gh.keep rfl rfl fun b j hS _=>ca b fun he=>zf j (by rw [←he];exact hS)⟩
    ·rw [if_neg qa] at hx;obtain ⟨v1,g1,g2,g3⟩:=b5 k0 x hx;refine ⟨v1,by rw [Array.getElem?_setIfInBounds_ne qa];exact g1,dO g2,fun _=>(g3 (by rcases gE with h|h<;>rw [h]<;>simp [qa])).mono (eR i) NC fun b j hS _=>ca b fun he=>b2 j (by rw [←he];exact hS)⟩
   ·rw [List.length_set] at h1 h2;have f_:∀ k',k'≠k→ao≠some k':=fun k' hn=>by rcases gE with h|h<;>rw [h]<;>simp [Ne.symm hn]
    by_cases kA:k1=k
    ·subst kA;rw [Array.getElem?_setIfInBounds_self_of_lt fa] at e1;obtain rfl:=Option.some.inj e1;rw [Array.getElem?_setIfInBounds_ne nV] at e2;exact qW k2 v2 h2 (Ne.symm nV) e2
    ·rw [Array.getElem?_setIfInBounds_ne (Ne.symm kA)] at e1;by_cases cN:k2=k
     ·subst cN;rw [Array.getElem?_setIfInBounds_self_of_lt fa] at e2;obtain rfl:=Option.some.inj e2;exact (qW k1 v1 h1 kA e1).symm
     ·rw [Array.getElem?_setIfInBounds_ne (Ne.symm cN)] at e2;exact b6 k1 k2 v1 v2 h1 h2 nV (f_ k1 kA) (f_ k2 cN) e1 e2
  ·have br:=dG i o hid aF;exact (R.objs i o br).keep (fun _=>⟨eR i,gx i hid⟩) (fun bu b j hO _=>au i o hid br bu b j hO) (by omega) dO fun cs bM c hc u hx=>hV hx (jj i cs (by rw [br,bM]) c hc)
 ·by_cases h1:i=id
  ·by_cases h2:i'=id
   ·rw [h1,h2]
   ·subst h1;have pZ:=dG i' o' h2 br;have kH:=(ju h2).1 cw;rcases hO with hO|hO
    ·exact R.inj i i' _ o' hi pZ bY ep x j j' (.inl (by rw [←eR];exact hO)) kH
    ·exact absurd hO (wA i' o' h2 br ep x j' j kH)
  ·have mb:=dG i o h1 aF;have nW:=(ju h1).1 hO;by_cases h2:i'=id
   ·subst h2;rcases cw with cw|cw
    ·exact R.inj i i' o _ mb hi bu bY x j j' nW (.inl (by rw [←eR];exact cw))
    ·exact absurd cw (wA i o h1 aF bu x j j' nW)
   ·exact R.inj i i' o o' mb (dG i' o' h2 br) bu ep x j j' nW ((ju h2).1 cw)
theorem ND {cur:Array Value} {k:Nat} {v:Value} (hk:k < cur.size) : (cur.toList.take k++[v]++cur.toList.drop (k+1)).toArray=cur.setIfInBounds k v:=by
 apply Array.ext';rw [Array.toList_setIfInBounds,List.set_eq_take_append_cons_drop,if_pos (by simpa using hk)];simp
theorem Keeps.same (M:Nat→Nat→Prop) (w:World) : Keeps M w w:=.of_blocks (Nat.le_refl _) fun _ _ _=>rfl
section
variable {id k e sz:Nat} {ao:Option Nat} {qs:List (List (List AV))} {es:List (List AV)} {v:Value}
theorem Rel.bagRow (R:Rel M0 w0 N p st a w) (hi:st.h[id]? = some (some (.bag e sz false ao qs))) : BagOK w0 w (Mof M0 st.h p) p id e sz ao qs:=by
 obtain ⟨_,h⟩:=R.objs id _ hi;rwa [if_neg (by simp)] at h
theorem Rel.bagStore {cur:Array Value} (R:Rel M0 w0 N p st a w) (hi:st.h[id]? = some (some (.bag e sz false ao qs))) (hk:k < qs.length) (gE:ao=none∨ao=some k) (bN:w.heap[p id]? = some (.cells cur e (0,0)))
  (jj:∀ (i:Nat) (cs:List AV),st.h[i]? = some (some (.box cs))→∀ c∈cs,dK id 5 c=true) (hv:V1 w (Mof M0 st.h p) st.h p (.slw id k sz es) v) :
  Rel M0 w0 N p ⟨st.s.map (fun q=>(q.1,unW id q.2)),st.h.set id (some (.bag e sz false none (qs.set k es)))⟩ a (w.setRow (p id) (cur.setIfInBounds k v)):=by
 have hB:=R.bagRow hi;obtain ⟨_,h0,hs⟩:=hv.slw_inv;obtain ⟨_,gh,_,qW⟩:=hs _ _ _ _ hi;have hid:=(List.getElem?_eq_some_iff.1 hi).1;have bY:cp (Ob.bag e sz false ao qs)=true:=rfl;have f_:∀ k',k'≠k→ao≠some k':=fun k' hn=>by rcases gE with h|h<;>rw [h]<;>simp [Ne.symm hn]
 have dG:∀ (i:Nat) (ob:Ob),i≠id→(st.h.set id (some (Ob.bag e sz false none (qs.set k es))))[i]? = some (some ob)→st.h[i]? = some (some ob):=fun i ob hn h=>by rwa [List.getElem?_set_ne (Ne.symm hn)] at h
 refine R.bagSet hi hk gE bN jj (wm w _ _).symm rfl rfl rfl (fun b hb=>wk w _ _ b hb) (setRow_heap w (p id) cur _ e _ bN) (by simp) (List.getElem?_set_self hid) dG (fun _=>rfl) (fun _ _=>rfl) (fun _ _ h=>h)
  (fun b j hS=>hB.1 b j (.inr hS)) hB.2.1 (fun i ob hn aF bu b j j' hO hS=>hn (R.inj i id ob _ (dG i ob hn aF) hi bu bY b j j' hO (.inr hS))) (fun b j hS=>.inr ⟨id,_,hi,bY,.inr hS⟩)
  (h0.keep (Keeps.same _ w) fun b j _ hn hm=>hn ?_) gh fun k' v' dP au bE=>qW cur e k' v' bN dP au (f_ k' au) bE
 rcases hm with hm|⟨i,o,aF,bu,hO⟩
 ·exact .inl hm
 ·by_cases he:i=id
  ·subst he;exact .inr ⟨i,_,hi,bY,hO⟩
  ·exact .inr ⟨i,o,dG i o he aF,bu,hO⟩
theorem Rel.bagTake {cur:Array Value} {r er:Nat} {nl:Bool} (R:Rel M0 w0 N p st a w) (hi:st.h[id]? = some (some (.bag e sz false ao qs))) (hk:k < qs.length) (gE:ao=none∨ao=some k) (bN:w.heap[p id]? = some (.cells cur e (0,0)))
  (jj:∀ (i:Nat) (cs:List AV),st.h[i]? = some (some (.box cs))→∀ c∈cs,dK id 5 c=true) (hr:st.h[r]? = some (some (.arr er sz nl es))) (hv:V1 w (Mof M0 st.h p) st.h p (.osl r) v) :
  ∃ p',Rel M0 w0 N p' ⟨st.s.map (fun q=>(q.1,unW id q.2)),(st.h.set r none).set id (some (.bag e sz false none (qs.set k es)))⟩ a (w.setRow (p id) (cur.setIfInBounds k v)):=by
 have hB:=R.bagRow hi;have hid:=(List.getElem?_eq_some_iff.1 hi).1;have wC:r≠id:=fun h=>by rw [h,hi] at hr;cases hr
 have bY:cp (Ob.bag e sz false ao qs)=true:=rfl;have f_:∀ k',k'≠k→ao≠some k':=fun k' hn=>by rcases gE with h|h<;>rw [h]<;>simp [Ne.symm hn]
 have e_:((st.h.set r none).set id (some (Ob.bag e sz false none (qs.set k es))))[id]? = some (some (Ob.bag e sz false none (qs.set k es))):=List.getElem?_set_self (by simpa using hid);have Cu:∀ (i:Nat) (ob:Ob),i≠id→((st.h.set r none).set id (some (Ob.bag e sz false none (qs.set k es))))[i]? = some (some ob)→i≠r:=fun i ob hn h he=>by
  subst he;rw [List.getElem?_set_ne (Ne.symm hn),List.getElem?_set] at h;simp at h
 have dG:∀ (i:Nat) (ob:Ob),i≠id→((st.h.set r none).set id (some (Ob.bag e sz false none (qs.set k es))))[i]? = some (some ob)→st.h[i]? = some (some ob):=fun i ob hn h=>by
  have NF:=Cu i ob hn h;rwa [List.getElem?_set_ne (Ne.symm hn),List.getElem?_set_ne (Ne.symm NF)] at h
 obtain ⟨A,n,c,hq,_,bs⟩:=hv.osl_inv;have bs:=bs _ _ _ _ hr;obtain ⟨iJ,pH,aX⟩:=R.objs r _ hr;cases nl
 ·rw [if_neg (by simp)] at aX;obtain ⟨cE,cr,hg,hle,dq⟩:=aX;unfold Osl at bs;rw [if_neg (by simp)] at bs;obtain ⟨cap,wD,e1,e2,e3,e4,e5⟩:=bs;have:wD=cr:=by rw [hg] at e2;injection e2 with e2;injection e2 with e2;exact e2.symm
  subst this;have uc:cp (Ob.arr er sz false es)=true:=rfl;have Cv:p r≠p id:=fun h=>wC (R.inj r id _ _ hr hi uc bY (p r) 0 0 (.inl rfl) (.inl h.symm));have GS:∀ j,¬p.S id (p r) j:=fun j h=>wC (R.inj r id _ _ hr hi uc bY (p r) 0 j (.inl rfl) (.inr h));have dQ:=(Array.getElem?_eq_some_iff.1 hg).1;refine ⟨⟨p.b,fun i=>if i=id then fun b j=>p.S id b j∨(b=p r∧es.length*sz≤j) else p.S i⟩,?_⟩;have hM:∀ b j,¬Mof M0 st.h p b j→¬Mof M0 ((st.h.set r none).set id (some (Ob.bag e sz false none (qs.set k es)))) ⟨p.b,fun i=>if i=id then fun b j=>p.S id b j∨(b=p r∧es.length*sz≤j) else p.S i⟩ b j:=fun b j hn hm=>by
   rcases hm with hm|⟨i,o,aF,bu,hO⟩
   ·exact hn (.inl hm)
   ·by_cases he:i=id
    ·subst he;rcases hO with hO|hO
     ·exact hn (.inr ⟨i,_,hi,bY,.inl hO⟩)
     ·simp only [if_true] at hO;rcases hO with hO|⟨rfl,_⟩
      ·exact hn (.inr ⟨i,_,hi,bY,.inr hO⟩)
      ·exact hn (.inr ⟨r,_,hr,uc,.inl rfl⟩)
    ·refine hn (.inr ⟨i,o,dG i o he aF,bu,?_⟩);rcases hO with hO|hO
     ·exact .inl hO
     ·simp only [if_neg he] at hO;exact .inr hO
  refine R.bagSet hi hk gE bN jj (wm w _ _).symm rfl rfl rfl (fun b hb=>wk w _ _ b hb) (setRow_heap w (p id) cur _ e _ bN) (by simp) e_ dG (fun _=>rfl) (fun i hn=>by simp only [if_neg hn]) (fun b j h=>by simp only [if_true];exact .inl h)
   (fun b j hS=>?_) (fun j hS=>?_) (fun i ob hn aF bu b j j' hO hS=>?_) (fun b j hS=>?_) ?_ ?_ fun k' v' dP au bE=>?_
  ·simp only [if_true] at hS;rcases hS with hS|⟨rfl,_⟩
   ·exact hB.1 b j (.inr hS)
   ·exact ⟨cE.1 j,dQ⟩
  ·simp only [if_true] at hS;rcases hS with hS|⟨h,_⟩
   ·exact hB.2.1 j hS
   ·exact Cv h.symm
  ·simp only [if_true] at hS;rcases hS with hS|⟨rfl,_⟩
   ·exact hn (R.inj i id ob _ (dG i ob hn aF) hi bu bY b j j' hO (.inr hS))
   ·exact Cu i ob hn aF (R.inj i r ob _ (dG i ob hn aF) hr bu uc _ j 0 hO (.inl rfl))
  ·simp only [if_true] at hS;rcases hS with hS|⟨rfl,_⟩
   ·exact .inr ⟨id,_,hi,bY,.inr hS⟩
   ·exact .inr ⟨r,_,hr,uc,.inl rfl⟩
  ·rw [e1];by_cases cL:es=[]
   ·subst cL;exact .slNil _ _ _
   ·have bb:∀ k j,k < es.length→j < sz→k*sz+j < wD.size∧k*sz+j < es.length*sz:=fun k j h1 h2=>by
     have:(k+1)*sz≤es.length*sz:=Nat.mul_le_mul_right _ h1;rw [Nat.add_mul] at this;omega
    refine .sl sz es cap (p r) 0 (fun k j=>(wD[k*sz+j]?).getD undef) cL dQ (fun k1 j h1 h2 hm=>?_) e4 (fun k1 x hx=>(pH k1 x hx).1) (fun k1 x j c hx hc=>(pH k1 x hx).2 c (List.mem_of_getElem? hc)) (fun k1 j h1 h2=>?_) fun k1 x j c hx hc=>?_
    ·rw [Nat.zero_add] at hm;have Cw:=(bb k1 j h1 h2).2;rcases hm with hm|⟨i,o,aF,bu,hO⟩
     ·exact R.h0 _ _ hm (cE.1 _)
     ·by_cases he:i=id
      ·subst he;rcases hO with hO|hO
       ·exact Cv hO.symm
       ·simp only [if_true] at hO;rcases hO with hO|⟨_,hO⟩
        ·exact GS _ hO
        ·omega
      ·refine Cu i o he aF (R.inj i r o _ (dG i o he aF) hr bu uc (p r) (k1*sz+j) 0 ?_ (.inl rfl));rcases hO with hO|hO
       ·exact .inl hO
       ·simp only [if_neg he] at hO;exact .inr hO
    ·rw [cell_of_row w (p r) _ wD er (0,0) hg,Nat.zero_add];have:=(bb k1 j h1 h2).1;simp [this]
    ·obtain ⟨u,hu,cz⟩:=dq k1 x j c hx hc;rw [hu];exact cz.keep (Keeps.same _ w) fun b j _=>hM b j
  ·rw [e1];refine ⟨_,_,_,rfl,e4,fun _=>⟨p r,0,wD,er,rfl,hg,by rw [Nat.zero_add,e3];exact Nat.le_refl _,e5,iJ,Cv,fun j hj=>?_⟩⟩;simp only [if_true];exact .inr ⟨trivial,by omega⟩
  ·rw [e1];intro b o n1 c1 b' o' n' c' h1 h2 l1 l2 he;simp only [Value.slice.injEq,Option.some.injEq,Addr.mk.injEq] at h1;obtain ⟨⟨rfl,_,_⟩,_,_⟩:=h1;obtain ⟨_,_,cur0,ud,_,NG,_⟩:=R.bagRow hi;have cJ:cur0=cur:=by rw [bN] at ud;injection ud with ud;injection ud with ud;exact ud.symm
   subst cJ;obtain ⟨v2,g1,_,g3⟩:=NG k' _ (List.getElem?_eq_getElem dP);rw [bE] at g1;obtain rfl:=Option.some.inj g1;obtain ⟨A2,n2,nR,q1,q2,q3⟩:=g3 (f_ k' au);rw [h2] at q1;simp only [Value.slice.injEq] at q1;obtain ⟨rfl,rfl,rfl⟩:=q1;obtain ⟨b2,o2,_,_,q4,_,_,_,_,_,q5⟩:=q3 l2;simp only [Option.some.injEq,Addr.mk.injEq] at q4;obtain ⟨rfl,rfl,_⟩:=q4;exact GS _ (by rw [he];exact q5 _ (Nat.le_refl _))
 ·rw [if_pos rfl] at aX;subst aX;unfold Osl at bs;rw [if_pos rfl] at bs;refine ⟨p,?_⟩;refine R.bagSet hi hk gE bN jj (wm w _ _).symm rfl rfl rfl (fun b hb=>wk w _ _ b hb) (setRow_heap w (p id) cur _ e _ bN) (by simp) e_ dG (fun _=>rfl) (fun _ _=>rfl) (fun _ _ h=>h)
   (fun b j hS=>hB.1 b j (.inr hS)) hB.2.1 (fun i ob hn aF bu b j j' hO hS=>hn (R.inj i id ob _ (dG i ob hn aF) hi bu bY b j j' hO (.inr hS))) (fun b j hS=>.inr ⟨id,_,hi,bY,.inr hS⟩)
   ?_ ?_ fun k' v' _ _ _=>?_
  ·obtain ⟨⟨A,bs⟩,_⟩:=bs;rw [bs];exact .slNil _ _ _
  ·obtain ⟨⟨A,bs⟩,_⟩:=bs;rw [bs];exact ⟨A,0,0,rfl,Nat.le_refl _,fun h=>by omega⟩
  ·obtain ⟨⟨A,bs⟩,_⟩:=bs;rw [bs];intro b o n1 c1 b' o' n' c' h1 _ l1;simp only [Value.slice.injEq] at h1;omega
end
end
end Go.Proofs.YtoibondihdhnoaaGreatDoor
