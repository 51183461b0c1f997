/- Texts in one: Walks on plain values: the layer; of every program; no condition. -/
import Derived.Test.YtoibondihdhnoaaGreatDoorFRQ4
import Derived.IntWalk
import Derived.Deep.LoopGhost
import Derived.Test.YtoibondihdhnoaaGreatDoorFRQ2
namespace Go.Proofs.YtoibondihdhnoaaGreatDoor
open Go.RowKit
section
variable {P:Program} {M0:Nat→Nat→Prop} {w0:Bas} {N:Nm} {p:Pl} {st:VS} {a:Act} {w:World}
def cO (p:Pl) (n b:Nat) : Pl:=⟨fun i=>if i=n then b else p i,fun i=>if i=n then fun _ _=>False else p.S i⟩
theorem jS {p:Pl} {n b i:Nat} (h:i≠n) : cO p n b i=p i∧(cO p n b).S i=p.S i:=⟨if_neg h,if_neg h⟩
theorem ln (p:Pl) (n b:Nat) : cO p n b n=b∧∀ x j,¬(cO p n b).S n x j:=⟨if_pos rfl,fun x j h=>by simp [cO] at h⟩
theorem jw {p:Pl} {n b i x j:Nat} (h:i≠n) : (cO p n b).O i x j↔p.O i x j:=by unfold Pl.O;rw [(jS h).1,(jS h).2]
theorem mn {p:Pl} {n b x j:Nat} (h:(cO p n b).O n x j) : x=b:=h.elim (fun h=>h.symm.trans (ln p n b).1) fun h=>absurd h ((ln p n b).2 x j)
theorem y2 {h:Hp} {x:Option Ob} {id:Nat} {ob:Ob} (hi:(h++[x])[id]? = some (some ob)) : (id < h.length∧h[id]? = some (some ob))∨(id=h.length∧x=some ob):=by
 rcases Nat.lt_trichotomy id h.length with ak|heq|Rg
 ·rw [List.getElem?_append_left ak] at hi;exact .inl ⟨ak,hi⟩
 ·subst heq;rw [List.getElem?_append_right (Nat.le_refl _)] at hi;simp at hi;exact .inr ⟨rfl,hi⟩
 ·rw [List.getElem?_eq_none (by simp;omega)] at hi;cases hi
theorem tS {h:Hp} {x:Option Ob} {id:Nat} (hi:id < h.length) : (h++[x])[id]? = h[id]?:=List.getElem?_append_left hi
theorem Rel.growM {ob:Ob} {b:Nat} (_R:Rel M0 w0 N p st a w) (hb0:b_ ob=true→w.heap.size≤b) : ∀ c j,c < w.heap.size→¬Mof M0 st.h p c j→¬Mof M0 (st.h++[some ob]) (cO p st.h.length b) c j:=by
 intro c j hc hn hm;rcases hm with hm|⟨id,ob',hi,hl,jN⟩
 ·exact hn (.inl hm)
 ·rcases y2 hi with ⟨ak,bo⟩|⟨rfl,hx⟩
  ·exact hn (.inr ⟨id,ob',bo,hl,(jw (Nat.ne_of_lt ak)).1 jN⟩)
  ·obtain rfl:=Option.some.inj hx;have:=mn jN;have:=hb0 hl;omega
theorem Rel.growV {w':World} {ob:Ob} {b:Nat} (R:Rel M0 w0 N p st a w) (hb:Below w.heap.size w w') (hb0:b_ ob=true→w.heap.size≤b) {x:AV} {u:Value} (hx:V1 w (Mof M0 st.h p) st.h p x u) : V1 w' (Mof M0 (st.h++[some ob]) (cO p st.h.length b)) (st.h++[some ob]) (cO p st.h.length b) x u:=by
 have hp:∀ id,id < st.h.length→cO p st.h.length b id=p id:=fun id hid=>(jS (Nat.ne_of_lt hid)).1;exact hx.keep (.of_below hb) (R.growM hb0) (by simp) hp (fun id e sz nl es u hid he hv=>by
   rw [tS hid] at he;exact (hv e sz nl es he).below hb) (fun id e sz nl aj qs u hid he hv=>by
   rw [tS hid] at he;exact (hv e sz nl aj qs he).below hb) fun id k sz v hid hs=>hs.keep (fun e sz aj qs he=>by
   rw [tS hid] at he;exact ⟨he,hp id hid,(jS (Nat.ne_of_lt hid)).2,fun b _ _ ak=>hb.block b ak⟩) hb.size
theorem s6 {w0:Bas} {n b:Nat} (h:w0.w.heap.size≤b) : Own w0 (cO p n b) n:=⟨fun j=>.inl (by rw [(ln p n b).1];exact h),(ln p n b).2⟩
theorem Rel.grow {w':World} {ob:Ob} {b:Nat} {d:Nat} {av:AV} {v:Value} (R:Rel M0 w0 N p st a w) (hb:Below w.heap.size w w') (hd:N.has d) (hb0:b_ ob=true→w.heap.size≤b) (_hnb:∀ e sz nl aj qs,ob≠.bag e sz nl aj qs)
  (iL:ObOK w0 w' (Mof M0 (st.h++[some ob]) (cO p st.h.length b)) (st.h++[some ob]) (cO p st.h.length b) st.h.length ob)
  (hv:V1 w' (Mof M0 (st.h++[some ob]) (cO p st.h.length b)) (st.h++[some ob]) (cO p st.h.length b) av v) :
  Rel M0 w0 N (cO p st.h.length b) ⟨(d,av)::st.s,st.h++[some ob]⟩ (a.put (some d) v) w':=by
 have hp:∀ id,id < st.h.length→cO p st.h.length b id=p id:=fun id hid=>(jS (Nat.ne_of_lt hid)).1;have hM:∀ c j,c < w.heap.size→¬Mof M0 st.h p c j→¬Mof M0 (st.h++[some ob]) (cO p st.h.length b) c j:=by
  intro c j hc hn hm;rcases hm with hm|⟨id,ob',hi,hl,jN⟩
  ·exact hn (.inl hm)
  ·rcases y2 hi with ⟨ak,bo⟩|⟨rfl,hx⟩
   ·exact hn (.inr ⟨id,ob',bo,hl,(jw (Nat.ne_of_lt ak)).1 jN⟩)
   ·obtain rfl:=Option.some.inj hx;have:=mn jN;have:=hb0 hl;omega
 have hV:∀ {x:AV} {u:Value},V1 w (Mof M0 st.h p) st.h p x u→V1 w' (Mof M0 (st.h++[some ob]) (cO p st.h.length b)) (st.h++[some ob]) (cO p st.h.length b) x u:=fun hx=>
  hx.keep (.of_below hb) hM (by simp) hp (fun id e sz nl es u hid he hv=>by
   rw [tS hid] at he;exact (hv e sz nl es he).below hb) (fun id e sz nl aj qs u hid he hv=>by
   rw [tS hid] at he;exact (hv e sz nl aj qs he).below hb) fun id k sz v hid hs=>hs.keep (fun e sz aj qs he=>by
   rw [tS hid] at he;exact ⟨he,hp id hid,(jS (Nat.ne_of_lt hid)).2,fun b _ _ ak=>hb.block b ak⟩) hb.size
 have bB:∀ id ob',(st.h++[some ob])[id]? = some (some ob')→(id < st.h.length∧st.h[id]? = some (some ob'))∨(id=st.h.length∧ob=ob'):=fun id ob' hi=>by
  rcases y2 hi with h|⟨h1,h2⟩
  ·exact .inl h
  ·exact .inr ⟨h1,Option.some.inj h2⟩
 refine ⟨R.defers,R.size.put hd,R.below.later hb,R.m0,R.x0,fun i=>?_,fun id ob' hi=>?_,fun id gI tT ob2 hi bo hl bn x j j' hO cw=>?_⟩
 ·rw [jx a d v i (R.size.lt hd)];simp only [lkp];split
  ·exact hv
  ·exact hV (R.slots i)
 ·rcases bB id ob' hi with ⟨ak,bo⟩|⟨rfl,rfl⟩
  ·exact (R.objs id ob' bo).keep (fun _=>jS (Nat.ne_of_lt ak)) (fun _ b _ _ dk=>hb.block b dk) hb.size (fun hx=>hx.keep (.of_below hb) hM) fun _ _ _ _ _ hx=>hV hx
  ·exact iL
 ·rcases bB id tT hi with ⟨ak,mD⟩|⟨rfl,rfl⟩<;>rcases bB gI ob2 bo with ⟨iU,bD⟩|⟨rfl,rfl⟩
  ·exact R.inj id gI _ _ mD bD hl bn x j j' ((jw (Nat.ne_of_lt ak)).1 hO) ((jw (Nat.ne_of_lt iU)).1 cw)
  ·have h1:=((R.objs id tT mD).own hl x j ((jw (Nat.ne_of_lt ak)).1 hO)).2;have h2:=hb0 bn;have h3:=mn cw;omega
  ·have h1:=((R.objs gI ob2 bD).own bn x j' ((jw (Nat.ne_of_lt iU)).1 cw)).2;have h2:=hb0 hl;have h3:=mn hO;omega
  ·rfl
theorem Rel.write {w':World} {h':Hp} {id:Nat} {ob ob':Ob} (R:Rel M0 w0 N p st a w) (hi:st.h[id]? = some (some ob)) (hl:b_ ob=true) (bn:b_ ob'=true) (_hnb:∀ e sz nl aj qs,ob≠.bag e sz nl aj qs) (vY:∀ e sz nl aj qs,ob'≠.bag e sz nl aj qs) (aJ:w.heap.size=w'.heap.size) (kZ:w'.os=w.os) (k6:w'.tape=w.tape) (k7:w'.output=w.output)
  (cf:∀ b,b≠p id→w'.heap[b]? = w.heap[b]?) (hh:h'=st.h.set id (some ob'))
  (br:∀ e sz nl es v,ob' = .arr e sz nl es→(∀ e sz nl es,ob = .arr e sz nl es→Osl w (p id) e sz nl es.length v)→Osl w' (p id) e sz nl es.length v)
  (iL:(∀ {x:AV} {u:Value},V1 w (Mof M0 st.h p) st.h p x u→V1 w' (Mof M0 h' p) h' p x u)→(∀ {x:AV} {u:Value},V0 w (Mof M0 st.h p) x u→V0 w' (Mof M0 h' p) x u)→ObOK w0 w' (Mof M0 h' p) h' p id ob') :
  Rel M0 w0 N p ⟨st.s,h'⟩ a w':=by
 subst hh;have hid:id < st.h.length:=(List.getElem?_eq_some_iff.1 hi).1;have bB:∀ i o,(st.h.set id (some ob'))[i]? = some (some o)→(i=id∧o=ob')∨(i≠id∧st.h[i]? = some (some o)):=by
  intro i o aG;rw [List.getElem?_set] at aG;by_cases he:id=i
  ·rw [if_pos he,if_pos (by omega)] at aG;simp only [Option.some.injEq] at aG;exact .inl ⟨he.symm,aG.symm⟩
  ·rw [if_neg he] at aG;exact .inr ⟨fun h=>he h.symm,aG⟩
 have hM:∀ c j,¬Mof M0 st.h p c j→¬Mof M0 (st.h.set id (some ob')) p c j:=by
  intro c j hn hm;rcases hm with hm|⟨i,o,aG,bx,hp⟩
  ·exact hn (.inl hm)
  ·rcases bB i o aG with ⟨rfl,rfl⟩|⟨_,bp⟩
   ·exact hn (.inr ⟨i,ob,hi,hl,hp⟩)
   ·exact hn (.inr ⟨i,o,bp,bx,hp⟩)
 have hk:Keeps (Mof M0 st.h p) w w':=.of_blocks (by omega) fun b _ hb=>cf b fun he=>hb fun j=>.inr ⟨id,ob,hi,hl,.inl he.symm⟩;have aq:∀ i o,i≠id→st.h[i]? = some (some o)→b_ o=true→∀ b j,p.O i b j→w'.heap[b]? = w.heap[b]?:=fun i o hn aG bx b j hO=>cf b fun he=>hn (R.inj i id o ob aG hi bx hl b j 0 hO (.inl he.symm));have hV:∀ {x:AV} {u:Value},V1 w (Mof M0 st.h p) st.h p x u→V1 w' (Mof M0 (st.h.set id (some ob')) p) (st.h.set id (some ob')) p x u:=fun hx=>
  hx.keep hk (fun b j _=>hM b j) (by simp) (fun _ _=>rfl) (fun i e sz nl es v cC he hv=>by
   rcases bB i _ he with ⟨rfl,ho⟩|⟨hn,aG⟩
   ·exact br e sz nl es v ho.symm fun e' bE kC es' iL=>hv e' bE kC es' (by rw [hi,iL])
   ·exact (hv _ _ _ _ aG).keep fun aK _=>aq i _ hn aG (by rw [aK];rfl) _ 0 (.inl rfl)) (fun i e sz nl aj qs v cC he hv=>by
   rcases bB i _ he with ⟨rfl,ho⟩|⟨hn,aG⟩
   ·exact absurd ho.symm (vY _ _ _ _ _)
   ·exact (hv _ _ _ _ _ aG).keep fun aK _=>aq i _ hn aG (by rw [aK];rfl) _ 0 (.inl rfl)) fun i k sz v cC hs=>hs.keep (fun e sz aj qs he=>by
   rcases bB i _ he with ⟨rfl,ho⟩|⟨hn,aG⟩
   ·exact absurd ho.symm (vY _ _ _ _ _)
   ·exact ⟨aG,rfl,rfl,fun b j hO _=>aq i _ hn aG rfl b j hO⟩) (by omega)
 have dj:∀ {x:AV} {u:Value},V0 w (Mof M0 st.h p) x u→V0 w' (Mof M0 (st.h.set id (some ob')) p) x u:=fun hx=>hx.keep hk fun b j _=>hM b j;have dr:=(R.objs id ob hi).ge hl;refine ⟨R.defers,R.size,R.below.blocks kZ k6 k7 (by omega) fun b _ hF=>cf b fun he=>hF fun j=>by rw [he];exact dr j,R.m0,R.x0,fun i=>hV (R.slots i),fun i o aG=>?_,fun i i' o o' aG bp bx ee x j j' hO cw=>?_⟩
 ·rcases bB i o aG with ⟨rfl,rfl⟩|⟨hn,bp⟩
  ·exact iL hV dj
  ·exact (R.objs i o bp).keep (fun _=>⟨rfl,rfl⟩) (fun bx b j hO _=>aq i o hn bp bx b j hO) (by omega) dj fun _ _ _ _ _ hx=>hV hx
 ·rcases bB i o aG with ⟨rfl,rfl⟩|⟨hn,h1⟩<;>rcases bB i' o' bp with ⟨rfl,rfl⟩|⟨lp,h2⟩
  ·rfl
  ·exact R.inj _ _ _ _ hi h2 hl ee x j j' hO cw
  ·exact R.inj _ _ _ _ h1 hi bx hl x j j' hO cw
  ·exact R.inj i i' o o' h1 h2 bx ee x j j' hO cw
end
section
variable {P:Program} {M0:Nat→Nat→Prop} {w0:Bas} {N:Nm} {p:Pl} {st:VS} {a:Act} {w:World}
theorem V1.purge {w w':World} {M M':Nat→Nat→Prop} {h h':Hp} {p p':Pl} {id:Nat} (hk:Keeps M w w') (hM:∀ b j,b < w.heap.size→¬M b j→¬M' b j) (hl:h.length≤h'.length) (hp:∀ i,i≠id→p' i=p i)
  (hO:∀ i e sz nl es v,i≠id→h'[i]? = some (some (.arr e sz nl es))→(∀ e sz nl es,h[i]? = some (some (.arr e sz nl es))→Osl w (p i) e sz nl es.length v)→Osl w' (p i) e sz nl es.length v)
  (hG:∀ i e sz nl aj qs v,i≠id→h'[i]? = some (some (.bag e sz nl aj qs))→(∀ e sz nl aj qs,h[i]? = some (some (.bag e sz nl aj qs))→Osl w (p i) e 1 nl qs.length v)→Osl w' (p i) e 1 nl qs.length v)
  (hW:∀ i k sz v,i≠id→i < h.length→Sp w h p i k sz v→Sp w' h' p' i k sz v) :
  ∀ (n:Nat) (av:AV) (v:Value),V1 w M h p av v→cH id n av=true→V1 w' M' h' p' av v
 | 0,_,_,_,hb=>by simp [cH] at hb
 | n+1,av,v,hv,hb=>by
  have ih:=V1.purge (w:=w) (p:=p) (h:=h) hk hM hl hp hO hG hW n;cases hv with
  | base _ _ h0=>exact .base _ _ (h0.keep hk hM)
  | agg cs us hl h1 hv=>
   simp only [cH] at hb;exact .agg cs us hl h1 fun i c u hc hu=>ih c u (hv i c u hc hu) (List.all_eq_true.1 hb c (List.mem_of_getElem? hc))
  | tup cs us hl hv=>
   simp only [cH] at hb;exact .tup cs us hl fun i c u hc hu=>ih c u (hv i c u hc hu) (List.all_eq_true.1 hb c (List.mem_of_getElem? hc))
  | fn f x y us vs hl bn hv bF=>
   simp only [cH,Bool.and_eq_true] at hb;exact .fn f x y us vs hl bn (fun i c u hc hu=>ih c u (hv i c u hc hu) (List.all_eq_true.1 hb.1 c (List.mem_of_getElem? hc))) (fun i c u hc hu=>ih c u (bF i c u hc hu) (List.all_eq_true.1 hb.2 c (List.mem_of_getElem? hc)))
  | iface t x u hv=>exact .iface t x u (ih x u hv (by simpa [cH] using hb))
  | ref i off hid=>rw [←hp i (by simpa [cH] using hb)];exact .ref i off (Nat.lt_of_lt_of_le hid hl)
  | aref i sz k off hid=>rw [←hp i (by simpa [cH] using hb)];exact .aref i sz k off (Nat.lt_of_lt_of_le hid hl)
  | osl i A m c hid hv lL=>
   have hn:i≠id:=by simpa [cH] using hb
   exact .osl i A m c (Nat.lt_of_lt_of_le hid hl) (fun e sz nl es he=>by rw [hp i hn];exact hO i e sz nl es _ hn he hv) fun e sz nl aj qs he=>by rw [hp i hn];exact hG i e sz nl aj qs _ hn he lL
  | slw i k sz es _ hid h0 hs=>
   have hn:i≠id:=by simpa [cH] using hb
   exact .slw i k sz es v (Nat.lt_of_lt_of_le hid hl) (h0.keep hk hM) (hW i k sz v hn hid hs)
  | mp i hid=>rw [←hp i (by simpa [cH] using hb)];exact .mp i (Nat.lt_of_lt_of_le hid hl)
theorem B2 (id:Nat) : ∀ (s:List (Nat×AV)) (i:Nat),lkp (s.map fun q=>(q.1,purge id q.2)) i=purge id (lkp s i)∨lkp (s.map fun q=>(q.1,purge id q.2)) i = .any
 | [],i=>.inr rfl
 | (d,v)::r,i=>by
  simp only [List.map_cons,lkp];split
  ·exact .inl rfl
  ·exact B2 id r i
theorem Rel.append {w':World} {id g:Nat} {e:TypeId} {sz:Nat} {nl:Bool} {es qL:List (List AV)} {d:Nat} {A:Option Addr} {n c:Nat} (R:Rel M0 w0 N p st a w) (hd:N.has d) (hi:st.h[id]? = some (some (.arr e sz nl es)))
  (_hge:∀ j,Fr w0 g j) (hg:g=w.heap.size∨(nl=false∧g=p id)) (kZ:w'.os=w.os) (k6:w'.tape=w.tape) (k7:w'.output=w.output) (aJ:w.heap.size≤w'.heap.size) (cf:∀ b,b < w.heap.size→¬(nl=false∧b=p id)→w'.heap[b]? = w.heap[b]?)
  (iL:(∀ {x:AV} {u:Value},V0 w (Mof M0 st.h p) x u→V0 w' (Mof M0 (fW id 0 (st.h.set id (some (.arr e sz false qL)))) (cO p id g)) x u)→ObOK w0 w' (Mof M0 (fW id 0 (st.h.set id (some (.arr e sz false qL)))) (cO p id g)) (fW id 0 (st.h.set id (some (.arr e sz false qL)))) (cO p id g) id (.arr e sz false qL))
  (hv:Osl w' g e sz false qL.length (.slice A n c)) :
  Rel M0 w0 N (cO p id g) ⟨(d,.osl id)::st.s.map (fun q=>(q.1,purge id q.2)),fW id 0 (st.h.set id (some (.arr e sz false qL)))⟩ (a.put (some d) (.slice A n c)) w':=by
 generalize ft:fW id 0 (st.h.set id (some (.arr e sz false qL)))=h' at *;generalize r8:cO p id g=p' at *;have eB:id < st.h.length:=(List.getElem?_eq_some_iff.1 hi).1;have hlen:h'.length=st.h.length:=by rw [←ft,yO];simp
 have cM:p' id=g:=by rw [←r8];exact (ln p id g).1
 have jj:∀ i,i≠id→p' i=p i:=fun i hn=>by rw [←r8];exact (jS hn).1
 have gg:∀ i,i≠id→p'.S i=p.S i:=fun i hn=>by rw [←r8];exact (jS hn).2
 have kb:∀ {i x j},i≠id→(p'.O i x j↔p.O i x j):=fun hn=>by rw [←r8];exact jw hn
 have sf:∀ {x j},p'.O id x j→x=g:=fun h=>by rw [←r8] at h;exact mn h
 have bB:∀ i o,h'[i]? = some (some o)→(i=id∧o = .arr e sz false qL)∨(i≠id∧∃ o0,st.h[i]? = some (some o0)∧b_ o0=b_ o∧((o0=o∧∀ cs,o = .box cs→cs.all (cH id 5)=true)∨∃ cs,o0 = .box cs∧o = .box (cs.map (qG id i))∧cs.all (fun c=>cH id 5 c || tP id c)=true)):=by
  intro i o aG;rw [←ft,vN] at aG;obtain ⟨x,hx,cW⟩:=Option.map_eq_some_iff.1 aG;rw [Nat.zero_add] at cW;rw [List.getElem?_set] at hx;by_cases he:id=i
  ·rw [if_pos he,if_pos (by omega)] at hx;simp only [Option.some.injEq] at hx;subst hx;simp only [jH,Option.some.injEq] at cW;exact .inl ⟨he.symm,cW.symm⟩
  ·rw [if_neg he] at hx;refine .inr ⟨fun h=>he h.symm,?_⟩;cases x with
   | none=>simp [jH] at cW
   | some y=>
    cases y with
    | box cs=>
     simp only [jH] at cW;split at cW
     ·rename_i bz;simp only [Option.some.injEq] at cW;subst cW;exact ⟨_,hx,rfl,.inl ⟨rfl,fun dL hc=>by injection hc with hc;subst hc;exact bz⟩⟩
     ·split at cW
      ·rename_i bz;simp only [Option.some.injEq] at cW;subst cW;exact ⟨_,hx,rfl,.inr ⟨cs,rfl,rfl,bz⟩⟩
      ·cases cW
    | arr e1 s1 n1 l1=>
     simp only [jH,Option.some.injEq] at cW;subst cW;exact ⟨_,hx,rfl,.inl ⟨rfl,fun dL hc=>by cases hc⟩⟩
    | mpo kf kvs=>
     simp only [jH,Option.some.injEq] at cW;subst cW;exact ⟨_,hx,rfl,.inl ⟨rfl,fun dL hc=>by cases hc⟩⟩
    | bag e1 s1 n1 Ng q1=>
     simp only [jH,Option.some.injEq] at cW;subst cW;exact ⟨_,hx,rfl,.inl ⟨rfl,fun dL hc=>by cases hc⟩⟩
 have df:nl=false→b_ (.arr e sz nl es)=true:=fun h=>by subst h;rfl
 have hM:∀ c j,c < w.heap.size→¬Mof M0 st.h p c j→¬Mof M0 h' p' c j:=by
  intro c j hc hn hm;rcases hm with hm|⟨i,o,aG,bx,hp⟩
  ·exact hn (.inl hm)
  ·rcases bB i o aG with ⟨rfl,rfl⟩|⟨aq,o0,bp,pG,_⟩
   ·have Rh:=sf hp;rcases hg with hg|⟨aK,hg⟩
    ·omega
    ·exact hn (.inr ⟨_,_,hi,df aK,.inl (by omega)⟩)
   ·exact hn (.inr ⟨i,o0,bp,pG.trans bx,(kb aq).1 hp⟩)
 have hk:Keeps (Mof M0 st.h p) w w':=.of_blocks aJ fun b dk hn=>cf b dk fun ⟨aK,he⟩=>hn fun j=>.inr ⟨id,_,hi,df aK,.inl he.symm⟩;have aq:∀ i o,i≠id→st.h[i]? = some (some o)→b_ o=true→∀ b j,p.O i b j→b < w.heap.size→w'.heap[b]? = w.heap[b]?:=fun i o hn aG bx b j hO dk=>cf b dk fun ⟨aK,he⟩=>hn (R.inj i id o _ aG hi bx (df aK) b j 0 hO (.inl he.symm));have bI:∀ i o,i≠id→(∀ cs,o≠.box cs)→h'[i]? = some (some o)→st.h[i]? = some (some o):=fun i o hn f_ he=>by
  rcases bB i _ he with ⟨h,_⟩|⟨_,o0,aG,_,⟨rfl,_⟩|⟨cs,_,hb,_⟩⟩
  ·exact absurd h hn
  ·exact aG
  ·exact absurd hb (f_ _)
 have qc:∀ i e sz nl es v,i≠id→h'[i]? = some (some (.arr e sz nl es))→(∀ e sz nl es,st.h[i]? = some (some (.arr e sz nl es))→Osl w (p i) e sz nl es.length v)→Osl w' (p i) e sz nl es.length v:=fun i e sz nl es v hn he hv=>by
  have aG:=bI i _ hn (fun cs h=>by cases h) he;exact (hv _ _ _ _ aG).keep fun aK ak=>aq i _ hn aG (by rw [aK];rfl) _ 0 (.inl rfl) ak
 have B3:∀ i e sz nl aj qs v,i≠id→h'[i]? = some (some (.bag e sz nl aj qs))→(∀ e sz nl aj qs,st.h[i]? = some (some (.bag e sz nl aj qs))→Osl w (p i) e 1 nl qs.length v)→Osl w' (p i) e 1 nl qs.length v:=fun i e sz nl aj qs v hn he hv=>by
  have aG:=bI i _ hn (fun cs h=>by cases h) he;exact (hv _ _ _ _ _ aG).keep fun aK ak=>aq i _ hn aG (by rw [aK];rfl) _ 0 (.inl rfl) ak
 have B4:∀ i k sz v,i≠id→i < st.h.length→Sp w st.h p i k sz v→Sp w' h' p' i k sz v:=fun i k sz v hn _ hs=>hs.keep (fun e sz aj qs he=>by
  have aG:=bI i _ hn (fun cs h=>by cases h) he;exact ⟨aG,jj i hn,gg i hn,aq i _ hn aG rfl⟩) aJ
 have hV:∀ (n:Nat) {x:AV} {u:Value},V1 w (Mof M0 st.h p) st.h p x u→cH id n x=true→V1 w' (Mof M0 h' p') h' p' x u:=fun n x u hx hn=>V1.purge hk hM (by omega) jj qc B3 B4 n x u hx hn;have dj:∀ {x:AV} {u:Value},V0 w (Mof M0 st.h p) x u→V0 w' (Mof M0 h' p') x u:=fun hx=>hx.keep hk hM;have hF:∀ b,b < w.heap.size→¬(∀ j,Fr w0 b j)→w'.heap[b]? = w.heap[b]?:=fun b dk hn=>cf b dk fun ⟨aK,he⟩=>hn fun j=>by rw [he];exact (R.objs id _ hi).ge (df aK) j
 refine ⟨R.defers,R.size.put hd,R.below.blocks kZ k6 k7 aJ hF,R.m0,R.x0,fun i=>?_,fun i o aG=>?_,fun i i' o o' aG bp bx ee x j j' hO cw=>?_⟩
 ·rw [jx a d _ i (R.size.lt hd)];simp only [lkp];split
  ·refine .osl id A n c (by omega) (fun e' bE kC es' he=>?_) fun e' bE kC pe qs he=>?_
   ·rcases bB id _ he with ⟨_,h⟩|⟨h,_⟩
    ·injection h with h1 h2 h3 h4
     subst h1 h2 h3 h4;rw [cM];exact hv
    ·exact absurd rfl h
   ·rcases bB id _ he with ⟨_,h⟩|⟨h,_⟩
    ·cases h
    ·exact absurd rfl h
  ·rcases B2 id st.s i with h|h
   ·rw [h];unfold Go.Proofs.YtoibondihdhnoaaGreatDoor.purge;split
    ·rename_i hn;exact hV 5 (R.slots i) hn
    ·exact .base _ _ (.any _)
   ·rw [h];exact .base _ _ (.any _)
 ·rcases bB i o aG with ⟨rfl,rfl⟩|⟨hn,o0,bp,pG,⟨rfl,jb⟩|⟨cs,rfl,rfl,aD⟩⟩
  ·exact iL dj
  rotate_left
  ·obtain ⟨h1,cur,e,hg,h2,h3,h4⟩:=R.objs i _ bp;refine ⟨by unfold Own;rw [jj i hn,gg i hn];exact h1,cur,e,by rw [jj i hn,aq i _ hn bp rfl _ 0 (.inl rfl) (Array.getElem?_eq_some_iff.1 hg).1];exact hg,by simpa using h2,fun c hc=>?_,fun j c hj=>?_⟩
   ·obtain ⟨c0,kI,rfl⟩:=List.mem_map.1 hc;unfold qG;split
    ·exact h3 c0 kI
    ·rfl
   ·rw [List.getElem?_map] at hj;obtain ⟨c0,lY,rfl⟩:=Option.map_eq_some_iff.1 hj;obtain ⟨u,hu,hv⟩:=h4 j c0 lY;refine ⟨u,hu,?_⟩;unfold qG;split
    ·rename_i bz;exact hV 5 hv bz
    ·rename_i bz;have:=List.all_eq_true.1 aD c0 (List.mem_of_getElem? lY);rw [Bool.or_eq_true] at this;rcases this with h|h
     ·exact absurd h bz
     ·obtain ⟨k,rfl⟩ : ∃ k,c0 = .osl k:=by cases c0<;>first|exact ⟨_,rfl⟩|(simp [tP] at h;done)
      obtain ⟨A2,n2,c2,rfl,_,_⟩:=hv.osl_inv;refine .osl _ _ _ _ (by rw [hlen];exact (List.getElem?_eq_some_iff.1 bp).1) (fun e sz nl es he=>?_) fun e sz nl pe qs he=>?_
      ·rw [aG] at he;cases he
      ·rw [aG] at he;cases he
  ·exact (R.objs i o0 bp).keep (fun _=>⟨jj i hn,gg i hn⟩) (fun bx b j hO dk=>aq i o0 hn bp bx b j hO dk) aJ dj fun cs ca c hc u hx=>hV 5 hx (List.all_eq_true.1 (jb cs ca) c hc)
 ·have ak:∀ i o,i≠id→st.h[i]? = some (some o)→b_ o=true→∀ x j,p.O i x j→g≠x:=by
   intro i o hn h1 hl x j hO he;rcases hg with hg|⟨aK,hg⟩
   ·have:=((R.objs i o h1).own hl x j hO).2;omega
   ·exact hn (R.inj i id o _ h1 hi hl (df aK) x j 0 hO (.inl (by omega)))
  rcases bB i o aG with ⟨rfl,rfl⟩|⟨hn,o1,h1,e1,_⟩<;>rcases bB i' o' bp with ⟨rfl,rfl⟩|⟨lp,o2,h2,e2,_⟩
  ·rfl
  ·exact absurd (sf hO).symm (ak i' o2 lp h2 (e2.trans ee) x j' ((kb lp).1 cw))
  ·exact absurd (sf cw).symm (ak i o1 hn h1 (e1.trans bx) x j ((kb hn).1 hO))
  ·exact R.inj i i' o1 o2 h1 h2 (e1.trans bx) (e2.trans ee) x j j' ((kb hn).1 hO) ((kb lp).1 cw)
theorem Nh {es:List (List AV)} {sz:Nat} {u:Nat→Nat→Value} {k:Nat} {x:List AV} {j:Nat} {c:AV} (hk:es[k]? = some x) (hj:x[j]? = some c) (hl:x.length=sz) :
  ((List.range es.length).flatMap fun k=>(List.range sz).map fun j=>if k < es.length then u k j else .bool false)[k*sz+j]? = some (u k j):=by
 have cB:=(List.getElem?_eq_some_iff.1 hk).1;have bM:=(List.getElem?_eq_some_iff.1 hj).1;have key:∀ (n b:Nat),b+k < b+n→(((List.range' b n).flatMap fun k=>(List.range sz).map fun j=>if k < es.length then u k j else Value.bool false))[k*sz+j]? = some (if b+k < es.length then u (b+k) j else .bool false):=by
  clear cB hk;induction k with
  | zero=>
   intro n b hn;cases n with
   | zero=>omega
   | succ n=>
    rw [List.range'_succ,List.flatMap_cons,List.getElem?_append_left (by simp;omega)];simp [show j < sz by omega]
  | succ k ih=>
   intro n b hn;cases n with
   | zero=>omega
   | succ n=>
    rw [List.range'_succ,List.flatMap_cons,List.getElem?_append_right (by simp [Nat.add_mul];omega)];have:=ih n (b+1) (by omega);simp only [List.length_map,List.length_range];rw [show (k+1)*sz+j - sz=k*sz+j by rw [Nat.add_mul];omega,this,show b+1+k=b+(k+1) by omega]
 have:=key es.length 0 (by omega);rw [show List.range es.length=List.range' 0 es.length from List.range_eq_range',this];simp [cB]
end
section
variable {P:Program} {M0:Nat→Nat→Prop} {w0:Bas} {N:Nm} {p:Pl} {st:VS} {a:Act} {w:World}
theorem Gu {us:List Value} {cs:List AV} {d:Nat} (R:Rel M0 w0 N p st a w) (hd:N.has d) (hc:Cells w (Mof M0 st.h p) st.h p cs us) (t:TypeId) :
  Rel M0 w0 N (cO p st.h.length w.heap.size) ⟨(d,.ref st.h.length 0)::st.s,st.h++[some (.box cs)]⟩ (a.put (some d) (.pointer (some ⟨w.heap.size,0,none⟩))) { w with heap:=w.heap.push (.cells us.toArray t) }:=by
 have hb:=mm w (.cells us.toArray t);have ll:cO p st.h.length w.heap.size st.h.length=w.heap.size:=(ln p _ _).1;refine R.grow hb hd (fun _=>Nat.le_refl _) (fun _ _ _ _ _ h=>by cases h) ⟨s6 R.below.size,us.toArray,t,by rw [ll];simp [-World.alloc_eq],by simp [hc.1],hc.2.1,fun j c hj=>?_⟩ ?_
 ·have eM:j < us.length:=by rw [hc.1];exact (List.getElem?_eq_some_iff.1 hj).1
  exact ⟨us[j],by simp [eM],R.growV hb (fun _=>Nat.le_refl _) (hc.2.2 j c us[j] hj (List.getElem?_eq_getElem eM))⟩
 ·have:=V1.ref (w:={ w with heap:=w.heap.push (.cells us.toArray t) }) (M:=Mof M0 (st.h++[some (.box cs)]) (cO p st.h.length w.heap.size)) (h:=st.h++[some (.box cs)]) (p:=cO p st.h.length w.heap.size) st.h.length 0 (by simp);rwa [ll] at this
theorem Gv {us:List Value} {es:List (List AV)} {d e sz:Nat} (R:Rel M0 w0 N p st a w) (hd:N.has d) (aJ:0 < sz) (hlen:us.length=es.length*sz) (fX:es.length≤maxLen) (cJ:∀ (k:Nat) (x:List AV),es[k]? = some x→x.length=sz∧∀ c∈x,cP c=true)
  (hv:∀ (k:Nat) (x:List AV) (j:Nat) (c:AV) (u:Value),es[k]? = some x→x[j]? = some c→us[k*sz+j]? = some u→V0 w (Mof M0 st.h p) c u) :
  Rel M0 w0 N (cO p st.h.length w.heap.size) ⟨(d,.osl st.h.length)::st.s,st.h++[some (.arr e sz false es)]⟩ (a.put (some d) (.slice (some ⟨w.heap.size,0,none⟩) es.length es.length)) { w with heap:=w.heap.push (.cells us.toArray e) }:=by
 have hb:=mm w (.cells us.toArray e);have ll:cO p st.h.length w.heap.size st.h.length=w.heap.size:=(ln p _ _).1;have hg:({ w with heap:=w.heap.push (.cells us.toArray e) } : World).heap[w.heap.size]? = some (.cells us.toArray e (0,0)):=by simp [-World.alloc_eq]
 have hM:=R.growM (ob:=.arr e sz false es) (b:=w.heap.size) (fun _=>Nat.le_refl _);refine R.grow hb hd (fun _=>Nat.le_refl _) (fun _ _ _ _ _ h=>by cases h) ⟨aJ,cJ,?_⟩ ?_
 ·rw [if_neg (by simp)];refine ⟨s6 R.below.size,us.toArray,by rw [ll];exact hg,by simp [hlen],fun k x j c hk hj=>?_⟩;have cB:=(List.getElem?_eq_some_iff.1 hk).1;have bM:=(List.getElem?_eq_some_iff.1 hj).1;have lO:=(cJ k x hk).1;have h1:(k+1)*sz≤es.length*sz:=Nat.mul_le_mul_right _ cB;rw [Nat.add_mul] at h1;have ak:k*sz+j < us.length:=by omega
  exact ⟨us[k*sz+j],by simp [ak],(hv k x j c _ hk hj (List.getElem?_eq_getElem ak)).keep (.of_below hb) hM⟩
 ·refine .osl _ _ _ _ (by simp) (fun e' bE kC es' he=>?_) fun e' bE kC pe qs he=>?_
  ·rw [List.getElem?_append_right (Nat.le_refl _)] at he;simp only [Nat.sub_self,List.getElem?_cons_zero,Option.some.injEq] at he;injection he with h1 h2 h3 h4
   subst h1 h2 h3 h4;unfold Osl;rw [if_neg (by simp),ll];exact ⟨es.length,us.toArray,rfl,hg,by simp [hlen],Nat.le_refl _,fX⟩
  ·rw [List.getElem?_append_right (Nat.le_refl _)] at he;simp at he
theorem Ni {d e sz:Nat} (R:Rel M0 w0 N p st a w) (hd:N.has d) (aJ:0 < sz) :
  Rel M0 w0 N (cO p st.h.length 0) ⟨(d,.osl st.h.length)::st.s,st.h++[some (.arr e sz true [])]⟩ (a.put (some d) (.slice none 0 0)) w:=by
 refine R.grow (Below.refl _ _) hd (fun h=>by cases h) (fun _ _ _ _ _ h=>by cases h) ⟨aJ,by simp,by simp⟩ (.osl _ _ _ _ (by simp) (fun e' bE kC es' he=>?_) fun e' bE kC pe qs he=>?_)
 ·rw [List.getElem?_append_right (Nat.le_refl _)] at he;simp only [Nat.sub_self,List.getElem?_cons_zero,Option.some.injEq] at he;injection he with h1 h2 h3 h4
  subst h1 h2 h3 h4;simp [Osl]
 ·rw [List.getElem?_append_right (Nat.le_refl _)] at he;simp at he
theorem Gw {cs vs:List AV} {off:Nat} (dN:off+vs.length≤cs.length) (j:Nat) : (lZ cs off vs)[j]? = if j < off then cs[j]? else if j < off+vs.length then vs[j - off]? else cs[j]?:=by
 unfold lZ;by_cases h1:j < off
 ·rw [if_pos h1,List.append_assoc,List.getElem?_append_left (by simp;omega),List.getElem?_take_of_lt h1]
 ·rw [if_neg h1,List.append_assoc,List.getElem?_append_right (by simp;omega)];have e1:(cs.take off).length=off:=by simp;omega
  rw [e1];by_cases h2:j < off+vs.length
  ·rw [if_pos h2,List.getElem?_append_left (by omega)]
  ·rw [if_neg h2,List.getElem?_append_right (by omega),List.getElem?_drop];congr 1;omega
theorem Gx {cs vs:List Value} {off:Nat} (dN:off+vs.length≤cs.length) (j:Nat) : (cs.take off++vs++cs.drop (off+vs.length))[j]? = if j < off then cs[j]? else if j < off+vs.length then vs[j - off]? else cs[j]?:=by
 by_cases h1:j < off
 ·rw [if_pos h1,List.append_assoc,List.getElem?_append_left (by simp;omega),List.getElem?_take_of_lt h1]
 ·rw [if_neg h1,List.append_assoc,List.getElem?_append_right (by simp;omega)];have e1:(cs.take off).length=off:=by simp;omega
  rw [e1];by_cases h2:j < off+vs.length
  ·rw [if_pos h2,List.getElem?_append_left (by omega)]
  ·rw [if_neg h2,List.getElem?_append_right (by omega),List.getElem?_drop];congr 1;omega
theorem Gy {cs vs:List AV} {off:Nat} (h1:∀ c∈cs,cP c=true) (h2:∀ c∈vs,cP c=true) : ∀ c∈lZ cs off vs,cP c=true:=by
 intro c hc;unfold lZ at hc;rcases List.mem_append.1 hc with hc|hc
 ·rcases List.mem_append.1 hc with hc|hc
  ·exact h1 c (List.mem_of_mem_take hc)
  ·exact h2 c hc
 ·exact h1 c (List.mem_of_mem_drop hc)
theorem Gz {cs vs:List AV} {off:Nat} (dN:off+vs.length≤cs.length) : (lZ cs off vs).length=cs.length:=by
 unfold lZ;simp;omega
theorem vZ (w:World) (g:Nat) (cs:Array Value) (b:Nat) (h:b≠g) : (w.setRow g cs).heap[b]? = w.heap[b]?:=by
 simp only [World.setRow,Array.getElem?_modify];rw [if_neg (by omega)]
theorem v_ (w:World) (g:Nat) (cs:Array Value) : (w.setRow g cs).heap.size=w.heap.size:=by simp [World.setRow]
theorem B5 {t:TypeId} {ti:TI} {g o:Nat} {cur:Array Value} {e:TypeId} {v:Value} (aV:aU P t=some ti) (aJ:v.cells.size=ti.size) (hg:w.heap[g]? = some (.cells cur e (0,0))) (dN:o+ti.size≤cur.size) (h1:∀ x∈v.cells.toList,x.oneCell'=true) :
  (Instr.storeAt t (.pointer (some ⟨g,o,none⟩)) v).run P w = .ok () (w.setRow g (cur.toList.take o++v.cells.toList++cur.toList.drop (o+v.cells.toList.length)).toArray):=by
 have:=run_storeCells_at P g o e v.cells.toList 0 cur w hg (by simp;omega) h1;simp only [Nat.add_zero] at this;simp only [Instr.storeAt,Instr.sureAddr,Sem.run_bind,Sem.run_pure,Result.andThen_ok,storeVar,Lb aV,Sem.run_ite,aJ,ne_eq,not_true_eq_false,if_false];exact this
theorem GA {cs:List AV} {us:List Value} {M:Nat→Nat→Prop} {h:Hp} (hc:Cells w M h p cs us) : ∀ x∈us,x.oneCell'=true:=by
 intro x hx;obtain ⟨i,hi⟩:=List.mem_iff_getElem?.1 hx;have hl:i < cs.length:=by rw [←hc.1];exact (List.getElem?_eq_some_iff.1 hi).1
 exact (hc.2.2 i cs[i] x (List.getElem?_eq_getElem hl) hi).one (hc.2.1 _ (List.getElem_mem hl))
theorem GB {t:TypeId} {x y:Operand} {ti:TI} {id off:Nat} {cs:List AV} (R:Rel M0 w0 N p st a w) (aV:aU P t=some ti) (hx:ev st x = .ref id off) (hid:st.h[id]? = some (some (.box cs))) (h1:oL (ev st y)=true) (h2:(fV (ev st y)).length=ti.size) (h3:off+ti.size≤cs.length) :
  ∃ w',(Instr.storeAt t (a.eval x) (a.eval y)).run P w = .ok () w'∧Rel M0 w0 N p ⟨st.s,st.h.set id (some (.box (lZ cs off (fV (ev st y)))))⟩ a w':=by
 have iN:=R.eval x;rw [hx] at iN;obtain ⟨hq,_⟩:=iN.ref_inv;have aF:=(R.eval y).cells h1;obtain ⟨dr,cur,e,hg,ca,cg,hv⟩:=R.objs id _ hid;have gz:(a.eval y).cells.size=ti.size:=by rw [←Array.length_toList,aF.1,h2]
 refine ⟨_,by rw [hq];exact B5 aV gz hg (by omega) (GA aF),?_⟩;have dN:off+(a.eval y).cells.toList.length≤cur.toList.length:=by simp;omega
 have kc:off+(fV (ev st y)).length≤cs.length:=by omega
 have hlen:(a.eval y).cells.toList.length=(fV (ev st y)).length:=aF.1;have ak:=(Array.getElem?_eq_some_iff.1 hg).1;refine R.write hid rfl rfl (fun _ _ _ _ _ h=>by cases h) (fun _ _ _ _ _ h=>by cases h) (v_ w _ _).symm rfl rfl rfl (fun b hb=>vZ w _ _ b hb) rfl (fun e sz nl es v he=>by cases he) fun hV _=>?_;refine ⟨dr,_,e,setRow_heap w (p id) cur _ e _ hg,?_,Gy cg aF.2.1,fun j c hj=>?_⟩
 ·rw [Gz kc];simp;omega
 ·rw [Gw kc] at hj;have bf:=Gx dN j;rw [hlen] at bf;split at hj
  ·rename_i ak;rw [if_pos ak] at bf;obtain ⟨u,hu,kO⟩:=hv j c hj;exact ⟨u,by rw [List.getElem?_toArray,hlen,bf];simpa using hu,hV kO⟩
  ·rename_i ak;rw [if_neg ak] at bf;split at hj
   ·rename_i kg;rw [if_pos kg] at bf;have bM:j - off < (a.eval y).cells.toList.length:=by rw [hlen];exact (List.getElem?_eq_some_iff.1 hj).1
    exact ⟨_,by rw [List.getElem?_toArray,hlen,bf];exact List.getElem?_eq_getElem bM,hV (aF.2.2 _ c _ hj (List.getElem?_eq_getElem bM))⟩
   ·rename_i kg;rw [if_neg kg] at bf;obtain ⟨u,hu,kO⟩:=hv j c hj;exact ⟨u,by rw [List.getElem?_toArray,hlen,bf];simpa using hu,hV kO⟩
theorem Nj {t:TypeId} {x y:Operand} {ti:TI} {id sz i off e:Nat} {nl:Bool} {es:List (List AV)} (R:Rel M0 w0 N p st a w) (aV:aU P t=some ti) (hx:ev st x = .aref id sz i off) (hid:st.h[id]? = some (some (.arr e sz nl es))) (hi:i < es.length) (h1:oL (ev st y)=true)
  (hp:(fV (ev st y)).all (fe 5)=true) (h2:(fV (ev st y)).length=ti.size) (h3:off+ti.size≤sz) :
  ∃ w',(Instr.storeAt t (a.eval x) (a.eval y)).run P w = .ok () w'∧Rel M0 w0 N p ⟨st.s,st.h.set id (some (.arr e sz nl (es.set i (lZ (es.getD i []) off (fV (ev st y))))))⟩ a w':=by
 have iN:=R.eval x;rw [hx] at iN;obtain ⟨hq,_⟩:=iN.aref_inv;have aF:=(R.eval y).cells h1;obtain ⟨aJ,cJ,hr⟩:=R.objs id _ hid;have aK:nl=false:=by cases nl;rfl;simp only [if_true] at hr;subst hr;simp at hi
 subst aK;simp only [Bool.false_eq_true,if_false] at hr;obtain ⟨dr,cur,hg,ca,hv⟩:=hr;have gz:(a.eval y).cells.size=ti.size:=by rw [←Array.length_toList,aF.1,h2]
 have hlen:(a.eval y).cells.toList.length=(fV (ev st y)).length:=aF.1;have B6:es[i]? = some (es.getD i []):=by simp [List.getD,hi]
 obtain ⟨lO,wc⟩:=cJ i _ B6;have aP:(i+1)*sz≤es.length*sz:=Nat.mul_le_mul_right _ hi;rw [Nat.add_mul] at aP;refine ⟨_,by rw [hq];exact B5 aV gz hg (by omega) (GA aF),?_⟩;have dN:i*sz+off+(a.eval y).cells.toList.length≤cur.toList.length:=by simp;omega
 have kc:off+(fV (ev st y)).length≤(es.getD i []).length:=by omega
 have nH:∀ (j:Nat) (c:AV) (u:Value),(fV (ev st y))[j]? = some c→(a.eval y).cells.toList[j]? = some u→V0 w (Mof M0 st.h p) c u:=fun j c u hc hu=>(aF.2.2 j c u hc hu).pure 5 (List.all_eq_true.1 hp c (List.mem_of_getElem? hc));refine R.write hid rfl rfl (fun _ _ _ _ _ h=>by cases h) (fun _ _ _ _ _ h=>by cases h) (v_ w _ _).symm rfl rfl rfl (fun b hb=>vZ w _ _ b hb) rfl (fun e' bE kC es' v he ho=>?_) fun _ dj=>⟨aJ,fun k z hk=>?_,?_⟩
 ·injection he with q1 q2 q3 q4
  subst q1 q2 q3 q4;have:=ho _ _ _ _ rfl;unfold Osl at this ⊢;simp only [Bool.false_eq_true,if_false,List.length_set] at this ⊢;obtain ⟨cap,cur',b1,b2,b3,b4⟩:=this;obtain rfl:cur'=cur:=by rw [hg] at b2;injection b2 with b2;injection b2 with b2;exact b2.symm
  refine ⟨cap,_,b1,setRow_heap w (p id) cur' _ e _ hg,?_,b4⟩;rw [←b3];simp;simp at dN;omega
 ·rw [List.getElem?_set] at hk;split at hk
  ·first|rw [if_pos hi] at hk|skip
   simp only [Option.some.injEq] at hk;subst hk;exact ⟨by rw [Gz kc,lO],Gy wc aF.2.1⟩
  ·exact cJ k z hk
 ·simp only [Bool.false_eq_true,if_false];refine ⟨dr,_,setRow_heap w (p id) cur _ e _ hg,?_,fun k z j c hk hj=>?_⟩
  ·simp;simp at dN;omega
  ·have bf:=Gx dN (k*sz+j);rw [hlen] at bf;rw [List.getElem?_set] at hk;split at hk
   ·rename_i jy;subst jy;first|rw [if_pos hi] at hk|skip
    simp only [Option.some.injEq] at hk;subst hk;rw [Gw kc] at hj;split at hj
    ·rename_i ak;rw [if_pos (by omega)] at bf;obtain ⟨u,hu,kO⟩:=hv i _ j c B6 hj;exact ⟨u,by rw [List.getElem?_toArray,hlen,bf];simpa using hu,dj kO⟩
    ·rename_i ak;rw [if_neg (by omega)] at bf;split at hj
     ·rename_i kg;rw [if_pos (by omega)] at bf;have bM:j - off < (a.eval y).cells.toList.length:=by rw [hlen];exact (List.getElem?_eq_some_iff.1 hj).1
      refine ⟨(a.eval y).cells.toList[j - off],?_,dj (nH _ c _ hj (List.getElem?_eq_getElem bM))⟩;rw [List.getElem?_toArray,hlen,bf,show i*sz+j - (i*sz+off)=j - off by omega];exact List.getElem?_eq_getElem bM
     ·rename_i kg;rw [if_neg (by omega)] at bf;obtain ⟨u,hu,kO⟩:=hv i _ j c B6 hj;exact ⟨u,by rw [List.getElem?_toArray,hlen,bf];simpa using hu,dj kO⟩
   ·rename_i jy;obtain ⟨u,hu,kO⟩:=hv k z j c hk hj;have vf:=(cJ k z hk).1;have bM:=(List.getElem?_eq_some_iff.1 hj).1;have B7:k*sz+j < i*sz+off∨i*sz+off+(fV (ev st y)).length≤k*sz+j:=by
     rcases Nat.lt_or_ge k i with ak|Nk
     ·left;have:(k+1)*sz≤i*sz:=Nat.mul_le_mul_right _ ak;rw [Nat.add_mul] at this;omega
     ·right;have:(i+1)*sz≤k*sz:=Nat.mul_le_mul_right _ (by omega);rw [Nat.add_mul] at this;omega
    refine ⟨u,?_,dj kO⟩;rw [List.getElem?_toArray,hlen,bf];rcases B7 with h|h
    ·rw [if_pos h];simpa using hu
    ·rw [if_neg (by omega),if_neg (by omega)];simpa using hu
end
section
variable {P:Program} {M0:Nat→Nat→Prop} {w0:Bas} {N:Nm} {p:Pl} {st:VS} {a:Act} {w:World}
theorem tU {d:Option Tmp} {av:AV} {ob:Ob} {aI:VS} (h:pL st d av ob=some aI) : ∃ t,d=some t∧aI=⟨(t,av)::st.s,st.h++[some ob]⟩:=by
 unfold pL at h;cases d with
 | none=>cases h
 | some t=>exact ⟨t,rfl,(Option.some.inj h).symm⟩
theorem En {t:TypeId} {ti te:TI} {n:Nat} (aV:aU P t=some ti) (fJ:aU P ti.elem=some te) (hk:ti.kind=1) (h1:te.size=ti.esz) (h2:te.zero.length=ti.esz) (h3:ti.esz≠0) (hn:n≤1000000000) (gR:te.bytes≤100000) :
  (Instr.makeSlice t (.int .i64 n) (.int .i64 n)).run P w = .ok (.slice (some ⟨w.heap.size,0,none⟩) n n) { w with heap:=w.heap.push (.cells (fB te.zero n).toArray ti.elem) }:=by
 obtain ⟨z,hz,iO,kD⟩:=pq fJ;have hu:=lA aV hk;have fo:ti.esz=dJ P ti.elem:=by obtain ⟨d,i,z,hd,hi,hz,fK,rfl⟩:=ff aV;rfl
 have cj:0 < dJ P ti.elem:=by omega
 have we:∃ i:TypeInfo,(typeInfo ti.elem).run P w = .ok i w∧i.bytes=te.bytes:=by
  obtain ⟨d,i,z,hd,hi,hz,fK,rfl⟩:=ff fJ;exact ⟨i,by simp [typeInfo,hi],rfl⟩
 obtain ⟨inf,gD,hb⟩:=we;have hw:IntKind.i64.wrap (n:Int)=n:=IntWalk.i64_in _ (by omega);have hmul:inf.bytes*n≤100000*1000000000:=Nat.mul_le_mul (by omega) hn;have GC:(inf.bytes:Int)*(n:Int)≤100000000000000:=by
  have:((inf.bytes*n:Nat) : Int)≤((100000*1000000000:Nat) : Int):=Int.ofNat_le.2 hmul;simpa using this
 have bT:¬((n:Int) < 0):=by omega
 have pI:¬((inf.bytes:Int)*(n:Int) > 2 ^ 48):=by omega
 have gp:z.cells.size=dJ P ti.elem:=by rw [←Array.length_toList,hz,h2,fo]
 have aP:=F3 z.cells n (by omega);rw [hz] at aP;have sg:(Array.range (n*z.cells.size)).map (z.cells[· % z.cells.size]!)=(fB te.zero n).toArray:=by rw [←aP]
 have B8:decide ((inf.bytes:Int)*(n:Int) > 2 ^ 48)=false:=by simp;omega
 have gw:¬((n:Int) > (n:Int)):=by omega
 simp only [Instr.makeSlice,Sem.run_bind,run_underlying hu,Result.andThen_ok,asInt,asIntOf,Sem.run_pure,gD,hw,B8,Sem.run_ite,bT,gw,decide_false,Bool.or_false,Bool.false_or,Bool.false_eq_true,if_false,run_askRoom,Int.toNat_natCast,kB cj];by_cases h0:n*dJ P ti.elem=0
 ·have vL:n=0:=by
   rcases Nat.mul_eq_zero.1 h0 with h|h
   ·exact h
   ·omega
  subst vL;have e0:∀ f:Nat→Value,(Array.range 0).map f=#[]:=fun f=>by simp
  simp [newRow,fB,e0]
 ·simp only [Sem.run_bind,kD,Result.andThen_ok,Sem.run_pure,←gp,sg,newRow,run_newObj];rw [if_neg (by rw [gp];exact h0)]
theorem Ec {z:List Value} {n:Nat} : ∀ (k j:Nat) (c:AV) (u:Value),k < n→(z.map AV.lit)[j]? = some c→(fB z n)[k*z.length+j]? = some u→c = .lit u:=by
 intro k j c u hk hj hu;have bM:j < z.length:=by simpa using (List.getElem?_eq_some_iff.1 hj).1
 have ak:k*z.length+j < n*z.length:=by
  have:(k+1)*z.length≤n*z.length:=Nat.mul_le_mul_right _ hk;rw [Nat.add_mul] at this;omega
 rw [BK z n _ ak,Nat.mul_comm,Nat.mul_add_mod,Nat.mod_eq_of_lt bM] at hu;rw [List.getElem?_map,hu] at hj;simpa using hj.symm
theorem Nl (a:Addr) : loadCells a 0=pure #[]:=rfl
theorem GD {P:Program} {w:World} {t ty e:TypeId} {i:TypeInfo} (ht:P.underlying t=some (.slice e)) (hi:P.info? e=some i) (a0:Addr) (B:Option Addr) (m c:Nat) (hm:0 < m) (hb:m*i.bytes≤281474976710656) (tz:m≤1000000000) :
  (Builtin.append_ #[t,t] ty #[.slice (some a0) 0 0,.slice B m c]).run P w=(Builtin.append_ #[t,t] ty #[.slice none 0 0,.slice B m c]).run P w:=by
 have h1:¬m=0:=by omega
 have h2:Builtin.nextslicecap m 0=m:=by unfold Builtin.nextslicecap;rw [if_pos (by omega)]
 have h3:¬(281474976710656 < m*i.bytes):=by omega
 have h4:¬((9223372036854775807:Int) < m):=by omega
 simp [Builtin.append_,run_underlying ht,sizeOf,typeInfo,hi,Builtin.lenOf,Builtin.firstCells,h1,h2,h3,h4,Nl]
theorem GF {t ty e id sz d:Nat} {x y:Operand} {ti te:TI} {nl:Bool} {es' es:List (List AV)} {GG:Array TypeId} (R:Rel M0 w0 N p st a w) (hd:N.has d) (aV:aU P t=some ti) (hx:ev st x = .osl id) (hy:ev st y = .sl sz es) (hid:st.h[id]? = some (some (.arr e sz nl es'))) (fJ:aU P ti.elem=some te)
  (hk:ti.kind=1) (he:ti.elem=e) (_hez:ti.esz=sz) (h1:te.size=sz) (h2:te.zero.length=sz) (dE:nl=true→0 < es.length) (fX:es'.length+es.length≤1000000000) (gR:te.bytes≤100000) (B9:GG=#[t,t]) :
  ∃ v w' p',(Builtin.append_ GG ty #[a.eval x,a.eval y]).run P w = .ok v w'∧Rel M0 w0 N p' ⟨(d,.osl id)::st.s.map (fun q=>(q.1,purge id q.2)),fW id 0 (st.h.set id (some (.arr e sz false (es'++es))))⟩ (a.put (some d) v) w':=by
 subst B9;subst he;have iN:=R.eval x;rw [hx] at iN;have jO:=R.eval y;rw [hy] at jO;obtain ⟨A0,n0,c0,hq,eB,br⟩:=iN.osl_inv;have br:=br _ _ _ _ hid;obtain ⟨aJ,wg,hr⟩:=R.objs id _ hid;obtain ⟨dd,inf,z,ew,hi,hz,iO,gZ⟩:=ff fJ;have bK:inf.size=sz:=by rw [←h1,gZ]
 have gp:z.cells.size=sz:=by rw [←h2,gZ,Array.length_toList]
 have l9:inf.bytes≤100000:=by rw [gZ] at gR;exact gR
 have hu:=lA aV hk;have Nn:∃ vx:Value,(Builtin.append_ #[t,t] ty #[a.eval x,a.eval y]).run P w=(Builtin.append_ #[t,t] ty #[vx,a.eval y]).run P w∧(if nl=true then vx = .slice none 0 0∧es'.length=0 else ∃ cap cur,vx = .slice (some ⟨p id,0,none⟩) es'.length cap∧w.heap[p id]? = some (.cells cur ti.elem (0,0))∧cur.size=cap*sz∧es'.length≤cap∧cap≤maxLen):=by
  unfold Osl at br;cases nl
  ·simp only [Bool.false_eq_true,if_false] at br ⊢;exact ⟨_,rfl,br⟩
  ·simp only [if_true] at br ⊢;obtain ⟨⟨A,hA⟩,h0⟩:=br;refine ⟨_,?_,rfl,h0⟩;cases A with
   | none=>rw [hA]
   | some a0=>
    have pz:=dE rfl;have cQ:=jO.sl_inv;have eC:es.length*inf.bytes≤281474976710656:=by
     have:es.length*inf.bytes≤1000000000*100000:=Nat.mul_le_mul (by omega) l9;omega
    obtain ⟨B,c,hB⟩ : ∃ B c,a.eval y = .slice B es.length c:=by
     generalize a.eval y=yv at cQ;cases cQ with
     | slNil=>simp at pz
     | sl _ _ cap b o u=>exact ⟨_,_,rfl⟩
    rw [hA,hB];exact GD hu hi a0 B es.length c pz eC (by omega)
 obtain ⟨vx,bI,br⟩:=Nn;rw [bI];clear bI;have bP:∃ xs,w.ownsRow 0 ti.elem sz vx es'.length xs∧(nl=true→xs=[]∧es'=[])∧(nl=false→∃ cap cur,vx = .slice (some ⟨p id,0,none⟩) es'.length cap∧w.heap[p id]? = some (.cells cur ti.elem (0,0))∧xs=cur.toList.take (es'.length*sz)∧es'.length*sz≤cur.size):=by
  cases nl
  ·simp only [Bool.false_eq_true,if_false] at hr;simp only [Bool.false_eq_true,if_false] at br;obtain ⟨cap,cur,b1,b2,b3,b4,b5⟩:=br;obtain ⟨dr,cur',hg,hle,hv⟩:=hr;obtain rfl:cur'=cur:=by rw [hg] at b2;injection b2 with b2;injection b2
   refine ⟨cur'.toList.take (es'.length*sz),⟨by simp;omega,.inr ⟨p id,cap,cur',b1,Nat.zero_le _,hg,b4,b5,b3,rfl⟩⟩,(fun h=>by cases h),fun _=>⟨cap,cur',b1,hg,rfl,hle⟩⟩
  ·simp only [if_true] at hr;subst hr;simp only [if_true] at br;exact ⟨[],⟨by simp,.inl ⟨br.1,rfl⟩⟩,fun _=>⟨rfl,rfl⟩,fun h=>by cases h⟩
 obtain ⟨xs,bP,qM,lC⟩:=bP;obtain ⟨A1,m,c1,u,sh,hm,hS,wh,o9⟩ : ∃ (A1:Option Addr) (m c1:Nat) (u:Nat→Nat→Value),a.eval y = .slice A1 m c1∧m=es.length∧Sl (fun k=>(List.range sz).map fun j=>if k < es.length then u k j else .bool false) sz w A1 (List.range es.length) ∧
   (∀ k j,k < es.length→j < sz→(u k j).oneCell'=true)∧∀ (k:Nat) (x:List AV) (j:Nat) (c:AV),es[k]? = some x→x[j]? = some c→x.length=sz∧cP c=true∧V0 w (Mof M0 st.h p) c (u k j):=by
  have cQ:=jO.sl_inv;generalize a.eval y=yv at cQ;cases cQ with
  | slNil _ A cap=>exact ⟨A,0,cap,fun _ _=>undef,rfl,rfl,fun h=>absurd rfl h,by simp,by simp⟩
  | sl _ _ cap b o u aq hb hM dB j5 cg aF iM=>
   refine ⟨_,_,_,u,rfl,rfl,fun _=>⟨b,o,rfl,fun k q hk j v hj=>?_⟩,fun k j hk hj=>?_,fun k x j c hk hj=>⟨j5 k x hk,cg k x j c hk hj,iM k x j c hk hj⟩⟩
   ·have cB:k < es.length:=by simpa using (List.getElem?_eq_some_iff.1 hk).1
    have tA:k=q:=by simpa using (List.getElem?_eq_some_iff.1 hk).2
    subst tA;have bM:j < sz:=by simpa using (List.getElem?_eq_some_iff.1 hj).1
    have:v=u k j:=by
     have:=(List.getElem?_eq_some_iff.1 hj).2;simp [cB] at this;exact this.symm
    rw [this];exact aF k j cB bM
   ·have hx:=List.getElem?_eq_getElem hk;have bM:j < es[k].length:=by rw [j5 k _ hx];exact hj
    exact (iM k _ j _ hx (List.getElem?_eq_getElem bM)).one (cg k _ j _ hx (List.getElem?_eq_getElem bM))
 subst hm;rw [sh];have nA:=Er _ bP;obtain ⟨A,c,tV⟩:=nA;rw [tV] at bP ⊢;have eC:(es'.length+es.length)*inf.bytes≤140737488355328:=by
  have:(es'.length+es.length)*inf.bytes≤1000000000*100000:=Nat.mul_le_mul fX l9;omega
 obtain ⟨A2,c2,w',aB,wi,kh,cf⟩:=Jq (P:=P) w 0 t ty ti.elem inf z sz inf.bytes hu hi hz bK rfl gp aJ (C:=fun k=>(List.range sz).map fun j=>if k < es.length then u k j else .bool false) (fun x=>by simp) (fun x v hv=>by
  obtain ⟨j,hj,rfl⟩:=List.mem_map.1 hv;split
  ·rename_i hx;exact wh x j hx (by simpa using hj)
  ·rfl) A es'.length c xs bP A1 es.length c1 (List.range es.length) (by simp) hS (by simp only [maxLen];omega) eC (Nat.zero_le _)
 have pQ:(Value.slice A2 (es'.length+es.length) c2)≠.slice none 0 0:=by
  intro hh;injection hh with q1 q2 q3
  subst q1;rcases cf with hb|hb
  ·cases nl
   ·obtain ⟨cap,cur,b1,_⟩:=lC rfl;rw [tV] at b1;injection b1 with b1
    subst b1;simp [Value.ownBlock] at hb
   ·have:=dE rfl;omega
  ·simp [Value.ownBlock] at hb
 rcases wi.2 with ⟨h,_⟩|⟨g,nI,k9,No,Np,l_,h_,fO,cV,jd⟩
 ·exact absurd h pQ
 ·injection No with q1 q2 q3
  subst q1;subst q3;have nJ:g=w.heap.size∨(nl=false∧g=p id):=by
   rcases cf with hb|hb
   ·right;cases nl
    ·obtain ⟨cap,cur,b1,_⟩:=lC rfl;rw [tV] at b1;injection b1 with b1
     subst b1;simp [Value.ownBlock] at hb;exact ⟨rfl,hb⟩
    ·rcases bP.2 with ⟨h,_⟩|⟨g',dp,cur',h,_⟩
     ·injection h with h1
      subst h1;simp [Value.ownBlock] at hb
     ·have:=(qM rfl)
      simp only [if_true] at br;rw [tV,h] at br;have:=br.1;injection this with h1
      cases h1
   ·left;simpa [Value.ownBlock] using hb
  have aP:∀ b,b < w.heap.size→¬(nl=false∧b=p id)→w'.heap[b]? = w.heap[b]?:=by
   intro b hb hn;refine kh.block b hb fun hs=>?_;cases nl
   ·obtain ⟨cap,cur,b1,_⟩:=lC rfl;rw [tV] at b1;injection b1 with b1
    subst b1;simp [Value.ownBlock] at hs;exact hn ⟨rfl,hs⟩
   ·unfold Osl at br;simp only [if_true] at br;rw [tV] at br;have:=br.1;injection this with h1
    subst h1;simp [Value.ownBlock] at hs
  have wj:∀ j,Fr w0 g j:=fun j=>by
   rcases nJ with h|⟨h,h2⟩
   ·exact .inl (by rw [h];exact R.below.size)
   ·subst h;rw [h2];exact (R.objs id _ hid).ge rfl j
  refine ⟨_,w',cO p id g,aB,?_⟩;refine R.append hd hid wj nJ kh.os kh.tape kh.output kh.size aP (fun dj=>⟨aJ,fun k x hk=>?_,?_⟩) ?_
  ·rcases Nat.lt_or_ge k es'.length with ak|dr
   ·rw [List.getElem?_append_left ak] at hk;exact wg k x hk
   ·rw [List.getElem?_append_right dr] at hk;have wk:0 < x.length∨x=[]:=by cases x;right;rfl;left;simp
    refine ⟨?_,fun c hc=>?_⟩
    ·rcases wk with wk|wk
     ·exact (o9 _ x 0 x[0] hk (List.getElem?_eq_getElem wk)).1
     ·exfalso;have cQ:=jO.sl_inv;generalize a.eval y=yv at cQ;cases cQ with
      | slNil=>simp at hk
      | sl _ _ _ _ _ _ _ _ _ _ j5=>have:=j5 _ x hk;subst wk;simp at this;omega
    ·obtain ⟨j,hj⟩:=List.mem_iff_getElem?.1 hc;exact (o9 _ x j c hk hj).2.1
  ·simp only [Bool.false_eq_true,if_false];refine ⟨⟨fun j=>by rw [(ln p id g).1];exact wj j,(ln p id g).2⟩,k9,by rw [(ln p id g).1];exact l_,by rw [cV,List.length_append];exact Nat.mul_le_mul_right _ h_,fun k x j c hk hj=>?_⟩;have qN:∀ i v,i < (es'.length+es.length)*sz→(xs++(List.range es.length).flatMap fun k=>(List.range sz).map fun j=>if k < es.length then u k j else .bool false)[i]? = some v→k9[i]? = some v:=by
    intro i v hi hh;rw [←jd,List.getElem?_take_of_lt hi] at hh;simpa using hh
   have lO:xs.length=es'.length*sz:=bP.1;have bM:=(List.getElem?_eq_some_iff.1 hj).1;rcases Nat.lt_or_ge k es'.length with ak|dr
   ·rw [List.getElem?_append_left ak] at hk;have aK:nl=false:=by cases nl;rfl;have:=(qM rfl).2;subst this;simp at ak
    subst aK;simp only [Bool.false_eq_true,if_false] at hr;obtain ⟨_,cur',fR,pb,iM⟩:=hr;obtain ⟨cap,cur,b1,b2,b3,b4⟩:=lC rfl;obtain rfl:cur'=cur:=by rw [fR] at b2;injection b2 with b2;injection b2
    obtain ⟨v,hv,cQ⟩:=iM k x j c hk hj;have Nq:=(wg k x hk).1;have h3:(k+1)*sz≤es'.length*sz:=Nat.mul_le_mul_right _ ak;rw [Nat.add_mul] at h3;refine ⟨v,qN _ v ?_ ?_,dj cQ⟩
    ·rw [Nat.add_mul];omega
    ·rw [List.getElem?_append_left (by omega),b3,List.getElem?_take_of_lt (by omega)];simpa using hv
   ·rw [List.getElem?_append_right dr] at hk;obtain ⟨B_,_,cQ⟩:=o9 _ x j c hk hj;have cB:=(List.getElem?_eq_some_iff.1 hk).1;refine ⟨u (k - es'.length) j,qN _ _ ?_ ?_,dj cQ⟩
    ·have h3:(k - es'.length+1)*sz≤es.length*sz:=Nat.mul_le_mul_right _ cB;have h4:k*sz=es'.length*sz+(k - es'.length)*sz:=by rw [←Nat.add_mul];congr 1;omega
     rw [Nat.add_mul] at h3;rw [Nat.add_mul];omega
    ·have h4:k*sz=es'.length*sz+(k - es'.length)*sz:=by rw [←Nat.add_mul];congr 1;omega
     rw [List.getElem?_append_right (by omega),lO,show k*sz+j - es'.length*sz=(k - es'.length)*sz+j by omega];exact Nh hk hj B_
  ·unfold Osl;simp only [Bool.false_eq_true,if_false,List.length_append];exact ⟨_,k9,rfl,l_,cV,h_,fO⟩
def cR (N:Nm) (o:Oper) : Bool:=match o.dst with|some d=>Nat.ble N.k d&&Nat.blt d N.n|none=>true
theorem dZ {o:Oper} (hd:cR N o=true) : ∀ t,o.dst=some t→N.has t:=by
 intro t ht;unfold cR at hd;rw [ht] at hd;simpa [Nm.has] using hd
theorem Nr {t:TypeId} {kf:Nat×IntKind} {d:Nat} (R:Rel M0 w0 N p st a w) (hd:N.has d) : (Instr.makeMap t none).run P w = .ok (.map (some w.heap.size)) (w.alloc (.map #[] 0))∧Rel M0 w0 N (cO p st.h.length w.heap.size) ⟨(d,.mp st.h.length)::st.s,st.h++[some (.mpo kf [])]⟩ (a.put (some d) (.map (some w.heap.size))) (w.alloc (.map #[] 0)):=by
 have hb:Below w.heap.size w (w.alloc (.map #[] 0)):=(Below.refl _ w).alloc (Nat.le_refl _) _;have aF:(w.alloc (.map #[] 0)).heap[w.heap.size]? = some (.map #[] 0):=(MapKept.heap_alloc w _).1;refine ⟨rfl,R.grow hb hd (fun _=>Nat.le_refl _) (fun _ _ _ _ _ h=>by cases h) ⟨s6 R.below.size,(fun q hq=>(by cases hq)),#[],0,?_,rfl,Lf _⟩ ?_⟩
 ·rw [(ln p _ _).1];exact aF
 ·have:=V1.mp (w:=w.alloc (.map #[] 0)) (M:=Mof M0 (st.h++[some (.mpo kf [])]) (cO p st.h.length w.heap.size)) (h:=st.h++[some (Ob.mpo kf [])]) (p:=cO p st.h.length w.heap.size) st.h.length (by simp);simpa [cO] using this
theorem GH {t:TypeId} {m x y:Operand} {aI:VS} (R:Rel M0 w0 N p st a w) (ht:vO P st t m x y=some aI) : ∃ w',(Instr.mapUpdate t (a.eval m) (a.eval x) (a.eval y)).run P w = .ok () w'∧Rel M0 w0 N p aI a w':=by
 unfold vO at ht;split at ht
 ·rename_i kf z id key val tO hm hx hy;split at ht
  ·rename_i tN kvs hid;split at ht
   ·rename_i hc;obtain ⟨rfl,j6⟩:=hc;simp only [Option.some.injEq] at ht;subst ht;have em:=R.eval m;rw [hm] at em;obtain ⟨em,_⟩:=em.mp_inv;have ex:a.eval x=key:=by have:=R.eval x;rw [hx] at this;exact this.lit_inv
    have ey:a.eval y=val:=by have:=R.eval y;rw [hy] at this;exact this.lit_inv
    obtain ⟨h1,h2,es,clock,hg,h3,fa⟩:=R.objs id _ hid;obtain ⟨es',clock',aB,om,Ca⟩:=LF (P:=P) (v:=val) tO j6 hg (fun q hq=>h2 (q.key,q.val) (by rw [←h3];exact List.mem_map.2 ⟨q,hq,rfl⟩)) fa;refine ⟨_,by rw [em,ex,ey];exact aB,?_⟩;have ak:p id < w.heap.size:=(Array.getElem?_eq_some_iff.1 hg).1;refine R.write hid rfl rfl (fun _ _ _ _ _ h=>by cases h) (fun _ _ _ _ _ h=>by cases h) (by simp [ChangeMaps.setBlock]) rfl rfl rfl (fun b hb=>ChangeMaps.heap_setBlock_other hg _ hb) rfl (fun e sz nl es v h=>by cases h) fun _ _=>?_;refine ⟨h1,fun q hq=>?_,es',clock',ChangeMaps.heap_setBlock_same hg _,by rw [om,h3],Ca⟩;have nK:∀ (l:List (Value×Value)),(∀ q∈l,jG q.1=some kf)→∀ q∈fm key val l,jG q.1=some kf:=by
     intro l;induction l with
     | nil=>intro _ q hq;simp [fm] at hq;subst hq;exact j6
     | cons c l ih=>
      intro hl q hq;obtain ⟨ck,cv⟩:=c;simp only [fm] at hq;split at hq
      ·rcases List.mem_cons.1 hq with rfl|hq
       ·exact j6
       ·exact hl q (List.mem_cons_of_mem _ hq)
      ·rcases List.mem_cons.1 hq with rfl|hq
       ·exact hl _ (List.mem_cons_self ..)
       ·exact ih (fun q hq=>hl q (List.mem_cons_of_mem _ hq)) q hq
    exact nK kvs h2 q hq
   ·cases ht
  ·cases ht
 ·cases ht
theorem GI (R:Rel M0 w0 N p st a w) {ow:List Nat} {o:Oper} {aI:VS} (hd:cR N o=true) (ht:l5 P ow st o=some aI) :
  ∃ v w' p',(execOp a.eval o).run P w = .ok (.value v) w'∧Rel M0 w0 N p' aI (a.put o.dst v) w'∨(execOp a.eval o).run P w = .ok .skip w'∧v=undef∧Rel M0 w0 N p' aI (a.put o.dst undef) w':=by
 have ak:=dZ hd;obtain ⟨dst,op,ty,pos,after,guard⟩:=o;simp only at ak;unfold l5 at ht;simp only at ht;split at ht
 ·rename_i t;split at ht
  ·rename_i ti aV;obtain ⟨d,ew,rfl⟩:=tU ht;subst ew;obtain ⟨z,hz,iO,kD⟩:=pq aV;have hc:Cells w (Mof M0 st.h p) st.h p (ti.zero.map .lit) z.cells.toList:=by rw [hz];exact Cells.of_lits _ iO
   refine ⟨.pointer (some ⟨w.heap.size,0,none⟩),_,_,.inl ⟨?_,Gu R (ak d rfl) hc t⟩⟩;simp [execOp,Instr.alloc,kD,newVar,newRow]
  ·cases ht
 ·rename_i t x;split at ht
  ·rename_i hc;simp only [Bool.and_eq_true] at hc;obtain ⟨d,ew,rfl⟩:=tU ht;subst ew;refine ⟨.pointer (some ⟨w.heap.size,0,none⟩),_,_,.inl ⟨?_,Gu R (ak d rfl) ((R.eval x).cells hc.2) t⟩⟩;simp [execOp,Instr.box,newVar,newRow]
  ·cases ht
 ·rename_i t n parts;split at ht
  ·split at ht
   ·rename_i cs ti aP;split at ht
    ·rename_i hp;obtain ⟨d,ew,rfl⟩:=tU ht;subst ew;obtain ⟨us,aB,hc,hlen,aV,hk,cj⟩:=yL (P:=P) (w:=w) (M:=Mof M0 st.h p) (h:=st.h) (p:=p) (vals:=parts.map fun (i,x)=>(i,a.eval x)) (by simp) (fun i b v hb hv=>by
      obtain ⟨x,hx,rfl⟩:=eo hb;simp only [Array.toList_map] at hv;obtain ⟨y,hy,rfl⟩:=eo hv;rw [hx] at hy;obtain rfl:=Option.some.inj hy;exact R.eval x.2) aP
     have oA:=xo ti.esz n cs;have bf:=fun k e=>xp ti.esz n cs k e (by omega);have pI:n≤maxLen:=by
      unfold rW at aP;rw [aV] at aP;simp only at aP;split at aP
      ·cases aP
      ·split at aP
       ·rename_i eH;have:=eH.2.2.2.2;have h2:n*1≤n*ti.esz:=Nat.mul_le_mul_left _ cj;simp only [maxLen];omega
       ·cases aP
     have hrel:=Gv (es:=ju ti.esz n cs) (e:=ti.elem) (sz:=ti.esz) R (ak d rfl) cj (us:=us) (by rw [hc.1,hlen,oA]) (by rw [oA];exact pI) (fun k x hk=>⟨(bf k x hk).1,fun c eT=>by
      obtain ⟨j,hj⟩:=List.mem_iff_getElem?.1 eT;exact hc.2.1 c (List.mem_of_getElem? ((bf k x hk).2 j c hj))⟩) (fun k x j c u hk hj hu=>by
      have h1:=(bf k x hk).2 j c hj;exact (hc.2.2 _ c u h1 hu).pure 5 (List.all_eq_true.1 hp c (List.mem_of_getElem? h1)))
     rw [oA] at hrel;refine ⟨_,_,_,.inl ⟨?_,hrel⟩⟩;simp only [execOp,Sem.run_bind,aB];rfl
    ·cases ht
   ·cases ht
  ·cases ht
 ·split at ht
  ·split at ht
   ·rename_i ti aV;split at ht
    ·rename_i hc;obtain ⟨d,ew,rfl⟩:=tU ht;subst ew;exact ⟨.slice none 0 0,w,_,.inl ⟨rfl,Ni R (ak d rfl) (Nat.pos_of_ne_zero hc.2)⟩⟩
    ·cases ht
   ·cases ht
  ·cases ht
 ·rename_i t l c;split at ht
  ·rename_i ti n m aV hl cz;split at ht
   ·rename_i te fJ;split at ht
    ·rename_i hc;obtain ⟨hk,h1,h2,h3,cU,h0,hn,gR⟩:=hc;subst cU;obtain ⟨d,ew,rfl⟩:=tU ht;subst ew;have e1:a.eval l = .int .i64 n:=by have:=R.eval l;rw [hl] at this;exact this.lit_inv
     have e2:a.eval c = .int .i64 n:=by have:=R.eval c;rw [cz] at this;exact this.lit_inv
     obtain ⟨k,rfl⟩:=Int.eq_ofNat_of_zero_le h0;have aB:=En (P:=P) (w:=w) aV fJ hk h1 h2 h3 (n:=k) (by omega) gR;obtain ⟨z,hz,iO,kD⟩:=pq fJ;have hrel:=Gv (es:=List.replicate k (te.zero.map .lit)) (e:=ti.elem) (sz:=ti.esz) (us:=fB te.zero k) R (ak d rfl) (Nat.pos_of_ne_zero h3) (by rw [s5,h2,List.length_replicate]) (by rw [List.length_replicate];simp only [maxLen];omega) (fun i x hx=>by
      obtain ⟨_,rfl⟩:=List.mem_replicate.1 (List.mem_of_getElem? hx);refine ⟨by simp [h2],fun c hc=>?_⟩;obtain ⟨z',uQ,rfl⟩:=List.mem_map.1 hc;exact List.all_eq_true.1 iO z' uQ) (fun i x j c u hx hj hu=>by
      obtain ⟨_,rfl⟩:=List.mem_replicate.1 (List.mem_of_getElem? hx);have rn:i < k:=by simpa using (List.getElem?_eq_some_iff.1 hx).1
      rw [←h2] at hu;rw [Ec i j c u rn hj hu];exact .lit u)
     rw [List.length_replicate] at hrel;refine ⟨_,_,_,.inl ⟨?_,by simpa using hrel⟩⟩;simp only [execOp,e1,e2,Sem.run_bind];rw [show ((k:Int))=((k:Nat) : Int) from rfl,aB];rfl
    ·cases ht
   ·cases ht
  ·cases ht
 ·rename_i t x y;split at ht
  ·rename_i ti id off aV hx;split at ht
   ·rename_i cs hid;split at ht
    ·rename_i hc;simp only [Option.some.injEq] at ht;subst ht;obtain ⟨w',aB,hrel⟩:=GB (P:=P) (y:=y) R aV hx hid hc.1 hc.2.1 hc.2.2;exact ⟨undef,w',p,.inr ⟨by simp only [execOp,Sem.run_bind,aB];rfl,rfl,hrel⟩⟩
    ·cases ht
   ·cases ht
  ·rename_i ti id sz i off aV hx;split at ht
   ·rename_i e bE nl es hid;split at ht
    ·rename_i hc;obtain ⟨rfl,hi,h1,h2,h3,h4⟩:=hc;simp only [Option.some.injEq] at ht;subst ht;obtain ⟨w',aB,hrel⟩:=Nj (P:=P) (y:=y) R aV hx hid hi h1 h2 h3 h4;exact ⟨undef,w',p,.inr ⟨by simp only [execOp,Sem.run_bind,aB];rfl,rfl,hrel⟩⟩
    ·cases ht
   ·cases ht
  ·cases ht
 ·rename_i xs ts;split at ht
  ·rename_i x y t t' d d_ qy;split at ht
   ·rename_i ti id sz es aV hx hy;split at ht
    ·rename_i e bE nl es' hid;split at ht
     ·rename_i te fJ;split at ht
      ·rename_i hc;obtain ⟨rfl,hk,he,rfl,s0,h1,h2,dE,fX,gR⟩:=hc;simp only [Option.some.injEq] at ht;subst ht;have e1:xs=#[x,y]:=by apply Array.ext';rw [d_]
       have e2:ts=#[t,t]:=by apply Array.ext';rw [qy]
       subst e1;obtain ⟨v,w',p',aB,hrel⟩:=GF (P:=P) (ty:=ty) R (ak d rfl) aV hx hy hid fJ hk he s0 h1 h2 dE fX gR e2;refine ⟨v,w',p',.inl ⟨?_,hrel⟩⟩;simp only [execOp,resolve,invoke,builtin,Sem.run_bind,Sem.run_pure,Result.andThen_ok,List.map_toArray,List.map_cons,List.map_nil,aB]
      ·cases ht
     ·cases ht
    ·cases ht
   ·cases ht
  ·cases ht
 ·rename_i t;split at ht
  ·rename_i kf z tO;obtain ⟨d,ew,rfl⟩:=tU ht;subst ew;obtain ⟨aB,hrel⟩:=Nr (P:=P) (t:=t) (kf:=kf) R (ak d rfl);exact ⟨_,_,_,.inl ⟨by simp only [execOp,Sem.run_bind,Option.map_none,aB];rfl,hrel⟩⟩
  ·cases ht
 ·rename_i t m x y;split at ht
  ·obtain ⟨w',aB,hrel⟩:=GH (P:=P) R ht;exact ⟨undef,w',p,.inr ⟨by simp only [execOp,Sem.run_bind,aB];rfl,rfl,hrel⟩⟩
  ·cases ht
 ·rename_i t m x y;split at ht
  ·obtain ⟨w',aB,hrel⟩:=GH (P:=P) R ht;exact ⟨undef,w',p,.inr ⟨by simp only [execOp,Sem.run_bind,aB];rfl,rfl,hrel⟩⟩
  ·cases ht
 ·cases ht
end
def dD (id:Nat) : Nat→AV→Bool
 | 0,_=>false
 | n+1,.agg cs=>cs.all (dD id n)
 | n+1,.tup cs=>cs.all (dD id n)
 | n+1,.fn _ x y=>x.all (dD id n)&&y.all (dD id n)
 | n+1,.iface _ v=>dD id n v
 | _+1,.slw i _ _ _=>i != id
 | _+1,_=>true
def unW (id:Nat) : AV→AV
 | .slw i k sz es=>if i=id then .sl sz es else .slw i k sz es
 | v=>if dD id 5 v=true then v else .any
def rq (id:Nat) : Option Ob→Bool
 | some (.box cs)=>cs.all (dD id 5)
 | _=>true
theorem nc (id:Nat) : ∀ (s:List (Nat×AV)) (i:Nat),lkp (s.map fun q=>(q.1,unW id q.2)) i=unW id (lkp s i)
 | [],_=>by simp [lkp,unW,dD]
 | (d,v)::r,i=>by
  simp only [List.map_cons,lkp];split
  ·rfl
  ·exact nc id r i
theorem Dist.symm {v v':Value} (h:Dist v v') : Dist v' v:=fun b o n c b' o' n' c' e e' l l' he=>h b' o' n' c' b o n c e' e l' l he.symm
theorem Spare.mono {w w':World} {p p':Pl} {id sz:Nat} {v:Value} (hp:p' id=p id) (hS:∀ b j,p.S id b j→p'.S id b j) (hb:∀ b j,p.S id b j→b < w.heap.size→w'.heap[b]? = w.heap[b]?) (h:Spare w p id sz v) : Spare w' p' id sz v:=by
 obtain ⟨A,n,cap,hv,hle,h⟩:=h;refine ⟨A,n,cap,hv,hle,fun ak=>?_⟩;obtain ⟨b,o,cur,t,h1,h2,h3,h4,h5,h6,h7⟩:=h ak;exact ⟨b,o,cur,t,h1,(hb b _ (h7 _ (Nat.le_refl _)) (Array.getElem?_eq_some_iff.1 h2).1).trans h2,h3,h4,h5,by rw [hp];exact h6,fun j hj=>hS b j (h7 j hj)⟩
section
variable {P:Program} {M0:Nat→Nat→Prop} {w0:Bas} {N:Nm} {p:Pl} {st:VS} {a:Act} {w:World}
theorem V1.bag {w w':World} {M M':Nat→Nat→Prop} {h h':Hp} {p p':Pl} {id:Nat} (hk:Keeps M w w') (hM:∀ b j,b < w.heap.size→¬M b j→¬M' b j) (hl:h.length≤h'.length) (hp:∀ i,p' i=p i)
  (hO:∀ i e sz nl es v,h'[i]? = some (some (.arr e sz nl es))→(∀ e sz nl es,h[i]? = some (some (.arr e sz nl es))→Osl w (p i) e sz nl es.length v)→Osl w' (p i) e sz nl es.length v)
  (hG:∀ i e sz nl aj qs v,h'[i]? = some (some (.bag e sz nl aj qs))→(∀ e sz nl aj qs,h[i]? = some (some (.bag e sz nl aj qs))→Osl w (p i) e 1 nl qs.length v)→Osl w' (p i) e 1 nl qs.length v)
  (hW:∀ i k sz v,i≠id→i < h.length→Sp w h p i k sz v→Sp w' h' p' i k sz v) :
  ∀ (n:Nat) (av:AV) (v:Value),V1 w M h p av v→dD id n av=true→V1 w' M' h' p' av v
 | 0,_,_,_,hb=>by simp [dD] at hb
 | n+1,av,v,hv,hb=>by
  have ih:=V1.bag (w:=w) (p:=p) (h:=h) hk hM hl hp hO hG hW n;cases hv with
  | base _ _ h0=>exact .base _ _ (h0.keep hk hM)
  | agg cs us hl h1 hv=>
   simp only [dD] at hb;exact .agg cs us hl h1 fun i c u hc hu=>ih c u (hv i c u hc hu) (List.all_eq_true.1 hb c (List.mem_of_getElem? hc))
  | tup cs us hl hv=>
   simp only [dD] at hb;exact .tup cs us hl fun i c u hc hu=>ih c u (hv i c u hc hu) (List.all_eq_true.1 hb c (List.mem_of_getElem? hc))
  | fn f x y us vs hl bn hv bF=>
   simp only [dD,Bool.and_eq_true] at hb;exact .fn f x y us vs hl bn (fun i c u hc hu=>ih c u (hv i c u hc hu) (List.all_eq_true.1 hb.1 c (List.mem_of_getElem? hc))) (fun i c u hc hu=>ih c u (bF i c u hc hu) (List.all_eq_true.1 hb.2 c (List.mem_of_getElem? hc)))
  | iface t x u hv=>exact .iface t x u (ih x u hv (by simpa [dD] using hb))
  | ref i off hid=>rw [←hp i];exact .ref i off (Nat.lt_of_lt_of_le hid hl)
  | aref i sz k off hid=>rw [←hp i];exact .aref i sz k off (Nat.lt_of_lt_of_le hid hl)
  | osl i A m c hid hv lL=>exact .osl i A m c (Nat.lt_of_lt_of_le hid hl) (fun e sz nl es he=>by rw [hp i];exact hO i e sz nl es _ he hv) fun e sz nl aj qs he=>by rw [hp i];exact hG i e sz nl aj qs _ he lL
  | slw i k sz es _ hid h0 hs=>
   have hn:i≠id:=by simpa [dD] using hb
   exact .slw i k sz es v (Nat.lt_of_lt_of_le hid hl) (h0.keep hk hM) (hW i k sz v hn hid hs)
  | mp i hid=>rw [←hp i];exact .mp i (Nat.lt_of_lt_of_le hid hl)
theorem Rel.bagSet {w':World} {h2:Hp} {p':Pl} {id k e sz:Nat} {aj:Option Nat} {qs:List (List (List AV))} {es:List (List AV)} {v:Value} {cur:Array Value} (R:Rel M0 w0 N p st a w)
  (hi:st.h[id]? = some (some (.bag e sz false aj qs))) (hk:k < qs.length) (gv:aj=none∨aj=some k) (bL:w.heap[p id]? = some (.cells cur e (0,0)))
  (jb:∀ (i:Nat) (cs:List AV),st.h[i]? = some (some (.box cs))→∀ c∈cs,dD id 5 c=true)
  (aJ:w.heap.size=w'.heap.size) (kZ:w'.os=w.os) (k6:w'.tape=w.tape) (k7:w'.output=w.output) (cf:∀ b,b≠p id→w'.heap[b]? = w.heap[b]?) (aP:w'.heap[p id]? = some (.cells (cur.setIfInBounds k v) e (0,0)))
  (fu:h2.length=st.h.length) (eN:h2[id]? = some (some (.bag e sz false none (qs.set k es)))) (dz:∀ (i:Nat) (ob:Ob),i≠id→h2[i]? = some (some ob)→st.h[i]? = some (some ob))
  (eJ:∀ i,p' i=p i) (gg:∀ i,i≠id→p'.S i=p.S i) (Ns:∀ b j,p.S id b j→p'.S id b j)
  (Cb:∀ b j,p'.S id b j→Fr w0 b j∧b < w.heap.size) (y4:∀ j,¬p'.S id (p id) j) (wm:∀ (i:Nat) (ob:Ob),i≠id→h2[i]? = some (some ob)→b_ ob=true→∀ b j j',p.O i b j→¬p'.S id b j') (Cc:∀ b j,p'.S id b j→Mof M0 st.h p b j)
  (cQ:V0 w (Mof M0 h2 p') (.sl sz es) v) (fH:Spare w p' id sz v) (qO:∀ (k':Nat) (v':Value),k' < qs.length→k'≠k→cur[k']? = some v'→Dist v v') :
  Rel M0 w0 N p' ⟨st.s.map (fun q=>(q.1,unW id q.2)),h2⟩ a w':=by
 have dS:=(R.objs id _ hi)
 obtain ⟨iD,dS⟩:=dS;rw [if_neg (by simp)] at dS;obtain ⟨b1,b2,cur0,b3,b4,b5,b6⟩:=dS;have:cur0=cur:=by rw [bL] at b3;injection b3 with b3;injection b3 with b3;exact b3.symm
 subst this;have jk:∀ {i b j},i≠id→(p'.O i b j↔p.O i b j):=fun {i b j} hn=>by unfold Pl.O;rw [eJ,gg i hn]
 have bQ:b_ (Ob.bag e sz false aj qs)=true:=rfl;have hM:∀ b j,¬Mof M0 st.h p b j→¬Mof M0 h2 p' b j:=fun b j hn hm=>by
  rcases hm with hm|⟨i,o,aG,bx,hO⟩
  ·exact hn (.inl hm)
  ·by_cases he:i=id
   ·subst he;rcases hO with hO|hO
    ·exact hn (.inr ⟨i,_,hi,bQ,.inl (by rw [←eJ];exact hO)⟩)
    ·exact hn (Cc b j hO)
   ·exact hn (.inr ⟨i,o,dz i o he aG,bx,(jk he).1 hO⟩)
 have wo:Keeps (Mof M0 st.h p) w w':=.of_blocks (by omega) fun b _ hb=>cf b fun he=>hb fun j=>.inr ⟨id,_,hi,bQ,.inl he.symm⟩;have Cd:Keeps (Mof M0 h2 p') w w':=.of_blocks (by omega) fun b _ hb=>cf b fun he=>hb fun j=>.inr ⟨id,_,eN,rfl,.inl (by rw [eJ,he])⟩;have aq:∀ i o,i≠id→st.h[i]? = some (some o)→b_ o=true→∀ b j,p.O i b j→w'.heap[b]? = w.heap[b]?:=fun i o hn aG bx b j hO=>cf b fun he=>hn (R.inj i id o _ aG hi bx bQ b j 0 hO (.inl he.symm));have dj:∀ {x:AV} {u:Value},V0 w (Mof M0 st.h p) x u→V0 w' (Mof M0 h2 p') x u:=fun hx=>hx.keep wo fun b j _=>hM b j;have hV:∀ {x:AV} {u:Value},V1 w (Mof M0 st.h p) st.h p x u→dD id 5 x=true→V1 w' (Mof M0 h2 p') h2 p' x u:=fun {x u} hx hn=>
  V1.bag wo (fun b j _=>hM b j) (by omega) eJ (fun i e' bE nl es' v' he hv=>by
   by_cases hid:i=id
   ·subst hid;rw [eN] at he;cases he
   ·have aG:=dz i _ hid he;exact (hv _ _ _ _ aG).keep fun aK _=>aq i _ hid aG (by rw [aK];rfl) _ 0 (.inl rfl)) (fun i e' bE nl nf pk v' he hv=>by
   by_cases hid:i=id
   ·subst hid;rw [eN] at he;simp only [Option.some.injEq,Ob.bag.injEq] at he;obtain ⟨rfl,rfl,rfl,rfl,rfl⟩:=he;have h1:=hv _ _ _ _ _ hi;unfold Osl at h1 ⊢;rw [if_neg (by simp)] at h1 ⊢;obtain ⟨cap,c1,e1,e2,e3,e4,e5⟩:=h1;have:c1=cur0:=by rw [bL] at e2;injection e2 with e2;injection e2 with e2;exact e2.symm
    subst this;exact ⟨cap,_,by rw [List.length_set];exact e1,aP,by rw [Array.size_setIfInBounds];exact e3,by rw [List.length_set];exact e4,e5⟩
   ·have aG:=dz i _ hid he;exact (hv _ _ _ _ _ aG).keep fun aK _=>aq i _ hid aG (by rw [aK];rfl) _ 0 (.inl rfl)) (fun i k' bE v' hn _ hs=>hs.keep (fun e' ru xn pk he=>by
   have aG:=dz i _ hn he;exact ⟨aG,eJ i,gg i hn,fun b j hO _=>aq i _ hn aG rfl b j hO⟩) (by omega)) 5 x u hx hn
 have hU:∀ {x:AV} {u:Value},V1 w (Mof M0 st.h p) st.h p x u→V1 w' (Mof M0 h2 p') h2 p' (unW id x) u:=fun {x u} hx=>by
  by_cases hs:∃ i k sz es,x = .slw i k sz es
  ·obtain ⟨i,k',bE,es',rfl⟩:=hs;by_cases hn:i=id
   ·rw [show unW id (.slw i k' bE es') = .sl bE es' from if_pos hn];exact .base _ _ (dj hx.slw_inv.2.1)
   ·rw [show unW id (.slw i k' bE es') = .slw i k' bE es' from if_neg hn];exact hV hx (by simpa [dD] using hn)
  ·have e:unW id x=if dD id 5 x=true then x else .any:=by cases x<;>first|rfl|exact absurd ⟨_,_,_,_,rfl⟩ hs
   rw [e];split
   ·rename_i hn;exact hV hx hn
   ·exact .base _ _ (.any _)
 have dr:=fun j=>(b1 (p id) j (.inl rfl)).1;refine ⟨R.defers,R.size,R.below.blocks kZ k6 k7 (by omega) fun b _ hF=>cf b fun he=>hF fun j=>by rw [he];exact dr j,R.m0,R.x0,fun i=>?_,fun i o aG=>?_,fun i i' o o' aG bp bx ee x j j' hO cw=>?_⟩
 ·show V1 w' (Mof M0 h2 p') h2 p' (lkp (st.s.map fun q=>(q.1,unW id q.2)) i) _;rw [nc];exact hU (R.slots i)
 ·by_cases hid:i=id
  ·subst hid;rw [eN] at aG;simp only [Option.some.injEq] at aG;subst aG;refine ⟨iD,?_⟩;rw [if_neg (by simp)];have eP:k < cur0.size:=by omega
   refine ⟨fun b j hO=>?_,fun j=>by rw [eJ];exact y4 j,cur0.setIfInBounds k v,by rw [eJ];exact aP,by simp;omega,fun k0 x hx=>?_,fun k1 k2 v1 v2 h1 h2 nL _ _ e1 e2=>?_⟩
   ·rcases hO with hO|hO
    ·have:=b1 b j (.inl (by rw [←eJ];exact hO));exact ⟨this.1,by omega⟩
    ·have:=Cb b j hO;exact ⟨this.1,by omega⟩
   ·rw [List.getElem?_set] at hx;by_cases pZ:k=k0
    ·subst pZ;rw [if_pos rfl,if_pos hk] at hx;obtain rfl:=Option.some.inj hx;refine ⟨v,by simp [eP],cQ.keep Cd fun b j _ h=>h,fun _=>fH.keep rfl rfl fun b j hS _=>cf b fun he=>y4 j (by rw [←he];exact hS)⟩
    ·rw [if_neg pZ] at hx;obtain ⟨v1,g1,g2,g3⟩:=b5 k0 x hx;refine ⟨v1,by rw [Array.getElem?_setIfInBounds_ne pZ];exact g1,dj g2,fun _=>(g3 (by rcases gv with h|h<;>rw [h]<;>simp [pZ])).mono (eJ i) Ns fun b j hS _=>cf b fun he=>b2 j (by rw [←he];exact hS)⟩
   ·rw [List.length_set] at h1 h2;have fY:∀ k',k'≠k→aj≠some k':=fun k' hn=>by rcases gv with h|h<;>rw [h]<;>simp [Ne.symm hn]
    by_cases ib:k1=k
    ·subst ib;rw [Array.getElem?_setIfInBounds_self_of_lt eP] at e1;obtain rfl:=Option.some.inj e1;rw [Array.getElem?_setIfInBounds_ne nL] at e2;exact qO k2 v2 h2 (Ne.symm nL) e2
    ·rw [Array.getElem?_setIfInBounds_ne (Ne.symm ib)] at e1;by_cases cI:k2=k
     ·subst cI;rw [Array.getElem?_setIfInBounds_self_of_lt eP] at e2;obtain rfl:=Option.some.inj e2;exact (qO k1 v1 h1 ib e1).symm
     ·rw [Array.getElem?_setIfInBounds_ne (Ne.symm cI)] at e2;exact b6 k1 k2 v1 v2 h1 h2 nL (fY k1 ib) (fY k2 cI) e1 e2
  ·have bp:=dz i o hid aG;exact (R.objs i o bp).keep (fun _=>⟨eJ i,gg i hid⟩) (fun bx b j hO _=>aq i o hid bp bx b j hO) (by omega) dj fun cs ca c hc u hx=>hV hx (jb i cs (by rw [bp,ca]) c hc)
 ·by_cases h1:i=id
  ·by_cases h2:i'=id
   ·rw [h1,h2]
   ·subst h1;have pR:=dz i' o' h2 bp;have kM:=(jk h2).1 cw;rcases hO with hO|hO
    ·exact R.inj i i' _ o' hi pR bQ ee x j j' (.inl (by rw [←eJ];exact hO)) kM
    ·exact absurd hO (wm i' o' h2 bp ee x j' j kM)
  ·have ma:=dz i o h1 aG;have kJ:=(jk h1).1 hO;by_cases h2:i'=id
   ·subst h2;rcases cw with cw|cw
    ·exact R.inj i i' o _ ma hi bx bQ x j j' kJ (.inl (by rw [←eJ];exact cw))
    ·exact absurd cw (wm i o h1 aG bx x j j' kJ)
   ·exact R.inj i i' o o' ma (dz i' o' h2 bp) bx ee x j j' kJ ((jk h2).1 cw)
theorem Nt {cur:Array Value} {k:Nat} {v:Value} (hk:k < cur.size) : (cur.toList.take k++[v]++cur.toList.drop (k+1)).toArray=cur.setIfInBounds k v:=by
 apply Array.ext';rw [Array.toList_setIfInBounds,List.set_eq_take_append_cons_drop,if_pos (by simpa using hk)];simp
theorem Keeps.same (M:Nat→Nat→Prop) (w:World) : Keeps M w w:=.of_blocks (Nat.le_refl _) fun _ _ _=>rfl
section
variable {id k e sz:Nat} {aj:Option Nat} {qs:List (List (List AV))} {es:List (List AV)} {v:Value}
theorem Rel.bagRow (R:Rel M0 w0 N p st a w) (hi:st.h[id]? = some (some (.bag e sz false aj qs))) : BagOK w0 w (Mof M0 st.h p) p id e sz aj qs:=by
 obtain ⟨_,h⟩:=R.objs id _ hi;rwa [if_neg (by simp)] at h
theorem Rel.bagStore {cur:Array Value} (R:Rel M0 w0 N p st a w) (hi:st.h[id]? = some (some (.bag e sz false aj qs))) (hk:k < qs.length) (gv:aj=none∨aj=some k) (bL:w.heap[p id]? = some (.cells cur e (0,0)))
  (jb:∀ (i:Nat) (cs:List AV),st.h[i]? = some (some (.box cs))→∀ c∈cs,dD id 5 c=true) (hv:V1 w (Mof M0 st.h p) st.h p (.slw id k sz es) v) :
  Rel M0 w0 N p ⟨st.s.map (fun q=>(q.1,unW id q.2)),st.h.set id (some (.bag e sz false none (qs.set k es)))⟩ a (w.setRow (p id) (cur.setIfInBounds k v)):=by
 have hB:=R.bagRow hi;obtain ⟨_,h0,hs⟩:=hv.slw_inv;obtain ⟨_,fH,_,qO⟩:=hs _ _ _ _ hi;have hid:=(List.getElem?_eq_some_iff.1 hi).1;have bQ:b_ (Ob.bag e sz false aj qs)=true:=rfl;have fY:∀ k',k'≠k→aj≠some k':=fun k' hn=>by rcases gv with h|h<;>rw [h]<;>simp [Ne.symm hn]
 have dz:∀ (i:Nat) (ob:Ob),i≠id→(st.h.set id (some (Ob.bag e sz false none (qs.set k es))))[i]? = some (some ob)→st.h[i]? = some (some ob):=fun i ob hn h=>by rwa [List.getElem?_set_ne (Ne.symm hn)] at h
 refine R.bagSet hi hk gv bL jb (v_ w _ _).symm rfl rfl rfl (fun b hb=>vZ w _ _ b hb) (setRow_heap w (p id) cur _ e _ bL) (by simp) (List.getElem?_set_self hid) dz (fun _=>rfl) (fun _ _=>rfl) (fun _ _ h=>h)
  (fun b j hS=>hB.1 b j (.inr hS)) hB.2.1 (fun i ob hn aG bx b j j' hO hS=>hn (R.inj i id ob _ (dz i ob hn aG) hi bx bQ b j j' hO (.inr hS))) (fun b j hS=>.inr ⟨id,_,hi,bQ,.inr hS⟩)
  (h0.keep (Keeps.same _ w) fun b j _ hn hm=>hn ?_) fH fun k' v' dH aq bF=>qO cur e k' v' bL dH aq (fY k' aq) bF
 rcases hm with hm|⟨i,o,aG,bx,hO⟩
 ·exact .inl hm
 ·by_cases he:i=id
  ·subst he;exact .inr ⟨i,_,hi,bQ,hO⟩
  ·exact .inr ⟨i,o,dz i o he aG,bx,hO⟩
theorem Rel.bagTake {cur:Array Value} {r er:Nat} {nl:Bool} (R:Rel M0 w0 N p st a w) (hi:st.h[id]? = some (some (.bag e sz false aj qs))) (hk:k < qs.length) (gv:aj=none∨aj=some k) (bL:w.heap[p id]? = some (.cells cur e (0,0)))
  (jb:∀ (i:Nat) (cs:List AV),st.h[i]? = some (some (.box cs))→∀ c∈cs,dD id 5 c=true) (hr:st.h[r]? = some (some (.arr er sz nl es))) (hv:V1 w (Mof M0 st.h p) st.h p (.osl r) v) :
  ∃ p',Rel M0 w0 N p' ⟨st.s.map (fun q=>(q.1,unW id q.2)),(st.h.set r none).set id (some (.bag e sz false none (qs.set k es)))⟩ a (w.setRow (p id) (cur.setIfInBounds k v)):=by
 have hB:=R.bagRow hi;have hid:=(List.getElem?_eq_some_iff.1 hi).1;have wq:r≠id:=fun h=>by rw [h,hi] at hr;cases hr
 have bQ:b_ (Ob.bag e sz false aj qs)=true:=rfl;have fY:∀ k',k'≠k→aj≠some k':=fun k' hn=>by rcases gv with h|h<;>rw [h]<;>simp [Ne.symm hn]
 have eN:((st.h.set r none).set id (some (Ob.bag e sz false none (qs.set k es))))[id]? = some (some (Ob.bag e sz false none (qs.set k es))):=List.getElem?_set_self (by simpa using hid);have Ce:∀ (i:Nat) (ob:Ob),i≠id→((st.h.set r none).set id (some (Ob.bag e sz false none (qs.set k es))))[i]? = some (some ob)→i≠r:=fun i ob hn h he=>by
  subst he;rw [List.getElem?_set_ne (Ne.symm hn),List.getElem?_set] at h;simp at h
 have dz:∀ (i:Nat) (ob:Ob),i≠id→((st.h.set r none).set id (some (Ob.bag e sz false none (qs.set k es))))[i]? = some (some ob)→st.h[i]? = some (some ob):=fun i ob hn h=>by
  have Nu:=Ce i ob hn h;rwa [List.getElem?_set_ne (Ne.symm hn),List.getElem?_set_ne (Ne.symm Nu)] at h
 obtain ⟨A,n,c,hq,_,br⟩:=hv.osl_inv;have br:=br _ _ _ _ hr;obtain ⟨iD,pz,aP⟩:=R.objs r _ hr;cases nl
 ·rw [if_neg (by simp)] at aP;obtain ⟨bP,cr,hg,hle,da⟩:=aP;unfold Osl at br;rw [if_neg (by simp)] at br;obtain ⟨cap,wu,e1,e2,e3,e4,e5⟩:=br;have:wu=cr:=by rw [hg] at e2;injection e2 with e2;injection e2 with e2;exact e2.symm
  subst this;have tW:b_ (Ob.arr er sz false es)=true:=rfl;have Cf:p r≠p id:=fun h=>wq (R.inj r id _ _ hr hi tW bQ (p r) 0 0 (.inl rfl) (.inl h.symm));have GJ:∀ j,¬p.S id (p r) j:=fun j h=>wq (R.inj r id _ _ hr hi tW bQ (p r) 0 j (.inl rfl) (.inr h));have dW:=(Array.getElem?_eq_some_iff.1 hg).1;refine ⟨⟨p.b,fun i=>if i=id then fun b j=>p.S id b j∨(b=p r∧es.length*sz≤j) else p.S i⟩,?_⟩;have hM:∀ b j,¬Mof M0 st.h p b j→¬Mof M0 ((st.h.set r none).set id (some (Ob.bag e sz false none (qs.set k es)))) ⟨p.b,fun i=>if i=id then fun b j=>p.S id b j∨(b=p r∧es.length*sz≤j) else p.S i⟩ b j:=fun b j hn hm=>by
   rcases hm with hm|⟨i,o,aG,bx,hO⟩
   ·exact hn (.inl hm)
   ·by_cases he:i=id
    ·subst he;rcases hO with hO|hO
     ·exact hn (.inr ⟨i,_,hi,bQ,.inl hO⟩)
     ·simp only [if_true] at hO;rcases hO with hO|⟨rfl,_⟩
      ·exact hn (.inr ⟨i,_,hi,bQ,.inr hO⟩)
      ·exact hn (.inr ⟨r,_,hr,tW,.inl rfl⟩)
    ·refine hn (.inr ⟨i,o,dz i o he aG,bx,?_⟩);rcases hO with hO|hO
     ·exact .inl hO
     ·simp only [if_neg he] at hO;exact .inr hO
  refine R.bagSet hi hk gv bL jb (v_ w _ _).symm rfl rfl rfl (fun b hb=>vZ w _ _ b hb) (setRow_heap w (p id) cur _ e _ bL) (by simp) eN dz (fun _=>rfl) (fun i hn=>by simp only [if_neg hn]) (fun b j h=>by simp only [if_true];exact .inl h)
   (fun b j hS=>?_) (fun j hS=>?_) (fun i ob hn aG bx b j j' hO hS=>?_) (fun b j hS=>?_) ?_ ?_ fun k' v' dH aq bF=>?_
  ·simp only [if_true] at hS;rcases hS with hS|⟨rfl,_⟩
   ·exact hB.1 b j (.inr hS)
   ·exact ⟨bP.1 j,dW⟩
  ·simp only [if_true] at hS;rcases hS with hS|⟨h,_⟩
   ·exact hB.2.1 j hS
   ·exact Cf h.symm
  ·simp only [if_true] at hS;rcases hS with hS|⟨rfl,_⟩
   ·exact hn (R.inj i id ob _ (dz i ob hn aG) hi bx bQ b j j' hO (.inr hS))
   ·exact Ce i ob hn aG (R.inj i r ob _ (dz i ob hn aG) hr bx tW _ j 0 hO (.inl rfl))
  ·simp only [if_true] at hS;rcases hS with hS|⟨rfl,_⟩
   ·exact .inr ⟨id,_,hi,bQ,.inr hS⟩
   ·exact .inr ⟨r,_,hr,tW,.inl rfl⟩
  ·rw [e1];by_cases cJ:es=[]
   ·subst cJ;exact .slNil _ _ _
   ·have bf:∀ k j,k < es.length→j < sz→k*sz+j < wu.size∧k*sz+j < es.length*sz:=fun k j h1 h2=>by
     have:(k+1)*sz≤es.length*sz:=Nat.mul_le_mul_right _ h1;rw [Nat.add_mul] at this;omega
    refine .sl sz es cap (p r) 0 (fun k j=>(wu[k*sz+j]?).getD undef) cJ dW (fun k1 j h1 h2 hm=>?_) e4 (fun k1 x hx=>(pz k1 x hx).1) (fun k1 x j c hx hc=>(pz k1 x hx).2 c (List.mem_of_getElem? hc)) (fun k1 j h1 h2=>?_) fun k1 x j c hx hc=>?_
    ·rw [Nat.zero_add] at hm;have Cg:=(bf k1 j h1 h2).2;rcases hm with hm|⟨i,o,aG,bx,hO⟩
     ·exact R.h0 _ _ hm (bP.1 _)
     ·by_cases he:i=id
      ·subst he;rcases hO with hO|hO
       ·exact Cf hO.symm
       ·simp only [if_true] at hO;rcases hO with hO|⟨_,hO⟩
        ·exact GJ _ hO
        ·omega
      ·refine Ce i o he aG (R.inj i r o _ (dz i o he aG) hr bx tW (p r) (k1*sz+j) 0 ?_ (.inl rfl));rcases hO with hO|hO
       ·exact .inl hO
       ·simp only [if_neg he] at hO;exact .inr hO
    ·rw [cell_of_row w (p r) _ wu er (0,0) hg,Nat.zero_add];have:=(bf k1 j h1 h2).1;simp [this]
    ·obtain ⟨u,hu,cQ⟩:=da k1 x j c hx hc;rw [hu];exact cQ.keep (Keeps.same _ w) fun b j _=>hM b j
  ·rw [e1];refine ⟨_,_,_,rfl,e4,fun _=>⟨p r,0,wu,er,rfl,hg,by rw [Nat.zero_add,e3];exact Nat.le_refl _,e5,iD,Cf,fun j hj=>?_⟩⟩;simp only [if_true];exact .inr ⟨trivial,by omega⟩
  ·rw [e1];intro b o n1 c1 b' o' n' c' h1 h2 l1 l2 he;simp only [Value.slice.injEq,Option.some.injEq,Addr.mk.injEq] at h1;obtain ⟨⟨rfl,_,_⟩,_,_⟩:=h1;obtain ⟨_,_,cur0,tX,_,Nv,_⟩:=R.bagRow hi;have cz:cur0=cur:=by rw [bL] at tX;injection tX with tX;injection tX with tX;exact tX.symm
   subst cz;obtain ⟨v2,g1,_,g3⟩:=Nv k' _ (List.getElem?_eq_getElem dH);rw [bF] at g1;obtain rfl:=Option.some.inj g1;obtain ⟨A2,n2,nI,q1,q2,q3⟩:=g3 (fY k' aq);rw [h2] at q1;simp only [Value.slice.injEq] at q1;obtain ⟨rfl,rfl,rfl⟩:=q1;obtain ⟨b2,o2,_,_,q4,_,_,_,_,_,q5⟩:=q3 l2;simp only [Option.some.injEq,Addr.mk.injEq] at q4;obtain ⟨rfl,rfl,_⟩:=q4;exact GJ _ (by rw [he];exact q5 _ (Nat.le_refl _))
 ·rw [if_pos rfl] at aP;subst aP;unfold Osl at br;rw [if_pos rfl] at br;refine ⟨p,?_⟩;refine R.bagSet hi hk gv bL jb (v_ w _ _).symm rfl rfl rfl (fun b hb=>vZ w _ _ b hb) (setRow_heap w (p id) cur _ e _ bL) (by simp) eN dz (fun _=>rfl) (fun _ _=>rfl) (fun _ _ h=>h)
   (fun b j hS=>hB.1 b j (.inr hS)) hB.2.1 (fun i ob hn aG bx b j j' hO hS=>hn (R.inj i id ob _ (dz i ob hn aG) hi bx bQ b j j' hO (.inr hS))) (fun b j hS=>.inr ⟨id,_,hi,bQ,.inr hS⟩)
   ?_ ?_ fun k' v' _ _ _=>?_
  ·obtain ⟨⟨A,br⟩,_⟩:=br;rw [br];exact .slNil _ _ _
  ·obtain ⟨⟨A,br⟩,_⟩:=br;rw [br];exact ⟨A,0,0,rfl,Nat.le_refl _,fun h=>by omega⟩
  ·obtain ⟨⟨A,br⟩,_⟩:=br;rw [br];intro b o n1 c1 b' o' n' c' h1 _ l1;simp only [Value.slice.injEq] at h1;omega
end
end
end Go.Proofs.YtoibondihdhnoaaGreatDoor
