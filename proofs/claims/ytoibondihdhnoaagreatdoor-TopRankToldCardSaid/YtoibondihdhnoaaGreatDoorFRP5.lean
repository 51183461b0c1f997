/- Texts in one: Walks on plain values: the layer; of every program; no condition. -/
import Derived.Test.YtoibondihdhnoaaGreatDoorFRP4
import Derived.IntWalk
import Derived.Deep.LoopGhost
import Derived.Test.YtoibondihdhnoaaGreatDoorFRP2
namespace Go.Proofs.YtoibondihdhnoaaGreatDoor
open Go.RowKit
section
variable {P:Program} {M0:Nat→Nat→Prop} {w0:Bas} {N:Nm} {p:Pl} {st:VS} {a:Act} {w:World}
def cS (p:Pl) (n b:Nat) : Pl:=⟨fun i=>if i=n then b else p i,fun i=>if i=n then fun _ _=>False else p.S i⟩
theorem j1 {p:Pl} {n b i:Nat} (h:i≠n) : cS p n b i=p i∧(cS p n b).S i=p.S i:=⟨if_neg h,if_neg h⟩
theorem lC (p:Pl) (n b:Nat) : cS p n b n=b∧∀ x j,¬(cS p n b).S n x j:=⟨if_pos rfl,fun x j h=>by simp [cS] at h⟩
theorem jF {p:Pl} {n b i x j:Nat} (h:i≠n) : (cS p n b).O i x j↔p.O i x j:=by unfold Pl.O;rw [(j1 h).1,(j1 h).2]
theorem mP {p:Pl} {n b x j:Nat} (h:(cS p n b).O n x j) : x=b:=h.elim (fun h=>h.symm.trans (lC p n b).1) fun h=>absurd h ((lC p n b).2 x j)
theorem zq {h:Hp} {x:Option Ob} {id:Nat} {ob:Ob} (hi:(h++[x])[id]? = some (some ob)) : (id < h.length∧h[id]? = some (some ob))∨(id=h.length∧x=some ob):=by
 rcases Nat.lt_trichotomy id h.length with ao|heq|So
 ·rw [List.getElem?_append_left ao] at hi;exact .inl ⟨ao,hi⟩
 ·subst heq;rw [List.getElem?_append_right (Nat.le_refl _)] at hi;simp at hi;exact .inr ⟨rfl,hi⟩
 ·rw [List.getElem?_eq_none (by simp;omega)] at hi;cases hi
theorem ue {h:Hp} {x:Option Ob} {id:Nat} (hi:id < h.length) : (h++[x])[id]? = h[id]?:=List.getElem?_append_left hi
theorem Rel.growM {ob:Ob} {b:Nat} (_R:Rel M0 w0 N p st a w) (hb0:cn ob=true→w.heap.size≤b) : ∀ c j,c < w.heap.size→¬Mof M0 st.h p c j→¬Mof M0 (st.h++[some ob]) (cS p st.h.length b) c j:=by
 intro c j hc hn hm;rcases hm with hm|⟨id,ob',hi,hl,jV⟩
 ·exact hn (.inl hm)
 ·rcases zq hi with ⟨ao,bw⟩|⟨rfl,hx⟩
  ·exact hn (.inr ⟨id,ob',bw,hl,(jF (Nat.ne_of_lt ao)).1 jV⟩)
  ·obtain rfl:=Option.some.inj hx;have:=mP jV;have:=hb0 hl;omega
theorem Rel.growV {w':World} {ob:Ob} {b:Nat} (R:Rel M0 w0 N p st a w) (hb:Below w.heap.size w w') (hb0:cn ob=true→w.heap.size≤b) {x:AV} {u:Value} (hx:V1 w (Mof M0 st.h p) st.h p x u) : V1 w' (Mof M0 (st.h++[some ob]) (cS p st.h.length b)) (st.h++[some ob]) (cS p st.h.length b) x u:=by
 have hp:∀ id,id < st.h.length→cS p st.h.length b id=p id:=fun id hid=>(j1 (Nat.ne_of_lt hid)).1;exact hx.keep (.of_below hb) (R.growM hb0) (by simp) hp (fun id e sz nl es u hid he hv=>by
   rw [ue hid] at he;exact (hv e sz nl es he).below hb) (fun id e sz nl ak qs u hid he hv=>by
   rw [ue hid] at he;exact (hv e sz nl ak qs he).below hb) fun id k sz v hid hs=>hs.keep (fun e sz ak qs he=>by
   rw [ue hid] at he;exact ⟨he,hp id hid,(j1 (Nat.ne_of_lt hid)).2,fun b _ _ ao=>hb.block b ao⟩) hb.size
theorem tv {w0:Bas} {n b:Nat} (h:w0.w.heap.size≤b) : Own w0 (cS p n b) n:=⟨fun j=>.inl (by rw [(lC p n b).1];exact h),(lC p n b).2⟩
theorem Rel.grow {w':World} {ob:Ob} {b:Nat} {d:Nat} {av:AV} {v:Value} (R:Rel M0 w0 N p st a w) (hb:Below w.heap.size w w') (hd:N.has d) (hb0:cn ob=true→w.heap.size≤b) (_hnb:∀ e sz nl ak qs,ob≠.bag e sz nl ak qs)
  (iP:ObOK w0 w' (Mof M0 (st.h++[some ob]) (cS p st.h.length b)) (st.h++[some ob]) (cS p st.h.length b) st.h.length ob)
  (hv:V1 w' (Mof M0 (st.h++[some ob]) (cS p st.h.length b)) (st.h++[some ob]) (cS p st.h.length b) av v) :
  Rel M0 w0 N (cS p st.h.length b) ⟨(d,av)::st.s,st.h++[some ob]⟩ (a.put (some d) v) w':=by
 have hp:∀ id,id < st.h.length→cS p st.h.length b id=p id:=fun id hid=>(j1 (Nat.ne_of_lt hid)).1;have hM:∀ c j,c < w.heap.size→¬Mof M0 st.h p c j→¬Mof M0 (st.h++[some ob]) (cS p st.h.length b) c j:=by
  intro c j hc hn hm;rcases hm with hm|⟨id,ob',hi,hl,jV⟩
  ·exact hn (.inl hm)
  ·rcases zq hi with ⟨ao,bw⟩|⟨rfl,hx⟩
   ·exact hn (.inr ⟨id,ob',bw,hl,(jF (Nat.ne_of_lt ao)).1 jV⟩)
   ·obtain rfl:=Option.some.inj hx;have:=mP jV;have:=hb0 hl;omega
 have hV:∀ {x:AV} {u:Value},V1 w (Mof M0 st.h p) st.h p x u→V1 w' (Mof M0 (st.h++[some ob]) (cS p st.h.length b)) (st.h++[some ob]) (cS p st.h.length b) x u:=fun hx=>
  hx.keep (.of_below hb) hM (by simp) hp (fun id e sz nl es u hid he hv=>by
   rw [ue hid] at he;exact (hv e sz nl es he).below hb) (fun id e sz nl ak qs u hid he hv=>by
   rw [ue hid] at he;exact (hv e sz nl ak qs he).below hb) fun id k sz v hid hs=>hs.keep (fun e sz ak qs he=>by
   rw [ue hid] at he;exact ⟨he,hp id hid,(j1 (Nat.ne_of_lt hid)).2,fun b _ _ ao=>hb.block b ao⟩) hb.size
 have bA:∀ id ob',(st.h++[some ob])[id]? = some (some ob')→(id < st.h.length∧st.h[id]? = some (some ob'))∨(id=st.h.length∧ob=ob'):=fun id ob' hi=>by
  rcases zq hi with h|⟨h1,h2⟩
  ·exact .inl h
  ·exact .inr ⟨h1,Option.some.inj h2⟩
 refine ⟨R.defers,R.size.put hd,R.below.later hb,R.m0,R.x0,fun i=>?_,fun id ob' hi=>?_,fun id gV uf ob2 hi bw hl bm x j j' hO cw=>?_⟩
 ·rw [mQ a d v i (R.size.lt hd)];simp only [lkp];split
  ·exact hv
  ·exact hV (R.slots i)
 ·rcases bA id ob' hi with ⟨ao,bw⟩|⟨rfl,rfl⟩
  ·exact (R.objs id ob' bw).keep (fun _=>j1 (Nat.ne_of_lt ao)) (fun _ b _ _ dv=>hb.block b dv) hb.size (fun hx=>hx.keep (.of_below hb) hM) fun _ _ _ _ _ hx=>hV hx
  ·exact iP
 ·rcases bA id uf hi with ⟨ao,nZ⟩|⟨rfl,rfl⟩<;>rcases bA gV ob2 bw with ⟨h_,bM⟩|⟨rfl,rfl⟩
  ·exact R.inj id gV _ _ nZ bM hl bm x j j' ((jF (Nat.ne_of_lt ao)).1 hO) ((jF (Nat.ne_of_lt h_)).1 cw)
  ·have h1:=((R.objs id uf nZ).own hl x j ((jF (Nat.ne_of_lt ao)).1 hO)).2;have h2:=hb0 bm;have h3:=mP cw;omega
  ·have h1:=((R.objs gV ob2 bM).own bm x j' ((jF (Nat.ne_of_lt h_)).1 cw)).2;have h2:=hb0 hl;have h3:=mP hO;omega
  ·rfl
theorem Rel.write {w':World} {h':Hp} {id:Nat} {ob ob':Ob} (R:Rel M0 w0 N p st a w) (hi:st.h[id]? = some (some ob)) (hl:cn ob=true) (bm:cn ob'=true) (_hnb:∀ e sz nl ak qs,ob≠.bag e sz nl ak qs) (wE:∀ e sz nl ak qs,ob'≠.bag e sz nl ak qs) (aM:w.heap.size=w'.heap.size) (la:w'.os=w.os) (ld:w'.tape=w.tape) (lf:w'.output=w.output)
  (b8:∀ b,b≠p id→w'.heap[b]? = w.heap[b]?) (hh:h'=st.h.set id (some ob'))
  (bo:∀ e sz nl es v,ob' = .arr e sz nl es→(∀ e sz nl es,ob = .arr e sz nl es→Osl w (p id) e sz nl es.length v)→Osl w' (p id) e sz nl es.length v)
  (iP:(∀ {x:AV} {u:Value},V1 w (Mof M0 st.h p) st.h p x u→V1 w' (Mof M0 h' p) h' p x u)→(∀ {x:AV} {u:Value},V0 w (Mof M0 st.h p) x u→V0 w' (Mof M0 h' p) x u)→ObOK w0 w' (Mof M0 h' p) h' p id ob') :
  Rel M0 w0 N p ⟨st.s,h'⟩ a w':=by
 subst hh;have hid:id < st.h.length:=(List.getElem?_eq_some_iff.1 hi).1;have bA:∀ i o,(st.h.set id (some ob'))[i]? = some (some o)→(i=id∧o=ob')∨(i≠id∧st.h[i]? = some (some o)):=by
  intro i o aG;rw [List.getElem?_set] at aG;by_cases he:id=i
  ·rw [if_pos he,if_pos (by omega)] at aG;simp only [Option.some.injEq] at aG;exact .inl ⟨he.symm,aG.symm⟩
  ·rw [if_neg he] at aG;exact .inr ⟨fun h=>he h.symm,aG⟩
 have hM:∀ c j,¬Mof M0 st.h p c j→¬Mof M0 (st.h.set id (some ob')) p c j:=by
  intro c j hn hm;rcases hm with hm|⟨i,o,aG,bs,hp⟩
  ·exact hn (.inl hm)
  ·rcases bA i o aG with ⟨rfl,rfl⟩|⟨_,bn⟩
   ·exact hn (.inr ⟨i,ob,hi,hl,hp⟩)
   ·exact hn (.inr ⟨i,o,bn,bs,hp⟩)
 have hk:Keeps (Mof M0 st.h p) w w':=.of_blocks (by omega) fun b _ hb=>b8 b fun he=>hb fun j=>.inr ⟨id,ob,hi,hl,.inl he.symm⟩;have aq:∀ i o,i≠id→st.h[i]? = some (some o)→cn o=true→∀ b j,p.O i b j→w'.heap[b]? = w.heap[b]?:=fun i o hn aG bs b j hO=>b8 b fun he=>hn (R.inj i id o ob aG hi bs hl b j 0 hO (.inl he.symm));have hV:∀ {x:AV} {u:Value},V1 w (Mof M0 st.h p) st.h p x u→V1 w' (Mof M0 (st.h.set id (some ob')) p) (st.h.set id (some ob')) p x u:=fun hx=>
  hx.keep hk (fun b j _=>hM b j) (by simp) (fun _ _=>rfl) (fun i e sz nl es v cz he hv=>by
   rcases bA i _ he with ⟨rfl,ho⟩|⟨hn,aG⟩
   ·exact bo e sz nl es v ho.symm fun e' bD kz es' iP=>hv e' bD kz es' (by rw [hi,iP])
   ·exact (hv _ _ _ _ aG).keep fun aK _=>aq i _ hn aG (by rw [aK];rfl) _ 0 (.inl rfl)) (fun i e sz nl ak qs v cz he hv=>by
   rcases bA i _ he with ⟨rfl,ho⟩|⟨hn,aG⟩
   ·exact absurd ho.symm (wE _ _ _ _ _)
   ·exact (hv _ _ _ _ _ aG).keep fun aK _=>aq i _ hn aG (by rw [aK];rfl) _ 0 (.inl rfl)) fun i k sz v cz hs=>hs.keep (fun e sz ak qs he=>by
   rcases bA i _ he with ⟨rfl,ho⟩|⟨hn,aG⟩
   ·exact absurd ho.symm (wE _ _ _ _ _)
   ·exact ⟨aG,rfl,rfl,fun b j hO _=>aq i _ hn aG rfl b j hO⟩) (by omega)
 have dM:∀ {x:AV} {u:Value},V0 w (Mof M0 st.h p) x u→V0 w' (Mof M0 (st.h.set id (some ob')) p) x u:=fun hx=>hx.keep hk fun b j _=>hM b j;have dq:=(R.objs id ob hi).ge hl;refine ⟨R.defers,R.size,R.below.blocks la ld lf (by omega) fun b _ hF=>b8 b fun he=>hF fun j=>by rw [he];exact dq j,R.m0,R.x0,fun i=>hV (R.slots i),fun i o aG=>?_,fun i i' o o' aG bn bs ef x j j' hO cw=>?_⟩
 ·rcases bA i o aG with ⟨rfl,rfl⟩|⟨hn,bn⟩
  ·exact iP hV dM
  ·exact (R.objs i o bn).keep (fun _=>⟨rfl,rfl⟩) (fun bs b j hO _=>aq i o hn bn bs b j hO) (by omega) dM fun _ _ _ _ _ hx=>hV hx
 ·rcases bA i o aG with ⟨rfl,rfl⟩|⟨hn,h1⟩<;>rcases bA i' o' bn with ⟨rfl,rfl⟩|⟨lD,h2⟩
  ·rfl
  ·exact R.inj _ _ _ _ hi h2 hl ef x j j' hO cw
  ·exact R.inj _ _ _ _ h1 hi bs hl x j j' hO cw
  ·exact R.inj i i' o o' h1 h2 bs ef x j j' hO cw
end
section
variable {P:Program} {M0:Nat→Nat→Prop} {w0:Bas} {N:Nm} {p:Pl} {st:VS} {a:Act} {w:World}
theorem V1.purge {w w':World} {M M':Nat→Nat→Prop} {h h':Hp} {p p':Pl} {id:Nat} (hk:Keeps M w w') (hM:∀ b j,b < w.heap.size→¬M b j→¬M' b j) (hl:h.length≤h'.length) (hp:∀ i,i≠id→p' i=p i)
  (hO:∀ i e sz nl es v,i≠id→h'[i]? = some (some (.arr e sz nl es))→(∀ e sz nl es,h[i]? = some (some (.arr e sz nl es))→Osl w (p i) e sz nl es.length v)→Osl w' (p i) e sz nl es.length v)
  (hG:∀ i e sz nl ak qs v,i≠id→h'[i]? = some (some (.bag e sz nl ak qs))→(∀ e sz nl ak qs,h[i]? = some (some (.bag e sz nl ak qs))→Osl w (p i) e 1 nl qs.length v)→Osl w' (p i) e 1 nl qs.length v)
  (hW:∀ i k sz v,i≠id→i < h.length→Sp w h p i k sz v→Sp w' h' p' i k sz v) :
  ∀ (n:Nat) (av:AV) (v:Value),V1 w M h p av v→cJ id n av=true→V1 w' M' h' p' av v
 | 0,_,_,_,hb=>by simp [cJ] at hb
 | n+1,av,v,hv,hb=>by
  have ih:=V1.purge (w:=w) (p:=p) (h:=h) hk hM hl hp hO hG hW n;cases hv with
  | base _ _ h0=>exact .base _ _ (h0.keep hk hM)
  | agg cs us hl h1 hv=>
   simp only [cJ] at hb;exact .agg cs us hl h1 fun i c u hc hu=>ih c u (hv i c u hc hu) (List.all_eq_true.1 hb c (List.mem_of_getElem? hc))
  | tup cs us hl hv=>
   simp only [cJ] at hb;exact .tup cs us hl fun i c u hc hu=>ih c u (hv i c u hc hu) (List.all_eq_true.1 hb c (List.mem_of_getElem? hc))
  | fn f x y us vs hl bm hv bE=>
   simp only [cJ,Bool.and_eq_true] at hb;exact .fn f x y us vs hl bm (fun i c u hc hu=>ih c u (hv i c u hc hu) (List.all_eq_true.1 hb.1 c (List.mem_of_getElem? hc))) (fun i c u hc hu=>ih c u (bE i c u hc hu) (List.all_eq_true.1 hb.2 c (List.mem_of_getElem? hc)))
  | iface t x u hv=>exact .iface t x u (ih x u hv (by simpa [cJ] using hb))
  | ref i off hid=>rw [←hp i (by simpa [cJ] using hb)];exact .ref i off (Nat.lt_of_lt_of_le hid hl)
  | aref i sz k off hid=>rw [←hp i (by simpa [cJ] using hb)];exact .aref i sz k off (Nat.lt_of_lt_of_le hid hl)
  | osl i A m c hid hv l6=>
   have hn:i≠id:=by simpa [cJ] using hb
   exact .osl i A m c (Nat.lt_of_lt_of_le hid hl) (fun e sz nl es he=>by rw [hp i hn];exact hO i e sz nl es _ hn he hv) fun e sz nl ak qs he=>by rw [hp i hn];exact hG i e sz nl ak qs _ hn he l6
  | slw i k sz es _ hid h0 hs=>
   have hn:i≠id:=by simpa [cJ] using hb
   exact .slw i k sz es v (Nat.lt_of_lt_of_le hid hl) (h0.keep hk hM) (hW i k sz v hn hid hs)
  | mp i hid=>rw [←hp i (by simpa [cJ] using hb)];exact .mp i (Nat.lt_of_lt_of_le hid hl)
theorem Cy (id:Nat) : ∀ (s:List (Nat×AV)) (i:Nat),lkp (s.map fun q=>(q.1,purge id q.2)) i=purge id (lkp s i)∨lkp (s.map fun q=>(q.1,purge id q.2)) i = .any
 | [],i=>.inr rfl
 | (d,v)::r,i=>by
  simp only [List.map_cons,lkp];split
  ·exact .inl rfl
  ·exact Cy id r i
theorem Rel.append {w':World} {id g:Nat} {e:TypeId} {sz:Nat} {nl:Bool} {es qZ:List (List AV)} {d:Nat} {A:Option Addr} {n c:Nat} (R:Rel M0 w0 N p st a w) (hd:N.has d) (hi:st.h[id]? = some (some (.arr e sz nl es)))
  (_hge:∀ j,Fr w0 g j) (hg:g=w.heap.size∨(nl=false∧g=p id)) (la:w'.os=w.os) (ld:w'.tape=w.tape) (lf:w'.output=w.output) (aM:w.heap.size≤w'.heap.size) (b8:∀ b,b < w.heap.size→¬(nl=false∧b=p id)→w'.heap[b]? = w.heap[b]?)
  (iP:(∀ {x:AV} {u:Value},V0 w (Mof M0 st.h p) x u→V0 w' (Mof M0 (fZ id 0 (st.h.set id (some (.arr e sz false qZ)))) (cS p id g)) x u)→ObOK w0 w' (Mof M0 (fZ id 0 (st.h.set id (some (.arr e sz false qZ)))) (cS p id g)) (fZ id 0 (st.h.set id (some (.arr e sz false qZ)))) (cS p id g) id (.arr e sz false qZ))
  (hv:Osl w' g e sz false qZ.length (.slice A n c)) :
  Rel M0 w0 N (cS p id g) ⟨(d,.osl id)::st.s.map (fun q=>(q.1,purge id q.2)),fZ id 0 (st.h.set id (some (.arr e sz false qZ)))⟩ (a.put (some d) (.slice A n c)) w':=by
 generalize fA:fZ id 0 (st.h.set id (some (.arr e sz false qZ)))=h' at *;generalize sr:cS p id g=p' at *;have eD:id < st.h.length:=(List.getElem?_eq_some_iff.1 hi).1;have hlen:h'.length=st.h.length:=by rw [←fA,ze];simp
 have cQ:p' id=g:=by rw [←sr];exact (lC p id g).1
 have jq:∀ i,i≠id→p' i=p i:=fun i hn=>by rw [←sr];exact (j1 hn).1
 have gv:∀ i,i≠id→p'.S i=p.S i:=fun i hn=>by rw [←sr];exact (j1 hn).2
 have ke:∀ {i x j},i≠id→(p'.O i x j↔p.O i x j):=fun hn=>by rw [←sr];exact jF hn
 have sB:∀ {x j},p'.O id x j→x=g:=fun h=>by rw [←sr] at h;exact mP h
 have bA:∀ i o,h'[i]? = some (some o)→(i=id∧o = .arr e sz false qZ)∨(i≠id∧∃ o0,st.h[i]? = some (some o0)∧cn o0=cn o∧((o0=o∧∀ cs,o = .box cs→cs.all (cJ id 5)=true)∨∃ cs,o0 = .box cs∧o = .box (cs.map (qS id i))∧cs.all (fun c=>cJ id 5 c || tV id c)=true)):=by
  intro i o aG;rw [←fA,wq] at aG;obtain ⟨x,hx,da⟩:=Option.map_eq_some_iff.1 aG;rw [Nat.zero_add] at da;rw [List.getElem?_set] at hx;by_cases he:id=i
  ·rw [if_pos he,if_pos (by omega)] at hx;simp only [Option.some.injEq] at hx;subst hx;simp only [jM,Option.some.injEq] at da;exact .inl ⟨he.symm,da.symm⟩
  ·rw [if_neg he] at hx;refine .inr ⟨fun h=>he h.symm,?_⟩;cases x with
   | none=>simp [jM] at da
   | some y=>
    cases y with
    | box cs=>
     simp only [jM] at da;split at da
     ·rename_i bg;simp only [Option.some.injEq] at da;subst da;exact ⟨_,hx,rfl,.inl ⟨rfl,fun dR hc=>by injection hc with hc;subst hc;exact bg⟩⟩
     ·split at da
      ·rename_i bg;simp only [Option.some.injEq] at da;subst da;exact ⟨_,hx,rfl,.inr ⟨cs,rfl,rfl,bg⟩⟩
      ·cases da
    | arr e1 s1 n1 l1=>
     simp only [jM,Option.some.injEq] at da;subst da;exact ⟨_,hx,rfl,.inl ⟨rfl,fun dR hc=>by cases hc⟩⟩
    | mpo kf iD=>
     simp only [jM,Option.some.injEq] at da;subst da;exact ⟨_,hx,rfl,.inl ⟨rfl,fun dR hc=>by cases hc⟩⟩
    | bag e1 s1 n1 Ok q1=>
     simp only [jM,Option.some.injEq] at da;subst da;exact ⟨_,hx,rfl,.inl ⟨rfl,fun dR hc=>by cases hc⟩⟩
 have dn:nl=false→cn (.arr e sz nl es)=true:=fun h=>by subst h;rfl
 have hM:∀ c j,c < w.heap.size→¬Mof M0 st.h p c j→¬Mof M0 h' p' c j:=by
  intro c j hc hn hm;rcases hm with hm|⟨i,o,aG,bs,hp⟩
  ·exact hn (.inl hm)
  ·rcases bA i o aG with ⟨rfl,rfl⟩|⟨aq,o0,bn,pa,_⟩
   ·have Hs:=sB hp;rcases hg with hg|⟨aK,hg⟩
    ·omega
    ·exact hn (.inr ⟨_,_,hi,dn aK,.inl (by omega)⟩)
   ·exact hn (.inr ⟨i,o0,bn,pa.trans bs,(ke aq).1 hp⟩)
 have hk:Keeps (Mof M0 st.h p) w w':=.of_blocks aM fun b dv hn=>b8 b dv fun ⟨aK,he⟩=>hn fun j=>.inr ⟨id,_,hi,dn aK,.inl he.symm⟩;have aq:∀ i o,i≠id→st.h[i]? = some (some o)→cn o=true→∀ b j,p.O i b j→b < w.heap.size→w'.heap[b]? = w.heap[b]?:=fun i o hn aG bs b j hO dv=>b8 b dv fun ⟨aK,he⟩=>hn (R.inj i id o _ aG hi bs (dn aK) b j 0 hO (.inl he.symm));have bZ:∀ i o,i≠id→(∀ cs,o≠.box cs)→h'[i]? = some (some o)→st.h[i]? = some (some o):=fun i o hn fI he=>by
  rcases bA i _ he with ⟨h,_⟩|⟨_,o0,aG,_,⟨rfl,_⟩|⟨cs,_,hb,_⟩⟩
  ·exact absurd h hn
  ·exact aG
  ·exact absurd hb (fI _)
 have qw:∀ i e sz nl es v,i≠id→h'[i]? = some (some (.arr e sz nl es))→(∀ e sz nl es,st.h[i]? = some (some (.arr e sz nl es))→Osl w (p i) e sz nl es.length v)→Osl w' (p i) e sz nl es.length v:=fun i e sz nl es v hn he hv=>by
  have aG:=bZ i _ hn (fun cs h=>by cases h) he;exact (hv _ _ _ _ aG).keep fun aK ao=>aq i _ hn aG (by rw [aK];rfl) _ 0 (.inl rfl) ao
 have Cz:∀ i e sz nl ak qs v,i≠id→h'[i]? = some (some (.bag e sz nl ak qs))→(∀ e sz nl ak qs,st.h[i]? = some (some (.bag e sz nl ak qs))→Osl w (p i) e 1 nl qs.length v)→Osl w' (p i) e 1 nl qs.length v:=fun i e sz nl ak qs v hn he hv=>by
  have aG:=bZ i _ hn (fun cs h=>by cases h) he;exact (hv _ _ _ _ _ aG).keep fun aK ao=>aq i _ hn aG (by rw [aK];rfl) _ 0 (.inl rfl) ao
 have CA:∀ i k sz v,i≠id→i < st.h.length→Sp w st.h p i k sz v→Sp w' h' p' i k sz v:=fun i k sz v hn _ hs=>hs.keep (fun e sz ak qs he=>by
  have aG:=bZ i _ hn (fun cs h=>by cases h) he;exact ⟨aG,jq i hn,gv i hn,aq i _ hn aG rfl⟩) aM
 have hV:∀ (n:Nat) {x:AV} {u:Value},V1 w (Mof M0 st.h p) st.h p x u→cJ id n x=true→V1 w' (Mof M0 h' p') h' p' x u:=fun n x u hx hn=>V1.purge hk hM (by omega) jq qw Cz CA n x u hx hn;have dM:∀ {x:AV} {u:Value},V0 w (Mof M0 st.h p) x u→V0 w' (Mof M0 h' p') x u:=fun hx=>hx.keep hk hM;have hF:∀ b,b < w.heap.size→¬(∀ j,Fr w0 b j)→w'.heap[b]? = w.heap[b]?:=fun b dv hn=>b8 b dv fun ⟨aK,he⟩=>hn fun j=>by rw [he];exact (R.objs id _ hi).ge (dn aK) j
 refine ⟨R.defers,R.size.put hd,R.below.blocks la ld lf aM hF,R.m0,R.x0,fun i=>?_,fun i o aG=>?_,fun i i' o o' aG bn bs ef x j j' hO cw=>?_⟩
 ·rw [mQ a d _ i (R.size.lt hd)];simp only [lkp];split
  ·refine .osl id A n c (by omega) (fun e' bD kz es' he=>?_) fun e' bD kz pe qs he=>?_
   ·rcases bA id _ he with ⟨_,h⟩|⟨h,_⟩
    ·injection h with h1 h2 h3 h4
     subst h1 h2 h3 h4;rw [cQ];exact hv
    ·exact absurd rfl h
   ·rcases bA id _ he with ⟨_,h⟩|⟨h,_⟩
    ·cases h
    ·exact absurd rfl h
  ·rcases Cy id st.s i with h|h
   ·rw [h];unfold Go.Proofs.YtoibondihdhnoaaGreatDoor.purge;split
    ·rename_i hn;exact hV 5 (R.slots i) hn
    ·exact .base _ _ (.any _)
   ·rw [h];exact .base _ _ (.any _)
 ·rcases bA i o aG with ⟨rfl,rfl⟩|⟨hn,o0,bn,pa,⟨rfl,jg⟩|⟨cs,rfl,rfl,aE⟩⟩
  ·exact iP dM
  rotate_left
  ·obtain ⟨h1,cur,e,hg,h2,h3,h4⟩:=R.objs i _ bn;refine ⟨by unfold Own;rw [jq i hn,gv i hn];exact h1,cur,e,by rw [jq i hn,aq i _ hn bn rfl _ 0 (.inl rfl) (Array.getElem?_eq_some_iff.1 hg).1];exact hg,by simpa using h2,fun c hc=>?_,fun j c hj=>?_⟩
   ·obtain ⟨c0,mY,rfl⟩:=List.mem_map.1 hc;unfold qS;split
    ·exact h3 c0 mY
    ·rfl
   ·rw [List.getElem?_map] at hj;obtain ⟨c0,mm,rfl⟩:=Option.map_eq_some_iff.1 hj;obtain ⟨u,hu,hv⟩:=h4 j c0 mm;refine ⟨u,hu,?_⟩;unfold qS;split
    ·rename_i bg;exact hV 5 hv bg
    ·rename_i bg;have:=List.all_eq_true.1 aE c0 (List.mem_of_getElem? mm);rw [Bool.or_eq_true] at this;rcases this with h|h
     ·exact absurd h bg
     ·obtain ⟨k,rfl⟩ : ∃ k,c0 = .osl k:=by cases c0<;>first|exact ⟨_,rfl⟩|(simp [tV] at h;done)
      obtain ⟨A2,n2,c2,rfl,_,_⟩:=hv.osl_inv;refine .osl _ _ _ _ (by rw [hlen];exact (List.getElem?_eq_some_iff.1 bn).1) (fun e sz nl es he=>?_) fun e sz nl pe qs he=>?_
      ·rw [aG] at he;cases he
      ·rw [aG] at he;cases he
  ·exact (R.objs i o0 bn).keep (fun _=>⟨jq i hn,gv i hn⟩) (fun bs b j hO dv=>aq i o0 hn bn bs b j hO dv) aM dM fun cs bI c hc u hx=>hV 5 hx (List.all_eq_true.1 (jg cs bI) c hc)
 ·have ao:∀ i o,i≠id→st.h[i]? = some (some o)→cn o=true→∀ x j,p.O i x j→g≠x:=by
   intro i o hn h1 hl x j hO he;rcases hg with hg|⟨aK,hg⟩
   ·have:=((R.objs i o h1).own hl x j hO).2;omega
   ·exact hn (R.inj i id o _ h1 hi hl (dn aK) x j 0 hO (.inl (by omega)))
  rcases bA i o aG with ⟨rfl,rfl⟩|⟨hn,o1,h1,e1,_⟩<;>rcases bA i' o' bn with ⟨rfl,rfl⟩|⟨lD,o2,h2,e2,_⟩
  ·rfl
  ·exact absurd (sB hO).symm (ao i' o2 lD h2 (e2.trans ef) x j' ((ke lD).1 cw))
  ·exact absurd (sB cw).symm (ao i o1 hn h1 (e1.trans bs) x j ((ke hn).1 hO))
  ·exact R.inj i i' o1 o2 h1 h2 (e1.trans bs) (e2.trans ef) x j j' ((ke hn).1 hO) ((ke lD).1 cw)
theorem Ol {es:List (List AV)} {sz:Nat} {u:Nat→Nat→Value} {k:Nat} {x:List AV} {j:Nat} {c:AV} (hk:es[k]? = some x) (hj:x[j]? = some c) (hl:x.length=sz) :
  ((List.range es.length).flatMap fun k=>(List.range sz).map fun j=>if k < es.length then u k j else .bool false)[k*sz+j]? = some (u k j):=by
 have db:=(List.getElem?_eq_some_iff.1 hk).1;have b_:=(List.getElem?_eq_some_iff.1 hj).1;have key:∀ (n b:Nat),b+k < b+n→(((List.range' b n).flatMap fun k=>(List.range sz).map fun j=>if k < es.length then u k j else Value.bool false))[k*sz+j]? = some (if b+k < es.length then u (b+k) j else .bool false):=by
  clear db hk;induction k with
  | zero=>
   intro n b hn;cases n with
   | zero=>omega
   | succ n=>
    rw [List.range'_succ,List.flatMap_cons,List.getElem?_append_left (by simp;omega)];simp [show j < sz by omega]
  | succ k ih=>
   intro n b hn;cases n with
   | zero=>omega
   | succ n=>
    rw [List.range'_succ,List.flatMap_cons,List.getElem?_append_right (by simp [Nat.add_mul];omega)];have:=ih n (b+1) (by omega);simp only [List.length_map,List.length_range];rw [show (k+1)*sz+j - sz=k*sz+j by rw [Nat.add_mul];omega,this,show b+1+k=b+(k+1) by omega]
 have:=key es.length 0 (by omega);rw [show List.range es.length=List.range' 0 es.length from List.range_eq_range',this];simp [db]
end
section
variable {P:Program} {M0:Nat→Nat→Prop} {w0:Bas} {N:Nm} {p:Pl} {st:VS} {a:Act} {w:World}
theorem Ht {us:List Value} {cs:List AV} {d:Nat} (R:Rel M0 w0 N p st a w) (hd:N.has d) (hc:Cells w (Mof M0 st.h p) st.h p cs us) (t:TypeId) :
  Rel M0 w0 N (cS p st.h.length w.heap.size) ⟨(d,.ref st.h.length 0)::st.s,st.h++[some (.box cs)]⟩ (a.put (some d) (.pointer (some ⟨w.heap.size,0,none⟩))) { w with heap:=w.heap.push (.cells us.toArray t) }:=by
 have hb:=mO w (.cells us.toArray t);have lB:cS p st.h.length w.heap.size st.h.length=w.heap.size:=(lC p _ _).1;refine R.grow hb hd (fun _=>Nat.le_refl _) (fun _ _ _ _ _ h=>by cases h) ⟨tv R.below.size,us.toArray,t,by rw [lB];simp [-World.alloc_eq],by simp [hc.1],hc.2.1,fun j c hj=>?_⟩ ?_
 ·have eN:j < us.length:=by rw [hc.1];exact (List.getElem?_eq_some_iff.1 hj).1
  exact ⟨us[j],by simp [eN],R.growV hb (fun _=>Nat.le_refl _) (hc.2.2 j c us[j] hj (List.getElem?_eq_getElem eN))⟩
 ·have:=V1.ref (w:={ w with heap:=w.heap.push (.cells us.toArray t) }) (M:=Mof M0 (st.h++[some (.box cs)]) (cS p st.h.length w.heap.size)) (h:=st.h++[some (.box cs)]) (p:=cS p st.h.length w.heap.size) st.h.length 0 (by simp);rwa [lB] at this
theorem Hu {us:List Value} {es:List (List AV)} {d e sz:Nat} (R:Rel M0 w0 N p st a w) (hd:N.has d) (aM:0 < sz) (hlen:us.length=es.length*sz) (f_:es.length≤maxLen) (cI:∀ (k:Nat) (x:List AV),es[k]? = some x→x.length=sz∧∀ c∈x,cN c=true)
  (hv:∀ (k:Nat) (x:List AV) (j:Nat) (c:AV) (u:Value),es[k]? = some x→x[j]? = some c→us[k*sz+j]? = some u→V0 w (Mof M0 st.h p) c u) :
  Rel M0 w0 N (cS p st.h.length w.heap.size) ⟨(d,.osl st.h.length)::st.s,st.h++[some (.arr e sz false es)]⟩ (a.put (some d) (.slice (some ⟨w.heap.size,0,none⟩) es.length es.length)) { w with heap:=w.heap.push (.cells us.toArray e) }:=by
 have hb:=mO w (.cells us.toArray e);have lB:cS p st.h.length w.heap.size st.h.length=w.heap.size:=(lC p _ _).1;have hg:({ w with heap:=w.heap.push (.cells us.toArray e) } : World).heap[w.heap.size]? = some (.cells us.toArray e (0,0)):=by simp [-World.alloc_eq]
 have hM:=R.growM (ob:=.arr e sz false es) (b:=w.heap.size) (fun _=>Nat.le_refl _);refine R.grow hb hd (fun _=>Nat.le_refl _) (fun _ _ _ _ _ h=>by cases h) ⟨aM,cI,?_⟩ ?_
 ·rw [if_neg (by simp)];refine ⟨tv R.below.size,us.toArray,by rw [lB];exact hg,by simp [hlen],fun k x j c hk hj=>?_⟩;have db:=(List.getElem?_eq_some_iff.1 hk).1;have b_:=(List.getElem?_eq_some_iff.1 hj).1;have l_:=(cI k x hk).1;have h1:(k+1)*sz≤es.length*sz:=Nat.mul_le_mul_right _ db;rw [Nat.add_mul] at h1;have ao:k*sz+j < us.length:=by omega
  exact ⟨us[k*sz+j],by simp [ao],(hv k x j c _ hk hj (List.getElem?_eq_getElem ao)).keep (.of_below hb) hM⟩
 ·refine .osl _ _ _ _ (by simp) (fun e' bD kz es' he=>?_) fun e' bD kz pe qs he=>?_
  ·rw [List.getElem?_append_right (Nat.le_refl _)] at he;simp only [Nat.sub_self,List.getElem?_cons_zero,Option.some.injEq] at he;injection he with h1 h2 h3 h4
   subst h1 h2 h3 h4;unfold Osl;rw [if_neg (by simp),lB];exact ⟨es.length,us.toArray,rfl,hg,by simp [hlen],Nat.le_refl _,f_⟩
  ·rw [List.getElem?_append_right (Nat.le_refl _)] at he;simp at he
theorem Om {d e sz:Nat} (R:Rel M0 w0 N p st a w) (hd:N.has d) (aM:0 < sz) :
  Rel M0 w0 N (cS p st.h.length 0) ⟨(d,.osl st.h.length)::st.s,st.h++[some (.arr e sz true [])]⟩ (a.put (some d) (.slice none 0 0)) w:=by
 refine R.grow (Below.refl _ _) hd (fun h=>by cases h) (fun _ _ _ _ _ h=>by cases h) ⟨aM,by simp,by simp⟩ (.osl _ _ _ _ (by simp) (fun e' bD kz es' he=>?_) fun e' bD kz pe qs he=>?_)
 ·rw [List.getElem?_append_right (Nat.le_refl _)] at he;simp only [Nat.sub_self,List.getElem?_cons_zero,Option.some.injEq] at he;injection he with h1 h2 h3 h4
  subst h1 h2 h3 h4;simp [Osl]
 ·rw [List.getElem?_append_right (Nat.le_refl _)] at he;simp at he
theorem Hv {cs vs:List AV} {off:Nat} (dT:off+vs.length≤cs.length) (j:Nat) : (mn cs off vs)[j]? = if j < off then cs[j]? else if j < off+vs.length then vs[j - off]? else cs[j]?:=by
 unfold mn;by_cases h1:j < off
 ·rw [if_pos h1,List.append_assoc,List.getElem?_append_left (by simp;omega),List.getElem?_take_of_lt h1]
 ·rw [if_neg h1,List.append_assoc,List.getElem?_append_right (by simp;omega)];have e1:(cs.take off).length=off:=by simp;omega
  rw [e1];by_cases h2:j < off+vs.length
  ·rw [if_pos h2,List.getElem?_append_left (by omega)]
  ·rw [if_neg h2,List.getElem?_append_right (by omega),List.getElem?_drop];congr 1;omega
theorem Hw {cs vs:List Value} {off:Nat} (dT:off+vs.length≤cs.length) (j:Nat) : (cs.take off++vs++cs.drop (off+vs.length))[j]? = if j < off then cs[j]? else if j < off+vs.length then vs[j - off]? else cs[j]?:=by
 by_cases h1:j < off
 ·rw [if_pos h1,List.append_assoc,List.getElem?_append_left (by simp;omega),List.getElem?_take_of_lt h1]
 ·rw [if_neg h1,List.append_assoc,List.getElem?_append_right (by simp;omega)];have e1:(cs.take off).length=off:=by simp;omega
  rw [e1];by_cases h2:j < off+vs.length
  ·rw [if_pos h2,List.getElem?_append_left (by omega)]
  ·rw [if_neg h2,List.getElem?_append_right (by omega),List.getElem?_drop];congr 1;omega
theorem Hy {cs vs:List AV} {off:Nat} (h1:∀ c∈cs,cN c=true) (h2:∀ c∈vs,cN c=true) : ∀ c∈mn cs off vs,cN c=true:=by
 intro c hc;unfold mn at hc;rcases List.mem_append.1 hc with hc|hc
 ·rcases List.mem_append.1 hc with hc|hc
  ·exact h1 c (List.mem_of_mem_take hc)
  ·exact h2 c hc
 ·exact h1 c (List.mem_of_mem_drop hc)
theorem Hz {cs vs:List AV} {off:Nat} (dT:off+vs.length≤cs.length) : (mn cs off vs).length=cs.length:=by
 unfold mn;simp;omega
theorem wF (w:World) (g:Nat) (cs:Array Value) (b:Nat) (h:b≠g) : (w.setRow g cs).heap[b]? = w.heap[b]?:=by
 simp only [World.setRow,Array.getElem?_modify];rw [if_neg (by omega)]
theorem wG (w:World) (g:Nat) (cs:Array Value) : (w.setRow g cs).heap.size=w.heap.size:=by simp [World.setRow]
theorem CB {t:TypeId} {ti:TI} {g o:Nat} {cur:Array Value} {e:TypeId} {v:Value} (aX:aY P t=some ti) (aM:v.cells.size=ti.size) (hg:w.heap[g]? = some (.cells cur e (0,0))) (dT:o+ti.size≤cur.size) (h1:∀ x∈v.cells.toList,x.oneCell'=true) :
  (Instr.storeAt t (.pointer (some ⟨g,o,none⟩)) v).run P w = .ok () (w.setRow g (cur.toList.take o++v.cells.toList++cur.toList.drop (o+v.cells.toList.length)).toArray):=by
 have:=run_storeCells_at P g o e v.cells.toList 0 cur w hg (by simp;omega) h1;simp only [Nat.add_zero] at this;simp only [Instr.storeAt,Instr.sureAddr,Sem.run_bind,Sem.run_pure,Result.andThen_ok,storeVar,L5 aX,Sem.run_ite,aM,ne_eq,not_true_eq_false,if_false];exact this
theorem HJ {cs:List AV} {us:List Value} {M:Nat→Nat→Prop} {h:Hp} (hc:Cells w M h p cs us) : ∀ x∈us,x.oneCell'=true:=by
 intro x hx;obtain ⟨i,hi⟩:=List.mem_iff_getElem?.1 hx;have hl:i < cs.length:=by rw [←hc.1];exact (List.getElem?_eq_some_iff.1 hi).1
 exact (hc.2.2 i cs[i] x (List.getElem?_eq_getElem hl) hi).one (hc.2.1 _ (List.getElem_mem hl))
theorem HO {t:TypeId} {x y:Operand} {ti:TI} {id off:Nat} {cs:List AV} (R:Rel M0 w0 N p st a w) (aX:aY P t=some ti) (hx:ev st x = .ref id off) (hid:st.h[id]? = some (some (.box cs))) (h1:pb (ev st y)=true) (h2:(fY (ev st y)).length=ti.size) (h3:off+ti.size≤cs.length) :
  ∃ w',(Instr.storeAt t (a.eval x) (a.eval y)).run P w = .ok () w'∧Rel M0 w0 N p ⟨st.s,st.h.set id (some (.box (mn cs off (fY (ev st y)))))⟩ a w':=by
 have iQ:=R.eval x;rw [hx] at iQ;obtain ⟨hq,_⟩:=iQ.ref_inv;have aD:=(R.eval y).cells h1;obtain ⟨dq,cur,e,hg,bI,b9,hv⟩:=R.objs id _ hid;have gH:(a.eval y).cells.size=ti.size:=by rw [←Array.length_toList,aD.1,h2]
 refine ⟨_,by rw [hq];exact CB aX gH hg (by omega) (HJ aD),?_⟩;have dT:off+(a.eval y).cells.toList.length≤cur.toList.length:=by simp;omega
 have kg:off+(fY (ev st y)).length≤cs.length:=by omega
 have hlen:(a.eval y).cells.toList.length=(fY (ev st y)).length:=aD.1;have ao:=(Array.getElem?_eq_some_iff.1 hg).1;refine R.write hid rfl rfl (fun _ _ _ _ _ h=>by cases h) (fun _ _ _ _ _ h=>by cases h) (wG w _ _).symm rfl rfl rfl (fun b hb=>wF w _ _ b hb) rfl (fun e sz nl es v he=>by cases he) fun hV _=>?_;refine ⟨dq,_,e,setRow_heap w (p id) cur _ e _ hg,?_,Hy b9 aD.2.1,fun j c hj=>?_⟩
 ·rw [Hz kg];simp;omega
 ·rw [Hv kg] at hj;have bb:=Hw dT j;rw [hlen] at bb;split at hj
  ·rename_i ao;rw [if_pos ao] at bb;obtain ⟨u,hu,kK⟩:=hv j c hj;exact ⟨u,by rw [List.getElem?_toArray,hlen,bb];simpa using hu,hV kK⟩
  ·rename_i ao;rw [if_neg ao] at bb;split at hj
   ·rename_i lj;rw [if_pos lj] at bb;have b_:j - off < (a.eval y).cells.toList.length:=by rw [hlen];exact (List.getElem?_eq_some_iff.1 hj).1
    exact ⟨_,by rw [List.getElem?_toArray,hlen,bb];exact List.getElem?_eq_getElem b_,hV (aD.2.2 _ c _ hj (List.getElem?_eq_getElem b_))⟩
   ·rename_i lj;rw [if_neg lj] at bb;obtain ⟨u,hu,kK⟩:=hv j c hj;exact ⟨u,by rw [List.getElem?_toArray,hlen,bb];simpa using hu,hV kK⟩
theorem On {t:TypeId} {x y:Operand} {ti:TI} {id sz i off e:Nat} {nl:Bool} {es:List (List AV)} (R:Rel M0 w0 N p st a w) (aX:aY P t=some ti) (hx:ev st x = .aref id sz i off) (hid:st.h[id]? = some (some (.arr e sz nl es))) (hi:i < es.length) (h1:pb (ev st y)=true)
  (hp:(fY (ev st y)).all (e_ 5)=true) (h2:(fY (ev st y)).length=ti.size) (h3:off+ti.size≤sz) :
  ∃ w',(Instr.storeAt t (a.eval x) (a.eval y)).run P w = .ok () w'∧Rel M0 w0 N p ⟨st.s,st.h.set id (some (.arr e sz nl (es.set i (mn (es.getD i []) off (fY (ev st y))))))⟩ a w':=by
 have iQ:=R.eval x;rw [hx] at iQ;obtain ⟨hq,_⟩:=iQ.aref_inv;have aD:=(R.eval y).cells h1;obtain ⟨aM,cI,hr⟩:=R.objs id _ hid;have aK:nl=false:=by cases nl;rfl;simp only [if_true] at hr;subst hr;simp at hi
 subst aK;simp only [Bool.false_eq_true,if_false] at hr;obtain ⟨dq,cur,hg,bI,hv⟩:=hr;have gH:(a.eval y).cells.size=ti.size:=by rw [←Array.length_toList,aD.1,h2]
 have hlen:(a.eval y).cells.toList.length=(fY (ev st y)).length:=aD.1;have CC:es[i]? = some (es.getD i []):=by simp [List.getD,hi]
 obtain ⟨l_,wH⟩:=cI i _ CC;have aR:(i+1)*sz≤es.length*sz:=Nat.mul_le_mul_right _ hi;rw [Nat.add_mul] at aR;refine ⟨_,by rw [hq];exact CB aX gH hg (by omega) (HJ aD),?_⟩;have dT:i*sz+off+(a.eval y).cells.toList.length≤cur.toList.length:=by simp;omega
 have kg:off+(fY (ev st y)).length≤(es.getD i []).length:=by omega
 have kh:∀ (j:Nat) (c:AV) (u:Value),(fY (ev st y))[j]? = some c→(a.eval y).cells.toList[j]? = some u→V0 w (Mof M0 st.h p) c u:=fun j c u hc hu=>(aD.2.2 j c u hc hu).pure 5 (List.all_eq_true.1 hp c (List.mem_of_getElem? hc));refine R.write hid rfl rfl (fun _ _ _ _ _ h=>by cases h) (fun _ _ _ _ _ h=>by cases h) (wG w _ _).symm rfl rfl rfl (fun b hb=>wF w _ _ b hb) rfl (fun e' bD kz es' v he ho=>?_) fun _ dM=>⟨aM,fun k z hk=>?_,?_⟩
 ·injection he with q1 q2 q3 q4
  subst q1 q2 q3 q4;have:=ho _ _ _ _ rfl;unfold Osl at this ⊢;simp only [Bool.false_eq_true,if_false,List.length_set] at this ⊢;obtain ⟨cap,cur',b1,b2,b3,b4⟩:=this;obtain rfl:cur'=cur:=by rw [hg] at b2;injection b2 with b2;injection b2 with b2;exact b2.symm
  refine ⟨cap,_,b1,setRow_heap w (p id) cur' _ e _ hg,?_,b4⟩;rw [←b3];simp;simp at dT;omega
 ·rw [List.getElem?_set] at hk;split at hk
  ·first|rw [if_pos hi] at hk|skip
   simp only [Option.some.injEq] at hk;subst hk;exact ⟨by rw [Hz kg,l_],Hy wH aD.2.1⟩
  ·exact cI k z hk
 ·simp only [Bool.false_eq_true,if_false];refine ⟨dq,_,setRow_heap w (p id) cur _ e _ hg,?_,fun k z j c hk hj=>?_⟩
  ·simp;simp at dT;omega
  ·have bb:=Hw dT (k*sz+j);rw [hlen] at bb;rw [List.getElem?_set] at hk;split at hk
   ·rename_i jH;subst jH;first|rw [if_pos hi] at hk|skip
    simp only [Option.some.injEq] at hk;subst hk;rw [Hv kg] at hj;split at hj
    ·rename_i ao;rw [if_pos (by omega)] at bb;obtain ⟨u,hu,kK⟩:=hv i _ j c CC hj;exact ⟨u,by rw [List.getElem?_toArray,hlen,bb];simpa using hu,dM kK⟩
    ·rename_i ao;rw [if_neg (by omega)] at bb;split at hj
     ·rename_i lj;rw [if_pos (by omega)] at bb;have b_:j - off < (a.eval y).cells.toList.length:=by rw [hlen];exact (List.getElem?_eq_some_iff.1 hj).1
      refine ⟨(a.eval y).cells.toList[j - off],?_,dM (kh _ c _ hj (List.getElem?_eq_getElem b_))⟩;rw [List.getElem?_toArray,hlen,bb,show i*sz+j - (i*sz+off)=j - off by omega];exact List.getElem?_eq_getElem b_
     ·rename_i lj;rw [if_neg (by omega)] at bb;obtain ⟨u,hu,kK⟩:=hv i _ j c CC hj;exact ⟨u,by rw [List.getElem?_toArray,hlen,bb];simpa using hu,dM kK⟩
   ·rename_i jH;obtain ⟨u,hu,kK⟩:=hv k z j c hk hj;have vt:=(cI k z hk).1;have b_:=(List.getElem?_eq_some_iff.1 hj).1;have CD:k*sz+j < i*sz+off∨i*sz+off+(fY (ev st y)).length≤k*sz+j:=by
     rcases Nat.lt_or_ge k i with ao|Oo
     ·left;have:(k+1)*sz≤i*sz:=Nat.mul_le_mul_right _ ao;rw [Nat.add_mul] at this;omega
     ·right;have:(i+1)*sz≤k*sz:=Nat.mul_le_mul_right _ (by omega);rw [Nat.add_mul] at this;omega
    refine ⟨u,?_,dM kK⟩;rw [List.getElem?_toArray,hlen,bb];rcases CD with h|h
    ·rw [if_pos h];simpa using hu
    ·rw [if_neg (by omega),if_neg (by omega)];simpa using hu
end
section
variable {P:Program} {M0:Nat→Nat→Prop} {w0:Bas} {N:Nm} {p:Pl} {st:VS} {a:Act} {w:World}
theorem ug {d:Option Tmp} {av:AV} {ob:Ob} {aL:VS} (h:p7 st d av ob=some aL) : ∃ t,d=some t∧aL=⟨(t,av)::st.s,st.h++[some ob]⟩:=by
 unfold p7 at h;cases d with
 | none=>cases h
 | some t=>exact ⟨t,rfl,(Option.some.inj h).symm⟩
theorem E6 {t:TypeId} {ti te:TI} {n:Nat} (aX:aY P t=some ti) (fM:aY P ti.elem=some te) (hk:ti.kind=1) (h1:te.size=ti.esz) (h2:te.zero.length=ti.esz) (h3:ti.esz≠0) (hn:n≤1000000000) (gJ:te.bytes≤100000) :
  (Instr.makeSlice t (.int .i64 n) (.int .i64 n)).run P w = .ok (.slice (some ⟨w.heap.size,0,none⟩) n n) { w with heap:=w.heap.push (.cells (fE te.zero n).toArray ti.elem) }:=by
 obtain ⟨z,hz,fO,kA⟩:=pK fM;have hu:=lR aX hk;have fr:ti.esz=dP P ti.elem:=by obtain ⟨d,i,z,hd,hi,hz,fw,rfl⟩:=eS aX;rfl
 have bY:0 < dP P ti.elem:=by omega
 have wI:∃ i:TypeInfo,(typeInfo ti.elem).run P w = .ok i w∧i.bytes=te.bytes:=by
  obtain ⟨d,i,z,hd,hi,hz,fw,rfl⟩:=eS fM;exact ⟨i,by simp [typeInfo,hi],rfl⟩
 obtain ⟨inf,gP,hb⟩:=wI;have hw:IntKind.i64.wrap (n:Int)=n:=IntWalk.i64_in _ (by omega);have hmul:inf.bytes*n≤100000*1000000000:=Nat.mul_le_mul (by omega) hn;have HV:(inf.bytes:Int)*(n:Int)≤100000000000000:=by
  have:((inf.bytes*n:Nat) : Int)≤((100000*1000000000:Nat) : Int):=Int.ofNat_le.2 hmul;simpa using this
 have bV:¬((n:Int) < 0):=by omega
 have p4:¬((inf.bytes:Int)*(n:Int) > 2 ^ 48):=by omega
 have fa:z.cells.size=dP P ti.elem:=by rw [←Array.length_toList,hz,h2,fr]
 have aR:=GW z.cells n (by omega);rw [hz] at aR;have sC:(Array.range (n*z.cells.size)).map (z.cells[· % z.cells.size]!)=(fE te.zero n).toArray:=by rw [←aR]
 have CF:decide ((inf.bytes:Int)*(n:Int) > 2 ^ 48)=false:=by simp;omega
 have gE:¬((n:Int) > (n:Int)):=by omega
 simp only [Instr.makeSlice,Sem.run_bind,run_underlying hu,Result.andThen_ok,asInt,asIntOf,Sem.run_pure,gP,hw,CF,Sem.run_ite,bV,gE,decide_false,Bool.or_false,Bool.false_or,Bool.false_eq_true,if_false,run_askRoom,Int.toNat_natCast,ky bY];by_cases h0:n*dP P ti.elem=0
 ·have wm:n=0:=by
   rcases Nat.mul_eq_zero.1 h0 with h|h
   ·exact h
   ·omega
  subst wm;have e0:∀ f:Nat→Value,(Array.range 0).map f=#[]:=fun f=>by simp
  simp [newRow,fE,e0]
 ·simp only [Sem.run_bind,kA,Result.andThen_ok,Sem.run_pure,←fa,sC,newRow,run_newObj];rw [if_neg (by rw [fa];exact h0)]
theorem ER {z:List Value} {n:Nat} : ∀ (k j:Nat) (c:AV) (u:Value),k < n→(z.map AV.lit)[j]? = some c→(fE z n)[k*z.length+j]? = some u→c = .lit u:=by
 intro k j c u hk hj hu;have b_:j < z.length:=by simpa using (List.getElem?_eq_some_iff.1 hj).1
 have ao:k*z.length+j < n*z.length:=by
  have:(k+1)*z.length≤n*z.length:=Nat.mul_le_mul_right _ hk;rw [Nat.add_mul] at this;omega
 rw [Ce z n _ ao,Nat.mul_comm,Nat.mul_add_mod,Nat.mod_eq_of_lt b_] at hu;rw [List.getElem?_map,hu] at hj;simpa using hj.symm
theorem Oq (a:Addr) : loadCells a 0=pure #[]:=rfl
theorem AG {P:Program} {w:World} {t ty e:TypeId} {i:TypeInfo} (ht:P.underlying t=some (.slice e)) (hi:P.info? e=some i) (a0:Addr) (B:Option Addr) (m c:Nat) (hm:0 < m) (hb:m*i.bytes≤281474976710656) (tJ:m≤1000000000) :
  (Builtin.append_ #[t,t] ty #[.slice (some a0) 0 0,.slice B m c]).run P w=(Builtin.append_ #[t,t] ty #[.slice none 0 0,.slice B m c]).run P w:=by
 have h1:¬m=0:=by omega
 have h2:Builtin.nextslicecap m 0=m:=by unfold Builtin.nextslicecap;rw [if_pos (by omega)]
 have h3:¬(281474976710656 < m*i.bytes):=by omega
 have h4:¬((9223372036854775807:Int) < m):=by omega
 simp [Builtin.append_,run_underlying ht,sizeOf,typeInfo,hi,Builtin.lenOf,Builtin.firstCells,h1,h2,h3,h4,Oq]
theorem H0 {t ty e id sz d:Nat} {x y:Operand} {ti te:TI} {nl:Bool} {es' es:List (List AV)} {H3:Array TypeId} (R:Rel M0 w0 N p st a w) (hd:N.has d) (aX:aY P t=some ti) (hx:ev st x = .osl id) (hy:ev st y = .sl sz es) (hid:st.h[id]? = some (some (.arr e sz nl es'))) (fM:aY P ti.elem=some te)
  (hk:ti.kind=1) (he:ti.elem=e) (_hez:ti.esz=sz) (h1:te.size=sz) (h2:te.zero.length=sz) (dI:nl=true→0 < es.length) (f_:es'.length+es.length≤1000000000) (gJ:te.bytes≤100000) (CG:H3=#[t,t]) :
  ∃ v w' p',(Builtin.append_ H3 ty #[a.eval x,a.eval y]).run P w = .ok v w'∧Rel M0 w0 N p' ⟨(d,.osl id)::st.s.map (fun q=>(q.1,purge id q.2)),fZ id 0 (st.h.set id (some (.arr e sz false (es'++es))))⟩ (a.put (some d) v) w':=by
 subst CG;subst he;have iQ:=R.eval x;rw [hx] at iQ;have jW:=R.eval y;rw [hy] at jW;obtain ⟨A0,n0,c0,hq,eD,bo⟩:=iQ.osl_inv;have bo:=bo _ _ _ _ hid;obtain ⟨aM,wJ,hr⟩:=R.objs id _ hid;obtain ⟨dd,inf,z,eu,hi,hz,fO,im⟩:=eS fM;have bz:inf.size=sz:=by rw [←h1,im]
 have fa:z.cells.size=sz:=by rw [←h2,im,Array.length_toList]
 have mr:inf.bytes≤100000:=by rw [im] at gJ;exact gJ
 have hu:=lR aX hk;have Ot:∃ vx:Value,(Builtin.append_ #[t,t] ty #[a.eval x,a.eval y]).run P w=(Builtin.append_ #[t,t] ty #[vx,a.eval y]).run P w∧(if nl=true then vx = .slice none 0 0∧es'.length=0 else ∃ cap cur,vx = .slice (some ⟨p id,0,none⟩) es'.length cap∧w.heap[p id]? = some (.cells cur ti.elem (0,0))∧cur.size=cap*sz∧es'.length≤cap∧cap≤maxLen):=by
  unfold Osl at bo;cases nl
  ·simp only [Bool.false_eq_true,if_false] at bo ⊢;exact ⟨_,rfl,bo⟩
  ·simp only [if_true] at bo ⊢;obtain ⟨⟨A,hA⟩,h0⟩:=bo;refine ⟨_,?_,rfl,h0⟩;cases A with
   | none=>rw [hA]
   | some a0=>
    have pS:=dI rfl;have cB:=jW.sl_inv;have dj:es.length*inf.bytes≤281474976710656:=by
     have:es.length*inf.bytes≤1000000000*100000:=Nat.mul_le_mul (by omega) mr;omega
    obtain ⟨B,c,hB⟩ : ∃ B c,a.eval y = .slice B es.length c:=by
     generalize a.eval y=yv at cB;cases cB with
     | slNil=>simp at pS
     | sl _ _ cap b o u=>exact ⟨_,_,rfl⟩
    rw [hA,hB];exact AG hu hi a0 B es.length c pS dj (by omega)
 obtain ⟨vx,bZ,bo⟩:=Ot;rw [bZ];clear bZ;have cF:∃ xs,w.ownsRow 0 ti.elem sz vx es'.length xs∧(nl=true→xs=[]∧es'=[])∧(nl=false→∃ cap cur,vx = .slice (some ⟨p id,0,none⟩) es'.length cap∧w.heap[p id]? = some (.cells cur ti.elem (0,0))∧xs=cur.toList.take (es'.length*sz)∧es'.length*sz≤cur.size):=by
  cases nl
  ·simp only [Bool.false_eq_true,if_false] at hr;simp only [Bool.false_eq_true,if_false] at bo;obtain ⟨cap,cur,b1,b2,b3,b4,b5⟩:=bo;obtain ⟨dq,cur',hg,hle,hv⟩:=hr;obtain rfl:cur'=cur:=by rw [hg] at b2;injection b2 with b2;injection b2
   refine ⟨cur'.toList.take (es'.length*sz),⟨by simp;omega,.inr ⟨p id,cap,cur',b1,Nat.zero_le _,hg,b4,b5,b3,rfl⟩⟩,(fun h=>by cases h),fun _=>⟨cap,cur',b1,hg,rfl,hle⟩⟩
  ·simp only [if_true] at hr;subst hr;simp only [if_true] at bo;exact ⟨[],⟨by simp,.inl ⟨bo.1,rfl⟩⟩,fun _=>⟨rfl,rfl⟩,fun h=>by cases h⟩
 obtain ⟨xs,cF,q_,lU⟩:=cF;obtain ⟨A1,m,c1,u,pn,hm,hS,wK,pA⟩ : ∃ (A1:Option Addr) (m c1:Nat) (u:Nat→Nat→Value),a.eval y = .slice A1 m c1∧m=es.length∧Sl (fun k=>(List.range sz).map fun j=>if k < es.length then u k j else .bool false) sz w A1 (List.range es.length) ∧
   (∀ k j,k < es.length→j < sz→(u k j).oneCell'=true)∧∀ (k:Nat) (x:List AV) (j:Nat) (c:AV),es[k]? = some x→x[j]? = some c→x.length=sz∧cN c=true∧V0 w (Mof M0 st.h p) c (u k j):=by
  have cB:=jW.sl_inv;generalize a.eval y=yv at cB;cases cB with
  | slNil _ A cap=>exact ⟨A,0,cap,fun _ _=>undef,rfl,rfl,fun h=>absurd rfl h,by simp,by simp⟩
  | sl _ _ cap b o u aq hb hM dy iH b9 aD iv=>
   refine ⟨_,_,_,u,rfl,rfl,fun _=>⟨b,o,rfl,fun k q hk j v hj=>?_⟩,fun k j hk hj=>?_,fun k x j c hk hj=>⟨iH k x hk,b9 k x j c hk hj,iv k x j c hk hj⟩⟩
   ·have db:k < es.length:=by simpa using (List.getElem?_eq_some_iff.1 hk).1
    have tK:k=q:=by simpa using (List.getElem?_eq_some_iff.1 hk).2
    subst tK;have b_:j < sz:=by simpa using (List.getElem?_eq_some_iff.1 hj).1
    have:v=u k j:=by
     have:=(List.getElem?_eq_some_iff.1 hj).2;simp [db] at this;exact this.symm
    rw [this];exact aD k j db b_
   ·have hx:=List.getElem?_eq_getElem hk;have b_:j < es[k].length:=by rw [iH k _ hx];exact hj
    exact (iv k _ j _ hx (List.getElem?_eq_getElem b_)).one (b9 k _ j _ hx (List.getElem?_eq_getElem b_))
 subst hm;rw [pn];have nU:=E9 _ cF;obtain ⟨A,c,uh⟩:=nU;rw [uh] at cF ⊢;have dj:(es'.length+es.length)*inf.bytes≤140737488355328:=by
  have:(es'.length+es.length)*inf.bytes≤1000000000*100000:=Nat.mul_le_mul f_ mr;omega
 obtain ⟨A2,c2,w',aC,wL,kk,b8⟩:=Ks (P:=P) w 0 t ty ti.elem inf z sz inf.bytes hu hi hz bz rfl fa aM (C:=fun k=>(List.range sz).map fun j=>if k < es.length then u k j else .bool false) (fun x=>by simp) (fun x v hv=>by
  obtain ⟨j,hj,rfl⟩:=List.mem_map.1 hv;split
  ·rename_i hx;exact wK x j hx (by simpa using hj)
  ·rfl) A es'.length c xs cF A1 es.length c1 (List.range es.length) (by simp) hS (by simp only [maxLen];omega) dj (Nat.zero_le _)
 have p9:(Value.slice A2 (es'.length+es.length) c2)≠.slice none 0 0:=by
  intro hh;injection hh with q1 q2 q3
  subst q1;rcases b8 with hb|hb
  ·cases nl
   ·obtain ⟨cap,cur,b1,_⟩:=lU rfl;rw [uh] at b1;injection b1 with b1
    subst b1;simp [Value.ownBlock] at hb
   ·have:=dI rfl;omega
  ·simp [Value.ownBlock] at hb
 rcases wL.2 with ⟨h,_⟩|⟨g,n7,lk,Ou,Ov,mu,iG,eP,cL,jl⟩
 ·exact absurd h p9
 ·injection Ou with q1 q2 q3
  subst q1;subst q3;have n8:g=w.heap.size∨(nl=false∧g=p id):=by
   rcases b8 with hb|hb
   ·right;cases nl
    ·obtain ⟨cap,cur,b1,_⟩:=lU rfl;rw [uh] at b1;injection b1 with b1
     subst b1;simp [Value.ownBlock] at hb;exact ⟨rfl,hb⟩
    ·rcases cF.2 with ⟨h,_⟩|⟨g',du,cur',h,_⟩
     ·injection h with h1
      subst h1;simp [Value.ownBlock] at hb
     ·have:=(q_ rfl)
      simp only [if_true] at bo;rw [uh,h] at bo;have:=bo.1;injection this with h1
      cases h1
   ·left;simpa [Value.ownBlock] using hb
  have aR:∀ b,b < w.heap.size→¬(nl=false∧b=p id)→w'.heap[b]? = w.heap[b]?:=by
   intro b hb hn;refine kk.block b hb fun hs=>?_;cases nl
   ·obtain ⟨cap,cur,b1,_⟩:=lU rfl;rw [uh] at b1;injection b1 with b1
    subst b1;simp [Value.ownBlock] at hs;exact hn ⟨rfl,hs⟩
   ·unfold Osl at bo;simp only [if_true] at bo;rw [uh] at bo;have:=bo.1;injection this with h1
    subst h1;simp [Value.ownBlock] at hs
  have wM:∀ j,Fr w0 g j:=fun j=>by
   rcases n8 with h|⟨h,h2⟩
   ·exact .inl (by rw [h];exact R.below.size)
   ·subst h;rw [h2];exact (R.objs id _ hid).ge rfl j
  refine ⟨_,w',cS p id g,aC,?_⟩;refine R.append hd hid wM n8 kk.os kk.tape kk.output kk.size aR (fun dM=>⟨aM,fun k x hk=>?_,?_⟩) ?_
  ·rcases Nat.lt_or_ge k es'.length with ao|dq
   ·rw [List.getElem?_append_left ao] at hk;exact wJ k x hk
   ·rw [List.getElem?_append_right dq] at hk;have wN:0 < x.length∨x=[]:=by cases x;right;rfl;left;simp
    refine ⟨?_,fun c hc=>?_⟩
    ·rcases wN with wN|wN
     ·exact (pA _ x 0 x[0] hk (List.getElem?_eq_getElem wN)).1
     ·exfalso;have cB:=jW.sl_inv;generalize a.eval y=yv at cB;cases cB with
      | slNil=>simp at hk
      | sl _ _ _ _ _ _ _ _ _ _ iH=>have:=iH _ x hk;subst wN;simp at this;omega
    ·obtain ⟨j,hj⟩:=List.mem_iff_getElem?.1 hc;exact (pA _ x j c hk hj).2.1
  ·simp only [Bool.false_eq_true,if_false];refine ⟨⟨fun j=>by rw [(lC p id g).1];exact wM j,(lC p id g).2⟩,lk,by rw [(lC p id g).1];exact mu,by rw [cL,List.length_append];exact Nat.mul_le_mul_right _ iG,fun k x j c hk hj=>?_⟩;have ra:∀ i v,i < (es'.length+es.length)*sz→(xs++(List.range es.length).flatMap fun k=>(List.range sz).map fun j=>if k < es.length then u k j else .bool false)[i]? = some v→lk[i]? = some v:=by
    intro i v hi hh;rw [←jl,List.getElem?_take_of_lt hi] at hh;simpa using hh
   have l_:xs.length=es'.length*sz:=cF.1;have b_:=(List.getElem?_eq_some_iff.1 hj).1;rcases Nat.lt_or_ge k es'.length with ao|dq
   ·rw [List.getElem?_append_left ao] at hk;have aK:nl=false:=by cases nl;rfl;have:=(q_ rfl).2;subst this;simp at ao
    subst aK;simp only [Bool.false_eq_true,if_false] at hr;obtain ⟨_,cur',fj,pB,iv⟩:=hr;obtain ⟨cap,cur,b1,b2,b3,b4⟩:=lU rfl;obtain rfl:cur'=cur:=by rw [fj] at b2;injection b2 with b2;injection b2
    obtain ⟨v,hv,cB⟩:=iv k x j c hk hj;have Ow:=(wJ k x hk).1;have h3:(k+1)*sz≤es'.length*sz:=Nat.mul_le_mul_right _ ao;rw [Nat.add_mul] at h3;refine ⟨v,ra _ v ?_ ?_,dM cB⟩
    ·rw [Nat.add_mul];omega
    ·rw [List.getElem?_append_left (by omega),b3,List.getElem?_take_of_lt (by omega)];simpa using hv
   ·rw [List.getElem?_append_right dq] at hk;obtain ⟨CH,_,cB⟩:=pA _ x j c hk hj;have db:=(List.getElem?_eq_some_iff.1 hk).1;refine ⟨u (k - es'.length) j,ra _ _ ?_ ?_,dM cB⟩
    ·have h3:(k - es'.length+1)*sz≤es.length*sz:=Nat.mul_le_mul_right _ db;have h4:k*sz=es'.length*sz+(k - es'.length)*sz:=by rw [←Nat.add_mul];congr 1;omega
     rw [Nat.add_mul] at h3;rw [Nat.add_mul];omega
    ·have h4:k*sz=es'.length*sz+(k - es'.length)*sz:=by rw [←Nat.add_mul];congr 1;omega
     rw [List.getElem?_append_right (by omega),l_,show k*sz+j - es'.length*sz=(k - es'.length)*sz+j by omega];exact Ol hk hj CH
  ·unfold Osl;simp only [Bool.false_eq_true,if_false,List.length_append];exact ⟨_,lk,rfl,mu,cL,iG,eP⟩
def cU (N:Nm) (o:Oper) : Bool:=match o.dst with|some d=>Nat.ble N.k d&&Nat.blt d N.n|none=>true
theorem eZ {o:Oper} (hd:cU N o=true) : ∀ t,o.dst=some t→N.has t:=by
 intro t ht;unfold cU at hd;rw [ht] at hd;simpa [Nm.has] using hd
theorem Ox {t:TypeId} {kf:Nat×IntKind} {d:Nat} (R:Rel M0 w0 N p st a w) (hd:N.has d) : (Instr.makeMap t none).run P w = .ok (.map (some w.heap.size)) (w.alloc (.map #[] 0))∧Rel M0 w0 N (cS p st.h.length w.heap.size) ⟨(d,.mp st.h.length)::st.s,st.h++[some (.mpo kf [])]⟩ (a.put (some d) (.map (some w.heap.size))) (w.alloc (.map #[] 0)):=by
 have hb:Below w.heap.size w (w.alloc (.map #[] 0)):=(Below.refl _ w).alloc (Nat.le_refl _) _;have aD:(w.alloc (.map #[] 0)).heap[w.heap.size]? = some (.map #[] 0):=(MapKept.heap_alloc w _).1;refine ⟨rfl,R.grow hb hd (fun _=>Nat.le_refl _) (fun _ _ _ _ _ h=>by cases h) ⟨tv R.below.size,(fun q hq=>(by cases hq)),#[],0,?_,rfl,L8 _⟩ ?_⟩
 ·rw [(lC p _ _).1];exact aD
 ·have:=V1.mp (w:=w.alloc (.map #[] 0)) (M:=Mof M0 (st.h++[some (.mpo kf [])]) (cS p st.h.length w.heap.size)) (h:=st.h++[some (Ob.mpo kf [])]) (p:=cS p st.h.length w.heap.size) st.h.length (by simp);simpa [cS] using this
theorem H4 {t:TypeId} {m x y:Operand} {aL:VS} (R:Rel M0 w0 N p st a w) (ht:wu P st t m x y=some aL) : ∃ w',(Instr.mapUpdate t (a.eval m) (a.eval x) (a.eval y)).run P w = .ok () w'∧Rel M0 w0 N p aL a w':=by
 unfold wu at ht;split at ht
 ·rename_i kf z id key val tU hm hx hy;split at ht
  ·rename_i tT iD hid;split at ht
   ·rename_i hc;obtain ⟨rfl,ka⟩:=hc;simp only [Option.some.injEq] at ht;subst ht;have em:=R.eval m;rw [hm] at em;obtain ⟨em,_⟩:=em.mp_inv;have ex:a.eval x=key:=by have:=R.eval x;rw [hx] at this;exact this.lit_inv
    have ey:a.eval y=val:=by have:=R.eval y;rw [hy] at this;exact this.lit_inv
    obtain ⟨h1,h2,es,clock,hg,h3,fu⟩:=R.objs id _ hid;obtain ⟨es',clock',aC,wk,CI⟩:=MA (P:=P) (v:=val) tU ka hg (fun q hq=>h2 (q.key,q.val) (by rw [←h3];exact List.mem_map.2 ⟨q,hq,rfl⟩)) fu;refine ⟨_,by rw [em,ex,ey];exact aC,?_⟩;have ao:p id < w.heap.size:=(Array.getElem?_eq_some_iff.1 hg).1;refine R.write hid rfl rfl (fun _ _ _ _ _ h=>by cases h) (fun _ _ _ _ _ h=>by cases h) (by simp [ChangeMaps.setBlock]) rfl rfl rfl (fun b hb=>ChangeMaps.heap_setBlock_other hg _ hb) rfl (fun e sz nl es v h=>by cases h) fun _ _=>?_;refine ⟨h1,fun q hq=>?_,es',clock',ChangeMaps.heap_setBlock_same hg _,by rw [wk,h3],CI⟩;have n_:∀ (l:List (Value×Value)),(∀ q∈l,jL q.1=some kf)→∀ q∈iN key val l,jL q.1=some kf:=by
     intro l;induction l with
     | nil=>intro _ q hq;simp [iN] at hq;subst hq;exact ka
     | cons c l ih=>
      intro hl q hq;obtain ⟨ck,cv⟩:=c;simp only [iN] at hq;split at hq
      ·rcases List.mem_cons.1 hq with rfl|hq
       ·exact ka
       ·exact hl q (List.mem_cons_of_mem _ hq)
      ·rcases List.mem_cons.1 hq with rfl|hq
       ·exact hl _ (List.mem_cons_self ..)
       ·exact ih (fun q hq=>hl q (List.mem_cons_of_mem _ hq)) q hq
    exact n_ iD h2 q hq
   ·cases ht
  ·cases ht
 ·cases ht
theorem zr (R:Rel M0 w0 N p st a w) {ow:List Nat} {o:Oper} {aL:VS} (hd:cU N o=true) (ht:jN P ow st o=some aL) :
  ∃ v w' p',(execOp a.eval o).run P w = .ok (.value v) w'∧Rel M0 w0 N p' aL (a.put o.dst v) w'∨(execOp a.eval o).run P w = .ok .skip w'∧v=undef∧Rel M0 w0 N p' aL (a.put o.dst undef) w':=by
 have ao:=eZ hd;obtain ⟨dst,op,ty,pos,after,guard⟩:=o;simp only at ao;unfold jN at ht;simp only at ht;split at ht
 ·rename_i t;split at ht
  ·rename_i ti aX;obtain ⟨d,eu,rfl⟩:=ug ht;subst eu;obtain ⟨z,hz,fO,kA⟩:=pK aX;have hc:Cells w (Mof M0 st.h p) st.h p (ti.zero.map .lit) z.cells.toList:=by rw [hz];exact Cells.of_lits _ fO
   refine ⟨.pointer (some ⟨w.heap.size,0,none⟩),_,_,.inl ⟨?_,Ht R (ao d rfl) hc t⟩⟩;simp [execOp,Instr.alloc,kA,newVar,newRow]
  ·cases ht
 ·rename_i t x;split at ht
  ·rename_i hc;simp only [Bool.and_eq_true] at hc;obtain ⟨d,eu,rfl⟩:=ug ht;subst eu;refine ⟨.pointer (some ⟨w.heap.size,0,none⟩),_,_,.inl ⟨?_,Ht R (ao d rfl) ((R.eval x).cells hc.2) t⟩⟩;simp [execOp,Instr.box,newVar,newRow]
  ·cases ht
 ·rename_i t n parts;split at ht
  ·split at ht
   ·rename_i cs ti aR;split at ht
    ·rename_i hp;obtain ⟨d,eu,rfl⟩:=ug ht;subst eu;obtain ⟨us,aC,hc,hlen,aX,hk,bY⟩:=zb (P:=P) (w:=w) (M:=Mof M0 st.h p) (h:=st.h) (p:=p) (vals:=parts.map fun (i,x)=>(i,a.eval x)) (by simp) (fun i b v hb hv=>by
      obtain ⟨x,hx,rfl⟩:=ec hb;simp only [Array.toList_map] at hv;obtain ⟨y,hy,rfl⟩:=ec hv;rw [hx] at hy;obtain rfl:=Option.some.inj hy;exact R.eval x.2) aR
     have jE:=xH ti.esz n cs;have bb:=fun k e=>xI ti.esz n cs k e (by omega);have p4:n≤maxLen:=by
      unfold sj at aR;rw [aX] at aR;simp only at aR;split at aR
      ·cases aR
      ·split at aR
       ·rename_i eI;have:=eI.2.2.2.2;have h2:n*1≤n*ti.esz:=Nat.mul_le_mul_left _ bY;simp only [maxLen];omega
       ·cases aR
     have hrel:=Hu (es:=jD ti.esz n cs) (e:=ti.elem) (sz:=ti.esz) R (ao d rfl) bY (us:=us) (by rw [hc.1,hlen,jE]) (by rw [jE];exact p4) (fun k x hk=>⟨(bb k x hk).1,fun c fN=>by
      obtain ⟨j,hj⟩:=List.mem_iff_getElem?.1 fN;exact hc.2.1 c (List.mem_of_getElem? ((bb k x hk).2 j c hj))⟩) (fun k x j c u hk hj hu=>by
      have h1:=(bb k x hk).2 j c hj;exact (hc.2.2 _ c u h1 hu).pure 5 (List.all_eq_true.1 hp c (List.mem_of_getElem? h1)))
     rw [jE] at hrel;refine ⟨_,_,_,.inl ⟨?_,hrel⟩⟩;simp only [execOp,Sem.run_bind,aC];rfl
    ·cases ht
   ·cases ht
  ·cases ht
 ·split at ht
  ·split at ht
   ·rename_i ti aX;split at ht
    ·rename_i hc;obtain ⟨d,eu,rfl⟩:=ug ht;subst eu;exact ⟨.slice none 0 0,w,_,.inl ⟨rfl,Om R (ao d rfl) (Nat.pos_of_ne_zero hc.2)⟩⟩
    ·cases ht
   ·cases ht
  ·cases ht
 ·rename_i t l c;split at ht
  ·rename_i ti n m aX hl cK;split at ht
   ·rename_i te fM;split at ht
    ·rename_i hc;obtain ⟨hk,h1,h2,h3,cW,h0,hn,gJ⟩:=hc;subst cW;obtain ⟨d,eu,rfl⟩:=ug ht;subst eu;have e1:a.eval l = .int .i64 n:=by have:=R.eval l;rw [hl] at this;exact this.lit_inv
     have e2:a.eval c = .int .i64 n:=by have:=R.eval c;rw [cK] at this;exact this.lit_inv
     obtain ⟨k,rfl⟩:=Int.eq_ofNat_of_zero_le h0;have aC:=E6 (P:=P) (w:=w) aX fM hk h1 h2 h3 (n:=k) (by omega) gJ;obtain ⟨z,hz,fO,kA⟩:=pK fM;have hrel:=Hu (es:=List.replicate k (te.zero.map .lit)) (e:=ti.elem) (sz:=ti.esz) (us:=fE te.zero k) R (ao d rfl) (Nat.pos_of_ne_zero h3) (by rw [tu,h2,List.length_replicate]) (by rw [List.length_replicate];simp only [maxLen];omega) (fun i x hx=>by
      obtain ⟨_,rfl⟩:=List.mem_replicate.1 (List.mem_of_getElem? hx);refine ⟨by simp [h2],fun c hc=>?_⟩;obtain ⟨z',u_,rfl⟩:=List.mem_map.1 hc;exact List.all_eq_true.1 fO z' u_) (fun i x j c u hx hj hu=>by
      obtain ⟨_,rfl⟩:=List.mem_replicate.1 (List.mem_of_getElem? hx);have pD:i < k:=by simpa using (List.getElem?_eq_some_iff.1 hx).1
      rw [←h2] at hu;rw [ER i j c u pD hj hu];exact .lit u)
     rw [List.length_replicate] at hrel;refine ⟨_,_,_,.inl ⟨?_,by simpa using hrel⟩⟩;simp only [execOp,e1,e2,Sem.run_bind];rw [show ((k:Int))=((k:Nat) : Int) from rfl,aC];rfl
    ·cases ht
   ·cases ht
  ·cases ht
 ·rename_i t x y;split at ht
  ·rename_i ti id off aX hx;split at ht
   ·rename_i cs hid;split at ht
    ·rename_i hc;simp only [Option.some.injEq] at ht;subst ht;obtain ⟨w',aC,hrel⟩:=HO (P:=P) (y:=y) R aX hx hid hc.1 hc.2.1 hc.2.2;exact ⟨undef,w',p,.inr ⟨by simp only [execOp,Sem.run_bind,aC];rfl,rfl,hrel⟩⟩
    ·cases ht
   ·cases ht
  ·rename_i ti id sz i off aX hx;split at ht
   ·rename_i e bD nl es hid;split at ht
    ·rename_i hc;obtain ⟨rfl,hi,h1,h2,h3,h4⟩:=hc;simp only [Option.some.injEq] at ht;subst ht;obtain ⟨w',aC,hrel⟩:=On (P:=P) (y:=y) R aX hx hid hi h1 h2 h3 h4;exact ⟨undef,w',p,.inr ⟨by simp only [execOp,Sem.run_bind,aC];rfl,rfl,hrel⟩⟩
    ·cases ht
   ·cases ht
  ·cases ht
 ·rename_i xs ts;split at ht
  ·rename_i x y t t' d ee lQ;split at ht
   ·rename_i ti id sz es aX hx hy;split at ht
    ·rename_i e bD nl es' hid;split at ht
     ·rename_i te fM;split at ht
      ·rename_i hc;obtain ⟨rfl,hk,he,rfl,tl,h1,h2,dI,f_,gJ⟩:=hc;simp only [Option.some.injEq] at ht;subst ht;have e1:xs=#[x,y]:=by apply Array.ext';rw [ee]
       have e2:ts=#[t,t]:=by apply Array.ext';rw [lQ]
       subst e1;obtain ⟨v,w',p',aC,hrel⟩:=H0 (P:=P) (ty:=ty) R (ao d rfl) aX hx hy hid fM hk he tl h1 h2 dI f_ gJ e2;refine ⟨v,w',p',.inl ⟨?_,hrel⟩⟩;simp only [execOp,resolve,invoke,builtin,Sem.run_bind,Sem.run_pure,Result.andThen_ok,List.map_toArray,List.map_cons,List.map_nil,aC]
      ·cases ht
     ·cases ht
    ·cases ht
   ·cases ht
  ·cases ht
 ·rename_i t;split at ht
  ·rename_i kf z tU;obtain ⟨d,eu,rfl⟩:=ug ht;subst eu;obtain ⟨aC,hrel⟩:=Ox (P:=P) (t:=t) (kf:=kf) R (ao d rfl);exact ⟨_,_,_,.inl ⟨by simp only [execOp,Sem.run_bind,Option.map_none,aC];rfl,hrel⟩⟩
  ·cases ht
 ·rename_i t m x y;split at ht
  ·obtain ⟨w',aC,hrel⟩:=H4 (P:=P) R ht;exact ⟨undef,w',p,.inr ⟨by simp only [execOp,Sem.run_bind,aC];rfl,rfl,hrel⟩⟩
  ·cases ht
 ·rename_i t m x y;split at ht
  ·obtain ⟨w',aC,hrel⟩:=H4 (P:=P) R ht;exact ⟨undef,w',p,.inr ⟨by simp only [execOp,Sem.run_bind,aC];rfl,rfl,hrel⟩⟩
  ·cases ht
 ·cases ht
end
def dH (id:Nat) : Nat→AV→Bool
 | 0,_=>false
 | n+1,.agg cs=>cs.all (dH id n)
 | n+1,.tup cs=>cs.all (dH id n)
 | n+1,.fn _ x y=>x.all (dH id n)&&y.all (dH id n)
 | n+1,.iface _ v=>dH id n v
 | _+1,.slw i _ _ _=>i != id
 | _+1,_=>true
def unW (id:Nat) : AV→AV
 | .slw i k sz es=>if i=id then .sl sz es else .slw i k sz es
 | v=>if dH id 5 v=true then v else .any
def rI (id:Nat) : Option Ob→Bool
 | some (.box cs)=>cs.all (dH id 5)
 | _=>true
theorem nE (id:Nat) : ∀ (s:List (Nat×AV)) (i:Nat),lkp (s.map fun q=>(q.1,unW id q.2)) i=unW id (lkp s i)
 | [],_=>by simp [lkp,unW,dH]
 | (d,v)::r,i=>by
  simp only [List.map_cons,lkp];split
  ·rfl
  ·exact nE id r i
theorem Dist.symm {v v':Value} (h:Dist v v') : Dist v' v:=fun b o n c b' o' n' c' e e' l l' he=>h b' o' n' c' b o n c e' e l' l he.symm
theorem Spare.mono {w w':World} {p p':Pl} {id sz:Nat} {v:Value} (hp:p' id=p id) (hS:∀ b j,p.S id b j→p'.S id b j) (hb:∀ b j,p.S id b j→b < w.heap.size→w'.heap[b]? = w.heap[b]?) (h:Spare w p id sz v) : Spare w' p' id sz v:=by
 obtain ⟨A,n,cap,hv,hle,h⟩:=h;refine ⟨A,n,cap,hv,hle,fun ao=>?_⟩;obtain ⟨b,o,cur,t,h1,h2,h3,h4,h5,h6,h7⟩:=h ao;exact ⟨b,o,cur,t,h1,(hb b _ (h7 _ (Nat.le_refl _)) (Array.getElem?_eq_some_iff.1 h2).1).trans h2,h3,h4,h5,by rw [hp];exact h6,fun j hj=>hS b j (h7 j hj)⟩
section
variable {P:Program} {M0:Nat→Nat→Prop} {w0:Bas} {N:Nm} {p:Pl} {st:VS} {a:Act} {w:World}
theorem V1.bag {w w':World} {M M':Nat→Nat→Prop} {h h':Hp} {p p':Pl} {id:Nat} (hk:Keeps M w w') (hM:∀ b j,b < w.heap.size→¬M b j→¬M' b j) (hl:h.length≤h'.length) (hp:∀ i,p' i=p i)
  (hO:∀ i e sz nl es v,h'[i]? = some (some (.arr e sz nl es))→(∀ e sz nl es,h[i]? = some (some (.arr e sz nl es))→Osl w (p i) e sz nl es.length v)→Osl w' (p i) e sz nl es.length v)
  (hG:∀ i e sz nl ak qs v,h'[i]? = some (some (.bag e sz nl ak qs))→(∀ e sz nl ak qs,h[i]? = some (some (.bag e sz nl ak qs))→Osl w (p i) e 1 nl qs.length v)→Osl w' (p i) e 1 nl qs.length v)
  (hW:∀ i k sz v,i≠id→i < h.length→Sp w h p i k sz v→Sp w' h' p' i k sz v) :
  ∀ (n:Nat) (av:AV) (v:Value),V1 w M h p av v→dH id n av=true→V1 w' M' h' p' av v
 | 0,_,_,_,hb=>by simp [dH] at hb
 | n+1,av,v,hv,hb=>by
  have ih:=V1.bag (w:=w) (p:=p) (h:=h) hk hM hl hp hO hG hW n;cases hv with
  | base _ _ h0=>exact .base _ _ (h0.keep hk hM)
  | agg cs us hl h1 hv=>
   simp only [dH] at hb;exact .agg cs us hl h1 fun i c u hc hu=>ih c u (hv i c u hc hu) (List.all_eq_true.1 hb c (List.mem_of_getElem? hc))
  | tup cs us hl hv=>
   simp only [dH] at hb;exact .tup cs us hl fun i c u hc hu=>ih c u (hv i c u hc hu) (List.all_eq_true.1 hb c (List.mem_of_getElem? hc))
  | fn f x y us vs hl bm hv bE=>
   simp only [dH,Bool.and_eq_true] at hb;exact .fn f x y us vs hl bm (fun i c u hc hu=>ih c u (hv i c u hc hu) (List.all_eq_true.1 hb.1 c (List.mem_of_getElem? hc))) (fun i c u hc hu=>ih c u (bE i c u hc hu) (List.all_eq_true.1 hb.2 c (List.mem_of_getElem? hc)))
  | iface t x u hv=>exact .iface t x u (ih x u hv (by simpa [dH] using hb))
  | ref i off hid=>rw [←hp i];exact .ref i off (Nat.lt_of_lt_of_le hid hl)
  | aref i sz k off hid=>rw [←hp i];exact .aref i sz k off (Nat.lt_of_lt_of_le hid hl)
  | osl i A m c hid hv l6=>exact .osl i A m c (Nat.lt_of_lt_of_le hid hl) (fun e sz nl es he=>by rw [hp i];exact hO i e sz nl es _ he hv) fun e sz nl ak qs he=>by rw [hp i];exact hG i e sz nl ak qs _ he l6
  | slw i k sz es _ hid h0 hs=>
   have hn:i≠id:=by simpa [dH] using hb
   exact .slw i k sz es v (Nat.lt_of_lt_of_le hid hl) (h0.keep hk hM) (hW i k sz v hn hid hs)
  | mp i hid=>rw [←hp i];exact .mp i (Nat.lt_of_lt_of_le hid hl)
theorem Rel.bagSet {w':World} {h2:Hp} {p':Pl} {id k e sz:Nat} {ak:Option Nat} {qs:List (List (List AV))} {es:List (List AV)} {v:Value} {cur:Array Value} (R:Rel M0 w0 N p st a w)
  (hi:st.h[id]? = some (some (.bag e sz false ak qs))) (hk:k < qs.length) (fT:ak=none∨ak=some k) (bJ:w.heap[p id]? = some (.cells cur e (0,0)))
  (jg:∀ (i:Nat) (cs:List AV),st.h[i]? = some (some (.box cs))→∀ c∈cs,dH id 5 c=true)
  (aM:w.heap.size=w'.heap.size) (la:w'.os=w.os) (ld:w'.tape=w.tape) (lf:w'.output=w.output) (b8:∀ b,b≠p id→w'.heap[b]? = w.heap[b]?) (aR:w'.heap[p id]? = some (.cells (cur.setIfInBounds k v) e (0,0)))
  (gU:h2.length=st.h.length) (eR:h2[id]? = some (some (.bag e sz false none (qs.set k es)))) (dD:∀ (i:Nat) (ob:Ob),i≠id→h2[i]? = some (some ob)→st.h[i]? = some (some ob))
  (eL:∀ i,p' i=p i) (gv:∀ i,i≠id→p'.S i=p.S i) (Oy:∀ b j,p.S id b j→p'.S id b j)
  (CJ:∀ b j,p'.S id b j→Fr w0 b j∧b < w.heap.size) (zt:∀ j,¬p'.S id (p id) j) (wO:∀ (i:Nat) (ob:Ob),i≠id→h2[i]? = some (some ob)→cn ob=true→∀ b j j',p.O i b j→¬p'.S id b j') (CK:∀ b j,p'.S id b j→Mof M0 st.h p b j)
  (cB:V0 w (Mof M0 h2 p') (.sl sz es) v) (gq:Spare w p' id sz v) (rb:∀ (k':Nat) (v':Value),k' < qs.length→k'≠k→cur[k']? = some v'→Dist v v') :
  Rel M0 w0 N p' ⟨st.s.map (fun q=>(q.1,unW id q.2)),h2⟩ a w':=by
 have dX:=(R.objs id _ hi)
 obtain ⟨iM,dX⟩:=dX;rw [if_neg (by simp)] at dX;obtain ⟨b1,b2,cur0,b3,b4,b5,b6⟩:=dX;have:cur0=cur:=by rw [bJ] at b3;injection b3 with b3;injection b3 with b3;exact b3.symm
 subst this;have jr:∀ {i b j},i≠id→(p'.O i b j↔p.O i b j):=fun {i b j} hn=>by unfold Pl.O;rw [eL,gv i hn]
 have bU:cn (Ob.bag e sz false ak qs)=true:=rfl;have hM:∀ b j,¬Mof M0 st.h p b j→¬Mof M0 h2 p' b j:=fun b j hn hm=>by
  rcases hm with hm|⟨i,o,aG,bs,hO⟩
  ·exact hn (.inl hm)
  ·by_cases he:i=id
   ·subst he;rcases hO with hO|hO
    ·exact hn (.inr ⟨i,_,hi,bU,.inl (by rw [←eL];exact hO)⟩)
    ·exact hn (CK b j hO)
   ·exact hn (.inr ⟨i,o,dD i o he aG,bs,(jr he).1 hO⟩)
 have wP:Keeps (Mof M0 st.h p) w w':=.of_blocks (by omega) fun b _ hb=>b8 b fun he=>hb fun j=>.inr ⟨id,_,hi,bU,.inl he.symm⟩;have CL:Keeps (Mof M0 h2 p') w w':=.of_blocks (by omega) fun b _ hb=>b8 b fun he=>hb fun j=>.inr ⟨id,_,eR,rfl,.inl (by rw [eL,he])⟩;have aq:∀ i o,i≠id→st.h[i]? = some (some o)→cn o=true→∀ b j,p.O i b j→w'.heap[b]? = w.heap[b]?:=fun i o hn aG bs b j hO=>b8 b fun he=>hn (R.inj i id o _ aG hi bs bU b j 0 hO (.inl he.symm));have dM:∀ {x:AV} {u:Value},V0 w (Mof M0 st.h p) x u→V0 w' (Mof M0 h2 p') x u:=fun hx=>hx.keep wP fun b j _=>hM b j;have hV:∀ {x:AV} {u:Value},V1 w (Mof M0 st.h p) st.h p x u→dH id 5 x=true→V1 w' (Mof M0 h2 p') h2 p' x u:=fun {x u} hx hn=>
  V1.bag wP (fun b j _=>hM b j) (by omega) eL (fun i e' bD nl es' v' he hv=>by
   by_cases hid:i=id
   ·subst hid;rw [eR] at he;cases he
   ·have aG:=dD i _ hid he;exact (hv _ _ _ _ aG).keep fun aK _=>aq i _ hid aG (by rw [aK];rfl) _ 0 (.inl rfl)) (fun i e' bD nl nF pF v' he hv=>by
   by_cases hid:i=id
   ·subst hid;rw [eR] at he;simp only [Option.some.injEq,Ob.bag.injEq] at he;obtain ⟨rfl,rfl,rfl,rfl,rfl⟩:=he;have h1:=hv _ _ _ _ _ hi;unfold Osl at h1 ⊢;rw [if_neg (by simp)] at h1 ⊢;obtain ⟨cap,c1,e1,e2,e3,e4,e5⟩:=h1;have:c1=cur0:=by rw [bJ] at e2;injection e2 with e2;injection e2 with e2;exact e2.symm
    subst this;exact ⟨cap,_,by rw [List.length_set];exact e1,aR,by rw [Array.size_setIfInBounds];exact e3,by rw [List.length_set];exact e4,e5⟩
   ·have aG:=dD i _ hid he;exact (hv _ _ _ _ _ aG).keep fun aK _=>aq i _ hid aG (by rw [aK];rfl) _ 0 (.inl rfl)) (fun i k' bD v' hn _ hs=>hs.keep (fun e' rJ xG pF he=>by
   have aG:=dD i _ hn he;exact ⟨aG,eL i,gv i hn,fun b j hO _=>aq i _ hn aG rfl b j hO⟩) (by omega)) 5 x u hx hn
 have hU:∀ {x:AV} {u:Value},V1 w (Mof M0 st.h p) st.h p x u→V1 w' (Mof M0 h2 p') h2 p' (unW id x) u:=fun {x u} hx=>by
  by_cases hs:∃ i k sz es,x = .slw i k sz es
  ·obtain ⟨i,k',bD,es',rfl⟩:=hs;by_cases hn:i=id
   ·rw [show unW id (.slw i k' bD es') = .sl bD es' from if_pos hn];exact .base _ _ (dM hx.slw_inv.2.1)
   ·rw [show unW id (.slw i k' bD es') = .slw i k' bD es' from if_neg hn];exact hV hx (by simpa [dH] using hn)
  ·have e:unW id x=if dH id 5 x=true then x else .any:=by cases x<;>first|rfl|exact absurd ⟨_,_,_,_,rfl⟩ hs
   rw [e];split
   ·rename_i hn;exact hV hx hn
   ·exact .base _ _ (.any _)
 have dq:=fun j=>(b1 (p id) j (.inl rfl)).1;refine ⟨R.defers,R.size,R.below.blocks la ld lf (by omega) fun b _ hF=>b8 b fun he=>hF fun j=>by rw [he];exact dq j,R.m0,R.x0,fun i=>?_,fun i o aG=>?_,fun i i' o o' aG bn bs ef x j j' hO cw=>?_⟩
 ·show V1 w' (Mof M0 h2 p') h2 p' (lkp (st.s.map fun q=>(q.1,unW id q.2)) i) _;rw [nE];exact hU (R.slots i)
 ·by_cases hid:i=id
  ·subst hid;rw [eR] at aG;simp only [Option.some.injEq] at aG;subst aG;refine ⟨iM,?_⟩;rw [if_neg (by simp)];have eV:k < cur0.size:=by omega
   refine ⟨fun b j hO=>?_,fun j=>by rw [eL];exact zt j,cur0.setIfInBounds k v,by rw [eL];exact aR,by simp;omega,fun k0 x hx=>?_,fun k1 k2 v1 v2 h1 h2 od _ _ e1 e2=>?_⟩
   ·rcases hO with hO|hO
    ·have:=b1 b j (.inl (by rw [←eL];exact hO));exact ⟨this.1,by omega⟩
    ·have:=CJ b j hO;exact ⟨this.1,by omega⟩
   ·rw [List.getElem?_set] at hx;by_cases nh:k=k0
    ·subst nh;rw [if_pos rfl,if_pos hk] at hx;obtain rfl:=Option.some.inj hx;refine ⟨v,by simp [eV],cB.keep CL fun b j _ h=>h,fun _=>gq.keep rfl rfl fun b j hS _=>b8 b fun he=>zt j (by rw [←he];exact hS)⟩
    ·rw [if_neg nh] at hx;obtain ⟨v1,g1,g2,g3⟩:=b5 k0 x hx;refine ⟨v1,by rw [Array.getElem?_setIfInBounds_ne nh];exact g1,dM g2,fun _=>(g3 (by rcases fT with h|h<;>rw [h]<;>simp [nh])).mono (eL i) Oy fun b j hS _=>b8 b fun he=>b2 j (by rw [←he];exact hS)⟩
   ·rw [List.length_set] at h1 h2;have gb:∀ k',k'≠k→ak≠some k':=fun k' hn=>by rcases fT with h|h<;>rw [h]<;>simp [Ne.symm hn]
    by_cases jj:k1=k
    ·subst jj;rw [Array.getElem?_setIfInBounds_self_of_lt eV] at e1;obtain rfl:=Option.some.inj e1;rw [Array.getElem?_setIfInBounds_ne od] at e2;exact rb k2 v2 h2 (Ne.symm od) e2
    ·rw [Array.getElem?_setIfInBounds_ne (Ne.symm jj)] at e1;by_cases cA:k2=k
     ·subst cA;rw [Array.getElem?_setIfInBounds_self_of_lt eV] at e2;obtain rfl:=Option.some.inj e2;exact (rb k1 v1 h1 jj e1).symm
     ·rw [Array.getElem?_setIfInBounds_ne (Ne.symm cA)] at e2;exact b6 k1 k2 v1 v2 h1 h2 od (gb k1 jj) (gb k2 cA) e1 e2
  ·have bn:=dD i o hid aG;exact (R.objs i o bn).keep (fun _=>⟨eL i,gv i hid⟩) (fun bs b j hO _=>aq i o hid bn bs b j hO) (by omega) dM fun cs bI c hc u hx=>hV hx (jg i cs (by rw [bn,bI]) c hc)
 ·by_cases h1:i=id
  ·by_cases h2:i'=id
   ·rw [h1,h2]
   ·subst h1;have p_:=dD i' o' h2 bn;have kJ:=(jr h2).1 cw;rcases hO with hO|hO
    ·exact R.inj i i' _ o' hi p_ bU ef x j j' (.inl (by rw [←eL];exact hO)) kJ
    ·exact absurd hO (wO i' o' h2 bn ef x j' j kJ)
  ·have mw:=dD i o h1 aG;have oe:=(jr h1).1 hO;by_cases h2:i'=id
   ·subst h2;rcases cw with cw|cw
    ·exact R.inj i i' o _ mw hi bs bU x j j' oe (.inl (by rw [←eL];exact cw))
    ·exact absurd cw (wO i o h1 aG bs x j j' oe)
   ·exact R.inj i i' o o' mw (dD i' o' h2 bn) bs ef x j j' oe ((jr h2).1 cw)
theorem Oz {cur:Array Value} {k:Nat} {v:Value} (hk:k < cur.size) : (cur.toList.take k++[v]++cur.toList.drop (k+1)).toArray=cur.setIfInBounds k v:=by
 apply Array.ext';rw [Array.toList_setIfInBounds,List.set_eq_take_append_cons_drop,if_pos (by simpa using hk)];simp
theorem Keeps.same (M:Nat→Nat→Prop) (w:World) : Keeps M w w:=.of_blocks (Nat.le_refl _) fun _ _ _=>rfl
section
variable {id k e sz:Nat} {ak:Option Nat} {qs:List (List (List AV))} {es:List (List AV)} {v:Value}
theorem Rel.bagRow (R:Rel M0 w0 N p st a w) (hi:st.h[id]? = some (some (.bag e sz false ak qs))) : BagOK w0 w (Mof M0 st.h p) p id e sz ak qs:=by
 obtain ⟨_,h⟩:=R.objs id _ hi;rwa [if_neg (by simp)] at h
theorem Rel.bagStore {cur:Array Value} (R:Rel M0 w0 N p st a w) (hi:st.h[id]? = some (some (.bag e sz false ak qs))) (hk:k < qs.length) (fT:ak=none∨ak=some k) (bJ:w.heap[p id]? = some (.cells cur e (0,0)))
  (jg:∀ (i:Nat) (cs:List AV),st.h[i]? = some (some (.box cs))→∀ c∈cs,dH id 5 c=true) (hv:V1 w (Mof M0 st.h p) st.h p (.slw id k sz es) v) :
  Rel M0 w0 N p ⟨st.s.map (fun q=>(q.1,unW id q.2)),st.h.set id (some (.bag e sz false none (qs.set k es)))⟩ a (w.setRow (p id) (cur.setIfInBounds k v)):=by
 have hB:=R.bagRow hi;obtain ⟨_,h0,hs⟩:=hv.slw_inv;obtain ⟨_,gq,_,rb⟩:=hs _ _ _ _ hi;have hid:=(List.getElem?_eq_some_iff.1 hi).1;have bU:cn (Ob.bag e sz false ak qs)=true:=rfl;have gb:∀ k',k'≠k→ak≠some k':=fun k' hn=>by rcases fT with h|h<;>rw [h]<;>simp [Ne.symm hn]
 have dD:∀ (i:Nat) (ob:Ob),i≠id→(st.h.set id (some (Ob.bag e sz false none (qs.set k es))))[i]? = some (some ob)→st.h[i]? = some (some ob):=fun i ob hn h=>by rwa [List.getElem?_set_ne (Ne.symm hn)] at h
 refine R.bagSet hi hk fT bJ jg (wG w _ _).symm rfl rfl rfl (fun b hb=>wF w _ _ b hb) (setRow_heap w (p id) cur _ e _ bJ) (by simp) (List.getElem?_set_self hid) dD (fun _=>rfl) (fun _ _=>rfl) (fun _ _ h=>h)
  (fun b j hS=>hB.1 b j (.inr hS)) hB.2.1 (fun i ob hn aG bs b j j' hO hS=>hn (R.inj i id ob _ (dD i ob hn aG) hi bs bU b j j' hO (.inr hS))) (fun b j hS=>.inr ⟨id,_,hi,bU,.inr hS⟩)
  (h0.keep (Keeps.same _ w) fun b j _ hn hm=>hn ?_) gq fun k' v' dN aq bE=>rb cur e k' v' bJ dN aq (gb k' aq) bE
 rcases hm with hm|⟨i,o,aG,bs,hO⟩
 ·exact .inl hm
 ·by_cases he:i=id
  ·subst he;exact .inr ⟨i,_,hi,bU,hO⟩
  ·exact .inr ⟨i,o,dD i o he aG,bs,hO⟩
theorem Rel.bagTake {cur:Array Value} {r er:Nat} {nl:Bool} (R:Rel M0 w0 N p st a w) (hi:st.h[id]? = some (some (.bag e sz false ak qs))) (hk:k < qs.length) (fT:ak=none∨ak=some k) (bJ:w.heap[p id]? = some (.cells cur e (0,0)))
  (jg:∀ (i:Nat) (cs:List AV),st.h[i]? = some (some (.box cs))→∀ c∈cs,dH id 5 c=true) (hr:st.h[r]? = some (some (.arr er sz nl es))) (hv:V1 w (Mof M0 st.h p) st.h p (.osl r) v) :
  ∃ p',Rel M0 w0 N p' ⟨st.s.map (fun q=>(q.1,unW id q.2)),(st.h.set r none).set id (some (.bag e sz false none (qs.set k es)))⟩ a (w.setRow (p id) (cur.setIfInBounds k v)):=by
 have hB:=R.bagRow hi;have hid:=(List.getElem?_eq_some_iff.1 hi).1;have wQ:r≠id:=fun h=>by rw [h,hi] at hr;cases hr
 have bU:cn (Ob.bag e sz false ak qs)=true:=rfl;have gb:∀ k',k'≠k→ak≠some k':=fun k' hn=>by rcases fT with h|h<;>rw [h]<;>simp [Ne.symm hn]
 have eR:((st.h.set r none).set id (some (Ob.bag e sz false none (qs.set k es))))[id]? = some (some (Ob.bag e sz false none (qs.set k es))):=List.getElem?_set_self (by simpa using hid);have CM:∀ (i:Nat) (ob:Ob),i≠id→((st.h.set r none).set id (some (Ob.bag e sz false none (qs.set k es))))[i]? = some (some ob)→i≠r:=fun i ob hn h he=>by
  subst he;rw [List.getElem?_set_ne (Ne.symm hn),List.getElem?_set] at h;simp at h
 have dD:∀ (i:Nat) (ob:Ob),i≠id→((st.h.set r none).set id (some (Ob.bag e sz false none (qs.set k es))))[i]? = some (some ob)→st.h[i]? = some (some ob):=fun i ob hn h=>by
  have OA:=CM i ob hn h;rwa [List.getElem?_set_ne (Ne.symm hn),List.getElem?_set_ne (Ne.symm OA)] at h
 obtain ⟨A,n,c,hq,_,bo⟩:=hv.osl_inv;have bo:=bo _ _ _ _ hr;obtain ⟨iM,pS,aR⟩:=R.objs r _ hr;cases nl
 ·rw [if_neg (by simp)] at aR;obtain ⟨cF,cr,hg,hle,dk⟩:=aR;unfold Osl at bo;rw [if_neg (by simp)] at bo;obtain ⟨cap,wR,e1,e2,e3,e4,e5⟩:=bo;have:wR=cr:=by rw [hg] at e2;injection e2 with e2;injection e2 with e2;exact e2.symm
  subst this;have ui:cn (Ob.arr er sz false es)=true:=rfl;have CN:p r≠p id:=fun h=>wQ (R.inj r id _ _ hr hi ui bU (p r) 0 0 (.inl rfl) (.inl h.symm));have H5:∀ j,¬p.S id (p r) j:=fun j h=>wQ (R.inj r id _ _ hr hi ui bU (p r) 0 j (.inl rfl) (.inr h));have dO:=(Array.getElem?_eq_some_iff.1 hg).1;refine ⟨⟨p.b,fun i=>if i=id then fun b j=>p.S id b j∨(b=p r∧es.length*sz≤j) else p.S i⟩,?_⟩;have hM:∀ b j,¬Mof M0 st.h p b j→¬Mof M0 ((st.h.set r none).set id (some (Ob.bag e sz false none (qs.set k es)))) ⟨p.b,fun i=>if i=id then fun b j=>p.S id b j∨(b=p r∧es.length*sz≤j) else p.S i⟩ b j:=fun b j hn hm=>by
   rcases hm with hm|⟨i,o,aG,bs,hO⟩
   ·exact hn (.inl hm)
   ·by_cases he:i=id
    ·subst he;rcases hO with hO|hO
     ·exact hn (.inr ⟨i,_,hi,bU,.inl hO⟩)
     ·simp only [if_true] at hO;rcases hO with hO|⟨rfl,_⟩
      ·exact hn (.inr ⟨i,_,hi,bU,.inr hO⟩)
      ·exact hn (.inr ⟨r,_,hr,ui,.inl rfl⟩)
    ·refine hn (.inr ⟨i,o,dD i o he aG,bs,?_⟩);rcases hO with hO|hO
     ·exact .inl hO
     ·simp only [if_neg he] at hO;exact .inr hO
  refine R.bagSet hi hk fT bJ jg (wG w _ _).symm rfl rfl rfl (fun b hb=>wF w _ _ b hb) (setRow_heap w (p id) cur _ e _ bJ) (by simp) eR dD (fun _=>rfl) (fun i hn=>by simp only [if_neg hn]) (fun b j h=>by simp only [if_true];exact .inl h)
   (fun b j hS=>?_) (fun j hS=>?_) (fun i ob hn aG bs b j j' hO hS=>?_) (fun b j hS=>?_) ?_ ?_ fun k' v' dN aq bE=>?_
  ·simp only [if_true] at hS;rcases hS with hS|⟨rfl,_⟩
   ·exact hB.1 b j (.inr hS)
   ·exact ⟨cF.1 j,dO⟩
  ·simp only [if_true] at hS;rcases hS with hS|⟨h,_⟩
   ·exact hB.2.1 j hS
   ·exact CN h.symm
  ·simp only [if_true] at hS;rcases hS with hS|⟨rfl,_⟩
   ·exact hn (R.inj i id ob _ (dD i ob hn aG) hi bs bU b j j' hO (.inr hS))
   ·exact CM i ob hn aG (R.inj i r ob _ (dD i ob hn aG) hr bs ui _ j 0 hO (.inl rfl))
  ·simp only [if_true] at hS;rcases hS with hS|⟨rfl,_⟩
   ·exact .inr ⟨id,_,hi,bU,.inr hS⟩
   ·exact .inr ⟨r,_,hr,ui,.inl rfl⟩
  ·rw [e1];by_cases cI:es=[]
   ·subst cI;exact .slNil _ _ _
   ·have bb:∀ k j,k < es.length→j < sz→k*sz+j < wR.size∧k*sz+j < es.length*sz:=fun k j h1 h2=>by
     have:(k+1)*sz≤es.length*sz:=Nat.mul_le_mul_right _ h1;rw [Nat.add_mul] at this;omega
    refine .sl sz es cap (p r) 0 (fun k j=>(wR[k*sz+j]?).getD undef) cI dO (fun k1 j h1 h2 hm=>?_) e4 (fun k1 x hx=>(pS k1 x hx).1) (fun k1 x j c hx hc=>(pS k1 x hx).2 c (List.mem_of_getElem? hc)) (fun k1 j h1 h2=>?_) fun k1 x j c hx hc=>?_
    ·rw [Nat.zero_add] at hm;have CO:=(bb k1 j h1 h2).2;rcases hm with hm|⟨i,o,aG,bs,hO⟩
     ·exact R.h0 _ _ hm (cF.1 _)
     ·by_cases he:i=id
      ·subst he;rcases hO with hO|hO
       ·exact CN hO.symm
       ·simp only [if_true] at hO;rcases hO with hO|⟨_,hO⟩
        ·exact H5 _ hO
        ·omega
      ·refine CM i o he aG (R.inj i r o _ (dD i o he aG) hr bs ui (p r) (k1*sz+j) 0 ?_ (.inl rfl));rcases hO with hO|hO
       ·exact .inl hO
       ·simp only [if_neg he] at hO;exact .inr hO
    ·rw [cell_of_row w (p r) _ wR er (0,0) hg,Nat.zero_add];have:=(bb k1 j h1 h2).1;simp [this]
    ·obtain ⟨u,hu,cB⟩:=dk k1 x j c hx hc;rw [hu];exact cB.keep (Keeps.same _ w) fun b j _=>hM b j
  ·rw [e1];refine ⟨_,_,_,rfl,e4,fun _=>⟨p r,0,wR,er,rfl,hg,by rw [Nat.zero_add,e3];exact Nat.le_refl _,e5,iM,CN,fun j hj=>?_⟩⟩;simp only [if_true];exact .inr ⟨trivial,by omega⟩
  ·rw [e1];intro b o n1 c1 b' o' n' c' h1 h2 l1 l2 he;simp only [Value.slice.injEq,Option.some.injEq,Addr.mk.injEq] at h1;obtain ⟨⟨rfl,_,_⟩,_,_⟩:=h1;obtain ⟨_,_,cur0,uj,_,OB,_⟩:=R.bagRow hi;have cK:cur0=cur:=by rw [bJ] at uj;injection uj with uj;injection uj with uj;exact uj.symm
   subst cK;obtain ⟨v2,g1,_,g3⟩:=OB k' _ (List.getElem?_eq_getElem dN);rw [bE] at g1;obtain rfl:=Option.some.inj g1;obtain ⟨A2,n2,n7,q1,q2,q3⟩:=g3 (gb k' aq);rw [h2] at q1;simp only [Value.slice.injEq] at q1;obtain ⟨rfl,rfl,rfl⟩:=q1;obtain ⟨b2,o2,_,_,q4,_,_,_,_,_,q5⟩:=q3 l2;simp only [Option.some.injEq,Addr.mk.injEq] at q4;obtain ⟨rfl,rfl,_⟩:=q4;exact H5 _ (by rw [he];exact q5 _ (Nat.le_refl _))
 ·rw [if_pos rfl] at aR;subst aR;unfold Osl at bo;rw [if_pos rfl] at bo;refine ⟨p,?_⟩;refine R.bagSet hi hk fT bJ jg (wG w _ _).symm rfl rfl rfl (fun b hb=>wF w _ _ b hb) (setRow_heap w (p id) cur _ e _ bJ) (by simp) eR dD (fun _=>rfl) (fun _ _=>rfl) (fun _ _ h=>h)
   (fun b j hS=>hB.1 b j (.inr hS)) hB.2.1 (fun i ob hn aG bs b j j' hO hS=>hn (R.inj i id ob _ (dD i ob hn aG) hi bs bU b j j' hO (.inr hS))) (fun b j hS=>.inr ⟨id,_,hi,bU,.inr hS⟩)
   ?_ ?_ fun k' v' _ _ _=>?_
  ·obtain ⟨⟨A,bo⟩,_⟩:=bo;rw [bo];exact .slNil _ _ _
  ·obtain ⟨⟨A,bo⟩,_⟩:=bo;rw [bo];exact ⟨A,0,0,rfl,Nat.le_refl _,fun h=>by omega⟩
  ·obtain ⟨⟨A,bo⟩,_⟩:=bo;rw [bo];intro b o n1 c1 b' o' n' c' h1 _ l1;simp only [Value.slice.injEq] at h1;omega
end
end
end Go.Proofs.YtoibondihdhnoaaGreatDoor
