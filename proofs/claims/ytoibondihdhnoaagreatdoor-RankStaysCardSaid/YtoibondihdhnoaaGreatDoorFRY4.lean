/- Texts in one: Walks on plain values: the layer; of every program; no condition. -/
import Derived.Test.YtoibondihdhnoaaGreatDoorFRY3
import Derived.IntWalk
import Derived.Deep.LoopGhost
import Derived.Test.YtoibondihdhnoaaGreatDoorFRY1
namespace Go.Proofs.YtoibondihdhnoaaGreatDoor
open Go.RowKit
section
variable {P:Program} {M0:Nat→Nat→Prop} {w0:Bas} {N:Nm} {p:Pl} {st:VS} {a:Act} {w:World}
def cP (p:Pl) (n b:Nat) : Pl:=⟨fun i=>if i=n then b else p i,fun i=>if i=n then fun _ _=>False else p.S i⟩
theorem jP {p:Pl} {n b i:Nat} (h:i≠n) : cP p n b i=p i∧(cP p n b).S i=p.S i:=⟨if_neg h,if_neg h⟩
theorem k_ (p:Pl) (n b:Nat) : cP p n b n=b∧∀ x j,¬(cP p n b).S n x j:=⟨if_pos rfl,fun x j h=>by simp [cP] at h⟩
theorem jx {p:Pl} {n b i x j:Nat} (h:i≠n) : (cP p n b).O i x j↔p.O i x j:=by unfold Pl.O;rw [(jP h).1,(jP h).2]
theorem mq {p:Pl} {n b x j:Nat} (h:(cP p n b).O n x j) : x=b:=h.elim (fun h=>h.symm.trans (k_ p n b).1) fun h=>absurd h ((k_ p n b).2 x j)
theorem y9 {h:Hp} {x:Option Ob} {id:Nat} {ob:Ob} (hi:(h++[x])[id]? = some (some ob)) : (id < h.length∧h[id]? = some (some ob))∨(id=h.length∧x=some ob):=by
 rcases Nat.lt_trichotomy id h.length with aq|heq|Q9
 ·rw [List.getElem?_append_left aq] at hi;exact .inl ⟨aq,hi⟩
 ·subst heq;rw [List.getElem?_append_right (Nat.le_refl _)] at hi;simp at hi;exact .inr ⟨rfl,hi⟩
 ·rw [List.getElem?_eq_none (by simp;omega)] at hi;cases hi
theorem um {h:Hp} {x:Option Ob} {id:Nat} (hi:id < h.length) : (h++[x])[id]? = h[id]?:=List.getElem?_append_left hi
theorem Rel.growM {ob:Ob} {b:Nat} (_R:Rel M0 w0 N p st a w) (hb0:cn ob=true→w.heap.size≤b) : ∀ c j,c < w.heap.size→¬Mof M0 st.h p c j→¬Mof M0 (st.h++[some ob]) (cP p st.h.length b) c j:=by
 intro c j hc hn hm;rcases hm with hm|⟨id,ob',hi,hl,jM⟩
 ·exact hn (.inl hm)
 ·rcases y9 hi with ⟨aq,br⟩|⟨rfl,hx⟩
  ·exact hn (.inr ⟨id,ob',br,hl,(jx (Nat.ne_of_lt aq)).1 jM⟩)
  ·obtain rfl:=Option.some.inj hx;have:=mq jM;have:=hb0 hl;omega
theorem Rel.growV {w':World} {ob:Ob} {b:Nat} (R:Rel M0 w0 N p st a w) (hb:Below w.heap.size w w') (hb0:cn ob=true→w.heap.size≤b) {x:AV} {u:Value} (hx:V1 w (Mof M0 st.h p) st.h p x u) : V1 w' (Mof M0 (st.h++[some ob]) (cP p st.h.length b)) (st.h++[some ob]) (cP p st.h.length b) x u:=by
 have hp:∀ id,id < st.h.length→cP p st.h.length b id=p id:=fun id hid=>(jP (Nat.ne_of_lt hid)).1;exact hx.keep (.of_below hb) (R.growM hb0) (by simp) hp (fun id e sz nl es u hid he hv=>by
   rw [um hid] at he;exact (hv e sz nl es he).below hb) (fun id e sz nl ak qs u hid he hv=>by
   rw [um hid] at he;exact (hv e sz nl ak qs he).below hb) fun id k sz v hid hs=>hs.keep (fun e sz ak qs he=>by
   rw [um hid] at he;exact ⟨he,hp id hid,(jP (Nat.ne_of_lt hid)).2,fun b _ _ aq=>hb.block b aq⟩) hb.size
theorem tH {w0:Bas} {n b:Nat} (h:w0.w.heap.size≤b) : Own w0 (cP p n b) n:=⟨fun j=>.inl (by rw [(k_ p n b).1];exact h),(k_ p n b).2⟩
theorem Rel.grow {w':World} {ob:Ob} {b:Nat} {d:Nat} {av:AV} {v:Value} (R:Rel M0 w0 N p st a w) (hb:Below w.heap.size w w') (hd:N.has d) (hb0:cn ob=true→w.heap.size≤b) (_hnb:∀ e sz nl ak qs,ob≠.bag e sz nl ak qs)
  (iJ:ObOK w0 w' (Mof M0 (st.h++[some ob]) (cP p st.h.length b)) (st.h++[some ob]) (cP p st.h.length b) st.h.length ob)
  (hv:V1 w' (Mof M0 (st.h++[some ob]) (cP p st.h.length b)) (st.h++[some ob]) (cP p st.h.length b) av v) :
  Rel M0 w0 N (cP p st.h.length b) ⟨(d,av)::st.s,st.h++[some ob]⟩ (a.put (some d) v) w':=by
 have hp:∀ id,id < st.h.length→cP p st.h.length b id=p id:=fun id hid=>(jP (Nat.ne_of_lt hid)).1;have hM:∀ c j,c < w.heap.size→¬Mof M0 st.h p c j→¬Mof M0 (st.h++[some ob]) (cP p st.h.length b) c j:=by
  intro c j hc hn hm;rcases hm with hm|⟨id,ob',hi,hl,jM⟩
  ·exact hn (.inl hm)
  ·rcases y9 hi with ⟨aq,br⟩|⟨rfl,hx⟩
   ·exact hn (.inr ⟨id,ob',br,hl,(jx (Nat.ne_of_lt aq)).1 jM⟩)
   ·obtain rfl:=Option.some.inj hx;have:=mq jM;have:=hb0 hl;omega
 have hV:∀ {x:AV} {u:Value},V1 w (Mof M0 st.h p) st.h p x u→V1 w' (Mof M0 (st.h++[some ob]) (cP p st.h.length b)) (st.h++[some ob]) (cP p st.h.length b) x u:=fun hx=>
  hx.keep (.of_below hb) hM (by simp) hp (fun id e sz nl es u hid he hv=>by
   rw [um hid] at he;exact (hv e sz nl es he).below hb) (fun id e sz nl ak qs u hid he hv=>by
   rw [um hid] at he;exact (hv e sz nl ak qs he).below hb) fun id k sz v hid hs=>hs.keep (fun e sz ak qs he=>by
   rw [um hid] at he;exact ⟨he,hp id hid,(jP (Nat.ne_of_lt hid)).2,fun b _ _ aq=>hb.block b aq⟩) hb.size
 have bu:∀ id ob',(st.h++[some ob])[id]? = some (some ob')→(id < st.h.length∧st.h[id]? = some (some ob'))∨(id=st.h.length∧ob=ob'):=fun id ob' hi=>by
  rcases y9 hi with h|⟨h1,h2⟩
  ·exact .inl h
  ·exact .inr ⟨h1,Option.some.inj h2⟩
 refine ⟨R.defers,R.size.put hd,R.below.later hb,R.m0,R.x0,fun i=>?_,fun id ob' hi=>?_,fun id fp uo ob2 hi br hl bj x j j' hO ct=>?_⟩
 ·rw [mr a d v i (R.size.lt hd)];simp only [lkp];split
  ·exact hv
  ·exact hV (R.slots i)
 ·rcases bu id ob' hi with ⟨aq,br⟩|⟨rfl,rfl⟩
  ·exact (R.objs id ob' br).keep (fun _=>jP (Nat.ne_of_lt aq)) (fun _ b _ _ dq=>hb.block b dq) hb.size (fun hx=>hx.keep (.of_below hb) hM) fun _ _ _ _ _ hx=>hV hx
  ·exact iJ
 ·rcases bu id uo hi with ⟨aq,qM⟩|⟨rfl,rfl⟩<;>rcases bu fp ob2 br with ⟨iZ,bJ⟩|⟨rfl,rfl⟩
  ·exact R.inj id fp _ _ qM bJ hl bj x j j' ((jx (Nat.ne_of_lt aq)).1 hO) ((jx (Nat.ne_of_lt iZ)).1 ct)
  ·have h1:=((R.objs id uo qM).own hl x j ((jx (Nat.ne_of_lt aq)).1 hO)).2;have h2:=hb0 bj;have h3:=mq ct;omega
  ·have h1:=((R.objs fp ob2 bJ).own bj x j' ((jx (Nat.ne_of_lt iZ)).1 ct)).2;have h2:=hb0 hl;have h3:=mq hO;omega
  ·rfl
theorem Rel.write {w':World} {h':Hp} {id:Nat} {ob ob':Ob} (R:Rel M0 w0 N p st a w) (hi:st.h[id]? = some (some ob)) (hl:cn ob=true) (bj:cn ob'=true) (_hnb:∀ e sz nl ak qs,ob≠.bag e sz nl ak qs) (wj:∀ e sz nl ak qs,ob'≠.bag e sz nl ak qs) (aM:w.heap.size=w'.heap.size) (kM:w'.os=w.os) (kO:w'.tape=w.tape) (kP:w'.output=w.output)
  (b9:∀ b,b≠p id→w'.heap[b]? = w.heap[b]?) (hh:h'=st.h.set id (some ob'))
  (bo:∀ e sz nl es v,ob' = .arr e sz nl es→(∀ e sz nl es,ob = .arr e sz nl es→Osl w (p id) e sz nl es.length v)→Osl w' (p id) e sz nl es.length v)
  (iJ:(∀ {x:AV} {u:Value},V1 w (Mof M0 st.h p) st.h p x u→V1 w' (Mof M0 h' p) h' p x u)→(∀ {x:AV} {u:Value},V0 w (Mof M0 st.h p) x u→V0 w' (Mof M0 h' p) x u)→ObOK w0 w' (Mof M0 h' p) h' p id ob') :
  Rel M0 w0 N p ⟨st.s,h'⟩ a w':=by
 subst hh;have hid:id < st.h.length:=(List.getElem?_eq_some_iff.1 hi).1;have bu:∀ i o,(st.h.set id (some ob'))[i]? = some (some o)→(i=id∧o=ob')∨(i≠id∧st.h[i]? = some (some o)):=by
  intro i o aG;rw [List.getElem?_set] at aG;by_cases he:id=i
  ·rw [if_pos he,if_pos (by omega)] at aG;simp only [Option.some.injEq] at aG;exact .inl ⟨he.symm,aG.symm⟩
  ·rw [if_neg he] at aG;exact .inr ⟨fun h=>he h.symm,aG⟩
 have hM:∀ c j,¬Mof M0 st.h p c j→¬Mof M0 (st.h.set id (some ob')) p c j:=by
  intro c j hn hm;rcases hm with hm|⟨i,o,aG,bs,hp⟩
  ·exact hn (.inl hm)
  ·rcases bu i o aG with ⟨rfl,rfl⟩|⟨_,bn⟩
   ·exact hn (.inr ⟨i,ob,hi,hl,hp⟩)
   ·exact hn (.inr ⟨i,o,bn,bs,hp⟩)
 have hk:Keeps (Mof M0 st.h p) w w':=.of_blocks (by omega) fun b _ hb=>b9 b fun he=>hb fun j=>.inr ⟨id,ob,hi,hl,.inl he.symm⟩;have ax:∀ i o,i≠id→st.h[i]? = some (some o)→cn o=true→∀ b j,p.O i b j→w'.heap[b]? = w.heap[b]?:=fun i o hn aG bs b j hO=>b9 b fun he=>hn (R.inj i id o ob aG hi bs hl b j 0 hO (.inl he.symm));have hV:∀ {x:AV} {u:Value},V1 w (Mof M0 st.h p) st.h p x u→V1 w' (Mof M0 (st.h.set id (some ob')) p) (st.h.set id (some ob')) p x u:=fun hx=>
  hx.keep hk (fun b j _=>hM b j) (by simp) (fun _ _=>rfl) (fun i e sz nl es v cu he hv=>by
   rcases bu i _ he with ⟨rfl,ho⟩|⟨hn,aG⟩
   ·exact bo e sz nl es v ho.symm fun e' bw kl es' iJ=>hv e' bw kl es' (by rw [hi,iJ])
   ·exact (hv _ _ _ _ aG).keep fun aL _=>ax i _ hn aG (by rw [aL];rfl) _ 0 (.inl rfl)) (fun i e sz nl ak qs v cu he hv=>by
   rcases bu i _ he with ⟨rfl,ho⟩|⟨hn,aG⟩
   ·exact absurd ho.symm (wj _ _ _ _ _)
   ·exact (hv _ _ _ _ _ aG).keep fun aL _=>ax i _ hn aG (by rw [aL];rfl) _ 0 (.inl rfl)) fun i k sz v cu hs=>hs.keep (fun e sz ak qs he=>by
   rcases bu i _ he with ⟨rfl,ho⟩|⟨hn,aG⟩
   ·exact absurd ho.symm (wj _ _ _ _ _)
   ·exact ⟨aG,rfl,rfl,fun b j hO _=>ax i _ hn aG rfl b j hO⟩) (by omega)
 have dE:∀ {x:AV} {u:Value},V0 w (Mof M0 st.h p) x u→V0 w' (Mof M0 (st.h.set id (some ob')) p) x u:=fun hx=>hx.keep hk fun b j _=>hM b j;have dr:=(R.objs id ob hi).ge hl;refine ⟨R.defers,R.size,R.below.blocks kM kO kP (by omega) fun b _ hF=>b9 b fun he=>hF fun j=>by rw [he];exact dr j,R.m0,R.x0,fun i=>hV (R.slots i),fun i o aG=>?_,fun i i' o o' aG bn bs dX x j j' hO ct=>?_⟩
 ·rcases bu i o aG with ⟨rfl,rfl⟩|⟨hn,bn⟩
  ·exact iJ hV dE
  ·exact (R.objs i o bn).keep (fun _=>⟨rfl,rfl⟩) (fun bs b j hO _=>ax i o hn bn bs b j hO) (by omega) dE fun _ _ _ _ _ hx=>hV hx
 ·rcases bu i o aG with ⟨rfl,rfl⟩|⟨hn,h1⟩<;>rcases bu i' o' bn with ⟨rfl,rfl⟩|⟨la,h2⟩
  ·rfl
  ·exact R.inj _ _ _ _ hi h2 hl dX x j j' hO ct
  ·exact R.inj _ _ _ _ h1 hi bs hl x j j' hO ct
  ·exact R.inj i i' o o' h1 h2 bs dX x j j' hO ct
end
section
variable {P:Program} {M0:Nat→Nat→Prop} {w0:Bas} {N:Nm} {p:Pl} {st:VS} {a:Act} {w:World}
theorem V1.purge {w w':World} {M M':Nat→Nat→Prop} {h h':Hp} {p p':Pl} {id:Nat} (hk:Keeps M w w') (hM:∀ b j,b < w.heap.size→¬M b j→¬M' b j) (hl:h.length≤h'.length) (hp:∀ i,i≠id→p' i=p i)
  (hO:∀ i e sz nl es v,i≠id→h'[i]? = some (some (.arr e sz nl es))→(∀ e sz nl es,h[i]? = some (some (.arr e sz nl es))→Osl w (p i) e sz nl es.length v)→Osl w' (p i) e sz nl es.length v)
  (hG:∀ i e sz nl ak qs v,i≠id→h'[i]? = some (some (.bag e sz nl ak qs))→(∀ e sz nl ak qs,h[i]? = some (some (.bag e sz nl ak qs))→Osl w (p i) e 1 nl qs.length v)→Osl w' (p i) e 1 nl qs.length v)
  (hW:∀ i k sz v,i≠id→i < h.length→Sp w h p i k sz v→Sp w' h' p' i k sz v) :
  ∀ (n:Nat) (av:AV) (v:Value),V1 w M h p av v→cE id n av=true→V1 w' M' h' p' av v
 | 0,_,_,_,hb=>by simp [cE] at hb
 | n+1,av,v,hv,hb=>by
  have ih:=V1.purge (w:=w) (p:=p) (h:=h) hk hM hl hp hO hG hW n;cases hv with
  | base _ _ h0=>exact .base _ _ (h0.keep hk hM)
  | agg cs us hl h1 hv=>
   simp only [cE] at hb;exact .agg cs us hl h1 fun i c u hc hu=>ih c u (hv i c u hc hu) (List.all_eq_true.1 hb c (List.mem_of_getElem? hc))
  | tup cs us hl hv=>
   simp only [cE] at hb;exact .tup cs us hl fun i c u hc hu=>ih c u (hv i c u hc hu) (List.all_eq_true.1 hb c (List.mem_of_getElem? hc))
  | fn f x y us vs hl bj hv bA=>
   simp only [cE,Bool.and_eq_true] at hb;exact .fn f x y us vs hl bj (fun i c u hc hu=>ih c u (hv i c u hc hu) (List.all_eq_true.1 hb.1 c (List.mem_of_getElem? hc))) (fun i c u hc hu=>ih c u (bA i c u hc hu) (List.all_eq_true.1 hb.2 c (List.mem_of_getElem? hc)))
  | iface t x u hv=>exact .iface t x u (ih x u hv (by simpa [cE] using hb))
  | ref i off hid=>rw [←hp i (by simpa [cE] using hb)];exact .ref i off (Nat.lt_of_lt_of_le hid hl)
  | aref i sz k off hid=>rw [←hp i (by simpa [cE] using hb)];exact .aref i sz k off (Nat.lt_of_lt_of_le hid hl)
  | osl i A m c hid hv lJ=>
   have hn:i≠id:=by simpa [cE] using hb
   exact .osl i A m c (Nat.lt_of_lt_of_le hid hl) (fun e sz nl es he=>by rw [hp i hn];exact hO i e sz nl es _ hn he hv) fun e sz nl ak qs he=>by rw [hp i hn];exact hG i e sz nl ak qs _ hn he lJ
  | slw i k sz es _ hid h0 hs=>
   have hn:i≠id:=by simpa [cE] using hb
   exact .slw i k sz es v (Nat.lt_of_lt_of_le hid hl) (h0.keep hk hM) (hW i k sz v hn hid hs)
  | mp i hid=>rw [←hp i (by simpa [cE] using hb)];exact .mp i (Nat.lt_of_lt_of_le hid hl)
theorem Cd (id:Nat) : ∀ (s:List (Nat×AV)) (i:Nat),lkp (s.map fun q=>(q.1,purge id q.2)) i=purge id (lkp s i)∨lkp (s.map fun q=>(q.1,purge id q.2)) i = .any
 | [],i=>.inr rfl
 | (d,v)::r,i=>by
  simp only [List.map_cons,lkp];split
  ·exact .inl rfl
  ·exact Cd id r i
theorem Rel.append {w':World} {id g:Nat} {e:TypeId} {sz:Nat} {nl:Bool} {es qN:List (List AV)} {d:Nat} {A:Option Addr} {n c:Nat} (R:Rel M0 w0 N p st a w) (hd:N.has d) (hi:st.h[id]? = some (some (.arr e sz nl es)))
  (_hge:∀ j,Fr w0 g j) (hg:g=w.heap.size∨(nl=false∧g=p id)) (kM:w'.os=w.os) (kO:w'.tape=w.tape) (kP:w'.output=w.output) (aM:w.heap.size≤w'.heap.size) (b9:∀ b,b < w.heap.size→¬(nl=false∧b=p id)→w'.heap[b]? = w.heap[b]?)
  (iJ:(∀ {x:AV} {u:Value},V0 w (Mof M0 st.h p) x u→V0 w' (Mof M0 (fT id 0 (st.h.set id (some (.arr e sz false qN)))) (cP p id g)) x u)→ObOK w0 w' (Mof M0 (fT id 0 (st.h.set id (some (.arr e sz false qN)))) (cP p id g)) (fT id 0 (st.h.set id (some (.arr e sz false qN)))) (cP p id g) id (.arr e sz false qN))
  (hv:Osl w' g e sz false qN.length (.slice A n c)) :
  Rel M0 w0 N (cP p id g) ⟨(d,.osl id)::st.s.map (fun q=>(q.1,purge id q.2)),fT id 0 (st.h.set id (some (.arr e sz false qN)))⟩ (a.put (some d) (.slice A n c)) w':=by
 generalize fo:fT id 0 (st.h.set id (some (.arr e sz false qN)))=h' at *;generalize sy:cP p id g=p' at *;have eD:id < st.h.length:=(List.getElem?_eq_some_iff.1 hi).1;have hlen:h'.length=st.h.length:=by rw [←fo,yH];simp
 have cL:p' id=g:=by rw [←sy];exact (k_ p id g).1
 have jk:∀ i,i≠id→p' i=p i:=fun i hn=>by rw [←sy];exact (jP hn).1
 have ga:∀ i,i≠id→p'.S i=p.S i:=fun i hn=>by rw [←sy];exact (jP hn).2
 have j1:∀ {i x j},i≠id→(p'.O i x j↔p.O i x j):=fun hn=>by rw [←sy];exact jx hn
 have sA:∀ {x j},p'.O id x j→x=g:=fun h=>by rw [←sy] at h;exact mq h
 have bu:∀ i o,h'[i]? = some (some o)→(i=id∧o = .arr e sz false qN)∨(i≠id∧∃ o0,st.h[i]? = some (some o0)∧cn o0=cn o∧((o0=o∧∀ cs,o = .box cs→cs.all (cE id 5)=true)∨∃ cs,o0 = .box cs∧o = .box (cs.map (qB id i))∧cs.all (fun c=>cE id 5 c || ua id c)=true)):=by
  intro i o aG;rw [←fo,vU] at aG;obtain ⟨x,hx,cY⟩:=Option.map_eq_some_iff.1 aG;rw [Nat.zero_add] at cY;rw [List.getElem?_set] at hx;by_cases he:id=i
  ·rw [if_pos he,if_pos (by omega)] at hx;simp only [Option.some.injEq] at hx;subst hx;simp only [jD,Option.some.injEq] at cY;exact .inl ⟨he.symm,cY.symm⟩
  ·rw [if_neg he] at hx;refine .inr ⟨fun h=>he h.symm,?_⟩;cases x with
   | none=>simp [jD] at cY
   | some y=>
    cases y with
    | box cs=>
     simp only [jD] at cY;split at cY
     ·rename_i bD;simp only [Option.some.injEq] at cY;subst cY;exact ⟨_,hx,rfl,.inl ⟨rfl,fun dI hc=>by injection hc with hc;subst hc;exact bD⟩⟩
     ·split at cY
      ·rename_i bD;simp only [Option.some.injEq] at cY;subst cY;exact ⟨_,hx,rfl,.inr ⟨cs,rfl,rfl,bD⟩⟩
      ·cases cY
    | arr e1 s1 n1 l1=>
     simp only [jD,Option.some.injEq] at cY;subst cY;exact ⟨_,hx,rfl,.inl ⟨rfl,fun dI hc=>by cases hc⟩⟩
    | mpo kf iv=>
     simp only [jD,Option.some.injEq] at cY;subst cY;exact ⟨_,hx,rfl,.inl ⟨rfl,fun dI hc=>by cases hc⟩⟩
    | bag e1 s1 n1 Mj q1=>
     simp only [jD,Option.some.injEq] at cY;subst cY;exact ⟨_,hx,rfl,.inl ⟨rfl,fun dI hc=>by cases hc⟩⟩
 have dh:nl=false→cn (.arr e sz nl es)=true:=fun h=>by subst h;rfl
 have hM:∀ c j,c < w.heap.size→¬Mof M0 st.h p c j→¬Mof M0 h' p' c j:=by
  intro c j hc hn hm;rcases hm with hm|⟨i,o,aG,bs,hp⟩
  ·exact hn (.inl hm)
  ·rcases bu i o aG with ⟨rfl,rfl⟩|⟨ax,o0,bn,oJ,_⟩
   ·have Q_:=sA hp;rcases hg with hg|⟨aL,hg⟩
    ·omega
    ·exact hn (.inr ⟨_,_,hi,dh aL,.inl (by omega)⟩)
   ·exact hn (.inr ⟨i,o0,bn,oJ.trans bs,(j1 ax).1 hp⟩)
 have hk:Keeps (Mof M0 st.h p) w w':=.of_blocks aM fun b dq hn=>b9 b dq fun ⟨aL,he⟩=>hn fun j=>.inr ⟨id,_,hi,dh aL,.inl he.symm⟩;have ax:∀ i o,i≠id→st.h[i]? = some (some o)→cn o=true→∀ b j,p.O i b j→b < w.heap.size→w'.heap[b]? = w.heap[b]?:=fun i o hn aG bs b j hO dq=>b9 b dq fun ⟨aL,he⟩=>hn (R.inj i id o _ aG hi bs (dh aL) b j 0 hO (.inl he.symm));have b8:∀ i o,i≠id→(∀ cs,o≠.box cs)→h'[i]? = some (some o)→st.h[i]? = some (some o):=fun i o hn fZ he=>by
  rcases bu i _ he with ⟨h,_⟩|⟨_,o0,aG,_,⟨rfl,_⟩|⟨cs,_,hb,_⟩⟩
  ·exact absurd h hn
  ·exact aG
  ·exact absurd hb (fZ _)
 have qg:∀ i e sz nl es v,i≠id→h'[i]? = some (some (.arr e sz nl es))→(∀ e sz nl es,st.h[i]? = some (some (.arr e sz nl es))→Osl w (p i) e sz nl es.length v)→Osl w' (p i) e sz nl es.length v:=fun i e sz nl es v hn he hv=>by
  have aG:=b8 i _ hn (fun cs h=>by cases h) he;exact (hv _ _ _ _ aG).keep fun aL aq=>ax i _ hn aG (by rw [aL];rfl) _ 0 (.inl rfl) aq
 have Ce:∀ i e sz nl ak qs v,i≠id→h'[i]? = some (some (.bag e sz nl ak qs))→(∀ e sz nl ak qs,st.h[i]? = some (some (.bag e sz nl ak qs))→Osl w (p i) e 1 nl qs.length v)→Osl w' (p i) e 1 nl qs.length v:=fun i e sz nl ak qs v hn he hv=>by
  have aG:=b8 i _ hn (fun cs h=>by cases h) he;exact (hv _ _ _ _ _ aG).keep fun aL aq=>ax i _ hn aG (by rw [aL];rfl) _ 0 (.inl rfl) aq
 have Cf:∀ i k sz v,i≠id→i < st.h.length→Sp w st.h p i k sz v→Sp w' h' p' i k sz v:=fun i k sz v hn _ hs=>hs.keep (fun e sz ak qs he=>by
  have aG:=b8 i _ hn (fun cs h=>by cases h) he;exact ⟨aG,jk i hn,ga i hn,ax i _ hn aG rfl⟩) aM
 have hV:∀ (n:Nat) {x:AV} {u:Value},V1 w (Mof M0 st.h p) st.h p x u→cE id n x=true→V1 w' (Mof M0 h' p') h' p' x u:=fun n x u hx hn=>V1.purge hk hM (by omega) jk qg Ce Cf n x u hx hn;have dE:∀ {x:AV} {u:Value},V0 w (Mof M0 st.h p) x u→V0 w' (Mof M0 h' p') x u:=fun hx=>hx.keep hk hM;have hF:∀ b,b < w.heap.size→¬(∀ j,Fr w0 b j)→w'.heap[b]? = w.heap[b]?:=fun b dq hn=>b9 b dq fun ⟨aL,he⟩=>hn fun j=>by rw [he];exact (R.objs id _ hi).ge (dh aL) j
 refine ⟨R.defers,R.size.put hd,R.below.blocks kM kO kP aM hF,R.m0,R.x0,fun i=>?_,fun i o aG=>?_,fun i i' o o' aG bn bs dX x j j' hO ct=>?_⟩
 ·rw [mr a d _ i (R.size.lt hd)];simp only [lkp];split
  ·refine .osl id A n c (by omega) (fun e' bw kl es' he=>?_) fun e' bw kl pe qs he=>?_
   ·rcases bu id _ he with ⟨_,h⟩|⟨h,_⟩
    ·injection h with h1 h2 h3 h4
     subst h1 h2 h3 h4;rw [cL];exact hv
    ·exact absurd rfl h
   ·rcases bu id _ he with ⟨_,h⟩|⟨h,_⟩
    ·cases h
    ·exact absurd rfl h
  ·rcases Cd id st.s i with h|h
   ·rw [h];unfold Go.Proofs.YtoibondihdhnoaaGreatDoor.purge;split
    ·rename_i hn;exact hV 5 (R.slots i) hn
    ·exact .base _ _ (.any _)
   ·rw [h];exact .base _ _ (.any _)
 ·rcases bu i o aG with ⟨rfl,rfl⟩|⟨hn,o0,bn,oJ,⟨rfl,je⟩|⟨cs,rfl,rfl,aF⟩⟩
  ·exact iJ dE
  rotate_left
  ·obtain ⟨h1,cur,e,hg,h2,h3,h4⟩:=R.objs i _ bn;refine ⟨by unfold Own;rw [jk i hn,ga i hn];exact h1,cur,e,by rw [jk i hn,ax i _ hn bn rfl _ 0 (.inl rfl) (Array.getElem?_eq_some_iff.1 hg).1];exact hg,by simpa using h2,fun c hc=>?_,fun j c hj=>?_⟩
   ·obtain ⟨c0,lp,rfl⟩:=List.mem_map.1 hc;unfold qB;split
    ·exact h3 c0 lp
    ·rfl
   ·rw [List.getElem?_map] at hj;obtain ⟨c0,kL,rfl⟩:=Option.map_eq_some_iff.1 hj;obtain ⟨u,hu,hv⟩:=h4 j c0 kL;refine ⟨u,hu,?_⟩;unfold qB;split
    ·rename_i bD;exact hV 5 hv bD
    ·rename_i bD;have:=List.all_eq_true.1 aF c0 (List.mem_of_getElem? kL);rw [Bool.or_eq_true] at this;rcases this with h|h
     ·exact absurd h bD
     ·obtain ⟨k,rfl⟩ : ∃ k,c0 = .osl k:=by cases c0<;>first|exact ⟨_,rfl⟩|(simp [ua] at h;done)
      obtain ⟨A2,n2,c2,rfl,_,_⟩:=hv.osl_inv;refine .osl _ _ _ _ (by rw [hlen];exact (List.getElem?_eq_some_iff.1 bn).1) (fun e sz nl es he=>?_) fun e sz nl pe qs he=>?_
      ·rw [aG] at he;cases he
      ·rw [aG] at he;cases he
  ·exact (R.objs i o0 bn).keep (fun _=>⟨jk i hn,ga i hn⟩) (fun bs b j hO dq=>ax i o0 hn bn bs b j hO dq) aM dE fun cs bW c hc u hx=>hV 5 hx (List.all_eq_true.1 (je cs bW) c hc)
 ·have aq:∀ i o,i≠id→st.h[i]? = some (some o)→cn o=true→∀ x j,p.O i x j→g≠x:=by
   intro i o hn h1 hl x j hO he;rcases hg with hg|⟨aL,hg⟩
   ·have:=((R.objs i o h1).own hl x j hO).2;omega
   ·exact hn (R.inj i id o _ h1 hi hl (dh aL) x j 0 hO (.inl (by omega)))
  rcases bu i o aG with ⟨rfl,rfl⟩|⟨hn,o1,h1,e1,_⟩<;>rcases bu i' o' bn with ⟨rfl,rfl⟩|⟨la,o2,h2,e2,_⟩
  ·rfl
  ·exact absurd (sA hO).symm (aq i' o2 la h2 (e2.trans dX) x j' ((j1 la).1 ct))
  ·exact absurd (sA ct).symm (aq i o1 hn h1 (e1.trans bs) x j ((j1 hn).1 hO))
  ·exact R.inj i i' o1 o2 h1 h2 (e1.trans bs) (e2.trans dX) x j j' ((j1 hn).1 hO) ((j1 la).1 ct)
theorem Ml {es:List (List AV)} {sz:Nat} {u:Nat→Nat→Value} {k:Nat} {x:List AV} {j:Nat} {c:AV} (hk:es[k]? = some x) (hj:x[j]? = some c) (hl:x.length=sz) :
  ((List.range es.length).flatMap fun k=>(List.range sz).map fun j=>if k < es.length then u k j else .bool false)[k*sz+j]? = some (u k j):=by
 have ca:=(List.getElem?_eq_some_iff.1 hk).1;have bB:=(List.getElem?_eq_some_iff.1 hj).1;have key:∀ (n b:Nat),b+k < b+n→(((List.range' b n).flatMap fun k=>(List.range sz).map fun j=>if k < es.length then u k j else Value.bool false))[k*sz+j]? = some (if b+k < es.length then u (b+k) j else .bool false):=by
  clear ca hk;induction k with
  | zero=>
   intro n b hn;cases n with
   | zero=>omega
   | succ n=>
    rw [List.range'_succ,List.flatMap_cons,List.getElem?_append_left (by simp;omega)];simp [show j < sz by omega]
  | succ k ih=>
   intro n b hn;cases n with
   | zero=>omega
   | succ n=>
    rw [List.range'_succ,List.flatMap_cons,List.getElem?_append_right (by simp [Nat.add_mul];omega)];have:=ih n (b+1) (by omega);simp only [List.length_map,List.length_range];rw [show (k+1)*sz+j - sz=k*sz+j by rw [Nat.add_mul];omega,this,show b+1+k=b+(k+1) by omega]
 have:=key es.length 0 (by omega);rw [show List.range es.length=List.range' 0 es.length from List.range_eq_range',this];simp [ca]
end
section
variable {P:Program} {M0:Nat→Nat→Prop} {w0:Bas} {N:Nm} {p:Pl} {st:VS} {a:Act} {w:World}
theorem Gg {us:List Value} {cs:List AV} {d:Nat} (R:Rel M0 w0 N p st a w) (hd:N.has d) (hc:Cells w (Mof M0 st.h p) st.h p cs us) (t:TypeId) :
  Rel M0 w0 N (cP p st.h.length w.heap.size) ⟨(d,.ref st.h.length 0)::st.s,st.h++[some (.box cs)]⟩ (a.put (some d) (.pointer (some ⟨w.heap.size,0,none⟩))) { w with heap:=w.heap.push (.cells us.toArray t) }:=by
 have hb:=mo w (.cells us.toArray t);have k9:cP p st.h.length w.heap.size st.h.length=w.heap.size:=(k_ p _ _).1;refine R.grow hb hd (fun _=>Nat.le_refl _) (fun _ _ _ _ _ h=>by cases h) ⟨tH R.below.size,us.toArray,t,by rw [k9];simp [-World.alloc_eq],by simp [hc.1],hc.2.1,fun j c hj=>?_⟩ ?_
 ·have eM:j < us.length:=by rw [hc.1];exact (List.getElem?_eq_some_iff.1 hj).1
  exact ⟨us[j],by simp [eM],R.growV hb (fun _=>Nat.le_refl _) (hc.2.2 j c us[j] hj (List.getElem?_eq_getElem eM))⟩
 ·have:=V1.ref (w:={ w with heap:=w.heap.push (.cells us.toArray t) }) (M:=Mof M0 (st.h++[some (.box cs)]) (cP p st.h.length w.heap.size)) (h:=st.h++[some (.box cs)]) (p:=cP p st.h.length w.heap.size) st.h.length 0 (by simp);rwa [k9] at this
theorem Gh {us:List Value} {es:List (List AV)} {d e sz:Nat} (R:Rel M0 w0 N p st a w) (hd:N.has d) (aM:0 < sz) (hlen:us.length=es.length*sz) (fU:es.length≤maxLen) (cO:∀ (k:Nat) (x:List AV),es[k]? = some x→x.length=sz∧∀ c∈x,cQ c=true)
  (hv:∀ (k:Nat) (x:List AV) (j:Nat) (c:AV) (u:Value),es[k]? = some x→x[j]? = some c→us[k*sz+j]? = some u→V0 w (Mof M0 st.h p) c u) :
  Rel M0 w0 N (cP p st.h.length w.heap.size) ⟨(d,.osl st.h.length)::st.s,st.h++[some (.arr e sz false es)]⟩ (a.put (some d) (.slice (some ⟨w.heap.size,0,none⟩) es.length es.length)) { w with heap:=w.heap.push (.cells us.toArray e) }:=by
 have hb:=mo w (.cells us.toArray e);have k9:cP p st.h.length w.heap.size st.h.length=w.heap.size:=(k_ p _ _).1;have hg:({ w with heap:=w.heap.push (.cells us.toArray e) } : World).heap[w.heap.size]? = some (.cells us.toArray e (0,0)):=by simp [-World.alloc_eq]
 have hM:=R.growM (ob:=.arr e sz false es) (b:=w.heap.size) (fun _=>Nat.le_refl _);refine R.grow hb hd (fun _=>Nat.le_refl _) (fun _ _ _ _ _ h=>by cases h) ⟨aM,cO,?_⟩ ?_
 ·rw [if_neg (by simp)];refine ⟨tH R.below.size,us.toArray,by rw [k9];exact hg,by simp [hlen],fun k x j c hk hj=>?_⟩;have ca:=(List.getElem?_eq_some_iff.1 hk).1;have bB:=(List.getElem?_eq_some_iff.1 hj).1;have lM:=(cO k x hk).1;have h1:(k+1)*sz≤es.length*sz:=Nat.mul_le_mul_right _ ca;rw [Nat.add_mul] at h1;have aq:k*sz+j < us.length:=by omega
  exact ⟨us[k*sz+j],by simp [aq],(hv k x j c _ hk hj (List.getElem?_eq_getElem aq)).keep (.of_below hb) hM⟩
 ·refine .osl _ _ _ _ (by simp) (fun e' bw kl es' he=>?_) fun e' bw kl pe qs he=>?_
  ·rw [List.getElem?_append_right (Nat.le_refl _)] at he;simp only [Nat.sub_self,List.getElem?_cons_zero,Option.some.injEq] at he;injection he with h1 h2 h3 h4
   subst h1 h2 h3 h4;unfold Osl;rw [if_neg (by simp),k9];exact ⟨es.length,us.toArray,rfl,hg,by simp [hlen],Nat.le_refl _,fU⟩
  ·rw [List.getElem?_append_right (Nat.le_refl _)] at he;simp at he
theorem Mm {d e sz:Nat} (R:Rel M0 w0 N p st a w) (hd:N.has d) (aM:0 < sz) :
  Rel M0 w0 N (cP p st.h.length 0) ⟨(d,.osl st.h.length)::st.s,st.h++[some (.arr e sz true [])]⟩ (a.put (some d) (.slice none 0 0)) w:=by
 refine R.grow (Below.refl _ _) hd (fun h=>by cases h) (fun _ _ _ _ _ h=>by cases h) ⟨aM,by simp,by simp⟩ (.osl _ _ _ _ (by simp) (fun e' bw kl es' he=>?_) fun e' bw kl pe qs he=>?_)
 ·rw [List.getElem?_append_right (Nat.le_refl _)] at he;simp only [Nat.sub_self,List.getElem?_cons_zero,Option.some.injEq] at he;injection he with h1 h2 h3 h4
  subst h1 h2 h3 h4;simp [Osl]
 ·rw [List.getElem?_append_right (Nat.le_refl _)] at he;simp at he
theorem Gi {cs vs:List AV} {off:Nat} (dJ:off+vs.length≤cs.length) (j:Nat) : (lW cs off vs)[j]? = if j < off then cs[j]? else if j < off+vs.length then vs[j - off]? else cs[j]?:=by
 unfold lW;by_cases h1:j < off
 ·rw [if_pos h1,List.append_assoc,List.getElem?_append_left (by simp;omega),List.getElem?_take_of_lt h1]
 ·rw [if_neg h1,List.append_assoc,List.getElem?_append_right (by simp;omega)];have e1:(cs.take off).length=off:=by simp;omega
  rw [e1];by_cases h2:j < off+vs.length
  ·rw [if_pos h2,List.getElem?_append_left (by omega)]
  ·rw [if_neg h2,List.getElem?_append_right (by omega),List.getElem?_drop];congr 1;omega
theorem Gj {cs vs:List Value} {off:Nat} (dJ:off+vs.length≤cs.length) (j:Nat) : (cs.take off++vs++cs.drop (off+vs.length))[j]? = if j < off then cs[j]? else if j < off+vs.length then vs[j - off]? else cs[j]?:=by
 by_cases h1:j < off
 ·rw [if_pos h1,List.append_assoc,List.getElem?_append_left (by simp;omega),List.getElem?_take_of_lt h1]
 ·rw [if_neg h1,List.append_assoc,List.getElem?_append_right (by simp;omega)];have e1:(cs.take off).length=off:=by simp;omega
  rw [e1];by_cases h2:j < off+vs.length
  ·rw [if_pos h2,List.getElem?_append_left (by omega)]
  ·rw [if_neg h2,List.getElem?_append_right (by omega),List.getElem?_drop];congr 1;omega
theorem Gk {cs vs:List AV} {off:Nat} (h1:∀ c∈cs,cQ c=true) (h2:∀ c∈vs,cQ c=true) : ∀ c∈lW cs off vs,cQ c=true:=by
 intro c hc;unfold lW at hc;rcases List.mem_append.1 hc with hc|hc
 ·rcases List.mem_append.1 hc with hc|hc
  ·exact h1 c (List.mem_of_mem_take hc)
  ·exact h2 c hc
 ·exact h1 c (List.mem_of_mem_drop hc)
theorem Gl {cs vs:List AV} {off:Nat} (dJ:off+vs.length≤cs.length) : (lW cs off vs).length=cs.length:=by
 unfold lW;simp;omega
theorem wk (w:World) (g:Nat) (cs:Array Value) (b:Nat) (h:b≠g) : (w.setRow g cs).heap[b]? = w.heap[b]?:=by
 simp only [World.setRow,Array.getElem?_modify];rw [if_neg (by omega)]
theorem wm (w:World) (g:Nat) (cs:Array Value) : (w.setRow g cs).heap.size=w.heap.size:=by simp [World.setRow]
theorem Cg {t:TypeId} {ti:TI} {g o:Nat} {cur:Array Value} {e:TypeId} {v:Value} (aV:aU P t=some ti) (aM:v.cells.size=ti.size) (hg:w.heap[g]? = some (.cells cur e (0,0))) (dJ:o+ti.size≤cur.size) (h1:∀ x∈v.cells.toList,x.oneCell'=true) :
  (Instr.storeAt t (.pointer (some ⟨g,o,none⟩)) v).run P w = .ok () (w.setRow g (cur.toList.take o++v.cells.toList++cur.toList.drop (o+v.cells.toList.length)).toArray):=by
 have:=run_storeCells_at P g o e v.cells.toList 0 cur w hg (by simp;omega) h1;simp only [Nat.add_zero] at this;simp only [Instr.storeAt,Instr.sureAddr,Sem.run_bind,Sem.run_pure,Result.andThen_ok,storeVar,J6 aV,Sem.run_ite,aM,ne_eq,not_true_eq_false,if_false];exact this
theorem Gm {cs:List AV} {us:List Value} {M:Nat→Nat→Prop} {h:Hp} (hc:Cells w M h p cs us) : ∀ x∈us,x.oneCell'=true:=by
 intro x hx;obtain ⟨i,hi⟩:=List.mem_iff_getElem?.1 hx;have hl:i < cs.length:=by rw [←hc.1];exact (List.getElem?_eq_some_iff.1 hi).1
 exact (hc.2.2 i cs[i] x (List.getElem?_eq_getElem hl) hi).one (hc.2.1 _ (List.getElem_mem hl))
theorem Gn {t:TypeId} {x y:Operand} {ti:TI} {id off:Nat} {cs:List AV} (R:Rel M0 w0 N p st a w) (aV:aU P t=some ti) (hx:ev st x = .ref id off) (hid:st.h[id]? = some (some (.box cs))) (h1:oK (ev st y)=true) (h2:(fS (ev st y)).length=ti.size) (h3:off+ti.size≤cs.length) :
  ∃ w',(Instr.storeAt t (a.eval x) (a.eval y)).run P w = .ok () w'∧Rel M0 w0 N p ⟨st.s,st.h.set id (some (.box (lW cs off (fS (ev st y)))))⟩ a w':=by
 have iL:=R.eval x;rw [hx] at iL;obtain ⟨hq,_⟩:=iL.ref_inv;have aE:=(R.eval y).cells h1;obtain ⟨dr,cur,e,hg,bW,b_,hv⟩:=R.objs id _ hid;have gx:(a.eval y).cells.size=ti.size:=by rw [←Array.length_toList,aE.1,h2]
 refine ⟨_,by rw [hq];exact Cg aV gx hg (by omega) (Gm aE),?_⟩;have dJ:off+(a.eval y).cells.toList.length≤cur.toList.length:=by simp;omega
 have j2:off+(fS (ev st y)).length≤cs.length:=by omega
 have hlen:(a.eval y).cells.toList.length=(fS (ev st y)).length:=aE.1;have aq:=(Array.getElem?_eq_some_iff.1 hg).1;refine R.write hid rfl rfl (fun _ _ _ _ _ h=>by cases h) (fun _ _ _ _ _ h=>by cases h) (wm w _ _).symm rfl rfl rfl (fun b hb=>wk w _ _ b hb) rfl (fun e sz nl es v he=>by cases he) fun hV _=>?_;refine ⟨dr,_,e,setRow_heap w (p id) cur _ e _ hg,?_,Gk b_ aE.2.1,fun j c hj=>?_⟩
 ·rw [Gl j2];simp;omega
 ·rw [Gi j2] at hj;have bm:=Gj dJ j;rw [hlen] at bm;split at hj
  ·rename_i aq;rw [if_pos aq] at bm;obtain ⟨u,hu,kz⟩:=hv j c hj;exact ⟨u,by rw [List.getElem?_toArray,hlen,bm];simpa using hu,hV kz⟩
  ·rename_i aq;rw [if_neg aq] at bm;split at hj
   ·rename_i kT;rw [if_pos kT] at bm;have bB:j - off < (a.eval y).cells.toList.length:=by rw [hlen];exact (List.getElem?_eq_some_iff.1 hj).1
    exact ⟨_,by rw [List.getElem?_toArray,hlen,bm];exact List.getElem?_eq_getElem bB,hV (aE.2.2 _ c _ hj (List.getElem?_eq_getElem bB))⟩
   ·rename_i kT;rw [if_neg kT] at bm;obtain ⟨u,hu,kz⟩:=hv j c hj;exact ⟨u,by rw [List.getElem?_toArray,hlen,bm];simpa using hu,hV kz⟩
theorem Mn {t:TypeId} {x y:Operand} {ti:TI} {id sz i off e:Nat} {nl:Bool} {es:List (List AV)} (R:Rel M0 w0 N p st a w) (aV:aU P t=some ti) (hx:ev st x = .aref id sz i off) (hid:st.h[id]? = some (some (.arr e sz nl es))) (hi:i < es.length) (h1:oK (ev st y)=true)
  (hp:(fS (ev st y)).all (e8 5)=true) (h2:(fS (ev st y)).length=ti.size) (h3:off+ti.size≤sz) :
  ∃ w',(Instr.storeAt t (a.eval x) (a.eval y)).run P w = .ok () w'∧Rel M0 w0 N p ⟨st.s,st.h.set id (some (.arr e sz nl (es.set i (lW (es.getD i []) off (fS (ev st y))))))⟩ a w':=by
 have iL:=R.eval x;rw [hx] at iL;obtain ⟨hq,_⟩:=iL.aref_inv;have aE:=(R.eval y).cells h1;obtain ⟨aM,cO,hr⟩:=R.objs id _ hid;have aL:nl=false:=by cases nl;rfl;simp only [if_true] at hr;subst hr;simp at hi
 subst aL;simp only [Bool.false_eq_true,if_false] at hr;obtain ⟨dr,cur,hg,bW,hv⟩:=hr;have gx:(a.eval y).cells.size=ti.size:=by rw [←Array.length_toList,aE.1,h2]
 have hlen:(a.eval y).cells.toList.length=(fS (ev st y)).length:=aE.1;have Ch:es[i]? = some (es.getD i []):=by simp [List.getD,hi]
 obtain ⟨lM,wo⟩:=cO i _ Ch;have aS:(i+1)*sz≤es.length*sz:=Nat.mul_le_mul_right _ hi;rw [Nat.add_mul] at aS;refine ⟨_,by rw [hq];exact Cg aV gx hg (by omega) (Gm aE),?_⟩;have dJ:i*sz+off+(a.eval y).cells.toList.length≤cur.toList.length:=by simp;omega
 have j2:off+(fS (ev st y)).length≤(es.getD i []).length:=by omega
 have nF:∀ (j:Nat) (c:AV) (u:Value),(fS (ev st y))[j]? = some c→(a.eval y).cells.toList[j]? = some u→V0 w (Mof M0 st.h p) c u:=fun j c u hc hu=>(aE.2.2 j c u hc hu).pure 5 (List.all_eq_true.1 hp c (List.mem_of_getElem? hc));refine R.write hid rfl rfl (fun _ _ _ _ _ h=>by cases h) (fun _ _ _ _ _ h=>by cases h) (wm w _ _).symm rfl rfl rfl (fun b hb=>wk w _ _ b hb) rfl (fun e' bw kl es' v he ho=>?_) fun _ dE=>⟨aM,fun k z hk=>?_,?_⟩
 ·injection he with q1 q2 q3 q4
  subst q1 q2 q3 q4;have:=ho _ _ _ _ rfl;unfold Osl at this ⊢;simp only [Bool.false_eq_true,if_false,List.length_set] at this ⊢;obtain ⟨cap,cur',b1,b2,b3,b4⟩:=this;obtain rfl:cur'=cur:=by rw [hg] at b2;injection b2 with b2;injection b2 with b2;exact b2.symm
  refine ⟨cap,_,b1,setRow_heap w (p id) cur' _ e _ hg,?_,b4⟩;rw [←b3];simp;simp at dJ;omega
 ·rw [List.getElem?_set] at hk;split at hk
  ·first|rw [if_pos hi] at hk|skip
   simp only [Option.some.injEq] at hk;subst hk;exact ⟨by rw [Gl j2,lM],Gk wo aE.2.1⟩
  ·exact cO k z hk
 ·simp only [Bool.false_eq_true,if_false];refine ⟨dr,_,setRow_heap w (p id) cur _ e _ hg,?_,fun k z j c hk hj=>?_⟩
  ·simp;simp at dJ;omega
  ·have bm:=Gj dJ (k*sz+j);rw [hlen] at bm;rw [List.getElem?_set] at hk;split at hk
   ·rename_i jy;subst jy;first|rw [if_pos hi] at hk|skip
    simp only [Option.some.injEq] at hk;subst hk;rw [Gi j2] at hj;split at hj
    ·rename_i aq;rw [if_pos (by omega)] at bm;obtain ⟨u,hu,kz⟩:=hv i _ j c Ch hj;exact ⟨u,by rw [List.getElem?_toArray,hlen,bm];simpa using hu,dE kz⟩
    ·rename_i aq;rw [if_neg (by omega)] at bm;split at hj
     ·rename_i kT;rw [if_pos (by omega)] at bm;have bB:j - off < (a.eval y).cells.toList.length:=by rw [hlen];exact (List.getElem?_eq_some_iff.1 hj).1
      refine ⟨(a.eval y).cells.toList[j - off],?_,dE (nF _ c _ hj (List.getElem?_eq_getElem bB))⟩;rw [List.getElem?_toArray,hlen,bm,show i*sz+j - (i*sz+off)=j - off by omega];exact List.getElem?_eq_getElem bB
     ·rename_i kT;rw [if_neg (by omega)] at bm;obtain ⟨u,hu,kz⟩:=hv i _ j c Ch hj;exact ⟨u,by rw [List.getElem?_toArray,hlen,bm];simpa using hu,dE kz⟩
   ·rename_i jy;obtain ⟨u,hu,kz⟩:=hv k z j c hk hj;have vB:=(cO k z hk).1;have bB:=(List.getElem?_eq_some_iff.1 hj).1;have Ci:k*sz+j < i*sz+off∨i*sz+off+(fS (ev st y)).length≤k*sz+j:=by
     rcases Nat.lt_or_ge k i with aq|Mo
     ·left;have:(k+1)*sz≤i*sz:=Nat.mul_le_mul_right _ aq;rw [Nat.add_mul] at this;omega
     ·right;have:(i+1)*sz≤k*sz:=Nat.mul_le_mul_right _ (by omega);rw [Nat.add_mul] at this;omega
    refine ⟨u,?_,dE kz⟩;rw [List.getElem?_toArray,hlen,bm];rcases Ci with h|h
    ·rw [if_pos h];simpa using hu
    ·rw [if_neg (by omega),if_neg (by omega)];simpa using hu
end
section
variable {P:Program} {M0:Nat→Nat→Prop} {w0:Bas} {N:Nm} {p:Pl} {st:VS} {a:Act} {w:World}
theorem uq {d:Option Tmp} {av:AV} {ob:Ob} {aK:VS} (h:pI st d av ob=some aK) : ∃ t,d=some t∧aK=⟨(t,av)::st.s,st.h++[some ob]⟩:=by
 unfold pI at h;cases d with
 | none=>cases h
 | some t=>exact ⟨t,rfl,(Option.some.inj h).symm⟩
theorem Er {t:TypeId} {ti te:TI} {n:Nat} (aV:aU P t=some ti) (fD:aU P ti.elem=some te) (hk:ti.kind=1) (h1:te.size=ti.esz) (h2:te.zero.length=ti.esz) (h3:ti.esz≠0) (hn:n≤1000000000) (gR:te.bytes≤100000) :
  (Instr.makeSlice t (.int .i64 n) (.int .i64 n)).run P w = .ok (.slice (some ⟨w.heap.size,0,none⟩) n n) { w with heap:=w.heap.push (.cells (fu te.zero n).toArray ti.elem) }:=by
 obtain ⟨z,hz,iM,km⟩:=pr fD;have hu:=lu aV hk;have ff:ti.esz=dG P ti.elem:=by obtain ⟨d,i,z,hd,hi,hz,fE,rfl⟩:=e_ aV;rfl
 have cH:0 < dG P ti.elem:=by omega
 have wq:∃ i:TypeInfo,(typeInfo ti.elem).run P w = .ok i w∧i.bytes=te.bytes:=by
  obtain ⟨d,i,z,hd,hi,hz,fE,rfl⟩:=e_ fD;exact ⟨i,by simp [typeInfo,hi],rfl⟩
 obtain ⟨inf,gD,hb⟩:=wq;have hw:IntKind.i64.wrap (n:Int)=n:=IntWalk.i64_in _ (by omega);have hmul:inf.bytes*n≤100000*1000000000:=Nat.mul_le_mul (by omega) hn;have Gp:(inf.bytes:Int)*(n:Int)≤100000000000000:=by
  have:((inf.bytes*n:Nat) : Int)≤((100000*1000000000:Nat) : Int):=Int.ofNat_le.2 hmul;simpa using this
 have bQ:¬((n:Int) < 0):=by omega
 have pF:¬((inf.bytes:Int)*(n:Int) > 2 ^ 48):=by omega
 have fX:z.cells.size=dG P ti.elem:=by rw [←Array.length_toList,hz,h2,ff]
 have aS:=Fg z.cells n (by omega);rw [hz] at aS;have sB:(Array.range (n*z.cells.size)).map (z.cells[· % z.cells.size]!)=(fu te.zero n).toArray:=by rw [←aS]
 have Cj:decide ((inf.bytes:Int)*(n:Int) > 2 ^ 48)=false:=by simp;omega
 have gv:¬((n:Int) > (n:Int)):=by omega
 simp only [Instr.makeSlice,Sem.run_bind,run_underlying hu,Result.andThen_ok,asInt,asIntOf,Sem.run_pure,gD,hw,Cj,Sem.run_ite,bQ,gv,decide_false,Bool.or_false,Bool.false_or,Bool.false_eq_true,if_false,run_askRoom,Int.toNat_natCast,kk cH];by_cases h0:n*dG P ti.elem=0
 ·have vS:n=0:=by
   rcases Nat.mul_eq_zero.1 h0 with h|h
   ·exact h
   ·omega
  subst vS;have e0:∀ f:Nat→Value,(Array.range 0).map f=#[]:=fun f=>by simp
  simp [newRow,fu,e0]
 ·simp only [Sem.run_bind,km,Result.andThen_ok,Sem.run_pure,←fX,sB,newRow,run_newObj];rw [if_neg (by rw [fX];exact h0)]
theorem Eg {z:List Value} {n:Nat} : ∀ (k j:Nat) (c:AV) (u:Value),k < n→(z.map AV.lit)[j]? = some c→(fu z n)[k*z.length+j]? = some u→c = .lit u:=by
 intro k j c u hk hj hu;have bB:j < z.length:=by simpa using (List.getElem?_eq_some_iff.1 hj).1
 have aq:k*z.length+j < n*z.length:=by
  have:(k+1)*z.length≤n*z.length:=Nat.mul_le_mul_right _ hk;rw [Nat.add_mul] at this;omega
 rw [BK z n _ aq,Nat.mul_comm,Nat.mul_add_mod,Nat.mod_eq_of_lt bB] at hu;rw [List.getElem?_map,hu] at hj;simpa using hj.symm
theorem Mp (a:Addr) : loadCells a 0=pure #[]:=rfl
theorem Gq {P:Program} {w:World} {t ty e:TypeId} {i:TypeInfo} (ht:P.underlying t=some (.slice e)) (hi:P.info? e=some i) (a0:Addr) (B:Option Addr) (m c:Nat) (hm:0 < m) (hb:m*i.bytes≤281474976710656) (tU:m≤1000000000) :
  (Builtin.append_ #[t,t] ty #[.slice (some a0) 0 0,.slice B m c]).run P w=(Builtin.append_ #[t,t] ty #[.slice none 0 0,.slice B m c]).run P w:=by
 have h1:¬m=0:=by omega
 have h2:Builtin.nextslicecap m 0=m:=by unfold Builtin.nextslicecap;rw [if_pos (by omega)]
 have h3:¬(281474976710656 < m*i.bytes):=by omega
 have h4:¬((9223372036854775807:Int) < m):=by omega
 simp [Builtin.append_,run_underlying ht,sizeOf,typeInfo,hi,Builtin.lenOf,Builtin.firstCells,h1,h2,h3,h4,Mp]
theorem Gr {t ty e id sz d:Nat} {x y:Operand} {ti te:TI} {nl:Bool} {es' es:List (List AV)} {Gs:Array TypeId} (R:Rel M0 w0 N p st a w) (hd:N.has d) (aV:aU P t=some ti) (hx:ev st x = .osl id) (hy:ev st y = .sl sz es) (hid:st.h[id]? = some (some (.arr e sz nl es'))) (fD:aU P ti.elem=some te)
  (hk:ti.kind=1) (he:ti.elem=e) (_hez:ti.esz=sz) (h1:te.size=sz) (h2:te.zero.length=sz) (dB:nl=true→0 < es.length) (fU:es'.length+es.length≤1000000000) (gR:te.bytes≤100000) (Ck:Gs=#[t,t]) :
  ∃ v w' p',(Builtin.append_ Gs ty #[a.eval x,a.eval y]).run P w = .ok v w'∧Rel M0 w0 N p' ⟨(d,.osl id)::st.s.map (fun q=>(q.1,purge id q.2)),fT id 0 (st.h.set id (some (.arr e sz false (es'++es))))⟩ (a.put (some d) v) w':=by
 subst Ck;subst he;have iL:=R.eval x;rw [hx] at iL;have jN:=R.eval y;rw [hy] at jN;obtain ⟨A0,n0,c0,hq,eD,bo⟩:=iL.osl_inv;have bo:=bo _ _ _ _ hid;obtain ⟨aM,wu,hr⟩:=R.objs id _ hid;obtain ⟨dd,inf,z,eg,hi,hz,iM,g_⟩:=e_ fD;have bI:inf.size=sz:=by rw [←h1,g_]
 have fX:z.cells.size=sz:=by rw [←h2,g_,Array.length_toList]
 have l8:inf.bytes≤100000:=by rw [g_] at gR;exact gR
 have hu:=lu aV hk;have Mq:∃ vx:Value,(Builtin.append_ #[t,t] ty #[a.eval x,a.eval y]).run P w=(Builtin.append_ #[t,t] ty #[vx,a.eval y]).run P w∧(if nl=true then vx = .slice none 0 0∧es'.length=0 else ∃ cap cur,vx = .slice (some ⟨p id,0,none⟩) es'.length cap∧w.heap[p id]? = some (.cells cur ti.elem (0,0))∧cur.size=cap*sz∧es'.length≤cap∧cap≤maxLen):=by
  unfold Osl at bo;cases nl
  ·simp only [Bool.false_eq_true,if_false] at bo ⊢;exact ⟨_,rfl,bo⟩
  ·simp only [if_true] at bo ⊢;obtain ⟨⟨A,hA⟩,h0⟩:=bo;refine ⟨_,?_,rfl,h0⟩;cases A with
   | none=>rw [hA]
   | some a0=>
    have pD:=dB rfl;have cR:=jN.sl_inv;have eh:es.length*inf.bytes≤281474976710656:=by
     have:es.length*inf.bytes≤1000000000*100000:=Nat.mul_le_mul (by omega) l8;omega
    obtain ⟨B,c,hB⟩ : ∃ B c,a.eval y = .slice B es.length c:=by
     generalize a.eval y=yv at cR;cases cR with
     | slNil=>simp at pD
     | sl _ _ cap b o u=>exact ⟨_,_,rfl⟩
    rw [hA,hB];exact Gq hu hi a0 B es.length c pD eh (by omega)
 obtain ⟨vx,b8,bo⟩:=Mq;rw [b8];clear b8;have cz:∃ xs,w.ownsRow 0 ti.elem sz vx es'.length xs∧(nl=true→xs=[]∧es'=[])∧(nl=false→∃ cap cur,vx = .slice (some ⟨p id,0,none⟩) es'.length cap∧w.heap[p id]? = some (.cells cur ti.elem (0,0))∧xs=cur.toList.take (es'.length*sz)∧es'.length*sz≤cur.size):=by
  cases nl
  ·simp only [Bool.false_eq_true,if_false] at hr;simp only [Bool.false_eq_true,if_false] at bo;obtain ⟨cap,cur,b1,b2,b3,b4,b5⟩:=bo;obtain ⟨dr,cur',hg,hle,hv⟩:=hr;obtain rfl:cur'=cur:=by rw [hg] at b2;injection b2 with b2;injection b2
   refine ⟨cur'.toList.take (es'.length*sz),⟨by simp;omega,.inr ⟨p id,cap,cur',b1,Nat.zero_le _,hg,b4,b5,b3,rfl⟩⟩,(fun h=>by cases h),fun _=>⟨cap,cur',b1,hg,rfl,hle⟩⟩
  ·simp only [if_true] at hr;subst hr;simp only [if_true] at bo;exact ⟨[],⟨by simp,.inl ⟨bo.1,rfl⟩⟩,fun _=>⟨rfl,rfl⟩,fun h=>by cases h⟩
 obtain ⟨xs,cz,qO,lz⟩:=cz;obtain ⟨A1,m,c1,u,sC,hm,hS,wv,o_⟩ : ∃ (A1:Option Addr) (m c1:Nat) (u:Nat→Nat→Value),a.eval y = .slice A1 m c1∧m=es.length∧Sl (fun k=>(List.range sz).map fun j=>if k < es.length then u k j else .bool false) sz w A1 (List.range es.length) ∧
   (∀ k j,k < es.length→j < sz→(u k j).oneCell'=true)∧∀ (k:Nat) (x:List AV) (j:Nat) (c:AV),es[k]? = some x→x[j]? = some c→x.length=sz∧cQ c=true∧V0 w (Mof M0 st.h p) c (u k j):=by
  have cR:=jN.sl_inv;generalize a.eval y=yv at cR;cases cR with
  | slNil _ A cap=>exact ⟨A,0,cap,fun _ _=>undef,rfl,rfl,fun h=>absurd rfl h,by simp,by simp⟩
  | sl _ _ cap b o u ax hb hM dy jU b_ aE iK=>
   refine ⟨_,_,_,u,rfl,rfl,fun _=>⟨b,o,rfl,fun k q hk j v hj=>?_⟩,fun k j hk hj=>?_,fun k x j c hk hj=>⟨jU k x hk,b_ k x j c hk hj,iK k x j c hk hj⟩⟩
   ·have ca:k < es.length:=by simpa using (List.getElem?_eq_some_iff.1 hk).1
    have tV:k=q:=by simpa using (List.getElem?_eq_some_iff.1 hk).2
    subst tV;have bB:j < sz:=by simpa using (List.getElem?_eq_some_iff.1 hj).1
    have:v=u k j:=by
     have:=(List.getElem?_eq_some_iff.1 hj).2;simp [ca] at this;exact this.symm
    rw [this];exact aE k j ca bB
   ·have hx:=List.getElem?_eq_getElem hk;have bB:j < es[k].length:=by rw [jU k _ hx];exact hj
    exact (iK k _ j _ hx (List.getElem?_eq_getElem bB)).one (b_ k _ j _ hx (List.getElem?_eq_getElem bB))
 subst hm;rw [sC];have nw:=DC _ cz;obtain ⟨A,c,ur⟩:=nw;rw [ur] at cz ⊢;have eh:(es'.length+es.length)*inf.bytes≤140737488355328:=by
  have:(es'.length+es.length)*inf.bytes≤1000000000*100000:=Nat.mul_le_mul fU l8;omega
 obtain ⟨A2,c2,w',aD,wx,j3,b9⟩:=Iy (P:=P) w 0 t ty ti.elem inf z sz inf.bytes hu hi hz bI rfl fX aM (C:=fun k=>(List.range sz).map fun j=>if k < es.length then u k j else .bool false) (fun x=>by simp) (fun x v hv=>by
  obtain ⟨j,hj,rfl⟩:=List.mem_map.1 hv;split
  ·rename_i hx;exact wv x j hx (by simpa using hj)
  ·rfl) A es'.length c xs cz A1 es.length c1 (List.range es.length) (by simp) hS (by simp only [maxLen];omega) eh (Nat.zero_le _)
 have pS:(Value.slice A2 (es'.length+es.length) c2)≠.slice none 0 0:=by
  intro hh;injection hh with q1 q2 q3
  subst q1;rcases b9 with hb|hb
  ·cases nl
   ·obtain ⟨cap,cur,b1,_⟩:=lz rfl;rw [ur] at b1;injection b1 with b1
    subst b1;simp [Value.ownBlock] at hb
   ·have:=dB rfl;omega
  ·simp [Value.ownBlock] at hb
 rcases wx.2 with ⟨h,_⟩|⟨g,nG,kU,Mr,Ms,l9,jd,gr,cV,jf⟩
 ·exact absurd h pS
 ·injection Mr with q1 q2 q3
  subst q1;subst q3;have nH:g=w.heap.size∨(nl=false∧g=p id):=by
   rcases b9 with hb|hb
   ·right;cases nl
    ·obtain ⟨cap,cur,b1,_⟩:=lz rfl;rw [ur] at b1;injection b1 with b1
     subst b1;simp [Value.ownBlock] at hb;exact ⟨rfl,hb⟩
    ·rcases cz.2 with ⟨h,_⟩|⟨g',dn,cur',h,_⟩
     ·injection h with h1
      subst h1;simp [Value.ownBlock] at hb
     ·have:=(qO rfl)
      simp only [if_true] at bo;rw [ur,h] at bo;have:=bo.1;injection this with h1
      cases h1
   ·left;simpa [Value.ownBlock] using hb
  have aS:∀ b,b < w.heap.size→¬(nl=false∧b=p id)→w'.heap[b]? = w.heap[b]?:=by
   intro b hb hn;refine j3.block b hb fun hs=>?_;cases nl
   ·obtain ⟨cap,cur,b1,_⟩:=lz rfl;rw [ur] at b1;injection b1 with b1
    subst b1;simp [Value.ownBlock] at hs;exact hn ⟨rfl,hs⟩
   ·unfold Osl at bo;simp only [if_true] at bo;rw [ur] at bo;have:=bo.1;injection this with h1
    subst h1;simp [Value.ownBlock] at hs
  have wy:∀ j,Fr w0 g j:=fun j=>by
   rcases nH with h|⟨h,h2⟩
   ·exact .inl (by rw [h];exact R.below.size)
   ·subst h;rw [h2];exact (R.objs id _ hid).ge rfl j
  refine ⟨_,w',cP p id g,aD,?_⟩;refine R.append hd hid wy nH j3.os j3.tape j3.output j3.size aS (fun dE=>⟨aM,fun k x hk=>?_,?_⟩) ?_
  ·rcases Nat.lt_or_ge k es'.length with aq|dr
   ·rw [List.getElem?_append_left aq] at hk;exact wu k x hk
   ·rw [List.getElem?_append_right dr] at hk;have wz:0 < x.length∨x=[]:=by cases x;right;rfl;left;simp
    refine ⟨?_,fun c hc=>?_⟩
    ·rcases wz with wz|wz
     ·exact (o_ _ x 0 x[0] hk (List.getElem?_eq_getElem wz)).1
     ·exfalso;have cR:=jN.sl_inv;generalize a.eval y=yv at cR;cases cR with
      | slNil=>simp at hk
      | sl _ _ _ _ _ _ _ _ _ _ jU=>have:=jU _ x hk;subst wz;simp at this;omega
    ·obtain ⟨j,hj⟩:=List.mem_iff_getElem?.1 hc;exact (o_ _ x j c hk hj).2.1
  ·simp only [Bool.false_eq_true,if_false];refine ⟨⟨fun j=>by rw [(k_ p id g).1];exact wy j,(k_ p id g).2⟩,kU,by rw [(k_ p id g).1];exact l9,by rw [cV,List.length_append];exact Nat.mul_le_mul_right _ jd,fun k x j c hk hj=>?_⟩;have qP:∀ i v,i < (es'.length+es.length)*sz→(xs++(List.range es.length).flatMap fun k=>(List.range sz).map fun j=>if k < es.length then u k j else .bool false)[i]? = some v→kU[i]? = some v:=by
    intro i v hi hh;rw [←jf,List.getElem?_take_of_lt hi] at hh;simpa using hh
   have lM:xs.length=es'.length*sz:=cz.1;have bB:=(List.getElem?_eq_some_iff.1 hj).1;rcases Nat.lt_or_ge k es'.length with aq|dr
   ·rw [List.getElem?_append_left aq] at hk;have aL:nl=false:=by cases nl;rfl;have:=(qO rfl).2;subst this;simp at aq
    subst aL;simp only [Bool.false_eq_true,if_false] at hr;obtain ⟨_,cur',fL,pd,iK⟩:=hr;obtain ⟨cap,cur,b1,b2,b3,b4⟩:=lz rfl;obtain rfl:cur'=cur:=by rw [fL] at b2;injection b2 with b2;injection b2
    obtain ⟨v,hv,cR⟩:=iK k x j c hk hj;have Mt:=(wu k x hk).1;have h3:(k+1)*sz≤es'.length*sz:=Nat.mul_le_mul_right _ aq;rw [Nat.add_mul] at h3;refine ⟨v,qP _ v ?_ ?_,dE cR⟩
    ·rw [Nat.add_mul];omega
    ·rw [List.getElem?_append_left (by omega),b3,List.getElem?_take_of_lt (by omega)];simpa using hv
   ·rw [List.getElem?_append_right dr] at hk;obtain ⟨Cl,_,cR⟩:=o_ _ x j c hk hj;have ca:=(List.getElem?_eq_some_iff.1 hk).1;refine ⟨u (k - es'.length) j,qP _ _ ?_ ?_,dE cR⟩
    ·have h3:(k - es'.length+1)*sz≤es.length*sz:=Nat.mul_le_mul_right _ ca;have h4:k*sz=es'.length*sz+(k - es'.length)*sz:=by rw [←Nat.add_mul];congr 1;omega
     rw [Nat.add_mul] at h3;rw [Nat.add_mul];omega
    ·have h4:k*sz=es'.length*sz+(k - es'.length)*sz:=by rw [←Nat.add_mul];congr 1;omega
     rw [List.getElem?_append_right (by omega),lM,show k*sz+j - es'.length*sz=(k - es'.length)*sz+j by omega];exact Ml hk hj Cl
  ·unfold Osl;simp only [Bool.false_eq_true,if_false,List.length_append];exact ⟨_,kU,rfl,l9,cV,jd,gr⟩
def cW (N:Nm) (o:Oper) : Bool:=match o.dst with|some d=>Nat.ble N.k d&&Nat.blt d N.n|none=>true
theorem fh {o:Oper} (hd:cW N o=true) : ∀ t,o.dst=some t→N.has t:=by
 intro t ht;unfold cW at hd;rw [ht] at hd;simpa [Nm.has] using hd
theorem Mu {t:TypeId} {kf:Nat×IntKind} {d:Nat} (R:Rel M0 w0 N p st a w) (hd:N.has d) : (Instr.makeMap t none).run P w = .ok (.map (some w.heap.size)) (w.alloc (.map #[] 0))∧Rel M0 w0 N (cP p st.h.length w.heap.size) ⟨(d,.mp st.h.length)::st.s,st.h++[some (.mpo kf [])]⟩ (a.put (some d) (.map (some w.heap.size))) (w.alloc (.map #[] 0)):=by
 have hb:Below w.heap.size w (w.alloc (.map #[] 0)):=(Below.refl _ w).alloc (Nat.le_refl _) _;have aE:(w.alloc (.map #[] 0)).heap[w.heap.size]? = some (.map #[] 0):=(MapKept.heap_alloc w _).1;refine ⟨rfl,R.grow hb hd (fun _=>Nat.le_refl _) (fun _ _ _ _ _ h=>by cases h) ⟨tH R.below.size,(fun q hq=>(by cases hq)),#[],0,?_,rfl,J9 _⟩ ?_⟩
 ·rw [(k_ p _ _).1];exact aE
 ·have:=V1.mp (w:=w.alloc (.map #[] 0)) (M:=Mof M0 (st.h++[some (.mpo kf [])]) (cP p st.h.length w.heap.size)) (h:=st.h++[some (Ob.mpo kf [])]) (p:=cP p st.h.length w.heap.size) st.h.length (by simp);simpa [cP] using this
theorem Gt {t:TypeId} {m x y:Operand} {aK:VS} (R:Rel M0 w0 N p st a w) (ht:vV P st t m x y=some aK) : ∃ w',(Instr.mapUpdate t (a.eval m) (a.eval x) (a.eval y)).run P w = .ok () w'∧Rel M0 w0 N p aK a w':=by
 unfold vV at ht;split at ht
 ·rename_i kf z id key val t_ hm hx hy;split at ht
  ·rename_i tZ iv hid;split at ht
   ·rename_i hc;obtain ⟨rfl,jW⟩:=hc;simp only [Option.some.injEq] at ht;subst ht;have em:=R.eval m;rw [hm] at em;obtain ⟨em,_⟩:=em.mp_inv;have ex:a.eval x=key:=by have:=R.eval x;rw [hx] at this;exact this.lit_inv
    have ey:a.eval y=val:=by have:=R.eval y;rw [hy] at this;exact this.lit_inv
    obtain ⟨h1,h2,es,clock,hg,h3,fJ⟩:=R.objs id _ hid;obtain ⟨es',clock',aD,vR,Cm⟩:=KA (P:=P) (v:=val) t_ jW hg (fun q hq=>h2 (q.key,q.val) (by rw [←h3];exact List.mem_map.2 ⟨q,hq,rfl⟩)) fJ;refine ⟨_,by rw [em,ex,ey];exact aD,?_⟩;have aq:p id < w.heap.size:=(Array.getElem?_eq_some_iff.1 hg).1;refine R.write hid rfl rfl (fun _ _ _ _ _ h=>by cases h) (fun _ _ _ _ _ h=>by cases h) (by simp [ChangeMaps.setBlock]) rfl rfl rfl (fun b hb=>ChangeMaps.heap_setBlock_other hg _ hb) rfl (fun e sz nl es v h=>by cases h) fun _ _=>?_;refine ⟨h1,fun q hq=>?_,es',clock',ChangeMaps.heap_setBlock_same hg _,by rw [vR,h3],Cm⟩;have nI:∀ (l:List (Value×Value)),(∀ q∈l,jC q.1=some kf)→∀ q∈iR key val l,jC q.1=some kf:=by
     intro l;induction l with
     | nil=>intro _ q hq;simp [iR] at hq;subst hq;exact jW
     | cons c l ih=>
      intro hl q hq;obtain ⟨ck,cv⟩:=c;simp only [iR] at hq;split at hq
      ·rcases List.mem_cons.1 hq with rfl|hq
       ·exact jW
       ·exact hl q (List.mem_cons_of_mem _ hq)
      ·rcases List.mem_cons.1 hq with rfl|hq
       ·exact hl _ (List.mem_cons_self ..)
       ·exact ih (fun q hq=>hl q (List.mem_cons_of_mem _ hq)) q hq
    exact nI iv h2 q hq
   ·cases ht
  ·cases ht
 ·cases ht
theorem Gu (R:Rel M0 w0 N p st a w) {ow:List Nat} {o:Oper} {aK:VS} (hd:cW N o=true) (ht:lX P ow st o=some aK) :
  ∃ v w' p',(execOp a.eval o).run P w = .ok (.value v) w'∧Rel M0 w0 N p' aK (a.put o.dst v) w'∨(execOp a.eval o).run P w = .ok .skip w'∧v=undef∧Rel M0 w0 N p' aK (a.put o.dst undef) w':=by
 have aq:=fh hd;obtain ⟨dst,op,ty,pos,after,guard⟩:=o;simp only at aq;unfold lX at ht;simp only at ht;split at ht
 ·rename_i t;split at ht
  ·rename_i ti aV;obtain ⟨d,eg,rfl⟩:=uq ht;subst eg;obtain ⟨z,hz,iM,km⟩:=pr aV;have hc:Cells w (Mof M0 st.h p) st.h p (ti.zero.map .lit) z.cells.toList:=by rw [hz];exact Cells.of_lits _ iM
   refine ⟨.pointer (some ⟨w.heap.size,0,none⟩),_,_,.inl ⟨?_,Gg R (aq d rfl) hc t⟩⟩;simp [execOp,Instr.alloc,km,newVar,newRow]
  ·cases ht
 ·rename_i t x;split at ht
  ·rename_i hc;simp only [Bool.and_eq_true] at hc;obtain ⟨d,eg,rfl⟩:=uq ht;subst eg;refine ⟨.pointer (some ⟨w.heap.size,0,none⟩),_,_,.inl ⟨?_,Gg R (aq d rfl) ((R.eval x).cells hc.2) t⟩⟩;simp [execOp,Instr.box,newVar,newRow]
  ·cases ht
 ·rename_i t n parts;split at ht
  ·split at ht
   ·rename_i cs ti aS;split at ht
    ·rename_i hp;obtain ⟨d,eg,rfl⟩:=uq ht;subst eg;obtain ⟨us,aD,hc,hlen,aV,hk,cH⟩:=yE (P:=P) (w:=w) (M:=Mof M0 st.h p) (h:=st.h) (p:=p) (vals:=parts.map fun (i,x)=>(i,a.eval x)) (by simp) (fun i b v hb hv=>by
      obtain ⟨x,hx,rfl⟩:=ea hb;simp only [Array.toList_map] at hv;obtain ⟨y,hy,rfl⟩:=ea hv;rw [hx] at hy;obtain rfl:=Option.some.inj hy;exact R.eval x.2) aS
     have oA:=xy ti.esz n cs;have bm:=fun k e=>xz ti.esz n cs k e (by omega);have pF:n≤maxLen:=by
      unfold sf at aS;rw [aV] at aS;simp only at aS;split at aS
      ·cases aS
      ·split at aS
       ·rename_i eE;have:=eE.2.2.2.2;have h2:n*1≤n*ti.esz:=Nat.mul_le_mul_left _ cH;simp only [maxLen];omega
       ·cases aS
     have hrel:=Gh (es:=jw ti.esz n cs) (e:=ti.elem) (sz:=ti.esz) R (aq d rfl) cH (us:=us) (by rw [hc.1,hlen,oA]) (by rw [oA];exact pF) (fun k x hk=>⟨(bm k x hk).1,fun c gb=>by
      obtain ⟨j,hj⟩:=List.mem_iff_getElem?.1 gb;exact hc.2.1 c (List.mem_of_getElem? ((bm k x hk).2 j c hj))⟩) (fun k x j c u hk hj hu=>by
      have h1:=(bm k x hk).2 j c hj;exact (hc.2.2 _ c u h1 hu).pure 5 (List.all_eq_true.1 hp c (List.mem_of_getElem? h1)))
     rw [oA] at hrel;refine ⟨_,_,_,.inl ⟨?_,hrel⟩⟩;simp only [execOp,Sem.run_bind,aD];rfl
    ·cases ht
   ·cases ht
  ·cases ht
 ·split at ht
  ·split at ht
   ·rename_i ti aV;split at ht
    ·rename_i hc;obtain ⟨d,eg,rfl⟩:=uq ht;subst eg;exact ⟨.slice none 0 0,w,_,.inl ⟨rfl,Mm R (aq d rfl) (Nat.pos_of_ne_zero hc.2)⟩⟩
    ·cases ht
   ·cases ht
  ·cases ht
 ·rename_i t l c;split at ht
  ·rename_i ti n m aV hl cG;split at ht
   ·rename_i te fD;split at ht
    ·rename_i hc;obtain ⟨hk,h1,h2,h3,cf,h0,hn,gR⟩:=hc;subst cf;obtain ⟨d,eg,rfl⟩:=uq ht;subst eg;have e1:a.eval l = .int .i64 n:=by have:=R.eval l;rw [hl] at this;exact this.lit_inv
     have e2:a.eval c = .int .i64 n:=by have:=R.eval c;rw [cG] at this;exact this.lit_inv
     obtain ⟨k,rfl⟩:=Int.eq_ofNat_of_zero_le h0;have aD:=Er (P:=P) (w:=w) aV fD hk h1 h2 h3 (n:=k) (by omega) gR;obtain ⟨z,hz,iM,km⟩:=pr fD;have hrel:=Gh (es:=List.replicate k (te.zero.map .lit)) (e:=ti.elem) (sz:=ti.esz) (us:=fu te.zero k) R (aq d rfl) (Nat.pos_of_ne_zero h3) (by rw [tG,h2,List.length_replicate]) (by rw [List.length_replicate];simp only [maxLen];omega) (fun i x hx=>by
      obtain ⟨_,rfl⟩:=List.mem_replicate.1 (List.mem_of_getElem? hx);refine ⟨by simp [h2],fun c hc=>?_⟩;obtain ⟨z',vl,rfl⟩:=List.mem_map.1 hc;exact List.all_eq_true.1 iM z' vl) (fun i x j c u hx hj hu=>by
      obtain ⟨_,rfl⟩:=List.mem_replicate.1 (List.mem_of_getElem? hx);have rG:i < k:=by simpa using (List.getElem?_eq_some_iff.1 hx).1
      rw [←h2] at hu;rw [Eg i j c u rG hj hu];exact .lit u)
     rw [List.length_replicate] at hrel;refine ⟨_,_,_,.inl ⟨?_,by simpa using hrel⟩⟩;simp only [execOp,e1,e2,Sem.run_bind];rw [show ((k:Int))=((k:Nat) : Int) from rfl,aD];rfl
    ·cases ht
   ·cases ht
  ·cases ht
 ·rename_i t x y;split at ht
  ·rename_i ti id off aV hx;split at ht
   ·rename_i cs hid;split at ht
    ·rename_i hc;simp only [Option.some.injEq] at ht;subst ht;obtain ⟨w',aD,hrel⟩:=Gn (P:=P) (y:=y) R aV hx hid hc.1 hc.2.1 hc.2.2;exact ⟨undef,w',p,.inr ⟨by simp only [execOp,Sem.run_bind,aD];rfl,rfl,hrel⟩⟩
    ·cases ht
   ·cases ht
  ·rename_i ti id sz i off aV hx;split at ht
   ·rename_i e bw nl es hid;split at ht
    ·rename_i hc;obtain ⟨rfl,hi,h1,h2,h3,h4⟩:=hc;simp only [Option.some.injEq] at ht;subst ht;obtain ⟨w',aD,hrel⟩:=Mn (P:=P) (y:=y) R aV hx hid hi h1 h2 h3 h4;exact ⟨undef,w',p,.inr ⟨by simp only [execOp,Sem.run_bind,aD];rfl,rfl,hrel⟩⟩
    ·cases ht
   ·cases ht
  ·cases ht
 ·rename_i xs ts;split at ht
  ·rename_i x y t t' d dV qy;split at ht
   ·rename_i ti id sz es aV hx hy;split at ht
    ·rename_i e bw nl es' hid;split at ht
     ·rename_i te fD;split at ht
      ·rename_i hc;obtain ⟨rfl,hk,he,rfl,tE,h1,h2,dB,fU,gR⟩:=hc;simp only [Option.some.injEq] at ht;subst ht;have e1:xs=#[x,y]:=by apply Array.ext';rw [dV]
       have e2:ts=#[t,t]:=by apply Array.ext';rw [qy]
       subst e1;obtain ⟨v,w',p',aD,hrel⟩:=Gr (P:=P) (ty:=ty) R (aq d rfl) aV hx hy hid fD hk he tE h1 h2 dB fU gR e2;refine ⟨v,w',p',.inl ⟨?_,hrel⟩⟩;simp only [execOp,resolve,invoke,builtin,Sem.run_bind,Sem.run_pure,Result.andThen_ok,List.map_toArray,List.map_cons,List.map_nil,aD]
      ·cases ht
     ·cases ht
    ·cases ht
   ·cases ht
  ·cases ht
 ·rename_i t;split at ht
  ·rename_i kf z t_;obtain ⟨d,eg,rfl⟩:=uq ht;subst eg;obtain ⟨aD,hrel⟩:=Mu (P:=P) (t:=t) (kf:=kf) R (aq d rfl);exact ⟨_,_,_,.inl ⟨by simp only [execOp,Sem.run_bind,Option.map_none,aD];rfl,hrel⟩⟩
  ·cases ht
 ·rename_i t m x y;split at ht
  ·obtain ⟨w',aD,hrel⟩:=Gt (P:=P) R ht;exact ⟨undef,w',p,.inr ⟨by simp only [execOp,Sem.run_bind,aD];rfl,rfl,hrel⟩⟩
  ·cases ht
 ·rename_i t m x y;split at ht
  ·obtain ⟨w',aD,hrel⟩:=Gt (P:=P) R ht;exact ⟨undef,w',p,.inr ⟨by simp only [execOp,Sem.run_bind,aD];rfl,rfl,hrel⟩⟩
  ·cases ht
 ·cases ht
end
def dA (id:Nat) : Nat→AV→Bool
 | 0,_=>false
 | n+1,.agg cs=>cs.all (dA id n)
 | n+1,.tup cs=>cs.all (dA id n)
 | n+1,.fn _ x y=>x.all (dA id n)&&y.all (dA id n)
 | n+1,.iface _ v=>dA id n v
 | _+1,.slw i _ _ _=>i != id
 | _+1,_=>true
def unW (id:Nat) : AV→AV
 | .slw i k sz es=>if i=id then .sl sz es else .slw i k sz es
 | v=>if dA id 5 v=true then v else .any
def rJ (id:Nat) : Option Ob→Bool
 | some (.box cs)=>cs.all (dA id 5)
 | _=>true
theorem mZ (id:Nat) : ∀ (s:List (Nat×AV)) (i:Nat),lkp (s.map fun q=>(q.1,unW id q.2)) i=unW id (lkp s i)
 | [],_=>by simp [lkp,unW,dA]
 | (d,v)::r,i=>by
  simp only [List.map_cons,lkp];split
  ·rfl
  ·exact mZ id r i
theorem Dist.symm {v v':Value} (h:Dist v v') : Dist v' v:=fun b o n c b' o' n' c' e e' l l' he=>h b' o' n' c' b o n c e' e l' l he.symm
theorem Spare.mono {w w':World} {p p':Pl} {id sz:Nat} {v:Value} (hp:p' id=p id) (hS:∀ b j,p.S id b j→p'.S id b j) (hb:∀ b j,p.S id b j→b < w.heap.size→w'.heap[b]? = w.heap[b]?) (h:Spare w p id sz v) : Spare w' p' id sz v:=by
 obtain ⟨A,n,cap,hv,hle,h⟩:=h;refine ⟨A,n,cap,hv,hle,fun aq=>?_⟩;obtain ⟨b,o,cur,t,h1,h2,h3,h4,h5,h6,h7⟩:=h aq;exact ⟨b,o,cur,t,h1,(hb b _ (h7 _ (Nat.le_refl _)) (Array.getElem?_eq_some_iff.1 h2).1).trans h2,h3,h4,h5,by rw [hp];exact h6,fun j hj=>hS b j (h7 j hj)⟩
section
variable {P:Program} {M0:Nat→Nat→Prop} {w0:Bas} {N:Nm} {p:Pl} {st:VS} {a:Act} {w:World}
theorem V1.bag {w w':World} {M M':Nat→Nat→Prop} {h h':Hp} {p p':Pl} {id:Nat} (hk:Keeps M w w') (hM:∀ b j,b < w.heap.size→¬M b j→¬M' b j) (hl:h.length≤h'.length) (hp:∀ i,p' i=p i)
  (hO:∀ i e sz nl es v,h'[i]? = some (some (.arr e sz nl es))→(∀ e sz nl es,h[i]? = some (some (.arr e sz nl es))→Osl w (p i) e sz nl es.length v)→Osl w' (p i) e sz nl es.length v)
  (hG:∀ i e sz nl ak qs v,h'[i]? = some (some (.bag e sz nl ak qs))→(∀ e sz nl ak qs,h[i]? = some (some (.bag e sz nl ak qs))→Osl w (p i) e 1 nl qs.length v)→Osl w' (p i) e 1 nl qs.length v)
  (hW:∀ i k sz v,i≠id→i < h.length→Sp w h p i k sz v→Sp w' h' p' i k sz v) :
  ∀ (n:Nat) (av:AV) (v:Value),V1 w M h p av v→dA id n av=true→V1 w' M' h' p' av v
 | 0,_,_,_,hb=>by simp [dA] at hb
 | n+1,av,v,hv,hb=>by
  have ih:=V1.bag (w:=w) (p:=p) (h:=h) hk hM hl hp hO hG hW n;cases hv with
  | base _ _ h0=>exact .base _ _ (h0.keep hk hM)
  | agg cs us hl h1 hv=>
   simp only [dA] at hb;exact .agg cs us hl h1 fun i c u hc hu=>ih c u (hv i c u hc hu) (List.all_eq_true.1 hb c (List.mem_of_getElem? hc))
  | tup cs us hl hv=>
   simp only [dA] at hb;exact .tup cs us hl fun i c u hc hu=>ih c u (hv i c u hc hu) (List.all_eq_true.1 hb c (List.mem_of_getElem? hc))
  | fn f x y us vs hl bj hv bA=>
   simp only [dA,Bool.and_eq_true] at hb;exact .fn f x y us vs hl bj (fun i c u hc hu=>ih c u (hv i c u hc hu) (List.all_eq_true.1 hb.1 c (List.mem_of_getElem? hc))) (fun i c u hc hu=>ih c u (bA i c u hc hu) (List.all_eq_true.1 hb.2 c (List.mem_of_getElem? hc)))
  | iface t x u hv=>exact .iface t x u (ih x u hv (by simpa [dA] using hb))
  | ref i off hid=>rw [←hp i];exact .ref i off (Nat.lt_of_lt_of_le hid hl)
  | aref i sz k off hid=>rw [←hp i];exact .aref i sz k off (Nat.lt_of_lt_of_le hid hl)
  | osl i A m c hid hv lJ=>exact .osl i A m c (Nat.lt_of_lt_of_le hid hl) (fun e sz nl es he=>by rw [hp i];exact hO i e sz nl es _ he hv) fun e sz nl ak qs he=>by rw [hp i];exact hG i e sz nl ak qs _ he lJ
  | slw i k sz es _ hid h0 hs=>
   have hn:i≠id:=by simpa [dA] using hb
   exact .slw i k sz es v (Nat.lt_of_lt_of_le hid hl) (h0.keep hk hM) (hW i k sz v hn hid hs)
  | mp i hid=>rw [←hp i];exact .mp i (Nat.lt_of_lt_of_le hid hl)
theorem Rel.bagSet {w':World} {h2:Hp} {p':Pl} {id k e sz:Nat} {ak:Option Nat} {qs:List (List (List AV))} {es:List (List AV)} {v:Value} {cur:Array Value} (R:Rel M0 w0 N p st a w)
  (hi:st.h[id]? = some (some (.bag e sz false ak qs))) (hk:k < qs.length) (gq:ak=none∨ak=some k) (bK:w.heap[p id]? = some (.cells cur e (0,0)))
  (je:∀ (i:Nat) (cs:List AV),st.h[i]? = some (some (.box cs))→∀ c∈cs,dA id 5 c=true)
  (aM:w.heap.size=w'.heap.size) (kM:w'.os=w.os) (kO:w'.tape=w.tape) (kP:w'.output=w.output) (b9:∀ b,b≠p id→w'.heap[b]? = w.heap[b]?) (aS:w'.heap[p id]? = some (.cells (cur.setIfInBounds k v) e (0,0)))
  (gw:h2.length=st.h.length) (eN:h2[id]? = some (some (.bag e sz false none (qs.set k es)))) (dw:∀ (i:Nat) (ob:Ob),i≠id→h2[i]? = some (some ob)→st.h[i]? = some (some ob))
  (eJ:∀ i,p' i=p i) (ga:∀ i,i≠id→p'.S i=p.S i) (Mw:∀ b j,p.S id b j→p'.S id b j)
  (Cn:∀ b j,p'.S id b j→Fr w0 b j∧b < w.heap.size) (y_:∀ j,¬p'.S id (p id) j) (wA:∀ (i:Nat) (ob:Ob),i≠id→h2[i]? = some (some ob)→cn ob=true→∀ b j j',p.O i b j→¬p'.S id b j') (Co:∀ b j,p'.S id b j→Mof M0 st.h p b j)
  (cR:V0 w (Mof M0 h2 p') (.sl sz es) v) (fY:Spare w p' id sz v) (qQ:∀ (k':Nat) (v':Value),k' < qs.length→k'≠k→cur[k']? = some v'→Dist v v') :
  Rel M0 w0 N p' ⟨st.s.map (fun q=>(q.1,unW id q.2)),h2⟩ a w':=by
 have dN:=(R.objs id _ hi)
 obtain ⟨iF,dN⟩:=dN;rw [if_neg (by simp)] at dN;obtain ⟨b1,b2,cur0,b3,b4,b5,b6⟩:=dN;have:cur0=cur:=by rw [bK] at b3;injection b3 with b3;injection b3 with b3;exact b3.symm
 subst this;have jl:∀ {i b j},i≠id→(p'.O i b j↔p.O i b j):=fun {i b j} hn=>by unfold Pl.O;rw [eJ,ga i hn]
 have bP:cn (Ob.bag e sz false ak qs)=true:=rfl;have hM:∀ b j,¬Mof M0 st.h p b j→¬Mof M0 h2 p' b j:=fun b j hn hm=>by
  rcases hm with hm|⟨i,o,aG,bs,hO⟩
  ·exact hn (.inl hm)
  ·by_cases he:i=id
   ·subst he;rcases hO with hO|hO
    ·exact hn (.inr ⟨i,_,hi,bP,.inl (by rw [←eJ];exact hO)⟩)
    ·exact hn (Co b j hO)
   ·exact hn (.inr ⟨i,o,dw i o he aG,bs,(jl he).1 hO⟩)
 have wB:Keeps (Mof M0 st.h p) w w':=.of_blocks (by omega) fun b _ hb=>b9 b fun he=>hb fun j=>.inr ⟨id,_,hi,bP,.inl he.symm⟩;have Cp:Keeps (Mof M0 h2 p') w w':=.of_blocks (by omega) fun b _ hb=>b9 b fun he=>hb fun j=>.inr ⟨id,_,eN,rfl,.inl (by rw [eJ,he])⟩;have ax:∀ i o,i≠id→st.h[i]? = some (some o)→cn o=true→∀ b j,p.O i b j→w'.heap[b]? = w.heap[b]?:=fun i o hn aG bs b j hO=>b9 b fun he=>hn (R.inj i id o _ aG hi bs bP b j 0 hO (.inl he.symm));have dE:∀ {x:AV} {u:Value},V0 w (Mof M0 st.h p) x u→V0 w' (Mof M0 h2 p') x u:=fun hx=>hx.keep wB fun b j _=>hM b j;have hV:∀ {x:AV} {u:Value},V1 w (Mof M0 st.h p) st.h p x u→dA id 5 x=true→V1 w' (Mof M0 h2 p') h2 p' x u:=fun {x u} hx hn=>
  V1.bag wB (fun b j _=>hM b j) (by omega) eJ (fun i e' bw nl es' v' he hv=>by
   by_cases hid:i=id
   ·subst hid;rw [eN] at he;cases he
   ·have aG:=dw i _ hid he;exact (hv _ _ _ _ aG).keep fun aL _=>ax i _ hid aG (by rw [aL];rfl) _ 0 (.inl rfl)) (fun i e' bw nl m_ pn v' he hv=>by
   by_cases hid:i=id
   ·subst hid;rw [eN] at he;simp only [Option.some.injEq,Ob.bag.injEq] at he;obtain ⟨rfl,rfl,rfl,rfl,rfl⟩:=he;have h1:=hv _ _ _ _ _ hi;unfold Osl at h1 ⊢;rw [if_neg (by simp)] at h1 ⊢;obtain ⟨cap,c1,e1,e2,e3,e4,e5⟩:=h1;have:c1=cur0:=by rw [bK] at e2;injection e2 with e2;injection e2 with e2;exact e2.symm
    subst this;exact ⟨cap,_,by rw [List.length_set];exact e1,aS,by rw [Array.size_setIfInBounds];exact e3,by rw [List.length_set];exact e4,e5⟩
   ·have aG:=dw i _ hid he;exact (hv _ _ _ _ _ aG).keep fun aL _=>ax i _ hid aG (by rw [aL];rfl) _ 0 (.inl rfl)) (fun i k' bw v' hn _ hs=>hs.keep (fun e' rK xx pn he=>by
   have aG:=dw i _ hn he;exact ⟨aG,eJ i,ga i hn,fun b j hO _=>ax i _ hn aG rfl b j hO⟩) (by omega)) 5 x u hx hn
 have hU:∀ {x:AV} {u:Value},V1 w (Mof M0 st.h p) st.h p x u→V1 w' (Mof M0 h2 p') h2 p' (unW id x) u:=fun {x u} hx=>by
  by_cases hs:∃ i k sz es,x = .slw i k sz es
  ·obtain ⟨i,k',bw,es',rfl⟩:=hs;by_cases hn:i=id
   ·rw [show unW id (.slw i k' bw es') = .sl bw es' from if_pos hn];exact .base _ _ (dE hx.slw_inv.2.1)
   ·rw [show unW id (.slw i k' bw es') = .slw i k' bw es' from if_neg hn];exact hV hx (by simpa [dA] using hn)
  ·have e:unW id x=if dA id 5 x=true then x else .any:=by cases x<;>first|rfl|exact absurd ⟨_,_,_,_,rfl⟩ hs
   rw [e];split
   ·rename_i hn;exact hV hx hn
   ·exact .base _ _ (.any _)
 have dr:=fun j=>(b1 (p id) j (.inl rfl)).1;refine ⟨R.defers,R.size,R.below.blocks kM kO kP (by omega) fun b _ hF=>b9 b fun he=>hF fun j=>by rw [he];exact dr j,R.m0,R.x0,fun i=>?_,fun i o aG=>?_,fun i i' o o' aG bn bs dX x j j' hO ct=>?_⟩
 ·show V1 w' (Mof M0 h2 p') h2 p' (lkp (st.s.map fun q=>(q.1,unW id q.2)) i) _;rw [mZ];exact hU (R.slots i)
 ·by_cases hid:i=id
  ·subst hid;rw [eN] at aG;simp only [Option.some.injEq] at aG;subst aG;refine ⟨iF,?_⟩;rw [if_neg (by simp)];have eP:k < cur0.size:=by omega
   refine ⟨fun b j hO=>?_,fun j=>by rw [eJ];exact y_ j,cur0.setIfInBounds k v,by rw [eJ];exact aS,by simp;omega,fun k0 x hx=>?_,fun k1 k2 v1 v2 h1 h2 nJ _ _ e1 e2=>?_⟩
   ·rcases hO with hO|hO
    ·have:=b1 b j (.inl (by rw [←eJ];exact hO));exact ⟨this.1,by omega⟩
    ·have:=Cn b j hO;exact ⟨this.1,by omega⟩
   ·rw [List.getElem?_set] at hx;by_cases qR:k=k0
    ·subst qR;rw [if_pos rfl,if_pos hk] at hx;obtain rfl:=Option.some.inj hx;refine ⟨v,by simp [eP],cR.keep Cp fun b j _ h=>h,fun _=>fY.keep rfl rfl fun b j hS _=>b9 b fun he=>y_ j (by rw [←he];exact hS)⟩
    ·rw [if_neg qR] at hx;obtain ⟨v1,g1,g2,g3⟩:=b5 k0 x hx;refine ⟨v1,by rw [Array.getElem?_setIfInBounds_ne qR];exact g1,dE g2,fun _=>(g3 (by rcases gq with h|h<;>rw [h]<;>simp [qR])).mono (eJ i) Mw fun b j hS _=>b9 b fun he=>b2 j (by rw [←he];exact hS)⟩
   ·rw [List.length_set] at h1 h2;have fV:∀ k',k'≠k→ak≠some k':=fun k' hn=>by rcases gq with h|h<;>rw [h]<;>simp [Ne.symm hn]
    by_cases iA:k1=k
    ·subst iA;rw [Array.getElem?_setIfInBounds_self_of_lt eP] at e1;obtain rfl:=Option.some.inj e1;rw [Array.getElem?_setIfInBounds_ne nJ] at e2;exact qQ k2 v2 h2 (Ne.symm nJ) e2
    ·rw [Array.getElem?_setIfInBounds_ne (Ne.symm iA)] at e1;by_cases cw:k2=k
     ·subst cw;rw [Array.getElem?_setIfInBounds_self_of_lt eP] at e2;obtain rfl:=Option.some.inj e2;exact (qQ k1 v1 h1 iA e1).symm
     ·rw [Array.getElem?_setIfInBounds_ne (Ne.symm cw)] at e2;exact b6 k1 k2 v1 v2 h1 h2 nJ (fV k1 iA) (fV k2 cw) e1 e2
  ·have bn:=dw i o hid aG;exact (R.objs i o bn).keep (fun _=>⟨eJ i,ga i hid⟩) (fun bs b j hO _=>ax i o hid bn bs b j hO) (by omega) dE fun cs bW c hc u hx=>hV hx (je i cs (by rw [bn,bW]) c hc)
 ·by_cases h1:i=id
  ·by_cases h2:i'=id
   ·rw [h1,h2]
   ·subst h1;have pT:=dw i' o' h2 bn;have ky:=(jl h2).1 ct;rcases hO with hO|hO
    ·exact R.inj i i' _ o' hi pT bP dX x j j' (.inl (by rw [←eJ];exact hO)) ky
    ·exact absurd hO (wA i' o' h2 bn dX x j' j ky)
  ·have l_:=dw i o h1 aG;have nK:=(jl h1).1 hO;by_cases h2:i'=id
   ·subst h2;rcases ct with ct|ct
    ·exact R.inj i i' o _ l_ hi bs bP x j j' nK (.inl (by rw [←eJ];exact ct))
    ·exact absurd ct (wA i o h1 aG bs x j j' nK)
   ·exact R.inj i i' o o' l_ (dw i' o' h2 bn) bs dX x j j' nK ((jl h2).1 ct)
theorem Mx {cur:Array Value} {k:Nat} {v:Value} (hk:k < cur.size) : (cur.toList.take k++[v]++cur.toList.drop (k+1)).toArray=cur.setIfInBounds k v:=by
 apply Array.ext';rw [Array.toList_setIfInBounds,List.set_eq_take_append_cons_drop,if_pos (by simpa using hk)];simp
theorem Keeps.same (M:Nat→Nat→Prop) (w:World) : Keeps M w w:=.of_blocks (Nat.le_refl _) fun _ _ _=>rfl
section
variable {id k e sz:Nat} {ak:Option Nat} {qs:List (List (List AV))} {es:List (List AV)} {v:Value}
theorem Rel.bagRow (R:Rel M0 w0 N p st a w) (hi:st.h[id]? = some (some (.bag e sz false ak qs))) : BagOK w0 w (Mof M0 st.h p) p id e sz ak qs:=by
 obtain ⟨_,h⟩:=R.objs id _ hi;rwa [if_neg (by simp)] at h
theorem Rel.bagStore {cur:Array Value} (R:Rel M0 w0 N p st a w) (hi:st.h[id]? = some (some (.bag e sz false ak qs))) (hk:k < qs.length) (gq:ak=none∨ak=some k) (bK:w.heap[p id]? = some (.cells cur e (0,0)))
  (je:∀ (i:Nat) (cs:List AV),st.h[i]? = some (some (.box cs))→∀ c∈cs,dA id 5 c=true) (hv:V1 w (Mof M0 st.h p) st.h p (.slw id k sz es) v) :
  Rel M0 w0 N p ⟨st.s.map (fun q=>(q.1,unW id q.2)),st.h.set id (some (.bag e sz false none (qs.set k es)))⟩ a (w.setRow (p id) (cur.setIfInBounds k v)):=by
 have hB:=R.bagRow hi;obtain ⟨_,h0,hs⟩:=hv.slw_inv;obtain ⟨_,fY,_,qQ⟩:=hs _ _ _ _ hi;have hid:=(List.getElem?_eq_some_iff.1 hi).1;have bP:cn (Ob.bag e sz false ak qs)=true:=rfl;have fV:∀ k',k'≠k→ak≠some k':=fun k' hn=>by rcases gq with h|h<;>rw [h]<;>simp [Ne.symm hn]
 have dw:∀ (i:Nat) (ob:Ob),i≠id→(st.h.set id (some (Ob.bag e sz false none (qs.set k es))))[i]? = some (some ob)→st.h[i]? = some (some ob):=fun i ob hn h=>by rwa [List.getElem?_set_ne (Ne.symm hn)] at h
 refine R.bagSet hi hk gq bK je (wm w _ _).symm rfl rfl rfl (fun b hb=>wk w _ _ b hb) (setRow_heap w (p id) cur _ e _ bK) (by simp) (List.getElem?_set_self hid) dw (fun _=>rfl) (fun _ _=>rfl) (fun _ _ h=>h)
  (fun b j hS=>hB.1 b j (.inr hS)) hB.2.1 (fun i ob hn aG bs b j j' hO hS=>hn (R.inj i id ob _ (dw i ob hn aG) hi bs bP b j j' hO (.inr hS))) (fun b j hS=>.inr ⟨id,_,hi,bP,.inr hS⟩)
  (h0.keep (Keeps.same _ w) fun b j _ hn hm=>hn ?_) fY fun k' v' dF ax bA=>qQ cur e k' v' bK dF ax (fV k' ax) bA
 rcases hm with hm|⟨i,o,aG,bs,hO⟩
 ·exact .inl hm
 ·by_cases he:i=id
  ·subst he;exact .inr ⟨i,_,hi,bP,hO⟩
  ·exact .inr ⟨i,o,dw i o he aG,bs,hO⟩
theorem Rel.bagTake {cur:Array Value} {r er:Nat} {nl:Bool} (R:Rel M0 w0 N p st a w) (hi:st.h[id]? = some (some (.bag e sz false ak qs))) (hk:k < qs.length) (gq:ak=none∨ak=some k) (bK:w.heap[p id]? = some (.cells cur e (0,0)))
  (je:∀ (i:Nat) (cs:List AV),st.h[i]? = some (some (.box cs))→∀ c∈cs,dA id 5 c=true) (hr:st.h[r]? = some (some (.arr er sz nl es))) (hv:V1 w (Mof M0 st.h p) st.h p (.osl r) v) :
  ∃ p',Rel M0 w0 N p' ⟨st.s.map (fun q=>(q.1,unW id q.2)),(st.h.set r none).set id (some (.bag e sz false none (qs.set k es)))⟩ a (w.setRow (p id) (cur.setIfInBounds k v)):=by
 have hB:=R.bagRow hi;have hid:=(List.getElem?_eq_some_iff.1 hi).1;have wC:r≠id:=fun h=>by rw [h,hi] at hr;cases hr
 have bP:cn (Ob.bag e sz false ak qs)=true:=rfl;have fV:∀ k',k'≠k→ak≠some k':=fun k' hn=>by rcases gq with h|h<;>rw [h]<;>simp [Ne.symm hn]
 have eN:((st.h.set r none).set id (some (Ob.bag e sz false none (qs.set k es))))[id]? = some (some (Ob.bag e sz false none (qs.set k es))):=List.getElem?_set_self (by simpa using hid);have Cq:∀ (i:Nat) (ob:Ob),i≠id→((st.h.set r none).set id (some (Ob.bag e sz false none (qs.set k es))))[i]? = some (some ob)→i≠r:=fun i ob hn h he=>by
  subst he;rw [List.getElem?_set_ne (Ne.symm hn),List.getElem?_set] at h;simp at h
 have dw:∀ (i:Nat) (ob:Ob),i≠id→((st.h.set r none).set id (some (Ob.bag e sz false none (qs.set k es))))[i]? = some (some ob)→st.h[i]? = some (some ob):=fun i ob hn h=>by
  have My:=Cq i ob hn h;rwa [List.getElem?_set_ne (Ne.symm hn),List.getElem?_set_ne (Ne.symm My)] at h
 obtain ⟨A,n,c,hq,_,bo⟩:=hv.osl_inv;have bo:=bo _ _ _ _ hr;obtain ⟨iF,pD,aS⟩:=R.objs r _ hr;cases nl
 ·rw [if_neg (by simp)] at aS;obtain ⟨cz,cr,hg,hle,de⟩:=aS;unfold Osl at bo;rw [if_neg (by simp)] at bo;obtain ⟨cap,wD,e1,e2,e3,e4,e5⟩:=bo;have:wD=cr:=by rw [hg] at e2;injection e2 with e2;injection e2 with e2;exact e2.symm
  subst this;have uu:cn (Ob.arr er sz false es)=true:=rfl;have Cr:p r≠p id:=fun h=>wC (R.inj r id _ _ hr hi uu bP (p r) 0 0 (.inl rfl) (.inl h.symm));have Gv:∀ j,¬p.S id (p r) j:=fun j h=>wC (R.inj r id _ _ hr hi uu bP (p r) 0 j (.inl rfl) (.inr h));have eb:=(Array.getElem?_eq_some_iff.1 hg).1;refine ⟨⟨p.b,fun i=>if i=id then fun b j=>p.S id b j∨(b=p r∧es.length*sz≤j) else p.S i⟩,?_⟩;have hM:∀ b j,¬Mof M0 st.h p b j→¬Mof M0 ((st.h.set r none).set id (some (Ob.bag e sz false none (qs.set k es)))) ⟨p.b,fun i=>if i=id then fun b j=>p.S id b j∨(b=p r∧es.length*sz≤j) else p.S i⟩ b j:=fun b j hn hm=>by
   rcases hm with hm|⟨i,o,aG,bs,hO⟩
   ·exact hn (.inl hm)
   ·by_cases he:i=id
    ·subst he;rcases hO with hO|hO
     ·exact hn (.inr ⟨i,_,hi,bP,.inl hO⟩)
     ·simp only [if_true] at hO;rcases hO with hO|⟨rfl,_⟩
      ·exact hn (.inr ⟨i,_,hi,bP,.inr hO⟩)
      ·exact hn (.inr ⟨r,_,hr,uu,.inl rfl⟩)
    ·refine hn (.inr ⟨i,o,dw i o he aG,bs,?_⟩);rcases hO with hO|hO
     ·exact .inl hO
     ·simp only [if_neg he] at hO;exact .inr hO
  refine R.bagSet hi hk gq bK je (wm w _ _).symm rfl rfl rfl (fun b hb=>wk w _ _ b hb) (setRow_heap w (p id) cur _ e _ bK) (by simp) eN dw (fun _=>rfl) (fun i hn=>by simp only [if_neg hn]) (fun b j h=>by simp only [if_true];exact .inl h)
   (fun b j hS=>?_) (fun j hS=>?_) (fun i ob hn aG bs b j j' hO hS=>?_) (fun b j hS=>?_) ?_ ?_ fun k' v' dF ax bA=>?_
  ·simp only [if_true] at hS;rcases hS with hS|⟨rfl,_⟩
   ·exact hB.1 b j (.inr hS)
   ·exact ⟨cz.1 j,eb⟩
  ·simp only [if_true] at hS;rcases hS with hS|⟨h,_⟩
   ·exact hB.2.1 j hS
   ·exact Cr h.symm
  ·simp only [if_true] at hS;rcases hS with hS|⟨rfl,_⟩
   ·exact hn (R.inj i id ob _ (dw i ob hn aG) hi bs bP b j j' hO (.inr hS))
   ·exact Cq i ob hn aG (R.inj i r ob _ (dw i ob hn aG) hr bs uu _ j 0 hO (.inl rfl))
  ·simp only [if_true] at hS;rcases hS with hS|⟨rfl,_⟩
   ·exact .inr ⟨id,_,hi,bP,.inr hS⟩
   ·exact .inr ⟨r,_,hr,uu,.inl rfl⟩
  ·rw [e1];by_cases cO:es=[]
   ·subst cO;exact .slNil _ _ _
   ·have bm:∀ k j,k < es.length→j < sz→k*sz+j < wD.size∧k*sz+j < es.length*sz:=fun k j h1 h2=>by
     have:(k+1)*sz≤es.length*sz:=Nat.mul_le_mul_right _ h1;rw [Nat.add_mul] at this;omega
    refine .sl sz es cap (p r) 0 (fun k j=>(wD[k*sz+j]?).getD undef) cO eb (fun k1 j h1 h2 hm=>?_) e4 (fun k1 x hx=>(pD k1 x hx).1) (fun k1 x j c hx hc=>(pD k1 x hx).2 c (List.mem_of_getElem? hc)) (fun k1 j h1 h2=>?_) fun k1 x j c hx hc=>?_
    ·rw [Nat.zero_add] at hm;have Cs:=(bm k1 j h1 h2).2;rcases hm with hm|⟨i,o,aG,bs,hO⟩
     ·exact R.h0 _ _ hm (cz.1 _)
     ·by_cases he:i=id
      ·subst he;rcases hO with hO|hO
       ·exact Cr hO.symm
       ·simp only [if_true] at hO;rcases hO with hO|⟨_,hO⟩
        ·exact Gv _ hO
        ·omega
      ·refine Cq i o he aG (R.inj i r o _ (dw i o he aG) hr bs uu (p r) (k1*sz+j) 0 ?_ (.inl rfl));rcases hO with hO|hO
       ·exact .inl hO
       ·simp only [if_neg he] at hO;exact .inr hO
    ·rw [cell_of_row w (p r) _ wD er (0,0) hg,Nat.zero_add];have:=(bm k1 j h1 h2).1;simp [this]
    ·obtain ⟨u,hu,cR⟩:=de k1 x j c hx hc;rw [hu];exact cR.keep (Keeps.same _ w) fun b j _=>hM b j
  ·rw [e1];refine ⟨_,_,_,rfl,e4,fun _=>⟨p r,0,wD,er,rfl,hg,by rw [Nat.zero_add,e3];exact Nat.le_refl _,e5,iF,Cr,fun j hj=>?_⟩⟩;simp only [if_true];exact .inr ⟨trivial,by omega⟩
  ·rw [e1];intro b o n1 c1 b' o' n' c' h1 h2 l1 l2 he;simp only [Value.slice.injEq,Option.some.injEq,Addr.mk.injEq] at h1;obtain ⟨⟨rfl,_,_⟩,_,_⟩:=h1;obtain ⟨_,_,cur0,uw,_,Mz,_⟩:=R.bagRow hi;have cG:cur0=cur:=by rw [bK] at uw;injection uw with uw;injection uw with uw;exact uw.symm
   subst cG;obtain ⟨v2,g1,_,g3⟩:=Mz k' _ (List.getElem?_eq_getElem dF);rw [bA] at g1;obtain rfl:=Option.some.inj g1;obtain ⟨A2,n2,nG,q1,q2,q3⟩:=g3 (fV k' ax);rw [h2] at q1;simp only [Value.slice.injEq] at q1;obtain ⟨rfl,rfl,rfl⟩:=q1;obtain ⟨b2,o2,_,_,q4,_,_,_,_,_,q5⟩:=q3 l2;simp only [Option.some.injEq,Addr.mk.injEq] at q4;obtain ⟨rfl,rfl,_⟩:=q4;exact Gv _ (by rw [he];exact q5 _ (Nat.le_refl _))
 ·rw [if_pos rfl] at aS;subst aS;unfold Osl at bo;rw [if_pos rfl] at bo;refine ⟨p,?_⟩;refine R.bagSet hi hk gq bK je (wm w _ _).symm rfl rfl rfl (fun b hb=>wk w _ _ b hb) (setRow_heap w (p id) cur _ e _ bK) (by simp) eN dw (fun _=>rfl) (fun _ _=>rfl) (fun _ _ h=>h)
   (fun b j hS=>hB.1 b j (.inr hS)) hB.2.1 (fun i ob hn aG bs b j j' hO hS=>hn (R.inj i id ob _ (dw i ob hn aG) hi bs bP b j j' hO (.inr hS))) (fun b j hS=>.inr ⟨id,_,hi,bP,.inr hS⟩)
   ?_ ?_ fun k' v' _ _ _=>?_
  ·obtain ⟨⟨A,bo⟩,_⟩:=bo;rw [bo];exact .slNil _ _ _
  ·obtain ⟨⟨A,bo⟩,_⟩:=bo;rw [bo];exact ⟨A,0,0,rfl,Nat.le_refl _,fun h=>by omega⟩
  ·obtain ⟨⟨A,bo⟩,_⟩:=bo;rw [bo];intro b o n1 c1 b' o' n' c' h1 _ l1;simp only [Value.slice.injEq] at h1;omega
end
end
end Go.Proofs.YtoibondihdhnoaaGreatDoor
