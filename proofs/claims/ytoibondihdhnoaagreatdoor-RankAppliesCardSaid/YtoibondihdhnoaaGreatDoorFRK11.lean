/- Texts in one: Calls that write to their caller's variables, rows and maps: of every program; no condition. -/
import Derived.Test.YtoibondihdhnoaaGreatDoorFRK6
namespace Go.Proofs.YtoibondihdhnoaaGreatDoor
open Go.RowKit
def jx (τ:Nat→Nat) : Nat→AV→AV
 | 0,_=>.any
 | n+1,.agg cs=>.agg (cs.map (jx τ n))
 | n+1,.tup cs=>.tup (cs.map (jx τ n))
 | n+1,.fn f a b=>.fn f (a.map (jx τ n)) (b.map (jx τ n))
 | n+1,.iface t v=>.iface t (jx τ n v)
 | _+1,.ref id off=>.ref (τ id) off
 | _+1,.aref id sz i off=>.aref (τ id) sz i off
 | _+1,.osl id=>.osl (τ id)
 | _+1,.mp id=>.mp (τ id)
 | _+1,.slw id k sz es=>.slw (τ id) k sz es
 | _+1,v=>v
def jP (τ:Nat→Nat) : Ob→Ob
 | .box cs=>.box (cs.map (jx τ 5))
 | o=>o
theorem rn (τ:Nat→Nat) (ob:Ob) : cp (jP τ ob)=cp ob:=by cases ob<;>rfl
theorem Io {τ:Nat→Nat} {ob:Ob} {e sz:Nat} {nl:Bool} {es:List (List AV)} (h:jP τ ob = .arr e sz nl es) : ob = .arr e sz nl es:=by cases ob<;>simp_all [jP]
theorem Ip {τ:Nat→Nat} {ob:Ob} {e sz:Nat} {nl:Bool} {pe:Option Nat} {qs:List (List (List AV))} (h:jP τ ob = .bag e sz nl pe qs) : ob = .bag e sz nl pe qs:=by cases ob<;>simp_all [jP]
theorem Dw {τ:Nat→Nat} {m:Nat} : ∀ {n:Nat} {c:AV},bn m n c=true→cV (jx τ n c)=cV c
 | 0,_,h=>by simp [bn] at h
 | n+1,c,_=>by cases c<;>rfl
structure Emb (h:Hp) (q:Pl) (H:Hp) (p:Pl) (τ:Nat→Nat) : Prop where
 len:∀ k,k < h.length→τ k < H.length
 at_:∀ k,k < h.length→H[τ k]? = (h[k]?).map (Option.map (jP τ))
 b:∀ k,k < h.length→p (τ k)=q k
 S:∀ k,k < h.length→p.S (τ k)=q.S k
section
variable {h H:Hp} {q p:Pl} {τ:Nat→Nat} {w:World} {M M':Nat→Nat→Prop}
theorem pf (E:Emb h q H p τ) {k:Nat} {ob:Ob} (hk:h[k]? = some (some ob)) : H[τ k]? = some (some (jP τ ob)):=by
 rw [E.at_ k (List.getElem?_eq_some_iff.1 hk).1,hk];rfl
theorem Dx (E:Emb h q H p τ) {k:Nat} {ob:Ob} (hl:k < h.length) (hk:H[τ k]? = some (some ob)) : ∃ ob',h[k]? = some (some ob')∧ob=jP τ ob':=by
 rw [E.at_ k hl] at hk;cases hx:h[k]? with
 | none=>rw [hx] at hk;cases hk
 | some x=>
  rw [hx] at hk;cases x with
  | none=>simp at hk
  | some ob'=>simp at hk;exact ⟨ob',rfl,hk.symm⟩
theorem Iq (E:Emb h q H p τ) {k e sz:Nat} {nl:Bool} {es:List (List AV)} (hl:k < h.length) (hk:H[τ k]? = some (some (.arr e sz nl es))) : h[k]? = some (some (.arr e sz nl es)):=by
 obtain ⟨ob,h1,h2⟩:=Dx E hl hk;rw [h1,Io h2.symm]
theorem Dz (E:Emb h q H p τ) {k e sz:Nat} {nl:Bool} {pe:Option Nat} {qs:List (List (List AV))} (hl:k < h.length) (hk:H[τ k]? = some (some (.bag e sz nl pe qs))) : h[k]? = some (some (.bag e sz nl pe qs)):=by
 obtain ⟨ob,h1,h2⟩:=Dx E hl hk;rw [h1,Ip h2.symm]
theorem ou (E:Emb h q H p τ) {k b j:Nat} (hl:k < h.length) : p.O (τ k) b j↔q.O k b j:=by
 unfold Pl.O;rw [E.b k hl,E.S k hl]
theorem zK {τ:Nat→Nat} {n:Nat} {m:Nat} {cs:List AV} (hb:cs.all (bn m n)=true) (h1:∀ c∈cs,cV c=true) : ∀ c∈cs.map (jx τ n),cV c=true:=fun c hc=>by
 obtain ⟨x,hx,rfl⟩:=List.mem_map.1 hc;rw [Dw (List.all_eq_true.1 hb x hx)];exact h1 x hx
theorem DA {τ:Nat→Nat} {n:Nat} {m:Nat} {cs:List AV} (hb:cs.all (bn m n)=true) (h1:∀ c∈cs.map (jx τ n),cV c=true) : ∀ c∈cs,cV c=true:=fun c hc=>by
 have:=h1 _ (List.mem_map.2 ⟨c,hc,rfl⟩);rwa [Dw (List.all_eq_true.1 hb c hc)] at this
theorem Sp.ren (E:Emb h q H p τ) {id k sz:Nat} {v:Value} (hid:id < h.length) (hs:Sp w h q id k sz v) : Sp w H p (τ id) k sz v:=fun e bD pe qs he=>by
 obtain ⟨a1,a2,a3,a4⟩:=hs e bD pe qs (Dz E hid he);unfold Spare at a2 ⊢;rw [E.b id hid,E.S id hid];exact ⟨a1,a2,a3,a4⟩
theorem Sp.back (E:Emb h q H p τ) {id k sz:Nat} {v:Value} (hid:id < h.length) (hs:Sp w H p (τ id) k sz v) : Sp w h q id k sz v:=fun e bD pe qs he=>by
 obtain ⟨a1,a2,a3,a4⟩:=hs e bD pe qs (pf E he);unfold Spare at a2 ⊢;rw [E.b id hid,E.S id hid] at a2;rw [E.b id hid] at a3 a4;exact ⟨a1,a2,a3,a4⟩
theorem V1.ren (E:Emb h q H p τ) (hM:∀ b j,¬M b j→¬M' b j) : ∀ (n:Nat) (av:AV) (v:Value),V1 w M h q av v→bn h.length n av=true→V1 w M' H p (jx τ n av) v
 | 0,_,_,_,hb=>by simp [bn] at hb
 | n+1,av,v,hv,hb=>by
  have ih:=V1.ren E hM n;have dj:∀ {a:AV} {v:Value},V0 w M a v→V1 w M' H p a v:=fun hv=>.base _ _ (hv.keep (Keeps.refl _ _) fun b j _ hn=>hM b j hn);have aG:∀ {cs:List AV} {us:List Value},cs.all (bn h.length n)=true→(∀ (i:Nat) (c:AV) (u:Value),cs[i]? = some c→us[i]? = some u→V1 w M h q c u)→∀ (i:Nat) (c:AV) (u:Value),(cs.map (jx τ n))[i]? = some c→us[i]? = some u→V1 w M' H p c u:=fun hb hv i c u hc hu=>by
   obtain ⟨a,ha,rfl⟩:=dT hc;exact ih a u (hv i a u ha hu) (List.all_eq_true.1 hb a (List.mem_of_getElem? ha))
  cases hv with
  | base _ _ h0=>
   cases h0 with
   | any=>exact dj (.any v)
   | lit=>exact dj (.lit v)
   | slNil sz A cap=>exact dj (.slNil sz A cap)
   | sl sz es cap b o u a1 a2 a3 a4 a5 a6 a7 a8=>exact dj (.sl sz es cap b o u a1 a2 a3 a4 a5 a6 a7 a8)
   | vp cs b o u a1 a2 a3 a4 a5=>exact dj (.vp cs b o u a1 a2 a3 a4 a5)
   | agg cs us hl h1 hh=>
    simp only [bn] at hb;exact .agg _ _ (by simpa using hl) (zK hb h1) (aG hb fun i c u h1 h2=>.base _ _ (hh i c u h1 h2))
   | tup cs us hl hh=>
    simp only [bn] at hb;exact .tup _ _ (by simpa using hl) (aG hb fun i c u h1 h2=>.base _ _ (hh i c u h1 h2))
   | fn f x y us vs hl bp hh fy=>
    simp only [bn,Bool.and_eq_true] at hb;exact .fn f _ _ _ _ (by simpa using hl) (by simpa using bp) (aG hb.1 fun i c u h1 h2=>.base _ _ (hh i c u h1 h2)) (aG hb.2 fun i c u h1 h2=>.base _ _ (fy i c u h1 h2))
   | iface t x u hh=>exact .iface _ _ _ (ih x u (.base _ _ hh) (by simpa [bn] using hb))
  | agg cs us hl h1 hh=>
   simp only [bn] at hb;exact .agg _ _ (by simpa using hl) (zK hb h1) (aG hb hh)
  | tup cs us hl hh=>
   simp only [bn] at hb;exact .tup _ _ (by simpa using hl) (aG hb hh)
  | fn f x y us vs hl bp hh fy=>
   simp only [bn,Bool.and_eq_true] at hb;exact .fn f _ _ _ _ (by simpa using hl) (by simpa using bp) (aG hb.1 hh) (aG hb.2 fy)
  | iface t x u hh=>exact .iface _ _ _ (ih x u hh (by simpa [bn] using hb))
  | ref id off hid=>rw [←E.b id hid];exact .ref _ off (E.len id hid)
  | aref id sz i off hid=>rw [←E.b id hid];exact .aref _ sz i off (E.len id hid)
  | mp id hid=>rw [←E.b id hid];exact .mp _ (E.len id hid)
  | osl id A m c hid hv lN=>exact .osl _ A m c (E.len id hid) (fun e sz nl es he=>by rw [E.b id hid];exact hv e sz nl es (Iq E hid he)) fun e sz nl pe qs he=>by rw [E.b id hid];exact lN e sz nl pe qs (Dz E hid he)
  | slw id k sz es _ hid h0 hs=>exact .slw _ k sz es v (E.len id hid) (h0.keep (Keeps.refl _ _) fun b j _ hn=>hM b j hn) (hs.ren E hid)
theorem V1.fn_inv {f:Fn} {a b:List AV} {u:Value} (hv:V1 w M h p (.fn f a b) u) : ∃ us vs:List Value,u = .func f us.toArray vs.toArray∧us.length=a.length∧vs.length=b.length∧(∀ (i:Nat) (c:AV) (u:Value),a[i]? = some c→us[i]? = some u→V1 w M h p c u)∧∀ (i:Nat) (c:AV) (u:Value),b[i]? = some c→vs[i]? = some u→V1 w M h p c u:=by
 cases hv with
 | base _ _ h0=>
  cases h0 with
  | fn _ _ _ us vs hl bp hh fy=>exact ⟨us,vs,rfl,hl,bp,fun i c u h1 h2=>.base _ _ (hh i c u h1 h2),fun i c u h1 h2=>.base _ _ (fy i c u h1 h2)⟩
 | fn _ _ _ us vs hl bp hh fy=>exact ⟨us,vs,rfl,hl,bp,hh,fy⟩
theorem V1.iface_invV {t:TypeId} {a:AV} {u:Value} (hv:V1 w M h p (.iface t a) u) : ∃ v,u = .iface t v∧V1 w M h p a v:=by
 cases hv with
 | base _ _ h0=>
  cases h0 with
  | iface _ _ v hh=>exact ⟨v,rfl,.base _ _ hh⟩
 | iface _ _ v hh=>exact ⟨v,rfl,hh⟩
theorem V1.back (E:Emb h q H p τ) (hM:∀ b j,¬M' b j→¬M b j) : ∀ (n:Nat) (av:AV) (v:Value),V1 w M' H p (jx τ n av) v→bn h.length n av=true→V1 w M h q av v
 | 0,_,_,_,hb=>by simp [bn] at hb
 | n+1,av,v,hv,hb=>by
  have ih:=V1.back E hM n;have dj:∀ {a:AV} {v:Value},V0 w M' a v→V1 w M h q a v:=fun hv=>.base _ _ (hv.keep (Keeps.refl _ _) fun b j _ hn=>hM b j hn);have aG:∀ {cs:List AV} {us:List Value},cs.all (bn h.length n)=true→(∀ (i:Nat) (c:AV) (u:Value),(cs.map (jx τ n))[i]? = some c→us[i]? = some u→V1 w M' H p c u)→∀ (i:Nat) (c:AV) (u:Value),cs[i]? = some c→us[i]? = some u→V1 w M h q c u:=fun {cs us} hb hv i c u hc hu=>
   ih c u (hv i _ u (by rw [List.getElem?_map,hc];rfl) hu) (List.all_eq_true.1 hb c (List.mem_of_getElem? hc))
  cases av with
  | any=>exact .base _ _ (.any v)
  | lit u=>obtain rfl:=V1.lit_inv hv;exact .base _ _ (.lit _)
  | sl sz es=>exact dj (V1.sl_inv hv)
  | vp cs=>exact dj (V1.vp_inv hv).1
  | agg cs=>
   simp only [bn] at hb;obtain ⟨us,rfl,hl,h1,hh⟩:=V1.agg_inv hv;exact .agg _ _ (by simpa using hl) (DA hb h1) (aG hb hh)
  | tup cs=>
   simp only [bn] at hb;obtain ⟨us,rfl,hl,hh⟩:=V1.tup_inv hv;exact .tup _ _ (by simpa using hl) (aG hb hh)
  | fn f a b=>
   simp only [bn,Bool.and_eq_true] at hb;obtain ⟨us,vs,rfl,hl,bp,hh,fy⟩:=V1.fn_inv hv;exact .fn f _ _ _ _ (by simpa using hl) (by simpa using bp) (aG hb.1 hh) (aG hb.2 fy)
  | iface t x=>
   obtain ⟨u,rfl,hh⟩:=V1.iface_invV hv;exact .iface _ _ _ (ih x u hh (by simpa [bn] using hb))
  | ref id off=>
   have hid:id < h.length:=by simpa [bn] using hb
   rw [(V1.ref_inv hv).1,E.b id hid];exact .ref _ _ hid
  | aref id sz i off=>
   have hid:id < h.length:=by simpa [bn] using hb
   rw [(V1.aref_inv hv).1,E.b id hid];exact .aref _ _ _ _ hid
  | mp id=>
   have hid:id < h.length:=by simpa [bn] using hb
   rw [(V1.mp_inv hv).1,E.b id hid];exact .mp _ hid
  | osl id=>
   have hid:id < h.length:=by simpa [bn] using hb
   obtain ⟨A,m,c,rfl,_,h1⟩:=V1.osl_inv hv;obtain ⟨_,_,_,_,_,h2⟩:=V1.bag_inv hv;refine .osl _ A m c hid (fun e sz nl es he=>?_) fun e sz nl pe qs he=>?_
   ·rw [←E.b id hid];exact h1 e sz nl es (pf E he)
   ·rw [←E.b id hid];exact h2 e sz nl pe qs (pf E he)
  | slw id k sz es=>
   have hid:id < h.length:=by simpa [bn] using hb
   obtain ⟨_,h0,hs⟩:=V1.slw_inv hv;exact .slw _ _ _ _ _ hid (h0.keep (Keeps.refl _ _) fun b j _ hn=>hM b j hn) (hs.back E hid)
theorem ObOK.ren {w0 w0':Bas} (E:Emb h q H p τ) (hM:∀ b j,¬M b j→¬M' b j) {k:Nat} {ob:Ob} (hk:k < h.length) (hF:∀ b j,Fr w0 b j→b < w.heap.size→Fr w0' b j) (dA:ov h.length ob=true) (ho:ObOK w0 w M h q k ob) : ObOK w0' w M' H p (τ k) (jP τ ob):=by
 have cE:q k < w.heap.size→Own w0 q k→Own w0' p (τ k):=fun aq h1=>by
  unfold Own;rw [E.b k hk,E.S k hk];exact ⟨fun j=>hF _ _ (h1.1 j) aq,h1.2⟩
 have dO:∀ {a:AV} {v:Value},V0 w M a v→V0 w M' a v:=fun hv=>hv.keep (Keeps.refl _ _) fun b j _ hn=>hM b j hn;cases ob with
 | mpo kf iA=>
  obtain ⟨h1,h2,es,clock,hg,h3⟩:=ho;exact ⟨cE (Array.getElem?_eq_some_iff.1 hg).1 h1,h2,es,clock,by rw [E.b k hk];exact hg,h3⟩
 | box cs=>
  obtain ⟨h1,cur,e,hg,h2,h3,h4⟩:=ho;refine ⟨cE (Array.getElem?_eq_some_iff.1 hg).1 h1,cur,e,by rw [E.b k hk];exact hg,by simpa using h2,zK dA h3,fun j c hj=>?_⟩;obtain ⟨x,hx,rfl⟩:=dT hj;obtain ⟨u,hu,hv⟩:=h4 j x hx;exact ⟨u,hu,V1.ren E hM 5 _ _ hv (List.all_eq_true.1 dA x (List.mem_of_getElem? hx))⟩
 | arr e sz nl es=>
  obtain ⟨h1,h2,hr⟩:=ho;refine ⟨h1,h2,?_⟩;split at hr
  ·rename_i hn;rw [if_pos hn];exact hr
  ·rename_i hn;rw [if_neg hn];obtain ⟨h3,cur,hg,h4,h5⟩:=hr;exact ⟨cE (Array.getElem?_eq_some_iff.1 hg).1 h3,cur,by rw [E.b k hk];exact hg,h4,fun i x j c hi hj=>let ⟨u,hu,hv⟩:=h5 i x j c hi hj;⟨u,hu,dO hv⟩⟩
 | bag e sz nl ao qs=>
  obtain ⟨h1,hr⟩:=ho;refine ⟨h1,?_⟩;split at hr
  ·rename_i hn;rw [if_pos hn];exact hr
  ·rename_i hn;rw [if_neg hn];obtain ⟨g1,g2,cur,hg,g3,g4,g5⟩:=hr;refine ⟨fun b j hO=>?_,fun j=>by rw [E.S k hk,E.b k hk];exact g2 j,cur,by rw [E.b k hk];exact hg,g3,fun i x hi=>?_,g5⟩
   ·obtain ⟨f1,f2⟩:=g1 b j ((ou E hk).1 hO);exact ⟨hF b j f1 f2,f2⟩
   ·obtain ⟨v,hv,cz,hs⟩:=g4 i x hi;refine ⟨v,hv,dO cz,fun hp=>?_⟩;have:=hs hp;unfold Spare at this ⊢;rw [E.b k hk,E.S k hk];exact this
theorem ObOK.back {w0 w0':Bas} (E:Emb h q H p τ) (hM:∀ b j,¬M' b j→¬M b j) {k:Nat} {ob:Ob} (hk:k < h.length) (hF:cp ob=true→∀ b j,q.O k b j→Fr w0 b j) (dA:ov h.length ob=true) (ho:ObOK w0' w M' H p (τ k) (jP τ ob)) : ObOK w0 w M h q k ob:=by
 have cE:cp ob=true→Own w0' p (τ k)→Own w0 q k:=fun hl h1=>by
  unfold Own at h1;rw [E.b k hk,E.S k hk] at h1;exact ⟨fun j=>hF hl _ _ (.inl rfl),h1.2⟩
 have dO:∀ {a:AV} {v:Value},V0 w M' a v→V0 w M a v:=fun hv=>hv.keep (Keeps.refl _ _) fun b j _ hn=>hM b j hn;cases ob with
 | mpo kf iA=>
  obtain ⟨h1,h2,es,clock,hg,h3⟩:=ho;rw [E.b k hk] at hg;exact ⟨cE rfl h1,h2,es,clock,hg,h3⟩
 | box cs=>
  obtain ⟨h1,cur,e,hg,h2,h3,h4⟩:=ho;rw [E.b k hk] at hg;refine ⟨cE rfl h1,cur,e,hg,by simpa using h2,DA dA h3,fun j c hj=>?_⟩;obtain ⟨u,hu,hv⟩:=h4 j (jx τ 5 c) (by rw [List.getElem?_map,hj];rfl);exact ⟨u,hu,V1.back E hM 5 _ _ hv (List.all_eq_true.1 dA c (List.mem_of_getElem? hj))⟩
 | arr e sz nl es=>
  obtain ⟨h1,h2,hr⟩:=ho;refine ⟨h1,h2,?_⟩;split at hr
  ·rename_i hn;rw [if_pos hn];exact hr
  ·rename_i hn;rw [if_neg hn];obtain ⟨h3,cur,hg,h4,h5⟩:=hr;rw [E.b k hk] at hg;exact ⟨cE (by cases nl;rfl;exact absurd rfl hn) h3,cur,hg,h4,fun i x j c hi hj=>let ⟨u,hu,hv⟩:=h5 i x j c hi hj;⟨u,hu,dO hv⟩⟩
 | bag e sz nl ao qs=>
  obtain ⟨h1,hr⟩:=ho;refine ⟨h1,?_⟩;split at hr
  ·rename_i hn;rw [if_pos hn];exact hr
  ·rename_i hn;rw [if_neg hn];obtain ⟨g1,g2,cur,hg,g3,g4,g5⟩:=hr;rw [E.b k hk] at hg;refine ⟨fun b j hO=>⟨hF (by cases nl;rfl;exact absurd rfl hn) b j hO,(g1 b j ((ou E hk).2 hO)).2⟩,fun j=>by have:=g2 j;rwa [E.S k hk,E.b k hk] at this,cur,hg,g3,fun i x hi=>?_,g5⟩;obtain ⟨v,hv,cz,hs⟩:=g4 i x hi;refine ⟨v,hv,dO cz,fun hp=>?_⟩;have:=hs hp;unfold Spare at this ⊢;rw [E.b k hk,E.S k hk] at this;exact this
end
def okA (r o s:Nat→Bool) : Nat→AV→Bool
 | 0,_=>false
 | n+1,.agg cs=>cs.all (okA r o s n)
 | n+1,.tup cs=>cs.all (okA r o s n)
 | n+1,.fn _ a b=>a.all (okA r o s n)&&b.all (okA r o s n)
 | n+1,.iface _ v=>okA r o s n v
 | _+1,.ref i _=>r i
 | _+1,.aref i _ _ _=>r i
 | _+1,.mp i=>r i
 | _+1,.osl i=>o i
 | _+1,.slw i _ _ _=>s i
 | _+1,_=>true
section
variable {w w':World} {M M':Nat→Nat→Prop} {h h':Hp} {p p':Pl} {r o s:Nat→Bool}
theorem V1.stay (dO:∀ {a:AV} {v:Value},V0 w M a v→V0 w' M' a v) (hl:h.length≤h'.length) (hr:∀ i,r i=true→i < h.length→p' i=p i)
  (ho:∀ i v,o i=true→i < h.length→V1 w M h p (.osl i) v→V1 w' M' h' p' (.osl i) v) (hs:∀ i k sz v,s i=true→i < h.length→Sp w h p i k sz v→Sp w' h' p' i k sz v) :
  ∀ (n:Nat) (av:AV) (v:Value),V1 w M h p av v→okA r o s n av=true→V1 w' M' h' p' av v
 | 0,_,_,_,hb=>by simp [okA] at hb
 | n+1,av,v,hv,hb=>by
  have ih:=V1.stay dO hl hr ho hs n;have aG:∀ {cs:List AV} {us:List Value},cs.all (okA r o s n)=true→(∀ (i:Nat) (c:AV) (u:Value),cs[i]? = some c→us[i]? = some u→V1 w M h p c u)→∀ (i:Nat) (c:AV) (u:Value),cs[i]? = some c→us[i]? = some u→V1 w' M' h' p' c u:=fun hb hv i c u hc hu=>
   ih c u (hv i c u hc hu) (List.all_eq_true.1 hb c (List.mem_of_getElem? hc))
  have zL:=hv;cases hv with
  | base _ _ h0=>exact .base _ _ (dO h0)
  | agg cs us hl h1 hh=>
   simp only [okA] at hb;exact .agg _ _ hl h1 (aG hb hh)
  | tup cs us hl hh=>
   simp only [okA] at hb;exact .tup _ _ hl (aG hb hh)
  | fn f x y us vs hl bp hh fy=>
   simp only [okA,Bool.and_eq_true] at hb;exact .fn f _ _ _ _ hl bp (aG hb.1 hh) (aG hb.2 fy)
  | iface t x u hh=>exact .iface _ _ _ (ih x u hh (by simpa [okA] using hb))
  | ref i off hid=>rw [←hr i (by simpa [okA] using hb) hid];exact .ref _ off (Nat.lt_of_lt_of_le hid hl)
  | aref i sz k off hid=>rw [←hr i (by simpa [okA] using hb) hid];exact .aref _ sz k off (Nat.lt_of_lt_of_le hid hl)
  | mp i hid=>rw [←hr i (by simpa [okA] using hb) hid];exact .mp _ (Nat.lt_of_lt_of_le hid hl)
  | osl i A m c hid hv lN=>exact ho i _ (by simpa [okA] using hb) hid zL
  | slw i k sz es _ hid h0 gh=>exact .slw _ k sz es v (Nat.lt_of_lt_of_le hid hl) (dO h0) (hs i k sz v (by simpa [okA] using hb) hid gh)
end
def tau (σ:List Nat) (L k:Nat) : Nat:=match σ[k]? with|some i=>i|none=>L+(k - σ.length)
def jy:List Nat→Nat→Nat→Option Nat
 | [],_,_=>none
 | s::r,i,k=>if s=i then some k else jy r i (k+1)
def uw (σ:List Nat) (L:Nat) (ok:AV→Bool) (h':Hp) (i:Nat) (o:Option Ob) : Option Ob:=
 match jy σ i 0 with
 | some k=>(match h'[k]? with|some (some ob)=>some (jP (tau σ L) ob)|_=>none)
 | none=>match o with
  | some (.box cs)=>if cs.all ok=true then some (.box cs) else none
  | o=>o
def mT (σ:List Nat) (L:Nat) (ok:AV→Bool) (h':Hp) : Nat→Hp→Hp
 | _,[]=>[]
 | i,o::r=>uw σ L ok h' i o::mT σ L ok h' (i+1) r
def mU (τ:Nat→Nat) : Hp→Hp
 | []=>[]
 | o::r=>o.map (jP τ)::mU τ r
theorem zM (σ:List Nat) (L:Nat) (ok:AV→Bool) (h':Hp) : ∀ (h:Hp) (i k:Nat),(mT σ L ok h' i h)[k]? = (h[k]?).map (uw σ L ok h' (i+k))
 | [],i,k=>by simp [mT]
 | o::r,i,0=>by simp [mT]
 | o::r,i,k+1=>by
  have:=zM σ L ok h' r (i+1) k;simp only [mT,List.getElem?_cons_succ];rw [this,show i+1+k=i+(k+1) by omega]
theorem pg (σ:List Nat) (L:Nat) (ok:AV→Bool) (h':Hp) : ∀ (h:Hp) (i:Nat),(mT σ L ok h' i h).length=h.length
 | [],i=>rfl
 | o::r,i=>by simp [mT,pg σ L ok h' r (i+1)]
theorem zN (τ:Nat→Nat) : ∀ (h:Hp) (k:Nat),(mU τ h)[k]? = (h[k]?).map (Option.map (jP τ))
 | [],k=>by simp [mU]
 | o::r,0=>by simp [mU]
 | o::r,k+1=>by simp [mU,zN τ r k]
theorem DB (τ:Nat→Nat) : ∀ (h:Hp),(mU τ h).length=h.length
 | []=>rfl
 | o::r=>by simp [mU,DB τ r]
theorem ux:∀ {σ:List Nat} {i k j:Nat},jy σ i k=some j→k≤j∧σ[j - k]? = some i
 | [],i,k,j,h=>by simp [jy] at h
 | s::r,i,k,j,h=>by
  unfold jy at h;split at h
  ·rename_i he;simp only [Option.some.injEq] at h;subst h he;simp
  ·obtain ⟨h1,h2⟩:=ux h;refine ⟨by omega,?_⟩;rw [show j - k=(j - (k+1))+1 by omega];simpa using h2
theorem zO:∀ {σ:List Nat} {i k:Nat},jy σ i k=none→i∉σ
 | [],i,k,h=>by simp
 | s::r,i,k,h=>by
  unfold jy at h;split at h
  ·cases h
  ·rename_i au;have:=zO h;simp only [List.mem_cons,not_or];exact ⟨fun e=>au e.symm,this⟩
theorem s0 {σ:List Nat} (hn:σ.Nodup) {i k:Nat} (h:σ[k]? = some i) : jy σ i 0=some k:=by
 cases hx:jy σ i 0 with
 | none=>exact absurd (List.mem_of_getElem? h) (zO hx)
 | some j=>
  have hj:=(ux hx).2;rw [Nat.sub_zero] at hj;obtain ⟨a1,b1⟩:=List.getElem?_eq_some_iff.1 h;obtain ⟨a2,b2⟩:=List.getElem?_eq_some_iff.1 hj;rcases Nat.lt_trichotomy k j with hl|hl|hl
  ·exact absurd (b1.trans b2.symm) (List.pairwise_iff_getElem.1 hn k j a1 a2 hl)
  ·rw [hl]
  ·exact absurd (b2.trans b1.symm) (List.pairwise_iff_getElem.1 hn j k a2 a1 hl)
theorem Ir {σ:List Nat} {L:Nat} (hn:σ.Nodup) (hL:∀ i∈σ,i < L) {k k':Nat} (h:tau σ L k=tau σ L k') : k=k':=by
 unfold tau at h;cases hi:σ[k]? with
 | some i=>
  cases hj:σ[k']? with
  | some j=>
   rw [hi,hj] at h;simp only at h;subst h;have h1:=s0 hn hi;rw [s0 hn hj] at h1;exact (Option.some.inj h1).symm
  | none=>
   rw [hi,hj] at h;simp only at h;have:=hL i (List.mem_of_getElem? hi);omega
 | none=>
  have:=List.getElem?_eq_none_iff.1 hi;cases hj:σ[k']? with
  | some j=>
   rw [hi,hj] at h;simp only at h;have:=hL j (List.mem_of_getElem? hj);omega
  | none=>
   have:=List.getElem?_eq_none_iff.1 hj;rw [hi,hj] at h;simp only at h;omega
def jd (σ:List Nat) (L:Nat) (p q:Pl) : Pl:=
 ⟨fun i=>match jy σ i 0 with|some k=>q k|none=>if i < L then p i else q (σ.length+(i - L)),
  fun i=>match jy σ i 0 with|some k=>q.S k|none=>if i < L then p.S i else q.S (σ.length+(i - L))⟩
theorem zP {σ:List Nat} {L:Nat} {p q:Pl} (hn:σ.Nodup) (hL:∀ i∈σ,i < L) (k:Nat) : jd σ L p q (tau σ L k)=q k∧(jd σ L p q).S (tau σ L k)=q.S k:=by
 unfold tau;cases hk:σ[k]? with
 | some i=>simp [jd,s0 hn hk]
 | none=>
  have h1:=List.getElem?_eq_none_iff.1 hk;have h2:jy σ (L+(k - σ.length)) 0=none:=by
   cases hx:jy σ (L+(k - σ.length)) 0 with
   | none=>rfl
   | some j=>
    have:=hL _ (List.mem_of_getElem? (ux hx).2);omega
  have h3:σ.length+(L+(k - σ.length) - L)=k:=by omega
  simp only [jd,h2,if_neg (show ¬L+(k - σ.length) < L by omega),h3];exact ⟨trivial,trivial⟩
theorem oz {σ:List Nat} {L:Nat} {p q:Pl} {i:Nat} (hi:i∉σ) (hl:i < L) : jd σ L p q i=p i∧(jd σ L p q).S i=p.S i:=by
 have h2:jy σ i 0=none:=by
  cases hx:jy σ i 0 with
  | none=>rfl
  | some j=>exact absurd (List.mem_of_getElem? (ux hx).2) hi
 simp only [jd,h2,if_pos hl];exact ⟨trivial,trivial⟩
theorem Is {σ:List Nat} {L:Nat} {p q:Pl} {ok:AV→Bool} {h h':Hp} (hn:σ.Nodup) (hL:∀ i∈σ,i < L) (hl:h.length=L) (hle:σ.length≤h'.length) :
  Emb h' q (mT σ L ok h' 0 h++mU (tau σ L) (h'.drop σ.length)) (jd σ L p q) (tau σ L):=by
 have hlen:(mT σ L ok h' 0 h++mU (tau σ L) (h'.drop σ.length)).length=L+(h'.length - σ.length):=by
  rw [List.length_append,pg,DB,List.length_drop,hl]
 refine ⟨fun k hk=>?_,fun k hk=>?_,fun k _=>(zP hn hL k).1,fun k _=>(zP hn hL k).2⟩
 ·rw [hlen];unfold tau;split
  ·rename_i i hi;have:=hL i (List.mem_of_getElem? hi);omega
  ·rename_i hi;have:=List.getElem?_eq_none_iff.1 hi;omega
 ·cases hs:σ[k]? with
  | some i=>
   have hi:=hL i (List.mem_of_getElem? hs);have ht:tau σ L k=i:=by unfold tau;rw [hs]
   rw [ht,List.getElem?_append_left (by rw [pg,hl];exact hi),zM,List.getElem?_eq_getElem (by rw [hl];exact hi)];simp only [Option.map_some,Nat.zero_add,uw,s0 hn hs];rw [List.getElem?_eq_getElem hk];cases h'[k]<;>rfl
  | none=>
   have h1:=List.getElem?_eq_none_iff.1 hs;have ht:tau σ L k=L+(k - σ.length):=by unfold tau;rw [hs]
   rw [ht,List.getElem?_append_right (by rw [pg,hl];omega),pg,hl,zN,List.getElem?_drop];congr 2;omega
def oth (M0:Nat→Nat→Prop) (σ:List Nat) (h:Hp) (p:Pl) (b j:Nat) : Prop:=M0 b j∨∃ i ob,i∉σ∧h[i]? = some (some ob)∧cp ob=true∧p.O i b j
def ph (σ:List Nat) (h:Hp) (p:Pl) (b j:Nat) : Prop:=∃ i ob,i∈σ∧h[i]? = some (some ob)∧cp ob=true∧p.O i b j
def xe (h:Hp) (q:Pl) : Prop:=∀ (k k':Nat) (ob ob':Ob),h[k]? = some (some ob)→h[k']? = some (some ob')→cp ob=true→cp ob'=true→∀ b j j',q.O k b j→q.O k' b j'→k=k'
def okB (σ Kr Ko:List Nat) : AV→Bool:=okA (fun i=>!σ.contains i || Kr.contains i) (fun i=>!σ.contains i || Ko.contains i) (fun i=>!σ.contains i) 5
def qd (ok:AV→Bool) : List (Nat×AV)→List (Nat×AV)
 | []=>[]
 | (d,v)::r=>(d,if ok v=true then v else .any)::qd ok r
def kt (σ:List Nat) (L:Nat) (ok:AV→Bool) (h h':Hp) : Hp:=mT σ L ok h' 0 h++mU (tau σ L) (h'.drop σ.length)
theorem DC (ok:AV→Bool) : ∀ (s:List (Nat×AV)) (t:Nat),(ok (lkp s t)=true∧lkp (qd ok s) t=lkp s t)∨lkp (qd ok s) t = .any
 | [],t=>.inr rfl
 | (d,v)::r,t=>by
  simp only [qd,lkp];split
  ·split
   ·exact .inl ⟨by assumption,rfl⟩
   ·exact .inr rfl
  ·exact DC ok r t
theorem uy {σ:List Nat} {ok:AV→Bool} {h h':Hp} (_hn:σ.Nodup) {i:Nat} {ob:Ob} (hi:(kt σ h.length ok h h')[i]? = some (some ob)) :
  (∃ k ob',i=tau σ h.length k∧h'[k]? = some (some ob')∧ob=jP (tau σ h.length) ob')∨(i < h.length∧i∉σ∧h[i]? = some (some ob)∧∀ cs,ob = .box cs→cs.all ok=true):=by
 unfold kt at hi;by_cases hl:i < h.length
 ·rw [List.getElem?_append_left (by rw [pg];exact hl),zM,List.getElem?_eq_getElem hl] at hi;simp only [Option.map_some,Option.some.injEq,Nat.zero_add,uw] at hi;split at hi
  ·rename_i k hk;have hs:=(ux hk).2;rw [Nat.sub_zero] at hs;split at hi
   ·rename_i ob' iQ;simp only [Option.some.injEq] at hi;exact .inl ⟨k,ob',by unfold tau;rw [hs],iQ,hi.symm⟩
   ·cases hi
  ·rename_i hk;refine .inr ⟨hl,zO hk,?_⟩;rw [List.getElem?_eq_getElem hl];split at hi
   ·rename_i cs bM;split at hi
    ·rename_i aG;simp only [Option.some.injEq] at hi;subst hi;exact ⟨by rw [bM],fun dU h=>by injection h with h;subst h;exact aG⟩
    ·cases hi
   ·rename_i fL;exact ⟨by rw [hi],fun cs h=>absurd (by rw [hi,h]) (fL cs)⟩
 ·rw [List.getElem?_append_right (by rw [pg];omega),pg,zN,List.getElem?_drop] at hi;have aq:σ.length+(i - h.length) < h'.length:=by
   rcases Nat.lt_or_ge (σ.length+(i - h.length)) h'.length with h|h
   ·exact h
   ·rw [List.getElem?_eq_none h] at hi;cases hi
  rw [List.getElem?_eq_getElem aq] at hi;simp only [Option.map_some,Option.some.injEq] at hi;cases hx:h'[σ.length+(i - h.length)] with
  | none=>rw [hx] at hi;cases hi
  | some ob'=>
   rw [hx] at hi;simp only [Option.map_some,Option.some.injEq] at hi;refine .inl ⟨σ.length+(i - h.length),ob',?_,by rw [List.getElem?_eq_getElem aq,hx],hi.symm⟩;unfold tau;rw [List.getElem?_eq_none (by omega)];simp only;omega
section
variable {P:Program} {M0:Nat→Nat→Prop} {w0:Bas} {N:Nm} {p:Pl} {st:VS} {a:Act} {w w':World}
theorem It {σ:List Nat} {L k i:Nat} (h:tau σ L k=i) (hi:i < L) : σ[k]? = some i:=by
 unfold tau at h;cases hs:σ[k]? with
 | some x=>rw [hs] at h;simp only at h;rw [h]
 | none=>rw [hs] at h;simp only at h;omega
theorem Rel.ret (R:Rel M0 w0 N p st a w) {σ Kr Ko:List Nat} {h':Hp} {q:Pl} (hn:σ.Nodup) (hL:∀ i∈σ,i < st.h.length) (hle:σ.length≤h'.length) (hB:Bel ⟨w,ph σ st.h p⟩ w')
  (hO:∀ (k:Nat) (ob:Ob),h'[k]? = some (some ob)→ObOK ⟨w,ph σ st.h p⟩ w' (Mof (oth M0 σ st.h p) h' q) h' q k ob) (hI:xe h' q) (dA:∀ (k:Nat) (ob:Ob),h'[k]? = some (some ob)→ov h'.length ob=true)
  (Iu:∀ i∈Kr,∀ k:Nat,σ[k]? = some i→q k=p i) (Iv:∀ i∈Ko,∀ k:Nat,σ[k]? = some i→∀ v,V1 w (Mof M0 st.h p) st.h p (.osl i) v→V1 w' (Mof (oth M0 σ st.h p) h' q) h' q (.osl k) v) :
  Rel M0 w0 N (jd σ st.h.length p q) ⟨qd (okB σ Kr Ko) st.s,kt σ st.h.length (okB σ Kr Ko) st.h h'⟩ a w' ∧
  ∀ (r:AV) (v:Value),V1 w' (Mof (oth M0 σ st.h p) h' q) h' q r v→bn h'.length 5 r=true→V1 w' (Mof M0 (kt σ st.h.length (okB σ Kr Ko) st.h h') (jd σ st.h.length p q)) (kt σ st.h.length (okB σ Kr Ko) st.h h') (jd σ st.h.length p q) (jx (tau σ st.h.length) 5 r) v:=by
 have E:Emb h' q (kt σ st.h.length (okB σ Kr Ko) st.h h') (jd σ st.h.length p q) (tau σ st.h.length):=Is hn hL rfl hle;have Iw:∀ b j,Fr ⟨w,ph σ st.h p⟩ b j→Fr w0 b j:=fun b j hf=>by
  rcases hf with hf|⟨i,ob,_,hi,hl,hO⟩
  ·exact .inl (Nat.le_trans R.below.size hf)
  ·exact ((R.objs i ob hi).own hl b j hO).1
 have uz:∀ b j,ph σ st.h p b j→Mof M0 st.h p b j:=fun b j ⟨i,ob,_,hi,hl,hO⟩=>.inr ⟨i,ob,hi,hl,hO⟩;have xf:∀ b j,¬Mof (oth M0 σ st.h p) h' q b j→¬Mof M0 (kt σ st.h.length (okB σ Kr Ko) st.h h') (jd σ st.h.length p q) b j:=fun b j jz hm=>by
  rcases hm with hm|⟨i,ob,hi,hl,iB⟩
  ·exact jz (.inl (.inl hm))
  ·rcases uy hn hi with ⟨k,ob',rfl,hk,rfl⟩|⟨aq,je,bA,_⟩
   ·rw [rn] at hl;exact jz (.inr ⟨k,ob',hk,hl,(ou E (List.getElem?_eq_some_iff.1 hk).1).1 iB⟩)
   ·unfold Pl.O at iB;rw [(oz je aq).1,(oz je aq).2] at iB;exact jz (.inl (.inr ⟨i,ob,je,bA,hl,iB⟩))
 have Ix:∀ b j,b < w.heap.size→¬Mof M0 st.h p b j→¬Mof M0 (kt σ st.h.length (okB σ Kr Ko) st.h h') (jd σ st.h.length p q) b j:=fun b j hb jz=>xf b j fun hm=>by
  rcases hm with (hm|⟨i,ob,_,hi,hl,iB⟩)|⟨k,ob,hk,hl,zQ⟩
  ·exact jz (.inl hm)
  ·exact jz (.inr ⟨i,ob,hi,hl,iB⟩)
  ·rcases ((hO k ob hk).own hl b j zQ).1 with hf|hf
   ·exact absurd hf (by show ¬w.heap.size≤b;omega)
   ·exact jz (uz b j hf)
 have dO:∀ {x:AV} {v:Value},V0 w (Mof M0 st.h p) x v→V0 w' (Mof M0 (kt σ st.h.length (okB σ Kr Ko) st.h h') (jd σ st.h.length p q)) x v:=fun hv=>
  hv.keep (hB.keeps.mono fun b j _=>uz b j) Ix
 have ca:∀ (i:Nat) (ob:Ob),i∉σ→st.h[i]? = some (some ob)→cp ob=true→∀ b j,p.O i b j→b < w.heap.size→w'.heap[b]? = w.heap[b]?:=fun i ob je hi hl b j iB hb=>
  hB.keeps.block b hb fun j' ⟨i',ob',bA,dP,bp,cw⟩=>je (by rw [R.inj i i' ob ob' hi dP hl bp b j j' iB cw];exact bA)
 have jf:∀ {i:Nat} {ob:Ob},i < st.h.length→i∉σ→(kt σ st.h.length (okB σ Kr Ko) st.h h')[i]? = some (some ob)→st.h[i]? = some (some ob):=fun {i ob} aq je hi=>by
  rcases uy hn hi with ⟨k,ob',he,_,_⟩|⟨_,_,bA,_⟩
  ·exact absurd (List.mem_of_getElem? (It he.symm aq)) je
  ·exact bA
 have hlen:st.h.length≤(kt σ st.h.length (okB σ Kr Ko) st.h h').length:=by
  unfold kt;rw [List.length_append,pg];omega
 have stay:=V1.stay (w:=w) (w':=w') (M:=Mof M0 st.h p) (M':=Mof M0 (kt σ st.h.length (okB σ Kr Ko) st.h h') (jd σ st.h.length p q)) (h:=st.h) (h':=kt σ st.h.length (okB σ Kr Ko) st.h h') (p:=p) (p':=jd σ st.h.length p q)
  (r:=fun i=>!σ.contains i || Kr.contains i) (o:=fun i=>!σ.contains i || Ko.contains i) (s:=fun i=>!σ.contains i) dO hlen
  (fun i hi aq=>by
   by_cases hs:i∈σ
   ·obtain ⟨k,hk⟩:=List.mem_iff_getElem?.1 hs;have hK:i∈Kr:=by simpa [hs] using hi
    have ht:tau σ st.h.length k=i:=by unfold tau;rw [hk]
    rw [←ht,(zP hn hL k).1,ht];exact Iu i hK k hk
   ·exact (oz hs aq).1)
  (fun i v hi aq hv=>by
   by_cases hs:i∈σ
   ·obtain ⟨k,hk⟩:=List.mem_iff_getElem?.1 hs;have hK:i∈Ko:=by simpa [hs] using hi
    have ht:tau σ st.h.length k=i:=by unfold tau;rw [hk]
    have cF:k < h'.length:=Nat.lt_of_lt_of_le (List.getElem?_eq_some_iff.1 hk).1 hle;have:=V1.ren E xf 5 _ _ (Iv i hK k hk v hv) (by simpa [bn] using cF);rw [←ht];exact this
   ·obtain ⟨A,m,c,rfl,_,h1⟩:=hv.osl_inv;obtain ⟨_,_,_,_,_,h2⟩:=hv.bag_inv;refine .osl _ A m c (Nat.lt_of_lt_of_le aq hlen) (fun e sz nl es he=>?_) fun e sz nl pe qs he=>?_
    ·have bA:=jf aq hs he;rw [(oz hs aq).1];exact (h1 e sz nl es bA).keep fun aJ hb=>ca i _ hs bA (by rw [aJ];rfl) _ 0 (.inl rfl) hb
    ·have bA:=jf aq hs he;rw [(oz hs aq).1];exact (h2 e sz nl pe qs bA).keep fun aJ hb=>ca i _ hs bA (by rw [aJ];rfl) _ 0 (.inl rfl) hb)
  (fun i k sz v hi aq gh=>by
   have hs:i∉σ:=by simpa using hi
   exact gh.keep (fun e sz pe qs he=>⟨jf aq hs he,(oz hs aq).1,(oz hs aq).2,ca i _ hs (jf aq hs he) rfl⟩) hB.size)
 have cq:Bel w0 w':=by
  have DD:∀ b j,b < w0.w.heap.size→ph σ st.h p b j→w0.X b j:=fun b j hb ⟨i,ob,_,hi,hl,iB⟩=>(((R.objs i ob hi).own hl b j iB).1).resolve_left (by omega);exact ⟨hB.os.trans R.below.os,hB.tape.trans R.below.tape,hB.output.trans R.below.output,Nat.le_trans R.below.size hB.size,
   fun b hb hX=>(hB.keeps.block b (Nat.lt_of_lt_of_le hb R.below.size) fun j hj=>hX j (DD b j hb hj)).trans (R.below.keeps.block b hb hX),
   fun hb hX hc=>hB.keeps.cell (Nat.lt_of_lt_of_le hb R.below.size) (fun hj=>hX (DD _ _ hb hj)) (R.below.keeps.cell hb hX hc)⟩
 refine ⟨⟨R.defers,R.size,cq,R.m0,R.x0,fun t=>?_,fun i ob hi=>?_,fun i i' ob ob' hi bA hl bp b j j' iB pj=>?_⟩,fun r v hv hr=>V1.ren E xf 5 r v hv hr⟩
 ·show V1 _ _ _ _ (lkp (qd (okB σ Kr Ko) st.s) t) _;rcases DC (okB σ Kr Ko) st.s t with ⟨h1,h2⟩|h2
  ·rw [h2];exact stay 5 _ _ (R.slots t) h1
  ·rw [h2];exact .base _ _ (.any _)
 ·rcases uy hn hi with ⟨k,ob',rfl,hk,rfl⟩|⟨aq,je,bA,lO⟩
  ·exact ObOK.ren E xf (List.getElem?_eq_some_iff.1 hk).1 (fun b j hf _=>Iw b j hf) (dA k ob' hk) (hO k ob' hk)
  ·exact (R.objs i ob bA).keep (fun _=>oz je aq) (fun hl=>ca i ob je bA hl) hB.size dO fun cs bM c hc u hx=>stay 5 c u hx (List.all_eq_true.1 (lO cs bM) c hc)
 ·have mixed:∀ {k i:Nat} {ob ob':Ob} {b j j':Nat},h'[k]? = some (some ob)→cp ob=true→q.O k b j→i∉σ→st.h[i]? = some (some ob')→cp ob'=true→p.O i b j'→False:=fun {k i ob ob' b j j'} hk hl zQ je hi bp iB=>by
   rcases ((hO k ob hk).own hl b j zQ).1 with hf|⟨i2,ob2,hs,bV,hQ,kH⟩
   ·have:=((R.objs i ob' hi).own bp b j' iB).2;exact absurd hf (by show ¬w.heap.size≤b;omega)
   ·exact je (by rw [R.inj i i2 ob' ob2 hi bV bp hQ b j' j iB kH];exact hs)
  have pO:∀ {i b j:Nat},i∉σ→i < st.h.length→(jd σ st.h.length p q).O i b j→p.O i b j:=fun {i b j} je aq iB=>by
   unfold Pl.O at iB ⊢;rwa [(oz je aq).1,(oz je aq).2] at iB
  rcases uy hn hi with ⟨k,o1,rfl,hk,rfl⟩|⟨aq,je,h1,_⟩<;>rcases uy hn bA with ⟨k',o2,rfl,dP,rfl⟩|⟨g_,rp,h2,_⟩
  ·rw [rn] at hl bp;rw [hI k k' o1 o2 hk dP hl bp b j j' ((ou E (List.getElem?_eq_some_iff.1 hk).1).1 iB) ((ou E (List.getElem?_eq_some_iff.1 dP).1).1 pj)]
  ·rw [rn] at hl;exact (mixed hk hl ((ou E (List.getElem?_eq_some_iff.1 hk).1).1 iB) rp h2 bp (pO rp g_ pj)).elim
  ·rw [rn] at bp;exact (mixed dP bp ((ou E (List.getElem?_eq_some_iff.1 dP).1).1 pj) je h1 hl (pO je aq iB)).elim
  ·exact R.inj i i' ob ob' h1 h2 hl bp b j j' (pO je aq iB) (pO rp g_ pj)
end
section
variable (P:Program)
def VH (f:FuncId) (h:Hp) (args:List AV) (ks:List Nat) (h':Hp) (r:AV) : Prop:=
 lP P f=true∧∀ (w:World) (M X:Nat→Nat→Prop) (p:Pl) (vs:List Value),MOK w M→MOK w X→(∀ b j,M b j→¬X b j)→vs.length=args.length →
  (∀ (i:Nat) (a:AV) (v:Value),args[i]? = some a→vs[i]? = some v→V1 w (Mof M h p) h p a v)→(∀ (k:Nat) (ob:Ob),h[k]? = some (some ob)→ObOK ⟨w,X⟩ w (Mof M h p) h p k ob)→xe h p →
  Calls P f vs.toArray w fun e w'=>∃ v q,e = .returned v∧Bel ⟨w,X⟩ w'∧V1 w' (Mof M h' q) h' q r v∧(∀ (k:Nat) (ob:Ob),h'[k]? = some (some ob)→ObOK ⟨w,X⟩ w' (Mof M h' q) h' q k ob)∧xe h' q ∧
   ∀ (i:Nat) (a:AV) (v:Value),i∈ks→args[i]? = some a→vs[i]? = some v→V1 w' (Mof M h' q) h' q a v
def qe (st:VS) : List ResultVar→Option (List AV)
 | []=>some []
 | .tmp t::rs=>match qe st rs with|some vs=>some (lkp st.s t::vs)|none=>none
 | .cell x t::rs=>match mi P st.h t (lkp st.s x),qe st rs with|some v,some vs=>some (v::vs)|_,_=>none
def xg (s:List (Nat×AV)) (n:Nat) (args:List AV) : List Nat→Prop
 | []=>True
 | i::r=>Nat.blt i args.length=true∧lkp s i=args.getD i .any∧bn n 5 (args.getD i .any)=true∧xg s n args r
def xh (rs:List ResultVar) (h':Hp) (r:AV) (args:List AV) (ks:List Nat) (st:VS) : Prop:=
 h'.length≤st.h.length∧leH st.h h'.length 0 h'∧(qe P st rs).map rq=some r∧bn h'.length 5 r=true∧xg st.s h'.length args ks
def DE (rs:List ResultVar) (h':Hp) (r:AV) (args:List AV) (ks:List Nat) : Exit→VS→Prop
 | .ret,st=>xh P rs h' r args ks st
 | .normal,st=>xh P rs h' r args ks st
 | _,_=>False
end
section
variable {P:Program} {M0:Nat→Nat→Prop} {w0:Bas} {N:Nm} {p:Pl} {st:VS} {a:Act} {w w':World}
theorem DF {s:List (Nat×AV)} {n:Nat} {args:List AV} : ∀ {ks:List Nat},xg s n args ks→∀ i∈ks,i < args.length∧lkp s i=args.getD i .any∧bn n 5 (args.getD i .any)=true
 | [],_,i,hi=>by cases hi
 | k::r,h,i,hi=>by
  rcases List.mem_cons.1 hi with rfl|hi
  ·exact ⟨by simpa using h.1,h.2.1,h.2.2.1⟩
  ·exact DF h.2.2.2 i hi
theorem zR (R:Rel M0 w0 N p st a w) : ∀ (rs:List ResultVar) (vs:List AV),qe P st rs=some vs →
  ∃ us:List Value,(rs.mapM fun | .tmp t=>pure (a.tmps.getD t undef) | .cell x t=>do loadVar t (←asAddr (a.tmps.getD x undef)) : Sem (List Value)).run P w = .ok us w∧us.length=vs.length∧∀ (i:Nat) (c:AV) (u:Value),vs[i]? = some c→us[i]? = some u→V1 w (Mof M0 st.h p) st.h p c u
 | [],vs,h=>by
  simp only [qe,Option.some.injEq] at h;subst h;exact ⟨[],by simp,rfl,by simp⟩
 | .tmp t::rs,vs,h=>by
  simp only [qe] at h;split at h
  ·rename_i vs' gI;simp only [Option.some.injEq] at h;subst h;obtain ⟨us,aC,hl,hv⟩:=zR R rs vs' gI;refine ⟨a.tmps.getD t undef::us,by simp only [List.mapM_cons,Sem.run_bind,Sem.run_pure,Result.andThen_ok,aC],by simp [hl],fun i c u hc hu=>?_⟩;cases i with
   | zero=>simp at hc hu;subst hc;subst hu;simpa using R.slots t
   | succ i=>exact hv i c u (by simpa using hc) (by simpa using hu)
  ·cases h
 | .cell x t::rs,vs,h=>by
  simp only [qe] at h;split at h
  ·rename_i v vs' bE gI;simp only [Option.some.injEq] at h;subst h;obtain ⟨us,aC,hl,hv⟩:=zR R rs vs' gI;obtain ⟨u,hu,kI⟩:=zS (P:=P) R.objs (R.slots x) bE;have rr:∃ ad,a.tmps.getD x undef = .pointer (some ad):=by
    unfold mi at bE;split at bE
    ·cases bE
    ·split at bE
     ·cases bE
     ·rename_i cs bM;obtain ⟨b,o,hq,_⟩:=zT R.objs (R.slots x) bM;exact ⟨_,hq⟩
   obtain ⟨ad,uA⟩:=rr;rw [uA] at hu;simp only [Instr.loadAt,Instr.sureAddr,Sem.run_bind,Sem.run_pure,Result.andThen_ok] at hu;have e1:(asAddr (a.tmps.getD x undef)).run P w = .ok ad w:=by rw [uA];rfl
   refine ⟨u::us,by simp only [List.mapM_cons,Sem.run_bind,Sem.run_pure,Result.andThen_ok,e1,hu,aC],by simp [hl],fun i c y hc hy=>?_⟩;cases i with
   | zero=>simp at hc hy;subst hc;subst hy;exact kI
   | succ i=>exact hv i c y (by simpa using hc) (by simpa using hy)
  ·cases h
theorem dk {f:FuncId} {fn:Func} {c:Code} {h:Hp} {args:List AV} {ks:List Nat} {h':Hp} {r:AV} (hf:P.funcs[f]? = some fn) (hb:fn.body=some c) (hg:lP P f=true) (hn:Nat.ble args.length fn.ntmps=true)
  (hN:∀ vs,fk ⟨fn.ntmps,args.length,vs⟩ c=true) (hw:∀ M0 w0 vs,VWp P M0 w0 ⟨fn.ntmps,args.length,vs⟩ c (DE P fn.results.toList h' r args ks) ⟨aB 0 args,h⟩) : VH P f h args ks h' r:=by
 refine ⟨hg,fun w M X p vs hM hX hd hl hv hO hI=>?_⟩;refine calls_of_wp hf hb ?_;have mj:∀ i,i < vs.length→(vs.toArray++Array.replicate (fn.ntmps - vs.toArray.size) undef).getD i undef=vs.getD i undef:=fun i hi=>by
  rw [Array.getD_eq_getD_getElem?,Array.getElem?_append_left (by simpa using hi)];simp [hi]
 have R0:Rel M ⟨w,X⟩ ⟨fn.ntmps,args.length,fun i=>vs.getD i undef⟩ p ⟨aB 0 args,h⟩ { tmps:=vs.toArray++Array.replicate (fn.ntmps - vs.toArray.size) undef,defers:=[] } w:=by
  refine ⟨rfl,⟨by have:=Nat.le_of_ble_eq_true hn;simp;omega,fun i hi=>mj i (by rw [hl];exact hi)⟩,Bel.start ⟨w,X⟩,hM,⟨hX,hd⟩,fun i=>?_,hO,fun id gR ob ob' h1 h2 l1 l2 b j j'=>hI id gR ob ob' h1 h2 l1 l2 b j j'⟩;refine zU args 0 (fun i=>(vs.toArray++Array.replicate (fn.ntmps - vs.toArray.size) undef).getD i undef) (fun i c hc=>?_) i;have hi:i < vs.length:=by rw [hl];exact (List.getElem?_eq_some_iff.1 hc).1
  rw [Nat.zero_add,mj i hi];exact hv i c _ hc (by simp [List.getD,hi])
 refine wp_mono (hw M ⟨w,X⟩ (fun i=>vs.getD i undef) (hN _) p _ w R0) ?_;have key:∀ (aK:VS) (p':Pl) (a':Act) (w':World),Rel M ⟨w,X⟩ ⟨fn.ntmps,args.length,fun i=>vs.getD i undef⟩ p' aK a' w'→xh P fn.results.toList h' r args ks aK→a'.defers=[]∧∃ v,(results fn a'.tmps).run P w' = .ok v w'∧∃ v' q,Ending.returned v = .returned v'∧Bel ⟨w,X⟩ w'∧V1 w' (Mof M h' q) h' q r v' ∧
   (∀ (k:Nat) (ob:Ob),h'[k]? = some (some ob)→ObOK ⟨w,X⟩ w' (Mof M h' q) h' q k ob)∧xe h' q∧∀ (i:Nat) (a:AV) (v:Value),i∈ks→args[i]? = some a→vs[i]? = some v→V1 w' (Mof M h' q) h' q a v:=by
  rintro aK p' a' w' R' ⟨e1,e2,e3,e4,e5⟩;obtain ⟨vs',gI,cf⟩:=Option.map_eq_some_iff.1 e3;obtain ⟨us,aC,ru,pk⟩:=zR (P:=P) R' _ _ gI;have mV:(fn.results.mapM fun | .tmp t=>pure (a'.tmps.getD t undef) | .cell x t=>do loadVar t (←asAddr (a'.tmps.getD x undef)) : Sem (Array Value)).run P w' = .ok us.toArray w':=by
   rw [←Array.toArray_toList (xs:=fn.results),List.mapM_toArray];simp only [Sem.run_map,aC,Result.andThen_ok]
  have hres:(results fn a'.tmps).run P w' = .ok (if h:us.toArray.size=1 then us.toArray[0] else .tuple us.toArray) w':=by
   unfold results;rw [Sem.run_bind];exact (congrArg (fun r=>Result.andThen r _) mV).trans rfl
  have R2:Rel M ⟨w,X⟩ ⟨fn.ntmps,args.length,fun i=>vs.getD i undef⟩ p' ⟨[],h'⟩ a' w':=R'.le ⟨trivial,e1,e2⟩;have hh:∀ (id:Nat) (ob:Ob),h'[id]? = some (some ob)→aK.h[id]? = some (some ob):=fun id ob hi=>by
   have:=(xi h' 0 id ob e2 hi).1;rwa [Nat.zero_add] at this
  have DG:∀ b j,¬Mof M aK.h p' b j→¬Mof M h' p' b j:=fun b j hn hm=>hn (by
   rcases hm with hm|⟨id,ob,hi,hl,hp⟩
   ·exact .inl hm
   ·exact .inr ⟨id,ob,hh id ob hi,hl,hp⟩)
  refine ⟨R'.defers,_,hres,_,p',rfl,R'.below,?_,R2.objs,fun id gR ob ob' h1 h2 l1 l2 b j j'=>R2.inj id gR ob ob' h1 h2 l1 l2 b j j',fun i x v hi hx Iy=>?_⟩
  ·refine V1.trunc DG hh 5 _ _ ?_ e4;subst cf;by_cases h1:us.length=1
   ·obtain ⟨u,rfl⟩ : ∃ u,us=[u]:=List.length_eq_one_iff.1 h1;obtain ⟨c,rfl⟩ : ∃ c,vs'=[c]:=List.length_eq_one_iff.1 (by rw [←ru];rfl);exact pk 0 c u rfl rfl
   ·have h2:rq vs' = .tup vs':=by
     cases vs' with
     | nil=>rfl
     | cons x y=>cases y with
      | nil=>simp at ru;omega
      | cons=>rfl
    rw [h2,dif_neg (by simpa using h1)];exact .tup _ _ ru pk
  ·obtain ⟨k1,k2,k3⟩:=DF e5 i hi;have DH:args.getD i .any=x:=by simp [List.getD,hx]
   have hs:=R'.slots i;rw [k2,DH,R'.size.fix i k1] at hs;have zV:vs.getD i undef=v:=by simp [List.getD,Iy]
   rw [DH] at k3;have:=V1.trunc DG hh 5 _ _ hs k3;rwa [show (⟨fn.ntmps,args.length,fun i=>vs.getD i undef⟩ : Nm).vs i=v from zV] at this
 rintro e a' w' ⟨aK,p',R',hq⟩;cases e with
 | normal=>exact key aK p' a' w' R' hq
 | ret=>exact key aK p' a' w' R' hq
 | _=>exact hq.elim
def s4 (k:Nat) : AV→Bool
 | .ref i _=>i == k
 | .mp i=>i == k
 | .fn _ _ b=>b.any fun x=>match x with | .ref i _=>i == k|_=>false
 | _=>false
def xj (k:Nat) : AV→Bool
 | .osl i=>i == k
 | _=>false
def zW:Option (Option Ob)→Bool
 | some (some (.arr _ _ nl _))=>!nl
 | some (some (.bag _ _ nl _ _))=>!nl
 | _=>false
def zX (σ:List Nat) (h:Hp) (args:List AV) (ks Kr Ko:List Nat) : Bool:=
 (Kr.all fun i=>match jy σ i 0 with|some k=>ks.any fun m=>s4 k (args.getD m .any)|none=>true) &&
 (Ko.all fun i=>match jy σ i 0 with|some k=>zW h[k]?&&ks.any fun m=>xj k (args.getD m .any)|none=>true)
theorem Osl.uniq {g:Nat} {e:TypeId} {sz:Nat} {nl:Bool} {n:Nat} {v v':Value} (aJ:nl=false) (hz:0 < sz) (h:Osl w g e sz nl n v) (h':Osl w g e sz nl n v') : v=v':=by
 unfold Osl at h h';split at h
 ·rename_i hn;rw [aJ] at hn;cases hn
 ·rename_i hn;rw [if_neg hn] at h';obtain ⟨c,cur,rfl,hg,hs,_⟩:=h;obtain ⟨c',cur',rfl,fA,jQ,_⟩:=h';rw [hg] at fA;injection fA with fA
  injection fA with fA
  subst fA;have:c=c':=Nat.eq_of_mul_eq_mul_right hz (hs.symm.trans jQ);rw [this]
theorem Iz {k:Nat} {x:AV} {v:Value} {h h2:Hp} {q q2:Pl} {w w2:World} {M M2:Nat→Nat→Prop} (ht:s4 k x=true) (h1:V1 w M h q x v) (h2:V1 w2 M2 h2 q2 x v) : q2 k=q k:=by
 cases x with
 | ref i off=>
  have:i=k:=by simpa [s4] using ht
  subst this;have e1:=h1.ref_inv.1;rw [h2.ref_inv.1] at e1;simpa using e1
 | mp i=>
  have:i=k:=by simpa [s4] using ht
  subst this;have e1:=h1.mp_inv.1;rw [h2.mp_inv.1] at e1;simpa using e1
 | fn f a b=>
  obtain ⟨c,hc,cJ⟩:=List.any_eq_true.1 ht;obtain ⟨m,hm⟩:=List.mem_iff_getElem?.1 hc;obtain ⟨us,vs,rfl,_,hl,_,hh⟩:=V1.fn_inv h1;obtain ⟨P8,vs2,he,_,hQ,_,uB⟩:=V1.fn_inv h2;have pn:m < b.length:=(List.getElem?_eq_some_iff.1 hm).1;injection he with _ _ he
  have he:vs=vs2:=by simpa using he
  subst he;have g1:=hh m c vs[m] hm (List.getElem?_eq_getElem (by omega));have g2:=uB m c vs[m] hm (List.getElem?_eq_getElem (by omega));cases c with
  | ref i off=>
   have:i=k:=by simpa using cJ
   subst this;have e1:=g1.ref_inv.1;rw [g2.ref_inv.1] at e1;simpa using e1
  | _=>cases cJ
 | _=>cases ht
theorem MOK.sub {M M':Nat→Nat→Prop} (h:MOK w M) (hs:∀ b j,M' b j→M b j) : MOK w M':=
 ⟨fun b j hm=>h.1 b j (hs b j hm),fun g vs hg=>⟨(h.2.1 g vs hg).1,fun j hm=>(h.2.1 g vs hg).2.1 j (hs g j hm),(h.2.1 g vs hg).2.2⟩,fun g hg=>⟨(h.2.2.1 g hg).1,fun j hm=>(h.2.2.1 g hg).2 j (hs g j hm)⟩,h.2.2.2⟩
end
end Go.Proofs.YtoibondihdhnoaaGreatDoor
