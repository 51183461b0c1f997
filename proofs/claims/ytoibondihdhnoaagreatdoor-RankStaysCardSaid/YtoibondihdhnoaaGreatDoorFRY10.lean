/- Texts in one: Calls that write to their caller's variables, rows and maps: of every program; no condition. -/
import Derived.Test.YtoibondihdhnoaaGreatDoorFRY5
namespace Go.Proofs.YtoibondihdhnoaaGreatDoor
open Go.RowKit
def jo (τ:Nat→Nat) : Nat→AV→AV
 | 0,_=>.any
 | n+1,.agg cs=>.agg (cs.map (jo τ n))
 | n+1,.tup cs=>.tup (cs.map (jo τ n))
 | n+1,.fn f a b=>.fn f (a.map (jo τ n)) (b.map (jo τ n))
 | n+1,.iface t v=>.iface t (jo τ n v)
 | _+1,.ref id off=>.ref (τ id) off
 | _+1,.aref id sz i off=>.aref (τ id) sz i off
 | _+1,.osl id=>.osl (τ id)
 | _+1,.mp id=>.mp (τ id)
 | _+1,.slw id k sz es=>.slw (τ id) k sz es
 | _+1,v=>v
def jK (τ:Nat→Nat) : Ob→Ob
 | .box cs=>.box (cs.map (jo τ 5))
 | o=>o
theorem ru (τ:Nat→Nat) (ob:Ob) : cn (jK τ ob)=cn ob:=by cases ob<;>rfl
theorem IE {τ:Nat→Nat} {ob:Ob} {e sz:Nat} {nl:Bool} {es:List (List AV)} (h:jK τ ob = .arr e sz nl es) : ob = .arr e sz nl es:=by cases ob<;>simp_all [jK]
theorem IF {τ:Nat→Nat} {ob:Ob} {e sz:Nat} {nl:Bool} {pe:Option Nat} {qs:List (List (List AV))} (h:jK τ ob = .bag e sz nl pe qs) : ob = .bag e sz nl pe qs:=by cases ob<;>simp_all [jK]
theorem DF {τ:Nat→Nat} {m:Nat} : ∀ {n:Nat} {c:AV},bc m n c=true→cQ (jo τ n c)=cQ c
 | 0,_,h=>by simp [bc] at h
 | n+1,c,_=>by cases c<;>rfl
structure Emb (h:Hp) (q:Pl) (H:Hp) (p:Pl) (τ:Nat→Nat) : Prop where
 len:∀ k,k < h.length→τ k < H.length
 at_:∀ k,k < h.length→H[τ k]? = (h[k]?).map (Option.map (jK τ))
 b:∀ k,k < h.length→p (τ k)=q k
 S:∀ k,k < h.length→p.S (τ k)=q.S k
section
variable {h H:Hp} {q p:Pl} {τ:Nat→Nat} {w:World} {M M':Nat→Nat→Prop}
theorem oZ (E:Emb h q H p τ) {k:Nat} {ob:Ob} (hk:h[k]? = some (some ob)) : H[τ k]? = some (some (jK τ ob)):=by
 rw [E.at_ k (List.getElem?_eq_some_iff.1 hk).1,hk];rfl
theorem DG (E:Emb h q H p τ) {k:Nat} {ob:Ob} (hl:k < h.length) (hk:H[τ k]? = some (some ob)) : ∃ ob',h[k]? = some (some ob')∧ob=jK τ ob':=by
 rw [E.at_ k hl] at hk;cases hx:h[k]? with
 | none=>rw [hx] at hk;cases hk
 | some x=>
  rw [hx] at hk;cases x with
  | none=>simp at hk
  | some ob'=>simp at hk;exact ⟨ob',rfl,hk.symm⟩
theorem IG (E:Emb h q H p τ) {k e sz:Nat} {nl:Bool} {es:List (List AV)} (hl:k < h.length) (hk:H[τ k]? = some (some (.arr e sz nl es))) : h[k]? = some (some (.arr e sz nl es)):=by
 obtain ⟨ob,h1,h2⟩:=DG E hl hk;rw [h1,IE h2.symm]
theorem DH (E:Emb h q H p τ) {k e sz:Nat} {nl:Bool} {pe:Option Nat} {qs:List (List (List AV))} (hl:k < h.length) (hk:H[τ k]? = some (some (.bag e sz nl pe qs))) : h[k]? = some (some (.bag e sz nl pe qs)):=by
 obtain ⟨ob,h1,h2⟩:=DG E hl hk;rw [h1,IF h2.symm]
theorem oh (E:Emb h q H p τ) {k b j:Nat} (hl:k < h.length) : p.O (τ k) b j↔q.O k b j:=by
 unfold Pl.O;rw [E.b k hl,E.S k hl]
theorem Ae {τ:Nat→Nat} {n:Nat} {m:Nat} {cs:List AV} (hb:cs.all (bc m n)=true) (h1:∀ c∈cs,cQ c=true) : ∀ c∈cs.map (jo τ n),cQ c=true:=fun c hc=>by
 obtain ⟨x,hx,rfl⟩:=List.mem_map.1 hc;rw [DF (List.all_eq_true.1 hb x hx)];exact h1 x hx
theorem DI {τ:Nat→Nat} {n:Nat} {m:Nat} {cs:List AV} (hb:cs.all (bc m n)=true) (h1:∀ c∈cs.map (jo τ n),cQ c=true) : ∀ c∈cs,cQ c=true:=fun c hc=>by
 have:=h1 _ (List.mem_map.2 ⟨c,hc,rfl⟩);rwa [DF (List.all_eq_true.1 hb c hc)] at this
theorem Sp.ren (E:Emb h q H p τ) {id k sz:Nat} {v:Value} (hid:id < h.length) (hs:Sp w h q id k sz v) : Sp w H p (τ id) k sz v:=fun e bw pe qs he=>by
 obtain ⟨a1,a2,a3,a4⟩:=hs e bw pe qs (DH E hid he);unfold Spare at a2 ⊢;rw [E.b id hid,E.S id hid];exact ⟨a1,a2,a3,a4⟩
theorem Sp.back (E:Emb h q H p τ) {id k sz:Nat} {v:Value} (hid:id < h.length) (hs:Sp w H p (τ id) k sz v) : Sp w h q id k sz v:=fun e bw pe qs he=>by
 obtain ⟨a1,a2,a3,a4⟩:=hs e bw pe qs (oZ E he);unfold Spare at a2 ⊢;rw [E.b id hid,E.S id hid] at a2;rw [E.b id hid] at a3 a4;exact ⟨a1,a2,a3,a4⟩
theorem V1.ren (E:Emb h q H p τ) (hM:∀ b j,¬M b j→¬M' b j) : ∀ (n:Nat) (av:AV) (v:Value),V1 w M h q av v→bc h.length n av=true→V1 w M' H p (jo τ n av) v
 | 0,_,_,_,hb=>by simp [bc] at hb
 | n+1,av,v,hv,hb=>by
  have ih:=V1.ren E hM n;have eX:∀ {a:AV} {v:Value},V0 w M a v→V1 w M' H p a v:=fun hv=>.base _ _ (hv.keep (Keeps.refl _ _) fun b j _ hn=>hM b j hn);have aF:∀ {cs:List AV} {us:List Value},cs.all (bc h.length n)=true→(∀ (i:Nat) (c:AV) (u:Value),cs[i]? = some c→us[i]? = some u→V1 w M h q c u)→∀ (i:Nat) (c:AV) (u:Value),(cs.map (jo τ n))[i]? = some c→us[i]? = some u→V1 w M' H p c u:=fun hb hv i c u hc hu=>by
   obtain ⟨a,ha,rfl⟩:=ea hc;exact ih a u (hv i a u ha hu) (List.all_eq_true.1 hb a (List.mem_of_getElem? ha))
  cases hv with
  | base _ _ h0=>
   cases h0 with
   | any=>exact eX (.any v)
   | lit=>exact eX (.lit v)
   | slNil sz A cap=>exact eX (.slNil sz A cap)
   | sl sz es cap b o u a1 a2 a3 a4 a5 a6 a7 a8=>exact eX (.sl sz es cap b o u a1 a2 a3 a4 a5 a6 a7 a8)
   | vp cs b o u a1 a2 a3 a4 a5=>exact eX (.vp cs b o u a1 a2 a3 a4 a5)
   | agg cs us hl h1 hh=>
    simp only [bc] at hb;exact .agg _ _ (by simpa using hl) (Ae hb h1) (aF hb fun i c u h1 h2=>.base _ _ (hh i c u h1 h2))
   | tup cs us hl hh=>
    simp only [bc] at hb;exact .tup _ _ (by simpa using hl) (aF hb fun i c u h1 h2=>.base _ _ (hh i c u h1 h2))
   | fn f x y us vs hl bj hh fo=>
    simp only [bc,Bool.and_eq_true] at hb;exact .fn f _ _ _ _ (by simpa using hl) (by simpa using bj) (aF hb.1 fun i c u h1 h2=>.base _ _ (hh i c u h1 h2)) (aF hb.2 fun i c u h1 h2=>.base _ _ (fo i c u h1 h2))
   | iface t x u hh=>exact .iface _ _ _ (ih x u (.base _ _ hh) (by simpa [bc] using hb))
  | agg cs us hl h1 hh=>
   simp only [bc] at hb;exact .agg _ _ (by simpa using hl) (Ae hb h1) (aF hb hh)
  | tup cs us hl hh=>
   simp only [bc] at hb;exact .tup _ _ (by simpa using hl) (aF hb hh)
  | fn f x y us vs hl bj hh fo=>
   simp only [bc,Bool.and_eq_true] at hb;exact .fn f _ _ _ _ (by simpa using hl) (by simpa using bj) (aF hb.1 hh) (aF hb.2 fo)
  | iface t x u hh=>exact .iface _ _ _ (ih x u hh (by simpa [bc] using hb))
  | ref id off hid=>rw [←E.b id hid];exact .ref _ off (E.len id hid)
  | aref id sz i off hid=>rw [←E.b id hid];exact .aref _ sz i off (E.len id hid)
  | mp id hid=>rw [←E.b id hid];exact .mp _ (E.len id hid)
  | osl id A m c hid hv lJ=>exact .osl _ A m c (E.len id hid) (fun e sz nl es he=>by rw [E.b id hid];exact hv e sz nl es (IG E hid he)) fun e sz nl pe qs he=>by rw [E.b id hid];exact lJ e sz nl pe qs (DH E hid he)
  | slw id k sz es _ hid h0 hs=>exact .slw _ k sz es v (E.len id hid) (h0.keep (Keeps.refl _ _) fun b j _ hn=>hM b j hn) (hs.ren E hid)
theorem V1.fn_inv {f:Fn} {a b:List AV} {u:Value} (hv:V1 w M h p (.fn f a b) u) : ∃ us vs:List Value,u = .func f us.toArray vs.toArray∧us.length=a.length∧vs.length=b.length∧(∀ (i:Nat) (c:AV) (u:Value),a[i]? = some c→us[i]? = some u→V1 w M h p c u)∧∀ (i:Nat) (c:AV) (u:Value),b[i]? = some c→vs[i]? = some u→V1 w M h p c u:=by
 cases hv with
 | base _ _ h0=>
  cases h0 with
  | fn _ _ _ us vs hl bj hh fo=>exact ⟨us,vs,rfl,hl,bj,fun i c u h1 h2=>.base _ _ (hh i c u h1 h2),fun i c u h1 h2=>.base _ _ (fo i c u h1 h2)⟩
 | fn _ _ _ us vs hl bj hh fo=>exact ⟨us,vs,rfl,hl,bj,hh,fo⟩
theorem V1.iface_invV {t:TypeId} {a:AV} {u:Value} (hv:V1 w M h p (.iface t a) u) : ∃ v,u = .iface t v∧V1 w M h p a v:=by
 cases hv with
 | base _ _ h0=>
  cases h0 with
  | iface _ _ v hh=>exact ⟨v,rfl,.base _ _ hh⟩
 | iface _ _ v hh=>exact ⟨v,rfl,hh⟩
theorem V1.back (E:Emb h q H p τ) (hM:∀ b j,¬M' b j→¬M b j) : ∀ (n:Nat) (av:AV) (v:Value),V1 w M' H p (jo τ n av) v→bc h.length n av=true→V1 w M h q av v
 | 0,_,_,_,hb=>by simp [bc] at hb
 | n+1,av,v,hv,hb=>by
  have ih:=V1.back E hM n;have eX:∀ {a:AV} {v:Value},V0 w M' a v→V1 w M h q a v:=fun hv=>.base _ _ (hv.keep (Keeps.refl _ _) fun b j _ hn=>hM b j hn);have aF:∀ {cs:List AV} {us:List Value},cs.all (bc h.length n)=true→(∀ (i:Nat) (c:AV) (u:Value),(cs.map (jo τ n))[i]? = some c→us[i]? = some u→V1 w M' H p c u)→∀ (i:Nat) (c:AV) (u:Value),cs[i]? = some c→us[i]? = some u→V1 w M h q c u:=fun {cs us} hb hv i c u hc hu=>
   ih c u (hv i _ u (by rw [List.getElem?_map,hc];rfl) hu) (List.all_eq_true.1 hb c (List.mem_of_getElem? hc))
  cases av with
  | any=>exact .base _ _ (.any v)
  | lit u=>obtain rfl:=V1.lit_inv hv;exact .base _ _ (.lit _)
  | sl sz es=>exact eX (V1.sl_inv hv)
  | vp cs=>exact eX (V1.vp_inv hv).1
  | agg cs=>
   simp only [bc] at hb;obtain ⟨us,rfl,hl,h1,hh⟩:=V1.agg_inv hv;exact .agg _ _ (by simpa using hl) (DI hb h1) (aF hb hh)
  | tup cs=>
   simp only [bc] at hb;obtain ⟨us,rfl,hl,hh⟩:=V1.tup_inv hv;exact .tup _ _ (by simpa using hl) (aF hb hh)
  | fn f a b=>
   simp only [bc,Bool.and_eq_true] at hb;obtain ⟨us,vs,rfl,hl,bj,hh,fo⟩:=V1.fn_inv hv;exact .fn f _ _ _ _ (by simpa using hl) (by simpa using bj) (aF hb.1 hh) (aF hb.2 fo)
  | iface t x=>
   obtain ⟨u,rfl,hh⟩:=V1.iface_invV hv;exact .iface _ _ _ (ih x u hh (by simpa [bc] using hb))
  | ref id off=>
   have hid:id < h.length:=by simpa [bc] using hb
   rw [(V1.ref_inv hv).1,E.b id hid];exact .ref _ _ hid
  | aref id sz i off=>
   have hid:id < h.length:=by simpa [bc] using hb
   rw [(V1.aref_inv hv).1,E.b id hid];exact .aref _ _ _ _ hid
  | mp id=>
   have hid:id < h.length:=by simpa [bc] using hb
   rw [(V1.mp_inv hv).1,E.b id hid];exact .mp _ hid
  | osl id=>
   have hid:id < h.length:=by simpa [bc] using hb
   obtain ⟨A,m,c,rfl,_,h1⟩:=V1.osl_inv hv;obtain ⟨_,_,_,_,_,h2⟩:=V1.bag_inv hv;refine .osl _ A m c hid (fun e sz nl es he=>?_) fun e sz nl pe qs he=>?_
   ·rw [←E.b id hid];exact h1 e sz nl es (oZ E he)
   ·rw [←E.b id hid];exact h2 e sz nl pe qs (oZ E he)
  | slw id k sz es=>
   have hid:id < h.length:=by simpa [bc] using hb
   obtain ⟨_,h0,hs⟩:=V1.slw_inv hv;exact .slw _ _ _ _ _ hid (h0.keep (Keeps.refl _ _) fun b j _ hn=>hM b j hn) (hs.back E hid)
theorem ObOK.ren {w0 w0':Bas} (E:Emb h q H p τ) (hM:∀ b j,¬M b j→¬M' b j) {k:Nat} {ob:Ob} (hk:k < h.length) (hF:∀ b j,Fr w0 b j→b < w.heap.size→Fr w0' b j) (dt:oi h.length ob=true) (ho:ObOK w0 w M h q k ob) : ObOK w0' w M' H p (τ k) (jK τ ob):=by
 have cz:q k < w.heap.size→Own w0 q k→Own w0' p (τ k):=fun aq h1=>by
  unfold Own;rw [E.b k hk,E.S k hk];exact ⟨fun j=>hF _ _ (h1.1 j) aq,h1.2⟩
 have dE:∀ {a:AV} {v:Value},V0 w M a v→V0 w M' a v:=fun hv=>hv.keep (Keeps.refl _ _) fun b j _ hn=>hM b j hn;cases ob with
 | mpo kf iv=>
  obtain ⟨h1,h2,es,clock,hg,h3⟩:=ho;exact ⟨cz (Array.getElem?_eq_some_iff.1 hg).1 h1,h2,es,clock,by rw [E.b k hk];exact hg,h3⟩
 | box cs=>
  obtain ⟨h1,cur,e,hg,h2,h3,h4⟩:=ho;refine ⟨cz (Array.getElem?_eq_some_iff.1 hg).1 h1,cur,e,by rw [E.b k hk];exact hg,by simpa using h2,Ae dt h3,fun j c hj=>?_⟩;obtain ⟨x,hx,rfl⟩:=ea hj;obtain ⟨u,hu,hv⟩:=h4 j x hx;exact ⟨u,hu,V1.ren E hM 5 _ _ hv (List.all_eq_true.1 dt x (List.mem_of_getElem? hx))⟩
 | arr e sz nl es=>
  obtain ⟨h1,h2,hr⟩:=ho;refine ⟨h1,h2,?_⟩;split at hr
  ·rename_i hn;rw [if_pos hn];exact hr
  ·rename_i hn;rw [if_neg hn];obtain ⟨h3,cur,hg,h4,h5⟩:=hr;exact ⟨cz (Array.getElem?_eq_some_iff.1 hg).1 h3,cur,by rw [E.b k hk];exact hg,h4,fun i x j c hi hj=>let ⟨u,hu,hv⟩:=h5 i x j c hi hj;⟨u,hu,dE hv⟩⟩
 | bag e sz nl ak qs=>
  obtain ⟨h1,hr⟩:=ho;refine ⟨h1,?_⟩;split at hr
  ·rename_i hn;rw [if_pos hn];exact hr
  ·rename_i hn;rw [if_neg hn];obtain ⟨g1,g2,cur,hg,g3,g4,g5⟩:=hr;refine ⟨fun b j hO=>?_,fun j=>by rw [E.S k hk,E.b k hk];exact g2 j,cur,by rw [E.b k hk];exact hg,g3,fun i x hi=>?_,g5⟩
   ·obtain ⟨f1,f2⟩:=g1 b j ((oh E hk).1 hO);exact ⟨hF b j f1 f2,f2⟩
   ·obtain ⟨v,hv,cR,hs⟩:=g4 i x hi;refine ⟨v,hv,dE cR,fun hp=>?_⟩;have:=hs hp;unfold Spare at this ⊢;rw [E.b k hk,E.S k hk];exact this
theorem ObOK.back {w0 w0':Bas} (E:Emb h q H p τ) (hM:∀ b j,¬M' b j→¬M b j) {k:Nat} {ob:Ob} (hk:k < h.length) (hF:cn ob=true→∀ b j,q.O k b j→Fr w0 b j) (dt:oi h.length ob=true) (ho:ObOK w0' w M' H p (τ k) (jK τ ob)) : ObOK w0 w M h q k ob:=by
 have cz:cn ob=true→Own w0' p (τ k)→Own w0 q k:=fun hl h1=>by
  unfold Own at h1;rw [E.b k hk,E.S k hk] at h1;exact ⟨fun j=>hF hl _ _ (.inl rfl),h1.2⟩
 have dE:∀ {a:AV} {v:Value},V0 w M' a v→V0 w M a v:=fun hv=>hv.keep (Keeps.refl _ _) fun b j _ hn=>hM b j hn;cases ob with
 | mpo kf iv=>
  obtain ⟨h1,h2,es,clock,hg,h3⟩:=ho;rw [E.b k hk] at hg;exact ⟨cz rfl h1,h2,es,clock,hg,h3⟩
 | box cs=>
  obtain ⟨h1,cur,e,hg,h2,h3,h4⟩:=ho;rw [E.b k hk] at hg;refine ⟨cz rfl h1,cur,e,hg,by simpa using h2,DI dt h3,fun j c hj=>?_⟩;obtain ⟨u,hu,hv⟩:=h4 j (jo τ 5 c) (by rw [List.getElem?_map,hj];rfl);exact ⟨u,hu,V1.back E hM 5 _ _ hv (List.all_eq_true.1 dt c (List.mem_of_getElem? hj))⟩
 | arr e sz nl es=>
  obtain ⟨h1,h2,hr⟩:=ho;refine ⟨h1,h2,?_⟩;split at hr
  ·rename_i hn;rw [if_pos hn];exact hr
  ·rename_i hn;rw [if_neg hn];obtain ⟨h3,cur,hg,h4,h5⟩:=hr;rw [E.b k hk] at hg;exact ⟨cz (by cases nl;rfl;exact absurd rfl hn) h3,cur,hg,h4,fun i x j c hi hj=>let ⟨u,hu,hv⟩:=h5 i x j c hi hj;⟨u,hu,dE hv⟩⟩
 | bag e sz nl ak qs=>
  obtain ⟨h1,hr⟩:=ho;refine ⟨h1,?_⟩;split at hr
  ·rename_i hn;rw [if_pos hn];exact hr
  ·rename_i hn;rw [if_neg hn];obtain ⟨g1,g2,cur,hg,g3,g4,g5⟩:=hr;rw [E.b k hk] at hg;refine ⟨fun b j hO=>⟨hF (by cases nl;rfl;exact absurd rfl hn) b j hO,(g1 b j ((oh E hk).2 hO)).2⟩,fun j=>by have:=g2 j;rwa [E.S k hk,E.b k hk] at this,cur,hg,g3,fun i x hi=>?_,g5⟩;obtain ⟨v,hv,cR,hs⟩:=g4 i x hi;refine ⟨v,hv,dE cR,fun hp=>?_⟩;have:=hs hp;unfold Spare at this ⊢;rw [E.b k hk,E.S k hk] at this;exact this
end
def okA (r o s:Nat→Bool) : Nat→AV→Bool
 | 0,_=>false
 | n+1,.agg cs=>cs.all (okA r o s n)
 | n+1,.tup cs=>cs.all (okA r o s n)
 | n+1,.fn _ a b=>a.all (okA r o s n)&&b.all (okA r o s n)
 | n+1,.iface _ v=>okA r o s n v
 | _+1,.ref i _=>r i
 | _+1,.aref i _ _ _=>r i
 | _+1,.mp i=>r i
 | _+1,.osl i=>o i
 | _+1,.slw i _ _ _=>s i
 | _+1,_=>true
section
variable {w w':World} {M M':Nat→Nat→Prop} {h h':Hp} {p p':Pl} {r o s:Nat→Bool}
theorem V1.stay (dE:∀ {a:AV} {v:Value},V0 w M a v→V0 w' M' a v) (hl:h.length≤h'.length) (hr:∀ i,r i=true→i < h.length→p' i=p i)
  (ho:∀ i v,o i=true→i < h.length→V1 w M h p (.osl i) v→V1 w' M' h' p' (.osl i) v) (hs:∀ i k sz v,s i=true→i < h.length→Sp w h p i k sz v→Sp w' h' p' i k sz v) :
  ∀ (n:Nat) (av:AV) (v:Value),V1 w M h p av v→okA r o s n av=true→V1 w' M' h' p' av v
 | 0,_,_,_,hb=>by simp [okA] at hb
 | n+1,av,v,hv,hb=>by
  have ih:=V1.stay dE hl hr ho hs n;have aF:∀ {cs:List AV} {us:List Value},cs.all (okA r o s n)=true→(∀ (i:Nat) (c:AV) (u:Value),cs[i]? = some c→us[i]? = some u→V1 w M h p c u)→∀ (i:Nat) (c:AV) (u:Value),cs[i]? = some c→us[i]? = some u→V1 w' M' h' p' c u:=fun hb hv i c u hc hu=>
   ih c u (hv i c u hc hu) (List.all_eq_true.1 hb c (List.mem_of_getElem? hc))
  have Af:=hv;cases hv with
  | base _ _ h0=>exact .base _ _ (dE h0)
  | agg cs us hl h1 hh=>
   simp only [okA] at hb;exact .agg _ _ hl h1 (aF hb hh)
  | tup cs us hl hh=>
   simp only [okA] at hb;exact .tup _ _ hl (aF hb hh)
  | fn f x y us vs hl bj hh fo=>
   simp only [okA,Bool.and_eq_true] at hb;exact .fn f _ _ _ _ hl bj (aF hb.1 hh) (aF hb.2 fo)
  | iface t x u hh=>exact .iface _ _ _ (ih x u hh (by simpa [okA] using hb))
  | ref i off hid=>rw [←hr i (by simpa [okA] using hb) hid];exact .ref _ off (Nat.lt_of_lt_of_le hid hl)
  | aref i sz k off hid=>rw [←hr i (by simpa [okA] using hb) hid];exact .aref _ sz k off (Nat.lt_of_lt_of_le hid hl)
  | mp i hid=>rw [←hr i (by simpa [okA] using hb) hid];exact .mp _ (Nat.lt_of_lt_of_le hid hl)
  | osl i A m c hid hv lJ=>exact ho i _ (by simpa [okA] using hb) hid Af
  | slw i k sz es _ hid h0 fY=>exact .slw _ k sz es v (Nat.lt_of_lt_of_le hid hl) (dE h0) (hs i k sz v (by simpa [okA] using hb) hid fY)
end
def tau (σ:List Nat) (L k:Nat) : Nat:=match σ[k]? with|some i=>i|none=>L+(k - σ.length)
def jq:List Nat→Nat→Nat→Option Nat
 | [],_,_=>none
 | s::r,i,k=>if s=i then some k else jq r i (k+1)
def uP (σ:List Nat) (L:Nat) (ok:AV→Bool) (h':Hp) (i:Nat) (o:Option Ob) : Option Ob:=
 match jq σ i 0 with
 | some k=>(match h'[k]? with|some (some ob)=>some (jK (tau σ L) ob)|_=>none)
 | none=>match o with
  | some (.box cs)=>if cs.all ok=true then some (.box cs) else none
  | o=>o
def mL (σ:List Nat) (L:Nat) (ok:AV→Bool) (h':Hp) : Nat→Hp→Hp
 | _,[]=>[]
 | i,o::r=>uP σ L ok h' i o::mL σ L ok h' (i+1) r
def mM (τ:Nat→Nat) : Hp→Hp
 | []=>[]
 | o::r=>o.map (jK τ)::mM τ r
theorem Ag (σ:List Nat) (L:Nat) (ok:AV→Bool) (h':Hp) : ∀ (h:Hp) (i k:Nat),(mL σ L ok h' i h)[k]? = (h[k]?).map (uP σ L ok h' (i+k))
 | [],i,k=>by simp [mL]
 | o::r,i,0=>by simp [mL]
 | o::r,i,k+1=>by
  have:=Ag σ L ok h' r (i+1) k;simp only [mL,List.getElem?_cons_succ];rw [this,show i+1+k=i+(k+1) by omega]
theorem o7 (σ:List Nat) (L:Nat) (ok:AV→Bool) (h':Hp) : ∀ (h:Hp) (i:Nat),(mL σ L ok h' i h).length=h.length
 | [],i=>rfl
 | o::r,i=>by simp [mL,o7 σ L ok h' r (i+1)]
theorem Ah (τ:Nat→Nat) : ∀ (h:Hp) (k:Nat),(mM τ h)[k]? = (h[k]?).map (Option.map (jK τ))
 | [],k=>by simp [mM]
 | o::r,0=>by simp [mM]
 | o::r,k+1=>by simp [mM,Ah τ r k]
theorem DJ (τ:Nat→Nat) : ∀ (h:Hp),(mM τ h).length=h.length
 | []=>rfl
 | o::r=>by simp [mM,DJ τ r]
theorem uQ:∀ {σ:List Nat} {i k j:Nat},jq σ i k=some j→k≤j∧σ[j - k]? = some i
 | [],i,k,j,h=>by simp [jq] at h
 | s::r,i,k,j,h=>by
  unfold jq at h;split at h
  ·rename_i he;simp only [Option.some.injEq] at h;subst h he;simp
  ·obtain ⟨h1,h2⟩:=uQ h;refine ⟨by omega,?_⟩;rw [show j - k=(j - (k+1))+1 by omega];simpa using h2
theorem Ai:∀ {σ:List Nat} {i k:Nat},jq σ i k=none→i∉σ
 | [],i,k,h=>by simp
 | s::r,i,k,h=>by
  unfold jq at h;split at h
  ·cases h
  ·rename_i ax;have:=Ai h;simp only [List.mem_cons,not_or];exact ⟨fun e=>ax e.symm,this⟩
theorem tv {σ:List Nat} (hn:σ.Nodup) {i k:Nat} (h:σ[k]? = some i) : jq σ i 0=some k:=by
 cases hx:jq σ i 0 with
 | none=>exact absurd (List.mem_of_getElem? h) (Ai hx)
 | some j=>
  have hj:=(uQ hx).2;rw [Nat.sub_zero] at hj;obtain ⟨a1,b1⟩:=List.getElem?_eq_some_iff.1 h;obtain ⟨a2,b2⟩:=List.getElem?_eq_some_iff.1 hj;rcases Nat.lt_trichotomy k j with hl|hl|hl
  ·exact absurd (b1.trans b2.symm) (List.pairwise_iff_getElem.1 hn k j a1 a2 hl)
  ·rw [hl]
  ·exact absurd (b2.trans b1.symm) (List.pairwise_iff_getElem.1 hn j k a2 a1 hl)
theorem IH {σ:List Nat} {L:Nat} (hn:σ.Nodup) (hL:∀ i∈σ,i < L) {k k':Nat} (h:tau σ L k=tau σ L k') : k=k':=by
 unfold tau at h;cases hi:σ[k]? with
 | some i=>
  cases hj:σ[k']? with
  | some j=>
   rw [hi,hj] at h;simp only at h;subst h;have h1:=tv hn hi;rw [tv hn hj] at h1;exact (Option.some.inj h1).symm
  | none=>
   rw [hi,hj] at h;simp only at h;have:=hL i (List.mem_of_getElem? hi);omega
 | none=>
  have:=List.getElem?_eq_none_iff.1 hi;cases hj:σ[k']? with
  | some j=>
   rw [hi,hj] at h;simp only at h;have:=hL j (List.mem_of_getElem? hj);omega
  | none=>
   have:=List.getElem?_eq_none_iff.1 hj;rw [hi,hj] at h;simp only at h;omega
def iW (σ:List Nat) (L:Nat) (p q:Pl) : Pl:=
 ⟨fun i=>match jq σ i 0 with|some k=>q k|none=>if i < L then p i else q (σ.length+(i - L)),
  fun i=>match jq σ i 0 with|some k=>q.S k|none=>if i < L then p.S i else q.S (σ.length+(i - L))⟩
theorem Aj {σ:List Nat} {L:Nat} {p q:Pl} (hn:σ.Nodup) (hL:∀ i∈σ,i < L) (k:Nat) : iW σ L p q (tau σ L k)=q k∧(iW σ L p q).S (tau σ L k)=q.S k:=by
 unfold tau;cases hk:σ[k]? with
 | some i=>simp [iW,tv hn hk]
 | none=>
  have h1:=List.getElem?_eq_none_iff.1 hk;have h2:jq σ (L+(k - σ.length)) 0=none:=by
   cases hx:jq σ (L+(k - σ.length)) 0 with
   | none=>rfl
   | some j=>
    have:=hL _ (List.mem_of_getElem? (uQ hx).2);omega
  have h3:σ.length+(L+(k - σ.length) - L)=k:=by omega
  simp only [iW,h2,if_neg (show ¬L+(k - σ.length) < L by omega),h3];exact ⟨trivial,trivial⟩
theorem om {σ:List Nat} {L:Nat} {p q:Pl} {i:Nat} (hi:i∉σ) (hl:i < L) : iW σ L p q i=p i∧(iW σ L p q).S i=p.S i:=by
 have h2:jq σ i 0=none:=by
  cases hx:jq σ i 0 with
  | none=>rfl
  | some j=>exact absurd (List.mem_of_getElem? (uQ hx).2) hi
 simp only [iW,h2,if_pos hl];exact ⟨trivial,trivial⟩
theorem II {σ:List Nat} {L:Nat} {p q:Pl} {ok:AV→Bool} {h h':Hp} (hn:σ.Nodup) (hL:∀ i∈σ,i < L) (hl:h.length=L) (hle:σ.length≤h'.length) :
  Emb h' q (mL σ L ok h' 0 h++mM (tau σ L) (h'.drop σ.length)) (iW σ L p q) (tau σ L):=by
 have hlen:(mL σ L ok h' 0 h++mM (tau σ L) (h'.drop σ.length)).length=L+(h'.length - σ.length):=by
  rw [List.length_append,o7,DJ,List.length_drop,hl]
 refine ⟨fun k hk=>?_,fun k hk=>?_,fun k _=>(Aj hn hL k).1,fun k _=>(Aj hn hL k).2⟩
 ·rw [hlen];unfold tau;split
  ·rename_i i hi;have:=hL i (List.mem_of_getElem? hi);omega
  ·rename_i hi;have:=List.getElem?_eq_none_iff.1 hi;omega
 ·cases hs:σ[k]? with
  | some i=>
   have hi:=hL i (List.mem_of_getElem? hs);have ht:tau σ L k=i:=by unfold tau;rw [hs]
   rw [ht,List.getElem?_append_left (by rw [o7,hl];exact hi),Ag,List.getElem?_eq_getElem (by rw [hl];exact hi)];simp only [Option.map_some,Nat.zero_add,uP,tv hn hs];rw [List.getElem?_eq_getElem hk];cases h'[k]<;>rfl
  | none=>
   have h1:=List.getElem?_eq_none_iff.1 hs;have ht:tau σ L k=L+(k - σ.length):=by unfold tau;rw [hs]
   rw [ht,List.getElem?_append_right (by rw [o7,hl];omega),o7,hl,Ah,List.getElem?_drop];congr 2;omega
def oth (M0:Nat→Nat→Prop) (σ:List Nat) (h:Hp) (p:Pl) (b j:Nat) : Prop:=M0 b j∨∃ i ob,i∉σ∧h[i]? = some (some ob)∧cn ob=true∧p.O i b j
def o8 (σ:List Nat) (h:Hp) (p:Pl) (b j:Nat) : Prop:=∃ i ob,i∈σ∧h[i]? = some (some ob)∧cn ob=true∧p.O i b j
def xg (h:Hp) (q:Pl) : Prop:=∀ (k k':Nat) (ob ob':Ob),h[k]? = some (some ob)→h[k']? = some (some ob')→cn ob=true→cn ob'=true→∀ b j j',q.O k b j→q.O k' b j'→k=k'
def okB (σ Kr Ko:List Nat) : AV→Bool:=okA (fun i=>!σ.contains i || Kr.contains i) (fun i=>!σ.contains i || Ko.contains i) (fun i=>!σ.contains i) 5
def qa (ok:AV→Bool) : List (Nat×AV)→List (Nat×AV)
 | []=>[]
 | (d,v)::r=>(d,if ok v=true then v else .any)::qa ok r
def kb (σ:List Nat) (L:Nat) (ok:AV→Bool) (h h':Hp) : Hp:=mL σ L ok h' 0 h++mM (tau σ L) (h'.drop σ.length)
theorem DK (ok:AV→Bool) : ∀ (s:List (Nat×AV)) (t:Nat),(ok (lkp s t)=true∧lkp (qa ok s) t=lkp s t)∨lkp (qa ok s) t = .any
 | [],t=>.inr rfl
 | (d,v)::r,t=>by
  simp only [qa,lkp];split
  ·split
   ·exact .inl ⟨by assumption,rfl⟩
   ·exact .inr rfl
  ·exact DK ok r t
theorem uR {σ:List Nat} {ok:AV→Bool} {h h':Hp} (_hn:σ.Nodup) {i:Nat} {ob:Ob} (hi:(kb σ h.length ok h h')[i]? = some (some ob)) :
  (∃ k ob',i=tau σ h.length k∧h'[k]? = some (some ob')∧ob=jK (tau σ h.length) ob')∨(i < h.length∧i∉σ∧h[i]? = some (some ob)∧∀ cs,ob = .box cs→cs.all ok=true):=by
 unfold kb at hi;by_cases hl:i < h.length
 ·rw [List.getElem?_append_left (by rw [o7];exact hl),Ag,List.getElem?_eq_getElem hl] at hi;simp only [Option.map_some,Option.some.injEq,Nat.zero_add,uP] at hi;split at hi
  ·rename_i k hk;have hs:=(uQ hk).2;rw [Nat.sub_zero] at hs;split at hi
   ·rename_i ob' iJ;simp only [Option.some.injEq] at hi;exact .inl ⟨k,ob',by unfold tau;rw [hs],iJ,hi.symm⟩
   ·cases hi
  ·rename_i hk;refine .inr ⟨hl,Ai hk,?_⟩;rw [List.getElem?_eq_getElem hl];split at hi
   ·rename_i cs bW;split at hi
    ·rename_i aF;simp only [Option.some.injEq] at hi;subst hi;exact ⟨by rw [bW],fun dI h=>by injection h with h;subst h;exact aF⟩
    ·cases hi
   ·rename_i fZ;exact ⟨by rw [hi],fun cs h=>absurd (by rw [hi,h]) (fZ cs)⟩
 ·rw [List.getElem?_append_right (by rw [o7];omega),o7,Ah,List.getElem?_drop] at hi;have aq:σ.length+(i - h.length) < h'.length:=by
   rcases Nat.lt_or_ge (σ.length+(i - h.length)) h'.length with h|h
   ·exact h
   ·rw [List.getElem?_eq_none h] at hi;cases hi
  rw [List.getElem?_eq_getElem aq] at hi;simp only [Option.map_some,Option.some.injEq] at hi;cases hx:h'[σ.length+(i - h.length)] with
  | none=>rw [hx] at hi;cases hi
  | some ob'=>
   rw [hx] at hi;simp only [Option.map_some,Option.some.injEq] at hi;refine .inl ⟨σ.length+(i - h.length),ob',?_,by rw [List.getElem?_eq_getElem aq,hx],hi.symm⟩;unfold tau;rw [List.getElem?_eq_none (by omega)];simp only;omega
section
variable {P:Program} {M0:Nat→Nat→Prop} {w0:Bas} {N:Nm} {p:Pl} {st:VS} {a:Act} {w w':World}
theorem IJ {σ:List Nat} {L k i:Nat} (h:tau σ L k=i) (hi:i < L) : σ[k]? = some i:=by
 unfold tau at h;cases hs:σ[k]? with
 | some x=>rw [hs] at h;simp only at h;rw [h]
 | none=>rw [hs] at h;simp only at h;omega
theorem Rel.ret (R:Rel M0 w0 N p st a w) {σ Kr Ko:List Nat} {h':Hp} {q:Pl} (hn:σ.Nodup) (hL:∀ i∈σ,i < st.h.length) (hle:σ.length≤h'.length) (hB:Bel ⟨w,o8 σ st.h p⟩ w')
  (hO:∀ (k:Nat) (ob:Ob),h'[k]? = some (some ob)→ObOK ⟨w,o8 σ st.h p⟩ w' (Mof (oth M0 σ st.h p) h' q) h' q k ob) (hI:xg h' q) (dt:∀ (k:Nat) (ob:Ob),h'[k]? = some (some ob)→oi h'.length ob=true)
  (IK:∀ i∈Kr,∀ k:Nat,σ[k]? = some i→q k=p i) (IL:∀ i∈Ko,∀ k:Nat,σ[k]? = some i→∀ v,V1 w (Mof M0 st.h p) st.h p (.osl i) v→V1 w' (Mof (oth M0 σ st.h p) h' q) h' q (.osl k) v) :
  Rel M0 w0 N (iW σ st.h.length p q) ⟨qa (okB σ Kr Ko) st.s,kb σ st.h.length (okB σ Kr Ko) st.h h'⟩ a w' ∧
  ∀ (r:AV) (v:Value),V1 w' (Mof (oth M0 σ st.h p) h' q) h' q r v→bc h'.length 5 r=true→V1 w' (Mof M0 (kb σ st.h.length (okB σ Kr Ko) st.h h') (iW σ st.h.length p q)) (kb σ st.h.length (okB σ Kr Ko) st.h h') (iW σ st.h.length p q) (jo (tau σ st.h.length) 5 r) v:=by
 have E:Emb h' q (kb σ st.h.length (okB σ Kr Ko) st.h h') (iW σ st.h.length p q) (tau σ st.h.length):=II hn hL rfl hle;have IM:∀ b j,Fr ⟨w,o8 σ st.h p⟩ b j→Fr w0 b j:=fun b j hf=>by
  rcases hf with hf|⟨i,ob,_,hi,hl,hO⟩
  ·exact .inl (Nat.le_trans R.below.size hf)
  ·exact ((R.objs i ob hi).own hl b j hO).1
 have uS:∀ b j,o8 σ st.h p b j→Mof M0 st.h p b j:=fun b j ⟨i,ob,_,hi,hl,hO⟩=>.inr ⟨i,ob,hi,hl,hO⟩;have xh:∀ b j,¬Mof (oth M0 σ st.h p) h' q b j→¬Mof M0 (kb σ st.h.length (okB σ Kr Ko) st.h h') (iW σ st.h.length p q) b j:=fun b j jr hm=>by
  rcases hm with hm|⟨i,ob,hi,hl,iw⟩
  ·exact jr (.inl (.inl hm))
  ·rcases uR hn hi with ⟨k,ob',rfl,hk,rfl⟩|⟨aq,iX,br,_⟩
   ·rw [ru] at hl;exact jr (.inr ⟨k,ob',hk,hl,(oh E (List.getElem?_eq_some_iff.1 hk).1).1 iw⟩)
   ·unfold Pl.O at iw;rw [(om iX aq).1,(om iX aq).2] at iw;exact jr (.inl (.inr ⟨i,ob,iX,br,hl,iw⟩))
 have IN:∀ b j,b < w.heap.size→¬Mof M0 st.h p b j→¬Mof M0 (kb σ st.h.length (okB σ Kr Ko) st.h h') (iW σ st.h.length p q) b j:=fun b j hb jr=>xh b j fun hm=>by
  rcases hm with (hm|⟨i,ob,_,hi,hl,iw⟩)|⟨k,ob,hk,hl,Ak⟩
  ·exact jr (.inl hm)
  ·exact jr (.inr ⟨i,ob,hi,hl,iw⟩)
  ·rcases ((hO k ob hk).own hl b j Ak).1 with hf|hf
   ·exact absurd hf (by show ¬w.heap.size≤b;omega)
   ·exact jr (uS b j hf)
 have dE:∀ {x:AV} {v:Value},V0 w (Mof M0 st.h p) x v→V0 w' (Mof M0 (kb σ st.h.length (okB σ Kr Ko) st.h h') (iW σ st.h.length p q)) x v:=fun hv=>
  hv.keep (hB.keeps.mono fun b j _=>uS b j) IN
 have b9:∀ (i:Nat) (ob:Ob),i∉σ→st.h[i]? = some (some ob)→cn ob=true→∀ b j,p.O i b j→b < w.heap.size→w'.heap[b]? = w.heap[b]?:=fun i ob iX hi hl b j iw hb=>
  hB.keeps.block b hb fun j' ⟨i',ob',br,dF,bj,ct⟩=>iX (by rw [R.inj i i' ob ob' hi dF hl bj b j j' iw ct];exact br)
 have iY:∀ {i:Nat} {ob:Ob},i < st.h.length→i∉σ→(kb σ st.h.length (okB σ Kr Ko) st.h h')[i]? = some (some ob)→st.h[i]? = some (some ob):=fun {i ob} aq iX hi=>by
  rcases uR hn hi with ⟨k,ob',he,_,_⟩|⟨_,_,br,_⟩
  ·exact absurd (List.mem_of_getElem? (IJ he.symm aq)) iX
  ·exact br
 have hlen:st.h.length≤(kb σ st.h.length (okB σ Kr Ko) st.h h').length:=by
  unfold kb;rw [List.length_append,o7];omega
 have stay:=V1.stay (w:=w) (w':=w') (M:=Mof M0 st.h p) (M':=Mof M0 (kb σ st.h.length (okB σ Kr Ko) st.h h') (iW σ st.h.length p q)) (h:=st.h) (h':=kb σ st.h.length (okB σ Kr Ko) st.h h') (p:=p) (p':=iW σ st.h.length p q)
  (r:=fun i=>!σ.contains i || Kr.contains i) (o:=fun i=>!σ.contains i || Ko.contains i) (s:=fun i=>!σ.contains i) dE hlen
  (fun i hi aq=>by
   by_cases hs:i∈σ
   ·obtain ⟨k,hk⟩:=List.mem_iff_getElem?.1 hs;have hK:i∈Kr:=by simpa [hs] using hi
    have ht:tau σ st.h.length k=i:=by unfold tau;rw [hk]
    rw [←ht,(Aj hn hL k).1,ht];exact IK i hK k hk
   ·exact (om hs aq).1)
  (fun i v hi aq hv=>by
   by_cases hs:i∈σ
   ·obtain ⟨k,hk⟩:=List.mem_iff_getElem?.1 hs;have hK:i∈Ko:=by simpa [hs] using hi
    have ht:tau σ st.h.length k=i:=by unfold tau;rw [hk]
    have ca:k < h'.length:=Nat.lt_of_lt_of_le (List.getElem?_eq_some_iff.1 hk).1 hle;have:=V1.ren E xh 5 _ _ (IL i hK k hk v hv) (by simpa [bc] using ca);rw [←ht];exact this
   ·obtain ⟨A,m,c,rfl,_,h1⟩:=hv.osl_inv;obtain ⟨_,_,_,_,_,h2⟩:=hv.bag_inv;refine .osl _ A m c (Nat.lt_of_lt_of_le aq hlen) (fun e sz nl es he=>?_) fun e sz nl pe qs he=>?_
    ·have br:=iY aq hs he;rw [(om hs aq).1];exact (h1 e sz nl es br).keep fun aL hb=>b9 i _ hs br (by rw [aL];rfl) _ 0 (.inl rfl) hb
    ·have br:=iY aq hs he;rw [(om hs aq).1];exact (h2 e sz nl pe qs br).keep fun aL hb=>b9 i _ hs br (by rw [aL];rfl) _ 0 (.inl rfl) hb)
  (fun i k sz v hi aq fY=>by
   have hs:i∉σ:=by simpa using hi
   exact fY.keep (fun e sz pe qs he=>⟨iY aq hs he,(om hs aq).1,(om hs aq).2,b9 i _ hs (iY aq hs he) rfl⟩) hB.size)
 have cp:Bel w0 w':=by
  have DL:∀ b j,b < w0.w.heap.size→o8 σ st.h p b j→w0.X b j:=fun b j hb ⟨i,ob,_,hi,hl,iw⟩=>(((R.objs i ob hi).own hl b j iw).1).resolve_left (by omega);exact ⟨hB.os.trans R.below.os,hB.tape.trans R.below.tape,hB.output.trans R.below.output,Nat.le_trans R.below.size hB.size,
   fun b hb hX=>(hB.keeps.block b (Nat.lt_of_lt_of_le hb R.below.size) fun j hj=>hX j (DL b j hb hj)).trans (R.below.keeps.block b hb hX),
   fun hb hX hc=>hB.keeps.cell (Nat.lt_of_lt_of_le hb R.below.size) (fun hj=>hX (DL _ _ hb hj)) (R.below.keeps.cell hb hX hc)⟩
 refine ⟨⟨R.defers,R.size,cp,R.m0,R.x0,fun t=>?_,fun i ob hi=>?_,fun i i' ob ob' hi br hl bj b j j' iw o9=>?_⟩,fun r v hv hr=>V1.ren E xh 5 r v hv hr⟩
 ·show V1 _ _ _ _ (lkp (qa (okB σ Kr Ko) st.s) t) _;rcases DK (okB σ Kr Ko) st.s t with ⟨h1,h2⟩|h2
  ·rw [h2];exact stay 5 _ _ (R.slots t) h1
  ·rw [h2];exact .base _ _ (.any _)
 ·rcases uR hn hi with ⟨k,ob',rfl,hk,rfl⟩|⟨aq,iX,br,lK⟩
  ·exact ObOK.ren E xh (List.getElem?_eq_some_iff.1 hk).1 (fun b j hf _=>IM b j hf) (dt k ob' hk) (hO k ob' hk)
  ·exact (R.objs i ob br).keep (fun _=>om iX aq) (fun hl=>b9 i ob iX br hl) hB.size dE fun cs bW c hc u hx=>stay 5 c u hx (List.all_eq_true.1 (lK cs bW) c hc)
 ·have mixed:∀ {k i:Nat} {ob ob':Ob} {b j j':Nat},h'[k]? = some (some ob)→cn ob=true→q.O k b j→i∉σ→st.h[i]? = some (some ob')→cn ob'=true→p.O i b j'→False:=fun {k i ob ob' b j j'} hk hl Ak iX hi bj iw=>by
   rcases ((hO k ob hk).own hl b j Ak).1 with hf|⟨i2,ob2,hs,bJ,gw,ky⟩
   ·have:=((R.objs i ob' hi).own bj b j' iw).2;exact absurd hf (by show ¬w.heap.size≤b;omega)
   ·exact iX (by rw [R.inj i i2 ob' ob2 hi bJ bj gw b j' j iw ky];exact hs)
  have pO:∀ {i b j:Nat},i∉σ→i < st.h.length→(iW σ st.h.length p q).O i b j→p.O i b j:=fun {i b j} iX aq iw=>by
   unfold Pl.O at iw ⊢;rwa [(om iX aq).1,(om iX aq).2] at iw
  rcases uR hn hi with ⟨k,o1,rfl,hk,rfl⟩|⟨aq,iX,h1,_⟩<;>rcases uR hn br with ⟨k',o2,rfl,dF,rfl⟩|⟨iZ,rv,h2,_⟩
  ·rw [ru] at hl bj;rw [hI k k' o1 o2 hk dF hl bj b j j' ((oh E (List.getElem?_eq_some_iff.1 hk).1).1 iw) ((oh E (List.getElem?_eq_some_iff.1 dF).1).1 o9)]
  ·rw [ru] at hl;exact (mixed hk hl ((oh E (List.getElem?_eq_some_iff.1 hk).1).1 iw) rv h2 bj (pO rv iZ o9)).elim
  ·rw [ru] at bj;exact (mixed dF bj ((oh E (List.getElem?_eq_some_iff.1 dF).1).1 o9) iX h1 hl (pO iX aq iw)).elim
  ·exact R.inj i i' ob ob' h1 h2 hl bj b j j' (pO iX aq iw) (pO rv iZ o9)
end
section
variable (P:Program)
def VH (f:FuncId) (h:Hp) (args:List AV) (ks:List Nat) (h':Hp) (r:AV) : Prop:=
 lL P f=true∧∀ (w:World) (M X:Nat→Nat→Prop) (p:Pl) (vs:List Value),MOK w M→MOK w X→(∀ b j,M b j→¬X b j)→vs.length=args.length →
  (∀ (i:Nat) (a:AV) (v:Value),args[i]? = some a→vs[i]? = some v→V1 w (Mof M h p) h p a v)→(∀ (k:Nat) (ob:Ob),h[k]? = some (some ob)→ObOK ⟨w,X⟩ w (Mof M h p) h p k ob)→xg h p →
  Calls P f vs.toArray w fun e w'=>∃ v q,e = .returned v∧Bel ⟨w,X⟩ w'∧V1 w' (Mof M h' q) h' q r v∧(∀ (k:Nat) (ob:Ob),h'[k]? = some (some ob)→ObOK ⟨w,X⟩ w' (Mof M h' q) h' q k ob)∧xg h' q ∧
   ∀ (i:Nat) (a:AV) (v:Value),i∈ks→args[i]? = some a→vs[i]? = some v→V1 w' (Mof M h' q) h' q a v
def qb (st:VS) : List ResultVar→Option (List AV)
 | []=>some []
 | .tmp t::rs=>match qb st rs with|some vs=>some (lkp st.s t::vs)|none=>none
 | .cell x t::rs=>match qc P st.h t (lkp st.s x),qb st rs with|some v,some vs=>some (v::vs)|_,_=>none
def xi (s:List (Nat×AV)) (n:Nat) (args:List AV) : List Nat→Prop
 | []=>True
 | i::r=>Nat.blt i args.length=true∧lkp s i=args.getD i .any∧bc n 5 (args.getD i .any)=true∧xi s n args r
def xj (rs:List ResultVar) (h':Hp) (r:AV) (args:List AV) (ks:List Nat) (st:VS) : Prop:=
 h'.length≤st.h.length∧leH st.h h'.length 0 h'∧(qb P st rs).map ry=some r∧bc h'.length 5 r=true∧xi st.s h'.length args ks
def DM (rs:List ResultVar) (h':Hp) (r:AV) (args:List AV) (ks:List Nat) : Exit→VS→Prop
 | .ret,st=>xj P rs h' r args ks st
 | .normal,st=>xj P rs h' r args ks st
 | _,_=>False
end
section
variable {P:Program} {M0:Nat→Nat→Prop} {w0:Bas} {N:Nm} {p:Pl} {st:VS} {a:Act} {w w':World}
theorem DN {s:List (Nat×AV)} {n:Nat} {args:List AV} : ∀ {ks:List Nat},xi s n args ks→∀ i∈ks,i < args.length∧lkp s i=args.getD i .any∧bc n 5 (args.getD i .any)=true
 | [],_,i,hi=>by cases hi
 | k::r,h,i,hi=>by
  rcases List.mem_cons.1 hi with rfl|hi
  ·exact ⟨by simpa using h.1,h.2.1,h.2.2.1⟩
  ·exact DN h.2.2.2 i hi
theorem Al (R:Rel M0 w0 N p st a w) : ∀ (rs:List ResultVar) (vs:List AV),qb P st rs=some vs →
  ∃ us:List Value,(rs.mapM fun | .tmp t=>pure (a.tmps.getD t undef) | .cell x t=>do loadVar t (←asAddr (a.tmps.getD x undef)) : Sem (List Value)).run P w = .ok us w∧us.length=vs.length∧∀ (i:Nat) (c:AV) (u:Value),vs[i]? = some c→us[i]? = some u→V1 w (Mof M0 st.h p) st.h p c u
 | [],vs,h=>by
  simp only [qb,Option.some.injEq] at h;subst h;exact ⟨[],by simp,rfl,by simp⟩
 | .tmp t::rs,vs,h=>by
  simp only [qb] at h;split at h
  ·rename_i vs' gx;simp only [Option.some.injEq] at h;subst h;obtain ⟨us,aD,hl,hv⟩:=Al R rs vs' gx;refine ⟨a.tmps.getD t undef::us,by simp only [List.mapM_cons,Sem.run_bind,Sem.run_pure,Result.andThen_ok,aD],by simp [hl],fun i c u hc hu=>?_⟩;cases i with
   | zero=>simp at hc hu;subst hc;subst hu;simpa using R.slots t
   | succ i=>exact hv i c u (by simpa using hc) (by simpa using hu)
  ·cases h
 | .cell x t::rs,vs,h=>by
  simp only [qb] at h;split at h
  ·rename_i v vs' bA gx;simp only [Option.some.injEq] at h;subst h;obtain ⟨us,aD,hl,hv⟩:=Al R rs vs' gx;obtain ⟨u,hu,kz⟩:=Am (P:=P) R.objs (R.slots x) bA;have rz:∃ ad,a.tmps.getD x undef = .pointer (some ad):=by
    unfold qc at bA;split at bA
    ·cases bA
    ·split at bA
     ·cases bA
     ·rename_i cs bW;obtain ⟨b,o,hq,_⟩:=An R.objs (R.slots x) bW;exact ⟨_,hq⟩
   obtain ⟨ad,uT⟩:=rz;rw [uT] at hu;simp only [Instr.loadAt,Instr.sureAddr,Sem.run_bind,Sem.run_pure,Result.andThen_ok] at hu;have e1:(asAddr (a.tmps.getD x undef)).run P w = .ok ad w:=by rw [uT];rfl
   refine ⟨u::us,by simp only [List.mapM_cons,Sem.run_bind,Sem.run_pure,Result.andThen_ok,e1,hu,aD],by simp [hl],fun i c y hc hy=>?_⟩;cases i with
   | zero=>simp at hc hy;subst hc;subst hy;exact kz
   | succ i=>exact hv i c y (by simpa using hc) (by simpa using hy)
  ·cases h
theorem dk {f:FuncId} {fn:Func} {c:Code} {h:Hp} {args:List AV} {ks:List Nat} {h':Hp} {r:AV} (hf:P.funcs[f]? = some fn) (hb:fn.body=some c) (hg:lL P f=true) (hn:Nat.ble args.length fn.ntmps=true)
  (hN:∀ vs,fg ⟨fn.ntmps,args.length,vs⟩ c=true) (hw:∀ M0 w0 vs,VWp P M0 w0 ⟨fn.ntmps,args.length,vs⟩ c (DM P fn.results.toList h' r args ks) ⟨aC 0 args,h⟩) : VH P f h args ks h' r:=by
 refine ⟨hg,fun w M X p vs hM hX hd hl hv hO hI=>?_⟩;refine calls_of_wp hf hb ?_;have mh:∀ i,i < vs.length→(vs.toArray++Array.replicate (fn.ntmps - vs.toArray.size) undef).getD i undef=vs.getD i undef:=fun i hi=>by
  rw [Array.getD_eq_getD_getElem?,Array.getElem?_append_left (by simpa using hi)];simp [hi]
 have R0:Rel M ⟨w,X⟩ ⟨fn.ntmps,args.length,fun i=>vs.getD i undef⟩ p ⟨aC 0 args,h⟩ { tmps:=vs.toArray++Array.replicate (fn.ntmps - vs.toArray.size) undef,defers:=[] } w:=by
  refine ⟨rfl,⟨by have:=Nat.le_of_ble_eq_true hn;simp;omega,fun i hi=>mh i (by rw [hl];exact hi)⟩,Bel.start ⟨w,X⟩,hM,⟨hX,hd⟩,fun i=>?_,hO,fun id fp ob ob' h1 h2 l1 l2 b j j'=>hI id fp ob ob' h1 h2 l1 l2 b j j'⟩;refine Ao args 0 (fun i=>(vs.toArray++Array.replicate (fn.ntmps - vs.toArray.size) undef).getD i undef) (fun i c hc=>?_) i;have hi:i < vs.length:=by rw [hl];exact (List.getElem?_eq_some_iff.1 hc).1
  rw [Nat.zero_add,mh i hi];exact hv i c _ hc (by simp [List.getD,hi])
 refine wp_mono (hw M ⟨w,X⟩ (fun i=>vs.getD i undef) (hN _) p _ w R0) ?_;have key:∀ (aK:VS) (p':Pl) (a':Act) (w':World),Rel M ⟨w,X⟩ ⟨fn.ntmps,args.length,fun i=>vs.getD i undef⟩ p' aK a' w'→xj P fn.results.toList h' r args ks aK→a'.defers=[]∧∃ v,(results fn a'.tmps).run P w' = .ok v w'∧∃ v' q,Ending.returned v = .returned v'∧Bel ⟨w,X⟩ w'∧V1 w' (Mof M h' q) h' q r v' ∧
   (∀ (k:Nat) (ob:Ob),h'[k]? = some (some ob)→ObOK ⟨w,X⟩ w' (Mof M h' q) h' q k ob)∧xg h' q∧∀ (i:Nat) (a:AV) (v:Value),i∈ks→args[i]? = some a→vs[i]? = some v→V1 w' (Mof M h' q) h' q a v:=by
  rintro aK p' a' w' R' ⟨e1,e2,e3,e4,e5⟩;obtain ⟨vs',gx,b_⟩:=Option.map_eq_some_iff.1 e3;obtain ⟨us,aD,rA,o_⟩:=Al (P:=P) R' _ _ gx;have mN:(fn.results.mapM fun | .tmp t=>pure (a'.tmps.getD t undef) | .cell x t=>do loadVar t (←asAddr (a'.tmps.getD x undef)) : Sem (Array Value)).run P w' = .ok us.toArray w':=by
   rw [←Array.toArray_toList (xs:=fn.results),List.mapM_toArray];simp only [Sem.run_map,aD,Result.andThen_ok]
  have hres:(results fn a'.tmps).run P w' = .ok (if h:us.toArray.size=1 then us.toArray[0] else .tuple us.toArray) w':=by
   unfold results;rw [Sem.run_bind];exact (congrArg (fun r=>Result.andThen r _) mN).trans rfl
  have R2:Rel M ⟨w,X⟩ ⟨fn.ntmps,args.length,fun i=>vs.getD i undef⟩ p' ⟨[],h'⟩ a' w':=R'.le ⟨trivial,e1,e2⟩;have hh:∀ (id:Nat) (ob:Ob),h'[id]? = some (some ob)→aK.h[id]? = some (some ob):=fun id ob hi=>by
   have:=(xk h' 0 id ob e2 hi).1;rwa [Nat.zero_add] at this
  have DO:∀ b j,¬Mof M aK.h p' b j→¬Mof M h' p' b j:=fun b j hn hm=>hn (by
   rcases hm with hm|⟨id,ob,hi,hl,hp⟩
   ·exact .inl hm
   ·exact .inr ⟨id,ob,hh id ob hi,hl,hp⟩)
  refine ⟨R'.defers,_,hres,_,p',rfl,R'.below,?_,R2.objs,fun id fp ob ob' h1 h2 l1 l2 b j j'=>R2.inj id fp ob ob' h1 h2 l1 l2 b j j',fun i x v hi hx IP=>?_⟩
  ·refine V1.trunc DO hh 5 _ _ ?_ e4;subst b_;by_cases h1:us.length=1
   ·obtain ⟨u,rfl⟩ : ∃ u,us=[u]:=List.length_eq_one_iff.1 h1;obtain ⟨c,rfl⟩ : ∃ c,vs'=[c]:=List.length_eq_one_iff.1 (by rw [←rA];rfl);exact o_ 0 c u rfl rfl
   ·have h2:ry vs' = .tup vs':=by
     cases vs' with
     | nil=>rfl
     | cons x y=>cases y with
      | nil=>simp at rA;omega
      | cons=>rfl
    rw [h2,dif_neg (by simpa using h1)];exact .tup _ _ rA o_
  ·obtain ⟨k1,k2,k3⟩:=DN e5 i hi;have DP:args.getD i .any=x:=by simp [List.getD,hx]
   have hs:=R'.slots i;rw [k2,DP,R'.size.fix i k1] at hs;have Ap:vs.getD i undef=v:=by simp [List.getD,IP]
   rw [DP] at k3;have:=V1.trunc DO hh 5 _ _ hs k3;rwa [show (⟨fn.ntmps,args.length,fun i=>vs.getD i undef⟩ : Nm).vs i=v from Ap] at this
 rintro e a' w' ⟨aK,p',R',hq⟩;cases e with
 | normal=>exact key aK p' a' w' R' hq
 | ret=>exact key aK p' a' w' R' hq
 | _=>exact hq.elim
def tw (k:Nat) : AV→Bool
 | .ref i _=>i == k
 | .mp i=>i == k
 | .fn _ _ b=>b.any fun x=>match x with | .ref i _=>i == k|_=>false
 | _=>false
def xl (k:Nat) : AV→Bool
 | .osl i=>i == k
 | _=>false
def Aq:Option (Option Ob)→Bool
 | some (some (.arr _ _ nl _))=>!nl
 | some (some (.bag _ _ nl _ _))=>!nl
 | _=>false
def Ar (σ:List Nat) (h:Hp) (args:List AV) (ks Kr Ko:List Nat) : Bool:=
 (Kr.all fun i=>match jq σ i 0 with|some k=>ks.any fun m=>tw k (args.getD m .any)|none=>true) &&
 (Ko.all fun i=>match jq σ i 0 with|some k=>Aq h[k]?&&ks.any fun m=>xl k (args.getD m .any)|none=>true)
theorem Osl.uniq {g:Nat} {e:TypeId} {sz:Nat} {nl:Bool} {n:Nat} {v v':Value} (aL:nl=false) (hz:0 < sz) (h:Osl w g e sz nl n v) (h':Osl w g e sz nl n v') : v=v':=by
 unfold Osl at h h';split at h
 ·rename_i hn;rw [aL] at hn;cases hn
 ·rename_i hn;rw [if_neg hn] at h';obtain ⟨c,cur,rfl,hg,hs,_⟩:=h;obtain ⟨c',cur',rfl,fL,jL,_⟩:=h';rw [hg] at fL;injection fL with fL
  injection fL with fL
  subst fL;have:c=c':=Nat.eq_of_mul_eq_mul_right hz (hs.symm.trans jL);rw [this]
theorem IQ {k:Nat} {x:AV} {v:Value} {h h2:Hp} {q q2:Pl} {w w2:World} {M M2:Nat→Nat→Prop} (ht:tw k x=true) (h1:V1 w M h q x v) (h2:V1 w2 M2 h2 q2 x v) : q2 k=q k:=by
 cases x with
 | ref i off=>
  have:i=k:=by simpa [tw] using ht
  subst this;have e1:=h1.ref_inv.1;rw [h2.ref_inv.1] at e1;simpa using e1
 | mp i=>
  have:i=k:=by simpa [tw] using ht
  subst this;have e1:=h1.mp_inv.1;rw [h2.mp_inv.1] at e1;simpa using e1
 | fn f a b=>
  obtain ⟨c,hc,cG⟩:=List.any_eq_true.1 ht;obtain ⟨m,hm⟩:=List.mem_iff_getElem?.1 hc;obtain ⟨us,vs,rfl,_,hl,_,hh⟩:=V1.fn_inv h1;obtain ⟨QC,vs2,he,_,gw,_,uU⟩:=V1.fn_inv h2;have pa:m < b.length:=(List.getElem?_eq_some_iff.1 hm).1;injection he with _ _ he
  have he:vs=vs2:=by simpa using he
  subst he;have g1:=hh m c vs[m] hm (List.getElem?_eq_getElem (by omega));have g2:=uU m c vs[m] hm (List.getElem?_eq_getElem (by omega));cases c with
  | ref i off=>
   have:i=k:=by simpa using cG
   subst this;have e1:=g1.ref_inv.1;rw [g2.ref_inv.1] at e1;simpa using e1
  | _=>cases cG
 | _=>cases ht
theorem MOK.sub {M M':Nat→Nat→Prop} (h:MOK w M) (hs:∀ b j,M' b j→M b j) : MOK w M':=
 ⟨fun b j hm=>h.1 b j (hs b j hm),fun g vs hg=>⟨(h.2.1 g vs hg).1,fun j hm=>(h.2.1 g vs hg).2.1 j (hs g j hm),(h.2.1 g vs hg).2.2⟩,fun g hg=>⟨(h.2.2.1 g hg).1,fun j hm=>(h.2.2.1 g hg).2 j (hs g j hm)⟩,h.2.2.2⟩
end
end Go.Proofs.YtoibondihdhnoaaGreatDoor
