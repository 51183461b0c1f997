/- Texts in one: Walks on plain values: the layer; of every program; no condition. -/
import Derived.WalkKit
import Derived.Lib.LaidTab
import Derived.Lib.ItoaNum
import Derived.Test.YtoibondihdhnoaaGreatDoorProg
import Derived.Test.YtoibondihdhnoaaGreatDoorFRY1
import Derived.Lib.MinMax
import Derived.Laws.StructEq
import Derived.ChangeKeysEq
import Derived.MapKept
import Derived.Carry
import Derived.Laws.IdiomStrings
namespace Go.Proofs.YtoibondihdhnoaaGreatDoor
def qt:List (Nat×List Value):=[(0,[.string ⟨#[97,114,114,105,118,101]⟩,.func (.func 224) #[] #[],.string ⟨#[115,101,114,118,101]⟩,.func (.func 225) #[] #[],.string ⟨#[100,101,99,108,105,110,101]⟩,.func (.func 226) #[] #[],.string ⟨#[108,101,97,118,101]⟩,.func (.func 227) #[] #[],.string ⟨#[99,97,108,108]⟩,.func (.func 228) #[] #[],.string ⟨#[114,101,116,117,114,110]⟩,.func (.func 229) #[] #[]])]
def x9:List Nat:=[1,2,3,4]
def x_ (w:World) : Prop:=
 (∃ m, w.cell? ⟨1, 0, none⟩ = some (.int .i64 m)) ∧ Lib.TabIs Tryz.prog w "internal/strconv.uint64pow10" .u64 Lib.pow10Tab ∧ (∃ t q, w.cell? ⟨3, 0, none⟩ = some (.iface t q)) ∧ ∃ t q, w.cell? ⟨4, 0, none⟩ = some (.iface t q)
theorem ER : Tryz.prog.globalNamed "internal/strconv.uint64pow10" = some 2 := by kernel_rfl
theorem J5 {w w':World} (hk:∀ g∈x9,w'.heap[g]? = w.heap[g]?) (h:x_ w) : x_ w':=by
 obtain ⟨⟨m,h1⟩,h2,⟨t,q,h3⟩,t',q',h4⟩:=h;have c:∀ {g:Nat} {v:Value},g∈x9→w.cell? ⟨g,0,none⟩=some v→w'.cell? ⟨g,0,none⟩=some v:=fun {g v} hg hv=>by
  rw [←hv];exact World.cell?_of_block (a:=⟨g,0,none⟩) (hk g hg)
 refine ⟨⟨m,c (by decide) h1⟩,?_,⟨t,q,c (by decide) h3⟩,t',q',c (by decide) h4⟩;unfold Lib.TabIs World.var? at h2 ⊢;rw [ER] at h2 ⊢;simp only [Option.bind_some] at h2 ⊢;rw [hk 2 (by decide)];exact h2
end Go.Proofs.YtoibondihdhnoaaGreatDoor
namespace Go.Proofs.YtoibondihdhnoaaGreatDoor
open Go.RowKit
inductive AV where
 | any
 | lit (v:Value)
 | agg (cs:List AV)
 | tup (vs:List AV)
 | sl (sz:Nat) (es:List (List AV))
 | vp (cs:List AV)
 | fn (f:Fn) (first cap:List AV)
 | iface (t:TypeId) (v:AV)
 | ref (id off:Nat)
 | aref (id sz i off:Nat)
 | osl (id:Nat)
 | mp (id:Nat)
 | slw (id k sz:Nat) (es:List (List AV))
inductive Ob where
 | box (cs:List AV)
 | arr (e:TypeId) (sz:Nat) (ES:Bool) (es:List (List AV))
 | mpo (kf:Nat×IntKind) (iv:List (Value×Value))
 | bag (e sz:Nat) (nl:Bool) (ak:Option Nat) (qs:List (List (List AV)))
abbrev Hp:=List (Option Ob)
def cQ:AV→Bool
 | .any | .agg _ | .tup _=>false
 | .lit v=>v.oneCell'
 | _=>true
inductive V0 (w:World) (M:Nat→Nat→Prop) : AV→Value→Prop
 | any (v:Value) : V0 w M .any v
 | lit (v:Value) : V0 w M (.lit v) v
 | agg (cs:List AV) (us:List Value) (hl:us.length=cs.length) (h1:∀ c∈cs,cQ c=true) (h:∀ (i:Nat) (c:AV) (u:Value),cs[i]? = some c→us[i]? = some u→V0 w M c u) : V0 w M (.agg cs) (.agg us.toArray)
 | tup (cs:List AV) (us:List Value) (hl:us.length=cs.length) (h:∀ (i:Nat) (c:AV) (u:Value),cs[i]? = some c→us[i]? = some u→V0 w M c u) : V0 w M (.tup cs) (.tuple us.toArray)
 | slNil (sz:Nat) (A:Option Addr) (cap:Nat) : V0 w M (.sl sz []) (.slice A 0 cap)
 | sl (sz:Nat) (es:List (List AV)) (cap b o:Nat) (u:Nat→Nat→Value) (ax:es≠[]) (hb:b < w.heap.size) (hM:∀ k j,k < es.length→j < sz→¬M b (o+k*sz+j)) (dy:es.length≤cap) (aM:∀ (k:Nat) (e:List AV),es[k]? = some e→e.length=sz)
   (h1:∀ (k:Nat) (e:List AV) (j:Nat) (c:AV),es[k]? = some e→e[j]? = some c→cQ c=true)
   (hc:∀ k j,k < es.length→j < sz→w.cell? ⟨b,o+k*sz+j,none⟩=some (u k j))
   (h:∀ (k:Nat) (e:List AV) (j:Nat) (c:AV),es[k]? = some e→e[j]? = some c→V0 w M c (u k j)) : V0 w M (.sl sz es) (.slice (some ⟨b,o,none⟩) es.length cap)
 | vp (cs:List AV) (b o:Nat) (u:Nat→Value) (hb:b < w.heap.size) (hM:∀ j,j < cs.length→¬M b (o+j)) (h1:∀ c∈cs,cQ c=true) (hc:∀ j,j < cs.length→w.cell? ⟨b,o+j,none⟩=some (u j))
   (h:∀ (j:Nat) (c:AV),cs[j]? = some c→V0 w M c (u j)) : V0 w M (.vp cs) (.pointer (some ⟨b,o,none⟩))
 | fn (f:Fn) (first cap:List AV) (us vs:List Value) (hl:us.length=first.length) (bj:vs.length=cap.length) (h:∀ (i:Nat) (c:AV) (u:Value),first[i]? = some c→us[i]? = some u→V0 w M c u)
   (h':∀ (i:Nat) (c:AV) (u:Value),cap[i]? = some c→vs[i]? = some u→V0 w M c u) : V0 w M (.fn f first cap) (.func f us.toArray vs.toArray)
 | iface (t:TypeId) (v:AV) (u:Value) (h:V0 w M v u) : V0 w M (.iface t v) (.iface t u)
structure Keeps (M:Nat→Nat→Prop) (w w':World) : Prop where
 size:w.heap.size≤w'.heap.size
 block:∀ b,b < w.heap.size→(∀ j,¬M b j)→w'.heap[b]? = w.heap[b]?
 cell:∀ {b o:Nat} {v:Value},b < w.heap.size→¬M b o→w.cell? ⟨b,o,none⟩=some v→w'.cell? ⟨b,o,none⟩=some v
theorem Keeps.refl (M:Nat→Nat→Prop) (w:World) : Keeps M w w:=⟨Nat.le_refl _,fun _ _ _=>rfl,fun _ _ h=>h⟩
theorem vD {w w':World} {b o:Nat} {v:Value} (h:w'.heap[b]? = w.heap[b]?) (hc:w.cell? ⟨b,o,none⟩=some v) : w'.cell? ⟨b,o,none⟩=some v:=by
 rw [←hc];exact World.cell?_of_block (a:=⟨b,o,none⟩) h
theorem Keeps.of_below {M:Nat→Nat→Prop} {w w':World} (h:Below w.heap.size w w') : Keeps M w w':=⟨h.size,fun b hb _=>h.block b hb,fun hb _ hc=>vD (h.block _ hb) hc⟩
theorem Keeps.of_blocks {M:Nat→Nat→Prop} {w w':World} (hs:w.heap.size≤w'.heap.size) (h:∀ b,b < w.heap.size→¬(∀ j,M b j)→w'.heap[b]? = w.heap[b]?) : Keeps M w w':=
 ⟨hs,fun b hb hM=>h b hb fun hn=>hM 0 (hn 0),fun {_ o _} hb hM hc=>vD (h _ hb fun hn=>hM (hn o)) hc⟩
theorem Keeps.trans {M:Nat→Nat→Prop} {a b c:World} (h:Keeps M a b) (k:Keeps M b c) : Keeps M a c:=
 ⟨Nat.le_trans h.size k.size,fun i hi hM=>(k.block i (Nat.lt_of_lt_of_le hi h.size) hM).trans (h.block i hi hM),fun hb hM hc=>k.cell (Nat.lt_of_lt_of_le hb h.size) hM (h.cell hb hM hc)⟩
theorem Keeps.mono {M M':Nat→Nat→Prop} {a b:World} (h:Keeps M a b) (hM:∀ i j,i < a.heap.size→M i j→M' i j) : Keeps M' a b:=
 ⟨h.size,fun i hi hn=>h.block i hi fun j hj=>hn j (hM i j hi hj),fun hb hn hc=>h.cell hb (fun hm=>hn (hM _ _ hb hm)) hc⟩
theorem V0.keep {w w':World} {M M':Nat→Nat→Prop} (hk:Keeps M w w') (hM:∀ b j,b < w.heap.size→¬M b j→¬M' b j) {av:AV} {v:Value} (h:V0 w M av v) : V0 w' M' av v:=by
 induction h with
 | any v=>exact .any v
 | lit v=>exact .lit v
 | agg cs us hl h1 _ ih=>exact .agg cs us hl h1 ih
 | tup cs us hl _ ih=>exact .tup cs us hl ih
 | slNil sz A cap=>exact .slNil sz A cap
 | sl sz es cap b o u ax hb vI dy aM h1 hc _ ih=>exact .sl sz es cap b o u ax (Nat.lt_of_lt_of_le hb hk.size) (fun k j h1 h2=>hM _ _ hb (vI k j h1 h2)) dy aM h1 (fun k j h1 h2=>hk.cell hb (vI k j h1 h2) (hc k j h1 h2)) ih
 | vp cs b o u hb vI h1 hc _ ih=>exact .vp cs b o u (Nat.lt_of_lt_of_le hb hk.size) (fun j hj=>hM _ _ hb (vI j hj)) h1 (fun j hj=>hk.cell hb (vI j hj) (hc j hj)) ih
 | fn f first cap us vs hl bj _ _ ih Bo=>exact .fn f first cap us vs hl bj ih Bo
 | iface t v u _ ih=>exact .iface t v u ih
theorem V0.later {w w':World} {M:Nat→Nat→Prop} (hb:Below w.heap.size w w') {av:AV} {v:Value} (h:V0 w M av v) : V0 w' M av v:=h.keep (.of_below hb) (fun _ _ _ h=>h)
def Osl (w:World) (g:Nat) (e:TypeId) (sz:Nat) (nl:Bool) (n:Nat) (v:Value) : Prop:=
 if nl=true then (∃ A,v = .slice A 0 0)∧n=0 else ∃ cap cur,v = .slice (some ⟨g,0,none⟩) n cap∧w.heap[g]? = some (.cells cur e (0,0))∧cur.size=cap*sz∧n≤cap∧cap≤maxLen
structure Pl where
 b:Nat→Nat
 S:Nat→Nat→Nat→Prop
instance:CoeFun Pl fun _=>Nat→Nat:=⟨Pl.b⟩
def Pl.O (p:Pl) (id b j:Nat) : Prop:=p id=b∨p.S id b j
def Spare (w:World) (p:Pl) (id sz:Nat) (v:Value) : Prop:=
 ∃ A n cap,v = .slice A n cap∧n≤cap∧(n < cap→∃ b o cur t,A=some ⟨b,o,none⟩∧w.heap[b]? = some (.cells cur t (0,0))∧o+cap*sz≤cur.size∧cap≤maxLen∧0 < sz∧b≠p id∧∀ j,o+n*sz≤j→p.S id b j)
def Dist (v v':Value) : Prop:=∀ b o n c b' o' n' c',v = .slice (some ⟨b,o,none⟩) n c→v' = .slice (some ⟨b',o',none⟩) n' c'→n < c→n' < c'→b≠b'
def Sp (w:World) (h:Hp) (p:Pl) (id k sz:Nat) (v:Value) : Prop:=
 ∀ e bw ak qs,h[id]? = some (some (.bag e bw false ak qs))→bw=sz∧Spare w p id sz v∧p id < w.heap.size∧∀ cur e k' v',w.heap[p id]? = some (.cells cur e (0,0))→k' < qs.length→k'≠k→ak≠some k'→cur[k']? = some v'→Dist v v'
inductive V1 (w:World) (M:Nat→Nat→Prop) (h:Hp) (p:Pl) : AV→Value→Prop
 | base (av:AV) (v:Value) (h0:V0 w M av v) : V1 w M h p av v
 | agg (cs:List AV) (us:List Value) (hl:us.length=cs.length) (h1:∀ c∈cs,cQ c=true) (hv:∀ (i:Nat) (c:AV) (u:Value),cs[i]? = some c→us[i]? = some u→V1 w M h p c u) : V1 w M h p (.agg cs) (.agg us.toArray)
 | tup (cs:List AV) (us:List Value) (hl:us.length=cs.length) (hv:∀ (i:Nat) (c:AV) (u:Value),cs[i]? = some c→us[i]? = some u→V1 w M h p c u) : V1 w M h p (.tup cs) (.tuple us.toArray)
 | fn (f:Fn) (first cap:List AV) (us vs:List Value) (hl:us.length=first.length) (bj:vs.length=cap.length) (hv:∀ (i:Nat) (c:AV) (u:Value),first[i]? = some c→us[i]? = some u→V1 w M h p c u)
   (bA:∀ (i:Nat) (c:AV) (u:Value),cap[i]? = some c→vs[i]? = some u→V1 w M h p c u) : V1 w M h p (.fn f first cap) (.func f us.toArray vs.toArray)
 | iface (t:TypeId) (v:AV) (u:Value) (hv:V1 w M h p v u) : V1 w M h p (.iface t v) (.iface t u)
 | ref (id off:Nat) (hid:id < h.length) : V1 w M h p (.ref id off) (.pointer (some ⟨p id,off,none⟩))
 | aref (id sz i off:Nat) (hid:id < h.length) : V1 w M h p (.aref id sz i off) (.pointer (some ⟨p id,i*sz+off,none⟩))
 | osl (id:Nat) (A:Option Addr) (n c:Nat) (hid:id < h.length) (hv:∀ e sz nl es,h[id]? = some (some (.arr e sz nl es))→Osl w (p id) e sz nl es.length (.slice A n c))
   (hb:∀ e sz nl ak qs,h[id]? = some (some (.bag e sz nl ak qs))→Osl w (p id) e 1 nl qs.length (.slice A n c)) : V1 w M h p (.osl id) (.slice A n c)
 | mp (id:Nat) (hid:id < h.length) : V1 w M h p (.mp id) (.map (some (p id)))
 | slw (id k sz:Nat) (es:List (List AV)) (v:Value) (hid:id < h.length) (h0:V0 w M (.sl sz es) v) (hs:Sp w h p id k sz v) : V1 w M h p (.slw id k sz es) v
theorem V1.keep {w w':World} {M M':Nat→Nat→Prop} {h h':Hp} {p p':Pl} (hk:Keeps M w w') (hM:∀ b j,b < w.heap.size→¬M b j→¬M' b j) (hl:h.length≤h'.length) (hp:∀ id,id < h.length→p' id=p id)
  (ho:∀ id e sz nl es v,id < h.length→h'[id]? = some (some (.arr e sz nl es))→(∀ e sz nl es,h[id]? = some (some (.arr e sz nl es))→Osl w (p id) e sz nl es.length v)→Osl w' (p id) e sz nl es.length v)
  (hg:∀ id e sz nl ak qs v,id < h.length→h'[id]? = some (some (.bag e sz nl ak qs))→(∀ e sz nl ak qs,h[id]? = some (some (.bag e sz nl ak qs))→Osl w (p id) e 1 nl qs.length v)→Osl w' (p id) e 1 nl qs.length v)
  (hw:∀ id k sz v,id < h.length→Sp w h p id k sz v→Sp w' h' p' id k sz v)
  {av:AV} {v:Value} (hv:V1 w M h p av v) : V1 w' M' h' p' av v:=by
 induction hv with
 | base av v h0=>exact .base _ _ (h0.keep hk hM)
 | agg cs us hl h1 _ ih=>exact .agg cs us hl h1 ih
 | tup cs us hl _ ih=>exact .tup cs us hl ih
 | fn f first cap us vs hl bj _ _ ih Bo=>exact .fn f first cap us vs hl bj ih Bo
 | iface t v u _ ih=>exact .iface t v u ih
 | ref id off hid=>rw [←hp id hid];exact .ref id off (Nat.lt_of_lt_of_le hid hl)
 | aref id sz i off hid=>rw [←hp id hid];exact .aref id sz i off (Nat.lt_of_lt_of_le hid hl)
 | osl id A n c hid hv hb=>exact .osl id A n c (Nat.lt_of_lt_of_le hid hl) (fun e sz nl es he=>by rw [hp id hid];exact ho id e sz nl es _ hid he hv) fun e sz nl ak qs he=>by rw [hp id hid];exact hg id e sz nl ak qs _ hid he hb
 | mp id hid=>rw [←hp id hid];exact .mp id (Nat.lt_of_lt_of_le hid hl)
 | slw id k sz es v hid h0 hs=>exact .slw id k sz es v (Nat.lt_of_lt_of_le hid hl) (h0.keep hk hM) (hw id k sz v hid hs)
theorem Osl.below {w w':World} (hb:Below w.heap.size w w') {g:Nat} {e:TypeId} {sz:Nat} {nl:Bool} {n:Nat} {v:Value} (h:Osl w g e sz nl n v) : Osl w' g e sz nl n v:=by
 unfold Osl at h ⊢;split
 ·rename_i hn;rw [if_pos hn] at h;exact h
 ·rename_i hn;rw [if_neg hn] at h;obtain ⟨cap,cur,h1,h2,h3⟩:=h;exact ⟨cap,cur,h1,(hb.block g (Array.getElem?_eq_some_iff.1 h2).1).trans h2,h3⟩
theorem Spare.keep {w w':World} {p p':Pl} {id sz:Nat} {v:Value} (hp:p' id=p id) (hS:p'.S id=p.S id) (hb:∀ b j,p.S id b j→b < w.heap.size→w'.heap[b]? = w.heap[b]?) (h:Spare w p id sz v) : Spare w' p' id sz v:=by
 obtain ⟨A,n,cap,hv,hle,h⟩:=h;refine ⟨A,n,cap,hv,hle,fun aq=>?_⟩;obtain ⟨b,o,cur,t,h1,h2,h3,h4,h5,h6,h7⟩:=h aq;exact ⟨b,o,cur,t,h1,(hb b _ (h7 _ (Nat.le_refl _)) (Array.getElem?_eq_some_iff.1 h2).1).trans h2,h3,h4,h5,by rw [hp];exact h6,by rw [hS];exact h7⟩
theorem Spare.later {w w':World} {p:Pl} {id sz:Nat} {v:Value} (hb:Below w.heap.size w w') (h:Spare w p id sz v) : Spare w' p id sz v:=h.keep rfl rfl fun b _ _ aq=>hb.block b aq
theorem Sp.keep {w w':World} {h h':Hp} {p p':Pl} {id k sz:Nat} {v:Value} (hh:∀ e sz ak qs,h'[id]? = some (some (.bag e sz false ak qs))→h[id]? = some (some (.bag e sz false ak qs))∧p' id=p id∧p'.S id=p.S id∧∀ b j,p.O id b j→b < w.heap.size→w'.heap[b]? = w.heap[b]?)
  (aM:w.heap.size≤w'.heap.size) (hs:Sp w h p id k sz v) : Sp w' h' p' id k sz v:=fun e bw ak qs he=>by
 obtain ⟨g1,g2,g3,g4⟩:=hh e bw ak qs he;obtain ⟨h1,h2,h3,h4⟩:=hs e bw ak qs g1;refine ⟨h1,h2.keep g2 g3 fun b j hS=>g4 b j (.inr hS),by rw [g2];exact Nat.lt_of_lt_of_le h3 aM,fun cur e' k' v' hc hk=>h4 cur e' k' v' ?_ hk⟩;rw [g2,g4 _ 0 (.inl rfl) h3] at hc;exact hc
theorem Sp.later {w w':World} {h:Hp} {p:Pl} {id k sz:Nat} {v:Value} (hb:Below w.heap.size w w') (hs:Sp w h p id k sz v) : Sp w' h p id k sz v:=hs.keep (fun _ _ _ _ he=>⟨he,rfl,rfl,fun b _ _ aq=>hb.block b aq⟩) hb.size
theorem Osl.keep {w w':World} {g:Nat} {e:TypeId} {sz:Nat} {nl:Bool} {n:Nat} {v:Value} (hb:nl=false→g < w.heap.size→w'.heap[g]? = w.heap[g]?) (h:Osl w g e sz nl n v) : Osl w' g e sz nl n v:=by
 unfold Osl at h ⊢;cases nl
 ·simp only [Bool.false_eq_true,if_false] at h ⊢;obtain ⟨cap,cur,h1,h2,h3⟩:=h;exact ⟨cap,cur,h1,(hb rfl (Array.getElem?_eq_some_iff.1 h2).1).trans h2,h3⟩
 ·exact h
theorem V1.later {w w':World} {M:Nat→Nat→Prop} {h:Hp} {p:Pl} (hb:Below w.heap.size w w') {av:AV} {v:Value} (hv:V1 w M h p av v) : V1 w' M h p av v:=
 hv.keep (.of_below hb) (fun _ _ _ h=>h) (Nat.le_refl _) (fun _ _=>rfl) (fun _ _ _ _ _ _ _ he hv=>(hv _ _ _ _ he).below hb) (fun _ _ _ _ _ _ _ _ he hv=>(hv _ _ _ _ _ he).below hb) fun _ _ _ _ _ hs=>hs.later hb
theorem V0.one {w:World} {M:Nat→Nat→Prop} {av:AV} {v:Value} (h:V0 w M av v) (h1:cQ av=true) : v.oneCell'=true:=by
 cases h<;>first|rfl|(simp [cQ] at h1;done)|exact h1
theorem V1.one {w:World} {M:Nat→Nat→Prop} {h:Hp} {p:Pl} {av:AV} {v:Value} (hv:V1 w M h p av v) (h1:cQ av=true) : v.oneCell'=true:=by
 cases hv with
 | base _ _ h0=>exact h0.one h1
 | slw _ _ _ _ _ _ h0 _=>exact h0.one rfl
 | _=>first|rfl|(simp [cQ] at h1;done)
theorem Osl.form {w:World} {g:Nat} {e:TypeId} {sz:Nat} {nl:Bool} {n:Nat} {v:Value} (h:Osl w g e sz nl n v) : ∃ A n c,v = .slice A n c:=by
 unfold Osl at h;split at h
 ·obtain ⟨⟨A,h1⟩,_⟩:=h;exact ⟨_,_,_,h1⟩
 ·obtain ⟨cap,cur,h1,_⟩:=h;exact ⟨_,_,_,h1⟩
def nr:TypeDesc→Nat
 | .slice _=>1 | .array _ _=>2 | .struct _=>3 | .string=>4 | .int _=>5 | .bool=>6 | .pointer _=>7 | .func .. => 8 | .interface _=>9 | .map .. => 10|_=>0
def yb:TypeDesc→Nat
 | .slice e=>e | .array _ e=>e | .pointer e=>e|_=>0
def ET:TypeDesc→Nat
 | .array n _=>n|_=>0
def EU:TypeDesc→IntKind
 | .int k=>k|_=>.i64
structure TI where
 kind:Nat
 size:Nat
 bytes:Nat
 elem:Nat
 esz:Nat
 len:Nat
 ik:IntKind
 flds:List (Nat×Nat×Bool)
 zero:List Value
def dG (P:Program) (t:TypeId) : Nat:=if (P.underlying t).isSome then ((P.info? t).map (·.size)).getD 0 else 0
def mC (P:Program) (t:TypeId) : Bool:=match P.underlying t with|some (.struct _)|some (.array _ _)=>true|_=>false
def EV (P:Program) : TypeDesc→List (Nat×Nat×Bool)
 | .struct fs=>fs.toList.map fun f=>(f.offset,dG P f.type,mC P f.type)
 | _=>[]
def aU (P:Program) (t:TypeId) : Option TI:=
 match P.underlying t with
 | none=>none
 | some d=>
  match P.info? t with
  | none=>none
  | some i=>
   match i.zero with
   | none=>none
   | some z=>if z.cells.toList.all (·.oneCell') then some { kind:=nr d,size:=i.size,bytes:=i.bytes,elem:=yb d,esz:=dG P (yb d),len:=ET d,ik:=EU d,flds:=EV P d,zero:=z.cells.toList } else none
theorem e_ {P:Program} {t:TypeId} {ti:TI} (h:aU P t=some ti) : ∃ d i z,P.underlying t=some d∧P.info? t=some i∧i.zero=some z∧z.cells.toList.all (·.oneCell')=true ∧
  ti = { kind:=nr d,size:=i.size,bytes:=i.bytes,elem:=yb d,esz:=dG P (yb d),len:=ET d,ik:=EU d,flds:=EV P d,zero:=z.cells.toList }:=by
 unfold aU at h;split at h
 ·cases h
 ·rename_i d hd;split at h
  ·cases h
  ·rename_i i hi;split at h
   ·cases h
   ·rename_i z hz;split at h
    ·rename_i h1;exact ⟨d,i,z,hd,hi,hz,h1,(Option.some.inj h).symm⟩
    ·cases h
section
variable {P:Program} {t:TypeId} {ti:TI}
theorem lu (h:aU P t=some ti) (hk:ti.kind=1) : P.underlying t=some (.slice ti.elem):=by
 obtain ⟨d,i,z,hd,hi,hz,fE,rfl⟩:=e_ h;cases d<;>simp [nr] at hk;exact hd
theorem vh (h:aU P t=some ti) (hk:ti.kind=2) : P.underlying t=some (.array ti.len ti.elem):=by
 obtain ⟨d,i,z,hd,hi,hz,fE,rfl⟩:=e_ h;cases d<;>simp [nr] at hk;exact hd
theorem Bp (h:aU P t=some ti) (hk:ti.kind=3) : ∃ fs:Array Field,P.underlying t=some (.struct fs)∧ti.flds=fs.toList.map fun f=>(f.offset,dG P f.type,mC P f.type):=by
 obtain ⟨d,i,z,hd,hi,hz,fE,rfl⟩:=e_ h;cases d<;>simp [nr] at hk;exact ⟨_,hd,rfl⟩
theorem vJ (h:aU P t=some ti) (hk:ti.kind=4) : P.underlying t=some .string:=by
 obtain ⟨d,i,z,hd,hi,hz,fE,rfl⟩:=e_ h;cases d<;>simp [nr] at hk;exact hd
theorem Bq (h:aU P t=some ti) (hk:ti.kind=5) : P.underlying t=some (.int ti.ik):=by
 obtain ⟨d,i,z,hd,hi,hz,fE,rfl⟩:=e_ h;cases d<;>simp [nr] at hk;exact hd
theorem J6 (h:aU P t=some ti) (w:World) : (sizeOf t).run P w = .ok ti.size w:=by
 obtain ⟨d,i,z,hd,hi,hz,fE,rfl⟩:=e_ h;simp [sizeOf,typeInfo,hi]
theorem pr (h:aU P t=some ti) : ∃ z:Value,z.cells.toList=ti.zero∧ti.zero.all (·.oneCell')=true∧∀ w,(zeroValue t).run P w = .ok z w:=by
 obtain ⟨d,i,z,hd,hi,hz,fE,rfl⟩:=e_ h;exact ⟨z,rfl,fE,fun w=>by simp [zeroValue,typeInfo,hi,hz]⟩
theorem J7 (h:aU P t=some ti) (w:World) : (isAgg t).run P w = .ok (ti.kind == 2 || ti.kind == 3) w:=by
 obtain ⟨d,i,z,hd,hi,hz,fE,rfl⟩:=e_ h;unfold isAgg;rw [Sem.run_bind,run_underlying hd w];cases d<;>rfl
theorem kk (hs:0 < dG P t) (w:World) : (sizeOf t).run P w = .ok (dG P t) w:=by
 unfold dG at hs ⊢;split at hs
 ·rename_i hu;rw [if_pos hu];cases hi:P.info? t with
  | none=>simp [hi] at hs
  | some i=>simp [sizeOf,typeInfo,hi]
 ·omega
theorem EW (hs:0 < dG P t) : (P.underlying t).isSome=true:=by
 unfold dG at hs;split at hs
 ·assumption
 ·omega
theorem J8 (hs:(P.underlying t).isSome=true) (w:World) : (isAgg t).run P w = .ok (mC P t) w:=by
 obtain ⟨d,hd⟩:=Option.isSome_iff_exists.1 hs;unfold isAgg mC;rw [Sem.run_bind,run_underlying hd w,hd];cases d<;>rfl
end
def fS:AV→List AV
 | .agg cs=>cs
 | v=>[v]
def sc (h:Hp) : AV→Option (List AV)
 | .vp cs=>some cs
 | .ref id off=>match h[id]? with|some (some (.box cs))=>some (cs.drop off)|_=>none
 | .aref id sz i off=>match h[id]? with
  | some (some (.arr _ bw _ es))=>if sz=bw∧i < es.length then some ((es.getD i []).drop off) else none
  | some (some (.bag _ bw nl ak qs))=>if sz=1∧i < qs.length∧off=0∧nl=false then some [if ak=some i then .sl bw (qs.getD i []) else .slw id i bw (qs.getD i [])] else none
  | _=>none
 | _=>none
def qc (P:Program) (h:Hp) (t:TypeId) (a:AV) : Option AV:=
 match aU P t with
 | none=>none
 | some ti=>match sc h a with
  | none=>none
  | some cs=>if ti.kind=2∨ti.kind=3 then (if ti.size≤cs.length then some (.agg (cs.take ti.size)) else none) else cs[0]?
def jC:Value→Option (Nat×IntKind)
 | .int k _=>some (5,k)
 | .string _=>some (4,.i64)
 | .bool _=>some (6,.i64)
 | _=>none
def qu:TypeDesc→Option (Nat×IntKind)
 | .int k=>some (5,k)
 | .string=>some (4,.i64)
 | .bool=>some (6,.i64)
 | _=>none
structure Bas where
 w:World
 X:Nat→Nat→Prop
def Fr (w0:Bas) (b j:Nat) : Prop:=w0.w.heap.size≤b∨w0.X b j
def Own (w0:Bas) (p:Pl) (id:Nat) : Prop:=(∀ j,Fr w0 (p id) j)∧∀ b j,¬p.S id b j
def BagOK (w0:Bas) (w:World) (M:Nat→Nat→Prop) (p:Pl) (id e sz:Nat) (ak:Option Nat) (qs:List (List (List AV))) : Prop:=
 (∀ b j,p.O id b j→Fr w0 b j∧b < w.heap.size)∧(∀ j,¬p.S id (p id) j)∧∃ cur,w.heap[p id]? = some (.cells cur e (0,0))∧qs.length≤cur.size ∧
  (∀ (k:Nat) (x:List (List AV)),qs[k]? = some x→∃ v,cur[k]? = some v∧V0 w M (.sl sz x) v∧(ak≠some k→Spare w p id sz v)) ∧
  ∀ k k' v v',k < qs.length→k' < qs.length→k≠k'→ak≠some k→ak≠some k'→cur[k]? = some v→cur[k']? = some v'→Dist v v'
def StB (es:Array MapEntry) (clock:Nat) : Prop:=(∀ x∈es.toList,x.born < clock)∧(es.toList.map (·.born)).Nodup
theorem J9 (clock:Nat) : StB #[] clock:=⟨by simp,by simp⟩
theorem J_ {es:Array MapEntry} {clock:Nat} (h:StB es clock) (key val:Value) : StB (es.push { key,val,born:=clock }) (clock+1):=by
 obtain ⟨h1,h2⟩:=h;refine ⟨fun x hx=>?_,?_⟩
 ·simp only [Array.toList_push,List.mem_append,List.mem_singleton] at hx;rcases hx with hx|rfl
  ·exact Nat.lt_succ_of_lt (h1 x hx)
  ·exact Nat.lt_succ_self _
 ·simp only [Array.toList_push,List.map_append,List.map_cons,List.map_nil];refine List.nodup_append.2 ⟨h2,by simp,fun a ha b hb=>?_⟩;simp only [List.mem_singleton] at hb;subst hb;obtain ⟨x,hx,rfl⟩:=List.mem_map.1 ha;exact Nat.ne_of_lt (h1 x hx)
theorem Ka {es:Array MapEntry} {clock:Nat} (h:StB es clock) (i:Nat) (f:MapEntry→MapEntry) (hb:∀ e,(f e).born=e.born) : StB (es.modify i f) clock:=by
 have qv:(es.modify i f).toList.map (·.born)=es.toList.map (·.born):=by
  apply List.ext_getElem?;intro j;simp only [List.getElem?_map,Array.getElem?_toList,Array.getElem?_modify];split
  ·cases es[j]?<;>simp [hb]
  ·rfl
 refine ⟨fun x hx=>?_,by rw [qv];exact h.2⟩;have hm:x.born∈(es.modify i f).toList.map (·.born):=List.mem_map_of_mem hx;rw [qv] at hm;obtain ⟨y,hy,he⟩:=List.mem_map.1 hm;rw [←he];exact h.1 y hy
def ObOK (w0:Bas) (w:World) (M:Nat→Nat→Prop) (h:Hp) (p:Pl) (id:Nat) : Ob→Prop
 | .box cs=>Own w0 p id∧∃ cur e,w.heap[p id]? = some (.cells cur e (0,0))∧cur.size=cs.length∧(∀ c∈cs,cQ c=true)∧∀ (j:Nat) (c:AV),cs[j]? = some c→∃ u,cur[j]? = some u∧V1 w M h p c u
 | .arr e sz nl es=>0 < sz∧(∀ (k:Nat) (x:List AV),es[k]? = some x→x.length=sz∧∀ c∈x,cQ c=true) ∧
   if nl=true then es=[] else Own w0 p id∧∃ cur,w.heap[p id]? = some (.cells cur e (0,0))∧es.length*sz≤cur.size∧∀ (k:Nat) (x:List AV) (j:Nat) (c:AV),es[k]? = some x→x[j]? = some c→∃ u,cur[k*sz+j]? = some u∧V0 w M c u
 | .mpo kf iv=>Own w0 p id∧(∀ q∈iv,jC q.1=some kf)∧∃ es clock,w.heap[p id]? = some (.map es clock)∧es.toList.map (fun e=>(e.key,e.val))=iv∧StB es clock
 | .bag e sz nl ak qs=>0 < sz∧if nl=true then qs=[] else BagOK w0 w M p id e sz ak qs
def cn:Ob→Bool
 | .arr _ _ true _=>false
 | .bag _ _ true _ _=>false
 | _=>true
def Mof (M0:Nat→Nat→Prop) (h:Hp) (p:Pl) (b j:Nat) : Prop:=M0 b j∨∃ id ob,h[id]? = some (some ob)∧cn ob=true∧p.O id b j
section
variable {P:Program} {w:World} {w0:Bas} {M:Nat→Nat→Prop} {h:Hp} {p:Pl}
theorem An (hO:∀ id ob,h[id]? = some (some ob)→ObOK w0 w M h p id ob) {a:AV} {cs:List AV} {v:Value} (ha:V1 w M h p a v) (hc:sc h a=some cs) :
  ∃ b o,v = .pointer (some ⟨b,o,none⟩)∧(∀ c∈cs,cQ c=true)∧∀ (j:Nat) (c:AV),cs[j]? = some c→∃ u,w.cell? ⟨b,o+j,none⟩=some u∧V1 w M h p c u:=by
 cases ha with
 | base _ _ h0=>
  cases h0<;>simp only [sc,Option.some.injEq,reduceCtorEq] at hc
  case vp b o u hb hM h1 aE hv=>
   subst hc;exact ⟨b,o,rfl,h1,fun j c hj=>⟨u j,aE j (List.getElem?_eq_some_iff.1 hj).1,.base _ _ (hv j c hj)⟩⟩
 | ref id off hid=>
  simp only [sc] at hc;split at hc
  ·rename_i dI jS;obtain ⟨_,cur,e,hg,aM,h1,hv⟩:=hO id _ jS;simp only [Option.some.injEq] at hc;subst hc;refine ⟨_,_,rfl,fun c hc=>h1 c (List.mem_of_mem_drop hc),fun j c hj=>?_⟩;rw [List.getElem?_drop] at hj;obtain ⟨u,hu,bA⟩:=hv _ c hj;exact ⟨u,by rw [cell_of_row w (p id) _ cur e (0,0) hg];exact hu,bA⟩
  ·cases hc
 | aref id sz i off hid=>
  simp only [sc] at hc;split at hc
  ·rename_i e bw nl es jS;split at hc
   ·rename_i eE;obtain ⟨rfl,hi⟩:=eE;obtain ⟨aM,h1,ba⟩:=hO id _ jS;have aL:nl≠true:=fun hn=>by rw [if_pos hn] at ba;subst ba;simp at hi
    rw [if_neg aL] at ba;obtain ⟨_,cur,hg,_,hv⟩:=ba;simp only [Option.some.injEq] at hc;subst hc;have hx:es[i]? = some (es.getD i []):=by simp [List.getD,hi]
    refine ⟨_,_,rfl,fun c hc=>(h1 i _ hx).2 c (List.mem_of_mem_drop hc),fun j c hj=>?_⟩;rw [List.getElem?_drop] at hj;obtain ⟨u,hu,bA⟩:=hv i _ _ c hx hj;exact ⟨u,by rw [cell_of_row w (p id) _ cur e (0,0) hg,Nat.add_assoc];exact hu,.base _ _ bA⟩
   ·cases hc
  ·rename_i e bw nl ak qs jS;split at hc
   ·rename_i eE;obtain ⟨rfl,hi,rfl,rfl⟩:=eE;have dN:=(hO id _ jS).2;rw [if_neg (by simp)] at dN;obtain ⟨xO,Kb,cur,hg,hlen,hv,iP⟩:=dN;simp only [Option.some.injEq] at hc;subst hc;have hx:qs[i]? = some (qs.getD i []):=by simp [List.getD,hi]
    obtain ⟨v,EX,cR,fY⟩:=hv i _ hx;refine ⟨_,_,rfl,fun c hc=>?_,fun j c hj=>?_⟩
    ·simp only [List.mem_singleton] at hc;subst hc;split<;>rfl
    ·cases j with
     | succ j=>simp at hj
     | zero=>
      simp only [List.getElem?_cons_zero,Option.some.injEq] at hj;subst hj;refine ⟨v,by rw [cell_of_row w (p id) _ cur e (0,0) hg];simpa using EX,?_⟩;split
      ·exact .base _ _ cR
      ·rename_i hp;refine .slw id i bw _ v hid cR fun e2 s2 p2 q2 he=>?_;rw [jS] at he;simp only [Option.some.injEq,Ob.bag.injEq] at he;obtain ⟨rfl,rfl,_,rfl,rfl⟩:=he;refine ⟨rfl,fY hp,(Array.getElem?_eq_some_iff.1 hg).1,fun cur' e' k' v' gY dF ax gq bA=>?_⟩;rw [hg] at gY;injection gY with gY
       injection gY with gY _ _
       subst gY;exact iP i k' v v' hi dF (Ne.symm ax) hp gq EX bA
   ·cases hc
  ·cases hc
 | _=>simp [sc] at hc
theorem EY {Q:AV→Value→Prop} {R:Nat→Value→Prop} : ∀ (cs:List AV) (k:Nat),(∀ (j:Nat) (c:AV),cs[j]? = some c→∃ u,R (k+j) u∧Q c u)→∃ us:List Value,us.length=cs.length∧(∀ j u,us[j]? = some u→R (k+j) u)∧∀ (j:Nat) (c:AV) (u:Value),cs[j]? = some c→us[j]? = some u→Q c u
 | [],_,_=>⟨[],rfl,by simp,by simp⟩
 | c::cs,k,h=>by
  obtain ⟨u,hu,hq⟩:=h 0 c rfl;obtain ⟨us,hl,h1,h2⟩:=EY cs (k+1) fun j c hj=>by
   obtain ⟨u,hu,hq⟩:=h (j+1) c (by simpa using hj);exact ⟨u,by rwa [show k+1+j=k+(j+1) by omega],hq⟩
  refine ⟨u::us,by simp [hl],fun j v hj=>?_,fun j c' v hc hv=>?_⟩
  ·cases j with
   | zero=>simp at hj;subst hj;exact hu
   | succ j=>rw [show k+(j+1)=k+1+j by omega];exact h1 j v (by simpa using hj)
  ·cases j with
   | zero=>simp at hc hv;subst hc;subst hv;exact hq
   | succ j=>exact h2 j c' v (by simpa using hc) (by simpa using hv)
theorem Am (hO:∀ id ob,h[id]? = some (some ob)→ObOK w0 w M h p id ob) {t:TypeId} {a r:AV} {v:Value} (ha:V1 w M h p a v) (hr:qc P h t a=some r) :
  ∃ u,(Instr.loadAt t v).run P w = .ok u w∧V1 w M h p r u:=by
 unfold qc at hr;split at hr
 ·cases hr
 ·rename_i ti aV;split at hr
  ·cases hr
  ·rename_i cs bW;obtain ⟨b,o,rfl,h1,hc⟩:=An hO ha bW;obtain ⟨us,hl,hu,hv⟩:=EY (R:=fun j u=>w.cell? ⟨b,o+j,none⟩=some u) cs 0 (by simpa using hc);simp only [Nat.zero_add] at hu;simp only [Instr.loadAt,Instr.sureAddr,Sem.run_bind,Sem.run_pure,Result.andThen_ok];split at hr
   ·rename_i hk;split at hr
    ·rename_i aM;simp only [Option.some.injEq] at hr;subst hr;obtain ⟨d,i,z,hd,hi,hz,fE,rfl⟩:=e_ aV;have hlen:(us.take i.size).length=i.size:=by simp only [List.length_take];simp only at aM;omega
     refine ⟨_,run_loadVar_mid w b o t (us.take i.size) d (fun j u hj=>hu j u ?_) hd ?_ ?_,.agg _ _ (by simp only [List.length_take];omega) (fun c hc=>h1 c (List.mem_of_mem_take hc)) fun j c u hj eM=>?_⟩
     ·rw [List.getElem?_take] at hj;split at hj
      ·exact hj
      ·cases hj
     ·cases d<;>simp_all [nr]
     ·rw [hi,hlen];rfl
     ·rw [List.getElem?_take] at hj eM;split at hj
      ·rename_i bB;rw [if_pos bB] at eM;exact hv j c u hj eM
      ·cases hj
    ·cases hr
   ·rename_i hk;cases cs with
    | nil=>simp at hr
    | cons c cs=>
     simp only [List.getElem?_cons_zero,Option.some.injEq] at hr;subst hr;obtain ⟨u,hu,hv⟩:=hc 0 c rfl;refine ⟨u,?_,hv⟩;have dF:(ti.kind == 2 || ti.kind == 3)=false:=by simpa [not_or] using hk
     simp only [loadVar,Sem.run_bind,J7 aV,dF,Result.andThen_ok,Bool.false_eq_true,if_false,run_load];rw [Nat.add_zero] at hu;rw [hu]
end
def ye (op:BinOp) (a b:Value) : Option Value:=
 match a,b with
 | .int k a,.int k' b=>
  if k=k' then
   match op with
   | .add=>some (.int k (k.wrap (a+b)))
   | .sub=>some (.int k (k.wrap (a - b)))
   | .mul=>some (.int k (k.wrap (a*b)))
   | .quo=>if b=0 then none else some (.int k (k.wrap (a.tdiv b)))
   | .rem=>if b=0 then none else some (.int k (a.tmod b))
   | .eql=>some (.bool (decide (a=b)))
   | .neq=>some (.bool (!decide (a=b)))
   | .lss=>some (.bool (decide (a < b)))
   | .leq=>some (.bool (decide (a≤b)))
   | .gtr=>some (.bool (decide (b < a)))
   | .geq=>some (.bool (decide (b≤a)))
   | _=>none
  else none
 | .string a,.string b=>
  match op with
  | .add=>if a.size+b.size≤9223372036854775807 then some (.string (a++b)) else none
  | .eql=>some (.bool (decide (a=b)))
  | .neq=>some (.bool !(decide (a=b)))
  | .lss=>some (.bool (Op.bytesLess a.toList b.toList))
  | .leq=>some (.bool (Op.bytesLess a.toList b.toList || decide (a=b)))
  | .gtr=>some (.bool !(Op.bytesLess a.toList b.toList || decide (a=b)))
  | .geq=>some (.bool !(Op.bytesLess a.toList b.toList))
  | _=>none
 | _,_=>none
def Br (op:BinOp) (a b:Bool) : Option Value:=
 match op with
 | .eql=>some (.bool (a == b))
 | .neq=>some (.bool !(a == b))
 | _=>none
def oI (P:Program) (t:TypeId) : Option Nat:=match P.underlying t with|some .bool=>some 6|some (.int _)=>some 5|some .string=>some 4|_=>none
def vK (P:Program) : List Field→Option (List (Nat×Nat))
 | []=>some []
 | f::fs=>match oI P f.type,vK P fs with
  | some k, some r => if f.name = "_" then none else some ((f.offset, k) :: r)
  | _,_=>none
def vL (c k:Nat) : List Nat→List (Nat×Nat)
 | []=>[]
 | i::is=>(i*c,k)::vL c k is
def ns (P:Program) (t:TypeId) : Option (List (Nat×Nat)):=
 if P.eqGuardType P.depth t=false then (match P.underlying t with
  | some (.struct fs)=>if P.stoodInHeld t=false then vK P fs.toList else none
  | some (.array n e)=>(match oI P e,P.info? e with
   | some k,some _=>some (vL (P.cellsOf e) k (List.range n))
   | _,_=>none)
  | _=>none) else none
def vM (k:Nat) (a b:AV) : Option Bool:=match a,b with
 | .lit (.int q x),.lit (.int q' y)=>if k=5∧q=q' then some (decide (x=y)) else none
 | .lit (.string x),.lit (.string y)=>if k=4 then some (decide (x=y)) else none
 | .lit (.bool x),.lit (.bool y)=>if k=6 then some (x == y) else none
 | _,_=>none
def nu (xs ys:List AV) : List (Nat×Nat)→Option Bool
 | []=>some true
 | (o,k)::r=>match (xs.drop o).head?,(ys.drop o).head? with
  | some a,some b=>match vM k a b,nu xs ys r with
   | some x,some y=>some (x&&y)
   | _,_=>none
  | _,_=>none
def isK:Operand→Bool
 | .const _=>true
 | _=>false
def vN (P:Program) (op:BinOp) (t:TypeId) (c b:Bool) : Option AV:=match aU P t with
 | some ti=>if ti.kind=9 then (if c=true then (match op with | .eql=>some (.lit (.bool b)) | .neq=>some (.lit (.bool !b))|_=>none) else none) else none
 | none=>none
def yf (P:Program) (op:BinOp) (t:TypeId) (c:Bool) (x y:AV) : Option AV:=
 match x,y with
 | .lit .nilIface,.lit .nilIface=>vN P op t c true
 | .iface _ _,.lit .nilIface=>vN P op t c false
 | .lit (.bool a),.lit (.bool b)=>match aU P t with|some ti=>if ti.kind=6 then (Br op a b).map .lit else none|none=>none
 | .lit a,.lit b=>(ye op a b).map .lit
 | .agg xs,.agg ys=>match op,ns P t with
  | .eql,some L=>(nu xs ys L).map fun b=>.lit (.bool b)
  | .neq,some L=>(nu xs ys L).map fun b=>.lit (.bool !b)
  | _,_=>none
 | _,_=>none
section
variable {P:Program} {w:World} {w0:Bas} {M:Nat→Nat→Prop} {h:Hp} {p:Pl}
theorem V1.lit_inv {v u:Value} (hv:V1 w M h p (.lit v) u) : u=v:=by
 cases hv with
 | base _ _ h0=>cases h0;rfl
theorem EZ (a b:ByteArray) : (a.toList == b.toList)=decide (a=b):=by
 rw [ByteArray.toList_eq,ByteArray.toList_eq,Bool.eq_iff_iff];simp only [beq_iff_eq,decide_eq_true_eq];constructor
 ·intro h;cases a;cases b;congr;exact Array.toList_inj.1 h
 ·exact fun h=>by rw [h]
theorem E0 (a b:Int) : (a == b)=decide (a=b):=by
 rw [Bool.eq_iff_iff];simp
theorem Kc {op:BinOp} {a b r:Value} (hr:ye op a b=some r) (t:TypeId) (x y:Operand) : (do eqGuard op t x y a b;binOp op t a b:Sem Value).run P w = .ok r w:=by
 unfold ye at hr;split at hr
 ·split at hr
  ·rename_i k a k' b hk;subst hk;cases op<;>simp only [Option.some.injEq,reduceCtorEq] at hr;all_goals try split at hr
   all_goals try (cases hr;done)
   all_goals try simp only [Option.some.injEq] at hr
   all_goals subst hr
   all_goals simp_all [eqGuard,binOp,Op.intArith,Op.intDiv,Op.intCmp,E0,bne]
  ·cases hr
 ·rename_i a b;cases op<;>simp only [Option.some.injEq,reduceCtorEq] at hr;all_goals try split at hr
  all_goals try (cases hr;done)
  all_goals try simp only [Option.some.injEq] at hr
  all_goals subst hr
  all_goals try (simp [eqGuard,binOp,Op.stringOp,EZ];done)
  rename_i aM;have:¬(IntKind.max IntKind.i64 < ((a.size+b.size:Nat) : Int)):=by show ¬((9223372036854775807:Int) < _);omega
  simp only [eqGuard,binOp,Op.stringOp];simp;omega
 ·cases hr
theorem V1.agg_parts {cs:List AV} {u:Value} (hv:V1 w M h p (.agg cs) u) : ∃ us:List Value,u = .agg us.toArray∧us.length=cs.length∧∀ (i:Nat) (c:AV) (v:Value),cs[i]? = some c→us[i]? = some v→V1 w M h p c v:=by
 cases hv with
 | base _ _ h0=>
  cases h0 with
  | agg _ us hl _ h=>exact ⟨us,rfl,hl,fun i c v hc hu=>.base _ _ (h i c v hc hu)⟩
 | agg _ us hl _ h=>exact ⟨us,rfl,hl,h⟩
theorem E2 {e:TypeId} {k:Nat} (hk:oI P e=some k) : P.plainKey e=true:=by
 unfold oI at hk;unfold Program.plainKey;split at hk<;>simp_all
theorem Ke {e:TypeId} {k:Nat} {a b:AV} {x y:Value} {r:Bool} (hk:oI P e=some k) (hr:vM k a b=some r) (hx:V1 w M h p a x) (hy:V1 w M h p b y) (d:Nat) : (Op.equalIn (d+1) e x y).run P w = .ok r w:=by
 unfold vM at hr;split at hr
 ·obtain rfl:=hx.lit_inv;obtain rfl:=hy.lit_inv;split at hr
  ·rename_i hq;obtain ⟨rfl,rfl⟩:=hq;unfold oI at hk;split at hk<;>simp at hk;rename_i hu;simp only [Option.some.injEq] at hr;rw [run_equalIn_int w d e _ _ _ _ hu,←hr,E0]
  ·cases hr
 ·obtain rfl:=hx.lit_inv;obtain rfl:=hy.lit_inv;split at hr
  ·rename_i hq;subst hq;unfold oI at hk;split at hk<;>simp at hk;rename_i hu;simp only [Option.some.injEq] at hr;rw [run_equalIn_string w d e _ _ hu,←hr,EZ]
  ·cases hr
 ·obtain rfl:=hx.lit_inv;obtain rfl:=hy.lit_inv;split at hr
  ·rename_i hq;subst hq;unfold oI at hk;split at hk<;>simp at hk;rename_i hu;simp only [Option.some.injEq] at hr;rw [run_equalIn_bool' w d e _ _ hu,←hr]
  ·cases hr
 ·cases hr
theorem E4 {cs ds:List AV} {us vs:List Value} (hl:us.length=cs.length) (bj:vs.length=ds.length)
  (hv:∀ (i:Nat) (c:AV) (v:Value),cs[i]? = some c→us[i]? = some v→V1 w M h p c v) (bA:∀ (i:Nat) (c:AV) (v:Value),ds[i]? = some c→vs[i]? = some v→V1 w M h p c v)
  {e:TypeId} {k o:Nat} {a b:AV} {r:Bool} (hk:oI P e=some k) (ha:(cs.drop o).head? = some a) (hb:(ds.drop o).head? = some b) (hr:vM k a b=some r) (d:Nat) :
  ∃ x y,(part e us.toArray o).run P w = .ok x w∧(part e vs.toArray o).run P w = .ok y w∧(Op.equalIn (d+1) e x y).run P w = .ok r w:=by
 rw [List.head?_drop] at ha hb;have h1:o < us.length:=by rw [hl];exact (List.getElem?_eq_some_iff.1 ha).1
 have h2:o < vs.length:=by rw [bj];exact (List.getElem?_eq_some_iff.1 hb).1
 exact ⟨us[o],vs[o],run_part_plain w (E2 hk) (by simp [h1]),run_part_plain w (E2 hk) (by simp [h2]),
  Ke hk hr (hv o _ _ ha (List.getElem?_eq_getElem h1)) (bA o _ _ hb (List.getElem?_eq_getElem h2)) d⟩
theorem E5 {cs ds:List AV} {us vs:List Value} (hl:us.length=cs.length) (bj:vs.length=ds.length)
  (hv:∀ (i:Nat) (c:AV) (v:Value),cs[i]? = some c→us[i]? = some v→V1 w M h p c v) (bA:∀ (i:Nat) (c:AV) (v:Value),ds[i]? = some c→vs[i]? = some v→V1 w M h p c v) (d:Nat) :
  ∀ (fs:List Field) (L:List (Nat×Nat)) (r:Bool),vK P fs=some L→nu cs ds L=some r→(Op.eqFields (d+1) us.toArray vs.toArray fs).run P w = .ok r w
 | [],L,r,hL,hr=>by
  simp only [vK,Option.some.injEq] at hL;subst hL;simp only [nu,Option.some.injEq] at hr;subst hr;simp [Op.eqFields]
 | f::fs,L,r,hL,hr=>by
  unfold vK at hL;split at hL
  ·rename_i k r' hk Kf;split at hL
   ·cases hL
   ·rename_i hn;simp only [Option.some.injEq] at hL;subst hL;unfold nu at hr;split at hr
    ·rename_i a b ha hb;split at hr
     ·rename_i x y hx hy;simp only [Option.some.injEq] at hr;obtain ⟨u,v,p1,p2,p3⟩:=E4 hl bj hv bA hk ha hb hx d;have ih:=E5 hl bj hv bA d fs r' y Kf hy
      simp only [Op.eqFields, if_pos (show f.name ≠ "_" from hn), Sem.run_bind, p1, p2, p3, Result.andThen_ok]
      cases x
      ·subst hr;simp
      ·subst hr;simpa using ih
     ·cases hr
    ·cases hr
  ·cases hL
theorem E6 {cs ds:List AV} {us vs:List Value} (hl:us.length=cs.length) (bj:vs.length=ds.length)
  (hv:∀ (i:Nat) (c:AV) (v:Value),cs[i]? = some c→us[i]? = some v→V1 w M h p c v) (bA:∀ (i:Nat) (c:AV) (v:Value),ds[i]? = some c→vs[i]? = some v→V1 w M h p c v) (d:Nat) {e:TypeId} {k c:Nat} (hk:oI P e=some k) :
  ∀ (is:List Nat) (r:Bool),nu cs ds (vL c k is)=some r→(Op.eqItems (d+1) e c us.toArray vs.toArray is).run P w = .ok r w
 | [],r,hr=>by
  simp only [vL,nu,Option.some.injEq] at hr;subst hr;simp [Op.eqItems]
 | i::is,r,hr=>by
  unfold vL nu at hr;split at hr
  ·rename_i a b ha hb;split at hr
   ·rename_i x y hx hy;simp only [Option.some.injEq] at hr;obtain ⟨u,v,p1,p2,p3⟩:=E4 hl bj hv bA hk ha hb hx d;have ih:=E6 hl bj hv bA d hk is y hy;simp only [Op.eqItems,Sem.run_bind,p1,p2,p3,Result.andThen_ok];cases x
    ·subst hr;simp
    ·subst hr;simpa using ih
   ·cases hr
  ·cases hr
theorem E7 {t:TypeId} {L:List (Nat×Nat)} {cs ds:List AV} {us vs:List Value} {r:Bool} (hL:ns P t=some L) (hl:us.length=cs.length) (bj:vs.length=ds.length)
  (hv:∀ (i:Nat) (c:AV) (v:Value),cs[i]? = some c→us[i]? = some v→V1 w M h p c v) (bA:∀ (i:Nat) (c:AV) (v:Value),ds[i]? = some c→vs[i]? = some v→V1 w M h p c v) (hr:nu cs ds L=some r) :
  P.eqGuardType P.depth t=false∧(Op.equalIn 10000 t (.agg us.toArray) (.agg vs.toArray)).run P w = .ok r w:=by
 unfold ns at hL;split at hL
 ·rename_i hg;refine ⟨hg,?_⟩;split at hL
  ·rename_i fs hu;split at hL
   ·rename_i hs;have hf:P.fieldsOf t=fs:=by simp [Program.fieldsOf,hu]
    rw [show (10000:Nat)=9998+1+1 from rfl,run_equalIn_struct w _ t _ _ (by rw [hf];exact hu) hs,hf];exact E5 hl bj hv bA _ _ _ _ hL hr
   ·cases hL
  ·rename_i n e hu;split at hL
   ·rename_i k i hk hi;simp only [Option.some.injEq] at hL;subst hL;rw [show (10000:Nat)=9998+1+1 from rfl,run_equalIn_array w _ _ _ hu hi];exact E6 hl bj hv bA _ hk _ _ hr
   ·cases hL
  ·cases hL
 ·cases hL
theorem V1.iface_inv {ti:TypeId} {av:AV} {u:Value} (hv:V1 w M h p (.iface ti av) u) : ∃ u',u = .iface ti u':=by
 cases hv with
 | base _ _ h0=>cases h0;exact ⟨_,rfl⟩
 | iface _ _ u'=>exact ⟨u',rfl⟩
theorem E8 {op:BinOp} {t:TypeId} {c q:Bool} {r:AV} {a b:Value} {ox oy:Operand} (hc:c=true→isK ox=true∨isK oy=true) (hr:vN P op t c q=some r)
  (yg:(q=true∧a = .nilIface∧b = .nilIface)∨(q=false∧(∃ ti u,a = .iface ti u)∧b = .nilIface)) :
  ∃ u,(do eqGuard op t ox oy a b;binOp op t a b:Sem Value).run P w = .ok u w∧V1 w M h p r u:=by
 unfold vN at hr;split at hr
 ·rename_i ti aV;split at hr
  ·rename_i hk;split at hr
   ·rename_i cG;obtain ⟨dd,i,z,hd,hi,hz,fE,rfl⟩:=e_ aV;obtain ⟨ms,rfl⟩ : ∃ ms,dd = .interface ms:=by
     revert hk
     cases dd<;>intro hk<;>first|exact ⟨_,rfl⟩|(simp [nr] at hk)
    have cw:=hc cG;have he:(Op.equalIn Op.maxDepth t a b).run P w = .ok q w:=by
     rcases yg with ⟨rfl,rfl,rfl⟩|⟨rfl,⟨ti,u,rfl⟩,rfl⟩<;>(show (Op.equalIn (9999+1) t _ _).run P w=_;unfold Op.equalIn;simp [run_underlying hd])
    have hg:∀ vO,(eqGuard vO t ox oy a b).run P w = .ok () w:=by
     intro vO;rcases yg with ⟨rfl,rfl,rfl⟩|⟨rfl,⟨ti,u,rfl⟩,rfl⟩
     ·unfold eqGuard;rcases cw with cw|cw
      ·cases ox<;>simp [isK] at cw;cases vO<;>simp
      ·cases oy<;>simp [isK] at cw;cases vO<;>simp
     ·cases vO<;>simp [eqGuard]
    have ax:binOp .eql t a b=(do pure (.bool (←Op.equal t a b)))∧binOp .neq t a b=(do pure (.bool !(←Op.equal t a b))):=by
     rcases yg with ⟨rfl,rfl,rfl⟩|⟨rfl,⟨ti,u,rfl⟩,rfl⟩<;>exact ⟨rfl,rfl⟩
    split at hr
    ·simp only [Option.some.injEq] at hr;subst hr;refine ⟨.bool q,?_,.base _ _ (.lit _)⟩;simp only [Sem.run_bind,hg,Result.andThen_ok,ax.1,Op.equal,he,Sem.run_pure]
    ·simp only [Option.some.injEq] at hr;subst hr;refine ⟨.bool !q,?_,.base _ _ (.lit _)⟩;simp only [Sem.run_bind,hg,Result.andThen_ok,ax.2,Op.equal,he,Sem.run_pure]
    ·cases hr
   ·cases hr
  ·cases hr
 ·cases hr
theorem Kg {op:BinOp} {t:TypeId} {c:Bool} {x y r:AV} {a b:Value} (hx:V1 w M h p x a) (hy:V1 w M h p y b) (ox oy:Operand) (hc:c=true→isK ox=true∨isK oy=true) (hr:yf P op t c x y=some r) :
  ∃ u,(do eqGuard op t ox oy a b;binOp op t a b:Sem Value).run P w = .ok u w∧V1 w M h p r u:=by
 unfold yf at hr;split at hr
 ·obtain rfl:=hx.lit_inv;obtain rfl:=hy.lit_inv;exact E8 hc hr (.inl ⟨rfl,rfl,rfl⟩)
 ·obtain ⟨u,rfl⟩:=hx.iface_inv;obtain rfl:=hy.lit_inv;exact E8 hc hr (.inr ⟨rfl,⟨_,_,rfl⟩,rfl⟩)
 ·rename_i c d;obtain rfl:=hx.lit_inv;obtain rfl:=hy.lit_inv;split at hr
  ·rename_i ti aV;split at hr
   ·rename_i hk;obtain ⟨v,hv,rfl⟩:=Option.map_eq_some_iff.1 hr;refine ⟨v,?_,.base _ _ (.lit v)⟩;obtain ⟨dd,i,z,hd,hi,hz,fE,rfl⟩:=e_ aV;cases dd<;>simp [nr] at hk;unfold Br at hv;cases op<;>simp at hv;all_goals subst hv
    ·have:=run_eql_bool (P:=P) w t c d hd;simp [eqGuard,this]
    ·have:=run_neq_bool (P:=P) w t c d hd;simp [eqGuard,this]
   ·cases hr
  ·cases hr
 ·obtain rfl:=hx.lit_inv;obtain rfl:=hy.lit_inv;obtain ⟨v,hv,rfl⟩:=Option.map_eq_some_iff.1 hr;exact ⟨v,Kc hv _ _ _,.base _ _ (.lit v)⟩
 ·rename_i xs ys;obtain ⟨us,rfl,hl,hv⟩:=hx.agg_parts;obtain ⟨vs,rfl,bj,bA⟩:=hy.agg_parts;split at hr
  ·rename_i L hL;obtain ⟨b,hb,rfl⟩:=Option.map_eq_some_iff.1 hr;obtain ⟨hg,he⟩:=E7 hL hl bj hv bA hb;refine ⟨.bool b,?_,.base _ _ (.lit _)⟩;simp only [Sem.run_bind,run_eqGuard_agg w _ t ox oy _ _ hg,Result.andThen_ok,run_eql_struct,he]
  ·rename_i L hL;obtain ⟨b,hb,rfl⟩:=Option.map_eq_some_iff.1 hr;obtain ⟨hg,he⟩:=E7 hL hl bj hv bA hb;refine ⟨.bool !b,?_,.base _ _ (.lit _)⟩;simp only [Sem.run_bind,run_eqGuard_agg w _ t ox oy _ _ hg,Result.andThen_ok,run_neq_struct,he]
  ·cases hr
 ·cases hr
def unA (op:UnOp) (x:AV) : Option AV:=
 match op,x with
 | .not,.lit (.bool b)=>some (.lit (.bool !b))
 | .neg,.lit (.int k n)=>some (.lit (.int k (k.wrap (0 - n))))
 | _,_=>none
theorem Kh {op:UnOp} {x r:AV} {a:Value} (hx:V1 w M h p x a) (hr:unA op x=some r) : ∃ u,(Op.unary op a).run P w = .ok u w∧V1 w M h p r u:=by
 unfold unA at hr;split at hr
 ·obtain rfl:=hx.lit_inv;simp only [Option.some.injEq] at hr;subst hr;exact ⟨_,rfl,.base _ _ (.lit _)⟩
 ·obtain rfl:=hx.lit_inv;simp only [Option.some.injEq] at hr;subst hr;exact ⟨_,rfl,.base _ _ (.lit _)⟩
 ·cases hr
def yh (P:Program) (s d:TypeId) (x:AV) : Option AV:=
 match aU P s,aU P d with
 | some ts,some td=>
  match x with
  | .lit (.int _ n)=>if td.kind=5 then some (.lit (.int td.ik (td.ik.wrap n))) else none
  | .lit (.string v)=>if td.kind=4 then some (.lit (.string v)) else none
  | .sl 1 [[.lit (.int .u8 n)]]=>match aU P ts.elem with
   | some te=>if ts.kind=1∧td.kind=4∧te.kind=5∧te.ik = .u8∧0≤n∧n < 256 then some (.lit (.string ⟨#[UInt8.ofNat n.toNat]⟩)) else none
   | none=>none
  | _=>none
 | _,_=>none
theorem Ki {s d:TypeId} {x r:AV} {a:Value} (hx:V1 w M h p x a) (hr:yh P s d x=some r) : ∃ u,(convert s d a).run P w = .ok u w∧V1 w M h p r u:=by
 unfold yh at hr;split at hr
 ·rename_i ts td hs hd;obtain ⟨ds,i,z,tX,_⟩:=e_ hs;split at hr
  ·obtain rfl:=hx.lit_inv;split at hr
   ·rename_i hk;simp only [Option.some.injEq] at hr;subst hr;refine ⟨_,?_,.base _ _ (.lit _)⟩;simp [convert,run_underlying tX,run_underlying (Bq hd hk),Conv.intToInt]
   ·cases hr
  ·obtain rfl:=hx.lit_inv;split at hr
   ·rename_i hk;simp only [Option.some.injEq] at hr;subst hr;refine ⟨_,?_,.base _ _ (.lit _)⟩;simp [convert,run_underlying tX,run_underlying (vJ hd hk)]
   ·cases hr
  ·rename_i n;split at hr
   ·rename_i te fD;split at hr
    ·rename_i hc;obtain ⟨c1,c2,c3,c4,c5,c6⟩:=hc;simp only [Option.some.injEq] at hr;subst hr;have he:P.underlying ts.elem=some (.int .u8):=by
      have:=Bq fD c3;rwa [c4] at this
     cases hx with
     | base _ _ h0=>
      cases h0 with
      | sl _ _ cap b o u ax hb hM dy aM h1 aE hv=>
       have g1:=aE 0 0 (by simp) (by decide);have g2:=hv 0 _ 0 _ rfl rfl;have e:u 0 0 = .int .u8 n:=by
        generalize u 0 0=v at g2;cases g2;rfl
       rw [e] at g1;refine ⟨_,run_convert_bytes_back (P:=P) w s d ts.elem ⟨b,o,none⟩ cap [UInt8.ofNat n.toNat] (lu hs c1) he (vJ hd c2) fun j hj=>?_,.base _ _ (.lit _)⟩;obtain rfl:j=0:=by simpa using hj
       have hn:(UInt8.ofNat n.toNat).toNat=n.toNat:=UInt8.toNat_ofNat_of_lt' (by show n.toNat < 256;omega);simp only [List.getElem_cons_zero,hn,Int.toNat_of_nonneg c5];simpa [Addr.add] using g1
    ·cases hr
   ·cases hr
  ·cases hr
 ·cases hr
def yi (P:Program) (t:TypeId) (x:AV) (f:Nat) : Option AV:=
 match aU P t with
 | none=>none
 | some ti=>
  if ti.kind=3 then
   match ti.flds[f]? with
   | none=>none
   | some (o,s,_)=>
    if s=0 then none else
    match x with
    | .vp cs=>some (.vp (cs.drop o))
    | .ref id q=>some (.ref id (q+o))
    | .aref id sz i q=>some (.aref id sz i (q+o))
    | _=>none
  else none
theorem V0.drop {cs:List AV} {b o:Nat} (hv:V0 w M (.vp cs) (.pointer (some ⟨b,o,none⟩))) (n:Nat) : V0 w M (.vp (cs.drop n)) (.pointer (some ⟨b,o+n,none⟩)):=by
 cases hv with
 | vp _ _ _ u hb hM h1 hc hv=>
  refine .vp _ b (o+n) (fun j=>u (n+j)) hb (fun j hj=>by rw [Nat.add_assoc];exact hM _ (by rw [List.length_drop] at hj;omega)) (fun c hc=>h1 c (List.mem_of_mem_drop hc)) (fun j hj=>?_) fun j c hj=>?_
  ·rw [Nat.add_assoc];exact hc (n+j) (by simp only [List.length_drop] at hj;omega)
  ·rw [List.getElem?_drop] at hj;exact hv (n+j) c hj
theorem V1.vp_inv {cs:List AV} {u:Value} (hv:V1 w M h p (.vp cs) u) : V0 w M (.vp cs) u∧∃ b o,u = .pointer (some ⟨b,o,none⟩):=by
 cases hv with
 | base _ _ h0=>exact ⟨h0,by cases h0;exact ⟨_,_,rfl⟩⟩
theorem V1.ref_inv {id off:Nat} {u:Value} (hv:V1 w M h p (.ref id off) u) : u = .pointer (some ⟨p id,off,none⟩)∧id < h.length:=by
 cases hv with
 | base _ _ h0=>cases h0
 | ref _ _ hid=>exact ⟨rfl,hid⟩
theorem V1.aref_inv {id sz i off:Nat} {u:Value} (hv:V1 w M h p (.aref id sz i off) u) : u = .pointer (some ⟨p id,i*sz+off,none⟩)∧id < h.length:=by
 cases hv with
 | base _ _ h0=>cases h0
 | aref _ _ _ _ hid=>exact ⟨rfl,hid⟩
theorem Kj {t:TypeId} {x r:AV} {f:Nat} {a:Value} (hx:V1 w M h p x a) (hr:yi P t x f=some r) : ∃ u,(Instr.fieldAt t a f).run P w = .ok u w∧V1 w M h p r u:=by
 unfold yi at hr;split at hr
 ·cases hr
 ·rename_i ti aV;split at hr
  ·rename_i hk;split at hr
   ·cases hr
   ·rename_i o s g hf;split at hr
    ·cases hr
    ·rename_i hs;obtain ⟨fs,hu,cM⟩:=Bp aV hk;rw [cM,List.getElem?_map] at hf;obtain ⟨fd,nv,heq⟩:=Option.map_eq_some_iff.1 hf;simp only [Prod.mk.injEq] at heq;obtain ⟨rfl,rfl,rfl⟩:=heq;have sd:fs[f]? = some fd:=by simpa using nv
     have key:∀ b q,(Instr.fieldAt t (.pointer (some ⟨b,q,none⟩)) f).run P w = .ok (.pointer (some ⟨b,q+fd.offset,none⟩)) w:=by
      intro b q;simp only [Instr.fieldAt,Sem.run_bind,run_underlying hu,Result.andThen_ok,sd,Instr.sureAddr,Sem.run_pure,fieldPlace,kk (Nat.pos_of_ne_zero hs),hs,if_false,jn]
     split at hr
     ·obtain ⟨h0,b,q,rfl⟩:=hx.vp_inv;simp only [Option.some.injEq] at hr;subst hr;exact ⟨_,key b q,.base _ _ (h0.drop _)⟩
     ·obtain ⟨rfl,hid⟩:=hx.ref_inv;simp only [Option.some.injEq] at hr;subst hr;exact ⟨_,key _ _,.ref _ _ hid⟩
     ·obtain ⟨rfl,hid⟩:=hx.aref_inv;simp only [Option.some.injEq] at hr;subst hr;refine ⟨_,key _ _,?_⟩;rw [Nat.add_assoc];exact .aref _ _ _ _ hid
     ·cases hr
  ·cases hr
def vP (cs:List AV) (o s:Nat) (ag:Bool) : Option AV:=if ag then (if o+s≤cs.length then some (.agg ((cs.drop o).take s)) else none) else cs[o]?
theorem V1.agg_inv {cs:List AV} {u:Value} (hv:V1 w M h p (.agg cs) u) : ∃ us:List Value,u = .agg us.toArray∧us.length=cs.length∧(∀ c∈cs,cQ c=true)∧∀ (i:Nat) (c:AV) (u:Value),cs[i]? = some c→us[i]? = some u→V1 w M h p c u:=by
 cases hv with
 | base _ _ h0=>
  cases h0 with
  | agg _ us hl h1 hv=>exact ⟨us,rfl,hl,h1,fun i c u hc hu=>.base _ _ (hv i c u hc hu)⟩
 | agg _ us hl h1 hv=>exact ⟨us,rfl,hl,h1,hv⟩
theorem V1.tup_inv {cs:List AV} {u:Value} (hv:V1 w M h p (.tup cs) u) : ∃ us:List Value,u = .tuple us.toArray∧us.length=cs.length∧∀ (i:Nat) (c:AV) (u:Value),cs[i]? = some c→us[i]? = some u→V1 w M h p c u:=by
 cases hv with
 | base _ _ h0=>
  cases h0 with
  | tup _ us hl hv=>exact ⟨us,rfl,hl,fun i c u hc hu=>.base _ _ (hv i c u hc hu)⟩
 | tup _ us hl hv=>exact ⟨us,rfl,hl,hv⟩
theorem E9 {t:TypeId} {cs:List AV} {us:List Value} {o:Nat} {r:AV} (ht:(P.underlying t).isSome=true) (hs:0 < dG P t) (hl:us.length=cs.length) (h1:∀ c∈cs,cQ c=true)
  (hv:∀ (i:Nat) (c:AV) (u:Value),cs[i]? = some c→us[i]? = some u→V1 w M h p c u) (hr:vP cs o (dG P t) (mC P t)=some r) : ∃ u,(part t us.toArray o).run P w = .ok u w∧V1 w M h p r u:=by
 unfold vP at hr;simp only [part,Sem.run_bind,J8 ht,Result.andThen_ok];split at hr
 ·rename_i hg;split at hr
  ·rename_i hle;simp only [Option.some.injEq] at hr;subst hr;refine ⟨.agg ((us.drop o).take (dG P t)).toArray,?_,.agg _ _ (by simp [hl]) (fun c hc=>h1 c (List.mem_of_mem_drop (List.mem_of_mem_take hc))) fun i c u hc hu=>?_⟩
   ·simp only [hg,if_true,Sem.run_bind,kk hs,Result.andThen_ok,Sem.run_pure];congr 2;apply Array.ext';simp [List.take_drop]
   ·rw [List.getElem?_take] at hc hu;split at hc
    ·rename_i hi;rw [if_pos hi] at hu;rw [List.getElem?_drop] at hc hu;exact hv _ c u hc hu
    ·cases hc
  ·cases hr
 ·rename_i hg;have ho:o < us.length:=by rw [hl];exact (List.getElem?_eq_some_iff.1 hr).1
  refine ⟨us[o],?_,hv o r _ hr (List.getElem?_eq_getElem ho)⟩;simp [hg,ho]
def yj (P:Program) (t:TypeId) (x:AV) (f:Nat) : Option AV:=
 match aU P t with
 | none=>none
 | some ti=>
  if ti.kind=3 then
   match ti.flds[f]? with
   | none=>none
   | some (o,s,g)=>if s=0 then none else match x with | .agg cs=>vP cs o s g|_=>none
  else none
theorem Kk {t:TypeId} {x r:AV} {f:Nat} {a:Value} (hx:V1 w M h p x a) (hr:yj P t x f=some r) : ∃ u,(Instr.field t a f).run P w = .ok u w∧V1 w M h p r u:=by
 unfold yj at hr;split at hr
 ·cases hr
 ·rename_i ti aV;split at hr
  ·rename_i hk;split at hr
   ·cases hr
   ·rename_i o s g hf;split at hr
    ·cases hr
    ·rename_i hs;obtain ⟨fs,hu,cM⟩:=Bp aV hk;rw [cM,List.getElem?_map] at hf;obtain ⟨fd,nv,heq⟩:=Option.map_eq_some_iff.1 hf;simp only [Prod.mk.injEq] at heq;obtain ⟨rfl,rfl,rfl⟩:=heq;have sd:fs[f]? = some fd:=by simpa using nv
     split at hr
     ·obtain ⟨us,rfl,hl,h1,hv⟩:=hx.agg_inv;obtain ⟨u,aD,lT⟩:=E9 (w:=w) (P:=P) (EW (Nat.pos_of_ne_zero hs)) (Nat.pos_of_ne_zero hs) hl h1 hv hr;refine ⟨u,?_,lT⟩;simp only [Instr.field,Sem.run_bind,run_underlying hu,Result.andThen_ok,sd,asAgg,Sem.run_pure];exact aD
     ·cases hr
  ·cases hr
def dsl:AV→AV
 | .slw _ _ sz es=>.sl sz es
 | v=>v
def Bt (P:Program) (h:Hp) (t:TypeId) (x i:AV) : Option AV:=
 match aU P t,i with
 | some ti,.lit (.int _ n)=>
  if ti.esz=0 then none
  else if ti.kind=1 then
   match x with
   | .sl sz es=>if 0≤n∧n.toNat < es.length∧sz=ti.esz then some (.vp (es.getD n.toNat [])) else none
   | .osl id=>match h[id]? with
    | some (some (.arr _ sz _ es))=>if 0≤n∧n.toNat < es.length∧sz=ti.esz then some (.aref id sz n.toNat 0) else none
    | some (some (.bag _ _ _ _ qs))=>if 0≤n∧n.toNat < qs.length∧ti.esz=1 then some (.aref id 1 n.toNat 0) else none
    | _=>none
   | _=>none
  else if ti.kind=2 then
   if 0≤n∧n.toNat < ti.len then
    match x with
    | .vp cs=>some (.vp (cs.drop (n.toNat*ti.esz)))
    | .ref id q=>some (.ref id (q+n.toNat*ti.esz))
    | .aref id sz k q=>some (.aref id sz k (q+n.toNat*ti.esz))
    | _=>none
   else none
  else none
 | _,_=>none
def yk (P:Program) (h:Hp) (t:TypeId) (x i:AV) : Option AV:=Bt P h t (dsl x) i
theorem V1.dsl {x:AV} {u:Value} (hv:V1 w M h p x u) : V1 w M h p (dsl x) u:=by
 cases hv with
 | slw id k sz es _ hid h0 hs=>exact .base _ _ h0
 | base _ _ h0=>cases h0<;>first|exact .base _ _ (.any _)|exact .base _ _ (.lit _)|(constructor;constructor<;>assumption)
 | agg cs us hl h1 hv=>exact .agg cs us hl h1 hv
 | tup cs us hl hv=>exact .tup cs us hl hv
 | fn f a b us vs hl bj hv bA=>exact .fn f a b us vs hl bj hv bA
 | iface t v u hv=>exact .iface t v u hv
 | ref id off hid=>exact .ref id off hid
 | aref id sz i off hid=>exact .aref id sz i off hid
 | osl id A n c hid hv hb=>exact .osl id A n c hid hv hb
 | mp id hid=>exact .mp id hid
theorem V1.osl_inv {id:Nat} {u:Value} (hv:V1 w M h p (.osl id) u) : ∃ A n c,u = .slice A n c∧id < h.length∧∀ e sz nl es,h[id]? = some (some (.arr e sz nl es))→Osl w (p id) e sz nl es.length u:=by
 cases hv with
 | base _ _ h0=>cases h0
 | osl _ A n c hid hv=>exact ⟨A,n,c,rfl,hid,hv⟩
theorem V1.bag_inv {id:Nat} {u:Value} (hv:V1 w M h p (.osl id) u) : ∃ A n c,u = .slice A n c∧id < h.length∧∀ e sz nl ak qs,h[id]? = some (some (.bag e sz nl ak qs))→Osl w (p id) e 1 nl qs.length u:=by
 cases hv with
 | base _ _ h0=>cases h0
 | osl _ A n c hid _ hb=>exact ⟨A,n,c,rfl,hid,hb⟩
theorem V1.sl_inv {sz:Nat} {es:List (List AV)} {u:Value} (hv:V1 w M h p (.sl sz es) u) : V0 w M (.sl sz es) u:=by
 cases hv with
 | base _ _ h0=>exact h0
theorem Kl (hO:∀ id ob,h[id]? = some (some ob)→ObOK w0 w M h p id ob) {t:TypeId} {x i r:AV} {a b:Value} (hx:V1 w M h p x a) (hi:V1 w M h p i b) (hr:yk P h t x i=some r) :
  ∃ u,(Instr.indexAt t a b).run P w = .ok u w∧V1 w M h p r u:=by
 unfold yk at hr;replace hx:=hx.dsl
 generalize dsl x=x at hx hr;unfold Bt at hr;split at hr
 ·rename_i ti k n aV;obtain rfl:=hi.lit_inv;split at hr
  ·cases hr
  ·rename_i tE;have ff:ti.esz=dG P ti.elem:=by obtain ⟨d,i,z,hd,hi,hz,fE,rfl⟩:=e_ aV;rfl
   have cH:0 < dG P ti.elem:=by omega
   split at hr
   ·rename_i hk;have hu:=lu aV hk;split at hr
    ·rename_i sz es;split at hr
     ·rename_i hc;simp only [Option.some.injEq] at hr;subst hr;obtain ⟨h0,h1,rfl⟩:=hc;have hv:=hx.sl_inv;cases hv with
      | slNil=>simp at h1
      | sl _ _ cap b o u ax hb hM dy aM b_ aE iK=>
       have tF:es[n.toNat]? = some (es.getD n.toNat []):=by simp [List.getD,h1]
       have Bu:=aM _ _ tF;refine ⟨.pointer (some ⟨b,o+n.toNat*ti.esz,none⟩),?_,.base _ _ (.vp _ b _ (fun j=>u n.toNat j) hb (fun j hj=>hM _ j h1 (by rw [Bu] at hj;exact hj)) (fun c hc=>?_) (fun j hj=>?_) fun j c hj=>iK _ _ _ _ tF hj)⟩
       ·have aq:0≤n∧n < (es.length:Int):=by omega
        simp [Instr.indexAt,run_underlying hu,asIntOf,aq,kk cH,jn,ff]
       ·obtain ⟨j,hj⟩:=List.mem_iff_getElem?.1 hc;exact b_ _ _ _ _ tF hj
       ·exact aE _ _ h1 (by omega)
     ·cases hr
    ·rename_i id;split at hr
     ·rename_i e sz nl es hid;split at hr
      ·rename_i hc;obtain ⟨h0,h1,rfl⟩:=hc;simp only [Option.some.injEq] at hr;subst hr;obtain ⟨A,m,c,rfl,eD,hv⟩:=hx.osl_inv;have ho:=hv _ _ _ _ hid;obtain ⟨aM,_,ba⟩:=hO id _ hid;have aL:nl≠true:=fun hn=>by rw [if_pos hn] at ba;subst ba;simp at h1
       unfold Osl at ho;rw [if_neg aL] at ho;obtain ⟨cap,cur,heq,_⟩:=ho;injection heq with lv Bv Bw
       subst lv Bv Bw;refine ⟨_,?_,.aref id ti.esz n.toNat 0 eD⟩;have aq:0≤n∧n < (es.length:Int):=by omega
       simp [Instr.indexAt,run_underlying hu,asIntOf,aq,kk cH,jn,ff]
      ·cases hr
     ·rename_i e sz nl ak qs hid;split at hr
      ·rename_i hc;obtain ⟨h0,h1,h2⟩:=hc;simp only [Option.some.injEq] at hr;subst hr;obtain ⟨A,m,c,rfl,eD,hv⟩:=hx.bag_inv;have ho:=hv _ _ _ _ _ hid;obtain ⟨aM,ba⟩:=hO id _ hid;have aL:nl≠true:=fun hn=>by rw [if_pos hn] at ba;subst ba;simp at h1
       unfold Osl at ho;rw [if_neg aL] at ho;obtain ⟨cap,cur,heq,_⟩:=ho;injection heq with lv Bv Bw
       subst lv Bv Bw;refine ⟨_,?_,.aref id 1 n.toNat 0 eD⟩;have aq:0≤n∧n < (qs.length:Int):=by omega
       have uO:dG P ti.elem=1:=by omega
       simp [Instr.indexAt,run_underlying hu,asIntOf,aq,kk cH,jn,uO]
      ·cases hr
     ·cases hr
    ·cases hr
   ·split at hr
    ·rename_i hk;have hu:=vh aV hk;split at hr
     ·rename_i hc;have aq:0≤n∧n < (ti.len:Int):=by omega
      have key:∀ b q,(Instr.indexAt t (.pointer (some ⟨b,q,none⟩)) (.int k n)).run P w = .ok (.pointer (some ⟨b,q+n.toNat*ti.esz,none⟩)) w:=by
       intro b q;simp [Instr.indexAt,run_underlying hu,asIntOf,Instr.sureAddr,aq,kk cH,jn,ff]
      split at hr
      ·obtain ⟨h0,b,q,rfl⟩:=hx.vp_inv;simp only [Option.some.injEq] at hr;subst hr;exact ⟨_,key b q,.base _ _ (h0.drop _)⟩
      ·obtain ⟨rfl,hid⟩:=hx.ref_inv;simp only [Option.some.injEq] at hr;subst hr;exact ⟨_,key _ _,.ref _ _ hid⟩
      ·obtain ⟨rfl,hid⟩:=hx.aref_inv;simp only [Option.some.injEq] at hr;subst hr;refine ⟨_,key _ _,?_⟩;rw [Nat.add_assoc];exact .aref _ _ _ _ hid
      ·cases hr
     ·cases hr
    ·cases hr
 ·cases hr
def yl (P:Program) (t:TypeId) (x i:AV) : Option AV:=
 match aU P t,x,i with
 | some ti,.lit (.string s),.lit (.int _ n)=>if ti.kind=4∧0≤n∧n.toNat < s.size then some (.lit (.int .u8 (lI s n.toNat).toNat)) else none
 | some ti,.agg cs,.lit (.int _ n)=>if ti.kind=2∧0≤n∧n.toNat < ti.len∧ti.esz≠0 then vP cs (n.toNat*ti.esz) ti.esz (mC P ti.elem) else none
 | _,_,_=>none
theorem Km {t:TypeId} {x i r:AV} {a b:Value} (hx:V1 w M h p x a) (hi:V1 w M h p i b) (hr:yl P t x i=some r) : ∃ u,(Instr.index t a b).run P w = .ok u w∧V1 w M h p r u:=by
 unfold yl at hr;split at hr
 ·rename_i ti s k n aV;obtain rfl:=hx.lit_inv;obtain rfl:=hi.lit_inv;split at hr
  ·rename_i hc;obtain ⟨hk,h0,h1⟩:=hc;simp only [Option.some.injEq] at hr;subst hr;refine ⟨_,?_,.base _ _ (.lit _)⟩;simp [Instr.index,asIntOf,run_underlying (vJ aV hk),h0,h1,IB h1]
  ·cases hr
 ·rename_i ti cs k n aV;obtain rfl:=hi.lit_inv;split at hr
  ·rename_i hc;obtain ⟨hk,h0,h1,h2⟩:=hc;have ff:ti.esz=dG P ti.elem:=by obtain ⟨d,i,z,hd,hi,hz,fE,rfl⟩:=e_ aV;rfl
   have cH:0 < dG P ti.elem:=by omega
   obtain ⟨us,rfl,hl,b_,hv⟩:=hx.agg_inv;rw [ff] at hr;obtain ⟨u,aD,lT⟩:=E9 (w:=w) (P:=P) (EW cH) cH hl b_ hv hr;refine ⟨u,?_,lT⟩;have aq:0≤n∧n < (ti.len:Int):=by omega
   simp [Instr.index,asIntOf,run_underlying (vh aV hk),aq,kk cH,aD]
  ·cases hr
 ·cases hr
end
section
variable {P:Program} {w:World} {w0:Bas} {M:Nat→Nat→Prop} {h:Hp} {p:Pl}
def jT (d:Int) : Option AV→Option Int
 | none=>some d
 | some (.lit (.int _ n))=>some n
 | _=>none
def tY (P:Program) (t:TypeId) (x:AV) (lo hi mx:Option AV) : Option AV:=
 match aU P t,x,mx with
 | some ti,.sl sz es,none=>
  match jT 0 lo,jT es.length hi with
  | some l,some m=>if ti.kind=1∧sz=ti.esz∧ti.esz≠0∧0≤l∧l≤m∧m.toNat≤es.length then some (.sl sz ((es.take m.toNat).drop l.toNat)) else none
  | _,_=>none
 | some ti,.lit (.string s),none=>
  match jT 0 lo,jT s.size hi with
  | some l,some m=>if ti.kind=4∧0≤l∧l≤m∧m.toNat≤s.size then some (.lit (.string (s.extract l.toNat m.toNat))) else none
  | _,_=>none
 | some ti,.vp cs,none=>match lo,hi with
  | none,none=>if ti.kind=2∧ti.esz=1∧ti.len=cs.length∧ti.len≠0 then some (.sl 1 (cs.map fun c=>[c])) else none
  | _,_=>none
 | _,_,_=>none
def Bd (w:World) (M:Nat→Nat→Prop) (h:Hp) (p:Pl) : Option AV→Option Value→Prop
 | none,none=>True
 | some a,some v=>V1 w M h p a v
 | _,_=>False
theorem ym {k:IntKind} {n:Int} {y:Nat} {c:BoundsCode} (h0:0≤n) (h1:n≤y) : (Instr.sliceBound (.int k n) y c).run P w = .ok n.toNat w:=by
 simp [Instr.sliceBound,asIntOf,h0,h1]
theorem yn {isS:Bool} {len cap:Nat} {lo hi:Option AV} {a b:Option Value} {l m:Int} (ha:Bd w M h p lo a) (hb:Bd w M h p hi b) (hl:jT 0 lo=some l) (hm:jT len hi=some m) (h0:0≤l) (h1:l≤m) (h2:m.toNat≤cap) :
  (Instr.sliceBounds isS len cap a b none).run P w = .ok (l.toNat,m.toNat,cap) w:=by
 cases lo with
 | none=>
  cases a with
  | some _=>exact ha.elim
  | none=>
   simp only [jT,Option.some.injEq] at hl;subst hl;cases hi with
   | none=>
    cases b with
    | some _=>exact hb.elim
    | none=>
     simp only [jT,Option.some.injEq] at hm;subst hm;simp [Instr.sliceBounds]
   | some x=>
    cases b with
    | none=>exact hb.elim
    | some b=>
     cases x<;>simp [jT] at hm;rename_i v;cases v<;>simp at hm;rename_i k n;subst hm;obtain rfl:=V1.lit_inv hb;have e:=fun c=>ym (P:=P) (w:=w) (k:=k) (n:=n) (y:=cap) (c:=c) h1 (by omega);simp [Instr.sliceBounds,e]
 | some x=>
  cases a with
  | none=>exact ha.elim
  | some a=>
   cases x<;>simp [jT] at hl;rename_i v;cases v<;>simp at hl;rename_i k n;subst hl;obtain rfl:=V1.lit_inv ha;cases hi with
   | none=>
    cases b with
    | some _=>exact hb.elim
    | none=>
     simp only [jT,Option.some.injEq] at hm;subst hm;have e:=fun c=>ym (P:=P) (w:=w) (k:=k) (n:=n) (y:=len) (c:=c) h0 h1;simp [Instr.sliceBounds,e]
   | some y=>
    cases b with
    | none=>exact hb.elim
    | some b=>
     cases y<;>simp [jT] at hm;rename_i u;cases u<;>simp at hm;rename_i k2 n2;subst hm;obtain rfl:=V1.lit_inv hb;have e:=fun c=>ym (P:=P) (w:=w) (k:=k2) (n:=n2) (y:=cap) (c:=c) (by omega) (by omega);have e2:=fun c=>ym (P:=P) (w:=w) (k:=k) (n:=n) (y:=n2.toNat) (c:=c) h0 (by omega);simp [Instr.sliceBounds,e,e2]
theorem By {α β:Type} {f:α→β} {l:List α} {i:Nat} {x:β} (h:(l.map f)[i]? = some x) : ∃ a,l[i]? = some a∧f a=x:=by
 rw [List.getElem?_map] at h;exact Option.map_eq_some_iff.1 h
theorem D_ (a:Addr) (w:World) : (Instr.sureAddr (.pointer (some a))).run P w = .ok a w:=by simp [Instr.sureAddr]
theorem E_ {t:TypeId} {x r:AV} {v:Value} {lo hi:Option AV} {a b:Option Value} (hx:V1 w M h p x v) (ha:Bd w M h p lo a) (hb:Bd w M h p hi b) (hr:tY P t x lo hi none=some r) :
  ∃ u,(Instr.sliceAt t v a b none).run P w = .ok u w∧V1 w M h p r u:=by
 unfold tY at hr;split at hr
 ·rename_i ti sz es aV tU;split at hr
  ·rename_i l m hl hm;split at hr
   ·rename_i hc;obtain ⟨hk,aM,cH,h0,h1,h2⟩:=hc;simp only [Option.some.injEq] at hr;subst hr;have hu:=lu aV hk;have ff:ti.esz=dG P ti.elem:=by obtain ⟨d,i,z,hd,hi,hz,fE,rfl⟩:=e_ aV;rfl
    have hv:=hx.sl_inv;cases hv with
    | slNil _ A cap=>
     have oJ:l=0∧m=0:=by simp at h2;omega
     obtain ⟨rfl,rfl⟩:=oJ;refine ⟨.slice (if cap=0 then A else A.map (·.add (0*dG P ti.elem))) 0 cap,?_,.base _ _ ?_⟩
     ·have:=yn (P:=P) (isS:=true) (cap:=cap) ha hb hl hm (Int.le_refl _) (Int.le_refl _) (by simp);simp only [List.length_nil] at this;simp only [Instr.sliceAt,Sem.run_bind,run_underlying hu,Result.andThen_ok,Instr.slice,this,kk (show 0 < dG P ti.elem by omega),Sem.run_pure];simp
     ·simp only [Int.toNat_zero,List.take_nil,List.drop_nil];exact .slNil _ _ _
    | sl _ _ cap b' o u ax fC hM dy jU b_ aE iK=>
     have mu:=yn (P:=P) (isS:=true) (cap:=cap) ha hb hl hm h0 h1 (by omega);have aD:(Instr.sliceAt t (.slice (some ⟨b',o,none⟩) es.length cap) a b none).run P w = .ok (.slice (if cap=l.toNat then some ⟨b',o,none⟩ else some ⟨b',o+l.toNat*sz,none⟩) (m.toNat - l.toNat) (cap - l.toNat)) w:=by
      simp only [Instr.sliceAt,Sem.run_bind,run_underlying hu,Result.andThen_ok,Instr.slice,mu,kk (show 0 < dG P ti.elem by omega),Sem.run_pure,Option.map_some,jn,aM,ff]
     refine ⟨_,aD,.base _ _ ?_⟩;by_cases vQ:l=m
     ·subst vQ;have:(es.take l.toNat).drop l.toNat=[]:=List.drop_eq_nil_of_le (by rw [List.length_take];omega);rw [this,Nat.sub_self];exact .slNil _ _ _
     ·have lQ:((es.take m.toNat).drop l.toNat).length=m.toNat - l.toNat:=by rw [List.length_drop,List.length_take];omega
      rw [if_neg (by omega),←lQ];have bm:∀ (k:Nat) (e:List AV),((es.take m.toNat).drop l.toNat)[k]? = some e→es[l.toNat+k]? = some e:=by
       intro k e hk;rw [List.getElem?_drop,List.getElem?_take] at hk;split at hk
       ·exact hk
       ·cases hk
      refine .sl sz _ (cap - l.toNat) b' (o+l.toNat*sz) (fun k j=>u (l.toNat+k) j) (fun dB=>by rw [dB] at lQ;simp at lQ;omega) fC (fun k j hk hj=>by have:=hM (l.toNat+k) j (by rw [lQ] at hk;omega) hj;rw [Nat.add_mul,←Nat.add_assoc] at this;exact this) (by omega) (fun k e hk=>jU _ e (bm k e hk)) (fun k e j c hk=>b_ _ e j c (bm k e hk)) (fun k j hk hj=>?_) (fun k e j c hk=>iK _ e j c (bm k e hk));rw [←aE (l.toNat+k) j (by omega) hj,Nat.add_mul];congr 2;omega
   ·cases hr
  ·cases hr
 ·rename_i ti s aV tU;obtain rfl:=hx.lit_inv;split at hr
  ·rename_i l m hl hm;split at hr
   ·rename_i hc;obtain ⟨hk,h0,h1,h2⟩:=hc;simp only [Option.some.injEq] at hr;subst hr;refine ⟨_,?_,.base _ _ (.lit _)⟩;have mu:=yn (P:=P) (w:=w) (isS:=false) (len:=s.size) (cap:=s.size) ha hb hl hm h0 h1 h2;simp only [Instr.sliceAt,Sem.run_bind,run_underlying (vJ aV hk),Result.andThen_ok,Instr.slice];simp [mu]
   ·cases hr
  ·cases hr
 ·rename_i ti cs aV tU;split at hr
  ·split at hr
   ·rename_i hc;obtain ⟨hk,cO,lQ,ax⟩:=hc;simp only [Option.some.injEq] at hr;subst hr;obtain ⟨cR,b',o,rfl⟩:=hx.vp_inv;have tE:ti.esz=dG P ti.elem:=by obtain ⟨d,i,z,hd,hi,hz,fE,rfl⟩:=e_ aV;rfl
    cases cR with
    | vp _ _ _ u fC hM h1 aE iK=>
     have Kn:a=none:=by cases a<;>simp_all [Bd]
     have hb2:b=none:=by cases b<;>simp_all [Bd]
     subst Kn hb2;refine ⟨.slice (some ⟨b',o,none⟩) cs.length cs.length,?_,.base _ _ ?_⟩
     ·have:=D_ ⟨b',o,none⟩ (P:=P) w;simp only [Instr.sliceAt,Sem.run_bind,run_underlying (vh aV hk),Result.andThen_ok,this,Instr.sliceBounds,Sem.run_pure,kk (show 0 < dG P ti.elem by omega),lQ];simp only [Nat.sub_zero,Nat.zero_mul,jn,Nat.add_zero,ite_self]
     ·have hl:(cs.map fun c=>[c]).length=cs.length:=List.length_map _;rw [←hl];refine .sl 1 _ _ b' o (fun k _=>u k) (fun hn=>?_) fC (fun k j hk hj=>by rw [List.length_map] at hk;rw [show o+k*1+j=o+k by omega];exact hM k hk) (Nat.le_refl _) (fun k e he=>?_) (fun k e j c he hc=>?_) (fun k j hk hj=>?_) (fun k e j c he hc=>?_)
      ·rw [hn] at hl;simp at hl;omega
      ·obtain ⟨c,_,rfl⟩:=By he;rfl
      ·obtain ⟨c',gY,rfl⟩:=By he;rw [List.getElem?_singleton] at hc;split at hc
       ·injection hc with hc
        subst hc;exact h1 _ (List.mem_of_getElem? gY)
       ·cases hc
      ·rw [hl] at hk;have:=aE k hk;rw [show o+k*1+j=o+k by omega];exact this
      ·obtain ⟨c',gY,rfl⟩:=By he;rw [List.getElem?_singleton] at hc;split at hc
       ·injection hc with hc
        subst hc;exact iK _ _ gY
       ·cases hc
   ·cases hr
  ·cases hr
 ·cases hr
def yo (P:Program) (t:TypeId) (id k sz:Nat) (es:List (List AV)) (lo:Option AV) : Option AV:=
 match aU P t,jT 0 lo with
 | some ti,some l=>if ti.kind=1∧sz=ti.esz∧ti.esz≠0∧0≤l∧l.toNat≤es.length then some (.slw id k sz (es.drop l.toNat)) else none
 | _,_=>none
def yp (P:Program) (t:TypeId) (x:AV) (lo hi:Option AV) : Option AV:=
 match x,hi with
 | .slw id k sz es,none=>yo P t id k sz es lo
 | x,hi=>tY P t (dsl x) lo hi none
theorem V1.slw_inv {id k sz:Nat} {es:List (List AV)} {u:Value} (hv:V1 w M h p (.slw id k sz es) u) : id < h.length∧V0 w M (.sl sz es) u∧Sp w h p id k sz u:=by
 cases hv with
 | base _ _ h0=>cases h0
 | slw _ _ _ _ _ hid h0 hs=>exact ⟨hid,h0,hs⟩
theorem yq {n c l:Nat} (h:n - l < c - l) : n < c∧c≠l:=by omega
theorem Kp {t:TypeId} {id k sz:Nat} {es:List (List AV)} {r:AV} {v:Value} {lo:Option AV} {a:Option Value} (hx:V1 w M h p (.slw id k sz es) v) (ha:Bd w M h p lo a) (hr:yo P t id k sz es lo=some r) :
  ∃ u,(Instr.sliceAt t v a none none).run P w = .ok u w∧V1 w M h p r u:=by
 unfold yo at hr;split at hr
 ·rename_i ti l aV hl;split at hr
  ·rename_i hc;obtain ⟨hk,aM,cH,h0,h1⟩:=hc;simp only [Option.some.injEq] at hr;subst hr;obtain ⟨hid,cR,fY⟩:=hx.slw_inv;have hu:=lu aV hk;have ff:ti.esz=dG P ti.elem:=by obtain ⟨d,i,z,hd,hi,hz,fE,rfl⟩:=e_ aV;rfl
   have rD:tY P t (.sl sz es) lo none none=some (.sl sz (es.drop l.toNat)):=by
    unfold tY;rw [aV];show (match jT 0 lo,jT es.length none with
     | some l,some m=>if ti.kind=1∧sz=ti.esz∧ti.esz≠0∧0≤l∧l≤m∧m.toNat≤es.length then some (AV.sl sz ((es.take m.toNat).drop l.toNat)) else none
     | _,_=>none)=_
    rw [hl];show (if ti.kind=1∧sz=ti.esz∧ti.esz≠0∧0≤l∧l≤(es.length:Int)∧(es.length:Int).toNat≤es.length then some (AV.sl sz ((es.take (es.length:Int).toNat).drop l.toNat)) else none)=_;rw [if_pos ⟨hk,aM,cH,h0,by omega,by simp⟩,Int.toNat_natCast,List.take_length]
   obtain ⟨u,aD,Af⟩:=E_ (P:=P) (.base _ _ cR) ha (show Bd w M h p none none from trivial) rD;have nw:∃ A c,v = .slice A es.length c∧es.length≤c:=by
    cases cR with
    | slNil _ A c=>exact ⟨A,c,rfl,Nat.zero_le _⟩
    | sl _ _ c b o u ax hb hM dy=>exact ⟨_,c,rfl,dy⟩
   obtain ⟨A,c,rfl,hle⟩:=nw;have mu:=yn (P:=P) (w:=w) (isS:=true) (len:=es.length) (cap:=c) ha (show Bd w M h p none none from trivial) hl (show jT es.length none=some (es.length:Int) from rfl) h0 (by omega) (by simpa using hle);have f_:(Instr.sliceAt t (.slice A es.length c) a none none).run P w = .ok (.slice (if c=l.toNat then A else A.map (·.add (l.toNat*ti.esz))) (es.length - l.toNat) (c - l.toNat)) w:=by
    simp only [Int.toNat_natCast] at mu;simp only [Instr.sliceAt,Sem.run_bind,run_underlying hu,Result.andThen_ok,Instr.slice,mu,kk (show 0 < dG P ti.elem by omega),Sem.run_pure,ff]
   have Bz:u = .slice (if c=l.toNat then A else A.map (·.add (l.toNat*ti.esz))) (es.length - l.toNat) (c - l.toNat):=by
    rw [aD] at f_;injection f_
   refine ⟨u,aD,.slw id k sz _ u hid Af.sl_inv ?_⟩;rw [Bz];intro e bw ak qs he;obtain ⟨g1,⟨A2,n2,c2,heq,Kq,eT⟩,g4,g5⟩:=fY e bw ak qs he;injection heq with q1 q2 q3
   subst q1 q2 q3;have ax:es.length - l.toNat < c - l.toNat→c≠l.toNat:=fun aq=>(yq aq).2;refine ⟨g1,⟨_,_,_,rfl,Nat.sub_le_sub_right hle _,fun aq=>?_⟩,g4,?_⟩
   ·have yr:=(yq aq).1;obtain ⟨b,o,cur,t',r1,r2,r3,r4,r5,r6,r7⟩:=eT yr;clear eT g5;refine ⟨b,o+l.toNat*ti.esz,cur,t',?_,r2,?_,Nat.le_trans (Nat.sub_le _ _) r4,r5,r6,fun j hj=>r7 j ?_⟩
    ·rw [if_neg (ax aq),r1,Option.map_some,jn]
    ·have:l.toNat*sz+(c - l.toNat)*sz=c*sz:=by rw [←Nat.add_mul];congr 1;omega
     rw [←aM];omega
    ·have:l.toNat*sz+(es.length - l.toNat)*sz=es.length*sz:=by rw [←Nat.add_mul];congr 1;omega
     rw [←aM] at hj;omega
   ·intro cur e' k' v' hc iA cw lg bA;have hd:=g5 cur e' k' v' hc iA cw lg bA;intro b o n c' b' o' n' Ks e1 e2 l1 l2;injection e1 with e1 e3 e4
    subst e3 e4;rw [if_neg (ax l1)] at e1;cases A with
    | none=>cases e1
    | some ad=>
     simp only [Option.map_some,Option.some.injEq] at e1;obtain ⟨b1,o1,Kt,t1,r1,_⟩:=eT (yq l1).1;injection r1 with r1
     subst r1;rw [jn] at e1;injection e1 with e1 _ _
     subst e1;exact hd b1 o1 es.length c b' o' n' Ks rfl e2 (yq l1).1 l2
  ·cases hr
 ·cases hr
theorem Ku {t:TypeId} {x r:AV} {v:Value} {lo hi:Option AV} {a b:Option Value} (hx:V1 w M h p x v) (ha:Bd w M h p lo a) (hb:Bd w M h p hi b) (hr:yp P t x lo hi=some r) :
  ∃ u,(Instr.sliceAt t v a b none).run P w = .ok u w∧V1 w M h p r u:=by
 unfold yp at hr;split at hr
 ·have hb2:b=none:=by cases b<;>simp_all [Bd]
  subst hb2;exact Kp hx ha hr
 ·exact E_ hx.dsl ha hb hr
def oK:AV→Bool
 | .agg _=>true
 | v=>cQ v
def qw (cs:List AV) (o:Nat) : List AV→List AV
 | []=>cs
 | v::vs=>qw (cs.set o v) (o+1) vs
def oL (place:Nat→Option (Nat×Nat)) (cs:List AV) : List (Nat×AV)→Option (List AV)
 | []=>some cs
 | (i,v)::rest=>
  match place i with
  | none=>none
  | some (o,s)=>if (fS v).length=s∧o+s≤cs.length∧oK v=true then oL place (qw cs o (fS v)) rest else none
def yu (ti:TI) (i:Nat) : Option (Nat×Nat):=
 if ti.kind=3 then (ti.flds[i]?).bind fun f=>if f.2.1=0 then none else some (f.1,f.2.1)
 else if ti.kind=2∧ti.esz≠0 then some (i*ti.esz,ti.esz) else none
def yx (P:Program) (t:TypeId) (parts:List (Nat×AV)) : Option AV:=
 match aU P t with
 | none=>none
 | some ti=>if ti.kind=3∧ti.flds.all (fun f=>f.2.1 != 0)∨ti.kind=2∧ti.esz≠0 then (oL (yu ti) (ti.zero.map .lit) parts).map .agg else none
def Cells (w:World) (M:Nat→Nat→Prop) (h:Hp) (p:Pl) (cs:List AV) (us:List Value) : Prop:=
 us.length=cs.length∧(∀ c∈cs,cQ c=true)∧∀ (i:Nat) (c:AV) (u:Value),cs[i]? = some c→us[i]? = some u→V1 w M h p c u
theorem Cells.set {cs:List AV} {us:List Value} (hc:Cells w M h p cs us) {o:Nat} {c:AV} {u:Value} (h1:cQ c=true) (hv:V1 w M h p c u) : Cells w M h p (cs.set o c) (us.set o u):=by
 obtain ⟨hl,b_,hh⟩:=hc;refine ⟨by simp [hl],fun x hx=>?_,fun i x y hx hy=>?_⟩
 ·rcases List.mem_or_eq_of_mem_set hx with h'|rfl
  ·exact b_ x h'
  ·exact h1
 ·rw [List.getElem?_set] at hx hy;by_cases aG:o=i
  ·subst aG;rw [if_pos rfl] at hx hy;split at hx
   ·rename_i h2;rw [if_pos (by rw [hl];exact h2)] at hy;simp only [Option.some.injEq] at hx hy;subst hx;subst hy;exact hv
   ·cases hx
  ·rw [if_neg aG] at hx hy;exact hh i x y hx hy
theorem Cells.of_lits:∀ (zs:List Value),zs.all (·.oneCell')=true→Cells w M h p (zs.map .lit) zs:=by
 intro zs hz;refine ⟨by simp,fun c hc=>?_,fun i c u hc hu=>?_⟩
 ·obtain ⟨z,vl,rfl⟩:=List.mem_map.1 hc;exact List.all_eq_true.1 hz z vl
 ·rw [List.getElem?_map,hu] at hc;simp only [Option.map_some,Option.some.injEq] at hc;subst hc;exact .base _ _ (.lit _)
theorem V1.cells {v:AV} {u:Value} (hv:V1 w M h p v u) (h1:oK v=true) : Cells w M h p (fS v) u.cells.toList:=by
 by_cases se:∃ cs,v = .agg cs
 ·obtain ⟨cs,rfl⟩:=se;obtain ⟨us,rfl,hl,b_,hh⟩:=hv.agg_inv;exact ⟨by simpa [Value.cells,fS] using hl,b_,by simpa [Value.cells,fS] using hh⟩
 ·have b_:cQ v=true:=by
   cases v<;>first|exact h1|exact absurd ⟨_,rfl⟩ se
  have aE:=hv.one b_;have h2:fS v=[v]:=by cases v<;>first|rfl|exact absurd ⟨_,rfl⟩ se
  have h3:u.cells=#[u]:=by cases u<;>first|rfl|(simp [Value.oneCell'] at aE)
  rw [h2,h3];refine ⟨rfl,by simpa using b_,fun i c y hc hy=>?_⟩;cases i with
  | zero=>simp at hc hy;subst hc;subst hy;exact hv
  | succ i=>simp at hc
theorem Fa:∀ (vs:List AV) (us:List Value) (cs:List AV) (cur:Array Value) (o k:Nat),Cells w M h p vs us→Cells w M h p cs cur.toList →
  Cells w M h p (qw cs (o+k) vs) ((us.zipIdx k).foldl (fun cs (c,j)=>cs.setIfInBounds (o+j) c) cur).toList
 | [],us,cs,cur,o,k,hv,hc=>by
  have:us=[]:=List.eq_nil_of_length_eq_zero hv.1;subst this;simpa [qw] using hc
 | v::vs,us,cs,cur,o,k,hv,hc=>by
  cases us with
  | nil=>have:=hv.1;simp at this
  | cons u us=>
   obtain ⟨hl,b_,hh⟩:=hv;simp only [List.zipIdx_cons,List.foldl_cons,qw];rw [show o+k+1=o+(k+1) by omega];refine Fa vs us _ _ o (k+1) ⟨by simpa using hl,fun c hc=>b_ c (List.mem_cons_of_mem _ hc),fun i c y h1 h2=>hh (i+1) c y (by simpa using h1) (by simpa using h2)⟩ ?_;rw [Array.toList_setIfInBounds];exact hc.set (b_ v (List.mem_cons_self ..)) (hh 0 v u rfl rfl)
theorem BA {place:Nat→Option (Nat×Nat)} : ∀ (parts:List (Nat×AV)) (vals:List (Nat×Value)) (cs r:List AV) (cur:Array Value),Cells w M h p cs cur.toList→vals.map (·.1)=parts.map (·.1) →
  (∀ (i:Nat) (a:Nat×AV) (v:Nat×Value),parts[i]? = some a→vals[i]? = some v→V1 w M h p a.2 v.2)→oL place cs parts=some r→∃ cur':Array Value,Instr.fill place cur vals=some cur'∧Cells w M h p r cur'.toList
 | [],vals,cs,r,cur,hc,hl,_,hr=>by
  have:vals=[]:=by cases vals<;>simp at hl ⊢
  subst this;simp only [oL,Option.some.injEq] at hr;subst hr;exact ⟨cur,rfl,hc⟩
 | (i,v)::parts,vals,cs,r,cur,hc,hl,hv,hr=>by
  cases vals with
  | nil=>simp at hl
  | cons u vals=>
   simp only [List.map_cons,List.cons.injEq] at hl;obtain ⟨h1,h2⟩:=hl;obtain ⟨i',u⟩:=u;simp only at h1;subst h1;simp only [oL] at hr;split at hr
   ·cases hr
   ·rename_i o s hp;split at hr
    ·rename_i eE;obtain ⟨ha,hb,hd⟩:=eE;have aE:=(hv 0 (i',v) (i',u) rfl rfl).cells hd;have aM:u.cells.size=s:=by rw [←Array.length_toList,aE.1,ha]
     have hle:¬(o+u.cells.size > cur.size):=by rw [aM];have:=hc.1;rw [Array.length_toList] at this;omega
     have:=Fa _ _ cs cur o 0 aE hc;rw [Nat.add_zero] at this;obtain ⟨cur',hf,cG⟩:=BA parts vals _ r _ this h2 (fun i a v h1 h2=>hv (i+1) a v (by simpa using h1) (by simpa using h2)) hr;refine ⟨cur',?_,cG⟩;rw [aM] at hle;have BB:(decide (u.cells.size≠s) || decide (o+u.cells.size > cur.size))=false:=by simp [aM];omega
     simp only [Instr.fill,hp,BB,Bool.false_eq_true,if_false];rw [←hf];congr 1;rw [←Array.foldl_toList];congr 1;simp
    ·cases hr
theorem BC {f g:Nat→Option (Nat×Nat)} : ∀ (l:List (Nat×Value)) (cs:Array Value),(∀ x∈l,f x.1=g x.1)→Instr.fill f cs l=Instr.fill g cs l
 | [],_,_=>rfl
 | (i,v)::l,cs,hh=>by
  have e:f i=g i:=hh (i,v) (List.mem_cons_self ..);simp only [Instr.fill,e];split
  ·rfl
  ·split
   ·rfl
   ·exact BC l _ fun x hx=>hh x (List.mem_cons_of_mem _ hx)
end
section
variable {P:Program} {w:World} {w0:Bas} {M:Nat→Nat→Prop} {h:Hp} {p:Pl}
theorem Fb:∀ (fs:List Field),(fs.map fun f=>(f.offset,dG P f.type,mC P f.type)).all (fun f=>f.2.1 != 0)=true →
  (fs.mapM fun f=>do pure (f.offset,←sizeOf f.type) : Sem (List (Nat×Nat))).run P w = .ok (fs.map fun f=>(f.offset,dG P f.type)) w
 | [],_=>by simp
 | f::fs,hh=>by
  simp only [List.map_cons,List.all_cons,Bool.and_eq_true,bne_iff_ne,ne_eq] at hh;have ih:=Fb fs hh.2;simp only [List.mapM_cons,Sem.run_bind,kk (P:=P) (Nat.pos_of_ne_zero hh.1),Result.andThen_ok,Sem.run_pure,ih,List.map_cons]
theorem Fc {t:TypeId} {parts:List (Nat×AV)} {vals:Array (Nat×Value)} {r:AV} (hl:vals.toList.map (·.1)=parts.map (·.1))
  (hv:∀ (i:Nat) (a:Nat×AV) (v:Nat×Value),parts[i]? = some a→vals.toList[i]? = some v→V1 w M h p a.2 v.2) (hr:yx P t parts=some r) : ∃ u,(Instr.build t vals).run P w = .ok u w∧V1 w M h p r u:=by
 unfold yx at hr;split at hr
 ·cases hr
 ·rename_i ti aV;obtain ⟨z,hz,iM,km⟩:=pr aV;split at hr
  ·rename_i hk;obtain ⟨cs,hf,rfl⟩:=Option.map_eq_some_iff.1 hr;have lp:Cells w M h p (ti.zero.map .lit) z.cells.toList:=by rw [hz];exact Cells.of_lits _ iM
   obtain ⟨cur,iQ,cG⟩:=BA parts vals.toList _ _ z.cells lp hl hv hf;refine ⟨.agg cur,?_,?_⟩
   ·rcases hk with ⟨hk,aF⟩|hk
    ·obtain ⟨fs,hu,cM⟩:=Bp aV hk;rw [cM] at aF;have mm:=Fb (P:=P) (w:=w) fs.toList aF;have BD:(fs.mapM fun f=>do pure (f.offset,←sizeOf f.type) : Sem (Array (Nat×Nat))).run P w = .ok (fs.toList.map fun f=>(f.offset,dG P f.type)).toArray w:=by
      rw [←Array.toArray_toList (xs:=fs),List.mapM_toArray];simp only [Sem.run_map,mm,Result.andThen_ok]
     have ny:Instr.fill (fun i=>(fs.toList.map fun f=>(f.offset,dG P f.type)).toArray[i]?) z.cells vals.toList=some cur:=by
      rw [←iQ];refine BC _ _ fun x _=>?_;simp only [yu,hk,if_true,cM,List.getElem?_toArray,List.getElem?_map];cases hx:fs.toList[x.1]? with
      | none=>rfl
      | some f=>
       have ax:dG P f.type≠0:=by
        have hm:f∈fs.toList:=List.mem_of_getElem? hx;have:=List.all_eq_true.1 aF _ (List.mem_map_of_mem hm);simpa using this
       simp [ax]
     simp only [Instr.build,Sem.run_bind,km,Result.andThen_ok,run_underlying hu,BD,ny,Sem.run_pure]
    ·have tE:=hk.2;have hk:=hk.1;have hu:=vh aV hk;have ff:ti.esz=dG P ti.elem:=by obtain ⟨d,i,z,hd,hi,hz,fE,rfl⟩:=e_ aV;rfl
     have ny:Instr.fill (fun i=>some (i*ti.esz,ti.esz)) z.cells vals.toList=some cur:=by
      rw [←iQ];refine BC _ _ fun x _=>?_;simp [yu,hk,tE]
     simp only [Instr.build,Sem.run_bind,km,Result.andThen_ok,run_underlying hu,kk (P:=P) (show 0 < dG P ti.elem by omega),←ff,ny,Sem.run_pure]
   ·have:V1 w M h p (.agg cs) (.agg cur.toList.toArray):=.agg _ _ cG.1 cG.2.1 cG.2.2;simpa using this
  ·cases hr
def BE (P:Program) (h:Hp) (t:TypeId) (x:AV) : Option AV:=
 match aU P t,x with
 | some ti,.sl _ es=>if ti.kind=1 then some (.lit (.int .i64 es.length)) else none
 | some ti,.osl id=>match h[id]? with
  | some (some (.arr _ _ _ es))=>if ti.kind=1 then some (.lit (.int .i64 es.length)) else none
  | some (some (.bag _ _ _ _ qs))=>if ti.kind=1 then some (.lit (.int .i64 qs.length)) else none
  | _=>none
 | some ti,.lit (.string s)=>if ti.kind=4 then some (.lit (.int .i64 s.size)) else none
 | some ti,.lit (.slice _ n _)=>if ti.kind=1 then some (.lit (.int .i64 n)) else none
 | _,_=>none
def yy (P:Program) (h:Hp) (t:TypeId) (x:AV) : Option AV:=BE P h t (dsl x)
theorem Kv (hO:∀ id ob,h[id]? = some (some ob)→ObOK w0 w M h p id ob) {t ty:TypeId} {x r:AV} {a:Value} (hx:V1 w M h p x a) (hr:yy P h t x=some r) : ∃ u,(Builtin.len_ #[t] ty #[a]).run P w = .ok u w∧V1 w M h p r u:=by
 unfold yy at hr;replace hx:=hx.dsl
 generalize dsl x=x at hx hr;unfold BE at hr;split at hr
 ·rename_i ti sz es aV;split at hr
  ·rename_i hk;simp only [Option.some.injEq] at hr;subst hr;have hv:=hx.sl_inv;refine ⟨_,?_,.base _ _ (.lit _)⟩;cases hv<;>simp [Builtin.len_,run_underlying (lu aV hk),goInt]
  ·cases hr
 ·rename_i ti id aV;split at hr
  ·rename_i e sz nl es hid;split at hr
   ·rename_i hk;simp only [Option.some.injEq] at hr;subst hr;obtain ⟨A,n,c,rfl,eD,hv⟩:=hx.osl_inv;have ho:=hv _ _ _ _ hid;have hn:n=es.length:=by
     unfold Osl at ho;split at ho
     ·rename_i hn;have cO:=(hO id _ hid).2.2;rw [if_pos hn] at cO;subst cO;obtain ⟨⟨_,hq⟩,_⟩:=ho;injection hq
     ·obtain ⟨cap,cur,heq,_⟩:=ho;injection heq
    subst hn;exact ⟨_,by simp [Builtin.len_,run_underlying (lu aV hk),goInt],.base _ _ (.lit _)⟩
   ·cases hr
  ·rename_i e sz nl ak qs hid;split at hr
   ·rename_i hk;simp only [Option.some.injEq] at hr;subst hr;obtain ⟨A,n,c,rfl,eD,hv⟩:=hx.bag_inv;have ho:=hv _ _ _ _ _ hid;have hn:n=qs.length:=by
     unfold Osl at ho;split at ho
     ·rename_i hn;have cO:=(hO id _ hid).2;rw [if_pos hn] at cO;subst cO;obtain ⟨⟨_,hq⟩,_⟩:=ho;injection hq
     ·obtain ⟨cap,cur,heq,_⟩:=ho;injection heq
    subst hn;exact ⟨_,by simp [Builtin.len_,run_underlying (lu aV hk),goInt],.base _ _ (.lit _)⟩
   ·cases hr
  ·cases hr
 ·rename_i ti s aV;split at hr
  ·rename_i hk;simp only [Option.some.injEq] at hr;subst hr;obtain rfl:=hx.lit_inv;exact ⟨_,by simp [Builtin.len_,run_underlying (vJ aV hk),goInt],.base _ _ (.lit _)⟩
  ·cases hr
 ·rename_i ti A n c aV;split at hr
  ·rename_i hk;simp only [Option.some.injEq] at hr;subst hr;obtain rfl:=hx.lit_inv;exact ⟨_,by simp [Builtin.len_,run_underlying (lu aV hk),goInt],.base _ _ (.lit _)⟩
  ·cases hr
 ·cases hr
def qx (P:Program) (t:TypeId) : Option ((Nat×IntKind)×Value):=
 match P.underlying t with
 | some (.map k e)=>match P.underlying k,P.info? e with
  | some d,some i=>match qu d,i.zero with
   | some kf,some z=>if z.oneCell'=true then some (kf,z) else none
   | _,_=>none
  | _,_=>none
 | _=>none
theorem Fe {t:TypeId} {kf:Nat×IntKind} {z:Value} (h:qx P t=some (kf,z)) : ∃ k e d,P.underlying t=some (.map k e)∧P.underlying k=some d∧qu d=some kf∧z.oneCell'=true∧∀ w,(zeroValue e).run P w = .ok z w:=by
 unfold qx at h;split at h
 ·rename_i k e hu;split at h
  ·rename_i d i hd hi;split at h
   ·rename_i tZ z' hf hz;split at h
    ·rename_i h1;simp only [Option.some.injEq,Prod.mk.injEq] at h;obtain ⟨rfl,rfl⟩:=h;exact ⟨k,e,d,hu,hd,hf,h1,fun w=>by simp [zeroValue,typeInfo,hi,hz]⟩
    ·cases h
   ·cases h
  ·cases h
 ·cases h
def jV:Value→Value→Bool
 | .int _ a,.int _ b=>a == b
 | .string a,.string b=>decide (a=b)
 | .bool a,.bool b=>a == b
 | _,_=>false
def jg (key:Value) : List (Value×Value)→Option Value
 | []=>none
 | (k,v)::r=>if jV key k then some v else jg key r
def iR (key v:Value) : List (Value×Value)→List (Value×Value)
 | []=>[(key,v)]
 | (k,u)::r=>if jV key k then (key,v)::r else (k,u)::iR key v r
theorem Ff (a b:ByteArray) : (a == b)=decide (a=b):=by
 have h:(a == b)=(a.data == b.data):=rfl;rw [h,Bool.eq_iff_iff,beq_iff_eq,decide_eq_true_eq];constructor
 ·intro h;cases a;cases b;congr
 ·intro h;rw [h]
theorem Kw {d:TypeDesc} {kf:Nat×IntKind} (hd:qu d=some kf) {a b:Value} (ha:jC a=some kf) (hb:jC b=some kf) : Instr.sameNow d a b=some (jV a b):=by
 cases d<;>simp [qu] at hd<;>subst hd<;>cases a<;>simp [jC] at ha<;>cases b<;>simp [jC] at hb;all_goals first|(subst ha;subst hb;simp [Instr.sameNow,jV];done)|(simp [Instr.sameNow,jV,Ff];done)
theorem BF {d:TypeDesc} {kf:Nat×IntKind} (hd:qu d=some kf) {key:Value} (hk:jC key=some kf) : ∀ (es:List MapEntry) (i:Nat),(∀ e∈es,jC e.key=some kf) →
  (jg key (es.map fun e=>(e.key,e.val))=none∧Instr.findNow d key es i=some none∧iR key undef (es.map fun e=>(e.key,e.val))=es.map (fun e=>(e.key,e.val))++[(key,undef)]∧∀ v,iR key v (es.map fun e=>(e.key,e.val))=es.map (fun e=>(e.key,e.val))++[(key,v)]) ∨
  (∃ j e0,es[j]? = some e0∧jV key e0.key=true∧jg key (es.map fun e=>(e.key,e.val))=some e0.val∧Instr.findNow d key es i=some (some (i+j,e0.val))∧∀ v,iR key v (es.map fun e=>(e.key,e.val))=(es.map fun e=>(e.key,e.val)).set j (key,v))
 | [],i,_=>.inl ⟨rfl,rfl,rfl,fun _=>rfl⟩
 | e::es,i,h=>by
  have hs:=Kw hd hk (h e (List.mem_cons_self ..));cases hc:jV key e.key
  ·rw [hc] at hs;rcases BF hd hk es (i+1) (fun x hx=>h x (List.mem_cons_of_mem _ hx)) with ⟨h1,h2,h3,h4⟩|⟨j,e0,h1,h2,h3,h4,h5⟩
   ·refine .inl ⟨by simp [jg,hc,h1],by simp [Instr.findNow,hs,h2],by simp [iR,hc,h3],fun v=>by simp [iR,hc,h4 v]⟩
   ·refine .inr ⟨j+1,e0,by simpa using h1,h2,by simp [jg,hc,h3],by simp [Instr.findNow,hs,h4];omega,fun v=>by simp [iR,hc,h5 v]⟩
  ·rw [hc] at hs;exact .inr ⟨0,e,rfl,hc,by simp [jg,hc],by simp [Instr.findNow,hs],fun v=>by simp [iR,hc]⟩
theorem Kx {d:TypeDesc} {kf:Nat×IntKind} (hd:qu d=some kf) {k:TypeId} (hu:P.underlying k=some d) (b:Bool) (key:Value) (w:World) (n:Nat) : (Instr.checkKey b (n+1) k key).run P w = .ok () w:=by
 cases d<;>simp [qu] at hd<;>simp [Instr.checkKey,run_underlying hu]
theorem yz {d:TypeDesc} {kf:Nat×IntKind} (hd:qu d=some kf) {k:TypeId} (hu:P.underlying k=some d) (b:Bool) (key:Value) (w:World) : (Instr.checkKey b 10000 k key).run P w = .ok () w:=Kx hd hu b key w 9999
theorem yA {d:TypeDesc} {k:TypeId} (hu:P.underlying k=some d) {key:Value} {es:List MapEntry} {r:Option (Nat×Value)} (hr:Instr.findNow d key es 0=some r) (w:World) : (Instr.findKey k key es).run P w = .ok r w:=by
 simp [Instr.findKey,run_underlying hu,hr]
def yB (P:Program) (h:Hp) (t:TypeId) (m x:AV) (ok:Bool) : Option AV:=
 match qx P t,m,x with
 | some (kf,z),.mp id,.lit key=>match h[id]? with
  | some (some (.mpo tZ iv))=>if kf=tZ∧jC key=some kf then
    some (if ok then .tup [.lit ((jg key iv).getD z),.lit (.bool (jg key iv).isSome)] else .lit ((jg key iv).getD z)) else none
  | _=>none
 | _,_,_=>none
theorem V1.mp_inv {id:Nat} {u:Value} (hv:V1 w M h p (.mp id) u) : u = .map (some (p id))∧id < h.length:=by
 cases hv with
 | base _ _ h0=>cases h0
 | mp _ hid=>exact ⟨rfl,hid⟩
theorem Ky (hO:∀ id ob,h[id]? = some (some ob)→ObOK w0 w M h p id ob) {t:TypeId} {m x r:AV} {ok:Bool} {a b:Value} (hm:V1 w M h p m a) (hx:V1 w M h p x b) (hr:yB P h t m x ok=some r) : ∃ u,(Instr.lookup t a b ok).run P w = .ok u w∧V1 w M h p r u:=by
 unfold yB at hr;split at hr
 ·rename_i kf z id key t_;split at hr
  ·rename_i tZ iv hid;split at hr
   ·rename_i hc;obtain ⟨rfl,jW⟩:=hc;simp only [Option.some.injEq] at hr;subst hr;obtain ⟨k,e,d,hu,hk,hf,_,hz⟩:=Fe t_;obtain ⟨rfl,_⟩:=hm.mp_inv;obtain rfl:=hx.lit_inv;obtain ⟨_,rC,es,clock,hg,vR,_⟩:=hO id _ hid;have aF:∀ x∈es.toList,jC x.key=some kf:=fun x hx=>rC (x.key,x.val) (by rw [←vR];exact List.mem_map.2 ⟨x,hx,rfl⟩);rcases BF hf jW es.toList 0 aF with ⟨h1,h2,_⟩|⟨j,e0,h0,hs,h1,h2,_⟩
    ·rw [vR] at h1;rw [h1];have aD:(Instr.lookup t (.map (some (p id))) b ok).run P w = .ok (if ok then .tuple #[z,.bool false] else z) w:=by
      simp [Instr.lookup,run_underlying hu,MapKept.run_getObj_map hg,yz hf hk,yA hk h2,hz,Result.andThen]
     refine ⟨_,aD,?_⟩;cases ok
     ·exact .base _ _ (.lit _)
     ·exact .base _ _ (.tup _ [z,.bool false] rfl fun i c u hc hu=>by
       rcases i with _|_|i
       ·simp at hc hu;subst hc;subst hu;exact .lit _
       ·simp at hc hu;subst hc;subst hu;exact .lit _
       ·simp at hc)
    ·rw [vR] at h1;rw [h1];have aD:(Instr.lookup t (.map (some (p id))) b ok).run P w = .ok (if ok then .tuple #[e0.val,.bool true] else e0.val) w:=by
      simp [Instr.lookup,run_underlying hu,MapKept.run_getObj_map hg,yz hf hk,yA hk h2,Result.andThen]
     refine ⟨_,aD,?_⟩;cases ok
     ·exact .base _ _ (.lit _)
     ·exact .base _ _ (.tup _ [e0.val,.bool true] rfl fun i c u hc hu=>by
       rcases i with _|_|i
       ·simp at hc hu;subst hc;subst hu;exact .lit _
       ·simp at hc hu;subst hc;subst hu;exact .lit _
       ·simp at hc)
   ·cases hr
  ·cases hr
 ·cases hr
theorem Kz {a b:Value} {kf:Nat×IntKind} (ha:jC a=some kf) (hb:jC b=some kf) (hs:jV a b=true) : (∀ n,Instr.sameBits n b a=true)∧a=b:=by
 cases a<;>cases b<;>first|(exfalso;revert hs;simp [jV];done)|skip
 case bool.bool x y=>
  simp only [jV,beq_iff_eq] at hs;subst hs;exact ⟨fun n=>by cases n<;>simp [Instr.sameBits],rfl⟩
 case int.int k x k' y=>
  simp only [jC] at ha hb;obtain rfl:=Option.some.inj ha;simp only [jV,beq_iff_eq] at hs;simp only [Option.some.injEq,Prod.mk.injEq,true_and] at hb;subst hs hb;exact ⟨fun n=>by cases n<;>simp [Instr.sameBits],rfl⟩
 case string.string x y=>
  simp only [jV,decide_eq_true_eq] at hs;subst hs;exact ⟨fun n=>by cases n<;>simp [Instr.sameBits,Ff],rfl⟩
theorem KA {t:TypeId} {kf:Nat×IntKind} {z key v:Value} {b clock:Nat} {es:Array MapEntry} (t_:qx P t=some (kf,z)) (jW:jC key=some kf) (hg:w.heap[b]? = some (.map es clock)) (rC:∀ x∈es.toList,jC x.key=some kf) (fJ:StB es clock) :
  ∃ es' clock',(Instr.mapUpdate t (.map (some b)) key v).run P w = .ok () (ChangeMaps.setBlock w b (.map es' clock'))∧es'.toList.map (fun e=>(e.key,e.val))=iR key v (es.toList.map fun e=>(e.key,e.val))∧StB es' clock':=by
 obtain ⟨k,e,d,hu,hk,hf,_,hz⟩:=Fe t_;rcases BF hf jW es.toList 0 rC with ⟨h1,h2,_,h3⟩|⟨j,e0,h0,hs,h1,h2,h3⟩
 ·refine ⟨es.push { key,val:=v,born:=clock },clock+1,?_,by simp [h3 v],J_ fJ _ _⟩;simp [Instr.mapUpdate,run_underlying hu,MapKept.run_getObj_map hg,yz hf hk,yA hk h2,MapKept.run_setObj_map _ hg,Result.andThen,ChangeMaps.setBlock]
 ·have hj:j < es.size:=by simpa using (List.getElem?_eq_some_iff.1 h0).1
  have KB:es[j]? = some e0:=by simpa using h0
  obtain ⟨BG,_⟩:=Kz jW (rC e0 (List.mem_of_getElem? h0)) hs;have BG:=BG 10000;refine ⟨es.modify j fun e=>{ e with key,val:=v },clock,?_,?_,Ka fJ _ _ fun _=>rfl⟩
  ·simp [Instr.mapUpdate,run_underlying hu,MapKept.run_getObj_map hg,yz hf hk,yA hk h2,KB,Instr.keyThatStays,BG,MapKept.run_setObj_map _ hg,Result.andThen,ChangeMaps.setBlock]
  ·rw [h3 v];apply List.ext_getElem?;intro i;simp only [List.getElem?_map,List.getElem?_set,Array.getElem?_toList,Array.getElem?_modify];by_cases vC:j=i
   ·subst vC;simp [hj]
   ·simp [vC]
def BH (P:Program) (t:TypeId) (x:AV) : Option AV:=match aU P t with|some ti=>if ti.kind=9∨ti.kind=0 then none else some (.iface t x)|none=>none
def BI (P:Program) (h:Hp) (b:Builtin) (ts:Array TypeId) (xs:List AV) : Option AV:=
 match b,ts.toList,xs with
 | .len,[t],[x]=>yy P h t x
 | .max,_,[.lit (.int k x),.lit (.int k' y)]=>if k=k' then some (.lit (.int k (if x < y then y else x))) else none
 | .min,_,[.lit (.int k x),.lit (.int k' y)]=>if k=k' then some (.lit (.int k (if y < x then y else x))) else none
 | _,_,_=>none
def BJ:AV→Option AV
 | .vp cs=>some (.vp cs)
 | .ref id off=>some (.ref id off)
 | .aref id sz i off=>some (.aref id sz i off)
 | .fn (.func f) a b=>some (.fn (.func f) a b)
 | .lit (.func (.func f) a b)=>some (.lit (.func (.func f) a b))
 | _=>none
def pE (t:Bool) (x y:AV) : AV:=if t then x else y
def cX (b want:Bool) (r:AV) : AV:=if b=want then r else .lit undef
@[go_sem] theorem QN (x y:AV) : pE true x y=x:=rfl
@[go_sem] theorem QO (x y:AV) : pE false x y=y:=rfl
@[go_sem] theorem QP (x:AV) : cX true true x=x:=rfl
@[go_sem] theorem QQ (x:AV) : cX false false x=x:=rfl
@[go_sem] theorem QR (x:AV) : cX true false x = .lit undef:=rfl
@[go_sem] theorem QS (x:AV) : cX false true x = .lit undef:=rfl
@[go_sem] theorem QT (t:Bool) (x y:AV) : pE t (cX t true x) y=pE t x y:=by cases t<;>rfl
@[go_sem] theorem QU (t:Bool) (x y:AV) : pE t x (cX t false y)=pE t x y:=by cases t<;>rfl
@[go_sem] theorem QV (t x:Bool) : pE t (.lit (.bool x)) (.lit (.bool false)) = .lit (.bool (t&&x)):=by cases t<;>rfl
@[go_sem] theorem QW (t y:Bool) : pE t (.lit (.bool true)) (.lit (.bool y)) = .lit (.bool (t || y)):=by cases t<;>rfl
def yC (P:Program) (h:Hp) (E:Operand→AV) : Op→Option AV
 | .move x=>some (E x)
 | .assign x=>some (E x)
 | .pick c a b=>match E c with | .lit (.bool t)=>some (pE t (E a) (E b))|_=>none
 | .nilCheck x=>BJ (E x)
 | .load t a=>qc P h t (E a)
 | .binOp op t x y _=>yf P op t (isK x || isK y) (E x) (E y)
 | .unOp op _ x=>unA op (E x)
 | .convert s d x=>yh P s d (E x)
 | .makeInterface t x=>BH P t (E x)
 | .makeFunc f a b=>some (.fn f (a.toList.map E) (b.toList.map E))
 | .slice t x lo hi none=>yp P t (E x) (lo.map E) (hi.map E)
 | .fieldAddr t x f=>yi P t (E x) f
 | .field t x f=>yj P t (E x) f
 | .indexAddr t x i=>yk P h t (E x) (E i)
 | .index t x i=>yl P t (E x) (E i)
 | .extract x i=>match E x with | .tup vs=>vs[i]? | _=>none
 | .lookup t m x ok=>yB P h t (E m) (E x) ok
 | .build t parts=>yx P t (parts.toList.map fun q=>(q.1,E q.2))
 | .call ⟨.builtin b,xs,ts⟩=>BI P h b ts (xs.toList.map E)
 | _=>none
end
section
variable {P:Program} {w:World} {w0:Bas} {M:Nat→Nat→Prop} {h:Hp} {p:Pl}
theorem ea {α β:Type} {f:α→β} {l:List α} {i:Nat} {x:β} (h:(l.map f)[i]? = some x) : ∃ a,l[i]? = some a∧f a=x:=by
 rw [List.getElem?_map] at h;exact Option.map_eq_some_iff.1 h
theorem KC (hO:∀ id ob,h[id]? = some (some ob)→ObOK w0 w M h p id ob) {o:Oper} {E:Operand→AV} {ρ:Operand→Value} {r:AV} (hE:∀ x∈o.op.operands,V1 w M h p (E x) (ρ x)) (hr:yC P h E o.op=some r) :
  ∃ u,(execOp ρ o).run P w = .ok (.value u) w∧V1 w M h p r u:=by
 obtain ⟨dst,op,ty,pos,after,guard⟩:=o;unfold yC at hr;unfold execOp;split at hr<;>first|(cases hr;done)|(rename_i heq;simp only at heq;subst heq;simp only [Op.operands] at hE;dsimp only)
 ·simp only [Option.some.injEq] at hr;subst hr;exact ⟨_,rfl,hE _ (by simp)⟩
 ·simp only [Option.some.injEq] at hr;subst hr;exact ⟨_,rfl,hE _ (by simp)⟩
 ·rename_i c a b;have hc:=hE c (by simp);split at hr
  ·rename_i t ht;rw [ht] at hc;have gY:=hc.lit_inv;simp only [Option.some.injEq] at hr;subst hr;cases t
   ·exact ⟨ρ b,by simp [gY,asBool],hE b (by simp)⟩
   ·exact ⟨ρ a,by simp [gY,asBool],hE a (by simp)⟩
  ·cases hr
 ·rename_i x;have hx:=hE x (by simp);unfold BJ at hr;split at hr
  ·rename_i cs he;rw [he] at hx;obtain ⟨h0,b,q,hq⟩:=hx.vp_inv;simp only [Option.some.injEq] at hr;subst hr;exact ⟨_,by simp only [hq,Sem.run_pure],hx⟩
  ·rename_i cs he;rw [he] at hx;obtain ⟨hq,_⟩:=hx.ref_inv;simp only [Option.some.injEq] at hr;subst hr;exact ⟨_,by simp only [hq,Sem.run_pure],hx⟩
  ·rename_i cs he;rw [he] at hx;obtain ⟨hq,_⟩:=hx.aref_inv;simp only [Option.some.injEq] at hr;subst hr;exact ⟨_,by simp only [hq,Sem.run_pure],hx⟩
  ·rename_i f a b he;rw [he] at hx;have hq:∃ us vs,ρ x = .func (.func f) us vs:=by
    generalize ρ x=v at hx;cases hx with
    | base _ _ h0=>cases h0;exact ⟨_,_,rfl⟩
    | fn=>exact ⟨_,_,rfl⟩
   obtain ⟨us,vs,hq⟩:=hq;simp only [Option.some.injEq] at hr;subst hr;exact ⟨_,by simp only [hq,Sem.run_pure],hx⟩
  ·rename_i f a b he;rw [he] at hx;have hq:=hx.lit_inv;simp only [Option.some.injEq] at hr;subst hr;exact ⟨_,by simp only [hq,Sem.run_pure],hx⟩
  ·cases hr
 ·rename_i t a;obtain ⟨u,hu,hv⟩:=Am (P:=P) hO (hE a (by simp)) hr;exact ⟨u,by simp [hu],hv⟩
 ·rename_i op t x y yt;obtain ⟨u,hu,hv⟩:=Kg (P:=P) (hE x (by simp)) (hE y (by simp)) x y (fun hc=>by simpa using hc) hr;exact ⟨u,by simp only [Sem.run_bind] at hu ⊢;rw [hu];rfl,hv⟩
 ·rename_i op t x;obtain ⟨u,hu,hv⟩:=Kh (P:=P) (hE x (by simp)) hr;exact ⟨u,by simp [hu],hv⟩
 ·rename_i s d x;obtain ⟨u,hu,hv⟩:=Ki (P:=P) (hE x (by simp)) hr;exact ⟨u,by simp [hu],hv⟩
 ·rename_i t x;unfold BH at hr;split at hr
  ·rename_i ti aV;split at hr
   ·cases hr
   ·rename_i hk;simp only [Option.some.injEq] at hr;subst hr;obtain ⟨d,i,z,hd,hi,hz,fE,rfl⟩:=e_ aV;refine ⟨.iface t (ρ x),?_,.iface _ _ _ (hE x (by simp))⟩;cases d<;>first|(exfalso;simp [nr] at hk;done)|simp [Instr.makeInterface,run_underlying hd]
  ·cases hr
 ·rename_i f a b;simp only [Option.some.injEq] at hr;subst hr;refine ⟨.func f (a.map ρ) (b.map ρ),by simp [Instr.makeFunc],?_⟩;have e1:a.map ρ=(a.toList.map ρ).toArray:=by apply Array.ext';rw [Array.toList_map]
  have e2:b.map ρ=(b.toList.map ρ).toArray:=by apply Array.ext';rw [Array.toList_map]
  rw [e1,e2];refine .fn _ _ _ _ _ (by simp) (by simp) (fun i c u hc hu=>?_) (fun i c u hc hu=>?_)
  ·obtain ⟨x,hx,rfl⟩:=ea hc;obtain ⟨y,hy,rfl⟩:=ea hu;rw [hx] at hy;obtain rfl:=Option.some.inj hy;exact hE x (by simp;exact .inl (by simpa using List.mem_of_getElem? hx))
  ·obtain ⟨x,hx,rfl⟩:=ea hc;obtain ⟨y,hy,rfl⟩:=ea hu;rw [hx] at hy;obtain rfl:=Option.some.inj hy;exact hE x (by simp;exact .inr (by simpa using List.mem_of_getElem? hx))
 ·rename_i t x lo hi;have bs:Bd w M h p (lo.map E) (lo.map ρ):=by
   cases lo with
   | none=>exact trivial
   | some a=>exact hE a (by simp)
  have KD:Bd w M h p (hi.map E) (hi.map ρ):=by
   cases hi with
   | none=>exact trivial
   | some a=>exact hE a (by simp)
  obtain ⟨u,hu,hv⟩:=Ku (P:=P) (hE x (by simp)) bs KD hr;exact ⟨u,by simp only [Sem.run_bind,Option.map_none,hu];rfl,hv⟩
 ·rename_i t x f;obtain ⟨u,hu,hv⟩:=Kj (P:=P) (hE x (by simp)) hr;exact ⟨u,by simp [hu],hv⟩
 ·rename_i t x f;obtain ⟨u,hu,hv⟩:=Kk (P:=P) (hE x (by simp)) hr;exact ⟨u,by simp [hu],hv⟩
 ·rename_i t x i;obtain ⟨u,hu,hv⟩:=Kl (P:=P) hO (hE x (by simp)) (hE i (by simp)) hr;exact ⟨u,by simp [hu],hv⟩
 ·rename_i t x i;obtain ⟨u,hu,hv⟩:=Km (P:=P) (hE x (by simp)) (hE i (by simp)) hr;exact ⟨u,by simp [hu],hv⟩
 ·rename_i x i;have hx:=hE x (by simp);split at hr
  ·rename_i vs he;rw [he] at hx;obtain ⟨us,hq,hl,hv⟩:=hx.tup_inv;have hi:i < us.length:=by rw [hl];exact (List.getElem?_eq_some_iff.1 hr).1
   exact ⟨us[i],by simp [Instr.extract,hq,hi],hv i r _ hr (List.getElem?_eq_getElem hi)⟩
  ·cases hr
 ·rename_i t m x ok;obtain ⟨u,hu,hv⟩:=Ky (P:=P) hO (hE m (by simp)) (hE x (by simp)) hr;exact ⟨u,by simp [hu],hv⟩
 ·rename_i t parts;obtain ⟨u,hu,hv⟩:=Fc (P:=P) (w:=w) (vals:=parts.map fun (i,x)=>(i,ρ x)) (by simp) (fun i a v ha hv=>by
   obtain ⟨x,hx,rfl⟩:=ea ha;simp only [Array.toList_map] at hv;obtain ⟨y,hy,rfl⟩:=ea hv;rw [hx] at hy;obtain rfl:=Option.some.inj hy;exact hE x.2 (by simp;exact ⟨x.1,by simpa using List.mem_of_getElem? hx⟩)) hr
  exact ⟨u,by simp only [Sem.run_bind,hu];rfl,hv⟩
 ·rename_i b xs ts;have hx:∀ x∈xs.toList,V1 w M h p (E x) (ρ x):=fun x hx=>hE x (by simp [Call.operands];simpa using hx);unfold BI at hr;split at hr
  ·rename_i t x qy dV;obtain ⟨y,hy⟩ : ∃ y,xs.toList=[y]:=by
    cases hh:xs.toList with
    | nil=>rw [hh] at dV;simp at dV
    | cons a l=>cases l with
     | nil=>exact ⟨a,rfl⟩
     | cons b c=>rw [hh] at dV;simp at dV
   have e1:xs=#[y]:=by apply Array.ext';rw [hy]
   have e2:ts=#[t]:=by apply Array.ext';rw [qy]
   subst e1;subst e2;simp at dV;subst dV;obtain ⟨u,hu,hv⟩:=Kv (P:=P) hO (ty:=ty) (hx y (by simp)) hr;exact ⟨u,by simp only [resolve,invoke,builtin,Sem.run_bind,Sem.run_pure,Result.andThen_ok,List.map_toArray,List.map_cons,List.map_nil,hu],hv⟩
  ·rename_i KE k x k' y dV;obtain ⟨a,b,hy⟩ : ∃ a b,xs.toList=[a,b]:=by
    cases hh:xs.toList with
    | nil=>rw [hh] at dV;simp at dV
    | cons a l=>cases l with
     | nil=>rw [hh] at dV;simp at dV
     | cons b c=>cases c with
      | nil=>exact ⟨a,b,rfl⟩
      | cons d e=>rw [hh] at dV;simp at dV
   have e1:xs=#[a,b]:=by apply Array.ext';rw [hy]
   subst e1;simp at dV;split at hr
   ·rename_i hk;subst hk;simp only [Option.some.injEq] at hr;subst hr;have h1:=hx a (by simp);have h2:=hx b (by simp);rw [dV.1] at h1;rw [dV.2] at h2;refine ⟨_,?_,.base _ _ (.lit _)⟩;simp [resolve,invoke,builtin,h1.lit_inv,h2.lit_inv,Builtin.max_,Builtin.max2]
   ·cases hr
  ·rename_i KE k x k' y dV;obtain ⟨a,b,hy⟩ : ∃ a b,xs.toList=[a,b]:=by
    cases hh:xs.toList with
    | nil=>rw [hh] at dV;simp at dV
    | cons a l=>cases l with
     | nil=>rw [hh] at dV;simp at dV
     | cons b c=>cases c with
      | nil=>exact ⟨a,b,rfl⟩
      | cons d e=>rw [hh] at dV;simp at dV
   have e1:xs=#[a,b]:=by apply Array.ext';rw [hy]
   subst e1;simp at dV;split at hr
   ·rename_i hk;subst hk;simp only [Option.some.injEq] at hr;subst hr;have h1:=hx a (by simp);have h2:=hx b (by simp);rw [dV.1] at h1;rw [dV.2] at h2;refine ⟨_,?_,.base _ _ (.lit _)⟩;simp [resolve,invoke,builtin,h1.lit_inv,h2.lit_inv,Builtin.min_,Builtin.min2]
   ·cases hr
  ·cases hr
def e8:Nat→AV→Bool
 | 0,_=>false
 | n+1,.agg cs=>cs.all (e8 n)
 | n+1,.tup cs=>cs.all (e8 n)
 | n+1,.fn _ a b=>a.all (e8 n)&&b.all (e8 n)
 | n+1,.iface _ v=>e8 n v
 | _+1,.ref .. => false
 | _+1,.aref .. => false
 | _+1,.osl _=>false
 | _+1,.mp _=>false
 | _+1,.slw .. => false
 | _+1,_=>true
theorem V1.pure:∀ (n:Nat) {av:AV} {v:Value},V1 w M h p av v→e8 n av=true→V0 w M av v
 | 0,_,_,_,hp=>by simp [e8] at hp
 | n+1,av,v,hv,hp=>by
  cases hv with
  | base _ _ h0=>exact h0
  | slw _ _ _ _ _ _ _ _=>simp [e8] at hp
  | agg cs us hl h1 hh=>
   simp only [e8] at hp;exact .agg cs us hl h1 fun i c u hc hu=>V1.pure n (hh i c u hc hu) (List.all_eq_true.1 hp c (List.mem_of_getElem? hc))
  | tup cs us hl hh=>
   simp only [e8] at hp;exact .tup cs us hl fun i c u hc hu=>V1.pure n (hh i c u hc hu) (List.all_eq_true.1 hp c (List.mem_of_getElem? hc))
  | fn f a b us vs hl bj hh fo=>
   simp only [e8,Bool.and_eq_true] at hp;exact .fn f a b us vs hl bj (fun i c u hc hu=>V1.pure n (hh i c u hc hu) (List.all_eq_true.1 hp.1 c (List.mem_of_getElem? hc))) (fun i c u hc hu=>V1.pure n (fo i c u hc hu) (List.all_eq_true.1 hp.2 c (List.mem_of_getElem? hc)))
  | iface t v u hh=>exact .iface t v u (V1.pure n hh (by simpa [e8] using hp))
  | ref=>simp [e8] at hp
  | aref=>simp [e8] at hp
  | osl=>simp [e8] at hp
  | mp=>simp [e8] at hp
def fu {α:Type} (z:List α) : Nat→List α
 | 0=>[]
 | n+1=>z++fu z n
def jw (sz:Nat) : Nat→List AV→List (List AV)
 | 0,_=>[]
 | n+1,cs=>cs.take sz::jw sz n (cs.drop sz)
def sf (P:Program) (t:TypeId) (n:Nat) (parts:List (Nat×AV)) : Option (List AV×TI):=
 match aU P t with
 | none=>none
 | some ti=>
  match aU P ti.elem with
  | none=>none
  | some te=>if ti.kind=1∧te.size=ti.esz∧te.zero.length=ti.esz∧ti.esz≠0∧n*ti.esz≤16777216 then (oL (fun i=>some (i*ti.esz,ti.esz)) (fu (te.zero.map .lit) n) parts).map fun cs=>(cs,ti) else none
def yD (P:Program) (E:Operand→AV) : Op→Option AV
 | .box _ x=>if oK (E x)&&(fS (E x)).all (e8 5) then some (.vp (fS (E x))) else none
 | .buildSlice t n parts=>(sf P t n (parts.toList.map fun q=>(q.1,dsl (E q.2)))).bind fun r=>if r.1.all (e8 5) then some (.sl r.2.esz (jw r.2.esz n r.1)) else none
 | .convert s d x=>match aU P s,aU P d with
  | some _,some td=>match aU P td.elem,E x with
   | some te,.lit (.string v)=>if td.kind=1∧te.kind=5∧te.ik = .u8 then some (.sl 1 ((List.range v.size).map fun i=>[.lit (.int .u8 (lI v i).toNat)])) else none
   | _,_=>none
  | _,_=>none
 | _=>none
theorem xy (sz:Nat) : ∀ (n:Nat) (cs:List AV),(jw sz n cs).length=n
 | 0,_=>rfl
 | n+1,cs=>by simp [jw,xy sz n]
theorem xz (sz:Nat) : ∀ (n:Nat) (cs:List AV) (k:Nat) (e:List AV),n*sz≤cs.length→(jw sz n cs)[k]? = some e→e.length=sz∧∀ j c,e[j]? = some c→cs[k*sz+j]? = some c
 | 0,_,_,_,_,h=>by simp [jw] at h
 | n+1,cs,k,e,hl,h=>by
  rw [Nat.add_mul] at hl;cases k with
  | zero=>
   simp only [jw,List.getElem?_cons_zero,Option.some.injEq] at h;subst h;refine ⟨by rw [List.length_take];omega,fun j c hj=>?_⟩;rw [List.getElem?_take] at hj;split at hj
   ·simpa using hj
   ·cases hj
  | succ k=>
   simp only [jw,List.getElem?_cons_succ] at h;obtain ⟨h1,h2⟩:=xz sz n (cs.drop sz) k e (by rw [List.length_drop];omega) h;refine ⟨h1,fun j c hj=>?_⟩;have:=h2 j c hj;rw [List.getElem?_drop] at this;rw [←this,Nat.add_mul];congr 1;omega
theorem tG {α:Type} (z:List α) (n:Nat) : (fu z n).length=n*z.length:=by
 induction n with
 | zero=>simp [fu]
 | succ n ih=>simp [fu,ih,Nat.add_mul];omega
end
section
variable {P:Program} {w:World} {w0:Bas} {M:Nat→Nat→Prop} {h:Hp} {p:Pl}
theorem KF {α β:Type} (f:α→β) (z:List α) (n:Nat) : fu (z.map f) n=(fu z n).map f:=by
 induction n with
 | zero=>rfl
 | succ n ih=>simp [fu,ih]
theorem BK {α:Type} (z:List α) : ∀ (n i:Nat),i < n*z.length→(fu z n)[i]? = z[i % z.length]?
 | 0,i,hi=>by simp at hi
 | n+1,i,hi=>by
  rw [Nat.add_mul] at hi;by_cases aq:i < z.length
  ·rw [fu,List.getElem?_append_left aq,Nat.mod_eq_of_lt aq]
  ·rw [fu,List.getElem?_append_right (by omega),BK z n _ (by omega)];congr 1;rw [←Nat.mod_eq_sub_mod (by omega)]
theorem Fg (z:Array Value) (n:Nat) (hz:0 < z.size) : ((Array.range (n*z.size)).map (z[· % z.size]!)).toList=fu z.toList n:=by
 apply List.ext_getElem?;intro i;rcases Nat.lt_or_ge i (n*z.size) with hi|hi
 ·rw [BK _ _ _ (by simpa using hi)];have:i % z.size < z.size:=Nat.mod_lt _ hz;simp [hi,this]
 ·rw [List.getElem?_eq_none (by simpa using hi),List.getElem?_eq_none (by rw [tG];simpa using hi)]
theorem KG {z:List Value} (hz:z.all (·.oneCell')=true) (n:Nat) : (fu z n).all (·.oneCell')=true:=by
 induction n with
 | zero=>rfl
 | succ n ih=>simp only [fu,List.all_append,hz,ih,Bool.and_self]
theorem mo (w:World) (o:Obj) : Below w.heap.size w { w with heap:=w.heap.push o }:=(Below.refl _ w).alloc (Nat.le_refl _) o
theorem BL (w:World) (cs:List Value) (t:TypeId) (j:Nat) : ({ w with heap:=w.heap.push (.cells cs.toArray t) } : World).cell? ⟨w.heap.size,j,none⟩=cs[j]?:=by
 simp [World.cell?,-World.alloc_eq]
theorem Cells.later {w':World} {cs:List AV} {us:List Value} (hc:Cells w M h p cs us) (hp:cs.all (e8 5)=true) (hb:Below w.heap.size w w') : ∀ (i:Nat) (c:AV) (u:Value),cs[i]? = some c→us[i]? = some u→V0 w' M c u:=
 fun i c u h1 h2=>((hc.2.2 i c u h1 h2).pure 5 (List.all_eq_true.1 hp c (List.mem_of_getElem? h1))).later hb
theorem KH (hM:∀ b j,M b j→b < w.heap.size) {cs:List AV} {us:List Value} (hc:Cells w M h p cs us) (hp:cs.all (e8 5)=true) (t:TypeId) :
  V0 { w with heap:=w.heap.push (.cells us.toArray t) } M (.vp cs) (.pointer (some ⟨w.heap.size,0,none⟩)):=by
 have hl:=hc.later hp (mo w (.cells us.toArray t));refine .vp cs w.heap.size 0 (fun j=>us.getD j undef) (by simp [-World.alloc_eq]) (fun _ _ hm=>Nat.lt_irrefl _ (hM _ _ hm)) hc.2.1 (fun j hj=>?_) fun j c hj=>?_
 ·rw [Nat.zero_add,BL];have:j < us.length:=by rw [hc.1];exact hj
  simp [List.getD,this]
 ·have:j < us.length:=by rw [hc.1];exact (List.getElem?_eq_some_iff.1 hj).1
  exact hl j c _ hj (by simp [List.getD,this])
theorem KJ (hM:∀ b j,M b j→b < w.heap.size) {cs:List AV} {us:List Value} (hc:Cells w M h p cs us) (hp:cs.all (e8 5)=true) (t:TypeId) {sz n:Nat} (_hsz:0 < sz) (hn:cs.length=n*sz) :
  V0 { w with heap:=w.heap.push (.cells us.toArray t) } M (.sl sz (jw sz n cs)) (.slice (some ⟨w.heap.size,0,none⟩) n n):=by
 have hl:=hc.later hp (mo w (.cells us.toArray t));have hlen:=xy sz n cs;have bm:=fun k e=>xz sz n cs k e (by omega);by_cases h0:n=0
 ·subst h0;exact .slNil _ _ _
 ·have key:V0 { w with heap:=w.heap.push (.cells us.toArray t) } M (.sl sz (jw sz n cs)) (.slice (some ⟨w.heap.size,0,none⟩) (jw sz n cs).length n):=by
   refine .sl sz _ n w.heap.size 0 (fun k j=>us.getD (k*sz+j) undef) (fun dB=>by rw [dB] at hlen;simp at hlen;omega) (by simp [-World.alloc_eq]) (fun _ _ _ _ hm=>Nat.lt_irrefl _ (hM _ _ hm)) (by omega) (fun k e hk=>(bm k e hk).1)
    (fun k e j c hk hj=>hc.2.1 c (List.mem_of_getElem? ((bm k e hk).2 j c hj))) (fun k j hk hj=>?_) fun k e j c hk hj=>?_
   ·rw [Nat.zero_add,BL];have:k*sz+j < us.length:=by
     rw [hc.1,hn];have:(k+1)*sz≤n*sz:=Nat.mul_le_mul_right _ (by omega);rw [Nat.add_mul] at this;omega
    simp [List.getD,this]
   ·have h1:=(bm k e hk).2 j c hj;have:k*sz+j < us.length:=by rw [hc.1];exact (List.getElem?_eq_some_iff.1 h1).1
    exact hl _ c _ h1 (by simp [List.getD,this])
  rw [hlen] at key;exact key
theorem yE {t:TypeId} {n:Nat} {parts:List (Nat×AV)} {vals:Array (Nat×Value)} {cs:List AV} {ti:TI} (hl:vals.toList.map (·.1)=parts.map (·.1))
  (hv:∀ (i:Nat) (a:Nat×AV) (v:Nat×Value),parts[i]? = some a→vals.toList[i]? = some v→V1 w M h p a.2 v.2) (hr:sf P t n parts=some (cs,ti)) :
  ∃ us:List Value,(Instr.buildSlice t n vals).run P w = .ok (.slice (some ⟨w.heap.size,0,none⟩) n n) { w with heap:=w.heap.push (.cells us.toArray ti.elem) }∧Cells w M h p cs us∧cs.length=n*ti.esz∧aU P t=some ti∧ti.kind=1∧0 < ti.esz:=by
 unfold sf at hr;split at hr
 ·cases hr
 ·rename_i oM aV;split at hr
  ·cases hr
  ·rename_i te fD;split at hr
   ·rename_i hc;obtain ⟨hk,h1,h2,h3,h4⟩:=hc;obtain ⟨dI,hf,heq⟩:=Option.map_eq_some_iff.1 hr;simp only [Prod.mk.injEq] at heq;obtain ⟨rfl,rfl⟩:=heq;obtain ⟨z,hz,iM,km⟩:=pr fD;have fX:z.cells.size=oM.esz:=by rw [←Array.length_toList,hz,h2]
    have cH:0 < oM.esz:=Nat.pos_of_ne_zero h3;have aS:=Fg z.cells n (by omega);have lp:Cells w M h p (fu (te.zero.map .lit) n) ((Array.range (n*oM.esz)).map (z.cells[· % z.cells.size]!)).toList:=by
     rw [←fX,aS,hz,KF];exact Cells.of_lits _ (KG iM n)
    obtain ⟨cur,iQ,cG⟩:=BA parts vals.toList _ _ _ lp hl hv hf;have hlen:∀ (l:List (Nat×AV)) (cs r:List AV),oL (fun i=>some (i*oM.esz,oM.esz)) cs l=some r→r.length=cs.length:=by
     have sg:∀ (vs cs:List AV) (o:Nat),(qw cs o vs).length=cs.length:=by
      intro vs;induction vs with
      | nil=>intros;rfl
      | cons v vs ih=>intro cs o;rw [qw,ih];simp
     intro l;induction l with
     | nil=>intro cs r hh;simp only [oL,Option.some.injEq] at hh;rw [hh]
     | cons a l ih=>
      intro cs r hh;obtain ⟨i,v⟩:=a;simp only [oL] at hh;split at hh
      ·rw [ih _ _ hh,sg]
      ·cases hh
    refine ⟨cur.toList,?_,cG,by rw [hlen _ _ _ hf,tG,List.length_map,h2],aV,hk,cH⟩;have hu:=lu aV hk;have ff:oM.esz=dG P oM.elem:=by obtain ⟨d,i,z,hd,hi,hz,fE,rfl⟩:=e_ aV;rfl
    have pF:¬(n*oM.esz > 2 ^ 24):=by omega
    simp only [Instr.buildSlice,Sem.run_bind,run_underlying hu,Result.andThen_ok,kk (P:=P) (show 0 < dG P oM.elem by omega),←ff,Sem.run_ite,pF,if_false];by_cases h0:n*oM.esz=0
    ·have vS:n=0:=by
      rcases Nat.mul_eq_zero.1 h0 with h|h
      ·exact h
      ·omega
     subst vS;have e0:∀ f:Nat→Value,(Array.range 0).map f=#[]:=fun f=>by simp
     rw [Nat.zero_mul,e0] at iQ;simp only [Nat.zero_mul,if_true,Sem.run_pure,Result.andThen_ok,e0,iQ,Sem.run_bind,newRow,run_newObj]
    ·simp only [h0,if_false,Sem.run_bind,km,Result.andThen_ok,Sem.run_pure,iQ,newRow,run_newObj]
   ·cases hr
theorem KK (hM:∀ b j,M b j→b < w.heap.size) {o:Oper} {E:Operand→AV} {ρ:Operand→Value} {r:AV} (hE:∀ x∈o.op.operands,V1 w M h p (E x) (ρ x)) (hr:yD P E o.op=some r) :
  ∃ u w',(execOp ρ o).run P w = .ok (.value u) w'∧Below w.heap.size w w'∧V0 w' M r u:=by
 obtain ⟨dst,op,ty,pos,after,guard⟩:=o;unfold yD at hr;unfold execOp;split at hr<;>first|(cases hr;done)|(rename_i heq;simp only at heq;subst heq;simp only [Op.operands] at hE;dsimp only)
 ·rename_i t x;split at hr
  ·rename_i hc;simp only [Bool.and_eq_true] at hc;simp only [Option.some.injEq] at hr;subst hr;have aE:=(hE x (by simp)).cells hc.1;refine ⟨.pointer (some ⟨w.heap.size,0,none⟩),_,?_,mo w (.cells (ρ x).cells t),?_⟩
   ·simp [Instr.box,newVar,newRow]
   ·have:=KH hM aE hc.2 t;simpa using this
  ·cases hr
 ·rename_i t n parts;obtain ⟨q,hq,hr⟩:=Option.bind_eq_some_iff.1 hr;obtain ⟨cs,ti⟩:=q;dsimp only at hr;split at hr
  ·rename_i hp;simp only [Option.some.injEq] at hr;subst hr;obtain ⟨us,aD,hc,hlen,aV,hk,cH⟩:=yE (P:=P) (w:=w) (vals:=parts.map fun (i,x)=>(i,ρ x)) (by simp) (fun i a v ha hv=>by
    obtain ⟨x,hx,rfl⟩:=ea ha;simp only [Array.toList_map] at hv;obtain ⟨y,hy,rfl⟩:=ea hv;rw [hx] at hy;obtain rfl:=Option.some.inj hy;exact (hE x.2 (by simp;exact ⟨x.1,by simpa using List.mem_of_getElem? hx⟩)).dsl) hq
   exact ⟨_,_,by simp only [Sem.run_bind,aD];rfl,mo w _,KJ hM hc hp _ cH hlen⟩
  ·cases hr
 ·rename_i s d x;split at hr
  ·rename_i ts td hs hd;split at hr
   ·rename_i te v fD hx;split at hr
    ·rename_i hc;obtain ⟨h1,h2,h3⟩:=hc;simp only [Option.some.injEq] at hr;subst hr;have hv:=hE x (by simp);rw [hx] at hv;obtain ⟨ds,i,z,tX,_⟩:=e_ hs;have vT:P.underlying td.elem=some (.int .u8):=by rw [←h3];exact Bq fD h2
     have aD:=Lib.run_convert_string_bytes (P:=P) w s d td.elem v tX (lu hd h1) vT;refine ⟨_,_,by simp only [hv.lit_inv,Sem.run_bind,aD];rfl,⟨by simp [Lib.bytesWorld,World.freeze,World.alloc,World.drew,-World.alloc_eq,-World.drew_eq],by simp [Lib.bytesWorld,World.freeze,World.alloc,World.drew,-World.alloc_eq,-World.drew_eq],by simp [Lib.bytesWorld,World.freeze,World.alloc,World.drew,-World.alloc_eq,-World.drew_eq],by rw [Lib.bytesWorld_size];omega,fun k hk=>Lib.bytesWorld_at_old w td.elem v k hk⟩,?_⟩;by_cases h0:v.size=0
     ·rw [h0];exact .slNil _ _ _
     ·have key:V0 (Lib.bytesWorld w td.elem v) M (.sl 1 ((List.range v.size).map fun i=>[.lit (.int .u8 (lI v i).toNat)])) (.slice (some ⟨w.heap.size,0,none⟩) ((List.range v.size).map fun i=>[AV.lit (.int .u8 (lI v i).toNat)]).length (grownCap w v.size 0 td.elem)):=by
       refine .sl 1 _ _ w.heap.size 0 (fun k _=>.int .u8 (lI v k).toNat) (by simpa using h0) (by rw [Lib.bytesWorld_size];omega) (fun _ _ _ _ hm=>Nat.lt_irrefl _ (hM _ _ hm)) (by simpa using grownCap_ge w v.size 0 td.elem) (fun k e hk=>?_) (fun k e j c hk hj=>?_) (fun k j hk hj=>?_) (fun k e j c hk hj=>?_)
       ·obtain ⟨i,hi,rfl⟩:=ea hk;rfl
       ·obtain ⟨i,hi,rfl⟩:=ea hk;cases j with
        | zero=>simp at hj;subst hj;rfl
        | succ j=>simp at hj
       ·have kL:j=0:=by omega
        subst kL;simp only [Nat.zero_add,Nat.mul_one,Nat.add_zero];exact Lib.bytesWorld_cell w td.elem v k (by simpa using hk)
       ·obtain ⟨i,hi,rfl⟩:=ea hk;have jy:k=i:=by
         have:=(List.getElem?_eq_some_iff.1 hi).2;simpa using this
        subst jy;cases j with
        | zero=>simp at hj;subst hj;exact .lit _
        | succ j=>simp at hj
      simpa using key
    ·cases hr
   ·cases hr
  ·cases hr
end
section
variable {P:Program} {ops:Array Oper}
def Region.allB (ops:Array Oper) : Bool:=
 Region.noSelect ops&&dS ops.toList &&
 (List.range ops.size).all (fun i=>match ops[i]? with
  | some o=>(o.looksAt ops).all (fun t=>(List.range ops.size).all fun j=>((ops[j]?).bind (·.dst)) != some t || Region.waitsFor .any ops i j)&&o.after.all (fun e=>!Region.binds .any e || decide (e.on < i))
  | none=>false)
structure AllInv (ops:Array Oper) (w0:World) (a0:Act) (S:Nat→Value→World→Prop) (listed:Array Bool) (vs:Nat→Value) (a:Act) (w:World) : Prop where
 size:listed.size=ops.size
 frame:a=fill (fun i=>listed.getD i false) vs ops.toList 0 a0
 world:Below w0.heap.size w0 w
 vals:∀ i,i < ops.size→listed.getD i false=true→S i (vs i) w
theorem KL {Q:Exit→Act→World→Prop} {w0:World} {a0:Act} {S:Nat→Value→World→Prop} (hB:Region.allB ops=true)
  (fJ:∀ i,i < ops.size→∀ v w w',S i v w→Below w.heap.size w w'→S i v w')
  (cT:∀ i,i < ops.size→p9 P ops w0 a0 ops.size S i)
  (sh:∀ vs w,Below w0.heap.size w0 w→(∀ i,i < ops.size→S i (vs i) w)→Q .normal (fill (fun _=>true) vs ops.toList 0 a0) w) :
  ∀ (F:Nat) (listed:Array Bool) (vs:Nat→Value) (a:Act) (w:World),AllInv ops w0 a0 S listed vs a w→listed.toList.count false=F→wpAny P .any ops Q F listed a w:=by
 simp only [Region.allB,Bool.and_eq_true] at hB;obtain ⟨⟨kx,hd⟩,bb⟩:=hB;have cC:∀ i,i < ops.size→∀ o,ops[i]? = some o→(∀ t∈o.looksAt ops,∀ j,j < ops.size→∀ p,ops[j]? = some p→p.dst=some t→Region.waitsFor .any ops i j=true)∧(∀ e∈o.after,Region.binds .any e=true→e.on < i):=by
  intro i hi o ho;have h:=List.all_eq_true.1 bb i (List.mem_range.2 hi);simp only [ho,Bool.and_eq_true] at h;refine ⟨fun t ht j hj p hp rq=>?_,fun e he hb=>?_⟩
  ·have h1:=List.all_eq_true.1 (List.all_eq_true.1 h.1 t ht) j (List.mem_range.2 hj);simp only [hp,Option.bind_some,rq,bne_self_eq_false,Bool.false_or] at h1;exact h1
  ·have h1:=Array.all_eq_true'.1 h.2 e he;simp only [hb,Bool.not_true,Bool.false_or,decide_eq_true_eq] at h1;exact h1
 have iG:∀ (listed:Array Bool) (vs:Nat→Value) (a:Act) (w:World),AllInv ops w0 a0 S listed vs a w→(∀ i,i < ops.size→listed.getD i false=true)→Q .normal a w:=by
  intro listed vs a w inv aF;rw [inv.frame];have Ab:fill (fun i=>listed.getD i false) vs ops.toList 0 a0=fill (fun _=>true) vs ops.toList 0 a0:=
   xe _ 0 _ fun i _ hi=>⟨aF i (by simpa using hi),rfl⟩
  rw [Ab];exact sh vs w inv.world fun i hi=>inv.vals i hi (aF i hi)
 intro F;induction F with
 | zero=>
  intro listed vs a w inv eW;have cA:∀ i,i < ops.size→listed.getD i false=true:=by
   intro i hi;have br:i < listed.toList.length:=by rw [Array.length_toList,inv.size];exact hi
   have hm:listed.toList[i]≠false:=fun h=>by
    have:false∈listed.toList:=by rw [←h];exact List.getElem_mem br
    exact absurd (List.count_pos_iff.2 this) (by omega)
   simp only [Array.getElem_toList] at hm;simp [inv.size,hi,hm]
  refine ⟨?_,iG _ _ _ _ inv cA⟩;cases hr:Region.ready .any ops listed with
  | nil=>rfl
  | cons i r=>
   have hi:i∈Region.ready .any ops listed:=by rw [hr];exact List.mem_cons_self ..
   obtain ⟨fm,o,ho,_⟩:=mem_ready.1 hi;have aq:=(Array.getElem?_eq_some_iff.1 ho).1;have:=cA i aq;rw [getD_both fm] at this;cases this
 | succ F ih=>
  intro listed vs a w inv eW;have hex:∃ i,i < ops.size∧listed.getD i true=false:=by
   have cH:false∈listed.toList:=List.count_pos_iff.1 (by omega);obtain ⟨i,hi,he⟩:=List.mem_iff_getElem.1 cH;rw [Array.length_toList] at hi;exact ⟨i,by rw [←inv.size];exact hi,by simpa [hi] using he⟩
  have iV:∃ i,(i < ops.size∧listed.getD i true=false)∧∀ j,j < i→¬(j < ops.size∧listed.getD j true=false):=by
   obtain ⟨i,hi⟩:=hex;induction i using Nat.strongRecOn with
   | _ i uM=>
    by_cases h:∃ j,j < i∧j < ops.size∧listed.getD j true=false
    ·obtain ⟨j,hj,mK⟩:=h;exact uM j hj mK
    ·exact ⟨i,hi,fun j hj hh=>h ⟨j,hj,hh⟩⟩
  obtain ⟨m,⟨oX,rr⟩,oY⟩:=iV;have eo:m∈Region.ready .any ops listed:=by
   obtain ⟨o,ho⟩ : ∃ o,ops[m]? = some o:=⟨ops[m]'(by omega),by simp⟩
   refine mem_ready.2 ⟨rr,o,ho,fun e he hb=>?_⟩;have aq:=(cC m oX o ho).2 e he hb;have hl:=oY e.on aq;have aM:e.on < listed.size:=by rw [inv.size];omega
   cases hv:listed.getD e.on false with
   | true=>rfl
   | false=>exact absurd ⟨by omega,getD_in aM hv⟩ hl
  refine ⟨fun h=>(by rw [h] at eo;cases eo),fun i hi=>?_⟩;obtain ⟨fm,o,ho,c_⟩:=mem_ready.1 hi;have bg:i < ops.size:=(Array.getElem?_eq_some_iff.1 ho).1;have bI:i < listed.size:=by rw [inv.size];omega
  have bT:∀ j,Region.waitsFor .any ops i j=true→listed.getD j false=true:=by
   intro j hj;obtain ⟨o',aT,e,he,hb,cD⟩:=Region.waitsFor_spec hj;have:o'=o:=Option.some.inj (aT.symm.trans ho);subst this;rw [←cD];exact c_ e he hb
  have b8:=z8 (ops:=ops) (listed:=fun i=>listed.getD i false) (vs:=vs) (o:=o) (fun cs b=>Region.noSelect_spec kx i o cs b ho) ops.toList 0 a0 hd (by
   intro j p hp hl d rq uN;have ep:j < ops.size:=by simpa using (List.getElem?_eq_some_iff.1 hp).1
   have Ac:ops[j]? = some p:=by simpa using hp
   have:=bT j ((cC i bg o ho).1 d uN j ep p Ac rq);rw [Nat.zero_add] at hl;rw [this] at hl;cases hl)
  have iu:=cT i bg o ho vs w inv.world (fun j hj hw=>inv.vals j hj (bT j hw));rw [List.take_of_length_le (show ops.toList.length≤ops.size by simp)] at iu;have jJ:∀ v w',S i v w'→Below w.heap.size w w'→wpAny P .any ops Q F (listed.setIfInBounds i true) (a.put o.dst v) w':=by
   intro v w' hv hb;refine ih (listed.setIfInBounds i true) (fun j=>if j=i then v else vs j) _ w' ⟨by simpa using inv.size,?_,DB inv.world hb,?_⟩ ?_
   ·rw [inv.frame];refine z7 (i:=i) (fun j hj=>⟨getD_set_ne false (Ne.symm hj),by simp [hj]⟩) (getD_both fm) ⟨?_,by simp⟩ _ 0 _ hd (Nat.zero_le _) ?_
    ·simp [bI]
    ·simpa using ho
   ·intro j hj hl;by_cases cU:j=i
    ·subst cU;simpa using hv
    ·simp only [cU,if_false];rw [getD_set_ne false (Ne.symm cU)] at hl;exact fJ j hj _ _ _ (inv.vals j hj hl) hb
   ·have h1:listed.toList[i]? = some false:=by
     have:listed[i]=false:=by simpa [bI] using fm
     simp [bI,this]
    have h2:=z_ h1;rw [Array.toList_setIfInBounds];omega
  have gU:a=fill (fun i=>listed.getD i false) vs ops.toList 0 a0:=inv.frame;have uO:execOp a.eval o=execOp (fill (fun _=>true) vs ops.toList 0 a0).eval o:=by rw [gU];exact b8.1
  have Ad:Region.wanted o (yielded ops a.tmps)=Region.wanted o (yielded ops (fill (fun _=>true) vs ops.toList 0 a0).tmps):=by rw [gU];exact b8.2
  unfold wpOp;simp only [ho];rw [Ad];by_cases hw:Region.wanted o (yielded ops (fill (fun _=>true) vs ops.toList 0 a0).tmps)=true
  ·rw [if_pos hw] at iu ⊢;exact Or.inl (ka iu uO fun v w' h=>jJ v w' h.1 h.2)
  ·rw [if_neg hw] at iu ⊢;exact jJ undef w iu (Below.refl _ _)
theorem KM {id:Nat} {Q:Exit→Act→World→Prop} {a:Act} {w:World} {l:List Oper} (S:Nat→Value→World→Prop) (hm:P.follows .mixedOrders=true) (hB:Region.allB l.toArray=true)
  (fJ:∀ i,i < l.length→∀ v w w',S i v w→Below w.heap.size w w'→S i v w')
  (cT:∀ i,i < l.length→p9 P l.toArray w a l.length S i)
  (sh:∀ vs w',Below w.heap.size w w'→(∀ i,i < l.length→S i (vs i) w')→Q .normal (fill (fun _=>true) vs l 0 a) w') : (Code.region id l.toArray true).wp P Q a w:=by
 refine wp_region_any hm ?_;refine KL (w0:=w) (a0:=a) (S:=S) hB (by simpa using fJ) (by simpa using cT) (by simpa using sh) _ _ (fun _=>undef) _ _ ⟨by simp,?_,(Below.refl _ _).drew,fun i _ h=>?_⟩ ?_
 ·have:∀ (l:List Oper) (k:Nat) (a:Act) (vs:Nat→Value) (m:Nat),a=fill (fun i=>(Array.replicate m false).getD i false) vs l k a:=by
   intro l;induction l with
   | nil=>intros;rfl
   | cons o l ih=>intro k a vs m;rw [fill,getD_replicate_false];exact ih (k+1) a vs m
  exact this _ 0 a _ _
 ·rw [getD_replicate_false] at h;cases h
 ·simp
end
def nz:Nat→AV→Bool
 | _,.lit _=>true
 | n+1,.agg cs=>cs.all (nz n)
 | n+1,.tup cs=>cs.all (nz n)
 | _,_=>false
def jh:Nat→Hp→AV→AV
 | 0,_,_=>.any
 | n+1,h,.agg cs=>if (cs.map (jh n h)).all cQ=true then .agg (cs.map (jh n h)) else .any
 | n+1,h,.tup cs=>.tup (cs.map (jh n h))
 | n+1,h,.fn f a b=>.fn f (a.map (jh n h)) (b.map (jh n h))
 | n+1,h,.iface t v=>.iface t (jh n h v)
 | n+1,h,.ref id off=>match h[id]? with|some (some (.box cs))=>if ((cs.drop off).map (jh n h)).all cQ=true then .vp ((cs.drop off).map (jh n h)) else .any|_=>.any
 | _+1,h,.aref id sz i off=>match h[id]? with|some (some (.arr _ bw _ es))=>if sz=bw∧i < es.length then .vp ((es.getD i []).drop off) else .any|_=>.any
 | _+1,h,.osl id=>match h[id]? with|some (some (.arr _ sz _ es))=>.sl sz es|some (some (.bag _ sz _ _ qs))=>.sl 1 (qs.map fun q=>[.sl sz q])|_=>.any
 | _+1,_,.slw _ _ sz es=>.sl sz es
 | _+1,_,.mp _=>.any
 | _+1,_,v=>v
def qz (h:Hp) (v:AV) : AV:=if e8 5 v=true then v else jh 5 h v
section
variable {P:Program} {w:World} {w0:Bas} {M M0:Nat→Nat→Prop} {h:Hp} {p:Pl}
theorem qA {n:Nat} {cs:List AV} {us:List Value} (ih:∀ (a:AV) (v:Value),V1 w M h p a v→V0 w M0 (jh n h a) v) (hv:∀ (i:Nat) (c:AV) (u:Value),cs[i]? = some c→us[i]? = some u→V1 w M h p c u) :
  ∀ (i:Nat) (c:AV) (u:Value),(cs.map (jh n h))[i]? = some c→us[i]? = some u→V0 w M0 c u:=by
 intro i c u hc hu;obtain ⟨a,ha,rfl⟩:=ea hc;exact ih a u (hv i a u ha hu)
theorem yF (hO:∀ id ob,h[id]? = some (some ob)→ObOK w0 w M h p id ob) (h0:∀ b j,M0 b j→¬Fr w0 b j) (hs:∀ b j,M0 b j→M b j) : ∀ (n:Nat) (a:AV) (v:Value),V1 w M h p a v→V0 w M0 (jh n h a) v
 | 0,_,v,_=>.any v
 | n+1,a,v,hv=>by
  have ih:=yF hO h0 hs n;have eX:∀ {a:AV} {v:Value},V0 w M a v→V0 w M0 a v:=fun hv=>hv.keep (Keeps.refl _ _) fun b j _ hn hm=>hn (hs b j hm);cases hv with
  | base _ _ cR=>
   cases cR with
   | any=>exact .any v
   | lit=>exact .lit v
   | agg cs us hl h1 hh=>
    simp only [jh];split
    ·rename_i hc;exact .agg _ _ (by simpa using hl) (List.all_eq_true.1 hc) (qA ih fun i c u h1 h2=>.base _ _ (hh i c u h1 h2))
    ·exact .any _
   | tup cs us hl hh=>exact .tup _ _ (by simpa using hl) (qA ih fun i c u h1 h2=>.base _ _ (hh i c u h1 h2))
   | slNil=>exact .slNil _ _ _
   | sl sz es cap b o u a1 a2 a3 a4 a5 a6 a7 a8=>exact eX (.sl sz es cap b o u a1 a2 a3 a4 a5 a6 a7 a8)
   | vp cs b o u a1 a2 a3 a4 a5=>exact eX (.vp cs b o u a1 a2 a3 a4 a5)
   | fn f x y us vs hl bj hh fo=>exact .fn f _ _ _ _ (by simpa using hl) (by simpa using bj) (qA ih fun i c u h1 h2=>.base _ _ (hh i c u h1 h2)) (qA ih fun i c u h1 h2=>.base _ _ (fo i c u h1 h2))
   | iface t x u hh=>exact .iface _ _ _ (ih x u (.base _ _ hh))
  | agg cs us hl h1 hh=>
   simp only [jh];split
   ·rename_i hc;exact .agg _ _ (by simpa using hl) (List.all_eq_true.1 hc) (qA ih hh)
   ·exact .any _
  | tup cs us hl hh=>exact .tup _ _ (by simpa using hl) (qA ih hh)
  | fn f x y us vs hl bj hh fo=>exact .fn f _ _ _ _ (by simpa using hl) (by simpa using bj) (qA ih hh) (qA ih fo)
  | iface t x u hh=>exact .iface _ _ _ (ih x u hh)
  | ref id off hid=>
   simp only [jh];split
   ·rename_i cs hc;split
    ·rename_i b_;obtain ⟨dr,cur,e,hg,aM,h1,aE⟩:=hO id _ hc;refine .vp _ (p id) off (fun j=>cur.getD (off+j) undef) (Array.getElem?_eq_some_iff.1 hg).1 (fun j _ hm=>h0 _ _ hm (dr.1 _)) (List.all_eq_true.1 b_) (fun j hj=>?_) fun j c hj=>?_
     ·rw [cell_of_row w (p id) _ cur e (0,0) hg];simp only [List.length_map,List.length_drop] at hj;have:off+j < cur.size:=by omega
      simp [this]
     ·obtain ⟨c',gY,rfl⟩:=ea hj;rw [List.getElem?_drop] at gY;obtain ⟨u,hu,bA⟩:=aE _ c' gY;have:cur.getD (off+j) undef=u:=by simp [hu]
      simp only [this];exact ih c' u bA
    ·exact .any _
   ·exact .any _
  | aref id sz i off hid=>
   simp only [jh];split
   ·rename_i e bw nl es hc;split
    ·rename_i eE;obtain ⟨rfl,hi⟩:=eE;obtain ⟨aM,h1,ba⟩:=hO id _ hc;have aL:nl≠true:=fun hn=>by rw [if_pos hn] at ba;subst ba;simp at hi
     rw [if_neg aL] at ba;obtain ⟨dr,cur,hg,hle,aE⟩:=ba;have hx:es[i]? = some (es.getD i []):=by simp [List.getD,hi]
     obtain ⟨lM,qp⟩:=h1 i _ hx;have aq:(i+1)*sz≤es.length*sz:=Nat.mul_le_mul_right _ hi;rw [Nat.add_mul] at aq;refine .vp _ (p id) (i*sz+off) (fun j=>cur.getD (i*sz+off+j) undef) (Array.getElem?_eq_some_iff.1 hg).1 (fun j _ hm=>h0 _ _ hm (dr.1 _)) (fun c hc=>qp c (List.mem_of_mem_drop hc)) (fun j hj=>?_) fun j c hj=>?_
     ·rw [cell_of_row w (p id) _ cur e (0,0) hg];simp only [List.length_drop] at hj;have:i*sz+off+j < cur.size:=by omega
      simp [this]
     ·rw [List.getElem?_drop] at hj;obtain ⟨u,hu,bA⟩:=aE i _ _ c hx hj;have:cur.getD (i*sz+off+j) undef=u:=by rw [Nat.add_assoc];simp [hu]
      simp only [this];exact eX bA
    ·exact .any _
   ·exact .any _
  | mp id hid=>exact .any _
  | slw id k sz es _ hid cR _=>exact eX cR
  | osl id A m c hid hv lJ=>
   simp only [jh];split
   ·rename_i e sz nl es hc;have ho:=hv _ _ _ _ hc;obtain ⟨aM,h1,ba⟩:=hO id _ hc;by_cases aL:nl=true
    ·rw [if_pos aL] at ba;subst ba;unfold Osl at ho;rw [if_pos aL] at ho;obtain ⟨⟨_,ho⟩,_⟩:=ho;rw [ho];exact .slNil _ _ _
    ·rw [if_neg aL] at ba;unfold Osl at ho;rw [if_neg aL] at ho;obtain ⟨cap,cur,heq,hg,bW,hle,_⟩:=ho;obtain ⟨dr,cur',fL,pd,aE⟩:=ba;obtain rfl:cur'=cur:=by rw [fL] at hg;injection hg with hg;injection hg
     rw [heq];by_cases ax:es=[]
     ·subst ax;exact .slNil _ _ _
     ·refine .sl sz es cap (p id) 0 (fun k j=>cur'.getD (k*sz+j) undef) ax (Array.getElem?_eq_some_iff.1 hg).1 (fun _ _ _ _ hm=>h0 _ _ hm (dr.1 _)) hle (fun k e hk=>(h1 k e hk).1) (fun k e j c hk hj=>(h1 k e hk).2 c (List.mem_of_getElem? hj)) (fun k j hk hj=>?_) fun k x j c hk hj=>?_
      ·rw [cell_of_row w (p id) _ cur' e (0,0) hg,Nat.zero_add];have:(k+1)*sz≤es.length*sz:=Nat.mul_le_mul_right _ hk;rw [Nat.add_mul] at this;have:k*sz+j < cur'.size:=by omega
       simp [this]
      ·obtain ⟨u,hu,bA⟩:=aE k x j c hk hj;have:cur'.getD (k*sz+j) undef=u:=by simp [hu]
       simp only [this];exact eX bA
   ·rename_i e sz nl ak qs hc;have ho:=lJ _ _ _ _ _ hc;obtain ⟨aM,ba⟩:=hO id _ hc;by_cases aL:nl=true
    ·rw [if_pos aL] at ba;subst ba;unfold Osl at ho;rw [if_pos aL] at ho;obtain ⟨⟨_,ho⟩,_⟩:=ho;rw [ho];exact .slNil _ _ _
    ·rw [if_neg aL] at ba;unfold Osl at ho;rw [if_neg aL] at ho;obtain ⟨cap,cur,heq,hg,bW,hle,_⟩:=ho;obtain ⟨xO,Kb,cur',fL,pd,aE,_⟩:=ba;obtain rfl:cur'=cur:=by rw [fL] at hg;injection hg with hg;injection hg
     rw [heq];by_cases ax:qs=[]
     ·subst ax;exact .slNil _ _ _
     ·have jQ:(qs.map fun q=>[AV.sl sz q]).length=qs.length:=List.length_map _;rw [←jQ];refine .sl 1 _ cap (p id) 0 (fun k _=>cur'.getD k undef) (fun hn=>ax (List.map_eq_nil_iff.1 hn)) (Array.getElem?_eq_some_iff.1 hg).1 (fun _ j _ _ hm=>h0 _ _ hm (xO _ _ (.inl rfl)).1) (by rw [jQ];exact hle) (fun k e hk=>?_) (fun k e j c hk hj=>?_) (fun k j hk hj=>?_) fun k x j c hk hj=>?_
      ·obtain ⟨q,_,rfl⟩:=ea hk;rfl
      ·obtain ⟨q,_,rfl⟩:=ea hk;rw [List.getElem?_singleton] at hj;split at hj
       ·injection hj with hj
        subst hj;rfl
       ·cases hj
      ·rw [jQ] at hk;rw [cell_of_row w (p id) _ cur' e (0,0) hg,show 0+k*1+j=k by omega];have:k < cur'.size:=by omega
       simp [this]
      ·obtain ⟨q,hq,rfl⟩:=ea hk;rw [List.getElem?_singleton] at hj;split at hj
       ·injection hj with hj
        subst hj;obtain ⟨v,hv,cR,_⟩:=aE k q hq;have:cur'.getD k undef=v:=by simp [hv]
        simp only [this];exact eX cR
       ·cases hj
   ·exact .any _
def pG:List (Nat×List Value)→Nat→Option (List Value)
 | [],_=>none
 | (g,vs)::r,i=>if g=i then some vs else pG r i
def gAV (g:Nat) : AV:=match pG qt g with|some vs=>.vp (vs.map .lit)|none=>.lit (.pointer (some ⟨g,0,none⟩))
def GOK (w:World) (M:Nat→Nat→Prop) : Prop:=(∀ (g:Nat) (vs:List Value),pG qt g=some vs→g < w.heap.size∧(∀ j,¬M g j)∧vs.all (·.oneCell')=true∧∀ (j:Nat) (v:Value),vs[j]? = some v→w.cell? ⟨g,j,none⟩=some v) ∧
 (∀ g∈x9,g < w.heap.size∧∀ j,¬M g j)∧x_ w
def MOK (w:World) (M:Nat→Nat→Prop) : Prop:=(∀ b j,M b j→b < w.heap.size)∧GOK w M
theorem GOK.keep {w w':World} {M M' X:Nat→Nat→Prop} (hk:Keeps X w w') (hX:GOK w X) (hM:∀ b j,b < w.heap.size→¬M b j→¬M' b j) (h:GOK w M) : GOK w' M':=⟨fun g vs hg=>by
 obtain ⟨h1,h2,h3,h4⟩:=h.1 g vs hg;exact ⟨Nat.lt_of_lt_of_le h1 hk.size,fun j=>hM g j h1 (h2 j),h3,fun j v hj=>hk.cell h1 ((hX.1 g vs hg).2.1 j) (h4 j v hj)⟩,fun q hq=>by
 obtain ⟨h1,h2⟩:=h.2.1 q hq;exact ⟨Nat.lt_of_lt_of_le h1 hk.size,fun j=>hM _ j h1 (h2 j)⟩,J5 (fun g hg=>hk.block g (h.2.1 g hg).1 (hX.2.1 g hg).2) h.2.2⟩
theorem GOK.at_ {w:World} {M:Nat→Nat→Prop} (h:GOK w M) (g:Nat) : V0 w M (gAV g) (.pointer (some ⟨g,0,none⟩)):=by
 unfold gAV;cases hg:pG qt g with
 | none=>exact .lit _
 | some vs=>
  obtain ⟨h1,h2,h3,h4⟩:=h.1 g vs hg;refine .vp _ g 0 (fun j=>vs.getD j undef) h1 (fun j _=>h2 _) (fun c hc=>?_) (fun j hj=>?_) fun j c hj=>?_
  ·obtain ⟨v,hv,rfl⟩:=List.mem_map.1 hc;exact List.all_eq_true.1 h3 v hv
  ·rw [List.length_map] at hj;rw [Nat.zero_add,h4 j _ (List.getElem?_eq_getElem hj)];simp [List.getD,hj]
  ·rw [List.getElem?_map,Option.map_eq_some_iff] at hj;obtain ⟨v,hv,rfl⟩:=hj;simp only [List.getD,hv,Option.getD_some];exact .lit _
attribute [go_sem] gAV pG qt
def lL (P : Program) (f : FuncId) : Bool := match P.funcs[f]? with | some fn => !(fn.name == "runtime.NumGoroutine") && fn.body.isSome | none => false
def VC (P:Program) (f:FuncId) (args:List AV) (r:AV) : Prop:=
 lL P f=true∧∀ (w:World) (M:Nat→Nat→Prop) (vs:List Value),MOK w M→vs.length=args.length→(∀ (i:Nat) (a:AV) (v:Value),args[i]? = some a→vs[i]? = some v→V0 w M a v) →
  Calls P f vs.toArray w fun e w'=>∃ v,e = .returned v∧Below w.heap.size w w'∧V0 w' M r v
def BM (P:Program) (t:TypeId) (name:String) : Option FuncId:=
 match P.info? t,P.underlying t with
 | some _,some (.pointer _)=>none
 | some i,some _=>match i.methods.find? (·.name == name) with
  | some m=>if m.path.isEmpty then (match m.func with|some (f,false)=>some f|_=>none) else none
  | none=>none
 | _,_=>none
theorem KN {P:Program} {t:TypeId} {name:String} {f:FuncId} (h:BM P t name=some f) (v:Value) (w:World) : (method (P.types.size+Made.depth) t v name).run P w = .ok (f,v) w:=by
 have cH:0 < Made.depth:=by decide
 obtain ⟨n,hn⟩ : ∃ n,P.types.size+Made.depth=n+1:=⟨P.types.size+(Made.depth - 1),by omega⟩
 rw [hn];unfold BM at h;split at h
 ·cases h
 ·rename_i i d KO hi hd;split at h
  ·rename_i m hm;split at h
   ·rename_i hp;split at h
    ·rename_i f' hf;simp only [Option.some.injEq] at h;subst h;have gq:m.path.toList=[]:=by simpa using hp
     have hr : (receiverAt t (.val v) false (if m.path.isEmpty then some ((name.splitOn ".").getLastD name) else none)).run P w = .ok v w := by
      unfold receiverAt;cases d<;>first|(simp [run_underlying hd,Place.get];done)|exact (KO _ rfl).elim
     simp only [method,Sem.run_bind,show (typeInfo t).run P w = .ok i w by simp [typeInfo,hi],Result.andThen_ok,hm,gq,follow,Sem.run_pure,hf,hr]
    ·cases h
   ·cases h
  ·cases h
 ·cases h
def qe (P:Program) (E:Operand→AV) (c:Call) : Option (FuncId×List AV):=
 match c.callee with
 | .invoke x name=>match E x with
  | .iface t v=>match BM P t name with
   | some f=>some (f,v::c.args.toList.map E)
   | none=>none
  | _=>none
 | .value f=>match E f with
  | .lit (.func (.func k) a b)=>if a.isEmpty&&b.isEmpty then some (k,c.args.toList.map E) else none
  | .fn (.func k) a b=>some (k,a++c.args.toList.map E++b)
  | _=>none
 | _=>none
def BN (P:Program) (h:Hp) (E:Operand→AV) (c:Call) (r:AV) : Prop:=
 match qe P E c with
 | none=>False
 | some (k,args)=>VC P k (args.map (qz h)) r∧(args.all (e8 5)=true∨nz 3 r=true)
theorem BO {f:FuncId} (hg:lL P f=true) (args:Array Value) (w:World) : (callFunc f args).run P w = .ok (.enter f args) w:=by
 unfold lL at hg;split at hg
 ·rename_i fn hf;simp only [Bool.and_eq_true,Bool.not_eq_true'] at hg;obtain ⟨c,hb⟩:=Option.isSome_iff_exists.1 hg.2;have hn:fn.body.isNone=false:=by rw [hb];rfl
  simp only [callFunc,Sem.run_bind,run_program,Result.andThen_ok,hf,hg.1,Bool.false_eq_true,if_false,hn,Sem.run_pure]
 ·cases hg
theorem V0.flat:∀ (n:Nat) {a:AV} {v:Value} {w w':World} {M M':Nat→Nat→Prop},V0 w M a v→nz n a=true→V0 w' M' a v
 | n,a,v,w,w',M,M',hv,hf=>by
  cases hv with
  | lit=>exact .lit v
  | agg cs us hl h1 hh=>
   cases n with
   | zero=>simp [nz] at hf
   | succ n=>
    simp only [nz] at hf;exact .agg cs us hl h1 fun i c u hc hu=>V0.flat n (hh i c u hc hu) (List.all_eq_true.1 hf c (List.mem_of_getElem? hc))
  | tup cs us hl hh=>
   cases n with
   | zero=>simp [nz] at hf
   | succ n=>
    simp only [nz] at hf;exact .tup cs us hl fun i c u hc hu=>V0.flat n (hh i c u hc hu) (List.all_eq_true.1 hf c (List.mem_of_getElem? hc))
  | _=>cases n<;>simp [nz] at hf
end
structure VS where
 s:List (Nat×AV)
 h:Hp
def lkp:List (Nat×AV)→Nat→AV
 | [],_=>.any
 | (d,v)::r,i=>if d=i then v else lkp r i
def ev (st:VS) : Operand→AV
 | .tmp t=>lkp st.s t
 | .const v=>.lit v
 | .global g=>gAV g
 | .func f=>.lit (.func (.func f) #[] #[])
def VS.put (st:VS) (d:Option Tmp) (v:AV) : VS:=match d with|some d=>⟨(d,v)::st.s,st.h⟩|none=>st
structure Bel (w0:Bas) (w:World) : Prop where
 os:w.os=w0.w.os
 tape:w.tape=w0.w.tape
 output:w.output=w0.w.output
 keeps:Keeps w0.X w0.w w
theorem Bel.size {w0:Bas} {w:World} (h:Bel w0 w) : w0.w.heap.size≤w.heap.size:=h.keeps.size
theorem Bel.start (w0:Bas) : Bel w0 w0.w:=⟨rfl,rfl,rfl,Keeps.refl _ _⟩
theorem Bel.later {w0:Bas} {w w':World} (h:Bel w0 w) (hb:Below w.heap.size w w') : Bel w0 w':=⟨hb.os.trans h.os,hb.tape.trans h.tape,hb.output.trans h.output,
 Nat.le_trans h.size hb.size,fun b aq hX=>(hb.block b (Nat.lt_of_lt_of_le aq h.size)).trans (h.keeps.block b aq hX),fun aq hX hc=>vD (hb.block _ (Nat.lt_of_lt_of_le aq h.size)) (h.keeps.cell aq hX hc)⟩
theorem Bel.blocks {w0:Bas} {w w':World} (h:Bel w0 w) (kM:w'.os=w.os) (kO:w'.tape=w.tape) (kP:w'.output=w.output) (aM:w.heap.size≤w'.heap.size) (hb:∀ b,b < w.heap.size→¬(∀ j,Fr w0 b j)→w'.heap[b]? = w.heap[b]?) : Bel w0 w':=by
 have hk:∀ b,b < w0.w.heap.size→¬(∀ j,w0.X b j)→w'.heap[b]? = w.heap[b]?:=fun b aq hX=>hb b (Nat.lt_of_lt_of_le aq h.size) fun hf=>hX fun j=>(hf j).resolve_left (by omega);refine ⟨kM.trans h.os,kO.trans h.tape,kP.trans h.output,Nat.le_trans h.size aM,fun b aq hX=>(hk b aq fun hf=>hX 0 (hf 0)).trans (h.keeps.block b aq hX),fun {b o v} aq hX hc=>vD (hk b aq fun hf=>hX (hf o)) (h.keeps.cell aq hX hc)⟩
theorem Bel.below {w0:Bas} {w:World} (h:Bel w0 w) (hX:∀ b j,¬w0.X b j) : Below w0.w.heap.size w0.w w:=⟨h.os,h.tape,h.output,h.size,fun b hb=>h.keeps.block b hb (hX b)⟩
structure Nm where
 n:Nat
 k:Nat
 vs:Nat→Value
def n0 (n:Nat) : Nm:=⟨n,0,fun _=>undef⟩
def Nm.has (N:Nm) (d:Nat) : Prop:=N.k≤d∧d < N.n
structure SizeOK (N:Nm) (a:Act) : Prop where
 size:a.tmps.size=N.n
 fix:∀ i,i < N.k→a.tmps.getD i undef=N.vs i
theorem mr (a:Act) (d:Nat) (v:Value) (i:Nat) (hd:d < a.tmps.size) : (a.put (some d) v).tmps.getD i undef=if d=i then v else a.tmps.getD i undef:=by
 simp only [Act.put,Array.getD_eq_getD_getElem?,Array.getElem?_setIfInBounds];by_cases h:d=i
 ·subst h;simp [hd]
 ·simp [h]
theorem SizeOK.lt {N:Nm} {a:Act} (h:SizeOK N a) {d:Nat} (hd:N.has d) : d < a.tmps.size:=by rw [h.size];exact hd.2
theorem SizeOK.put {N:Nm} {a:Act} (h:SizeOK N a) {d:Nat} {v:Value} (hd:N.has d) : SizeOK N (a.put (some d) v):=
 ⟨by simp [Act.put,h.size],fun i hi=>by rw [mr a d v i (h.lt hd),if_neg (by have:=hd.1;omega)];exact h.fix i hi⟩
structure Rel (M0:Nat→Nat→Prop) (w0:Bas) (N:Nm) (p:Pl) (st:VS) (a:Act) (w:World) : Prop where
 defers:a.defers=[]
 size:SizeOK N a
 below:Bel w0 w
 m0:MOK w0.w M0
 x0:MOK w0.w w0.X∧∀ b j,M0 b j→¬w0.X b j
 slots:∀ i,V1 w (Mof M0 st.h p) st.h p (lkp st.s i) (a.tmps.getD i undef)
 objs:∀ id ob,st.h[id]? = some (some ob)→ObOK w0 w (Mof M0 st.h p) st.h p id ob
 inj:∀ id fp ob ob',st.h[id]? = some (some ob)→st.h[fp]? = some (some ob')→cn ob=true→cn ob'=true→∀ b j j',p.O id b j→p.O fp b j'→id=fp
section
variable {P:Program} {M0:Nat→Nat→Prop} {w0:Bas} {N:Nm} {p:Pl} {st:VS} {a:Act} {w:World}
theorem Rel.h0 (R:Rel M0 w0 N p st a w) : ∀ b j,M0 b j→¬Fr w0 b j:=fun b j hm hf=>hf.elim (fun h=>absurd (R.m0.1 b j hm) (by omega)) (R.x0.2 b j hm)
theorem ObOK.own {w0:Bas} {M:Nat→Nat→Prop} {h:Hp} {id:Nat} {ob:Ob} (ho:ObOK w0 w M h p id ob) (hl:cn ob=true) : ∀ b j,p.O id b j→Fr w0 b j∧b < w.heap.size:=by
 have one:Own w0 p id→p id < w.heap.size→∀ b j,p.O id b j→Fr w0 b j∧b < w.heap.size:=fun h1 h2 b j hO=>by
  rcases hO with rfl|hS
  ·exact ⟨h1.1 j,h2⟩
  ·exact absurd hS (h1.2 b j)
 cases ob with
 | mpo kf iv=>obtain ⟨h1,_,es,clock,hg,_⟩:=ho;exact one h1 (Array.getElem?_eq_some_iff.1 hg).1
 | box cs=>obtain ⟨h1,cur,e,hg,_⟩:=ho;exact one h1 (Array.getElem?_eq_some_iff.1 hg).1
 | arr e sz nl es=>
  obtain ⟨_,_,hr⟩:=ho;cases nl
  ·obtain ⟨h1,cur,hg,_⟩:=hr;exact one h1 (Array.getElem?_eq_some_iff.1 hg).1
  ·cases hl
 | bag e sz nl ak qs=>
  obtain ⟨_,hr⟩:=ho;cases nl
  ·exact hr.1
  ·cases hl
theorem ObOK.lt {w0:Bas} {M:Nat→Nat→Prop} {h:Hp} {id:Nat} {ob:Ob} (ho:ObOK w0 w M h p id ob) (hl:cn ob=true) : p id < w.heap.size:=(ho.own hl (p id) 0 (.inl rfl)).2
theorem ObOK.ge {w0:Bas} {M:Nat→Nat→Prop} {h:Hp} {id:Nat} {ob:Ob} (ho:ObOK w0 w M h p id ob) (hl:cn ob=true) : ∀ j,Fr w0 (p id) j:=fun j=>(ho.own hl (p id) j (.inl rfl)).1
theorem Rel.lt (R:Rel M0 w0 N p st a w) : ∀ b j,Mof M0 st.h p b j→b < w.heap.size:=by
 intro b j hb;rcases hb with hb|⟨id,ob,hi,hl,hO⟩
 ·exact Nat.lt_of_lt_of_le (R.m0.1 b j hb) R.below.size
 ·exact ((R.objs id ob hi).own hl b j hO).2
theorem Rel.glob (R:Rel M0 w0 N p st a w) : GOK w M0:=GOK.keep R.below.keeps R.x0.1.2 (fun _ _ _ h=>h) R.m0.2
theorem Rel.globX (R:Rel M0 w0 N p st a w) : GOK w w0.X:=GOK.keep R.below.keeps R.x0.1.2 (fun _ _ _ h=>h) R.x0.1.2
theorem Rel.globM (R:Rel M0 w0 N p st a w) : GOK w (Mof M0 st.h p):=by
 have key:∀ g,g < w0.w.heap.size→(∀ j,¬M0 g j)→(∀ j,¬w0.X g j)→∀ j,¬Mof M0 st.h p g j:=fun g hg h1 h2 j hm=>by
  rcases hm with hm|⟨id,ob,hi,hl,hO⟩
  ·exact h1 j hm
  ·rcases ((R.objs id ob hi).own hl g j hO).1 with h|h
   ·omega
   ·exact h2 j h
 exact ⟨fun g vs hg=>by
  obtain ⟨h1,h2,h3,h4⟩:=R.glob.1 g vs hg;exact ⟨h1,key g (R.m0.2.1 g vs hg).1 h2 (R.globX.1 g vs hg).2.1,h3,h4⟩,fun q hq=>by
  obtain ⟨h1,h2⟩:=R.glob.2.1 q hq;exact ⟨h1,key q (R.m0.2.2.1 q hq).1 h2 (R.globX.2.1 q hq).2⟩,R.glob.2.2⟩
theorem Rel.mok (R:Rel M0 w0 N p st a w) : MOK w (Mof M0 st.h p):=⟨R.lt,R.globM⟩
theorem Rel.evalG (R:Rel M0 w0 N p st a w) (g:Nat) : V0 w (Mof M0 st.h p) (gAV g) (.pointer (some ⟨g,0,none⟩)):=R.globM.at_ g
theorem BagOK.later {w0:Bas} {w':World} {M:Nat→Nat→Prop} {id e sz:Nat} {ak:Option Nat} {qs:List (List (List AV))} (hb:Below w.heap.size w w') (h:BagOK w0 w M p id e sz ak qs) : BagOK w0 w' M p id e sz ak qs:=by
 obtain ⟨h1,h2,cur,hg,h3,h4,h5⟩:=h;refine ⟨fun b j hO=>⟨(h1 b j hO).1,Nat.lt_of_lt_of_le (h1 b j hO).2 hb.size⟩,h2,cur,(hb.block _ (Array.getElem?_eq_some_iff.1 hg).1).trans hg,h3,fun k x hk=>?_,h5⟩;obtain ⟨v,hv,cR,hs⟩:=h4 k x hk;exact ⟨v,hv,cR.later hb,fun hp=>(hs hp).later hb⟩
theorem ObOK.later {w0:Bas} {w':World} {M:Nat→Nat→Prop} {h:Hp} {id:Nat} {ob:Ob} (hb:Below w.heap.size w w') (ho:ObOK w0 w M h p id ob) : ObOK w0 w' M h p id ob:=by
 cases ob with
 | mpo kf iv=>
  obtain ⟨h1,h2,es,clock,hg,h3⟩:=ho;exact ⟨h1,h2,es,clock,(hb.block _ (Array.getElem?_eq_some_iff.1 hg).1).trans hg,h3⟩
 | box cs=>
  obtain ⟨h1,cur,e,hg,h2,h3,h4⟩:=ho;exact ⟨h1,cur,e,(hb.block _ (Array.getElem?_eq_some_iff.1 hg).1).trans hg,h2,h3,fun j c hj=>let ⟨u,hu,hv⟩:=h4 j c hj;⟨u,hu,hv.later hb⟩⟩
 | arr e sz nl es=>
  obtain ⟨h1,h2,hr⟩:=ho;refine ⟨h1,h2,?_⟩;split at hr
  ·rename_i hn;rw [if_pos hn];exact hr
  ·rename_i hn;rw [if_neg hn];obtain ⟨h3,cur,hg,h4,h5⟩:=hr;exact ⟨h3,cur,(hb.block _ (Array.getElem?_eq_some_iff.1 hg).1).trans hg,h4,fun k x j c hk hj=>let ⟨u,hu,hv⟩:=h5 k x j c hk hj;⟨u,hu,hv.later hb⟩⟩
 | bag e sz nl ak qs=>
  obtain ⟨h1,hr⟩:=ho;refine ⟨h1,?_⟩;split at hr
  ·rename_i hn;rw [if_pos hn];exact hr
  ·rename_i hn;rw [if_neg hn];exact hr.later hb
theorem ObOK.keep {w0:Bas} {w w':World} {M M':Nat→Nat→Prop} {h h':Hp} {p p':Pl} {id:Nat} {ob:Ob} (ho:ObOK w0 w M h p id ob) (hp:cn ob=true→p' id=p id∧p'.S id=p.S id) (pB:cn ob=true→∀ b j,p.O id b j→b < w.heap.size→w'.heap[b]? = w.heap[b]?) (aM:w.heap.size≤w'.heap.size)
  (dE:∀ {x:AV} {u:Value},V0 w M x u→V0 w' M' x u) (hV:∀ cs,ob = .box cs→∀ c∈cs,∀ u,V1 w M h p c u→V1 w' M' h' p' c u) : ObOK w0 w' M' h' p' id ob:=by
 have cz:cn ob=true→Own w0 p id→Own w0 p' id:=fun hl h1=>by
  unfold Own;rw [(hp hl).1,(hp hl).2];exact h1
 have aS:cn ob=true→∀ o,w.heap[p id]? = some o→w'.heap[p' id]? = some o:=fun hl o hg=>by
  rw [(hp hl).1,pB hl _ 0 (.inl rfl) (Array.getElem?_eq_some_iff.1 hg).1];exact hg
 cases ob with
 | mpo kf iv=>
  obtain ⟨h1,h2,es,clock,hg,h3⟩:=ho;exact ⟨cz rfl h1,h2,es,clock,aS rfl _ hg,h3⟩
 | box cs=>
  obtain ⟨h1,cur,e,hg,h2,h3,h4⟩:=ho;exact ⟨cz rfl h1,cur,e,aS rfl _ hg,h2,h3,fun j c hj=>let ⟨u,hu,hv⟩:=h4 j c hj;⟨u,hu,hV cs rfl c (List.mem_of_getElem? hj) u hv⟩⟩
 | arr e sz nl es=>
  obtain ⟨h1,h2,hr⟩:=ho;refine ⟨h1,h2,?_⟩;cases nl
  ·simp only [Bool.false_eq_true,if_false] at hr ⊢;obtain ⟨h3,cur,hg,h4,h5⟩:=hr;exact ⟨cz rfl h3,cur,aS rfl _ hg,h4,fun k x j c hk hj=>let ⟨u,hu,hv⟩:=h5 k x j c hk hj;⟨u,hu,dE hv⟩⟩
  ·exact hr
 | bag e sz nl ak qs=>
  obtain ⟨h1,hr⟩:=ho;refine ⟨h1,?_⟩;cases nl
  ·simp only [Bool.false_eq_true,if_false] at hr ⊢;obtain ⟨h3,h4,cur,hg,h5,h6,h7⟩:=hr;have hO:∀ b j,p'.O id b j→p.O id b j:=fun b j hO=>by
    unfold Pl.O at hO ⊢;rw [(hp rfl).1,(hp rfl).2] at hO;exact hO
   refine ⟨fun b j hb=>⟨(h3 b j (hO b j hb)).1,Nat.lt_of_lt_of_le (h3 b j (hO b j hb)).2 aM⟩,fun j=>by rw [(hp rfl).1,(hp rfl).2];exact h4 j,cur,aS rfl _ hg,h5,fun k x hk=>?_,h7⟩;obtain ⟨v,hv,cR,hs⟩:=h6 k x hk;exact ⟨v,hv,dE cR,fun gq=>(hs gq).keep (hp rfl).1 (hp rfl).2 fun b j hS=>pB rfl b j (.inr hS)⟩
  ·exact hr
theorem Rel.later {w':World} (R:Rel M0 w0 N p st a w) (hb:Below w.heap.size w w') : Rel M0 w0 N p st a w':=
 ⟨R.defers,R.size,R.below.later hb,R.m0,R.x0,fun i=>(R.slots i).later hb,fun id ob hi=>(R.objs id ob hi).later hb,R.inj⟩
theorem Rel.putS (R:Rel M0 w0 N p st a w) {d:Nat} {r:AV} {v:Value} (hd:N.has d) (hv:V1 w (Mof M0 st.h p) st.h p r v) : Rel M0 w0 N p ⟨(d,r)::st.s,st.h⟩ (a.put (some d) v) w:=by
 refine ⟨R.defers,?_,R.below,R.m0,R.x0,fun i=>?_,R.objs,R.inj⟩
 ·exact R.size.put hd
 ·rw [mr a d v i (R.size.lt hd)];simp only [lkp];split
  ·exact hv
  ·exact R.slots i
theorem Rel.put (R:Rel M0 w0 N p st a w) {d:Option Tmp} {r:AV} {v:Value} (hd:∀ t,d=some t→N.has t) (hv:V1 w (Mof M0 st.h p) st.h p r v) : Rel M0 w0 N p (st.put d r) (a.put d v) w:=by
 cases d with
 | none=>exact R
 | some d=>exact R.putS (hd d rfl) hv
theorem Rel.eval (R:Rel M0 w0 N p st a w) (x:Operand) : V1 w (Mof M0 st.h p) st.h p (ev st x) (a.eval x):=by
 cases x with
 | tmp t=>exact R.slots t
 | const v=>exact .base _ _ (.lit v)
 | global g=>exact .base _ _ (R.evalG g)
 | func f=>exact .base _ _ (.lit _)
def fi (P:Program) (h:Hp) (E:Operand→AV) (op:Op) (r:AV) : Prop:=
 match yC P h E op with
 | some r'=>r'=r
 | none=>match yD P E op with
  | some r'=>r'=r
  | none=>match op with
   | .call c=>BN P h E c r
   | _=>False
theorem xq {M:Nat→Nat→Prop} {h:Hp} {k:FuncId} {args:List AV} {E:Operand→AV} {dst:Option Tmp} {callee:Callee} {bH:Array Operand} {ml:Array TypeId} {ty:TypeId} {pos:String} {after:Array Edge} {guard:Option (Nat×Bool)}
  (hE:∀ x∈(Op.call ⟨callee,bH,ml⟩).operands,V1 w M h p (E x) (a.eval x)) (cK:qe P E ⟨callee,bH,ml⟩=some (k,args)) (k6:lL P k=true) :
  ∃ vs:List Value,(execOp a.eval ⟨dst,.call ⟨callee,bH,ml⟩,ty,pos,after,guard⟩).run P w = .ok (.enter k vs.toArray) w∧vs.length=args.length∧∀ (i:Nat) (x:AV) (v:Value),args[i]? = some x→vs[i]? = some v→V1 w M h p x v:=by
 have eB:∀ x∈bH.toList,V1 w M h p (E x) (a.eval x):=fun x hx=>hE x (by simp only [Op.operands,Call.operands];exact Array.mem_append_right _ (by simpa using hx));have sj:∀ (i:Nat) (x:AV) (v:Value),(bH.toList.map E)[i]? = some x→(bH.toList.map a.eval)[i]? = some v→V1 w M h p x v:=by
  intro i x v h1 h2;obtain ⟨y,hy,rfl⟩:=ea h1;obtain ⟨z,hz,rfl⟩:=ea h2;rw [hy] at hz;obtain rfl:=Option.some.inj hz;exact eB y (List.mem_of_getElem? hy)
 unfold qe at cK;split at cK
 ·rename_i x name hf;simp only at hf cK;subst hf;have pH:=hE x (by simp [Op.operands,Call.operands]);split at cK
  ·rename_i t v he;split at cK
   ·rename_i f hm;simp only [Option.some.injEq,Prod.mk.injEq] at cK;obtain ⟨rfl,rfl⟩:=cK;rw [he] at pH;have lV:∃ u:Value,a.eval x = .iface t u∧V1 w M h p v u:=by
     generalize a.eval x=fv at pH;cases pH with
     | base _ _ h0=>
      cases h0 with
      | iface _ _ u hu=>exact ⟨u,rfl,.base _ _ hu⟩
     | iface _ _ u hu=>exact ⟨u,rfl,hu⟩
    obtain ⟨u,hq,hu⟩:=lV;refine ⟨u::bH.toList.map a.eval,?_,by simp,fun i c v' h1 h2=>?_⟩
    ·have e1:(u::bH.toList.map a.eval).toArray=#[u]++bH.map a.eval:=by apply Array.ext';simp
     have e2:(#[Value.iface t u]++bH.map a.eval)[0]? = some (.iface t u):=by rw [Array.getElem?_append];rfl
     have e3:(#[Value.iface t u]++bH.map a.eval).extract 1 (#[Value.iface t u]++bH.map a.eval).size=bH.map a.eval:=by
      apply Array.ext';simp only [Array.toList_extract,List.extract,Array.toList_append,Array.toList_map];simp [List.take_of_length_le]
     rw [e1];simp only [execOp,resolve,hq,Sem.run_bind,Sem.run_pure,Result.andThen_ok,invoke,e2,e3,callMethod,run_program,KN hm];exact BO k6 _ _
    ·rcases i with _|i
     ·simp only [List.getElem?_cons_zero,Option.some.injEq] at h1 h2;subst h1 h2;exact hu
     ·simp only [List.getElem?_cons_succ] at h1 h2;exact sj i c v' h1 h2
   ·cases cK
  ·cases cK
 ·rename_i f hf;simp only at hf cK;subst hf;have pH:=hE f (by simp [Op.operands,Call.operands]);split at cK
  ·rename_i k' x y he;split at cK
   ·rename_i Fh;simp only [Option.some.injEq,Prod.mk.injEq] at cK;obtain ⟨rfl,rfl⟩:=cK;simp only [Bool.and_eq_true,Array.isEmpty_iff] at Fh;obtain ⟨rfl,rfl⟩:=Fh;rw [he] at pH;refine ⟨bH.toList.map a.eval,?_,by simp,sj⟩;have e1:(bH.toList.map a.eval).toArray=bH.map a.eval:=by apply Array.ext';simp
    rw [e1];simp only [execOp,resolve,pH.lit_inv,Deferred.ofValue,Sem.run_bind,Sem.run_pure,Result.andThen_ok,invoke,Array.append_empty,Array.empty_append];exact BO k6 _ _
   ·cases cK
  ·rename_i k' x y he;simp only [Option.some.injEq,Prod.mk.injEq] at cK;obtain ⟨rfl,rfl⟩:=cK;rw [he] at pH;have lV:∃ us vs:List Value,a.eval f = .func (.func k') us.toArray vs.toArray∧us.length=x.length∧vs.length=y.length∧(∀ (i:Nat) (c:AV) (u:Value),x[i]? = some c→us[i]? = some u→V1 w M h p c u)∧∀ (i:Nat) (c:AV) (u:Value),y[i]? = some c→vs[i]? = some u→V1 w M h p c u:=by
    generalize a.eval f=fv at pH;cases pH with
    | base _ _ h0=>
     cases h0 with
     | fn _ _ _ us vs hl bj hh fo=>exact ⟨us,vs,rfl,hl,bj,fun i c u h1 h2=>.base _ _ (hh i c u h1 h2),fun i c u h1 h2=>.base _ _ (fo i c u h1 h2)⟩
    | fn _ _ _ us vs hl bj hh fo=>exact ⟨us,vs,rfl,hl,bj,hh,fo⟩
   obtain ⟨us,vs,hq,hl,bj,hh,fo⟩:=lV;refine ⟨us++bH.toList.map a.eval++vs,?_,by simp [hl,bj],fun i c u h1 h2=>?_⟩
   ·have e1:(us++bH.toList.map a.eval++vs).toArray=us.toArray++bH.map a.eval++vs.toArray:=by apply Array.ext';simp
    rw [e1];simp only [execOp,resolve,hq,Deferred.ofValue,Sem.run_bind,Sem.run_pure,Result.andThen_ok,invoke];exact BO k6 _ _
   ·rw [List.append_assoc] at h1 h2;rcases Nat.lt_or_ge i x.length with hi|hi
    ·rw [List.getElem?_append_left hi] at h1;rw [List.getElem?_append_left (by omega)] at h2;exact hh i c u h1 h2
    ·rw [List.getElem?_append_right hi] at h1;rw [List.getElem?_append_right (by omega),hl] at h2;rcases Nat.lt_or_ge (i - x.length) bH.size with hj|hj
     ·rw [List.getElem?_append_left (by simpa using hj)] at h1 h2;exact sj _ c u h1 h2
     ·rw [List.getElem?_append_right (by simpa using hj)] at h1 h2;simp only [List.length_map,Array.length_toList] at h1 h2;exact fo _ c u h1 h2
  ·cases cK
 ·cases cK
theorem pk {M M0:Nat→Nat→Prop} {h:Hp} {w0:Bas} (hO:∀ id ob,h[id]? = some (some ob)→ObOK w0 w M h p id ob) (hM:MOK w M) (h0:∀ b j,M0 b j→¬Fr w0 b j) (hG:GOK w M0) (hs:∀ b j,M0 b j→M b j)
  {o:Oper} {E:Operand→AV} {r:AV} (hE:∀ x∈o.op.operands,V1 w M h p (E x) (a.eval x)) (hg:fi P h E o.op r) : gives P o a w fun v w'=>V1 w' M h p r v∧Below w.heap.size w w':=by
 unfold gives;unfold fi at hg;split at hg
 ·rename_i r' hr;subst hg;obtain ⟨u,hu,hv⟩:=KC (P:=P) hO hE hr;rw [hu];exact ⟨hv,Below.refl _ _⟩
 ·split at hg
  ·rename_i r' hr;subst hg;obtain ⟨u,w',hu,hb,hv⟩:=KK (P:=P) hM.1 hE hr;rw [hu];exact ⟨.base _ _ hv,hb⟩
  ·split at hg
   ·rename_i c hc;unfold BN at hg;split at hg
    ·exact hg.elim
    ·rename_i k args cK;obtain ⟨⟨k6,eA⟩,cM⟩:=hg;obtain ⟨dst,op,ty,pos,after,guard⟩:=o;simp only at hc hE;subst hc;obtain ⟨callee,bH,ml⟩:=c;have key:=xq (P:=P) (dst:=dst) (ty:=ty) (pos:=pos) (after:=after) (guard:=guard) hE cK k6;obtain ⟨vs,aD,hlen,gx⟩:=key;rw [aD];simp only [tt];by_cases hp:args.all (e8 5)=true
     ·have hc:=eA w M vs hM (by simpa using hlen) (fun i x v hx hv=>by
       obtain ⟨y,hy,rfl⟩:=ea hx;have yG:=List.all_eq_true.1 hp y (List.mem_of_getElem? hy);unfold qz;rw [if_pos yG];exact (gx i y v hy hv).pure 5 yG)
      exact hc.mono fun e w' ⟨v,he,hb,hv⟩=>⟨v,he,.base _ _ hv,hb⟩
     ·have hf:nz 3 r=true:=cM.resolve_left hp;have hc:=eA w M0 vs ⟨fun b j hb=>hM.1 b j (hs b j hb),hG⟩ (by simpa using hlen) (fun i x v hx hv=>by
       obtain ⟨y,hy,rfl⟩:=ea hx;unfold qz;split
       ·rename_i yG;exact ((gx i y v hy hv).pure 5 yG).keep (Keeps.refl _ _) fun b j _ hn hm=>hn (hs b j hm)
       ·exact yF hO h0 hs 5 y v (gx i y v hy hv))
      exact hc.mono fun e w' ⟨v,he,hb,hv⟩=>⟨v,he,.base _ _ (hv.flat 3 hf),hb⟩
   ·exact hg.elim
theorem Rel.gives (R:Rel M0 w0 N p st a w) {o:Oper} {r:AV} (hg:fi P st.h (ev st) o.op r) : gives P o a w fun v w'=>V1 w' (Mof M0 st.h p) st.h p r v∧Below w.heap.size w w':=
 pk R.objs R.mok R.h0 R.glob (fun _ _ hb=>.inl hb) (fun x _=>R.eval x) hg
end
def lW (cs:List AV) (off:Nat) (vs:List AV) : List AV:=cs.take off++vs++cs.drop (off+vs.length)
def cE (id:Nat) : Nat→AV→Bool
 | 0,_=>false
 | n+1,.agg cs=>cs.all (cE id n)
 | n+1,.tup cs=>cs.all (cE id n)
 | n+1,.fn _ a b=>a.all (cE id n)&&b.all (cE id n)
 | n+1,.iface _ v=>cE id n v
 | _+1,.osl i=>i != id
 | _+1,.mp i=>i != id
 | _+1,.ref i _=>i != id
 | _+1,.aref i _ _ _=>i != id
 | _+1,.slw i _ _ _=>i != id
 | _+1,_=>true
def purge (id:Nat) (v:AV) : AV:=if cE id 5 v=true then v else .any
def ua (id:Nat) : AV→Bool
 | .osl i=>i == id
 | _=>false
def qB (id i:Nat) (c:AV) : AV:=if cE id 5 c=true then c else .osl i
def jD (id i:Nat) : Option Ob→Option Ob
 | some (.box cs)=>if cs.all (cE id 5)=true then some (.box cs) else if cs.all (fun c=>cE id 5 c || ua id c)=true then some (.box (cs.map (qB id i))) else none
 | o=>o
def fT (id:Nat) : Nat→Hp→Hp
 | _,[]=>[]
 | i,o::r=>jD id i o::fT id (i+1) r
theorem yH (id:Nat) : ∀ (h:Hp) (i:Nat),(fT id i h).length=h.length
 | [],_=>rfl
 | _::r,i=>by simp [fT,yH id r (i+1)]
theorem vU (id:Nat) : ∀ (h:Hp) (i k:Nat),(fT id i h)[k]? = (h[k]?).map (jD id (i+k))
 | [],_,_=>by simp [fT]
 | o::r,i,0=>by simp [fT]
 | o::r,i,k+1=>by
  have:=vU id r (i+1) k;simp only [fT,List.getElem?_cons_succ];rw [this,show i+1+k=i+(k+1) by omega]
def pI (st:VS) (d:Option Tmp) (av:AV) (ob:Ob) : Option VS:=match d with|some d=>some ⟨(d,av)::st.s,st.h++[some ob]⟩|none=>none
def yI (ow:List Nat) (d:Option Tmp) : Bool:=match d with|some d=>ow.contains d|none=>false
def vV (P:Program) (st:VS) (t:TypeId) (m x y:Operand) : Option VS:=
 match qx P t,ev st m,ev st x,ev st y with
 | some (kf,_),.mp id,.lit key,.lit val=>match st.h[id]? with
  | some (some (.mpo tZ iv))=>if kf=tZ∧jC key=some kf then some ⟨st.s,st.h.set id (some (.mpo kf (iR key val iv)))⟩ else none
  | _=>none
 | _,_,_,_=>none
def lX (P:Program) (ow:List Nat) (st:VS) (o:Oper) : Option VS:=
 match o.op with
 | .alloc t=>match aU P t with|some ti=>pI st o.dst (.ref st.h.length 0) (.box (ti.zero.map .lit))|none=>none
 | .box _ x=>if yI ow o.dst&&oK (ev st x) then pI st o.dst (.ref st.h.length 0) (.box (fS (ev st x))) else none
 | .buildSlice t n parts=>if yI ow o.dst then (match sf P t n (parts.toList.map fun q=>(q.1,ev st q.2)) with
   | some (cs,ti)=>if cs.all (e8 5) then pI st o.dst (.osl st.h.length) (.arr ti.elem ti.esz false (jw ti.esz n cs)) else none
   | none=>none) else none
 | .assign (.const (.slice none 0 0))=>if yI ow o.dst then (match aU P o.type with
   | some ti=>if ti.kind=1∧ti.esz≠0 then pI st o.dst (.osl st.h.length) (.arr ti.elem ti.esz true []) else none
   | none=>none) else none
 | .makeSlice t l c=>match aU P t,ev st l,ev st c with
   | some ti,.lit (.int .i64 n),.lit (.int .i64 m)=>match aU P ti.elem with
    | some te=>if ti.kind=1∧te.size=ti.esz∧te.zero.length=ti.esz∧ti.esz≠0∧n=m∧0≤n∧n≤1000000000∧te.bytes≤100000 then pI st o.dst (.osl st.h.length) (.arr ti.elem ti.esz false (List.replicate n.toNat (te.zero.map .lit))) else none
    | none=>none
   | _,_,_=>none
 | .store t x y=>match o.dst,aU P t,ev st x with
  | none,some ti,.ref id off=>match st.h[id]? with
   | some (some (.box cs))=>if oK (ev st y)=true∧(fS (ev st y)).length=ti.size∧off+ti.size≤cs.length then some ⟨st.s,st.h.set id (some (.box (lW cs off (fS (ev st y)))))⟩ else none
   | _=>none
  | none,some ti,.aref id sz i off=>match st.h[id]? with
   | some (some (.arr e bw nl es))=>if sz=bw∧i < es.length∧oK (ev st y)=true∧(fS (ev st y)).all (e8 5)=true∧(fS (ev st y)).length=ti.size∧off+ti.size≤sz then some ⟨st.s,st.h.set id (some (.arr e sz nl (es.set i (lW (es.getD i []) off (fS (ev st y))))))⟩ else none
   | _=>none
  | _,_,_=>none
 | .call ⟨.builtin .append,xs,ts⟩=>match xs.toList,ts.toList,o.dst with
  | [x,y],[t,t'],some d=>match aU P t,ev st x,ev st y with
   | some ti,.osl id,.sl sz es=>match st.h[id]? with
    | some (some (.arr e bw nl es'))=>match aU P ti.elem with
     | some te=>if t=t'∧ti.kind=1∧ti.elem=e∧sz=bw∧ti.esz=sz∧te.size=sz∧te.zero.length=sz∧(nl=true→0 < es.length)∧es'.length+es.length≤1000000000∧te.bytes≤100000 then
       some ⟨(d,.osl id)::st.s.map (fun q=>(q.1,purge id q.2)),fT id 0 (st.h.set id (some (.arr e sz false (es'++es))))⟩ else none
     | none=>none
    | _=>none
   | _,_,_=>none
  | _,_,_=>none
 | .makeMap t none=>match qx P t with|some (kf,_)=>pI st o.dst (.mp st.h.length) (.mpo kf [])|none=>none
 | .mapUpdate t m x y=>match o.dst with|none=>vV P st t m x y|some _=>none
 | .insert t m x y=>match o.dst with|none=>vV P st t m x y|some _=>none
 | _=>none
end Go.Proofs.YtoibondihdhnoaaGreatDoor
