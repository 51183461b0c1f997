/- Texts in one: A drawing region that makes several variables of the call's own, in no order to each other: of every program; no condition. -/
import Derived.Test.YtoibondihdhnoaaGreatDoorFRK6
namespace Go.Proofs.YtoibondihdhnoaaGreatDoor
open Go.RowKit
section
variable {P:Program} {M0:Nat→Nat→Prop} {w0:Bas} {N:Nm} {p:Pl} {st:VS} {a:Act} {w:World} {Q:Exit→VS→Prop}
theorem sX {h:Hp} {m id:Nat} {ob:Ob} (hi:(h++List.replicate m none)[id]? = some (some ob)) : h[id]? = some (some ob):=by
 rcases Nat.lt_or_ge id h.length with aq|du
 ·rwa [List.getElem?_append_left aq] at hi
 ·rw [List.getElem?_append_right du,List.getElem?_replicate] at hi;split at hi<;>cases hi
theorem Rel.pad (R:Rel M0 w0 N p st a w) (m:Nat) : Rel M0 w0 N p ⟨st.s,st.h++List.replicate m none⟩ a w:=by
 have hM:∀ b j,¬Mof M0 st.h p b j→¬Mof M0 (st.h++List.replicate m none) p b j:=fun b j hb fo=>by
  rcases fo with h|⟨i,ob,hi,hl,hp⟩
  ·exact hb (.inl h)
  ·exact hb (.inr ⟨i,ob,sX hi,hl,hp⟩)
 have keep:∀ {av:AV} {v:Value},V1 w (Mof M0 st.h p) st.h p av v→V1 w (Mof M0 (st.h++List.replicate m none) p) (st.h++List.replicate m none) p av v:=fun hv=>
  hv.keep (Keeps.refl _ _) (fun b j _ h=>hM b j h) (by simp) (fun _ _=>rfl) (fun i e sz nl es v _ he hv=>hv _ _ _ _ (sX he)) (fun i e sz nl pe qs v _ he hv=>hv _ _ _ _ _ (sX he)) fun i k sz v hid hs=>hs.keep (fun e sz pe qs he=>⟨sX he,rfl,rfl,fun _ _ _ _=>rfl⟩) (Nat.le_refl _)
 exact ⟨R.defers,R.size,R.below,R.m0,R.x0,fun i=>keep (R.slots i),fun i ob hi=>(R.objs i ob (sX hi)).keep (fun _=>⟨rfl,rfl⟩) (fun _ _ _ _ _=>rfl) (Nat.le_refl _) (fun hx=>hx.keep (Keeps.refl _ _) fun b j _=>hM b j) fun _ _ _ _ _ hx=>keep hx,
  fun i i' ob ob' hi bA=>R.inj i i' ob ob' (sX hi) (sX bA)⟩
theorem Rel.fill {us:List Value} {zs:List Value} {id d:Nat} (R:Rel M0 w0 N p st a w) (hd:N.has d) (hid:st.h[id]? = some none) (hs:∀ t,cH id 5 (lkp st.s t)=true) (hh:∀ (i:Nat) (cs:List AV),st.h[i]? = some (some (Ob.box cs))→∀ c∈cs,cH id 5 c=true)
  (hc:Cells w (Mof M0 st.h p) st.h p (zs.map .lit) us) (t:TypeId) :
  Rel M0 w0 N (cM p id w.heap.size) ⟨(d,.ref id 0)::st.s,st.h.set id (some (.box (zs.map .lit)))⟩ (a.put (some d) (.pointer (some ⟨w.heap.size,0,none⟩))) { w with heap:=w.heap.push (.cells us.toArray t) }:=by
 have hb:=lr w (.cells us.toArray t);have eI:id < st.h.length:=(List.getElem?_eq_some_iff.1 hid).1;have hp:∀ i,i≠id→cM p id w.heap.size i=p i:=fun i hi=>(jX hi).1;have jY:cM p id w.heap.size id=w.heap.size:=(kP p _ _).1;have bB:∀ i o,(st.h.set id (some (.box (zs.map .lit))))[i]? = some (some o)→(i=id∧o = .box (zs.map .lit))∨(i≠id∧st.h[i]? = some (some o)):=by
  intro i o aF;rw [List.getElem?_set] at aF;by_cases he:id=i
  ·rw [if_pos he,if_pos (by omega)] at aF;simp only [Option.some.injEq] at aF;exact .inl ⟨he.symm,aF.symm⟩
  ·rw [if_neg he] at aF;exact .inr ⟨fun h=>he h.symm,aF⟩
 have hM:∀ c j,c < w.heap.size→¬Mof M0 st.h p c j→¬Mof M0 (st.h.set id (some (.box (zs.map .lit)))) (cM p id w.heap.size) c j:=by
  intro c j hc hn hm;rcases hm with hm|⟨i,o,hi,hl,jS⟩
  ·exact hn (.inl hm)
  ·rcases bB i o hi with ⟨rfl,_⟩|⟨au,bA⟩
   ·have:=lU jS;omega
   ·exact hn (.inr ⟨i,o,bA,hl,(jl au).1 jS⟩)
 have hV:∀ {x:AV} {u:Value},cH id 5 x=true→V1 w (Mof M0 st.h p) st.h p x u→V1 { w with heap:=w.heap.push (.cells us.toArray t) } (Mof M0 (st.h.set id (some (.box (zs.map .lit)))) (cM p id w.heap.size)) (st.h.set id (some (.box (zs.map .lit)))) (cM p id w.heap.size) x u:=fun hx hv=>
  V1.purge (.of_below hb) hM (by simp) hp (fun i e sz nl es v au he hv=>by
   rcases bB i _ he with ⟨h1,_⟩|⟨_,h2⟩
   ·exact absurd h1 au
   ·exact (hv _ _ _ _ h2).below hb) (fun i e sz nl pe qs v au he hv=>by
   rcases bB i _ he with ⟨h1,_⟩|⟨_,h2⟩
   ·exact absurd h1 au
   ·exact (hv _ _ _ _ _ h2).below hb) (fun i k sz v au cC hs=>hs.keep (fun e sz pe qs he=>by
   rcases bB i _ he with ⟨h1,_⟩|⟨_,h2⟩
   ·exact absurd h1 au
   ·exact ⟨h2,(jX au).1,(jX au).2,fun b _ _ aq=>hb.block b aq⟩) hb.size) 5 _ _ hv hx
 refine ⟨R.defers,R.size.put hd,R.below.later hb,R.m0,R.x0,fun i=>?_,fun i o hi=>?_,fun i i' o o' hi bA hl bp x j j' hO cw=>?_⟩
 ·rw [lu a d _ i (R.size.lt hd)];simp only [lkp];split
  ·have:=V1.ref (w:={ w with heap:=w.heap.push (.cells us.toArray t) }) (M:=Mof M0 (st.h.set id (some (.box (zs.map .lit)))) (cM p id w.heap.size)) (h:=st.h.set id (some (.box (zs.map .lit)))) (p:=cM p id w.heap.size) id 0 (by simpa using eI);rwa [jY] at this
  ·exact hV (hs i) (R.slots i)
 ·rcases bB i o hi with ⟨rfl,rfl⟩|⟨au,bA⟩
  ·refine ⟨rJ R.below.size,us.toArray,t,by rw [jY];simp [-World.alloc_eq],by simpa using hc.1,hc.2.1,fun j c hj=>?_⟩;have eY:j < us.length:=by rw [hc.1];exact (List.getElem?_eq_some_iff.1 hj).1
   refine ⟨us[j],by simp [eY],hV ?_ (hc.2.2 j c us[j] hj (List.getElem?_eq_getElem eY))⟩;rw [List.getElem?_map,Option.map_eq_some_iff] at hj;obtain ⟨z,_,rfl⟩:=hj;rfl
  ·exact (R.objs i o bA).keep (fun _=>jX au) (fun _ b _ _ de=>hb.block b de) hb.size (fun hx=>hx.keep (.of_below hb) hM) fun cs bM c fO _ hx=>hV (hh i cs (by rw [bA,bM]) c fO) hx
 ·rcases bB i o hi with ⟨rfl,rfl⟩|⟨hn,h1⟩<;>rcases bB i' o' bA with ⟨rfl,rfl⟩|⟨lv,h2⟩
  ·rfl
  ·have h3:=((R.objs i' o' h2).own bp x j' ((jl lv).1 cw)).2;have h4:=lU hO;omega
  ·have h3:=((R.objs i o h1).own hl x j ((jl hn).1 hO)).2;have h4:=lU cw;omega
  ·exact R.inj i i' o o' h1 h2 hl bp x j j' ((jl hn).1 hO) ((jl lv).1 cw)
end
structure Slot where
 ai:Nat
 d:Nat
 z:List Value
 si:Option Nat
 c:List AV
def Slot.end_ (q:Slot) : List AV:=match q.si with|some _=>q.c|none=>q.z.map .lit
def Slot.at_ (q:Slot) (f:Nat→Bool) : Option Ob:=if f q.ai=true then some (.box (match q.si with|some s=>if f s=true then q.c else q.z.map .lit|none=>q.z.map .lit)) else none
def fK (A:List Slot) (f:Nat→Bool) : Hp:=A.map fun q=>q.at_ f
def ez:List Slot→Hp
 | []=>[]
 | q::r=>some (.box q.end_)::ez r
def d_ (k:Nat) : List Slot→List (Nat×AV)
 | []=>[]
 | q::r=>(q.d,.ref k 0)::d_ (k+1) r
def isA (A:List Slot) (i:Nat) : Bool:=A.any fun q=>q.ai == i || q.si == some i
def zF (l:List Oper) (n:Nat) (q:Slot) : Bool:=
 decide (q.ai < n)&&(match l[q.ai]? with|some o=>o.guard.isNone&&o.dst == some q.d&&(match o.op with | .alloc _=>true|_=>false)|none=>false) &&
 (match q.si with|none=>true|some s=>decide (s < n)&&(match l[s]? with|some o=>o.guard.isNone&&o.dst.isNone&&(match o.op with | .store _ (.tmp x) _=>x == q.d|_=>false)|none=>false))
def Df (l:List Oper) (n:Nat) (A:List Slot) : Bool:=A.all (zF l n)&&decide (A.map (·.d)).Nodup
def Dg (P:Program) (l:List Oper) (T:VS) (q:Slot) : Prop:=
 (match l[q.ai]? with|some o=>(match o.op with | .alloc t=>∃ ti,aZ P t=some ti∧ti.zero=q.z|_=>False)|none=>False) ∧
 (match q.si with|none=>True|some s=>(match l[s]? with|some o=>(match o.op with | .store t _ y=>∃ ti,aZ P t=some ti∧ev T y≠.any∧oR (ev T y)=true∧fZ (ev T y)=q.c∧q.c.length=ti.size∧q.z.length=ti.size∧q.c.all (bn T.h.length 5)=true|_=>False)|none=>False))
def w7 (P:Program) (l:List Oper) (T:VS) : List Slot→Prop
 | []=>True
 | q::r=>Dg P l T q∧w7 P l T r
section
variable (P:Program)
def iE (ops:List Oper) (bj:Nat→Bool) : List Oper→Nat→VS→(VS→Prop)→Prop
 | [],_,T,K=>K T
 | o::l,i,T,K=>
  if bj i=true then iE ops bj l (i+1) (T.put o.dst .any) K
  else mM P ops o T fun T'=>(∀ d,o.dst=some d→bn T.h.length 5 (lkp T'.s d)=true)∧iE ops bj l (i+1) T' K
end
section
variable {P:Program} {M0:Nat→Nat→Prop} {w0:Bas} {N:Nm} {p:Pl} {st:VS} {a:Act} {w:World} {Q:Exit→VS→Prop}
theorem rK {ops:List Oper} {bj:Nat→Bool} {K:VS→Prop} : ∀ (l:List Oper) (i0:Nat) (T:VS),iE P ops bj l i0 T K →
  ∃ rs:List AV,rs.length=l.length∧K (aH T l rs) ∧
   (∀ (i:Nat) (o:Oper) (r:AV),bj (i0+i)=false→l[i]? = some o→rs[i]? = some r→jV P ops o (aH T (l.take i) (rs.take i)) r∧∀ d,o.dst=some d→bn T.h.length 5 r=true) ∧
   (∀ (i:Nat) (o:Oper),bj (i0+i)=true→l[i]? = some o→rs[i]? = some .any)
 | [],i0,T,h=>⟨[],rfl,h,by simp,by simp⟩
 | o::l,i0,T,h=>by
  unfold iE at h;by_cases hc:bj i0=true
  ·rw [if_pos hc] at h;obtain ⟨rs,e1,hK,hp,hh⟩:=rK l (i0+1) _ h;refine ⟨.any::rs,by simp [e1],by simpa [aH] using hK,fun i q r hi hq hr=>?_,fun i q hi hq=>?_⟩
   ·cases i with
    | zero=>rw [Nat.add_zero,hc] at hi;cases hi
    | succ i=>
     have:=hp i q r (by rw [←hi];congr 1;omega) (by simpa using hq) (by simpa using hr);rw [rf] at this;simpa [aH] using this
   ·cases i with
    | zero=>rfl
    | succ i=>exact hh i q (by rw [←hi];congr 1;omega) (by simpa using hq)
  ·rw [if_neg hc] at h;obtain ⟨r,h1,h2,h3⟩:=C2 h;obtain ⟨rs,e1,hK,hp,hh⟩:=rK l (i0+1) _ h3;refine ⟨r::rs,by simp [e1],by simpa [aH] using hK,fun i q x hi hq hr=>?_,fun i q hi hq=>?_⟩
   ·cases i with
    | zero=>
     simp at hq hr;subst hq;subst hr;refine ⟨h1,fun d hd=>?_⟩;have:=h2 d hd;rw [hd,Hj] at this;simpa using this
    | succ i=>
     have:=hp i q x (by rw [←hi];congr 1;omega) (by simpa using hq) (by simpa using hr);rw [rf] at this;simpa [aH] using this
   ·cases i with
    | zero=>rw [Nat.add_zero] at hi;exact absurd hi hc
    | succ i=>exact hh i q (by rw [←hi];congr 1;omega) (by simpa using hq)
theorem zG {l:List Oper} {T:VS} : ∀ {A:List Slot},w7 P l T A→∀ {j:Nat} {q:Slot},A[j]? = some q→Dg P l T q
 | [],_,j,q,h=>by simp at h
 | x::A,hk,j,q,h=>by
  cases j with
  | zero=>simp at h;subst h;exact hk.1
  | succ j=>exact zG hk.2 (j:=j) (by simpa using h)
theorem Hu:∀ {A:List Slot} {j:Nat},(ez A)[j]? = (A[j]?).map fun q=>some (.box q.end_)
 | [],j=>by simp [ez]
 | q::A,0=>by simp [ez]
 | q::A,j+1=>by simp [ez,Hu (A:=A) (j:=j)]
theorem PO (A:List Slot) (f:Nat→Bool) (hf:∀ i,isA A i=true→f i=true) : fK A f=ez A:=by
 apply List.ext_getElem?;intro j;rw [Hu];unfold fK;rw [List.getElem?_map];cases hq:A[j]? with
 | none=>rfl
 | some q=>
  have hm:=List.mem_of_getElem? hq;have h1:f q.ai=true:=hf _ (List.any_eq_true.2 ⟨q,hm,by simp⟩);simp only [Option.map_some,Slot.at_,h1,if_true,Slot.end_];cases hs:q.si with
  | none=>rfl
  | some s=>
   have h2:f s=true:=hf _ (List.any_eq_true.2 ⟨q,hm,by simp [hs]⟩);simp [h2]
theorem Hv:∀ {A:List Slot} {k t:Nat},lkp (d_ k A) t≠.any→∃ (j:Nat) (q:Slot),A[j]? = some q∧q.d=t∧lkp (d_ k A) t = .ref (k+j) 0
 | [],k,t,h=>absurd rfl h
 | x::A,k,t,h=>by
  simp only [d_,lkp] at h ⊢;by_cases hd:x.d=t
  ·exact ⟨0,x,rfl,hd,by rw [if_pos hd];rfl⟩
  ·rw [if_neg hd] at h ⊢;obtain ⟨j,q,h1,h2,h3⟩:=Hv (A:=A) (k:=k+1) h;exact ⟨j+1,q,by simpa using h1,h2,by rw [h3];congr 1;omega⟩
theorem PQ {A:List Slot} {f g:Nat→Bool} (h:∀ i,isA A i=true→f i=g i) : fK A f=fK A g:=by
 unfold fK;refine List.map_congr_left fun q hq=>?_;have h1:f q.ai=g q.ai:=h _ (List.any_eq_true.2 ⟨q,hq,by simp⟩);unfold Slot.at_;rw [h1];cases hs:q.si with
 | none=>rfl
 | some s=>simp only [h s (List.any_eq_true.2 ⟨q,hq,by simp [hs]⟩)]
theorem Hw {l:List Oper} {n:Nat} {q:Slot} (h:zF l n q=true) : (q.ai < n∧∃ o t,l[q.ai]? = some o∧o.guard=none∧o.dst=some q.d∧o.op = .alloc t) ∧
  ∀ s,q.si=some s→s < n∧∃ o t y,l[s]? = some o∧o.guard=none∧o.dst=none∧o.op = .store t (.tmp q.d) y:=by
 simp only [zF,Bool.and_eq_true,decide_eq_true_eq] at h;obtain ⟨⟨h1,h2⟩,h3⟩:=h;refine ⟨⟨h1,?_⟩,fun s hs=>?_⟩
 ·split at h2
  ·rename_i o ho;simp only [Bool.and_eq_true,beq_iff_eq,Option.isNone_iff_eq_none] at h2;obtain ⟨⟨a,b⟩,c⟩:=h2;split at c
   ·rename_i t ht;exact ⟨o,t,ho,a,b,ht⟩
   ·cases c
  ·cases h2
 ·rw [hs] at h3;simp only [Bool.and_eq_true,decide_eq_true_eq] at h3;obtain ⟨h4,h5⟩:=h3;refine ⟨h4,?_⟩;split at h5
  ·rename_i o ho;simp only [Bool.and_eq_true,Option.isNone_iff_eq_none] at h5;obtain ⟨⟨a,b⟩,c⟩:=h5;split at c
   ·rename_i t x y hx;simp only [beq_iff_eq] at c;subst c;exact ⟨o,t,y,ho,a,b,hx⟩
   ·cases c
  ·cases h5
theorem PR {A:List Slot} (h:(A.map (·.d)).Nodup) {i j:Nat} {q r:Slot} (hi:A[i]? = some q) (hj:A[j]? = some r) (he:q.d=r.d) : i=j:=by
 have h1:(A.map (·.d))[i]? = some q.d:=by simp [hi]
 have h2:(A.map (·.d))[j]? = some q.d:=by simp [hj,he]
 obtain ⟨a1,b1⟩:=List.getElem?_eq_some_iff.1 h1;obtain ⟨a2,b2⟩:=List.getElem?_eq_some_iff.1 h2;rcases Nat.lt_trichotomy i j with hl|hl|hl
 ·exact absurd (b1.trans b2.symm) (List.pairwise_iff_getElem.1 h i j a1 a2 hl)
 ·exact hl
 ·exact absurd (b2.trans b1.symm) (List.pairwise_iff_getElem.1 h j i a2 a1 hl)
theorem PS {cs vs:List AV} (h:vs.length=cs.length) : l6 cs 0 vs=vs:=by
 unfold l6;rw [List.take_zero,List.nil_append,Nat.zero_add,h,List.drop_length,List.append_nil]
theorem PT {id:Nat} {l:List Oper} (n:Nat) (ow:List Nat) (A:List Slot) (hm:P.follows .mixedOrders=true) (hB:Region.specB l.toArray n=true) (hA:Df l n A=true) (hs:sOK st.h.length st.s) (hh:hOK st.h.length st.h)
  (h:iE P l (isA A) (l.take n) 0 st fun T=>w7 P l T A∧ef P ow l (l.drop n) ⟨d_ st.h.length A++T.s,T.h++ez A⟩ (Q .normal)) : VWp P M0 w0 N (.region id l.toArray true) Q st:=fun iS p0 a0 s8 R0=>by
 have hN:l.all (cX N)=true:=by simpa [fk] using iS
 obtain ⟨rs,dQ,Y,S,lx⟩:=rK _ _ _ h;obtain ⟨ml,hK⟩:=Y;have dm:=hB;simp only [Region.specB,Bool.and_eq_true,decide_eq_true_eq] at dm;obtain ⟨⟨⟨⟨⟨⟨_,aJ⟩,_⟩,_⟩,hd⟩,bh⟩,_⟩:=dm;have eZ:n < l.length:=by simpa using aJ
 have dv:dW (l.take n)=true:=by simpa using hd
 have hlen:(l.take n).length=n:=by simp;omega
 rw [hlen] at dQ;obtain ⟨uS,qj⟩ : A.all (zF l n)=true∧(A.map (·.d)).Nodup:=by simpa [Df] using hA
 have gT:∀ {j:Nat} {q:Slot},A[j]? = some q→_:=fun {j q} hq=>Hw (List.all_eq_true.1 uS q (List.mem_of_getElem? hq));have bb:∀ {i:Nat} {o:Oper},i < n→l[i]? = some o→(l.take n)[i]? = some o:=fun {i o} hi ho=>by rw [List.getElem?_take_of_lt hi];exact ho
 have jA:∀ {i:Nat} {o:Oper},(l.take n)[i]? = some o→i < n∧l[i]? = some o:=fun {i o} ho=>by
  have hi:i < n:=by have:=(List.getElem?_eq_some_iff.1 ho).1;omega
  rw [List.getElem?_take_of_lt hi] at ho;exact ⟨hi,ho⟩
 have dX:∀ {i:Nat},i < n→rs[i]? = some (rs.getD i .any):=fun {i} hi=>by simp [List.getD,show i < rs.length by omega]
 have cn:∀ i,i < n→∀ o,l[i]? = some o→∀ t∈o.looksAt l.toArray,∀ j,j < n→∀ q,l[j]? = some q→q.dst=some t→Region.waitsFor .any l.toArray i j=true∧j < i:=by
  intro i hi o ho;have h:=List.all_eq_true.1 bh i (List.mem_range.2 hi);simp only [List.getElem?_toArray,ho,Bool.and_eq_true] at h;have fm:∀ e∈o.after,Region.binds .any e=true→e.on < i:=fun e he hb=>by
   have h1:=Array.all_eq_true'.1 h.2 e he;simp only [hb,Bool.not_true,Bool.false_or,decide_eq_true_eq] at h1;exact h1
  intro t ht j hj q hq aE;have h1:=List.all_eq_true.1 (List.all_eq_true.1 h.1 t ht) j (List.mem_range.2 hj);simp only [hq,Option.bind_some,aE,bne_self_eq_false,Bool.false_or] at h1;refine ⟨h1,?_⟩;obtain ⟨o',aM,e,he,hb,cA⟩:=Region.waitsFor_spec h1;have:o'=o:=Option.some.inj (aM.symm.trans (by simpa using ho));subst this;rw [←cA];exact fm e he hb
 have aV:∀ {i j:Nat} {q:Oper} {t:Nat},j < i→i≤n→l[j]? = some q→q.dst=some t→lkp (aH st ((l.take n).take i) (rs.take i)).s t=rs.getD j .any:=fun {i j q t} hj hi hq ht=>
  mr ((l.take n).take i) (rs.take i) st t j q (rs.getD j .any) (mq _ _ dv) (by rw [List.getElem?_take_of_lt hj];exact bb (by omega) hq) (by rw [List.getElem?_take_of_lt hj];exact dX (by omega)) ht
 have aO:∀ {i t:Nat},(∀ j q,j < n→l[j]? = some q→q.dst≠some t)→lkp (aH st ((l.take n).take i) (rs.take i)).s t=lkp st.s t:=fun {i t} ho=>
  lR _ _ _ _ fun q hq he=>by
   obtain ⟨j,hj⟩:=List.mem_iff_getElem?.1 (List.mem_of_mem_take hq);obtain ⟨h1,h2⟩:=jA hj;exact ho j q h1 h2 he
 have ba:aH st (l.take n) rs=aH st ((l.take n).take n) (rs.take n):=by
  rw [List.take_of_length_le (l:=l.take n) (by rw [hlen];exact Nat.le_refl _),List.take_of_length_le (l:=rs) (by omega)]
 have dA:∀ {j:Nat} {q:Oper} {d:Nat},j < n→isA A j=false→l[j]? = some q→q.dst=some d→bn st.h.length 5 (rs.getD j .any)=true:=fun {j q d} hj hc hq aE=>
  (S j q _ (by rw [Nat.zero_add];exact hc) (bb hj hq) (dX hj)).2 d aE
 have iF:∀ {j:Nat} {q:Oper},j < n→isA A j=true→l[j]? = some q→rs.getD j .any = .any:=fun {j q} hj hc hq=>by
  have h1:=lx j q (by rw [Nat.zero_add];exact hc) (bb hj hq);rw [dX hj] at h1;exact Option.some.inj h1
 refine wp_region_any hm ?_;refine rC (Inv:=fun listed a w=>HeadInv .any l.toArray n listed∧∃ (p:Pl) (s:List (Nat×AV)),Rel M0 w0 N p ⟨s,st.h++fK A fun i=>listed.getD i false⟩ a w ∧
   (∀ (j:Nat) (q:Oper) (d:Nat),j < n→isA A j=false→listed.getD j false=true→l[j]? = some q→q.dst=some d→lkp s d=rs.getD j .any) ∧
   (∀ t,(∀ j q,j < n→l[j]? = some q→q.dst≠some t)→lkp s t=lkp st.s t)∧(∀ (j:Nat) (q:Slot),A[j]? = some q→listed.getD q.ai false=true→lkp s q.d = .ref (st.h.length+j) 0) ∧
   (∀ t,bn st.h.length 5 (lkp s t)=true∨∃ (j:Nat) (q:Slot),A[j]? = some q∧listed.getD q.ai false=true∧lkp s t = .ref (st.h.length+j) 0)) hB (fun _ _ _ inv=>inv.1) ?_ ?_ _ _ _ _ ?_ (by simp)
 ·rintro listed a w i o ⟨head,p,s,R,S1,S2,S3,S4⟩ hi bc ho e8;have aM:l[i]? = some o:=by simpa using ho
  obtain ⟨_,o2,kL,cW⟩:=mem_ready.1 hi;have:o2=o:=Option.some.inj (kL.symm.trans ho);subst this;have bF:i < listed.size:=by rw [head.size];simpa using (by omega:i < l.length)
  have bW:(listed.setIfInBounds i true).getD i false=true:=by simp [bF]
  have a_:∀ {j:Nat},i≠j→(listed.setIfInBounds i true).getD j false=listed.getD j false:=fun au=>getD_set_ne false au;have bK:∀ j,Region.waitsFor .any l.toArray i j=true→listed.getD j false=true:=by
   intro j hj;obtain ⟨o3,lS,e,he,hb,cA⟩:=Region.waitsFor_spec hj;have:o3=o2:=Option.some.inj (lS.symm.trans ho);subst this;rw [←cA];exact cW e he hb
  have cP:∀ {k:Nat},i≤k→k≤n→∀ t∈o2.looksAt l.toArray,lkp (aH st ((l.take n).take k) (rs.take k)).s t = .any∨(lkp (aH st ((l.take n).take k) (rs.take k)).s t=lkp s t∧bn st.h.length 5 (lkp s t)=true):=fun {k} qk jU t ht=>by
   by_cases hex:∃ (j:Nat) (q:Oper),j < n∧l[j]? = some q∧q.dst=some t
   ·obtain ⟨j,q,hj,hq,aE⟩:=hex;obtain ⟨h1,h2⟩:=cn i bc o2 aM t ht j hj q hq aE;rw [aV (by omega) jU hq aE];cases hc:isA A j
    ·have:=S1 j q t hj hc (bK j h1) hq aE;exact .inr ⟨this.symm,by rw [this];exact dA hj hc hq aE⟩
    ·exact .inl (iF hj hc hq)
   ·have bm:∀ j q,j < n→l[j]? = some q→q.dst≠some t:=fun j q hj hq he=>hex ⟨j,q,hj,hq,he⟩;rw [aO bm,S2 t bm];exact .inr ⟨rfl,pw hs t⟩
  have cg:∀ {j:Nat} {q:Oper} {d d':Nat},j < n→j≠i→l[j]? = some q→q.dst=some d→o2.dst=some d'→d'≠d:=fun {j q d d'} hj cK hq aE dY he=>by
   subst he;exact cK (na dv (bb hj hq) (bb bc aM) aE dY)
  cases ew:isA A i
  ·obtain ⟨aj,nr⟩:=S i o2 (rs.getD i .any) (by rw [Nat.zero_add];exact ew) (bb bc aM) (dX bc);have b_:(fK A fun i=>listed.getD i false)=fK A fun j=>(listed.setIfInBounds i true).getD j false:=PQ fun j hj=>by
    have au:i≠j:=fun e=>by rw [←e,ew] at hj;cases hj
    exact (a_ au).symm
   have qo:∀ {j:Nat} {q:Slot},A[j]? = some q→i≠q.ai:=fun {j q} hq e=>by
    have:isA A i=true:=List.any_eq_true.2 ⟨q,List.mem_of_getElem? hq,by simp [e]⟩;rw [ew] at this;cases this
   have fin:∀ v w',V1 w' (Mof M0 (st.h++fK A fun i=>listed.getD i false) p) st.h p (rs.getD i .any) v→Below w.heap.size w w'→(fun listed a w=>HeadInv .any l.toArray n listed∧∃ (p:Pl) (s:List (Nat×AV)),Rel M0 w0 N p ⟨s,st.h++fK A fun i=>listed.getD i false⟩ a w ∧
     (∀ (j:Nat) (q:Oper) (d:Nat),j < n→isA A j=false→listed.getD j false=true→l[j]? = some q→q.dst=some d→lkp s d=rs.getD j .any) ∧
     (∀ t,(∀ j q,j < n→l[j]? = some q→q.dst≠some t)→lkp s t=lkp st.s t)∧(∀ (j:Nat) (q:Slot),A[j]? = some q→listed.getD q.ai false=true→lkp s q.d = .ref (st.h.length+j) 0) ∧
     (∀ t,bn st.h.length 5 (lkp s t)=true∨∃ (j:Nat) (q:Slot),A[j]? = some q∧listed.getD q.ai false=true∧lkp s t = .ref (st.h.length+j) 0)) (listed.setIfInBounds i true) (a.put o2.dst v) w':=fun v w' hv hb=>by
    have R':=(R.later hb).put (d:=o2.dst) (fw (List.all_eq_true.1 hN o2 (List.mem_of_getElem? aM))) (V1.long hv);have cL:(VS.put ⟨s,st.h++fK A fun i=>listed.getD i false⟩ o2.dst (rs.getD i .any))=⟨(VS.put ⟨s,st.h++fK A fun i=>listed.getD i false⟩ o2.dst (rs.getD i .any)).s,st.h++fK A fun j=>(listed.setIfInBounds i true).getD j false⟩:=by rw [←b_];cases o2.dst<;>rfl
    rw [cL] at R';refine ⟨head.set hi bc,p,_,R',fun j q d hj eV hl hq aE=>?_,fun t ht=>?_,fun j q hq hl=>?_,fun t=>?_⟩
    ·rw [gr];by_cases cK:j=i
     ·subst cK;have:q=o2:=Option.some.inj (hq.symm.trans aM);subst this;rw [if_pos aE]
     ·rw [if_neg fun e=>cg hj cK hq aE e rfl];rw [a_ (Ne.symm cK)] at hl;exact S1 j q d hj eV hl hq aE
    ·rw [gr,if_neg (ht i o2 bc aM)];exact S2 t ht
    ·obtain ⟨⟨h1,o3,t3,h2,_,h3,_⟩,_⟩:=gT hq;rw [gr,if_neg fun e=>cg h1 (Ne.symm (qo hq)) h2 h3 e rfl];rw [a_ (qo hq)] at hl;exact S3 j q hq hl
    ·rw [gr];by_cases gy:o2.dst=some t
     ·rw [if_pos gy];exact .inl (nr t gy)
     ·rw [if_neg gy];rcases S4 t with h1|⟨j,q,h1,h2,h3⟩
      ·exact .inl h1
      ·exact .inr ⟨j,q,h1,by rw [a_ (qo h1)];exact h2,h3⟩
   have bL:dJ P st.h (ev (aH st ((l.take n).take i) (rs.take i))) o2.op (rs.getD i .any)→gives P o2 a w fun v w''=>V1 w'' (Mof M0 (st.h++fK A fun i=>listed.getD i false) p) st.h p (rs.getD i .any) v∧Below w.heap.size w w'':=by
    intro hg;refine oC (R.short_objs hh) R.mok R.h0 R.glob (fun _ _ hb=>.inl hb) (fun x hx=>?_) hg;cases x with
    | tmp t=>
     show V1 _ _ _ _ (lkp (aH st ((l.take n).take i) (rs.take i)).s t) _;rcases cP (Nat.le_refl i) (by omega) t (List.mem_append_left _ (List.mem_filterMap.2 ⟨.tmp t,by simpa using hx,rfl⟩)) with h1|⟨h1,h2⟩
     ·rw [h1];exact .base _ _ (.any _)
     ·rw [h1];exact V1.short (R.slots t) h2
    | const v=>exact .base _ _ (.lit v)
    | global g=>exact .base _ _ (R.evalG g)
    | func f=>exact .base _ _ (.lit _)
   have hy:=fun j=>oA (ops:=l) (j:=j) R hN;have bG:∀ (j:Nat) (want:Bool) (v:Value),o2.guard=some (j,want)→db l (aH st ((l.take n).take i) (rs.take i)) j = .lit v→db l ⟨s,st.h++fK A fun i=>listed.getD i false⟩ j = .lit v:=by
    intro j want v hg hv;unfold db at hv ⊢;cases hj:l[j]? with
    | none=>simpa [hj] using hv
    | some q=>
     cases hq:q.dst with
     | none=>simpa [hj,hq] using hv
     | some d=>
      have c_:d∈o2.looksAt l.toArray:=by
       unfold Oper.looksAt;refine List.mem_append_right _ ?_;simp [hg,hj,hq]
      simp only [hj,hq] at hv ⊢;rcases cP (Nat.le_refl i) (by omega) d c_ with h1|⟨h1,_⟩
      ·rw [h1] at hv;cases hv
      ·rw [←h1];exact hv
   unfold wpOp;simp only [ho];unfold jV at aj;split at aj
   ·rename_i hg;rw [if_pos (by simp [Region.wanted,hg])];rw [eP] at aj;exact Or.inl (jB (bL aj) rfl fun v w' hv=>fin v w' hv.1 hv.2)
   ·rename_i j want hg;split at aj
    ·rename_i b hb;have eQ:=(hy j).1 b (bG j want _ hg hb);split at aj
     ·rename_i hw;subst hw;rw [if_pos (by simp [Region.wanted,hg,eQ])];rw [eP] at aj;exact Or.inl (jB (bL aj) rfl fun v w' hv=>fin v w' hv.1 hv.2)
     ·rename_i hw;rw [if_neg (by simpa [Region.wanted,hg,eQ] using hw)];exact fin undef w (by rw [aj];exact .base _ _ (.lit _)) (Below.refl _ _)
    ·rename_i us hb;have eQ:=(hy j).2 us (bG j want _ hg hb);rw [if_neg (by simp [Region.wanted,hg,eQ])];exact fin undef w (by rw [aj];exact .base _ _ (.lit _)) (Below.refl _ _)
    ·exact aj.elim
  · -- one PU makes or Dh
   have dD:∀ {j j':Nat} {q q':Slot},A[j]? = some q→A[j']? = some q'→q.d=q'.d→j=j':=fun h1 h2 h3=>PR qj h1 h2 h3;have fq:∀ {j:Nat} {x:Option Ob},j < A.length→(∀ k q,A[k]? = some q→k≠j→q.at_ (fun j=>(listed.setIfInBounds i true).getD j false)=q.at_ fun j=>listed.getD j false)→(∀ q,A[j]? = some q→q.at_ (fun j=>(listed.setIfInBounds i true).getD j false)=x) →
     (st.h++fK A fun i=>listed.getD i false).set (st.h.length+j) x=st.h++fK A fun j=>(listed.setIfInBounds i true).getD j false:=by
    intro j x hj h1 h2;rw [List.set_append_right _ _ (by omega),Nat.add_sub_cancel_left];congr 1;apply List.ext_getElem?;intro k;unfold fK;by_cases hk:j=k
    ·subst hk;rw [List.getElem?_set_self (by simpa using hj),List.getElem?_map,List.getElem?_eq_getElem hj];simp only [Option.map_some,Option.some.injEq];exact (h2 _ (List.getElem?_eq_getElem hj)).symm
    ·rw [List.getElem?_set_ne hk,List.getElem?_map,List.getElem?_map];cases hq:A[k]? with
     | none=>rfl
     | some q=>simp only [Option.map_some,Option.some.injEq];exact (h1 k q hq (Ne.symm hk)).symm
   obtain ⟨q,hq,kS⟩:=List.any_eq_true.1 ew;obtain ⟨j,hj⟩:=List.mem_iff_getElem?.1 hq;have bI:=(List.getElem?_eq_some_iff.1 hj).1;obtain ⟨⟨Av,o3,t3,gU,xE,gV,iG⟩,fU⟩:=gT hj;have gz:(st.h++fK A fun i=>listed.getD i false)[st.h.length+j]? = some (q.at_ fun i=>listed.getD i false):=by
    rw [List.getElem?_append_right (by omega),Nat.add_sub_cancel_left];simp [fK,hj]
   have w8:∀ {k:Nat} {r:Slot} {s':Nat},A[k]? = some r→r.si=some s'→Region.waitsFor .any l.toArray s' r.ai=true:=fun {k r s'} hr jQ=>by
    obtain ⟨⟨a1,o4,t4,a2,a3,a4,a5⟩,a6⟩:=gT hr;obtain ⟨b1,o5,t5,y5,b2,b3,b4,b5⟩:=a6 s' jQ;refine (cn s' b1 o5 b2 r.d ?_ r.ai a1 o4 a2 a4).1;unfold Oper.looksAt;exact List.mem_append_left _ (List.mem_filterMap.2 ⟨.tmp r.d,by rw [b5];simp [Op.operands],rfl⟩)
   by_cases xF:q.ai=i
   ·subst xF;have:o3=o2:=Option.some.inj (gU.symm.trans aM);subst this;have fW:=(zG ml hj).1;rw [gU] at fW;simp only [iG] at fW;obtain ⟨ti,aY,hz⟩:=fW;have cY:=getD_both e8;have ns:(q.at_ fun i=>listed.getD i false)=none:=by simp only [Slot.at_,cY,Bool.false_eq_true,if_false]
    rw [ns] at gz;have w9:∀ {k:Nat} {r:Slot} {s':Nat},A[k]? = some r→r.si=some s'→q.ai≠s':=fun {k r s'} hr jQ e=>by
     obtain ⟨_,a6⟩:=gT hr;obtain ⟨b1,o5,t5,y5,b2,b3,b4,b5⟩:=a6 s' jQ;rw [←e,gU] at b2;obtain rfl:=Option.some.inj b2;rw [gV] at b4;cases b4
    have px:∀ t,cH (st.h.length+j) 5 (lkp s t)=true:=fun t=>by
     rcases S4 t with h1|⟨k,r,h1,h2,h3⟩
     ·exact rL (by omega) 5 _ h1
     ·rw [h3];have kT:k≠j:=fun e=>by
       subst e;rw [hj] at h1;obtain rfl:=Option.some.inj h1;rw [cY] at h2;cases h2
      simp only [cH,bne_iff_ne,ne_eq];omega
    have lO:∀ (k:Nat) (cs:List AV),(st.h++fK A fun i=>listed.getD i false)[k]? = some (some (Ob.box cs))→∀ c∈cs,cH (st.h.length+j) 5 c=true:=fun k cs hk c hc=>by
     rcases Nat.lt_or_ge k st.h.length with aq|du
     ·rw [List.getElem?_append_left aq] at hk;exact rL (by omega) 5 _ (List.all_eq_true.1 (uT hh k _ hk) c hc)
     ·rw [List.getElem?_append_right du] at hk;unfold fK at hk;rw [List.getElem?_map,Option.map_eq_some_iff] at hk;obtain ⟨r,hr,he⟩:=hk;have w_:∀ c∈r.z.map AV.lit,cH (st.h.length+j) 5 c=true:=fun c hc=>by
       obtain ⟨z,_,rfl⟩:=List.mem_map.1 hc;rfl
      unfold Slot.at_ at he;split at he
      ·simp only [Option.some.injEq,Ob.box.injEq] at he;subst he;split at hc
       ·rename_i s' jQ;split at hc
        ·have cN:=(zG ml hr).2;rw [jQ] at cN;obtain ⟨b1,o5,t5,y5,b2,b3,b4,b5⟩:=(gT hr).2 s' jQ;simp only [b2,b5] at cN;obtain ⟨_,_,_,_,_,_,_,aG⟩:=cN;have:=List.all_eq_true.1 aG c hc;rw [eP] at this;exact rL (by omega) 5 _ this
        ·exact w_ c hc
       ·exact w_ c hc
      ·cases he
    obtain ⟨z,xH,gM,jF⟩:=oI aY;have hc:Cells w (Mof M0 (st.h++fK A fun i=>listed.getD i false) p) (st.h++fK A fun i=>listed.getD i false) p (q.z.map .lit) z.cells.toList:=by rw [xH,←hz];exact Cells.of_lits _ gM
    have R':=R.fill (d:=q.d) (fw (List.all_eq_true.1 hN o3 (List.mem_of_getElem? gU)) q.d gV) gz px lO hc t3;simp only at R';rw [fq bI (fun k r hr kT=>?_) (fun r hr=>?_)] at R'
    ·unfold wpOp;simp only [ho];rw [if_pos (by simp [Region.wanted,xE])];refine Or.inl ?_;unfold Oper.wp;have aC:(execOp a.eval o3).run P w = .ok (.value (.pointer (some ⟨w.heap.size,0,none⟩))) { w with heap:=w.heap.push (.cells z.cells.toList.toArray t3) }:=by
      simp [execOp,iG,Instr.alloc,jF,newVar,newRow]
     rw [aC];simp only [Oper.upon];rw [gV];refine ⟨head.set hi bc,_,_,R',fun k r d hk fa hl hr oJ=>?_,fun t ht=>?_,fun k r hr hl=>?_,fun t=>?_⟩
     ·have jZ:k≠q.ai:=fun e=>by rw [e,ew] at fa;cases fa
      simp only [lkp];rw [if_neg (cg hk jZ hr oJ gV)];rw [a_ (Ne.symm jZ)] at hl;exact S1 k r d hk fa hl hr oJ
     ·simp only [lkp];rw [if_neg fun e=>ht q.ai o3 bc gU (by rw [gV,e])];exact S2 t ht
     ·simp only [lkp];by_cases he:q.d=r.d
      ·rw [if_pos he,dD hj hr he]
      ·rw [if_neg he];refine S3 k r hr ?_;rw [a_ fun e=>he ?_] at hl
       ·exact hl
       ·obtain ⟨⟨_,o4,_,a2,_,a4,_⟩,_⟩:=gT hr;rw [←e,gU] at a2;obtain rfl:=Option.some.inj a2;rw [gV] at a4;exact Option.some.inj a4
     ·simp only [lkp];by_cases he:q.d=t
      ·rw [if_pos he];exact .inr ⟨j,q,hj,bW,rfl⟩
      ·rw [if_neg he];rcases S4 t with h1|⟨k,r,h1,h2,h3⟩
       ·exact .inl h1
       ·refine .inr ⟨k,r,h1,?_,h3⟩;by_cases e:q.ai=r.ai
        ·rw [←e];exact bW
        ·rw [a_ e];exact h2
    ·have au:q.ai≠r.ai:=fun e=>by
      obtain ⟨⟨_,o4,_,a2,_,a4,_⟩,_⟩:=gT hr;rw [←e,gU] at a2;obtain rfl:=Option.some.inj a2;rw [gV] at a4;exact kT (dD hr hj (Option.some.inj a4).symm)
     simp only [Slot.at_,a_ au];cases jQ:r.si with
     | none=>rfl
     | some s'=>simp only [a_ (w9 hr jQ)]
    ·rw [hj] at hr;obtain rfl:=Option.some.inj hr;simp only [Slot.at_,bW,if_true];cases jQ:q.si with
     | none=>rfl
     | some s'=>
      simp only [a_ (w9 hj jQ)];rw [if_neg fun hl=>?_];obtain ⟨o6,kM,e,he,hb,cA⟩:=Region.waitsFor_spec (w8 hj jQ);have:=head.closed s' o6 kM hl e he hb;rw [cA,cY] at this;cases this
   ·have qR:q.si=some i:=by simpa [xF] using kS
    obtain ⟨b1,o5,t5,y5,b2,b3,b4,b5⟩:=fU i qR;have:o5=o2:=Option.some.inj (b2.symm.trans aM);subst this;have cN:=(zG ml hj).2;rw [qR] at cN;simp only [b2,b5] at cN;obtain ⟨ti,aY,au,Hy,lK,jE,vi,Hz⟩:=cN;have nu:listed.getD q.ai false=true:=bK _ (w8 hj qR);have PV:ev (aH st (l.take n) rs) y5=ev ⟨s,st.h++fK A fun i=>listed.getD i false⟩ y5:=by
     cases y5 with
     | tmp t=>
      have ht:t∈o5.looksAt l.toArray:=by
       unfold Oper.looksAt;exact List.mem_append_left _ (List.mem_filterMap.2 ⟨.tmp t,by rw [b5];simp [Op.operands],rfl⟩)
      show lkp _ t=lkp _ t;rcases cP (k:=n) (by omega) (Nat.le_refl _) t ht with h1|⟨h1,_⟩
      ·rw [←ba] at h1;exact absurd h1 au
      ·rw [←ba] at h1;exact h1
     | const v=>rfl
     | global g=>rfl
     | func f=>rfl
    rw [PV] at Hy lK;have xa:(q.at_ fun i=>listed.getD i false)=some (.box (q.z.map .lit)):=by
     have cY:=getD_both e8;simp only [Slot.at_,nu,qR,cY,if_true,Bool.false_eq_true,if_false]
    rw [xa] at gz;have hx:ev ⟨s,st.h++fK A fun i=>listed.getD i false⟩ (.tmp q.d) = .ref (st.h.length+j) 0:=S3 j q hj nu;obtain ⟨w',aC,R'⟩:=GN (y:=y5) R aY hx gz Hy (by rw [lK];exact jE) (by rw [List.length_map];omega);rw [lK,PS (by rw [List.length_map];omega)] at R';have p8:∀ {k:Nat} {r:Slot},A[k]? = some r→i≠r.ai:=fun {k r} hr e=>by
     obtain ⟨⟨_,o4,_,a2,_,a4,_⟩,_⟩:=gT hr;rw [←e,b2] at a2;obtain rfl:=Option.some.inj a2;rw [b4] at a4;cases a4
    simp only at R';rw [fq bI (fun k r hr kT=>?_) (fun r hr=>?_)] at R'
    ·unfold wpOp;simp only [ho];rw [if_pos (by simp [Region.wanted,b3])];refine Or.inl ?_;have sh:∀ v,a.put o5.dst v=a:=fun v=>by rw [b4];rfl
     have fin:∀ v,(fun a w=>HeadInv .any l.toArray n (listed.setIfInBounds i true)∧∃ (p:Pl) (s:List (Nat×AV)),Rel M0 w0 N p ⟨s,st.h++fK A fun j=>(listed.setIfInBounds i true).getD j false⟩ a w ∧
       (∀ (j:Nat) (q:Oper) (d:Nat),j < n→isA A j=false→(listed.setIfInBounds i true).getD j false=true→l[j]? = some q→q.dst=some d→lkp s d=rs.getD j .any) ∧
       (∀ t,(∀ j q,j < n→l[j]? = some q→q.dst≠some t)→lkp s t=lkp st.s t)∧(∀ (j:Nat) (q:Slot),A[j]? = some q→(listed.setIfInBounds i true).getD q.ai false=true→lkp s q.d = .ref (st.h.length+j) 0) ∧
       (∀ t,bn st.h.length 5 (lkp s t)=true∨∃ (j:Nat) (q:Slot),A[j]? = some q∧(listed.setIfInBounds i true).getD q.ai false=true∧lkp s t = .ref (st.h.length+j) 0)) (a.put o5.dst v) w':=fun v=>by
      rw [sh];refine ⟨head.set hi bc,p,s,R',fun k r d hk fa hl hr oJ=>?_,S2,fun k r hr hl=>?_,fun t=>?_⟩
      ·have jZ:k≠i:=fun e=>by rw [e,ew] at fa;cases fa
       rw [a_ (Ne.symm jZ)] at hl;exact S1 k r d hk fa hl hr oJ
      ·rw [a_ (p8 hr)] at hl;exact S3 k r hr hl
      ·rcases S4 t with h1|⟨k,r,h1,h2,h3⟩
       ·exact .inl h1
       ·exact .inr ⟨k,r,h1,by rw [a_ (p8 h1)];exact h2,h3⟩
     unfold Oper.wp;have gq:(execOp a.eval o5).run P w = .ok .skip w'∨∃ v,(execOp a.eval o5).run P w = .ok (.value v) w':=by
      obtain ⟨dst,op,ty,pos,after,guard⟩:=o5;simp only at b5;subst b5;simp [execOp,aC]
     rcases gq with h1|⟨v,h1⟩
     ·rw [h1];exact fin _
     ·rw [h1];exact fin _
    ·simp only [Slot.at_,a_ (p8 hr)];cases jQ:r.si with
     | none=>rfl
     | some s'=>
      have au:i≠s':=fun e=>by
       obtain ⟨_,o6,t6,y6,c2,_,_,c5⟩:=(gT hr).2 s' jQ;rw [←e,b2] at c2;obtain rfl:=Option.some.inj c2;rw [b5] at c5;injection c5 with _ c6 _
       injection c6 with c6
       exact kT (dD hr hj c6.symm)
      simp only [a_ au]
    ·rw [hj] at hr;obtain rfl:=Option.some.inj hr;simp only [Slot.at_,a_ (p8 hj),nu,qR,bW,if_true]
 ·rintro listed a w ⟨head,p,s,R,S1,S2,S3,S4⟩ aG;have bc:∀ i,isA A i=true→i < n:=fun i hi=>by
   obtain ⟨q,hq,kS⟩:=List.any_eq_true.1 hi;obtain ⟨⟨h1,_⟩,h2⟩:=Hw (List.all_eq_true.1 uS q hq);simp only [Bool.or_eq_true,beq_iff_eq] at kS;rcases kS with kS|kS
   ·omega
   ·exact (h2 i kS).1
  rw [PO A _ fun i hi=>aG i (bc i hi)] at R;rw [eP] at hK;have R':=R.weak (s':=d_ st.h.length A++(aH st (l.take n) rs).s) fun t=>by
   show lkp (d_ st.h.length A++(aH st (l.take n) rs).s) t=lkp s t∨_;rcases qq (d_ st.h.length A) (aH st (l.take n) rs).s t with h1|h1
   ·rw [h1];by_cases au:lkp (d_ st.h.length A) t = .any
    ·exact .inr au
    ·obtain ⟨j,q,g1,g2,g3⟩:=Hv au;rw [g3,←g2];exact .inl (S3 j q g1 (aG _ (gT g1).1.1)).symm
   ·rw [h1,ba];by_cases hex:∃ (j:Nat) (q:Oper),j < n∧l[j]? = some q∧q.dst=some t
    ·obtain ⟨j,q,hj,hq,aE⟩:=hex;rw [aV hj (Nat.le_refl _) hq aE];cases hc:isA A j
     ·exact .inl (S1 j q t hj hc (aG j hj) hq aE).symm
     ·exact .inr (iF hj hc hq)
    ·have bm:∀ j q,j < n→l[j]? = some q→q.dst≠some t:=fun j q hj hq he=>hex ⟨j,q,hj,hq,he⟩;rw [aO bm,S2 t bm];exact .inl rfl
  have iC:(l.drop n).all (cX N)=true:=List.all_eq_true.2 fun q hq=>List.all_eq_true.1 hN q (List.mem_of_mem_drop hq);exact mn (ow:=ow) hN (fun p st a w R h=>⟨st,p,R,h⟩) (l.drop n) p _ _ w iC R' hK
 ·have rN:(fK A fun i=>(Array.replicate l.toArray.size false).getD i false)=List.replicate A.length none:=by
   apply List.ext_getElem?;intro k;unfold fK;rw [List.getElem?_map,List.getElem?_replicate];cases hq:A[k]? with
   | none=>
    have:=List.getElem?_eq_none_iff.1 hq;rw [if_neg (by omega)];rfl
   | some q=>
    have:=(List.getElem?_eq_some_iff.1 hq).1;rw [if_pos this];simp only [Option.map_some,Slot.at_,getD_replicate_false];rfl
  refine ⟨⟨by simp,fun j oj _ hl=>(by rw [getD_replicate_false] at hl;cases hl),fun t _ ht=>getD_in (by simpa using ht) (getD_replicate_false _ _)⟩,p0,st.s,?_,fun j q d _ _ hl=>(by rw [getD_replicate_false] at hl;cases hl),fun _ _=>rfl,fun j q _ hl=>(by rw [getD_replicate_false] at hl;cases hl),fun t=>.inl (pw hs t)⟩;rw [rN];exact (R0.later (Below.refl _ _).drew).pad A.length
end
section
variable {P:Program} {ow:List Nat} {ops l:List Oper} {o:Oper} {T:VS} {K:VS→Prop} {bj:Nat→Bool} {i:Nat}
theorem fe (h:K T) : iE P ops bj [] i T K:=h
theorem fb (hc:bj i=true) (h:iE P ops bj l (i+1) (T.put o.dst .any) K) : iE P ops bj (o::l) i T K:=by
 unfold iE;rw [if_pos hc];exact h
theorem fc (hc:bj i=false) (h:∀ X:VS→Prop,(∀ T',wV T.h.length o.dst T'.s=true→iE P ops bj l (i+1) T' K→X T')→mM P ops o T X) : iE P ops bj (o::l) i T K:=by
 unfold iE;rw [if_neg (by rw [hc];decide)];refine h _ fun T' hid hT=>⟨fun d hd=>?_,hT⟩
 simpa [wV,hd] using hid
end
attribute [go_sem] d_ ez Slot.end_ w7 Dg
def uj (o:Oper) : Bool:=o.guard.isNone&&(match o.op with | .move _=>true | .assign _=>true | .nilCheck _=>true | .fieldAddr .. => true|_=>false)
section
variable {P:Program} {M0:Nat→Nat→Prop} {w0:Bas} {N:Nm} {p:Pl} {st:VS} {a:Act} {w:World} {Q:Exit→VS→Prop}
theorem CU {h h':Hp} {E:Operand→AV} {o:Oper} {r:AV} (hl:uj o=true) (hg:dJ P h E o.op r) : dJ P h' E o.op r:=by
 unfold uj at hl;simp only [Bool.and_eq_true] at hl;have hl:=hl.2;obtain ⟨dst,op,ty,pos,after,guard⟩:=o;simp only at hl hg ⊢;cases op with
 | move x=>exact hg
 | assign x=>exact hg
 | nilCheck x=>exact hg
 | fieldAddr t x f=>exact hg
 | _=>cases hl
theorem OG {ow:List Nat} {o:Oper} {t:TypeId} {x y:Operand} {T:VS} {s:List (Nat×AV)} {h1:Hp} (cP:o.op = .store t x y) (hx:ev ⟨s,T.h⟩ x=ev T x) (hy:ev ⟨s,T.h⟩ y=ev T y) (ht:j9 P ow T o=some ⟨T.s,h1⟩) : j9 P ow ⟨s,T.h⟩ o=some ⟨s,h1⟩:=by
 obtain ⟨dst,op,ty,pos,after,guard⟩:=o;simp only at cP;subst cP;unfold j9 at ht ⊢;simp only [hx,hy] at ht ⊢;split at ht
 ·split at ht
  ·split at ht
   ·rename_i hc;rw [if_pos hc];simp only [Option.some.injEq,VS.mk.injEq,true_and] at ht;rw [ht]
   ·cases ht
  ·cases ht
 ·split at ht
  ·split at ht
   ·rename_i hc;rw [if_pos hc];simp only [Option.some.injEq,VS.mk.injEq,true_and] at ht;rw [ht]
   ·cases ht
  ·cases ht
 ·cases ht
end
def fM (l:List Oper) : Nat→Nat→Nat→Bool
 | 0,_,_=>false
 | f+1,n,i=>Region.waitsFor .any l.toArray n i || (List.range n).any fun j=>Region.waitsFor .any l.toArray n j&&fM l f j i
def PW (l:List Oper) (n:Nat) : Bool:=(List.range n).all fun i=>fM l n n i || (match l[i]? with|some o=>uj o|none=>false)
def xq (l:List Oper) (n:Nat) : List Nat:=(List.range n).flatMap fun i=>if fM l n n i then [] else match l[i]? with|some o=>o.looksAt l.toArray++o.dst.toList|none=>[]
theorem nf {l:List Oper} {m:Nat} {listed:Array Bool} (head:HeadInv .any l.toArray m listed) : ∀ (f n i:Nat),(∀ j,Region.waitsFor .any l.toArray n j=true→listed.getD j false=true)→fM l f n i=true→listed.getD i false=true
 | 0,_,_,_,h=>by cases h
 | f+1,n,i,hn,h=>by
  rw [fM,Bool.or_eq_true] at h;rcases h with h|h
  ·exact hn i h
  ·obtain ⟨j,_,hj⟩:=List.any_eq_true.1 h;rw [Bool.and_eq_true] at hj;have bI:=hn j hj.1;refine nf head f j i (fun k hk=>?_) hj.2;obtain ⟨oj,PX,e,he,hb,cA⟩:=Region.waitsFor_spec hk;have:=head.closed j oj PX bI e he hb;rwa [cA] at this
theorem Di {id:Nat} {v:AV} (h:cH id 5 v=true) : purge id v=v:=if_pos h
def pgB (g:Nat) (b:Bool) (v:AV) : AV:=if b then purge g v else v
section
variable {P:Program} {M0:Nat→Nat→Prop} {w0:Bas} {N:Nm} {p:Pl} {st:VS} {a:Act} {w:World} {Q:Exit→VS→Prop}
theorem PY {ow:List Nat} {o:Oper} {t t':TypeId} {x y:Operand} {T:VS} {s:List (Nat×AV)} {h1:Hp} {d g:Nat} (cP:o.op = .call ⟨.builtin .append,#[x,y],#[t,t']⟩) (hd:o.dst=some d) (hx:ev ⟨s,T.h⟩ x=ev T x) (hy:ev ⟨s,T.h⟩ y=ev T y) (hg:ev T x = .osl g)
  (ht:j9 P ow T o=some ⟨(d,.osl g)::T.s.map (fun q=>(q.1,purge g q.2)),h1⟩) : j9 P ow ⟨s,T.h⟩ o=some ⟨(d,.osl g)::s.map (fun q=>(q.1,purge g q.2)),h1⟩:=by
 obtain ⟨dst,op,ty,pos,after,guard⟩:=o;simp only at cP hd;subst cP hd;unfold j9 at ht ⊢;simp only [hx,hy,hg] at ht ⊢;cases lD:aZ P t with
 | none=>simp [lD] at ht
 | some ti=>
  cases h2:ev T y with
  | sl sz es=>
   simp only [lD,h2] at ht ⊢;cases h3:T.h[g]? with
   | none=>simp [h3] at ht
   | some PZ=>
    cases PZ with
    | none=>simp [h3] at ht
    | some ob=>
     cases ob with
     | arr e bD nl b9=>
      simp only [h3] at ht ⊢;cases h4:aZ P ti.elem with
      | none=>simp [h4] at ht
      | some te=>
       simp only [h4] at ht ⊢;split at ht
       ·rename_i hc;rw [if_pos hc];simp only [Option.some.injEq,VS.mk.injEq,true_and] at ht ⊢;exact ht
       ·cases ht
     | _=>simp [h3] at ht
  | _=>simp [lD,h2] at ht
theorem qv {id:Nat} {l:List Oper} (n:Nat) (ow:List Nat) (g:Nat) (ls:List Nat) (hm:P.follows .mixedOrders=true) (hB:Region.specB l.toArray (n+1)=true) (hL:PW l n=true) (Ah:xq l n=ls) {so:Oper} {d:Nat} {ty P0:TypeId} {x y:Operand} (h_:l[n]? = some so) (mo:so.guard=none∧so.dst=some d) (lj:so.op = .call ⟨.builtin .append,#[x,y],#[ty,P0]⟩)
  (h:mX P l (l.take n) st fun T=>∃ h1,ev T x = .osl g∧j9 P ow T so=some ⟨(d,.osl g)::T.s.map (fun q=>(q.1,purge g q.2)),h1⟩∧(∀ t∈ls,cH g 5 (lkp T.s t)=true)∧ef P ow l (l.drop (n+1)) ⟨(d,.osl g)::T.s.map (fun q=>(q.1,purge g q.2)),h1⟩ (Q .normal)) : VWp P M0 w0 N (.region id l.toArray true) Q st:=fun iS p0 a0 s8 R0=>by
 have hN:l.all (cX N)=true:=by simpa [fk] using iS
 obtain ⟨rs,dQ,⟨h1,Dj,fD,gp,hK⟩,S⟩:=s7 _ _ h;have dm:=hB;simp only [Region.specB,Bool.and_eq_true,decide_eq_true_eq] at dm;obtain ⟨⟨⟨⟨⟨⟨_,aJ⟩,_⟩,_⟩,hd⟩,bh⟩,_⟩:=dm;have eZ:n+1 < l.length:=by simpa using aJ
 have dv:dW (l.take (n+1))=true:=by simpa using hd
 have qi:dW (l.take n)=true:=by
  have:=mq (l.take (n+1)) n dv;rwa [List.take_take,Nat.min_eq_left (Nat.le_succ n)] at this
 have hlen:(l.take n).length=n:=by simp;omega
 rw [hlen] at dQ;have bb:∀ {i:Nat} {o:Oper},i < n→l[i]? = some o→(l.take n)[i]? = some o:=fun {i o} hi ho=>by rw [List.getElem?_take_of_lt hi];exact ho
 have gK:∀ {i:Nat} {o:Oper},i < n+1→l[i]? = some o→(l.take (n+1))[i]? = some o:=fun {i o} hi ho=>by rw [List.getElem?_take_of_lt hi];exact ho
 have jA:∀ {i:Nat} {o:Oper},(l.take n)[i]? = some o→i < n∧l[i]? = some o:=fun {i o} ho=>by
  have hi:i < n:=by have:=(List.getElem?_eq_some_iff.1 ho).1;omega
  rw [List.getElem?_take_of_lt hi] at ho;exact ⟨hi,ho⟩
 have dX:∀ {i:Nat},i < n→rs[i]? = some (rs.getD i .any):=fun {i} hi=>by simp [List.getD,show i < rs.length by omega]
 have cn:∀ i,i < n+1→∀ o,l[i]? = some o→∀ t∈o.looksAt l.toArray,∀ j,j < n+1→∀ q,l[j]? = some q→q.dst=some t→Region.waitsFor .any l.toArray i j=true∧j < i:=by
  intro i hi o ho;have h:=List.all_eq_true.1 bh i (List.mem_range.2 hi);simp only [List.getElem?_toArray,ho,Bool.and_eq_true] at h;have fm:∀ e∈o.after,Region.binds .any e=true→e.on < i:=fun e he hb=>by
   have h1:=Array.all_eq_true'.1 h.2 e he;simp only [hb,Bool.not_true,Bool.false_or,decide_eq_true_eq] at h1;exact h1
  intro t ht j hj q hq aE;have h1:=List.all_eq_true.1 (List.all_eq_true.1 h.1 t ht) j (List.mem_range.2 hj);simp only [hq,Option.bind_some,aE,bne_self_eq_false,Bool.false_or] at h1;refine ⟨h1,?_⟩;obtain ⟨o',aM,e,he,hb,cA⟩:=Region.waitsFor_spec h1;have:o'=o:=Option.some.inj (aM.symm.trans (by simpa using ho));subst this;rw [←cA];exact fm e he hb
 have aV:∀ {i j:Nat} {q:Oper} {t:Nat},j < i→i≤n→l[j]? = some q→q.dst=some t→lkp (aH st ((l.take n).take i) (rs.take i)).s t=rs.getD j .any:=fun {i j q t} hj hi hq ht=>
  mr ((l.take n).take i) (rs.take i) st t j q (rs.getD j .any) (mq _ _ qi) (by rw [List.getElem?_take_of_lt hj];exact bb (by omega) hq) (by rw [List.getElem?_take_of_lt hj];exact dX (by omega)) ht
 have aO:∀ {i t:Nat},(∀ j q,j < n→l[j]? = some q→q.dst≠some t)→lkp (aH st ((l.take n).take i) (rs.take i)).s t=lkp st.s t:=fun {i t} ho=>
  lR _ _ _ _ fun q hq he=>by
   obtain ⟨j,hj⟩:=List.mem_iff_getElem?.1 (List.mem_of_mem_take hq);obtain ⟨h1,h2⟩:=jA hj;exact ho j q h1 h2 he
 have ba:aH st (l.take n) rs=aH st ((l.take n).take n) (rs.take n):=by
  rw [List.take_of_length_le (l:=l.take n) (by rw [hlen];exact Nat.le_refl _),List.take_of_length_le (l:=rs) (by omega)]
 refine wp_region_any hm ?_;have m_:∀ {j:Nat} {q:Oper} {d':Nat},j < n→l[j]? = some q→q.dst=some d'→d'≠d:=fun {j q d'} hj hq aE he=>by
  subst he;have:j=n:=na dv (gK (by omega) hq) (gK (Nat.lt_succ_self n) h_) aE mo.2;omega
 have rA:∀ t,lkp (aH st (l.take n) rs).s t=lkp (aH st ((l.take n).take n) (rs.take n)).s t:=fun t=>by rw [←ba]
 have fB:∀ {i:Nat} {o:Oper} {t:Nat},i < n→l[i]? = some o→fM l n n i=false→t∈o.looksAt l.toArray++o.dst.toList→cH g 5 (lkp (aH st ((l.take n).take n) (rs.take n)).s t)=true:=fun {i o t} hi ho fL ht=>by
  rw [←ba];refine gp t ?_;rw [←Ah];unfold xq;refine List.mem_flatMap.2 ⟨i,List.mem_range.2 hi,?_⟩;rw [fL,ho];simpa using ht
 refine rC (Inv:=fun listed a w=>HeadInv .any l.toArray (n+1) listed∧∃ (p:Pl) (s:List (Nat×AV)),Rel M0 w0 N p ⟨s,if listed.getD n false=true then h1 else st.h⟩ a w ∧
   (∀ (j:Nat) (q:Oper) (d:Nat),j < n→listed.getD j false=true→l[j]? = some q→q.dst=some d→lkp s d=pgB g (listed.getD n false) (rs.getD j .any)) ∧
   (∀ t,t≠d→(∀ j q,j < n→l[j]? = some q→q.dst≠some t)→lkp s t=pgB g (listed.getD n false) (lkp st.s t))∧(listed.getD n false=true→lkp s d = .osl g)) hB (fun _ _ _ inv=>inv.1) ?_ ?_ _ _ _ _ ?_ (by simp)
 ·rintro listed a w i o ⟨head,p,s,R,S1,S2,S3⟩ hi bc ho e8;have aM:l[i]? = some o:=by simpa using ho
  obtain ⟨_,o2,kL,cW⟩:=mem_ready.1 hi;have:o2=o:=Option.some.inj (kL.symm.trans ho);subst this;have bF:i < listed.size:=by rw [head.size];simpa using (by omega:i < l.length)
  have bW:(listed.setIfInBounds i true).getD i false=true:=by simp [bF]
  have a_:∀ {j:Nat},i≠j→(listed.setIfInBounds i true).getD j false=listed.getD j false:=fun au=>getD_set_ne false au;have bK:∀ j,Region.waitsFor .any l.toArray i j=true→listed.getD j false=true:=by
   intro j hj;obtain ⟨o3,lS,e,he,hb,cA⟩:=Region.waitsFor_spec hj;have:o3=o2:=Option.some.inj (lS.symm.trans ho);subst this;rw [←cA];exact cW e he hb
  have qj:∀ t∈o2.looksAt l.toArray,t≠d:=fun t ht he=>by
   subst he;have:=(cn i bc o2 aM t ht n (Nat.lt_succ_self n) so h_ mo.2).2;omega
  have cP:∀ {k:Nat},i≤k→k≤n→∀ t∈o2.looksAt l.toArray,lkp s t=pgB g (listed.getD n false) (lkp (aH st ((l.take n).take k) (rs.take k)).s t):=fun {k} qk jU t ht=>by
   by_cases hex:∃ (j:Nat) (q:Oper),j < n∧l[j]? = some q∧q.dst=some t
   ·obtain ⟨j,q,hj,hq,aE⟩:=hex;obtain ⟨h1,h2⟩:=cn i bc o2 aM t ht j (by omega) q hq aE;rw [aV (by omega) jU hq aE];exact S1 j q t hj (bK j h1) hq aE
   ·have bm:∀ j q,j < n→l[j]? = some q→q.dst≠some t:=fun j q hj hq he=>hex ⟨j,q,hj,hq,he⟩;rw [aO bm,S2 t (qj t ht) bm]
  have cg:∀ {j:Nat} {q:Oper} {d d':Nat},j < n→j≠i→l[j]? = some q→q.dst=some d→o2.dst=some d'→d'≠d:=fun {j q d d'} hj cK hq aE dY he=>by
   subst he;exact cK (na dv (gK (by omega) hq) (gK bc aM) aE dY)
  by_cases pr:i=n
  ·subst pr;have:o2=so:=Option.some.inj (aM.symm.trans h_);subst this;have cY:=getD_both e8;rw [cY] at R;simp only [Bool.false_eq_true,if_false] at R;have oB:∀ z:Operand,z∈o2.op.operands→ev ⟨s,(aH st (l.take i) rs).h⟩ z=ev (aH st (l.take i) rs) z:=fun z hz=>by
    cases z with
    | tmp t=>
     show lkp s t=lkp _ t;rw [ba];have:=cP (Nat.le_refl _) (Nat.le_refl _) t (List.mem_append_left _ (List.mem_filterMap.2 ⟨.tmp t,by simpa using hz,rfl⟩));rw [cY] at this;exact this
    | const v=>rfl
    | global g=>rfl
    | func f=>rfl
   have fV:=PY (s:=s) lj mo.2 (oB x (by rw [lj];simp [Op.operands,Call.operands])) (oB y (by rw [lj];simp [Op.operands,Call.operands])) Dj fD;rw [eP] at fV;obtain ⟨v,w',p',hh⟩:=Cq (P:=P) R (List.all_eq_true.1 hN o2 (List.mem_of_getElem? aM)) fV;have fin:∀ v p',Rel M0 w0 N p' ⟨(d,.osl g)::s.map (fun q=>(q.1,purge g q.2)),h1⟩ (a.put o2.dst v) w'→(fun a w=>HeadInv .any l.toArray (i+1) (listed.setIfInBounds i true)∧∃ (p:Pl) (s:List (Nat×AV)),Rel M0 w0 N p ⟨s,if (listed.setIfInBounds i true).getD i false=true then h1 else st.h⟩ a w ∧
     (∀ (j:Nat) (q:Oper) (d:Nat),j < i→(listed.setIfInBounds i true).getD j false=true→l[j]? = some q→q.dst=some d→lkp s d=pgB g ((listed.setIfInBounds i true).getD i false) (rs.getD j .any)) ∧
     (∀ t,t≠d→(∀ j q,j < i→l[j]? = some q→q.dst≠some t)→lkp s t=pgB g ((listed.setIfInBounds i true).getD i false) (lkp st.s t))∧((listed.setIfInBounds i true).getD i false=true→lkp s d = .osl g)) (a.put o2.dst v) w':=fun v p' R'=>by
    refine ⟨head.set hi bc,p',_,by rw [bW];exact R',fun j q d' hj hl hq aE=>?_,fun t fN ht=>?_,fun _=>by simp [lkp]⟩
    ·rw [bW,lkp,if_neg (fun e=>m_ hj hq aE e.symm),wU];rw [a_ (by omega)] at hl;have:=S1 j q d' hj hl hq aE;rw [cY] at this;rw [this];rfl
    ·rw [bW,lkp,if_neg (fun e=>fN e.symm),wU];have:=S2 t fN ht;rw [cY] at this;rw [this];rfl
   unfold wpOp;simp only [ho];rw [if_pos (by simp [Region.wanted,mo.1])];refine Or.inl ?_;unfold Oper.wp;rcases hh with ⟨h2,h3⟩|⟨h2,_,h3⟩
   ·rw [h2];exact fin _ _ h3
   ·rw [h2];exact fin _ _ h3
  ·have cZ:i < n:=by omega
   have aj:=S i o2 (rs.getD i .any) (bb cZ aM) (dX cZ);have eH:((listed.setIfInBounds i true).getD n false)=listed.getD n false:=a_ pr;have rD:∀ t,o2.dst=some t→pgB g (listed.getD n false) (rs.getD i .any)=rs.getD i .any:=fun t ht=>by
    cases hb:listed.getD n false
    ·rfl
    ·have fL:fM l n n i=false:=by
      cases hc:fM l n n i
      ·rfl
      ·have:=nf head n n i (fun j hj=>by
        obtain ⟨o6,kM,e,he,fo,cA⟩:=Region.waitsFor_spec hj;have:=head.closed n o6 kM hb e he fo;rwa [cA] at this) hc
       rw [getD_both e8] at this;cases this
     have:=fB (t:=t) cZ aM fL (List.mem_append_right _ (by rw [ht];simp));rw [aV cZ (Nat.le_refl _) aM ht] at this;exact Di this
   have fin:∀ v w',V1 w' (Mof M0 (if listed.getD n false=true then h1 else st.h) p) (if listed.getD n false=true then h1 else st.h) p (rs.getD i .any) v→Below w.heap.size w w'→(fun listed a w=>HeadInv .any l.toArray (n+1) listed∧∃ (p:Pl) (s:List (Nat×AV)),Rel M0 w0 N p ⟨s,if listed.getD n false=true then h1 else st.h⟩ a w ∧
     (∀ (j:Nat) (q:Oper) (d:Nat),j < n→listed.getD j false=true→l[j]? = some q→q.dst=some d→lkp s d=pgB g (listed.getD n false) (rs.getD j .any)) ∧
     (∀ t,t≠d→(∀ j q,j < n→l[j]? = some q→q.dst≠some t)→lkp s t=pgB g (listed.getD n false) (lkp st.s t))∧(listed.getD n false=true→lkp s d = .osl g)) (listed.setIfInBounds i true) (a.put o2.dst v) w':=fun v w' hv hb=>by
    have R':=(R.later hb).put (d:=o2.dst) (fw (List.all_eq_true.1 hN o2 (List.mem_of_getElem? aM))) hv;have cL:(VS.put ⟨s,if listed.getD n false=true then h1 else st.h⟩ o2.dst (rs.getD i .any))=⟨(VS.put ⟨s,if listed.getD n false=true then h1 else st.h⟩ o2.dst (rs.getD i .any)).s,if listed.getD n false=true then h1 else st.h⟩:=by cases o2.dst<;>rfl
    rw [cL] at R';refine ⟨head.set hi bc,p,_,by rw [eH];exact R',fun j q d hj hl hq aE=>?_,fun t fN ht=>?_,fun hl=>?_⟩
    ·rw [gr,eH];by_cases cK:j=i
     ·subst cK;have:q=o2:=Option.some.inj (hq.symm.trans aM);subst this;rw [if_pos aE,rD d aE]
     ·rw [if_neg fun e=>cg hj cK hq aE e rfl];rw [a_ (Ne.symm cK)] at hl;exact S1 j q d hj hl hq aE
    ·rw [gr,if_neg (ht i o2 cZ aM),eH];exact S2 t fN ht
    ·rw [eH] at hl;rw [gr,if_neg fun e=>m_ cZ aM e rfl];exact S3 hl
   have ng:∀ t∈o2.looksAt l.toArray,lkp s t=lkp (aH st ((l.take n).take i) (rs.take i)).s t:=fun t ht=>by
    have h2:=cP (Nat.le_refl i) (by omega) t ht;have h3:=cP (show i≤n by omega) (Nat.le_refl n) t ht;cases hb:listed.getD n false
    ·rw [hb] at h2;exact h2
    ·have fL:fM l n n i=false:=by
      cases hc:fM l n n i
      ·rfl
      ·have:=nf head n n i (fun j hj=>by
        obtain ⟨o6,kM,e,he,fo,cA⟩:=Region.waitsFor_spec hj;have:=head.closed n o6 kM hb e he fo;rwa [cA] at this) hc
       rw [getD_both e8] at this;cases this
     have bm:=fB cZ aM fL (List.mem_append_left _ ht);rw [hb] at h2 h3;by_cases hex:∃ (j:Nat) (q:Oper),j < n∧l[j]? = some q∧q.dst=some t
     ·obtain ⟨j,q,hj,hq,aE⟩:=hex;obtain ⟨_,h5⟩:=cn i bc o2 aM t ht j (by omega) q hq aE;rw [aV hj (Nat.le_refl _) hq aE] at bm;rw [aV h5 (by omega) hq aE] at h2 ⊢;rw [h2];exact Di bm
     ·have ji:∀ j q,j < n→l[j]? = some q→q.dst≠some t:=fun j q hj hq he=>hex ⟨j,q,hj,hq,he⟩;rw [aO ji] at bm;rw [aO ji] at h2 ⊢;rw [h2];exact Di bm
   have bL:dJ P st.h (ev (aH st ((l.take n).take i) (rs.take i))) o2.op (rs.getD i .any)→gives P o2 a w fun v w''=>V1 w'' (Mof M0 (if listed.getD n false=true then h1 else st.h) p) (if listed.getD n false=true then h1 else st.h) p (rs.getD i .any) v∧Below w.heap.size w w'':=by
    intro hg;have fA:dJ P (if listed.getD n false=true then h1 else st.h) (ev (aH st ((l.take n).take i) (rs.take i))) o2.op (rs.getD i .any):=by
     split
     ·rename_i kO;have h2:=List.all_eq_true.1 hL i (List.mem_range.2 cZ);simp only [aM,Bool.or_eq_true] at h2;rcases h2 with h2|h2
      ·have:=nf head n n i (fun j hj=>by
        obtain ⟨o6,kM,e,he,fo,cA⟩:=Region.waitsFor_spec hj;have:=head.closed n o6 kM kO e he fo;rwa [cA] at this) h2
       rw [getD_both e8] at this;cases this
      ·exact CU h2 hg
     ·exact hg
    refine oC R.objs R.mok R.h0 R.glob (fun _ _ hb=>.inl hb) (fun x hx=>?_) fA;cases x with
    | tmp t=>
     show V1 _ _ _ _ (lkp (aH st ((l.take n).take i) (rs.take i)).s t) _;rw [←ng t (List.mem_append_left _ (List.mem_filterMap.2 ⟨.tmp t,by simpa using hx,rfl⟩))];exact R.slots t
    | const v=>exact .base _ _ (.lit v)
    | global g=>exact .base _ _ (R.evalG g)
    | func f=>exact .base _ _ (.lit _)
   have hy:=fun j=>oA (ops:=l) (j:=j) R hN;have bG:∀ (j:Nat) (want:Bool) (v:Value),o2.guard=some (j,want)→db l (aH st ((l.take n).take i) (rs.take i)) j = .lit v→db l ⟨s,if listed.getD n false=true then h1 else st.h⟩ j = .lit v:=by
    intro j want v hg hv;unfold db at hv ⊢;cases hj:l[j]? with
    | none=>simpa [hj] using hv
    | some q=>
     cases hq:q.dst with
     | none=>simpa [hj,hq] using hv
     | some d=>
      have c_:d∈o2.looksAt l.toArray:=by
       unfold Oper.looksAt;refine List.mem_append_right _ ?_;simp [hg,hj,hq]
      simp only [hj,hq] at hv ⊢;rw [ng d c_];exact hv
   unfold wpOp;simp only [ho];unfold jV at aj;split at aj
   ·rename_i hg;rw [if_pos (by simp [Region.wanted,hg])];rw [eP] at aj;exact Or.inl (jB (bL aj) rfl fun v w' hv=>fin v w' hv.1 hv.2)
   ·rename_i j want hg;split at aj
    ·rename_i b hb;have eQ:=(hy j).1 b (bG j want _ hg hb);split at aj
     ·rename_i hw;subst hw;rw [if_pos (by simp [Region.wanted,hg,eQ])];rw [eP] at aj;exact Or.inl (jB (bL aj) rfl fun v w' hv=>fin v w' hv.1 hv.2)
     ·rename_i hw;rw [if_neg (by simpa [Region.wanted,hg,eQ] using hw)];exact fin undef w (by rw [aj];exact .base _ _ (.lit _)) (Below.refl _ _)
    ·rename_i us hb;have eQ:=(hy j).2 us (bG j want _ hg hb);rw [if_neg (by simp [Region.wanted,hg,eQ])];exact fin undef w (by rw [aj];exact .base _ _ (.lit _)) (Below.refl _ _)
    ·exact aj.elim
 ·rintro listed a w ⟨head,p,s,R,S1,S2,S3⟩ aG;rw [aG n (by omega)] at R;simp only [if_true] at R;rw [aG n (by omega)] at S1 S2 S3;have R':=R.weak (s':=(d,.osl g)::(aH st (l.take n) rs).s.map (fun q=>(q.1,purge g q.2))) fun t=>by
   show lkp ((d,.osl g)::(aH st (l.take n) rs).s.map (fun q=>(q.1,purge g q.2))) t=lkp s t∨_;refine .inl ?_;rw [lkp];split
   ·rename_i he;subst he;exact (S3 rfl).symm
   ·rename_i he;rw [wU,ba];by_cases hex:∃ (j:Nat) (q:Oper),j < n∧l[j]? = some q∧q.dst=some t
    ·obtain ⟨j,q,hj,hq,aE⟩:=hex;rw [aV hj (Nat.le_refl _) hq aE];exact (S1 j q t hj (aG j (by omega)) hq aE).symm
    ·have bm:∀ j q,j < n→l[j]? = some q→q.dst≠some t:=fun j q hj hq he=>hex ⟨j,q,hj,hq,he⟩;rw [aO bm,S2 t (fun e=>he e.symm) bm];rfl
  have iC:(l.drop (n+1)).all (cX N)=true:=List.all_eq_true.2 fun q hq=>List.all_eq_true.1 hN q (List.mem_of_mem_drop hq);exact mn (ow:=ow) hN (fun p st a w R h=>⟨st,p,R,h⟩) (l.drop (n+1)) p _ _ w iC R' hK
 ·refine ⟨⟨by simp,fun j oj _ hl=>(by rw [getD_replicate_false] at hl;cases hl),fun t _ ht=>getD_in (by simpa using ht) (getD_replicate_false _ _)⟩,p0,st.s,?_,fun j q d _ hl=>(by rw [getD_replicate_false] at hl;cases hl),fun _ _ _=>by rw [getD_replicate_false];rfl,fun hl=>(by rw [getD_replicate_false] at hl;cases hl)⟩;rw [getD_replicate_false];exact R0.later (Below.refl _ _).drew
end
def wL (o:Oper) : Bool:=o.guard.isNone&&(match o.op with | .load _ (.tmp _)=>true|_=>false)
def p6 (P:Program) (T:VS) (h1:Hp) (l:List Oper) : List Nat→Prop
 | []=>True
 | i::r=>(match l[i]? with|some o=>∃ x,dJ P T.h (ev T) o.op x∧dJ P h1 (ev T) o.op x|none=>False)∧p6 P T h1 l r
theorem Ha {P:Program} {T:VS} {h1:Hp} {l:List Oper} : ∀ {js:List Nat},p6 P T h1 l js→∀ {i:Nat} {o:Oper},i∈js→l[i]? = some o→∃ x,dJ P T.h (ev T) o.op x∧dJ P h1 (ev T) o.op x
 | [],_,i,o,h,_=>by cases h
 | j::r,hk,i,o,h,ho=>by
  rcases List.mem_cons.1 h with rfl|h
  ·have:=hk.1;rw [ho] at this;exact this
  ·exact Ha hk.2 h ho
theorem OJ {P:Program} {h:Hp} {E E':Operand→AV} {t:TypeId} {x:Operand} {r r':AV} (he:E x=E' x) (h1:dJ P h E (.load t x) r) (h2:dJ P h E' (.load t x) r') : r=r':=by
 have hp:oT P h E (.load t x)=oT P h E' (.load t x):=by
  show mi P h t (E x)=mi P h t (E' x);rw [he]
 unfold dJ at h1 h2;rw [hp] at h1;cases hq:oT P h E' (.load t x) with
 | some z=>
  rw [hq] at h1 h2;exact h1.symm.trans h2
 | none=>
  rw [hq] at h1;exact h1.elim
theorem OK {P:Program} {h:Hp} {E E':Operand→AV} {t:TypeId} {x:Operand} {r:AV} (he:E x=E' x) (h1:dJ P h E (.load t x) r) : dJ P h E' (.load t x) r:=by
 have hp:oT P h E (.load t x)=oT P h E' (.load t x):=by
  show mi P h t (E x)=mi P h t (E' x);rw [he]
 unfold dJ at h1 ⊢;rw [←hp];cases hq:oT P h E (.load t x) with
 | some z=>
  rw [hq] at h1;exact h1
 | none=>
  rw [hq] at h1;exact h1.elim
section
variable {P:Program} {M0:Nat→Nat→Prop} {w0:Bas} {N:Nm} {p:Pl} {st:VS} {a:Act} {w:World} {Q:Exit→VS→Prop}
end
end Go.Proofs.YtoibondihdhnoaaGreatDoor
