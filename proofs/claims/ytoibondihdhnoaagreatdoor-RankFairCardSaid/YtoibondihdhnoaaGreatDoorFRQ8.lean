/- Texts in one: A drawing region that makes several variables of the call's own, in no order to each other: of every program; no condition. -/
import Derived.Test.YtoibondihdhnoaaGreatDoorFRQ6
namespace Go.Proofs.YtoibondihdhnoaaGreatDoor
open Go.RowKit
section
variable {P:Program} {M0:Nat→Nat→Prop} {w0:Bas} {N:Nm} {p:Pl} {st:VS} {a:Act} {w:World} {Q:Exit→VS→Prop}
theorem sM {h:Hp} {m id:Nat} {ob:Ob} (hi:(h++List.replicate m none)[id]? = some (some ob)) : h[id]? = some (some ob):=by
 rcases Nat.lt_or_ge id h.length with ak|dr
 ·rwa [List.getElem?_append_left ak] at hi
 ·rw [List.getElem?_append_right dr,List.getElem?_replicate] at hi;split at hi<;>cases hi
theorem Rel.pad (R:Rel M0 w0 N p st a w) (m:Nat) : Rel M0 w0 N p ⟨st.s,st.h++List.replicate m none⟩ a w:=by
 have hM:∀ b j,¬Mof M0 st.h p b j→¬Mof M0 (st.h++List.replicate m none) p b j:=fun b j hb fI=>by
  rcases fI with h|⟨i,ob,hi,hl,hp⟩
  ·exact hb (.inl h)
  ·exact hb (.inr ⟨i,ob,sM hi,hl,hp⟩)
 have keep:∀ {av:AV} {v:Value},V1 w (Mof M0 st.h p) st.h p av v→V1 w (Mof M0 (st.h++List.replicate m none) p) (st.h++List.replicate m none) p av v:=fun hv=>
  hv.keep (Keeps.refl _ _) (fun b j _ h=>hM b j h) (by simp) (fun _ _=>rfl) (fun i e sz nl es v _ he hv=>hv _ _ _ _ (sM he)) (fun i e sz nl pe qs v _ he hv=>hv _ _ _ _ _ (sM he)) fun i k sz v hid hs=>hs.keep (fun e sz pe qs he=>⟨sM he,rfl,rfl,fun _ _ _ _=>rfl⟩) (Nat.le_refl _)
 exact ⟨R.defers,R.size,R.below,R.m0,R.x0,fun i=>keep (R.slots i),fun i ob hi=>(R.objs i ob (sM hi)).keep (fun _=>⟨rfl,rfl⟩) (fun _ _ _ _ _=>rfl) (Nat.le_refl _) (fun hx=>hx.keep (Keeps.refl _ _) fun b j _=>hM b j) fun _ _ _ _ _ hx=>keep hx,
  fun i i' ob ob' hi bo=>R.inj i i' ob ob' (sM hi) (sM bo)⟩
theorem Rel.fill {us:List Value} {zs:List Value} {id d:Nat} (R:Rel M0 w0 N p st a w) (hd:N.has d) (hid:st.h[id]? = some none) (hs:∀ t,cH id 5 (lkp st.s t)=true) (hh:∀ (i:Nat) (cs:List AV),st.h[i]? = some (some (Ob.box cs))→∀ c∈cs,cH id 5 c=true)
  (hc:Cells w (Mof M0 st.h p) st.h p (zs.map .lit) us) (t:TypeId) :
  Rel M0 w0 N (cO p id w.heap.size) ⟨(d,.ref id 0)::st.s,st.h.set id (some (.box (zs.map .lit)))⟩ (a.put (some d) (.pointer (some ⟨w.heap.size,0,none⟩))) { w with heap:=w.heap.push (.cells us.toArray t) }:=by
 have hb:=mm w (.cells us.toArray t);have eB:id < st.h.length:=(List.getElem?_eq_some_iff.1 hid).1;have hp:∀ i,i≠id→cO p id w.heap.size i=p i:=fun i hi=>(jS hi).1;have ll:cO p id w.heap.size id=w.heap.size:=(ln p _ _).1;have bB:∀ i o,(st.h.set id (some (.box (zs.map .lit))))[i]? = some (some o)→(i=id∧o = .box (zs.map .lit))∨(i≠id∧st.h[i]? = some (some o)):=by
  intro i o aG;rw [List.getElem?_set] at aG;by_cases he:id=i
  ·rw [if_pos he,if_pos (by omega)] at aG;simp only [Option.some.injEq] at aG;exact .inl ⟨he.symm,aG.symm⟩
  ·rw [if_neg he] at aG;exact .inr ⟨fun h=>he h.symm,aG⟩
 have hM:∀ c j,c < w.heap.size→¬Mof M0 st.h p c j→¬Mof M0 (st.h.set id (some (.box (zs.map .lit)))) (cO p id w.heap.size) c j:=by
  intro c j hc hn hm;rcases hm with hm|⟨i,o,hi,hl,jN⟩
  ·exact hn (.inl hm)
  ·rcases bB i o hi with ⟨rfl,_⟩|⟨aq,bo⟩
   ·have:=mn jN;omega
   ·exact hn (.inr ⟨i,o,bo,hl,(jw aq).1 jN⟩)
 have hV:∀ {x:AV} {u:Value},cH id 5 x=true→V1 w (Mof M0 st.h p) st.h p x u→V1 { w with heap:=w.heap.push (.cells us.toArray t) } (Mof M0 (st.h.set id (some (.box (zs.map .lit)))) (cO p id w.heap.size)) (st.h.set id (some (.box (zs.map .lit)))) (cO p id w.heap.size) x u:=fun hx hv=>
  V1.purge (.of_below hb) hM (by simp) hp (fun i e sz nl es v aq he hv=>by
   rcases bB i _ he with ⟨h1,_⟩|⟨_,h2⟩
   ·exact absurd h1 aq
   ·exact (hv _ _ _ _ h2).below hb) (fun i e sz nl pe qs v aq he hv=>by
   rcases bB i _ he with ⟨h1,_⟩|⟨_,h2⟩
   ·exact absurd h1 aq
   ·exact (hv _ _ _ _ _ h2).below hb) (fun i k sz v aq cC hs=>hs.keep (fun e sz pe qs he=>by
   rcases bB i _ he with ⟨h1,_⟩|⟨_,h2⟩
   ·exact absurd h1 aq
   ·exact ⟨h2,(jS aq).1,(jS aq).2,fun b _ _ ak=>hb.block b ak⟩) hb.size) 5 _ _ hv hx
 refine ⟨R.defers,R.size.put hd,R.below.later hb,R.m0,R.x0,fun i=>?_,fun i o hi=>?_,fun i i' o o' hi bo hl bn x j j' hO cw=>?_⟩
 ·rw [jx a d _ i (R.size.lt hd)];simp only [lkp];split
  ·have:=V1.ref (w:={ w with heap:=w.heap.push (.cells us.toArray t) }) (M:=Mof M0 (st.h.set id (some (.box (zs.map .lit)))) (cO p id w.heap.size)) (h:=st.h.set id (some (.box (zs.map .lit)))) (p:=cO p id w.heap.size) id 0 (by simpa using eB);rwa [ll] at this
  ·exact hV (hs i) (R.slots i)
 ·rcases bB i o hi with ⟨rfl,rfl⟩|⟨aq,bo⟩
  ·refine ⟨s6 R.below.size,us.toArray,t,by rw [ll];simp [-World.alloc_eq],by simpa using hc.1,hc.2.1,fun j c hj=>?_⟩;have eM:j < us.length:=by rw [hc.1];exact (List.getElem?_eq_some_iff.1 hj).1
   refine ⟨us[j],by simp [eM],hV ?_ (hc.2.2 j c us[j] hj (List.getElem?_eq_getElem eM))⟩;rw [List.getElem?_map,Option.map_eq_some_iff] at hj;obtain ⟨z,_,rfl⟩:=hj;rfl
  ·exact (R.objs i o bo).keep (fun _=>jS aq) (fun _ b _ _ dk=>hb.block b dk) hb.size (fun hx=>hx.keep (.of_below hb) hM) fun cs ca c eT _ hx=>hV (hh i cs (by rw [bo,ca]) c eT) hx
 ·rcases bB i o hi with ⟨rfl,rfl⟩|⟨hn,h1⟩<;>rcases bB i' o' bo with ⟨rfl,rfl⟩|⟨lp,h2⟩
  ·rfl
  ·have h3:=((R.objs i' o' h2).own bn x j' ((jw lp).1 cw)).2;have h4:=mn hO;omega
  ·have h3:=((R.objs i o h1).own hl x j ((jw hn).1 hO)).2;have h4:=mn cw;omega
  ·exact R.inj i i' o o' h1 h2 hl bn x j j' ((jw hn).1 hO) ((jw lp).1 cw)
end
structure Slot where
 ai:Nat
 d:Nat
 z:List Value
 si:Option Nat
 c:List AV
def Slot.end_ (q:Slot) : List AV:=match q.si with|some _=>q.c|none=>q.z.map .lit
def Slot.at_ (q:Slot) (f:Nat→Bool) : Option Ob:=if f q.ai=true then some (.box (match q.si with|some s=>if f s=true then q.c else q.z.map .lit|none=>q.z.map .lit)) else none
def fG (A:List Slot) (f:Nat→Bool) : Hp:=A.map fun q=>q.at_ f
def eg:List Slot→Hp
 | []=>[]
 | q::r=>some (.box q.end_)::eg r
def dP (k:Nat) : List Slot→List (Nat×AV)
 | []=>[]
 | q::r=>(q.d,.ref k 0)::dP (k+1) r
def isA (A:List Slot) (i:Nat) : Bool:=A.any fun q=>q.ai == i || q.si == some i
def zC (l:List Oper) (n:Nat) (q:Slot) : Bool:=
 decide (q.ai < n)&&(match l[q.ai]? with|some o=>o.guard.isNone&&o.dst == some q.d&&(match o.op with | .alloc _=>true|_=>false)|none=>false) &&
 (match q.si with|none=>true|some s=>decide (s < n)&&(match l[s]? with|some o=>o.guard.isNone&&o.dst.isNone&&(match o.op with | .store _ (.tmp x) _=>x == q.d|_=>false)|none=>false))
def Dh (l:List Oper) (n:Nat) (A:List Slot) : Bool:=A.all (zC l n)&&decide (A.map (·.d)).Nodup
def Di (P:Program) (l:List Oper) (T:VS) (q:Slot) : Prop:=
 (match l[q.ai]? with|some o=>(match o.op with | .alloc t=>∃ ti,aU P t=some ti∧ti.zero=q.z|_=>False)|none=>False) ∧
 (match q.si with|none=>True|some s=>(match l[s]? with|some o=>(match o.op with | .store t _ y=>∃ ti,aU P t=some ti∧ev T y≠.any∧oL (ev T y)=true∧fV (ev T y)=q.c∧q.c.length=ti.size∧q.z.length=ti.size∧q.c.all (bg T.h.length 5)=true|_=>False)|none=>False))
def wR (P:Program) (l:List Oper) (T:VS) : List Slot→Prop
 | []=>True
 | q::r=>Di P l T q∧wR P l T r
section
variable (P:Program)
def iP (ops:List Oper) (ba:Nat→Bool) : List Oper→Nat→VS→(VS→Prop)→Prop
 | [],_,T,K=>K T
 | o::l,i,T,K=>
  if ba i=true then iP ops ba l (i+1) (T.put o.dst .any) K
  else mF P ops o T fun T'=>(∀ d,o.dst=some d→bg T.h.length 5 (lkp T'.s d)=true)∧iP ops ba l (i+1) T' K
end
section
variable {P:Program} {M0:Nat→Nat→Prop} {w0:Bas} {N:Nm} {p:Pl} {st:VS} {a:Act} {w:World} {Q:Exit→VS→Prop}
theorem s7 {ops:List Oper} {ba:Nat→Bool} {K:VS→Prop} : ∀ (l:List Oper) (i0:Nat) (T:VS),iP P ops ba l i0 T K →
  ∃ rs:List AV,rs.length=l.length∧K (aM T l rs) ∧
   (∀ (i:Nat) (o:Oper) (r:AV),ba (i0+i)=false→l[i]? = some o→rs[i]? = some r→kz P ops o (aM T (l.take i) (rs.take i)) r∧∀ d,o.dst=some d→bg T.h.length 5 r=true) ∧
   (∀ (i:Nat) (o:Oper),ba (i0+i)=true→l[i]? = some o→rs[i]? = some .any)
 | [],i0,T,h=>⟨[],rfl,h,by simp,by simp⟩
 | o::l,i0,T,h=>by
  unfold iP at h;by_cases hc:ba i0=true
  ·rw [if_pos hc] at h;obtain ⟨rs,e1,hK,hp,hh⟩:=s7 l (i0+1) _ h;refine ⟨.any::rs,by simp [e1],by simpa [aM] using hK,fun i q r hi hq hr=>?_,fun i q hi hq=>?_⟩
   ·cases i with
    | zero=>rw [Nat.add_zero,hc] at hi;cases hi
    | succ i=>
     have:=hp i q r (by rw [←hi];congr 1;omega) (by simpa using hq) (by simpa using hr);rw [qT] at this;simpa [aM] using this
   ·cases i with
    | zero=>rfl
    | succ i=>exact hh i q (by rw [←hi];congr 1;omega) (by simpa using hq)
  ·rw [if_neg hc] at h;obtain ⟨r,h1,h2,h3⟩:=CH h;obtain ⟨rs,e1,hK,hp,hh⟩:=s7 l (i0+1) _ h3;refine ⟨r::rs,by simp [e1],by simpa [aM] using hK,fun i q x hi hq hr=>?_,fun i q hi hq=>?_⟩
   ·cases i with
    | zero=>
     simp at hq hr;subst hq;subst hr;refine ⟨h1,fun d hd=>?_⟩;have:=h2 d hd;rw [hd,Hg] at this;simpa using this
    | succ i=>
     have:=hp i q x (by rw [←hi];congr 1;omega) (by simpa using hq) (by simpa using hr);rw [qT] at this;simpa [aM] using this
   ·cases i with
    | zero=>rw [Nat.add_zero] at hi;exact absurd hi hc
    | succ i=>exact hh i q (by rw [←hi];congr 1;omega) (by simpa using hq)
theorem zD {l:List Oper} {T:VS} : ∀ {A:List Slot},wR P l T A→∀ {j:Nat} {q:Slot},A[j]? = some q→Di P l T q
 | [],_,j,q,h=>by simp at h
 | x::A,hk,j,q,h=>by
  cases j with
  | zero=>simp at h;subst h;exact hk.1
  | succ j=>exact zD hk.2 (j:=j) (by simpa using h)
theorem H4:∀ {A:List Slot} {j:Nat},(eg A)[j]? = (A[j]?).map fun q=>some (.box q.end_)
 | [],j=>by simp [eg]
 | q::A,0=>by simp [eg]
 | q::A,j+1=>by simp [eg,H4 (A:=A) (j:=j)]
theorem Qq (A:List Slot) (f:Nat→Bool) (hf:∀ i,isA A i=true→f i=true) : fG A f=eg A:=by
 apply List.ext_getElem?;intro j;rw [H4];unfold fG;rw [List.getElem?_map];cases hq:A[j]? with
 | none=>rfl
 | some q=>
  have hm:=List.mem_of_getElem? hq;have h1:f q.ai=true:=hf _ (List.any_eq_true.2 ⟨q,hm,by simp⟩);simp only [Option.map_some,Slot.at_,h1,if_true,Slot.end_];cases hs:q.si with
  | none=>rfl
  | some s=>
   have h2:f s=true:=hf _ (List.any_eq_true.2 ⟨q,hm,by simp [hs]⟩);simp [h2]
theorem H5:∀ {A:List Slot} {k t:Nat},lkp (dP k A) t≠.any→∃ (j:Nat) (q:Slot),A[j]? = some q∧q.d=t∧lkp (dP k A) t = .ref (k+j) 0
 | [],k,t,h=>absurd rfl h
 | x::A,k,t,h=>by
  simp only [dP,lkp] at h ⊢;by_cases hd:x.d=t
  ·exact ⟨0,x,rfl,hd,by rw [if_pos hd];rfl⟩
  ·rw [if_neg hd] at h ⊢;obtain ⟨j,q,h1,h2,h3⟩:=H5 (A:=A) (k:=k+1) h;exact ⟨j+1,q,by simpa using h1,h2,by rw [h3];congr 1;omega⟩
theorem Qr {A:List Slot} {f g:Nat→Bool} (h:∀ i,isA A i=true→f i=g i) : fG A f=fG A g:=by
 unfold fG;refine List.map_congr_left fun q hq=>?_;have h1:f q.ai=g q.ai:=h _ (List.any_eq_true.2 ⟨q,hq,by simp⟩);unfold Slot.at_;rw [h1];cases hs:q.si with
 | none=>rfl
 | some s=>simp only [h s (List.any_eq_true.2 ⟨q,hq,by simp [hs]⟩)]
theorem H6 {l:List Oper} {n:Nat} {q:Slot} (h:zC l n q=true) : (q.ai < n∧∃ o t,l[q.ai]? = some o∧o.guard=none∧o.dst=some q.d∧o.op = .alloc t) ∧
  ∀ s,q.si=some s→s < n∧∃ o t y,l[s]? = some o∧o.guard=none∧o.dst=none∧o.op = .store t (.tmp q.d) y:=by
 simp only [zC,Bool.and_eq_true,decide_eq_true_eq] at h;obtain ⟨⟨h1,h2⟩,h3⟩:=h;refine ⟨⟨h1,?_⟩,fun s hs=>?_⟩
 ·split at h2
  ·rename_i o ho;simp only [Bool.and_eq_true,beq_iff_eq,Option.isNone_iff_eq_none] at h2;obtain ⟨⟨a,b⟩,c⟩:=h2;split at c
   ·rename_i t ht;exact ⟨o,t,ho,a,b,ht⟩
   ·cases c
  ·cases h2
 ·rw [hs] at h3;simp only [Bool.and_eq_true,decide_eq_true_eq] at h3;obtain ⟨h4,h5⟩:=h3;refine ⟨h4,?_⟩;split at h5
  ·rename_i o ho;simp only [Bool.and_eq_true,Option.isNone_iff_eq_none] at h5;obtain ⟨⟨a,b⟩,c⟩:=h5;split at c
   ·rename_i t x y hx;simp only [beq_iff_eq] at c;subst c;exact ⟨o,t,y,ho,a,b,hx⟩
   ·cases c
  ·cases h5
theorem Qs {A:List Slot} (h:(A.map (·.d)).Nodup) {i j:Nat} {q r:Slot} (hi:A[i]? = some q) (hj:A[j]? = some r) (he:q.d=r.d) : i=j:=by
 have h1:(A.map (·.d))[i]? = some q.d:=by simp [hi]
 have h2:(A.map (·.d))[j]? = some q.d:=by simp [hj,he]
 obtain ⟨a1,b1⟩:=List.getElem?_eq_some_iff.1 h1;obtain ⟨a2,b2⟩:=List.getElem?_eq_some_iff.1 h2;rcases Nat.lt_trichotomy i j with hl|hl|hl
 ·exact absurd (b1.trans b2.symm) (List.pairwise_iff_getElem.1 h i j a1 a2 hl)
 ·exact hl
 ·exact absurd (b2.trans b1.symm) (List.pairwise_iff_getElem.1 h j i a2 a1 hl)
theorem Qt {cs vs:List AV} (h:vs.length=cs.length) : lZ cs 0 vs=vs:=by
 unfold lZ;rw [List.take_zero,List.nil_append,Nat.zero_add,h,List.drop_length,List.append_nil]
theorem Qu {id:Nat} {l:List Oper} (n:Nat) (ow:List Nat) (A:List Slot) (hm:P.follows .mixedOrders=true) (hB:Region.specB l.toArray n=true) (hA:Dh l n A=true) (hs:sOK st.h.length st.s) (hh:hOK st.h.length st.h)
  (h:iP P l (isA A) (l.take n) 0 st fun T=>wR P l T A∧dU P ow l (l.drop n) ⟨dP st.h.length A++T.s,T.h++eg A⟩ (Q .normal)) : VWp P M0 w0 N (.region id l.toArray true) Q st:=fun jr p0 a0 rj R0=>by
 have hN:l.all (cR N)=true:=by simpa [e_] using jr
 obtain ⟨rs,dW,Y,S,lq⟩:=s7 _ _ _ h;obtain ⟨mg,hK⟩:=Y;have dq:=hB;simp only [Region.specB,Bool.and_eq_true,decide_eq_true_eq] at dq;obtain ⟨⟨⟨⟨⟨⟨_,aK⟩,_⟩,_⟩,hd⟩,bh⟩,_⟩:=dq;have fb:n < l.length:=by simpa using aK
 have dw:ea (l.take n)=true:=by simpa using hd
 have hlen:(l.take n).length=n:=by simp;omega
 rw [hlen] at dW;obtain ⟨uS,qb⟩ : A.all (zC l n)=true∧(A.map (·.d)).Nodup:=by simpa [Dh] using hA
 have gJ:∀ {j:Nat} {q:Slot},A[j]? = some q→_:=fun {j q} hq=>H6 (List.all_eq_true.1 uS q (List.mem_of_getElem? hq));have bf:∀ {i:Nat} {o:Oper},i < n→l[i]? = some o→(l.take n)[i]? = some o:=fun {i o} hi ho=>by rw [List.getElem?_take_of_lt hi];exact ho
 have kx:∀ {i:Nat} {o:Oper},(l.take n)[i]? = some o→i < n∧l[i]? = some o:=fun {i o} ho=>by
  have hi:i < n:=by have:=(List.getElem?_eq_some_iff.1 ho).1;omega
  rw [List.getElem?_take_of_lt hi] at ho;exact ⟨hi,ho⟩
 have ep:∀ {i:Nat},i < n→rs[i]? = some (rs.getD i .any):=fun {i} hi=>by simp [List.getD,show i < rs.length by omega]
 have cG:∀ i,i < n→∀ o,l[i]? = some o→∀ t∈o.looksAt l.toArray,∀ j,j < n→∀ q,l[j]? = some q→q.dst=some t→Region.waitsFor .any l.toArray i j=true∧j < i:=by
  intro i hi o ho;have h:=List.all_eq_true.1 bh i (List.mem_range.2 hi);simp only [List.getElem?_toArray,ho,Bool.and_eq_true] at h;have fS:∀ e∈o.after,Region.binds .any e=true→e.on < i:=fun e he hb=>by
   have h1:=Array.all_eq_true'.1 h.2 e he;simp only [hb,Bool.not_true,Bool.false_or,decide_eq_true_eq] at h1;exact h1
  intro t ht j hj q hq aH;have h1:=List.all_eq_true.1 (List.all_eq_true.1 h.1 t ht) j (List.mem_range.2 hj);simp only [hq,Option.bind_some,aH,bne_self_eq_false,Bool.false_or] at h1;refine ⟨h1,?_⟩;obtain ⟨o',aT,e,he,hb,cL⟩:=Region.waitsFor_spec h1;have:o'=o:=Option.some.inj (aT.symm.trans (by simpa using ho));subst this;rw [←cL];exact fS e he hb
 have aY:∀ {i j:Nat} {q:Oper} {t:Nat},j < i→i≤n→l[j]? = some q→q.dst=some t→lkp (aM st ((l.take n).take i) (rs.take i)).s t=rs.getD j .any:=fun {i j q t} hj hi hq ht=>
  mW ((l.take n).take i) (rs.take i) st t j q (rs.getD j .any) (ot _ _ dw) (by rw [List.getElem?_take_of_lt hj];exact bf (by omega) hq) (by rw [List.getElem?_take_of_lt hj];exact ep (by omega)) ht
 have aX:∀ {i t:Nat},(∀ j q,j < n→l[j]? = some q→q.dst≠some t)→lkp (aM st ((l.take n).take i) (rs.take i)).s t=lkp st.s t:=fun {i t} ho=>
  ml _ _ _ _ fun q hq he=>by
   obtain ⟨j,hj⟩:=List.mem_iff_getElem?.1 (List.mem_of_mem_take hq);obtain ⟨h1,h2⟩:=kx hj;exact ho j q h1 h2 he
 have bs:aM st (l.take n) rs=aM st ((l.take n).take n) (rs.take n):=by
  rw [List.take_of_length_le (l:=l.take n) (by rw [hlen];exact Nat.le_refl _),List.take_of_length_le (l:=rs) (by omega)]
 have du:∀ {j:Nat} {q:Oper} {d:Nat},j < n→isA A j=false→l[j]? = some q→q.dst=some d→bg st.h.length 5 (rs.getD j .any)=true:=fun {j q d} hj hc hq aH=>
  (S j q _ (by rw [Nat.zero_add];exact hc) (bf hj hq) (ep hj)).2 d aH
 have iz:∀ {j:Nat} {q:Oper},j < n→isA A j=true→l[j]? = some q→rs.getD j .any = .any:=fun {j q} hj hc hq=>by
  have h1:=lq j q (by rw [Nat.zero_add];exact hc) (bf hj hq);rw [ep hj] at h1;exact Option.some.inj h1
 refine wp_region_any hm ?_;refine sW (Inv:=fun listed a w=>HeadInv .any l.toArray n listed∧∃ (p:Pl) (s:List (Nat×AV)),Rel M0 w0 N p ⟨s,st.h++fG A fun i=>listed.getD i false⟩ a w ∧
   (∀ (j:Nat) (q:Oper) (d:Nat),j < n→isA A j=false→listed.getD j false=true→l[j]? = some q→q.dst=some d→lkp s d=rs.getD j .any) ∧
   (∀ t,(∀ j q,j < n→l[j]? = some q→q.dst≠some t)→lkp s t=lkp st.s t)∧(∀ (j:Nat) (q:Slot),A[j]? = some q→listed.getD q.ai false=true→lkp s q.d = .ref (st.h.length+j) 0) ∧
   (∀ t,bg st.h.length 5 (lkp s t)=true∨∃ (j:Nat) (q:Slot),A[j]? = some q∧listed.getD q.ai false=true∧lkp s t = .ref (st.h.length+j) 0)) hB (fun _ _ _ inv=>inv.1) ?_ ?_ _ _ _ _ ?_ (by simp)
 ·rintro listed a w i o ⟨head,p,s,R,S1,S2,S3,S4⟩ hi a_ ho fx;have aT:l[i]? = some o:=by simpa using ho
  obtain ⟨_,o2,lP,cZ⟩:=mem_ready.1 hi;have:o2=o:=Option.some.inj (lP.symm.trans ho);subst this;have bK:i < listed.size:=by rw [head.size];simpa using (by omega:i < l.length)
  have cn:(listed.setIfInBounds i true).getD i false=true:=by simp [bK]
  have aZ:∀ {j:Nat},i≠j→(listed.setIfInBounds i true).getD j false=listed.getD j false:=fun aq=>getD_set_ne false aq;have bZ:∀ j,Region.waitsFor .any l.toArray i j=true→listed.getD j false=true:=by
   intro j hj;obtain ⟨o3,m_,e,he,hb,cL⟩:=Region.waitsFor_spec hj;have:o3=o2:=Option.some.inj (m_.symm.trans ho);subst this;rw [←cL];exact cZ e he hb
  have cS:∀ {k:Nat},i≤k→k≤n→∀ t∈o2.looksAt l.toArray,lkp (aM st ((l.take n).take k) (rs.take k)).s t = .any∨(lkp (aM st ((l.take n).take k) (rs.take k)).s t=lkp s t∧bg st.h.length 5 (lkp s t)=true):=fun {k} rn lQ t ht=>by
   by_cases hex:∃ (j:Nat) (q:Oper),j < n∧l[j]? = some q∧q.dst=some t
   ·obtain ⟨j,q,hj,hq,aH⟩:=hex;obtain ⟨h1,h2⟩:=cG i a_ o2 aT t ht j hj q hq aH;rw [aY (by omega) lQ hq aH];cases hc:isA A j
    ·have:=S1 j q t hj hc (bZ j h1) hq aH;exact .inr ⟨this.symm,by rw [this];exact du hj hc hq aH⟩
    ·exact .inl (iz hj hc hq)
   ·have bz:∀ j q,j < n→l[j]? = some q→q.dst≠some t:=fun j q hj hq he=>hex ⟨j,q,hj,hq,he⟩;rw [aX bz,S2 t bz];exact .inr ⟨rfl,pn hs t⟩
  have cE:∀ {j:Nat} {q:Oper} {d d':Nat},j < n→j≠i→l[j]? = some q→q.dst=some d→o2.dst=some d'→d'≠d:=fun {j q d d'} hj cT hq aH eb he=>by
   subst he;exact cT (ou dw (bf hj hq) (bf a_ aT) aH eb)
  cases ef:isA A i
  ·obtain ⟨ao,nh⟩:=S i o2 (rs.getD i .any) (by rw [Nat.zero_add];exact ef) (bf a_ aT) (ep a_);have bI:(fG A fun i=>listed.getD i false)=fG A fun j=>(listed.setIfInBounds i true).getD j false:=Qr fun j hj=>by
    have aq:i≠j:=fun e=>by rw [←e,ef] at hj;cases hj
    exact (aZ aq).symm
   have qf:∀ {j:Nat} {q:Slot},A[j]? = some q→i≠q.ai:=fun {j q} hq e=>by
    have:isA A i=true:=List.any_eq_true.2 ⟨q,List.mem_of_getElem? hq,by simp [e]⟩;rw [ef] at this;cases this
   have fin:∀ v w',V1 w' (Mof M0 (st.h++fG A fun i=>listed.getD i false) p) st.h p (rs.getD i .any) v→Below w.heap.size w w'→(fun listed a w=>HeadInv .any l.toArray n listed∧∃ (p:Pl) (s:List (Nat×AV)),Rel M0 w0 N p ⟨s,st.h++fG A fun i=>listed.getD i false⟩ a w ∧
     (∀ (j:Nat) (q:Oper) (d:Nat),j < n→isA A j=false→listed.getD j false=true→l[j]? = some q→q.dst=some d→lkp s d=rs.getD j .any) ∧
     (∀ t,(∀ j q,j < n→l[j]? = some q→q.dst≠some t)→lkp s t=lkp st.s t)∧(∀ (j:Nat) (q:Slot),A[j]? = some q→listed.getD q.ai false=true→lkp s q.d = .ref (st.h.length+j) 0) ∧
     (∀ t,bg st.h.length 5 (lkp s t)=true∨∃ (j:Nat) (q:Slot),A[j]? = some q∧listed.getD q.ai false=true∧lkp s t = .ref (st.h.length+j) 0)) (listed.setIfInBounds i true) (a.put o2.dst v) w':=fun v w' hv hb=>by
    have R':=(R.later hb).put (d:=o2.dst) (dZ (List.all_eq_true.1 hN o2 (List.mem_of_getElem? aT))) (V1.long hv);have cJ:(VS.put ⟨s,st.h++fG A fun i=>listed.getD i false⟩ o2.dst (rs.getD i .any))=⟨(VS.put ⟨s,st.h++fG A fun i=>listed.getD i false⟩ o2.dst (rs.getD i .any)).s,st.h++fG A fun j=>(listed.setIfInBounds i true).getD j false⟩:=by rw [←bI];cases o2.dst<;>rfl
    rw [cJ] at R';refine ⟨head.set hi a_,p,_,R',fun j q d hj ia hl hq aH=>?_,fun t ht=>?_,fun j q hq hl=>?_,fun t=>?_⟩
    ·rw [gP];by_cases cT:j=i
     ·subst cT;have:q=o2:=Option.some.inj (hq.symm.trans aT);subst this;rw [if_pos aH]
     ·rw [if_neg fun e=>cE hj cT hq aH e rfl];rw [aZ (Ne.symm cT)] at hl;exact S1 j q d hj ia hl hq aH
    ·rw [gP,if_neg (ht i o2 a_ aT)];exact S2 t ht
    ·obtain ⟨⟨h1,o3,t3,h2,_,h3,_⟩,_⟩:=gJ hq;rw [gP,if_neg fun e=>cE h1 (Ne.symm (qf hq)) h2 h3 e rfl];rw [aZ (qf hq)] at hl;exact S3 j q hq hl
    ·rw [gP];by_cases gh:o2.dst=some t
     ·rw [if_pos gh];exact .inl (nh t gh)
     ·rw [if_neg gh];rcases S4 t with h1|⟨j,q,h1,h2,h3⟩
      ·exact .inl h1
      ·exact .inr ⟨j,q,h1,by rw [aZ (qf h1)];exact h2,h3⟩
   have b8:fT P st.h (ev (aM st ((l.take n).take i) (rs.take i))) o2.op (rs.getD i .any)→gives P o2 a w fun v w''=>V1 w'' (Mof M0 (st.h++fG A fun i=>listed.getD i false) p) st.h p (rs.getD i .any) v∧Below w.heap.size w w'':=by
    intro hg;refine pj (R.short_objs hh) R.mok R.h0 R.glob (fun _ _ hb=>.inl hb) (fun x hx=>?_) hg;cases x with
    | tmp t=>
     show V1 _ _ _ _ (lkp (aM st ((l.take n).take i) (rs.take i)).s t) _;rcases cS (Nat.le_refl i) (by omega) t (List.mem_append_left _ (List.mem_filterMap.2 ⟨.tmp t,by simpa using hx,rfl⟩)) with h1|⟨h1,h2⟩
     ·rw [h1];exact .base _ _ (.any _)
     ·rw [h1];exact V1.short (R.slots t) h2
    | const v=>exact .base _ _ (.lit v)
    | global g=>exact .base _ _ (R.evalG g)
    | func f=>exact .base _ _ (.lit _)
   have hy:=fun j=>pa (ops:=l) (j:=j) R hN;have b9:∀ (j:Nat) (want:Bool) (v:Value),o2.guard=some (j,want)→cY l (aM st ((l.take n).take i) (rs.take i)) j = .lit v→cY l ⟨s,st.h++fG A fun i=>listed.getD i false⟩ j = .lit v:=by
    intro j want v hg hv;unfold cY at hv ⊢;cases hj:l[j]? with
    | none=>simpa [hj] using hv
    | some q=>
     cases hq:q.dst with
     | none=>simpa [hj,hq] using hv
     | some d=>
      have ec:d∈o2.looksAt l.toArray:=by
       unfold Oper.looksAt;refine List.mem_append_right _ ?_;simp [hg,hj,hq]
      simp only [hj,hq] at hv ⊢;rcases cS (Nat.le_refl i) (by omega) d ec with h1|⟨h1,_⟩
      ·rw [h1] at hv;cases hv
      ·rw [←h1];exact hv
   unfold wpOp;simp only [ho];unfold kz at ao;split at ao
   ·rename_i hg;rw [if_pos (by simp [Region.wanted,hg])];rw [fc] at ao;exact Or.inl (kA (b8 ao) rfl fun v w' hv=>fin v w' hv.1 hv.2)
   ·rename_i j want hg;split at ao
    ·rename_i b hb;have fA:=(hy j).1 b (b9 j want _ hg hb);split at ao
     ·rename_i hw;subst hw;rw [if_pos (by simp [Region.wanted,hg,fA])];rw [fc] at ao;exact Or.inl (kA (b8 ao) rfl fun v w' hv=>fin v w' hv.1 hv.2)
     ·rename_i hw;rw [if_neg (by simpa [Region.wanted,hg,fA] using hw)];exact fin undef w (by rw [ao];exact .base _ _ (.lit _)) (Below.refl _ _)
    ·rename_i us hb;have fA:=(hy j).2 us (b9 j want _ hg hb);rw [if_neg (by simp [Region.wanted,hg,fA])];exact fin undef w (by rw [ao];exact .base _ _ (.lit _)) (Below.refl _ _)
    ·exact ao.elim
  · -- one Qv makes or Dj
   have dx:∀ {j j':Nat} {q q':Slot},A[j]? = some q→A[j']? = some q'→q.d=q'.d→j=j':=fun h1 h2 h3=>Qs qb h1 h2 h3;have fg:∀ {j:Nat} {x:Option Ob},j < A.length→(∀ k q,A[k]? = some q→k≠j→q.at_ (fun j=>(listed.setIfInBounds i true).getD j false)=q.at_ fun j=>listed.getD j false)→(∀ q,A[j]? = some q→q.at_ (fun j=>(listed.setIfInBounds i true).getD j false)=x) →
     (st.h++fG A fun i=>listed.getD i false).set (st.h.length+j) x=st.h++fG A fun j=>(listed.setIfInBounds i true).getD j false:=by
    intro j x hj h1 h2;rw [List.set_append_right _ _ (by omega),Nat.add_sub_cancel_left];congr 1;apply List.ext_getElem?;intro k;unfold fG;by_cases hk:j=k
    ·subst hk;rw [List.getElem?_set_self (by simpa using hj),List.getElem?_map,List.getElem?_eq_getElem hj];simp only [Option.map_some,Option.some.injEq];exact (h2 _ (List.getElem?_eq_getElem hj)).symm
    ·rw [List.getElem?_set_ne hk,List.getElem?_map,List.getElem?_map];cases hq:A[k]? with
     | none=>rfl
     | some q=>simp only [Option.map_some,Option.some.injEq];exact (h1 k q hq (Ne.symm hk)).symm
   obtain ⟨q,hq,kT⟩:=List.any_eq_true.1 ef;obtain ⟨j,hj⟩:=List.mem_iff_getElem?.1 hq;have bM:=(List.getElem?_eq_some_iff.1 hj).1;obtain ⟨⟨Ao,o3,t3,fL,xx,gK,iA⟩,fa⟩:=gJ hj;have gk:(st.h++fG A fun i=>listed.getD i false)[st.h.length+j]? = some (q.at_ fun i=>listed.getD i false):=by
    rw [List.getElem?_append_right (by omega),Nat.add_sub_cancel_left];simp [fG,hj]
   have wS:∀ {k:Nat} {r:Slot} {s':Nat},A[k]? = some r→r.si=some s'→Region.waitsFor .any l.toArray s' r.ai=true:=fun {k r s'} hr jM=>by
    obtain ⟨⟨a1,o4,t4,a2,a3,a4,a5⟩,a6⟩:=gJ hr;obtain ⟨b1,o5,t5,y5,b2,b3,b4,b5⟩:=a6 s' jM;refine (cG s' b1 o5 b2 r.d ?_ r.ai a1 o4 a2 a4).1;unfold Oper.looksAt;exact List.mem_append_left _ (List.mem_filterMap.2 ⟨.tmp r.d,by rw [b5];simp [Op.operands],rfl⟩)
   by_cases xy:q.ai=i
   ·subst xy;have:o3=o2:=Option.some.inj (fL.symm.trans aT);subst this;have fU:=(zD mg hj).1;rw [fL] at fU;simp only [iA] at fU;obtain ⟨ti,aV,hz⟩:=fU;have dO:=getD_both fx;have ni:(q.at_ fun i=>listed.getD i false)=none:=by simp only [Slot.at_,dO,Bool.false_eq_true,if_false]
    rw [ni] at gk;have wT:∀ {k:Nat} {r:Slot} {s':Nat},A[k]? = some r→r.si=some s'→q.ai≠s':=fun {k r s'} hr jM e=>by
     obtain ⟨_,a6⟩:=gJ hr;obtain ⟨b1,o5,t5,y5,b2,b3,b4,b5⟩:=a6 s' jM;rw [←e,fL] at b2;obtain rfl:=Option.some.inj b2;rw [gK] at b4;cases b4
    have po:∀ t,cH (st.h.length+j) 5 (lkp s t)=true:=fun t=>by
     rcases S4 t with h1|⟨k,r,h1,h2,h3⟩
     ·exact rB (by omega) 5 _ h1
     ·rw [h3];have kU:k≠j:=fun e=>by
       subst e;rw [hj] at h1;obtain rfl:=Option.some.inj h1;rw [dO] at h2;cases h2
      simp only [cH,bne_iff_ne,ne_eq];omega
    have lM:∀ (k:Nat) (cs:List AV),(st.h++fG A fun i=>listed.getD i false)[k]? = some (some (Ob.box cs))→∀ c∈cs,cH (st.h.length+j) 5 c=true:=fun k cs hk c hc=>by
     rcases Nat.lt_or_ge k st.h.length with ak|dr
     ·rw [List.getElem?_append_left ak] at hk;exact rB (by omega) 5 _ (List.all_eq_true.1 (uT hh k _ hk) c hc)
     ·rw [List.getElem?_append_right dr] at hk;unfold fG at hk;rw [List.getElem?_map,Option.map_eq_some_iff] at hk;obtain ⟨r,hr,he⟩:=hk;have wU:∀ c∈r.z.map AV.lit,cH (st.h.length+j) 5 c=true:=fun c hc=>by
       obtain ⟨z,_,rfl⟩:=List.mem_map.1 hc;rfl
      unfold Slot.at_ at he;split at he
      ·simp only [Option.some.injEq,Ob.box.injEq] at he;subst he;split at hc
       ·rename_i s' jM;split at hc
        ·have cI:=(zD mg hr).2;rw [jM] at cI;obtain ⟨b1,o5,t5,y5,b2,b3,b4,b5⟩:=(gJ hr).2 s' jM;simp only [b2,b5] at cI;obtain ⟨_,_,_,_,_,_,_,aD⟩:=cI;have:=List.all_eq_true.1 aD c hc;rw [fc] at this;exact rB (by omega) 5 _ this
        ·exact wU c hc
       ·exact wU c hc
      ·cases he
    obtain ⟨z,xA,iO,kD⟩:=pq aV;have hc:Cells w (Mof M0 (st.h++fG A fun i=>listed.getD i false) p) (st.h++fG A fun i=>listed.getD i false) p (q.z.map .lit) z.cells.toList:=by rw [xA,←hz];exact Cells.of_lits _ iO
    have R':=R.fill (d:=q.d) (dZ (List.all_eq_true.1 hN o3 (List.mem_of_getElem? fL)) q.d gK) gk po lM hc t3;simp only at R';rw [fg bM (fun k r hr kU=>?_) (fun r hr=>?_)] at R'
    ·unfold wpOp;simp only [ho];rw [if_pos (by simp [Region.wanted,xx])];refine Or.inl ?_;unfold Oper.wp;have aB:(execOp a.eval o3).run P w = .ok (.value (.pointer (some ⟨w.heap.size,0,none⟩))) { w with heap:=w.heap.push (.cells z.cells.toList.toArray t3) }:=by
      simp [execOp,iA,Instr.alloc,kD,newVar,newRow]
     rw [aB];simp only [Oper.upon];rw [gK];refine ⟨head.set hi a_,_,_,R',fun k r d hk eP hl hr oE=>?_,fun t ht=>?_,fun k r hr hl=>?_,fun t=>?_⟩
     ·have jy:k≠q.ai:=fun e=>by rw [e,ef] at eP;cases eP
      simp only [lkp];rw [if_neg (cE hk jy hr oE gK)];rw [aZ (Ne.symm jy)] at hl;exact S1 k r d hk eP hl hr oE
     ·simp only [lkp];rw [if_neg fun e=>ht q.ai o3 a_ fL (by rw [gK,e])];exact S2 t ht
     ·simp only [lkp];by_cases he:q.d=r.d
      ·rw [if_pos he,dx hj hr he]
      ·rw [if_neg he];refine S3 k r hr ?_;rw [aZ fun e=>he ?_] at hl
       ·exact hl
       ·obtain ⟨⟨_,o4,_,a2,_,a4,_⟩,_⟩:=gJ hr;rw [←e,fL] at a2;obtain rfl:=Option.some.inj a2;rw [gK] at a4;exact Option.some.inj a4
     ·simp only [lkp];by_cases he:q.d=t
      ·rw [if_pos he];exact .inr ⟨j,q,hj,cn,rfl⟩
      ·rw [if_neg he];rcases S4 t with h1|⟨k,r,h1,h2,h3⟩
       ·exact .inl h1
       ·refine .inr ⟨k,r,h1,?_,h3⟩;by_cases e:q.ai=r.ai
        ·rw [←e];exact cn
        ·rw [aZ e];exact h2
    ·have aq:q.ai≠r.ai:=fun e=>by
      obtain ⟨⟨_,o4,_,a2,_,a4,_⟩,_⟩:=gJ hr;rw [←e,fL] at a2;obtain rfl:=Option.some.inj a2;rw [gK] at a4;exact kU (dx hr hj (Option.some.inj a4).symm)
     simp only [Slot.at_,aZ aq];cases jM:r.si with
     | none=>rfl
     | some s'=>simp only [aZ (wT hr jM)]
    ·rw [hj] at hr;obtain rfl:=Option.some.inj hr;simp only [Slot.at_,cn,if_true];cases jM:q.si with
     | none=>rfl
     | some s'=>
      simp only [aZ (wT hj jM)];rw [if_neg fun hl=>?_];obtain ⟨o6,lR,e,he,hb,cL⟩:=Region.waitsFor_spec (wS hj jM);have:=head.closed s' o6 lR hl e he hb;rw [cL,dO] at this;cases this
   ·have wV:q.si=some i:=by simpa [xy] using kT
    obtain ⟨b1,o5,t5,y5,b2,b3,b4,b5⟩:=fa i wV;have:o5=o2:=Option.some.inj (b2.symm.trans aT);subst this;have cI:=(zD mg hj).2;rw [wV] at cI;simp only [b2,b5] at cI;obtain ⟨ti,aV,aq,H7,Dk,oA,vf,H8⟩:=cI;have nj:listed.getD q.ai false=true:=bZ _ (wS hj wV);have Qw:ev (aM st (l.take n) rs) y5=ev ⟨s,st.h++fG A fun i=>listed.getD i false⟩ y5:=by
     cases y5 with
     | tmp t=>
      have ht:t∈o5.looksAt l.toArray:=by
       unfold Oper.looksAt;exact List.mem_append_left _ (List.mem_filterMap.2 ⟨.tmp t,by rw [b5];simp [Op.operands],rfl⟩)
      show lkp _ t=lkp _ t;rcases cS (k:=n) (by omega) (Nat.le_refl _) t ht with h1|⟨h1,_⟩
      ·rw [←bs] at h1;exact absurd h1 aq
      ·rw [←bs] at h1;exact h1
     | const v=>rfl
     | global g=>rfl
     | func f=>rfl
    rw [Qw] at H7 Dk;have wW:(q.at_ fun i=>listed.getD i false)=some (.box (q.z.map .lit)):=by
     have dO:=getD_both fx;simp only [Slot.at_,nj,wV,dO,if_true,Bool.false_eq_true,if_false]
    rw [wW] at gk;have hx:ev ⟨s,st.h++fG A fun i=>listed.getD i false⟩ (.tmp q.d) = .ref (st.h.length+j) 0:=S3 j q hj nj;obtain ⟨w',aB,R'⟩:=GB (y:=y5) R aV hx gk H7 (by rw [Dk];exact oA) (by rw [List.length_map];omega);rw [Dk,Qt (by rw [List.length_map];omega)] at R';have pW:∀ {k:Nat} {r:Slot},A[k]? = some r→i≠r.ai:=fun {k r} hr e=>by
     obtain ⟨⟨_,o4,_,a2,_,a4,_⟩,_⟩:=gJ hr;rw [←e,b2] at a2;obtain rfl:=Option.some.inj a2;rw [b4] at a4;cases a4
    simp only at R';rw [fg bM (fun k r hr kU=>?_) (fun r hr=>?_)] at R'
    ·unfold wpOp;simp only [ho];rw [if_pos (by simp [Region.wanted,b3])];refine Or.inl ?_;have rX:∀ v,a.put o5.dst v=a:=fun v=>by rw [b4];rfl
     have fin:∀ v,(fun a w=>HeadInv .any l.toArray n (listed.setIfInBounds i true)∧∃ (p:Pl) (s:List (Nat×AV)),Rel M0 w0 N p ⟨s,st.h++fG A fun j=>(listed.setIfInBounds i true).getD j false⟩ a w ∧
       (∀ (j:Nat) (q:Oper) (d:Nat),j < n→isA A j=false→(listed.setIfInBounds i true).getD j false=true→l[j]? = some q→q.dst=some d→lkp s d=rs.getD j .any) ∧
       (∀ t,(∀ j q,j < n→l[j]? = some q→q.dst≠some t)→lkp s t=lkp st.s t)∧(∀ (j:Nat) (q:Slot),A[j]? = some q→(listed.setIfInBounds i true).getD q.ai false=true→lkp s q.d = .ref (st.h.length+j) 0) ∧
       (∀ t,bg st.h.length 5 (lkp s t)=true∨∃ (j:Nat) (q:Slot),A[j]? = some q∧(listed.setIfInBounds i true).getD q.ai false=true∧lkp s t = .ref (st.h.length+j) 0)) (a.put o5.dst v) w':=fun v=>by
      rw [rX];refine ⟨head.set hi a_,p,s,R',fun k r d hk eP hl hr oE=>?_,S2,fun k r hr hl=>?_,fun t=>?_⟩
      ·have jy:k≠i:=fun e=>by rw [e,ef] at eP;cases eP
       rw [aZ (Ne.symm jy)] at hl;exact S1 k r d hk eP hl hr oE
      ·rw [aZ (pW hr)] at hl;exact S3 k r hr hl
      ·rcases S4 t with h1|⟨k,r,h1,h2,h3⟩
       ·exact .inl h1
       ·exact .inr ⟨k,r,h1,by rw [aZ (pW h1)];exact h2,h3⟩
     unfold Oper.wp;have gb:(execOp a.eval o5).run P w = .ok .skip w'∨∃ v,(execOp a.eval o5).run P w = .ok (.value v) w':=by
      obtain ⟨dst,op,ty,pos,after,guard⟩:=o5;simp only at b5;subst b5;simp [execOp,aB]
     rcases gb with h1|⟨v,h1⟩
     ·rw [h1];exact fin _
     ·rw [h1];exact fin _
    ·simp only [Slot.at_,aZ (pW hr)];cases jM:r.si with
     | none=>rfl
     | some s'=>
      have aq:i≠s':=fun e=>by
       obtain ⟨_,o6,t6,y6,c2,_,_,c5⟩:=(gJ hr).2 s' jM;rw [←e,b2] at c2;obtain rfl:=Option.some.inj c2;rw [b5] at c5;injection c5 with _ c6 _
       injection c6 with c6
       exact kU (dx hr hj c6.symm)
      simp only [aZ aq]
    ·rw [hj] at hr;obtain rfl:=Option.some.inj hr;simp only [Slot.at_,aZ (pW hj),nj,wV,cn,if_true]
 ·rintro listed a w ⟨head,p,s,R,S1,S2,S3,S4⟩ aD;have a_:∀ i,isA A i=true→i < n:=fun i hi=>by
   obtain ⟨q,hq,kT⟩:=List.any_eq_true.1 hi;obtain ⟨⟨h1,_⟩,h2⟩:=H6 (List.all_eq_true.1 uS q hq);simp only [Bool.or_eq_true,beq_iff_eq] at kT;rcases kT with kT|kT
   ·omega
   ·exact (h2 i kT).1
  rw [Qq A _ fun i hi=>aD i (a_ i hi)] at R;rw [fc] at hK;have R':=R.weak (s':=dP st.h.length A++(aM st (l.take n) rs).s) fun t=>by
   show lkp (dP st.h.length A++(aM st (l.take n) rs).s) t=lkp s t∨_;rcases qh (dP st.h.length A) (aM st (l.take n) rs).s t with h1|h1
   ·rw [h1];by_cases aq:lkp (dP st.h.length A) t = .any
    ·exact .inr aq
    ·obtain ⟨j,q,g1,g2,g3⟩:=H5 aq;rw [g3,←g2];exact .inl (S3 j q g1 (aD _ (gJ g1).1.1)).symm
   ·rw [h1,bs];by_cases hex:∃ (j:Nat) (q:Oper),j < n∧l[j]? = some q∧q.dst=some t
    ·obtain ⟨j,q,hj,hq,aH⟩:=hex;rw [aY hj (Nat.le_refl _) hq aH];cases hc:isA A j
     ·exact .inl (S1 j q t hj hc (aD j hj) hq aH).symm
     ·exact .inr (iz hj hc hq)
    ·have bz:∀ j q,j < n→l[j]? = some q→q.dst≠some t:=fun j q hj hq he=>hex ⟨j,q,hj,hq,he⟩;rw [aX bz,S2 t bz];exact .inl rfl
  have ix:(l.drop n).all (cR N)=true:=List.all_eq_true.2 fun q hq=>List.all_eq_true.1 hN q (List.mem_of_mem_drop hq);exact mS (ow:=ow) hN (fun p st a w R h=>⟨st,p,R,h⟩) (l.drop n) p _ _ w ix R' hK
 ·have rD:(fG A fun i=>(Array.replicate l.toArray.size false).getD i false)=List.replicate A.length none:=by
   apply List.ext_getElem?;intro k;unfold fG;rw [List.getElem?_map,List.getElem?_replicate];cases hq:A[k]? with
   | none=>
    have:=List.getElem?_eq_none_iff.1 hq;rw [if_neg (by omega)];rfl
   | some q=>
    have:=(List.getElem?_eq_some_iff.1 hq).1;rw [if_pos this];simp only [Option.map_some,Slot.at_,getD_replicate_false];rfl
  refine ⟨⟨by simp,fun j oj _ hl=>(by rw [getD_replicate_false] at hl;cases hl),fun t _ ht=>getD_in (by simpa using ht) (getD_replicate_false _ _)⟩,p0,st.s,?_,fun j q d _ _ hl=>(by rw [getD_replicate_false] at hl;cases hl),fun _ _=>rfl,fun j q _ hl=>(by rw [getD_replicate_false] at hl;cases hl),fun t=>.inl (pn hs t)⟩;rw [rD];exact (R0.later (Below.refl _ _).drew).pad A.length
end
section
variable {P:Program} {ow:List Nat} {ops l:List Oper} {o:Oper} {T:VS} {K:VS→Prop} {ba:Nat→Bool} {i:Nat}
theorem fk (h:K T) : iP P ops ba [] i T K:=h
theorem fi (hc:ba i=true) (h:iP P ops ba l (i+1) (T.put o.dst .any) K) : iP P ops ba (o::l) i T K:=by
 unfold iP;rw [if_pos hc];exact h
theorem fj (hc:ba i=false) (h:∀ X:VS→Prop,(∀ T',wN T.h.length o.dst T'.s=true→iP P ops ba l (i+1) T' K→X T')→mF P ops o T X) : iP P ops ba (o::l) i T K:=by
 unfold iP;rw [if_neg (by rw [hc];decide)];refine h _ fun T' hid hT=>⟨fun d hd=>?_,hT⟩
 simpa [wN,hd] using hid
end
attribute [go_sem] dP eg Slot.end_ wR Di
def Dl (o:Oper) : Bool:=o.guard.isNone&&(match o.op with | .move _=>true | .assign _=>true | .nilCheck _=>true | .fieldAddr .. => true|_=>false)
section
variable {P:Program} {M0:Nat→Nat→Prop} {w0:Bas} {N:Nm} {p:Pl} {st:VS} {a:Act} {w:World} {Q:Exit→VS→Prop}
theorem Qx {h h':Hp} {E:Operand→AV} {o:Oper} {r:AV} (hl:Dl o=true) (hg:fT P h E o.op r) : fT P h' E o.op r:=by
 unfold Dl at hl;simp only [Bool.and_eq_true] at hl;have hl:=hl.2;obtain ⟨dst,op,ty,pos,after,guard⟩:=o;simp only at hl hg ⊢;cases op with
 | move x=>exact hg
 | assign x=>exact hg
 | nilCheck x=>exact hg
 | fieldAddr t x f=>exact hg
 | _=>cases hl
end
def gO (l:List Oper) : Nat→Nat→Nat→Bool
 | 0,_,_=>false
 | f+1,n,i=>Region.waitsFor .any l.toArray n i || (List.range n).any fun j=>Region.waitsFor .any l.toArray n j&&gO l f j i
def Qy (l:List Oper) (n:Nat) : Bool:=(List.range n).all fun i=>gO l n n i || (match l[i]? with|some o=>Dl o|none=>false)
def xj (l:List Oper) (n:Nat) : List Nat:=(List.range n).flatMap fun i=>if gO l n n i then [] else match l[i]? with|some o=>o.looksAt l.toArray++o.dst.toList|none=>[]
theorem pg {l:List Oper} {m:Nat} {listed:Array Bool} (head:HeadInv .any l.toArray m listed) : ∀ (f n i:Nat),(∀ j,Region.waitsFor .any l.toArray n j=true→listed.getD j false=true)→gO l f n i=true→listed.getD i false=true
 | 0,_,_,_,h=>by cases h
 | f+1,n,i,hn,h=>by
  rw [gO,Bool.or_eq_true] at h;rcases h with h|h
  ·exact hn i h
  ·obtain ⟨j,_,hj⟩:=List.any_eq_true.1 h;rw [Bool.and_eq_true] at hj;have bM:=hn j hj.1;refine pg head f j i (fun k hk=>?_) hj.2;obtain ⟨oj,Qz,e,he,hb,cL⟩:=Region.waitsFor_spec hk;have:=head.closed j oj Qz bM e he hb;rwa [cL] at this
theorem Dm {id:Nat} {v:AV} (h:cH id 5 v=true) : purge id v=v:=if_pos h
def pgB (g:Nat) (b:Bool) (v:AV) : AV:=if b then purge g v else v
section
variable {P:Program} {M0:Nat→Nat→Prop} {w0:Bas} {N:Nm} {p:Pl} {st:VS} {a:Act} {w:World} {Q:Exit→VS→Prop}
theorem QA {ow:List Nat} {o:Oper} {t t':TypeId} {x y:Operand} {T:VS} {s:List (Nat×AV)} {h1:Hp} {d g:Nat} (cS:o.op = .call ⟨.builtin .append,#[x,y],#[t,t']⟩) (hd:o.dst=some d) (hx:ev ⟨s,T.h⟩ x=ev T x) (hy:ev ⟨s,T.h⟩ y=ev T y) (hg:ev T x = .osl g)
  (ht:l5 P ow T o=some ⟨(d,.osl g)::T.s.map (fun q=>(q.1,purge g q.2)),h1⟩) : l5 P ow ⟨s,T.h⟩ o=some ⟨(d,.osl g)::s.map (fun q=>(q.1,purge g q.2)),h1⟩:=by
 obtain ⟨dst,op,ty,pos,after,guard⟩:=o;simp only at cS hd;subst cS hd;unfold l5 at ht ⊢;simp only [hx,hy,hg] at ht ⊢;cases lz:aU P t with
 | none=>simp [lz] at ht
 | some ti=>
  cases h2:ev T y with
  | sl sz es=>
   simp only [lz,h2] at ht ⊢;cases h3:T.h[g]? with
   | none=>simp [h3] at ht
   | some QB=>
    cases QB with
    | none=>simp [h3] at ht
    | some ob=>
     cases ob with
     | arr e bE nl es'=>
      simp only [h3] at ht ⊢;cases h4:aU P ti.elem with
      | none=>simp [h4] at ht
      | some te=>
       simp only [h4] at ht ⊢;split at ht
       ·rename_i hc;rw [if_pos hc];simp only [Option.some.injEq,VS.mk.injEq,true_and] at ht ⊢;exact ht
       ·cases ht
     | _=>simp [h3] at ht
  | _=>simp [lz,h2] at ht
theorem rH {id:Nat} {l:List Oper} (n:Nat) (ow:List Nat) (g:Nat) (ls:List Nat) (hm:P.follows .mixedOrders=true) (hB:Region.specB l.toArray (n+1)=true) (hL:Qy l n=true) (Ac:xj l n=ls) {so:Oper} {d:Nat} {ty QC:TypeId} {x y:Operand} (iy:l[n]? = some so) (oo:so.guard=none∧so.dst=some d) (sO:so.op = .call ⟨.builtin .append,#[x,y],#[ty,QC]⟩)
  (h:mT P l (l.take n) st fun T=>∃ h1,ev T x = .osl g∧l5 P ow T so=some ⟨(d,.osl g)::T.s.map (fun q=>(q.1,purge g q.2)),h1⟩∧(∀ t∈ls,cH g 5 (lkp T.s t)=true)∧dU P ow l (l.drop (n+1)) ⟨(d,.osl g)::T.s.map (fun q=>(q.1,purge g q.2)),h1⟩ (Q .normal)) : VWp P M0 w0 N (.region id l.toArray true) Q st:=fun jr p0 a0 rj R0=>by
 have hN:l.all (cR N)=true:=by simpa [e_] using jr
 obtain ⟨rs,dW,⟨h1,Dn,gT,mj,hK⟩,S⟩:=sV _ _ h;have dq:=hB;simp only [Region.specB,Bool.and_eq_true,decide_eq_true_eq] at dq;obtain ⟨⟨⟨⟨⟨⟨_,aK⟩,_⟩,_⟩,hd⟩,bh⟩,_⟩:=dq;have fb:n+1 < l.length:=by simpa using aK
 have dw:ea (l.take (n+1))=true:=by simpa using hd
 have xk:ea (l.take n)=true:=by
  have:=ot (l.take (n+1)) n dw;rwa [List.take_take,Nat.min_eq_left (Nat.le_succ n)] at this
 have hlen:(l.take n).length=n:=by simp;omega
 rw [hlen] at dW;have bf:∀ {i:Nat} {o:Oper},i < n→l[i]? = some o→(l.take n)[i]? = some o:=fun {i o} hi ho=>by rw [List.getElem?_take_of_lt hi];exact ho
 have i_:∀ {i:Nat} {o:Oper},i < n+1→l[i]? = some o→(l.take (n+1))[i]? = some o:=fun {i o} hi ho=>by rw [List.getElem?_take_of_lt hi];exact ho
 have kx:∀ {i:Nat} {o:Oper},(l.take n)[i]? = some o→i < n∧l[i]? = some o:=fun {i o} ho=>by
  have hi:i < n:=by have:=(List.getElem?_eq_some_iff.1 ho).1;omega
  rw [List.getElem?_take_of_lt hi] at ho;exact ⟨hi,ho⟩
 have ep:∀ {i:Nat},i < n→rs[i]? = some (rs.getD i .any):=fun {i} hi=>by simp [List.getD,show i < rs.length by omega]
 have cG:∀ i,i < n+1→∀ o,l[i]? = some o→∀ t∈o.looksAt l.toArray,∀ j,j < n+1→∀ q,l[j]? = some q→q.dst=some t→Region.waitsFor .any l.toArray i j=true∧j < i:=by
  intro i hi o ho;have h:=List.all_eq_true.1 bh i (List.mem_range.2 hi);simp only [List.getElem?_toArray,ho,Bool.and_eq_true] at h;have fS:∀ e∈o.after,Region.binds .any e=true→e.on < i:=fun e he hb=>by
   have h1:=Array.all_eq_true'.1 h.2 e he;simp only [hb,Bool.not_true,Bool.false_or,decide_eq_true_eq] at h1;exact h1
  intro t ht j hj q hq aH;have h1:=List.all_eq_true.1 (List.all_eq_true.1 h.1 t ht) j (List.mem_range.2 hj);simp only [hq,Option.bind_some,aH,bne_self_eq_false,Bool.false_or] at h1;refine ⟨h1,?_⟩;obtain ⟨o',aT,e,he,hb,cL⟩:=Region.waitsFor_spec h1;have:o'=o:=Option.some.inj (aT.symm.trans (by simpa using ho));subst this;rw [←cL];exact fS e he hb
 have aY:∀ {i j:Nat} {q:Oper} {t:Nat},j < i→i≤n→l[j]? = some q→q.dst=some t→lkp (aM st ((l.take n).take i) (rs.take i)).s t=rs.getD j .any:=fun {i j q t} hj hi hq ht=>
  mW ((l.take n).take i) (rs.take i) st t j q (rs.getD j .any) (ot _ _ xk) (by rw [List.getElem?_take_of_lt hj];exact bf (by omega) hq) (by rw [List.getElem?_take_of_lt hj];exact ep (by omega)) ht
 have aX:∀ {i t:Nat},(∀ j q,j < n→l[j]? = some q→q.dst≠some t)→lkp (aM st ((l.take n).take i) (rs.take i)).s t=lkp st.s t:=fun {i t} ho=>
  ml _ _ _ _ fun q hq he=>by
   obtain ⟨j,hj⟩:=List.mem_iff_getElem?.1 (List.mem_of_mem_take hq);obtain ⟨h1,h2⟩:=kx hj;exact ho j q h1 h2 he
 have bs:aM st (l.take n) rs=aM st ((l.take n).take n) (rs.take n):=by
  rw [List.take_of_length_le (l:=l.take n) (by rw [hlen];exact Nat.le_refl _),List.take_of_length_le (l:=rs) (by omega)]
 refine wp_region_any hm ?_;have mX:∀ {j:Nat} {q:Oper} {d':Nat},j < n→l[j]? = some q→q.dst=some d'→d'≠d:=fun {j q d'} hj hq aH he=>by
  subst he;have:j=n:=ou dw (i_ (by omega) hq) (i_ (Nat.lt_succ_self n) iy) aH oo.2;omega
 have rl:∀ t,lkp (aM st (l.take n) rs).s t=lkp (aM st ((l.take n).take n) (rs.take n)).s t:=fun t=>by rw [←bs]
 have fw:∀ {i:Nat} {o:Oper} {t:Nat},i < n→l[i]? = some o→gO l n n i=false→t∈o.looksAt l.toArray++o.dst.toList→cH g 5 (lkp (aM st ((l.take n).take n) (rs.take n)).s t)=true:=fun {i o t} hi ho f_ ht=>by
  rw [←bs];refine mj t ?_;rw [←Ac];unfold xj;refine List.mem_flatMap.2 ⟨i,List.mem_range.2 hi,?_⟩;rw [f_,ho];simpa using ht
 refine sW (Inv:=fun listed a w=>HeadInv .any l.toArray (n+1) listed∧∃ (p:Pl) (s:List (Nat×AV)),Rel M0 w0 N p ⟨s,if listed.getD n false=true then h1 else st.h⟩ a w ∧
   (∀ (j:Nat) (q:Oper) (d:Nat),j < n→listed.getD j false=true→l[j]? = some q→q.dst=some d→lkp s d=pgB g (listed.getD n false) (rs.getD j .any)) ∧
   (∀ t,t≠d→(∀ j q,j < n→l[j]? = some q→q.dst≠some t)→lkp s t=pgB g (listed.getD n false) (lkp st.s t))∧(listed.getD n false=true→lkp s d = .osl g)) hB (fun _ _ _ inv=>inv.1) ?_ ?_ _ _ _ _ ?_ (by simp)
 ·rintro listed a w i o ⟨head,p,s,R,S1,S2,S3⟩ hi a_ ho fx;have aT:l[i]? = some o:=by simpa using ho
  obtain ⟨_,o2,lP,cZ⟩:=mem_ready.1 hi;have:o2=o:=Option.some.inj (lP.symm.trans ho);subst this;have bK:i < listed.size:=by rw [head.size];simpa using (by omega:i < l.length)
  have cn:(listed.setIfInBounds i true).getD i false=true:=by simp [bK]
  have aZ:∀ {j:Nat},i≠j→(listed.setIfInBounds i true).getD j false=listed.getD j false:=fun aq=>getD_set_ne false aq;have bZ:∀ j,Region.waitsFor .any l.toArray i j=true→listed.getD j false=true:=by
   intro j hj;obtain ⟨o3,m_,e,he,hb,cL⟩:=Region.waitsFor_spec hj;have:o3=o2:=Option.some.inj (m_.symm.trans ho);subst this;rw [←cL];exact cZ e he hb
  have qb:∀ t∈o2.looksAt l.toArray,t≠d:=fun t ht he=>by
   subst he;have:=(cG i a_ o2 aT t ht n (Nat.lt_succ_self n) so iy oo.2).2;omega
  have cS:∀ {k:Nat},i≤k→k≤n→∀ t∈o2.looksAt l.toArray,lkp s t=pgB g (listed.getD n false) (lkp (aM st ((l.take n).take k) (rs.take k)).s t):=fun {k} rn lQ t ht=>by
   by_cases hex:∃ (j:Nat) (q:Oper),j < n∧l[j]? = some q∧q.dst=some t
   ·obtain ⟨j,q,hj,hq,aH⟩:=hex;obtain ⟨h1,h2⟩:=cG i a_ o2 aT t ht j (by omega) q hq aH;rw [aY (by omega) lQ hq aH];exact S1 j q t hj (bZ j h1) hq aH
   ·have bz:∀ j q,j < n→l[j]? = some q→q.dst≠some t:=fun j q hj hq he=>hex ⟨j,q,hj,hq,he⟩;rw [aX bz,S2 t (qb t ht) bz]
  have cE:∀ {j:Nat} {q:Oper} {d d':Nat},j < n→j≠i→l[j]? = some q→q.dst=some d→o2.dst=some d'→d'≠d:=fun {j q d d'} hj cT hq aH eb he=>by
   subst he;exact cT (ou dw (i_ (by omega) hq) (i_ a_ aT) aH eb)
  by_cases uI:i=n
  ·subst uI;have:o2=so:=Option.some.inj (aT.symm.trans iy);subst this;have dO:=getD_both fx;rw [dO] at R;simp only [Bool.false_eq_true,if_false] at R;have ky:∀ z:Operand,z∈o2.op.operands→ev ⟨s,(aM st (l.take i) rs).h⟩ z=ev (aM st (l.take i) rs) z:=fun z hz=>by
    cases z with
    | tmp t=>
     show lkp s t=lkp _ t;rw [bs];have:=cS (Nat.le_refl _) (Nat.le_refl _) t (List.mem_append_left _ (List.mem_filterMap.2 ⟨.tmp t,by simpa using hz,rfl⟩));rw [dO] at this;exact this
    | const v=>rfl
    | global g=>rfl
    | func f=>rfl
   have gQ:=QA (s:=s) sO oo.2 (ky x (by rw [sO];simp [Op.operands,Call.operands])) (ky y (by rw [sO];simp [Op.operands,Call.operands])) Dn gT;rw [fc] at gQ;obtain ⟨v,w',p',hh⟩:=GI (P:=P) R (List.all_eq_true.1 hN o2 (List.mem_of_getElem? aT)) gQ;have fin:∀ v p',Rel M0 w0 N p' ⟨(d,.osl g)::s.map (fun q=>(q.1,purge g q.2)),h1⟩ (a.put o2.dst v) w'→(fun a w=>HeadInv .any l.toArray (i+1) (listed.setIfInBounds i true)∧∃ (p:Pl) (s:List (Nat×AV)),Rel M0 w0 N p ⟨s,if (listed.setIfInBounds i true).getD i false=true then h1 else st.h⟩ a w ∧
     (∀ (j:Nat) (q:Oper) (d:Nat),j < i→(listed.setIfInBounds i true).getD j false=true→l[j]? = some q→q.dst=some d→lkp s d=pgB g ((listed.setIfInBounds i true).getD i false) (rs.getD j .any)) ∧
     (∀ t,t≠d→(∀ j q,j < i→l[j]? = some q→q.dst≠some t)→lkp s t=pgB g ((listed.setIfInBounds i true).getD i false) (lkp st.s t))∧((listed.setIfInBounds i true).getD i false=true→lkp s d = .osl g)) (a.put o2.dst v) w':=fun v p' R'=>by
    refine ⟨head.set hi a_,p',_,by rw [cn];exact R',fun j q d' hj hl hq aH=>?_,fun t pf ht=>?_,fun _=>by simp [lkp]⟩
    ·rw [cn,lkp,if_neg (fun e=>mX hj hq aH e.symm),wM];rw [aZ (by omega)] at hl;have:=S1 j q d' hj hl hq aH;rw [dO] at this;rw [this];rfl
    ·rw [cn,lkp,if_neg (fun e=>pf e.symm),wM];have:=S2 t pf ht;rw [dO] at this;rw [this];rfl
   unfold wpOp;simp only [ho];rw [if_pos (by simp [Region.wanted,oo.1])];refine Or.inl ?_;unfold Oper.wp;rcases hh with ⟨h2,h3⟩|⟨h2,_,h3⟩
   ·rw [h2];exact fin _ _ h3
   ·rw [h2];exact fin _ _ h3
  ·have dC:i < n:=by omega
   have ao:=S i o2 (rs.getD i .any) (bf dC aT) (ep dC);have fy:((listed.setIfInBounds i true).getD n false)=listed.getD n false:=aZ uI;have rp:∀ t,o2.dst=some t→pgB g (listed.getD n false) (rs.getD i .any)=rs.getD i .any:=fun t ht=>by
    cases hb:listed.getD n false
    ·rfl
    ·have f_:gO l n n i=false:=by
      cases hc:gO l n n i
      ·rfl
      ·have:=pg head n n i (fun j hj=>by
        obtain ⟨o6,lR,e,he,fI,cL⟩:=Region.waitsFor_spec hj;have:=head.closed n o6 lR hb e he fI;rwa [cL] at this) hc
       rw [getD_both fx] at this;cases this
     have:=fw (t:=t) dC aT f_ (List.mem_append_right _ (by rw [ht];simp));rw [aY dC (Nat.le_refl _) aT ht] at this;exact Dm this
   have fin:∀ v w',V1 w' (Mof M0 (if listed.getD n false=true then h1 else st.h) p) (if listed.getD n false=true then h1 else st.h) p (rs.getD i .any) v→Below w.heap.size w w'→(fun listed a w=>HeadInv .any l.toArray (n+1) listed∧∃ (p:Pl) (s:List (Nat×AV)),Rel M0 w0 N p ⟨s,if listed.getD n false=true then h1 else st.h⟩ a w ∧
     (∀ (j:Nat) (q:Oper) (d:Nat),j < n→listed.getD j false=true→l[j]? = some q→q.dst=some d→lkp s d=pgB g (listed.getD n false) (rs.getD j .any)) ∧
     (∀ t,t≠d→(∀ j q,j < n→l[j]? = some q→q.dst≠some t)→lkp s t=pgB g (listed.getD n false) (lkp st.s t))∧(listed.getD n false=true→lkp s d = .osl g)) (listed.setIfInBounds i true) (a.put o2.dst v) w':=fun v w' hv hb=>by
    have R':=(R.later hb).put (d:=o2.dst) (dZ (List.all_eq_true.1 hN o2 (List.mem_of_getElem? aT))) hv;have cJ:(VS.put ⟨s,if listed.getD n false=true then h1 else st.h⟩ o2.dst (rs.getD i .any))=⟨(VS.put ⟨s,if listed.getD n false=true then h1 else st.h⟩ o2.dst (rs.getD i .any)).s,if listed.getD n false=true then h1 else st.h⟩:=by cases o2.dst<;>rfl
    rw [cJ] at R';refine ⟨head.set hi a_,p,_,by rw [fy];exact R',fun j q d hj hl hq aH=>?_,fun t pf ht=>?_,fun hl=>?_⟩
    ·rw [gP,fy];by_cases cT:j=i
     ·subst cT;have:q=o2:=Option.some.inj (hq.symm.trans aT);subst this;rw [if_pos aH,rp d aH]
     ·rw [if_neg fun e=>cE hj cT hq aH e rfl];rw [aZ (Ne.symm cT)] at hl;exact S1 j q d hj hl hq aH
    ·rw [gP,if_neg (ht i o2 dC aT),fy];exact S2 t pf ht
    ·rw [fy] at hl;rw [gP,if_neg fun e=>mX dC aT e rfl];exact S3 hl
   have na:∀ t∈o2.looksAt l.toArray,lkp s t=lkp (aM st ((l.take n).take i) (rs.take i)).s t:=fun t ht=>by
    have h2:=cS (Nat.le_refl i) (by omega) t ht;have h3:=cS (show i≤n by omega) (Nat.le_refl n) t ht;cases hb:listed.getD n false
    ·rw [hb] at h2;exact h2
    ·have f_:gO l n n i=false:=by
      cases hc:gO l n n i
      ·rfl
      ·have:=pg head n n i (fun j hj=>by
        obtain ⟨o6,lR,e,he,fI,cL⟩:=Region.waitsFor_spec hj;have:=head.closed n o6 lR hb e he fI;rwa [cL] at this) hc
       rw [getD_both fx] at this;cases this
     have bz:=fw dC aT f_ (List.mem_append_left _ ht);rw [hb] at h2 h3;by_cases hex:∃ (j:Nat) (q:Oper),j < n∧l[j]? = some q∧q.dst=some t
     ·obtain ⟨j,q,hj,hq,aH⟩:=hex;obtain ⟨_,h5⟩:=cG i a_ o2 aT t ht j (by omega) q hq aH;rw [aY hj (Nat.le_refl _) hq aH] at bz;rw [aY h5 (by omega) hq aH] at h2 ⊢;rw [h2];exact Dm bz
     ·have h_:∀ j q,j < n→l[j]? = some q→q.dst≠some t:=fun j q hj hq he=>hex ⟨j,q,hj,hq,he⟩;rw [aX h_] at bz;rw [aX h_] at h2 ⊢;rw [h2];exact Dm bz
   have b8:fT P st.h (ev (aM st ((l.take n).take i) (rs.take i))) o2.op (rs.getD i .any)→gives P o2 a w fun v w''=>V1 w'' (Mof M0 (if listed.getD n false=true then h1 else st.h) p) (if listed.getD n false=true then h1 else st.h) p (rs.getD i .any) v∧Below w.heap.size w w'':=by
    intro hg;have fR:fT P (if listed.getD n false=true then h1 else st.h) (ev (aM st ((l.take n).take i) (rs.take i))) o2.op (rs.getD i .any):=by
     split
     ·rename_i lS;have h2:=List.all_eq_true.1 hL i (List.mem_range.2 dC);simp only [aT,Bool.or_eq_true] at h2;rcases h2 with h2|h2
      ·have:=pg head n n i (fun j hj=>by
        obtain ⟨o6,lR,e,he,fI,cL⟩:=Region.waitsFor_spec hj;have:=head.closed n o6 lR lS e he fI;rwa [cL] at this) h2
       rw [getD_both fx] at this;cases this
      ·exact Qx h2 hg
     ·exact hg
    refine pj R.objs R.mok R.h0 R.glob (fun _ _ hb=>.inl hb) (fun x hx=>?_) fR;cases x with
    | tmp t=>
     show V1 _ _ _ _ (lkp (aM st ((l.take n).take i) (rs.take i)).s t) _;rw [←na t (List.mem_append_left _ (List.mem_filterMap.2 ⟨.tmp t,by simpa using hx,rfl⟩))];exact R.slots t
    | const v=>exact .base _ _ (.lit v)
    | global g=>exact .base _ _ (R.evalG g)
    | func f=>exact .base _ _ (.lit _)
   have hy:=fun j=>pa (ops:=l) (j:=j) R hN;have b9:∀ (j:Nat) (want:Bool) (v:Value),o2.guard=some (j,want)→cY l (aM st ((l.take n).take i) (rs.take i)) j = .lit v→cY l ⟨s,if listed.getD n false=true then h1 else st.h⟩ j = .lit v:=by
    intro j want v hg hv;unfold cY at hv ⊢;cases hj:l[j]? with
    | none=>simpa [hj] using hv
    | some q=>
     cases hq:q.dst with
     | none=>simpa [hj,hq] using hv
     | some d=>
      have ec:d∈o2.looksAt l.toArray:=by
       unfold Oper.looksAt;refine List.mem_append_right _ ?_;simp [hg,hj,hq]
      simp only [hj,hq] at hv ⊢;rw [na d ec];exact hv
   unfold wpOp;simp only [ho];unfold kz at ao;split at ao
   ·rename_i hg;rw [if_pos (by simp [Region.wanted,hg])];rw [fc] at ao;exact Or.inl (kA (b8 ao) rfl fun v w' hv=>fin v w' hv.1 hv.2)
   ·rename_i j want hg;split at ao
    ·rename_i b hb;have fA:=(hy j).1 b (b9 j want _ hg hb);split at ao
     ·rename_i hw;subst hw;rw [if_pos (by simp [Region.wanted,hg,fA])];rw [fc] at ao;exact Or.inl (kA (b8 ao) rfl fun v w' hv=>fin v w' hv.1 hv.2)
     ·rename_i hw;rw [if_neg (by simpa [Region.wanted,hg,fA] using hw)];exact fin undef w (by rw [ao];exact .base _ _ (.lit _)) (Below.refl _ _)
    ·rename_i us hb;have fA:=(hy j).2 us (b9 j want _ hg hb);rw [if_neg (by simp [Region.wanted,hg,fA])];exact fin undef w (by rw [ao];exact .base _ _ (.lit _)) (Below.refl _ _)
    ·exact ao.elim
 ·rintro listed a w ⟨head,p,s,R,S1,S2,S3⟩ aD;rw [aD n (by omega)] at R;simp only [if_true] at R;rw [aD n (by omega)] at S1 S2 S3;have R':=R.weak (s':=(d,.osl g)::(aM st (l.take n) rs).s.map (fun q=>(q.1,purge g q.2))) fun t=>by
   show lkp ((d,.osl g)::(aM st (l.take n) rs).s.map (fun q=>(q.1,purge g q.2))) t=lkp s t∨_;refine .inl ?_;rw [lkp];split
   ·rename_i he;subst he;exact (S3 rfl).symm
   ·rename_i he;rw [wM,bs];by_cases hex:∃ (j:Nat) (q:Oper),j < n∧l[j]? = some q∧q.dst=some t
    ·obtain ⟨j,q,hj,hq,aH⟩:=hex;rw [aY hj (Nat.le_refl _) hq aH];exact (S1 j q t hj (aD j (by omega)) hq aH).symm
    ·have bz:∀ j q,j < n→l[j]? = some q→q.dst≠some t:=fun j q hj hq he=>hex ⟨j,q,hj,hq,he⟩;rw [aX bz,S2 t (fun e=>he e.symm) bz];rfl
  have ix:(l.drop (n+1)).all (cR N)=true:=List.all_eq_true.2 fun q hq=>List.all_eq_true.1 hN q (List.mem_of_mem_drop hq);exact mS (ow:=ow) hN (fun p st a w R h=>⟨st,p,R,h⟩) (l.drop (n+1)) p _ _ w ix R' hK
 ·refine ⟨⟨by simp,fun j oj _ hl=>(by rw [getD_replicate_false] at hl;cases hl),fun t _ ht=>getD_in (by simpa using ht) (getD_replicate_false _ _)⟩,p0,st.s,?_,fun j q d _ hl=>(by rw [getD_replicate_false] at hl;cases hl),fun _ _ _=>by rw [getD_replicate_false];rfl,fun hl=>(by rw [getD_replicate_false] at hl;cases hl)⟩;rw [getD_replicate_false];exact R0.later (Below.refl _ _).drew
end
section
variable {P:Program} {M0:Nat→Nat→Prop} {w0:Bas} {N:Nm} {p:Pl} {st:VS} {a:Act} {w:World} {Q:Exit→VS→Prop}
end
end Go.Proofs.YtoibondihdhnoaaGreatDoor
