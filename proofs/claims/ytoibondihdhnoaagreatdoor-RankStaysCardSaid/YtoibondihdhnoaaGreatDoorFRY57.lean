/- Texts in one: Arguments that came in, as plain values: of every program; no condition. -/
import Derived.Test.YtoibondihdhnoaaGreatDoorFRY5
import Derived.ProofKit
import Derived.OpenShut
import Derived.ShutString
import Derived.ChangeOld
import Derived.Below
import Derived.Deep.Slices
import Derived.Deep.Fields
namespace Go.Proofs.YtoibondihdhnoaaGreatDoor
open Go.ChangeShapes Go.WideShapes Go.ChangeAt Go.RowKit Go.Deep
def Cells0 (w:World) (Db:List AV) (cs:List Value) : Prop:=
 cs.length=Db.length∧(∀ c∈Db,cQ c=true)∧∀ (i:Nat) (c:AV) (u:Value),Db[i]? = some c→cs[i]? = some u→V0 w (fun _ _=>False) c u
section
variable {H:Type} {enc:TypeId×Value→H} {P:Program} {w:World} {base:Nat} {spare:Nat→Bool} {held:Bool}
def Opens (enc:TypeId×Value→H) (P:Program) (w:World) (base:Nat) (spare:Nat→Bool) (held:Bool) (t:TypeId) {α:Type} (F:α→List AV) (good:α→Prop) : Prop:=
 ∀ (fuel:Nat) (cs:List Value) (x:DataW H×List MemPlace),DataW.trod enc P w base spare held fuel t cs=some x→∃ a,good a∧Cells0 w (F a) cs
theorem Cells0.one {c:AV} {u:Value} (h1:cQ c=true) (hv:V0 w (fun _ _=>False) c u) : Cells0 w [c] [u]:=
 ⟨rfl,by simpa using h1,fun i c' u' hc hu=>by
  cases i with
  | zero=>simp at hc hu;subst hc;subst hu;exact hv
  | succ i=>simp at hc⟩
theorem O4 {t:TypeId} {k:IntKind} (ht:P.underlying t=some (.int k)) : Opens enc P w base spare held t (fun n=>[.lit (.int k n)]) (fun n=>(Lit.int k n).wf=true):=fun fuel cs x h=>by
 obtain ⟨n,e,_,hw⟩:=DataW.trod_int ht h;subst e;exact ⟨n,hw,Cells0.one rfl (.lit _)⟩
theorem O5 {t:TypeId} (ht:P.underlying t=some .string) : Opens enc P w base spare held t (fun s=>[.lit (.string s)]) (fun s=>s.size≤maxLen):=fun fuel cs x h=>by
 obtain ⟨s,e,_,hs⟩:=DataW.trod_string ht h;subst e;exact ⟨s,hs,Cells0.one rfl (.lit _)⟩
theorem O6 {t:TypeId} (ht:P.underlying t=some .bool) : Opens enc P w base spare held t (fun b=>[.lit (.bool b)]) (fun _=>True):=fun fuel cs x h=>by
 obtain ⟨b,e,_⟩:=DataW.trod_bool ht h;subst e;exact ⟨b,trivial,Cells0.one rfl (.lit _)⟩
theorem Opens.map {t:TypeId} {α β:Type} {F:α→List AV} {G:β→List AV} {good:α→Prop} {good':β→Prop} (h:Opens enc P w base spare held t F good) (f:α→β) (hF:∀ a,F a=G (f a)) (hg:∀ a,good a→good' (f a)) : Opens enc P w base spare held t G good':=fun fuel cs x hx=>by
 obtain ⟨a,ha,hc⟩:=h fuel cs x hx;exact ⟨f a,hg a ha,by rwa [←hF]⟩
theorem Hu {t e:TypeId} {α:Type} {F:α→List AV} {good:α→Prop} [Inhabited α] {sz:Nat} (ht:P.underlying t=some (.slice e)) (aM:P.cellsOf e=sz) (cH:0 < sz) (he:Opens enc P w base spare held e F good) :
  Opens enc P w base spare held t (fun l:List α=>[.sl sz (l.map F)]) (fun l:List α=>l.length≤maxLen∧∀ a∈l,good a):=fun fuel cs x h=>by
 subst aM;rcases open_slice ht h with ⟨bW,_⟩|⟨ad,len',dn,m,n,D,Pl,bW,_,hl,hm,oY,_,hi⟩
 ·subst bW;exact ⟨[],⟨Nat.zero_le _,by simp⟩,Cells0.one rfl (.slNil _ _ _)⟩
 ·subst bW;have hle:len'≤m:=by rw [oY];split<;>omega
  have hex:∀ i,i < len'→∃ a:α,good a∧∃ dI:List Value,Cells0 w (F a) dI∧dI.length=P.cellsOf e∧∀ j v,dI[j]? = some v→w.cell? (ad.add (i*P.cellsOf e+j))=some v:=fun i cu=>by
   obtain ⟨dI,hc,ht⟩:=hi i (by omega);obtain ⟨a,ha,zL⟩:=he _ _ _ ht;obtain ⟨_,hlen,bm⟩:=World.cells?_some hc;refine ⟨a,ha,dI,zL,hlen,fun j v hv=>?_⟩;have hj:j < P.cellsOf e:=by rw [←hlen];exact (List.getElem?_eq_some_iff.1 hv).1
   rw [←Go.Deep.add_add,bm j hj,hv]
  have Dc:∃ f:Nat→α,∀ i,i < len'→good (f i)∧∃ dI:List Value,Cells0 w (F (f i)) dI∧dI.length=P.cellsOf e∧∀ j v,dI[j]? = some v→w.cell? (ad.add (i*P.cellsOf e+j))=some v:=
   ⟨fun i=>if h:i < len' then (hex i h).choose else default,fun i cu=>by simp only [dif_pos cu];exact (hex i cu).choose_spec⟩
  obtain ⟨f,hf⟩:=Dc;refine ⟨(List.range len').map f,⟨by simp;omega,fun r hr=>?_⟩,Cells0.one rfl ?_⟩
  ·obtain ⟨i,bJ,rfl⟩:=List.mem_map.1 hr;exact (hf i (List.mem_range.1 bJ)).1
  ·by_cases h0:len'=0
   ·subst h0;exact .slNil _ _ _
   ·have aE:∀ i j,i < len'→j < P.cellsOf e→∃ v,w.cell? (ad.add (i*P.cellsOf e+j))=some v:=fun i j cu hj=>by
     obtain ⟨_,dI,_,hlen,bm⟩:=hf i cu;have eM:j < dI.length:=by rw [hlen];exact hj
     exact ⟨_,bm j _ (List.getElem?_eq_getElem eM)⟩
    obtain ⟨v0,cR⟩:=aE 0 0 (by omega) cH;obtain ⟨b,o,spot⟩:=ad;have wX:spot=none:=World.cell?_spot (a:=⟨b,o,spot⟩) (by simpa [Addr.add] using cR);subst wX;have sU:∀ n,(⟨b,o,none⟩ : Addr).add n=⟨b,o+n,none⟩:=fun n=>jn b o n;have hb:b < w.heap.size:=by
     rw [sU] at cR;exact World.block_lt_of_cell? w _ cR
    have db:∀ (k:Nat) (x:List AV),(((List.range len').map f).map F)[k]? = some x→k < len'∧x=F (f k):=fun k x hk=>by
     obtain ⟨y,hy,rfl⟩:=ea hk;obtain ⟨z,hz,rfl⟩:=ea hy;have ca:k < len':=by simpa using (List.getElem?_eq_some_iff.1 hz).1
     have:k=z:=by simpa using (List.getElem?_eq_some_iff.1 hz).2
     subst this;exact ⟨ca,rfl⟩
    have key:=V0.sl (w:=w) (M:=fun _ _=>False) (P.cellsOf e) (((List.range len').map f).map F) dn b o (fun k j=>(w.cell? ⟨b,o+k*P.cellsOf e+j,none⟩).getD undef) (by simp;omega) hb (fun _ _ _ _ h=>h) (by simp;omega) (fun k x hk=>by
      obtain ⟨ca,rfl⟩:=db k x hk;obtain ⟨_,dI,hc,hlen,_⟩:=hf k ca;rw [←hc.1,hlen]) (fun k x j c hk hj=>by
      obtain ⟨ca,rfl⟩:=db k x hk;obtain ⟨_,dI,hc,_⟩:=hf k ca;exact hc.2.1 c (List.mem_of_getElem? hj)) (fun k j hk hj=>by
      obtain ⟨v,hv⟩:=aE k j (by simpa using hk) hj;rw [sU,←Nat.add_assoc] at hv;rw [hv];rfl) (fun k x j c hk hj=>by
      obtain ⟨ca,rfl⟩:=db k x hk;obtain ⟨_,dI,hc,hlen,bm⟩:=hf k ca;have eM:j < dI.length:=by rw [hc.1];exact (List.getElem?_eq_some_iff.1 hj).1
      have:=bm j _ (List.getElem?_eq_getElem eM);rw [sU,←Nat.add_assoc] at this;rw [this];exact hc.2.2 j c _ hj (List.getElem?_eq_getElem eM))
    simpa using key
def zM (enc:TypeId×Value→H) (P:Program) (w:World) (base:Nat) (spare:Nat→Bool) (held:Bool) (fs:List (Nat×TypeId)) (o n:Nat) {α:Type} (F:α→List AV) (good:α→Prop) : Prop:=
 ∀ (cs:List Value),o+n≤cs.length→(∀ f∈fs,∃ fuel x,DataW.trod enc P w base spare held fuel f.2 ((cs.drop f.1).take (P.cellsOf f.2))=some x)→∃ a,good a∧Cells0 w (F a) ((cs.drop o).take n)
theorem Dd (o:Nat) : zM enc P w base spare held [] o 0 (fun _:Unit=>[]) (fun _=>True):=fun cs _ _=>⟨(),trivial,by simp [Cells0]⟩
theorem od {fs:List (Nat×TypeId)} {o n k:Nat} {t:TypeId} {α β:Type} {F:α→List AV} {G:β→List AV} {good:α→Prop} {good':β→Prop} (hk:P.cellsOf t=k) (ht:Opens enc P w base spare held t F good) (hr:zM enc P w base spare held fs (o+k) n G good') :
  zM enc P w base spare held ((o,t)::fs) o (k+n) (fun q:α×β=>F q.1++G q.2) (fun q=>good q.1∧good' q.2):=fun cs hl hh=>by
 obtain ⟨fuel,x,hx⟩:=hh (o,t) (List.mem_cons_self ..);rw [hk] at hx;obtain ⟨a,ha,re,gr,oV⟩:=ht _ _ _ hx;obtain ⟨b,hb,rp,dT,gK⟩:=hr cs (by omega) fun f hf=>hh f (List.mem_cons_of_mem _ hf);have ez:(cs.drop o).take (k+n)=(cs.drop o).take k++(cs.drop (o+k)).take n:=by
  rw [List.take_add,List.drop_drop]
 have cC:((cs.drop o).take k).length=k:=by simp;omega
 have O7:(F a).length=k:=by rw [←re,cC]
 refine ⟨(a,b),⟨ha,hb⟩,?_⟩;rw [ez];refine ⟨by simp only [List.length_append];rw [re,rp],fun c hc=>?_,fun i c u hi hu=>?_⟩
 ·rcases List.mem_append.1 hc with h|h
  ·exact gr c h
  ·exact dT c h
 ·rcases Nat.lt_or_ge i k with aq|dr
  ·rw [List.getElem?_append_left (by show i < (F a).length;omega)] at hi;rw [List.getElem?_append_left (by omega)] at hu;exact oV i c u hi hu
  ·rw [List.getElem?_append_right (by show (F a).length≤i;omega)] at hi;rw [List.getElem?_append_right (by omega)] at hu;rw [show (F (a,b).1).length=k from O7] at hi;rw [cC] at hu;exact gK _ c u hi hu
theorem De {t:TypeId} {fds:Array Field} {fs:List (Nat×TypeId)} {n:Nat} {α:Type} {F:α→List AV} {good:α→Prop} (ht:P.underlying t=some (.struct fds)) (hf:fds.toList.map (fun f=>(f.offset,f.type))=fs) (hn:P.cellsOf t=n) (h:zM enc P w base spare held fs 0 n F good) :
  Opens enc P w base spare held t F good:=fun fuel cs x hx=>by
 obtain ⟨xs,m,_,_,hlen,dV,cM⟩:=DataW.trod_struct ht hx;rw [hn] at hlen;obtain ⟨a,ha,hc⟩:=h cs (by omega) fun f rU=>by
  rw [←hf] at rU;obtain ⟨fd,nv,rfl⟩:=List.mem_map.1 rU;obtain ⟨i,hi,he⟩:=List.getElem_of_mem nv;have br:fds[i]? = some fd:=by rw [←he];simp at hi ⊢
  have:=cM i fd (by simpa using br);have lM:i < xs.length:=by rw [dV];simpa using hi
  rw [List.getElem?_eq_getElem lM] at this;exact ⟨m,xs[i],this⟩
 refine ⟨a,ha,?_⟩;rw [List.drop_zero,List.take_of_length_le (by omega)] at hc;exact hc
theorem O8 {t:TypeId} {α:Type} {F:α→List AV} {good:α→Prop} {r:Reach} {b0:Nat} {v:Value} {d:DataW H} {p:List MemPlace} (se:mC P t=true) (ho:Opens enc P w base spare held t F good) (hv:Value.okWide P w r b0 t v) (h:DataW.Trod enc P w base spare held t v d p) :
  ∃ a,good a∧V0 w (fun _ _=>False) (.agg (F a)) v:=by
 have bW:∃ cs,v = .agg cs:=by
  unfold Value.okWide at hv;unfold mC at se;split at hv
  ·obtain ⟨cs,h,_⟩:=hv;exact ⟨cs,h⟩
  ·obtain ⟨cs,h,_⟩:=hv;exact ⟨cs,h⟩
  ·rename_i h1 h2;split at se
   ·rename_i fs he;exact absurd he (h1 fs)
   ·rename_i n e he;exact absurd he (h2 n e)
   ·cases se
 obtain ⟨cs,rfl⟩:=bW;obtain ⟨fuel,hf⟩:=h;obtain ⟨a,ha,re,gr,oV⟩:=ho _ _ _ hf;refine ⟨a,ha,?_⟩;have:=V0.agg (w:=w) (M:=fun _ _=>False) (F a) cs.toList (by simpa [Value.cells] using re) gr (by simpa [Value.cells] using oV);simpa using this
theorem Hv {t:TypeId} {α:Type} {f:α→AV} {good:α→Prop} {v:Value} {d:DataW H} {p:List MemPlace} (ho:Opens enc P w base spare held t (fun a=>[f a]) good) (hv:v.cells=#[v]) (h:DataW.Trod enc P w base spare held t v d p) : ∃ a,good a∧V0 w (fun _ _=>False) (f a) v:=by
 obtain ⟨fuel,hf⟩:=h;rw [hv] at hf;obtain ⟨a,ha,_,_,oV⟩:=ho _ _ _ hf;exact ⟨a,ha,oV 0 _ _ rfl rfl⟩
theorem O9 {t e:TypeId} {r:Reach} {b0:Nat} {v:Value} (ht:P.underlying t=some (.slice e)) (hv:Value.okWide P w r b0 t v) : v.cells=#[v]:=by obtain ⟨a,b,c,rfl⟩:=okWide_slice ht hv;rfl
theorem O_ {t:TypeId} {k:IntKind} {r:Reach} {b0:Nat} {v:Value} (ht:P.underlying t=some (.int k)) (hv:Value.okWide P w r b0 t v) : v.cells=#[v]:=by obtain ⟨a,rfl⟩:=okWide_int ht hv;rfl
end
end Go.Proofs.YtoibondihdhnoaaGreatDoor
