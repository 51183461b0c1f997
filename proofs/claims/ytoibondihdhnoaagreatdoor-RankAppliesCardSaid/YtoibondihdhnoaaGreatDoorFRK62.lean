/- Texts in one: Arguments that came in, as plain values: of every program; no condition. -/
import Derived.Test.YtoibondihdhnoaaGreatDoorFRK6
import Derived.ProofKit
import Derived.OpenShut
import Derived.ShutString
import Derived.ChangeOld
import Derived.Below
import Derived.Deep.Slices
import Derived.Deep.Fields
namespace Go.Proofs.YtoibondihdhnoaaGreatDoor
open Go.ChangeShapes Go.WideShapes Go.ChangeAt Go.RowKit Go.Deep
def Cells0 (w:World) (C8:List AV) (cs:List Value) : Prop:=
 cs.length=C8.length∧(∀ c∈C8,cV c=true)∧∀ (i:Nat) (c:AV) (u:Value),C8[i]? = some c→cs[i]? = some u→V0 w (fun _ _=>False) c u
section
variable {H:Type} {enc:TypeId×Value→H} {P:Program} {w:World} {base:Nat} {spare:Nat→Bool} {held:Bool}
def Opens (enc:TypeId×Value→H) (P:Program) (w:World) (base:Nat) (spare:Nat→Bool) (held:Bool) (t:TypeId) {α:Type} (F:α→List AV) (good:α→Prop) : Prop:=
 ∀ (fuel:Nat) (cs:List Value) (x:DataW H×List MemPlace),DataW.trod enc P w base spare held fuel t cs=some x→∃ a,good a∧Cells0 w (F a) cs
theorem Cells0.one {c:AV} {u:Value} (h1:cV c=true) (hv:V0 w (fun _ _=>False) c u) : Cells0 w [c] [u]:=
 ⟨rfl,by simpa using h1,fun i c' u' hc hu=>by
  cases i with
  | zero=>simp at hc hu;subst hc;subst hu;exact hv
  | succ i=>simp at hc⟩
theorem O_ {t:TypeId} {k:IntKind} (ht:P.underlying t=some (.int k)) : Opens enc P w base spare held t (fun n=>[.lit (.int k n)]) (fun n=>(Lit.int k n).wf=true):=fun fuel cs x h=>by
 obtain ⟨n,e,_,hw⟩:=DataW.trod_int ht h;subst e;exact ⟨n,hw,Cells0.one rfl (.lit _)⟩
theorem Pb {t:TypeId} (ht:P.underlying t=some .string) : Opens enc P w base spare held t (fun s=>[.lit (.string s)]) (fun s=>s.size≤maxLen):=fun fuel cs x h=>by
 obtain ⟨s,e,_,hs⟩:=DataW.trod_string ht h;subst e;exact ⟨s,hs,Cells0.one rfl (.lit _)⟩
theorem Pc {t:TypeId} (ht:P.underlying t=some .bool) : Opens enc P w base spare held t (fun b=>[.lit (.bool b)]) (fun _=>True):=fun fuel cs x h=>by
 obtain ⟨b,e,_⟩:=DataW.trod_bool ht h;subst e;exact ⟨b,trivial,Cells0.one rfl (.lit _)⟩
theorem Opens.map {t:TypeId} {α β:Type} {F:α→List AV} {G:β→List AV} {good:α→Prop} {good':β→Prop} (h:Opens enc P w base spare held t F good) (f:α→β) (hF:∀ a,F a=G (f a)) (hg:∀ a,good a→good' (f a)) : Opens enc P w base spare held t G good':=fun fuel cs x hx=>by
 obtain ⟨a,ha,hc⟩:=h fuel cs x hx;exact ⟨f a,hg a ha,by rwa [←hF]⟩
theorem zB {t e:TypeId} {α:Type} {F:α→List AV} {good:α→Prop} [Inhabited α] {sz:Nat} (ht:P.underlying t=some (.slice e)) (aL:P.cellsOf e=sz) (cu:0 < sz) (he:Opens enc P w base spare held e F good) :
  Opens enc P w base spare held t (fun l:List α=>[.sl sz (l.map F)]) (fun l:List α=>l.length≤maxLen∧∀ a∈l,good a):=fun fuel cs x h=>by
 subst aL;rcases open_slice ht h with ⟨bM,_⟩|⟨ad,len',dy,m,n,D,Pl,bM,_,hl,hm,pA,_,hi⟩
 ·subst bM;exact ⟨[],⟨Nat.zero_le _,by simp⟩,Cells0.one rfl (.slNil _ _ _)⟩
 ·subst bM;have hle:len'≤m:=by rw [pA];split<;>omega
  have hex:∀ i,i < len'→∃ a:α,good a∧∃ dU:List Value,Cells0 w (F a) dU∧dU.length=P.cellsOf e∧∀ j v,dU[j]? = some v→w.cell? (ad.add (i*P.cellsOf e+j))=some v:=fun i cC=>by
   obtain ⟨dU,hc,ht⟩:=hi i (by omega);obtain ⟨a,ha,Pd⟩:=he _ _ _ ht;obtain ⟨_,hlen,bb⟩:=World.cells?_some hc;refine ⟨a,ha,dU,Pd,hlen,fun j v hv=>?_⟩;have hj:j < P.cellsOf e:=by rw [←hlen];exact (List.getElem?_eq_some_iff.1 hv).1
   rw [←Go.Deep.add_add,bb j hj,hv]
  have C9:∃ f:Nat→α,∀ i,i < len'→good (f i)∧∃ dU:List Value,Cells0 w (F (f i)) dU∧dU.length=P.cellsOf e∧∀ j v,dU[j]? = some v→w.cell? (ad.add (i*P.cellsOf e+j))=some v:=
   ⟨fun i=>if h:i < len' then (hex i h).choose else default,fun i cC=>by simp only [dif_pos cC];exact (hex i cC).choose_spec⟩
  obtain ⟨f,hf⟩:=C9;refine ⟨(List.range len').map f,⟨by simp;omega,fun r hr=>?_⟩,Cells0.one rfl ?_⟩
  ·obtain ⟨i,bV,rfl⟩:=List.mem_map.1 hr;exact (hf i (List.mem_range.1 bV)).1
  ·by_cases h0:len'=0
   ·subst h0;exact .slNil _ _ _
   ·have aD:∀ i j,i < len'→j < P.cellsOf e→∃ v,w.cell? (ad.add (i*P.cellsOf e+j))=some v:=fun i j cC hj=>by
     obtain ⟨_,dU,_,hlen,bb⟩:=hf i cC;have eY:j < dU.length:=by rw [hlen];exact hj
     exact ⟨_,bb j _ (List.getElem?_eq_getElem eY)⟩
    obtain ⟨v0,cz⟩:=aD 0 0 (by omega) cu;obtain ⟨b,o,spot⟩:=ad;have wX:spot=none:=World.cell?_spot (a:=⟨b,o,spot⟩) (by simpa [Addr.add] using cz);subst wX;have sU:∀ n,(⟨b,o,none⟩ : Addr).add n=⟨b,o+n,none⟩:=fun n=>jk b o n;have hb:b < w.heap.size:=by
     rw [sU] at cz;exact World.block_lt_of_cell? w _ cz
    have dn:∀ (k:Nat) (x:List AV),(((List.range len').map f).map F)[k]? = some x→k < len'∧x=F (f k):=fun k x hk=>by
     obtain ⟨y,hy,rfl⟩:=dT hk;obtain ⟨z,hz,rfl⟩:=dT hy;have cF:k < len':=by simpa using (List.getElem?_eq_some_iff.1 hz).1
     have:k=z:=by simpa using (List.getElem?_eq_some_iff.1 hz).2
     subst this;exact ⟨cF,rfl⟩
    have key:=V0.sl (w:=w) (M:=fun _ _=>False) (P.cellsOf e) (((List.range len').map f).map F) dy b o (fun k j=>(w.cell? ⟨b,o+k*P.cellsOf e+j,none⟩).getD undef) (by simp;omega) hb (fun _ _ _ _ h=>h) (by simp;omega) (fun k x hk=>by
      obtain ⟨cF,rfl⟩:=dn k x hk;obtain ⟨_,dU,hc,hlen,_⟩:=hf k cF;rw [←hc.1,hlen]) (fun k x j c hk hj=>by
      obtain ⟨cF,rfl⟩:=dn k x hk;obtain ⟨_,dU,hc,_⟩:=hf k cF;exact hc.2.1 c (List.mem_of_getElem? hj)) (fun k j hk hj=>by
      obtain ⟨v,hv⟩:=aD k j (by simpa using hk) hj;rw [sU,←Nat.add_assoc] at hv;rw [hv];rfl) (fun k x j c hk hj=>by
      obtain ⟨cF,rfl⟩:=dn k x hk;obtain ⟨_,dU,hc,hlen,bb⟩:=hf k cF;have eY:j < dU.length:=by rw [hc.1];exact (List.getElem?_eq_some_iff.1 hj).1
      have:=bb j _ (List.getElem?_eq_getElem eY);rw [sU,←Nat.add_assoc] at this;rw [this];exact hc.2.2 j c _ hj (List.getElem?_eq_getElem eY))
    simpa using key
def zC (enc:TypeId×Value→H) (P:Program) (w:World) (base:Nat) (spare:Nat→Bool) (held:Bool) (fs:List (Nat×TypeId)) (o n:Nat) {α:Type} (F:α→List AV) (good:α→Prop) : Prop:=
 ∀ (cs:List Value),o+n≤cs.length→(∀ f∈fs,∃ fuel x,DataW.trod enc P w base spare held fuel f.2 ((cs.drop f.1).take (P.cellsOf f.2))=some x)→∃ a,good a∧Cells0 w (F a) ((cs.drop o).take n)
theorem wY (o:Nat) : zC enc P w base spare held [] o 0 (fun _:Unit=>[]) (fun _=>True):=fun cs _ _=>⟨(),trivial,by simp [Cells0]⟩
theorem kp {fs:List (Nat×TypeId)} {o n k:Nat} {t:TypeId} {α β:Type} {F:α→List AV} {G:β→List AV} {good:α→Prop} {good':β→Prop} (hk:P.cellsOf t=k) (ht:Opens enc P w base spare held t F good) (hr:zC enc P w base spare held fs (o+k) n G good') :
  zC enc P w base spare held ((o,t)::fs) o (k+n) (fun q:α×β=>F q.1++G q.2) (fun q=>good q.1∧good' q.2):=fun cs hl hh=>by
 obtain ⟨fuel,x,hx⟩:=hh (o,t) (List.mem_cons_self ..);rw [hk] at hx;obtain ⟨a,ha,o7,gD,o8⟩:=ht _ _ _ hx;obtain ⟨b,hb,uX,dY,gV⟩:=hr cs (by omega) fun f hf=>hh f (List.mem_cons_of_mem _ hf);have eE:(cs.drop o).take (k+n)=(cs.drop o).take k++(cs.drop (o+k)).take n:=by
  rw [List.take_add,List.drop_drop]
 have cn:((cs.drop o).take k).length=k:=by simp;omega
 have Pe:(F a).length=k:=by rw [←o7,cn]
 refine ⟨(a,b),⟨ha,hb⟩,?_⟩;rw [eE];refine ⟨by simp only [List.length_append];rw [o7,uX],fun c hc=>?_,fun i c u hi hu=>?_⟩
 ·rcases List.mem_append.1 hc with h|h
  ·exact gD c h
  ·exact dY c h
 ·rcases Nat.lt_or_ge i k with aq|du
  ·rw [List.getElem?_append_left (by show i < (F a).length;omega)] at hi;rw [List.getElem?_append_left (by omega)] at hu;exact o8 i c u hi hu
  ·rw [List.getElem?_append_right (by show (F a).length≤i;omega)] at hi;rw [List.getElem?_append_right (by omega)] at hu;rw [show (F (a,b).1).length=k from Pe] at hi;rw [cn] at hu;exact gV _ c u hi hu
theorem wZ {t:TypeId} {fds:Array Field} {fs:List (Nat×TypeId)} {n:Nat} {α:Type} {F:α→List AV} {good:α→Prop} (ht:P.underlying t=some (.struct fds)) (hf:fds.toList.map (fun f=>(f.offset,f.type))=fs) (hn:P.cellsOf t=n) (h:zC enc P w base spare held fs 0 n F good) :
  Opens enc P w base spare held t F good:=fun fuel cs x hx=>by
 obtain ⟨xs,m,_,_,hlen,eo,dh⟩:=DataW.trod_struct ht hx;rw [hn] at hlen;obtain ⟨a,ha,hc⟩:=h cs (by omega) fun f rU=>by
  rw [←hf] at rU;obtain ⟨fd,vE,rfl⟩:=List.mem_map.1 rU;obtain ⟨i,hi,he⟩:=List.getElem_of_mem vE;have bA:fds[i]? = some fd:=by rw [←he];simp at hi ⊢
  have:=dh i fd (by simpa using bA);have lQ:i < xs.length:=by rw [eo];simpa using hi
  rw [List.getElem?_eq_getElem lQ] at this;exact ⟨m,xs[i],this⟩
 refine ⟨a,ha,?_⟩;rw [List.drop_zero,List.take_of_length_le (by omega)] at hc;exact hc
theorem C_ {t:TypeId} {α:Type} {F:α→List AV} {good:α→Prop} {r:Reach} {b0:Nat} {v:Value} {d:DataW H} {p:List MemPlace} (sf:mH P t=true) (ho:Opens enc P w base spare held t F good) (hv:Value.okWide P w r b0 t v) (h:DataW.Trod enc P w base spare held t v d p) :
  ∃ a,good a∧V0 w (fun _ _=>False) (.agg (F a)) v:=by
 have bM:∃ cs,v = .agg cs:=by
  unfold Value.okWide at hv;unfold mH at sf;split at hv
  ·obtain ⟨cs,h,_⟩:=hv;exact ⟨cs,h⟩
  ·obtain ⟨cs,h,_⟩:=hv;exact ⟨cs,h⟩
  ·rename_i h1 h2;split at sf
   ·rename_i fs he;exact absurd he (h1 fs)
   ·rename_i n e he;exact absurd he (h2 n e)
   ·cases sf
 obtain ⟨cs,rfl⟩:=bM;obtain ⟨fuel,hf⟩:=h;obtain ⟨a,ha,o7,gD,o8⟩:=ho _ _ _ hf;refine ⟨a,ha,?_⟩;have:=V0.agg (w:=w) (M:=fun _ _=>False) (F a) cs.toList (by simpa [Value.cells] using o7) gD (by simpa [Value.cells] using o8);simpa using this
end
end Go.Proofs.YtoibondihdhnoaaGreatDoor
