/- Texts in one: Arguments that came in, as plain values: of every program; no condition. -/
import Derived.Test.YtoibondihdhnoaaGreatDoorFRQ6
import Derived.ProofKit
import Derived.OpenShut
import Derived.ShutString
import Derived.ChangeOld
import Derived.Below
import Derived.Deep.Slices
import Derived.Deep.Fields
namespace Go.Proofs.YtoibondihdhnoaaGreatDoor
open Go.ChangeShapes Go.WideShapes Go.ChangeAt Go.RowKit Go.Deep
def Cells0 (w:World) (C8:List AV) (cs:List Value) : Prop:=
 cs.length=C8.length∧(∀ c∈C8,cP c=true)∧∀ (i:Nat) (c:AV) (u:Value),C8[i]? = some c→cs[i]? = some u→V0 w (fun _ _=>False) c u
section
variable {H:Type} {enc:TypeId×Value→H} {P:Program} {w:World} {base:Nat} {spare:Nat→Bool} {held:Bool}
def Opens (enc:TypeId×Value→H) (P:Program) (w:World) (base:Nat) (spare:Nat→Bool) (held:Bool) (t:TypeId) {α:Type} (F:α→List AV) (good:α→Prop) : Prop:=
 ∀ (fuel:Nat) (cs:List Value) (x:DataW H×List MemPlace),DataW.trod enc P w base spare held fuel t cs=some x→∃ a,good a∧Cells0 w (F a) cs
theorem Cells0.one {c:AV} {u:Value} (h1:cP c=true) (hv:V0 w (fun _ _=>False) c u) : Cells0 w [c] [u]:=
 ⟨rfl,by simpa using h1,fun i c' u' hc hu=>by
  cases i with
  | zero=>simp at hc hu;subst hc;subst hu;exact hv
  | succ i=>simp at hc⟩
theorem PU {t:TypeId} {k:IntKind} (ht:P.underlying t=some (.int k)) : Opens enc P w base spare held t (fun n=>[.lit (.int k n)]) (fun n=>(Lit.int k n).wf=true):=fun fuel cs x h=>by
 obtain ⟨n,e,_,hw⟩:=DataW.trod_int ht h;subst e;exact ⟨n,hw,Cells0.one rfl (.lit _)⟩
theorem PV {t:TypeId} (ht:P.underlying t=some .string) : Opens enc P w base spare held t (fun s=>[.lit (.string s)]) (fun s=>s.size≤maxLen):=fun fuel cs x h=>by
 obtain ⟨s,e,_,hs⟩:=DataW.trod_string ht h;subst e;exact ⟨s,hs,Cells0.one rfl (.lit _)⟩
theorem PW {t:TypeId} (ht:P.underlying t=some .bool) : Opens enc P w base spare held t (fun b=>[.lit (.bool b)]) (fun _=>True):=fun fuel cs x h=>by
 obtain ⟨b,e,_⟩:=DataW.trod_bool ht h;subst e;exact ⟨b,trivial,Cells0.one rfl (.lit _)⟩
theorem Opens.map {t:TypeId} {α β:Type} {F:α→List AV} {G:β→List AV} {good:α→Prop} {good':β→Prop} (h:Opens enc P w base spare held t F good) (f:α→β) (hF:∀ a,F a=G (f a)) (hg:∀ a,good a→good' (f a)) : Opens enc P w base spare held t G good':=fun fuel cs x hx=>by
 obtain ⟨a,ha,hc⟩:=h fuel cs x hx;exact ⟨f a,hg a ha,by rwa [←hF]⟩
theorem Hy {t e:TypeId} {α:Type} {F:α→List AV} {good:α→Prop} [Inhabited α] {sz:Nat} (ht:P.underlying t=some (.slice e)) (aJ:P.cellsOf e=sz) (cj:0 < sz) (he:Opens enc P w base spare held e F good) :
  Opens enc P w base spare held t (fun l:List α=>[.sl sz (l.map F)]) (fun l:List α=>l.length≤maxLen∧∀ a∈l,good a):=fun fuel cs x h=>by
 subst aJ;rcases open_slice ht h with ⟨ca,_⟩|⟨ad,len',dp,m,n,D,Pl,ca,_,hl,hm,mq,_,hi⟩
 ·subst ca;exact ⟨[],⟨Nat.zero_le _,by simp⟩,Cells0.one rfl (.slNil _ _ _)⟩
 ·subst ca;have hle:len'≤m:=by rw [mq];split<;>omega
  have hex:∀ i,i < len'→∃ a:α,good a∧∃ dL:List Value,Cells0 w (F a) dL∧dL.length=P.cellsOf e∧∀ j v,dL[j]? = some v→w.cell? (ad.add (i*P.cellsOf e+j))=some v:=fun i cC=>by
   obtain ⟨dL,hc,ht⟩:=hi i (by omega);obtain ⟨a,ha,PX⟩:=he _ _ _ ht;obtain ⟨_,hlen,bf⟩:=World.cells?_some hc;refine ⟨a,ha,dL,PX,hlen,fun j v hv=>?_⟩;have hj:j < P.cellsOf e:=by rw [←hlen];exact (List.getElem?_eq_some_iff.1 hv).1
   rw [←Go.Deep.add_add,bf j hj,hv]
  have C9:∃ f:Nat→α,∀ i,i < len'→good (f i)∧∃ dL:List Value,Cells0 w (F (f i)) dL∧dL.length=P.cellsOf e∧∀ j v,dL[j]? = some v→w.cell? (ad.add (i*P.cellsOf e+j))=some v:=
   ⟨fun i=>if h:i < len' then (hex i h).choose else default,fun i cC=>by simp only [dif_pos cC];exact (hex i cC).choose_spec⟩
  obtain ⟨f,hf⟩:=C9;refine ⟨(List.range len').map f,⟨by simp;omega,fun r hr=>?_⟩,Cells0.one rfl ?_⟩
  ·obtain ⟨i,bD,rfl⟩:=List.mem_map.1 hr;exact (hf i (List.mem_range.1 bD)).1
  ·by_cases h0:len'=0
   ·subst h0;exact .slNil _ _ _
   ·have aF:∀ i j,i < len'→j < P.cellsOf e→∃ v,w.cell? (ad.add (i*P.cellsOf e+j))=some v:=fun i j cC hj=>by
     obtain ⟨_,dL,_,hlen,bf⟩:=hf i cC;have eM:j < dL.length:=by rw [hlen];exact hj
     exact ⟨_,bf j _ (List.getElem?_eq_getElem eM)⟩
    obtain ⟨v0,cQ⟩:=aF 0 0 (by omega) cj;obtain ⟨b,o,spot⟩:=ad;have wQ:spot=none:=World.cell?_spot (a:=⟨b,o,spot⟩) (by simpa [Addr.add] using cQ);subst wQ;have iI:∀ n,(⟨b,o,none⟩ : Addr).add n=⟨b,o+n,none⟩:=fun n=>jv b o n;have hb:b < w.heap.size:=by
     rw [iI] at cQ;exact World.block_lt_of_cell? w _ cQ
    have c_:∀ (k:Nat) (x:List AV),(((List.range len').map f).map F)[k]? = some x→k < len'∧x=F (f k):=fun k x hk=>by
     obtain ⟨y,hy,rfl⟩:=eo hk;obtain ⟨z,hz,rfl⟩:=eo hy;have cB:k < len':=by simpa using (List.getElem?_eq_some_iff.1 hz).1
     have:k=z:=by simpa using (List.getElem?_eq_some_iff.1 hz).2
     subst this;exact ⟨cB,rfl⟩
    have key:=V0.sl (w:=w) (M:=fun _ _=>False) (P.cellsOf e) (((List.range len').map f).map F) dp b o (fun k j=>(w.cell? ⟨b,o+k*P.cellsOf e+j,none⟩).getD undef) (by simp;omega) hb (fun _ _ _ _ h=>h) (by simp;omega) (fun k x hk=>by
      obtain ⟨cB,rfl⟩:=c_ k x hk;obtain ⟨_,dL,hc,hlen,_⟩:=hf k cB;rw [←hc.1,hlen]) (fun k x j c hk hj=>by
      obtain ⟨cB,rfl⟩:=c_ k x hk;obtain ⟨_,dL,hc,_⟩:=hf k cB;exact hc.2.1 c (List.mem_of_getElem? hj)) (fun k j hk hj=>by
      obtain ⟨v,hv⟩:=aF k j (by simpa using hk) hj;rw [iI,←Nat.add_assoc] at hv;rw [hv];rfl) (fun k x j c hk hj=>by
      obtain ⟨cB,rfl⟩:=c_ k x hk;obtain ⟨_,dL,hc,hlen,bf⟩:=hf k cB;have eM:j < dL.length:=by rw [hc.1];exact (List.getElem?_eq_some_iff.1 hj).1
      have:=bf j _ (List.getElem?_eq_getElem eM);rw [iI,←Nat.add_assoc] at this;rw [this];exact hc.2.2 j c _ hj (List.getElem?_eq_getElem eM))
    simpa using key
def zB (enc:TypeId×Value→H) (P:Program) (w:World) (base:Nat) (spare:Nat→Bool) (held:Bool) (fs:List (Nat×TypeId)) (o n:Nat) {α:Type} (F:α→List AV) (good:α→Prop) : Prop:=
 ∀ (cs:List Value),o+n≤cs.length→(∀ f∈fs,∃ fuel x,DataW.trod enc P w base spare held fuel f.2 ((cs.drop f.1).take (P.cellsOf f.2))=some x)→∃ a,good a∧Cells0 w (F a) ((cs.drop o).take n)
theorem C_ (o:Nat) : zB enc P w base spare held [] o 0 (fun _:Unit=>[]) (fun _=>True):=fun cs _ _=>⟨(),trivial,by simp [Cells0]⟩
theorem n8 {fs:List (Nat×TypeId)} {o n k:Nat} {t:TypeId} {α β:Type} {F:α→List AV} {G:β→List AV} {good:α→Prop} {good':β→Prop} (hk:P.cellsOf t=k) (ht:Opens enc P w base spare held t F good) (hr:zB enc P w base spare held fs (o+k) n G good') :
  zB enc P w base spare held ((o,t)::fs) o (k+n) (fun q:α×β=>F q.1++G q.2) (fun q=>good q.1∧good' q.2):=fun cs hl hh=>by
 obtain ⟨fuel,x,hx⟩:=hh (o,t) (List.mem_cons_self ..);rw [hk] at hx;obtain ⟨a,ha,sy,fO,oS⟩:=ht _ _ _ hx;obtain ⟨b,hb,uX,eb,gK⟩:=hr cs (by omega) fun f hf=>hh f (List.mem_cons_of_mem _ hf);have ez:(cs.drop o).take (k+n)=(cs.drop o).take k++(cs.drop (o+k)).take n:=by
  rw [List.take_add,List.drop_drop]
 have cG:((cs.drop o).take k).length=k:=by simp;omega
 have PY:(F a).length=k:=by rw [←sy,cG]
 refine ⟨(a,b),⟨ha,hb⟩,?_⟩;rw [ez];refine ⟨by simp only [List.length_append];rw [sy,uX],fun c hc=>?_,fun i c u hi hu=>?_⟩
 ·rcases List.mem_append.1 hc with h|h
  ·exact fO c h
  ·exact eb c h
 ·rcases Nat.lt_or_ge i k with ak|dr
  ·rw [List.getElem?_append_left (by show i < (F a).length;omega)] at hi;rw [List.getElem?_append_left (by omega)] at hu;exact oS i c u hi hu
  ·rw [List.getElem?_append_right (by show (F a).length≤i;omega)] at hi;rw [List.getElem?_append_right (by omega)] at hu;rw [show (F (a,b).1).length=k from PY] at hi;rw [cG] at hu;exact gK _ c u hi hu
theorem Da {t:TypeId} {fds:Array Field} {fs:List (Nat×TypeId)} {n:Nat} {α:Type} {F:α→List AV} {good:α→Prop} (ht:P.underlying t=some (.struct fds)) (hf:fds.toList.map (fun f=>(f.offset,f.type))=fs) (hn:P.cellsOf t=n) (h:zB enc P w base spare held fs 0 n F good) :
  Opens enc P w base spare held t F good:=fun fuel cs x hx=>by
 obtain ⟨xs,m,_,_,hlen,d_,cX⟩:=DataW.trod_struct ht hx;rw [hn] at hlen;obtain ⟨a,ha,hc⟩:=h cs (by omega) fun f rK=>by
  rw [←hf] at rK;obtain ⟨fd,vH,rfl⟩:=List.mem_map.1 rK;obtain ⟨i,hi,he⟩:=List.getElem_of_mem vH;have bo:fds[i]? = some fd:=by rw [←he];simp at hi ⊢
  have:=cX i fd (by simpa using bo);have lO:i < xs.length:=by rw [d_];simpa using hi
  rw [List.getElem?_eq_getElem lO] at this;exact ⟨m,xs[i],this⟩
 refine ⟨a,ha,?_⟩;rw [List.drop_zero,List.take_of_length_le (by omega)] at hc;exact hc
theorem PZ {t:TypeId} {α:Type} {F:α→List AV} {good:α→Prop} {r:Reach} {b0:Nat} {v:Value} {d:DataW H} {p:List MemPlace} (rV:mB P t=true) (ho:Opens enc P w base spare held t F good) (hv:Value.okWide P w r b0 t v) (h:DataW.Trod enc P w base spare held t v d p) :
  ∃ a,good a∧V0 w (fun _ _=>False) (.agg (F a)) v:=by
 have ca:∃ cs,v = .agg cs:=by
  unfold Value.okWide at hv;unfold mB at rV;split at hv
  ·obtain ⟨cs,h,_⟩:=hv;exact ⟨cs,h⟩
  ·obtain ⟨cs,h,_⟩:=hv;exact ⟨cs,h⟩
  ·rename_i h1 h2;split at rV
   ·rename_i fs he;exact absurd he (h1 fs)
   ·rename_i n e he;exact absurd he (h2 n e)
   ·cases rV
 obtain ⟨cs,rfl⟩:=ca;obtain ⟨fuel,hf⟩:=h;obtain ⟨a,ha,sy,fO,oS⟩:=ho _ _ _ hf;refine ⟨a,ha,?_⟩;have:=V0.agg (w:=w) (M:=fun _ _=>False) (F a) cs.toList (by simpa [Value.cells] using sy) fO (by simpa [Value.cells] using oS);simpa using this
theorem Hz {t:TypeId} {α:Type} {f:α→AV} {good:α→Prop} {v:Value} {d:DataW H} {p:List MemPlace} (ho:Opens enc P w base spare held t (fun a=>[f a]) good) (hv:v.cells=#[v]) (h:DataW.Trod enc P w base spare held t v d p) : ∃ a,good a∧V0 w (fun _ _=>False) (f a) v:=by
 obtain ⟨fuel,hf⟩:=h;rw [hv] at hf;obtain ⟨a,ha,_,_,oS⟩:=ho _ _ _ hf;exact ⟨a,ha,oS 0 _ _ rfl rfl⟩
theorem P0 {t e:TypeId} {r:Reach} {b0:Nat} {v:Value} (ht:P.underlying t=some (.slice e)) (hv:Value.okWide P w r b0 t v) : v.cells=#[v]:=by obtain ⟨a,b,c,rfl⟩:=okWide_slice ht hv;rfl
theorem P1 {t:TypeId} {r:Reach} {b0:Nat} {v:Value} (ht:P.underlying t=some .string) (hv:Value.okWide P w r b0 t v) : v.cells=#[v]:=by obtain ⟨a,rfl⟩:=okWide_string ht hv;rfl
end
end Go.Proofs.YtoibondihdhnoaaGreatDoor
