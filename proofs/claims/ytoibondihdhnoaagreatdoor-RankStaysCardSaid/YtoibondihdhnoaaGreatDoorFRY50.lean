/- Texts in one: Walks: a state is copied. -/
import Derived.Test.YtoibondihdhnoaaGreatDoorFRY8
import Derived.Test.YtoibondihdhnoaaGreatDoorFRY45
import Derived.Test.YtoibondihdhnoaaGreatDoorFRY31
import Derived.Test.YtoibondihdhnoaaGreatDoorFRY34
import Derived.Test.YtoibondihdhnoaaGreatDoorFRY49
import Derived.Test.YtoibondihdhnoaaGreatDoorFRY20
import Derived.Test.YtoibondihdhnoaaGreatDoorFRY25
namespace Go.Proofs.YtoibondihdhnoaaGreatDoor
open Go.RowKit
set_option maxRecDepth 100000
set_option maxHeartbeats 2000000
theorem mI (r:Ru) (s:St) (hl:r.ranks.length≤1000000) (hr:r.ranks.length=s.q.length) (hf:ll r s.q.length) : VC Tryz.prog 118 [bN r,h_ s.q] (I (di r s)):=by
 obtain ⟨R,hR⟩ : ∃ R,di r s=R:=⟨_,rfl⟩
 rw [hR];unfold di at hR;have HR:=Lib.hid hR;have HF:=Lib.hid hf;clear hR hf;refine aJ Tryz.func118 rfl (by kernel_rfl) rfl fun M0 w0=>?_;simp only [Tryz.ntmps118,Tryz.results118,aC];repeat' with_reducible first|apply af|apply ae|apply az|apply aa|refine ah [] ?_|(apply ab;intro X Y;go_simp;apply Y;clear Y X)
 apply ef [1,2] (fun k=>[(5,I k)]) (fun k=>([] : Hp)) (nj r s) (r.ranks.length)
 ·go_simp<;>exact rfl
 ·go_simp
 ·intro k hk HB HP K hK;obtain ⟨w1,w2,w3,w4,w5,w6⟩:=ixs (m:=k) (by omega);have cw:k < s.q.length:=by omega
  have hp:=HP.out;unfold nj ch at hp;by_cases h1:(rat r.ranks k).feeder = -1
  ·clear hp;repeat' first|(with_reducible first|apply af|apply ae|apply ao|apply az|apply aY|apply aa|refine ah [] ?_|apply aP|(apply au;·go_simp)|(apply aj;·go_simp)|((first|apply ab|apply aO);intro X Y;go_simp;apply Y;clear Y X))|((refine bf 27 27 [] rfl (by kernel_rfl) ?_);simp only [aA])
   refine hK _ ?_;go_simp
  obtain ⟨f0,fl⟩:=HF.out k cw h1;obtain ⟨f,hf⟩ : ∃ f:Nat,(rat r.ranks k).feeder=f:=⟨(rat r.ranks k).feeder.toNat,by omega⟩
  rw [hf] at fl h1 hp;simp only [Int.toNat_natCast] at fl hp;clear f0;cases h2:(rat r.ranks k).called
  ·rw [decide_eq_true h1,h2] at hp;simp only [Bool.not_false,Bool.true_and] at hp;by_cases h3:((qat s.q k).length:Int) < (rat r.ranks k).places
   ·rw [decide_eq_true h3,Bool.true_and,decide_eq_false_iff_not] at hp;have h4:qat s.q f=[]:=List.eq_nil_of_length_eq_zero (by omega);clear hp;repeat' first|(with_reducible first|apply af|apply ae|apply ao|apply az|apply aY|apply aa|refine ah [] ?_|apply aP|(apply au;·go_simp)|(apply aj;·go_simp)|((first|apply ab|apply aO);intro X Y;go_simp;apply Y;clear Y X))|((refine bf 27 27 [] rfl (by kernel_rfl) ?_);simp only [aA])
    refine hK _ ?_;go_simp
   ·clear hp;repeat' first|(with_reducible first|apply af|apply ae|apply ao|apply az|apply aY|apply aa|refine ah [] ?_|apply aP|(apply au;·go_simp)|(apply aj;·go_simp)|((first|apply ab|apply aO);intro X Y;go_simp;apply Y;clear Y X))|((refine bf 27 27 [] rfl (by kernel_rfl) ?_);simp only [aA])
    refine hK _ ?_;go_simp
  ·clear hp;repeat' first|(with_reducible first|apply af|apply ae|apply ao|apply az|apply aY|apply aa|refine ah [] ?_|apply aP|(apply au;·go_simp)|(apply aj;·go_simp)|((first|apply ab|apply aO);intro X Y;go_simp;apply Y;clear Y X))|((refine bf 27 27 [] rfl (by kernel_rfl) ?_);simp only [aA])
   refine hK _ ?_;go_simp
 ·intro k hk HB HP K;have cw:k < s.q.length:=by omega
  have e:=HR.out;rw [kp hk HB.out HP.out] at e;subst e;have hp:=HP.out;unfold nj ch at hp;simp only [Bool.and_eq_true,decide_eq_true_eq,Bool.not_eq_true'] at hp;obtain ⟨⟨⟨h1,h2⟩,h3⟩,h4⟩:=hp;obtain ⟨f0,fl⟩:=HF.out k cw h1;obtain ⟨f,hf⟩ : ∃ f:Nat,(rat r.ranks k).feeder=f:=⟨(rat r.ranks k).feeder.toNat,by omega⟩
  rw [hf] at fl h1 h4;simp only [Int.toNat_natCast] at fl h4;have h5:¬qat s.q f=[]:=fun h=>by rw [h] at h4;simp at h4
  clear f0;repeat' first|(with_reducible first|apply af|apply ae|apply aR|apply aw|apply ao|apply az|apply cB|apply aa|refine ah [] ?_|apply aP|(apply au;·go_simp)|((first|apply ab|apply aO);intro X Y;go_simp;apply Y;clear Y X))|((refine bf 27 27 [] rfl (by kernel_rfl) ?_);simp only [aA])
  go_simp
 ·intro HB K;have e:=HR.out;rw [kQ HB.out] at e;subst e;repeat' with_reducible first|apply af|apply ae|apply bE|apply aw|apply bF|apply bG|apply aa|refine ah [] ?_|(apply aj;·go_simp)|(apply ab;intro X Y;go_simp;apply Y;clear Y X)
  go_simp
def oU (q:List (List ByteArray)) (c:ByteArray) : Int:=if dZ q c < 0 then -1 else fj (qat q (dZ q c).toNat) c
theorem NK (s:St) (c:ByteArray) (hl:s.q.length≤1000000) (hq:∀ k,k < s.q.length→(qat s.q k).length≤1000000) : VC Tryz.prog 129 [dH s,S c] (.tup [I (dZ s.q c),I (oU s.q c)]):=by
 obtain ⟨A,hA⟩ : ∃ A,dZ s.q c=A:=⟨_,rfl⟩
 obtain ⟨D,hD⟩ : ∃ D,oU s.q c=D:=⟨_,rfl⟩
 unfold oU at hD;rw [hA] at hD;unfold oU;rw [hA,hD];unfold dZ at hA;have HA:=Lib.hid hA;have HD:=Lib.hid hD;have HQ:=Lib.hid hq;clear hA hD hq;refine aJ Tryz.func129 rfl (by kernel_rfl) rfl fun M0 w0=>?_;simp only [Tryz.ntmps129,Tryz.results129,aC];repeat' with_reducible first|apply af|apply ae|apply az|apply aa|refine ah [] ?_|(apply ab;intro X Y;go_simp;apply Y;clear Y X)
 apply ef [1,2] (fun k=>[(6,I k)]) (fun k=>([] : Hp)) (inQ s.q c) (s.q.length)
 ·go_simp<;>exact rfl
 ·go_simp
 ·intro k hk HB HP K hK;obtain ⟨w1,w2,w3,w4,w5,w6⟩:=ixs (m:=k) (by omega);have jQ:=HQ.out k hk;repeat' with_reducible first|apply af|apply ae|apply ao|apply az|apply aa|refine ah [] ?_|(apply au;·go_simp)|(apply ab;intro X Y;go_simp;apply Y;clear Y X)
  apply ef [1,2,6] (fun k=>[(7,I k)]) (fun k=>([] : Hp)) (isT (qat s.q k) c) ((qat s.q k).length)
  ·go_simp<;>exact rfl
  ·go_simp
  ·intro j hj j0 jj K2 gP;obtain ⟨x1,x2,x3,x4,x5,x6⟩:=ixs (m:=j) (by omega);have hp:¬(qat s.q k)[j]=c:=by
    have:=jj.out;simpa [isT,ie hj] using this
   repeat' with_reducible first|apply af|apply ae|apply ao|apply az|apply aY|apply aa|refine ah [] ?_|(apply au;·go_simp)|(apply aj;·go_simp)|(apply ab;intro X Y;go_simp;apply Y;clear Y X)
   refine gP _ ?_;go_simp
  ·intro j hj j0 jj K2;exfalso;have h1:=HP.out;unfold inQ fj at h1;rw [kp hj j0.out jj.out] at h1;simp at h1
  ·intro j0 K2;repeat' with_reducible first|apply af|apply ae|apply bE|apply bF|apply aY|apply bG|apply aa|refine ah [] ?_|(apply aj;·go_simp)|(apply ab;intro X Y;go_simp;apply Y;clear Y X)
   refine hK _ ?_;go_simp
 ·intro k hk HB HP K;obtain ⟨w1,w2,w3,w4,w5,w6⟩:=ixs (m:=k) (by omega);have jQ:=HQ.out k hk;have e:=HA.out;rw [kp hk HB.out HP.out] at e;subst e;have e2:=HD.out;rw [if_neg (by omega),Int.toNat_natCast] at e2;have NL:=Lib.hid e2;clear e2;repeat' with_reducible first|apply af|apply ae|apply ao|apply az|apply aa|refine ah [] ?_|(apply au;·go_simp)|(apply ab;intro X Y;go_simp;apply Y;clear Y X)
  apply ef [1,2,6] (fun k=>[(7,I k)]) (fun k=>([] : Hp)) (isT (qat s.q k) c) ((qat s.q k).length)
  ·go_simp<;>exact rfl
  ·go_simp
  ·intro j hj j0 jj K2 gP;obtain ⟨x1,x2,x3,x4,x5,x6⟩:=ixs (m:=j) (by omega);have hp:¬(qat s.q k)[j]=c:=by
    have:=jj.out;simpa [isT,ie hj] using this
   repeat' with_reducible first|apply af|apply ae|apply ao|apply az|apply aY|apply aa|refine ah [] ?_|(apply au;·go_simp)|(apply aj;·go_simp)|(apply ab;intro X Y;go_simp;apply Y;clear Y X)
   refine gP _ ?_;go_simp
  ·intro j hj j0 jj K2;have hp:(qat s.q k)[j]=c:=by
    have:=jj.out;simpa [isT,ie hj] using this
   have e3:=NL.out;unfold fj at e3;rw [kp hj j0.out jj.out] at e3;subst e3;repeat' with_reducible first|apply af|apply ae|apply aR|apply aw|apply ao|apply az|apply cB|apply aa|refine ah [] ?_|(apply au;·go_simp)|(apply ab;intro X Y;go_simp;apply Y;clear Y X)
   go_simp
  ·intro j0 K2;exfalso;have h1:=HP.out;unfold inQ fj at h1;rw [kQ j0.out] at h1;simp at h1
 ·intro HB K;have e:=HA.out;rw [kQ HB.out] at e;subst e;have e2:=HD.out;rw [if_pos (by decide)] at e2;subst e2;repeat' with_reducible first|apply af|apply ae|apply bE|apply aw|apply bF|apply bG|apply aa|refine ah [] ?_|(apply aj;·go_simp)|(apply ab;intro X Y;go_simp;apply Y;clear Y X)
  go_simp
theorem NM (s:St) (c:ByteArray) (hl:s.tk.length≤1000000) : VC Tryz.prog 130 [dH s,S c] (I (eL s.tk c)):=by
 obtain ⟨R,hR⟩ : ∃ R,eL s.tk c=R:=⟨_,rfl⟩
 rw [hR];unfold eL at hR;have HR:=Lib.hid hR;clear hR;refine aJ Tryz.func130 rfl (by kernel_rfl) rfl fun M0 w0=>?_;simp only [Tryz.ntmps130,Tryz.results130,aC];repeat' with_reducible first|apply af|apply ae|apply az|apply aa|refine ah [] ?_|(apply ab;intro X Y;go_simp;apply Y;clear Y X)
 apply ef [1,2] (fun k=>[(5,I k)]) (fun k=>([] : Hp)) (ni s.tk c) (s.tk.length)
 ·go_simp<;>exact rfl
 ·go_simp
 ·intro k hk HB HP K hK;obtain ⟨w1,w2,w3,w4,w5,w6⟩:=ixs (m:=k) (by omega);have hp:¬(cj s.tk k).car=c:=of_decide_eq_false HP.out;repeat' with_reducible first|apply af|apply ae|apply ao|apply az|apply aY|apply aa|refine ah [] ?_|(apply au;·go_simp)|(apply aj;·go_simp)|(apply ab;intro X Y;go_simp;apply Y;clear Y X)
  refine hK _ ?_;go_simp
 ·intro k hk HB HP K;have hp:(cj s.tk k).car=c:=of_decide_eq_true HP.out;have e:=HR.out;rw [kp hk HB.out HP.out] at e;subst e;repeat' with_reducible first|apply af|apply ae|apply aR|apply aw|apply ao|apply az|apply cB|apply aa|refine ah [] ?_|(apply au;·go_simp)|(apply ab;intro X Y;go_simp;apply Y;clear Y X)
  go_simp
 ·intro HB K;have e:=HR.out;rw [kQ HB.out] at e;subst e;repeat' with_reducible first|apply af|apply ae|apply bE|apply aw|apply bF|apply bG|apply aa|refine ah [] ?_|(apply aj;·go_simp)|(apply ab;intro X Y;go_simp;apply Y;clear Y X)
  go_simp
set_option maxHeartbeats 4000000
def zB (s:St) (k:Nat) : List ByteArray:=(s.q.take k).flatten
@[go_sem] theorem R_ (s:St) : zB s 0=[]:=by simp [zB]
def Hb (s:St) (k:Nat) : List ByteArray:=s.q.flatten++(s.tk.take k).map (·.car)
@[go_sem] theorem Sa (s:St) : Hb s 0=zB s s.q.length:=by simp [Hb,zB]
def NN (L:List ByteArray) : KV:=L.foldl (fun m c=>iR (.string c) (.bool true) m) []
@[go_sem] theorem Sb:NN []=[]:=rfl
theorem VC.args {P:Program} {f:FuncId} {args lC:List AV} {r:AV} (h:VC P f args r) (hl:lC.length=args.length) (ha:∀ (i:Nat) (a a':AV),args[i]? = some a→lC[i]? = some a'→∀ (w:World) (M:Nat→Nat→Prop) (v:Value),V0 w M a' v→V0 w M a v) : VC P f lC r:=
 ⟨h.1,fun w M vs hM ix hv=>h.2 w M vs hM (ix.trans hl) fun i a v hi NO=>by
  have aq:i < lC.length:=by
   rw [hl];exact (List.getElem?_eq_some_iff.1 hi).1
  exact ha i a _ hi (List.getElem?_eq_getElem aq) w M v (hv i _ v (List.getElem?_eq_getElem aq) NO)⟩
def cpT (es:List (List AV)) (tm:Int) (M:Nat→Nat→Prop) (w:World) (i:Nat) (v:Value) (w':World) : Prop:=
 if i=2 then ∃ b,v = .slice (some b) 0 0
 else if i=5 then OwnRow w w' M 148 3 (decide (es=[])) es v
 else if i=6 then ∃ v5,v = .agg #[.slice none 0 0,v5,.int .i64 tm]∧OwnRow w w' M 148 3 (decide (es=[])) es v5
 else ∃ b,v = .pointer (some ⟨b,0,none⟩)∧w.heap.size≤b∧w'.heap[b]? = some (.cells #[.slice none 0 0,.slice none 0 0,.int .i64 0] 32 (0,0))
theorem NP (es:List (List AV)) (tm:Int) (M:Nat→Nat→Prop) (w:World) (i:Nat) (v:Value) (w1 w2:World) (h:cpT es tm M w i v w1) (hb:Below w1.heap.size w1 w2) : cpT es tm M w i v w2:=by
 unfold cpT at h ⊢;split
 ·rename_i h2;rwa [if_pos h2] at h
 rename_i h2;rw [if_neg h2] at h;split
 ·rename_i h5;rw [if_pos h5] at h;exact h.later hb
 rename_i h5;rw [if_neg h5] at h;split
 ·rename_i h6;rw [if_pos h6] at h;obtain ⟨v5,e,h⟩:=h;exact ⟨v5,e,h.later hb⟩
 ·rename_i h6;rw [if_neg h6] at h;obtain ⟨b,e,h1,h3⟩:=h;exact ⟨b,e,h1,(hb.block b (Array.getElem?_eq_some_iff.1 h3).1).trans h3⟩
theorem NQ (x:Tk) : (Tk.av x).length=3∧∀ c∈Tk.av x,∃ u,c = .lit u∧u.oneCell'=true:=by
 refine ⟨rfl,fun c hc=>?_⟩;simp only [Tk.av,List.mem_cons,List.not_mem_nil,or_false] at hc;rcases hc with rfl|rfl|rfl<;>exact ⟨_,rfl,rfl⟩
def NR (s:St) (k:Nat) : List (List AV):=(bx (s.q.take k)).map fun l=>[AV.sl 1 l]
@[go_sem] theorem Sc (s:St) : NR s 0=[]:=rfl
def woN (l:List ByteArray) (s:ByteArray) (k:Nat) : List ByteArray:=woT (l.take k) s
theorem NS {l:List ByteArray} {s:ByteArray} {k:Nat} (h:k < l.length) : woN l s (k+1)=if l[k]=s then woN l s k else woN l s k++[l[k]]:=by
 unfold woN woT;rw [ub h,List.filter_append];by_cases e:l[k]=s
 ·simp [e]
 ·simp [e]
theorem NT (l:List ByteArray) (s:ByteArray) (k:Nat) : (woN l s k).length≤k:=by
 unfold woN woT;exact Nat.le_trans (List.length_filter_le _ _) (by simp;omega)
theorem NU (l:List ByteArray) (s:ByteArray) : woN l s l.length=woT l s:=by
 unfold woN;rw [List.take_length]
def wkN (l:List Tk) (s:ByteArray) (k:Nat) : List Tk:=woK (l.take k) s
theorem NV {l:List Tk} {s:ByteArray} {k:Nat} (h:k < l.length) : wkN l s (k+1)=if (cj l k).car=s then wkN l s k else wkN l s k++[cj l k]:=by
 rw [lk h];unfold wkN woK;rw [ub h,List.filter_append];by_cases e:l[k].car=s
 ·simp [e]
 ·simp [e]
theorem NW (l:List Tk) (s:ByteArray) (k:Nat) : (wkN l s k).length≤k:=by
 unfold wkN woK;exact Nat.le_trans (List.length_filter_le _ _) (by simp;omega)
theorem NX (l:List Tk) (s:ByteArray) : wkN l s l.length=woK l s:=by
 unfold wkN;rw [List.take_length]
theorem NY (l:List ByteArray) : ∀ (k:Nat) (x:List AV),(l.map bL)[k]? = some x→x.length=1∧∀ c∈x,cQ c=true:=fun k x hx=>by
 obtain ⟨y,hy,rfl⟩:=ea hx;exact ⟨rfl,by simp [bL,cQ,Value.oneCell']⟩
theorem NZ (l:List Tk) : ∀ (k:Nat) (x:List AV),(l.map Tk.av)[k]? = some x→x.length=3∧∀ c∈x,cQ c=true:=fun k x hx=>by
 obtain ⟨y,hy,rfl⟩:=ea hx;exact ⟨rfl,by simp [Tk.av,cQ,Value.oneCell']⟩
theorem N0 (l:List ByteArray) (s:ByteArray) (hl:l.length≤1000000) : VCo Tryz.prog 132 [iT l,S s] 9 1 (decide (woT l s=[])) ((woT l s).map bL):=by
 rw [←NU];have e0:woN l s 0=[]:=rfl;refine vk Tryz.func132 rfl (by kernel_rfl) (by kernel_rfl) rfl Tryz.results132 (by decide) (NY _) fun M0 w0=>?_;simp only [Tryz.ntmps132,aC];repeat' with_reducible first|apply af|apply ae|apply az|apply aa|refine ah [5] ?_|(apply ab;intro X Y;go_simp;apply Y;clear Y X)
 apply k8 [0,1] (fun k=>[(6,I k),(5,.osl 0)]) (fun k=>([some (.arr 9 1 (decide (woN l s k=[])) ((woN l s k).map bL))] : Hp))  (l.length)
 ·go_simp<;>exact rfl
 ·go_simp
 ·intro k hk K hK;obtain ⟨w1,w2,w3,w4,w5,w6⟩:=ixs (m:=k) (by omega);have hs:=NS (s:=s) hk;have hb:(woN l s k).length+1≤1000000000:=by have:=NT l s k;omega
  clear e0;by_cases e:l[k]=s
  ·rw [if_pos e] at hs;have HS:=Lib.hid hs;clear hs;repeat' with_reducible first|apply af|apply ae|apply ao|apply az|apply aY|apply aa|refine ah [] ?_|(apply au;·go_simp)|(apply aj;·go_simp)|(apply ab;intro X Y;go_simp;apply Y;clear Y X)
   refine hK _ ?_;rw [HS.out];go_simp
  ·rw [if_neg e] at hs;have HS:=Lib.hid hs;clear hs;repeat' with_reducible first|apply af|apply ae|apply ao|apply az|apply aY|apply aa|refine ah [] ?_|(apply au;·go_simp)|(apply ab;intro X Y;go_simp;apply Y;clear Y X)
   refine hK _ ?_;rw [HS.out];go_simp
 ·intro K;clear e0;repeat' with_reducible first|apply af|apply ae|apply bE|apply aw|apply bF|apply bG|apply aa|refine ah [] ?_|(apply aj;·go_simp)|(apply ab;intro X Y;go_simp;apply Y;clear Y X)
  exact ⟨0,rfl,rfl⟩
theorem N3 (l:List Tk) (s:ByteArray) (hl:l.length≤1000000) : VCo Tryz.prog 131 [.sl 3 (l.map Tk.av),S s] 148 3 (decide (woK l s=[])) ((woK l s).map Tk.av):=by
 rw [←NX];have e0:wkN l s 0=[]:=rfl;refine vk Tryz.func131 rfl (by kernel_rfl) (by kernel_rfl) rfl Tryz.results131 (by decide) (NZ _) fun M0 w0=>?_;simp only [Tryz.ntmps131,aC];repeat' with_reducible first|apply af|apply ae|apply az|apply aa|refine ah [5] ?_|(apply ab;intro X Y;go_simp;apply Y;clear Y X)
 apply k8 [0,1] (fun k=>[(6,I k),(5,.osl 0)]) (fun k=>([some (.arr 148 3 (decide (wkN l s k=[])) ((wkN l s k).map Tk.av))] : Hp))  (l.length)
 ·go_simp<;>exact rfl
 ·go_simp
 ·intro k hk K hK;obtain ⟨w1,w2,w3,w4,w5,w6⟩:=ixs (m:=k) (by omega);have hs:=NV (s:=s) hk;have hb:(wkN l s k).length+1≤1000000000:=by have:=NW l s k;omega
  clear e0;by_cases e:(cj l k).car=s
  ·rw [if_pos e] at hs;have HS:=Lib.hid hs;clear hs;repeat' with_reducible first|apply af|apply ae|apply ao|apply az|apply aY|apply aa|refine ah [] ?_|(apply au;·go_simp)|(apply aj;·go_simp)|(apply ab;intro X Y;go_simp;apply Y;clear Y X)
   refine hK _ ?_;rw [HS.out];go_simp
  ·rw [if_neg e] at hs;have HS:=Lib.hid hs;clear hs;repeat' with_reducible first|apply af|apply ae|apply ao|apply az|apply aY|apply aa|refine ah [] ?_|(apply au;·go_simp)|(apply ab;intro X Y;go_simp;apply Y;clear Y X)
   refine hK _ ?_;rw [HS.out];go_simp
 ·intro K;clear e0;repeat' with_reducible first|apply af|apply ae|apply bE|apply aw|apply bF|apply bG|apply aa|refine ah [] ?_|(apply aj;·go_simp)|(apply ab;intro X Y;go_simp;apply Y;clear Y X)
  exact ⟨0,rfl,rfl⟩
theorem CT (l:List ByteArray) (s:ByteArray) (hl:l.length≤1000000) : VC Tryz.prog 132 [iT l,S s] (iT (woT l s)):=ze (N0 l s hl)
theorem Hc (l:List Tk) (s:ByteArray) (hl:l.length≤1000000) : VC Tryz.prog 131 [.sl 3 (l.map Tk.av),S s] (.sl 3 ((woK l s).map Tk.av)):=ze (N3 l s hl)
theorem N4 (r:Ru) (s:St) (tm:Int) (k:Nat) (car:ByteArray) (hk:k < s.q.length) (hr:r.ranks.length=s.q.length) (hf:ll r s.q.length) (jQ:s.q.length≤1000000) (dC:∀ k,k < s.q.length→(qat s.q k).length≤1000000) (_htl:s.tk.length≤1000000) : VC Tryz.prog 67 [bN r,dH s,.agg [I 0,I tm,I (k:Int),S car]] (I (fst [unl (decide (s.time≤tm)) 9,doE r s ⟨0,tm,(k:Int),car⟩ k])):=by
 have cw:k < r.ranks.length:=by omega
 have fR:=hf k hk;clear hf;by_cases ht:s.time≤tm
 ·have jf:¬tm < s.time:=by omega
  have g:=NK s car jQ dC;by_cases fY:0≤dZ s.q car
  ·rw [show fst [unl (decide (s.time≤tm)) 9,doE r s ⟨0,tm,(k:Int),car⟩ k]=5 by simp [doE,iD,fst,unl,fY,ht]];generalize dZ s.q car=SK at *;generalize oU s.q car=FP at *;refine aJ Tryz.func67 rfl (by kernel_rfl) rfl fun M0 w0=>?_;simp only [Tryz.ntmps67,Tryz.results67,aC];repeat' with_reducible first|apply af|apply ae|apply ao|apply aa|refine ah [] ?_|(apply aj;·go_simp)|(apply ab;intro X Y;go_simp;apply Y;clear Y X)
   refine fG 14 [] [⟨12,8,[.string ⟨#[]⟩,.int .i64 0,.int .i64 0,.bool false],none,[]⟩] (by kernel_rfl) (by go_simp) ?_;simp only [aA];repeat (first|(refine fb rfl ?_)|((with_reducible refine fc rfl fun X Y=>?_);go_simp;refine Y _ (by go_simp) ?_;clear Y X)|(with_reducible apply fe))
   refine ⟨by go_simp,?_⟩;simp only [dL,d_,Slot.end_,List.cons_append,List.nil_append];repeat' with_reducible first|apply af|apply ae|apply aR|apply aw|apply az|apply cB|apply aa|refine ah [] ?_|(apply au;·go_simp)|(apply ab;intro X Y;go_simp;(first|(refine ⟨_,g,?_⟩)|skip);apply Y;clear Y X)
   go_simp
  by_cases h1:(rat r.ranks k).feeder = -1
  ·clear fR;by_cases bp:((qat s.q k).length:Int) < (rat r.ranks k).places
   ·have sM:¬(rat r.ranks k).places≤(qat s.q k).length:=by omega
    rw [show fst [unl (decide (s.time≤tm)) 9,doE r s ⟨0,tm,(k:Int),car⟩ k]=0 by simp [doE,iD,iC,ch,feedN,fst,unl,fY,h1,bp,ht]];generalize dZ s.q car=SK at *;generalize oU s.q car=FP at *;refine aJ Tryz.func67 rfl (by kernel_rfl) rfl fun M0 w0=>?_;simp only [Tryz.ntmps67,Tryz.results67,aC];repeat' with_reducible first|apply af|apply ae|apply ao|apply aa|refine ah [] ?_|(apply aj;·go_simp)|(apply ab;intro X Y;go_simp;apply Y;clear Y X)
    refine fG 14 [] [⟨12,8,[.string ⟨#[]⟩,.int .i64 0,.int .i64 0,.bool false],none,[]⟩] (by kernel_rfl) (by go_simp) ?_;simp only [aA];repeat (first|(refine fb rfl ?_)|((with_reducible refine fc rfl fun X Y=>?_);go_simp;refine Y _ (by go_simp) ?_;clear Y X)|(with_reducible apply fe))
    refine ⟨by go_simp,?_⟩;simp only [dL,d_,Slot.end_,List.cons_append,List.nil_append];repeat' with_reducible first|apply af|apply ae|apply aw|apply ao|apply az|apply aY|apply aa|refine ah [] ?_|(apply au;·go_simp)|(apply aj;·go_simp)|(apply ab;intro X Y;go_simp;(first|(refine ⟨_,g,?_⟩)|skip);apply Y;clear Y X)
    go_simp
   ·have sM:(rat r.ranks k).places≤(qat s.q k).length:=by omega
    rw [show fst [unl (decide (s.time≤tm)) 9,doE r s ⟨0,tm,(k:Int),car⟩ k]=16 by simp [doE,iD,iC,ch,feedN,fst,unl,fY,h1,bp,ht]];generalize dZ s.q car=SK at *;generalize oU s.q car=FP at *;refine aJ Tryz.func67 rfl (by kernel_rfl) rfl fun M0 w0=>?_;simp only [Tryz.ntmps67,Tryz.results67,aC];repeat' with_reducible first|apply af|apply ae|apply ao|apply aa|refine ah [] ?_|(apply aj;·go_simp)|(apply ab;intro X Y;go_simp;apply Y;clear Y X)
    refine fG 14 [] [⟨12,8,[.string ⟨#[]⟩,.int .i64 0,.int .i64 0,.bool false],none,[]⟩] (by kernel_rfl) (by go_simp) ?_;simp only [aA];repeat (first|(refine fb rfl ?_)|((with_reducible refine fc rfl fun X Y=>?_);go_simp;refine Y _ (by go_simp) ?_;clear Y X)|(with_reducible apply fe))
    refine ⟨by go_simp,?_⟩;simp only [dL,d_,Slot.end_,List.cons_append,List.nil_append];repeat' with_reducible first|apply af|apply ae|apply aR|apply aw|apply ao|apply az|apply cB|apply aa|refine ah [] ?_|(apply au;·go_simp)|(apply aj;·go_simp)|(apply ab;intro X Y;go_simp;(first|(refine ⟨_,g,?_⟩)|skip);apply Y;clear Y X)
    go_simp
  obtain ⟨f0,fl⟩:=fR h1;clear fR;obtain ⟨f,iq⟩ : ∃ f:Nat,(rat r.ranks k).feeder=f:=⟨(rat r.ranks k).feeder.toNat,by omega⟩
  rw [iq] at fl h1;simp only [Int.toNat_natCast] at fl;clear f0;by_cases h4:0 < (qat s.q f).length
  ·have h5:¬qat s.q f=[]:=fun h=>by rw [h] at h4;simp at h4
   rw [show fst [unl (decide (s.time≤tm)) 9,doE r s ⟨0,tm,(k:Int),car⟩ k]=13 by simp [doE,iD,iC,feedN,fst,unl,fY,h1,iq,h4,ht]];generalize dZ s.q car=SK at *;generalize oU s.q car=FP at *;refine aJ Tryz.func67 rfl (by kernel_rfl) rfl fun M0 w0=>?_;simp only [Tryz.ntmps67,Tryz.results67,aC];repeat' with_reducible first|apply af|apply ae|apply ao|apply aa|refine ah [] ?_|(apply aj;·go_simp)|(apply ab;intro X Y;go_simp;apply Y;clear Y X)
   refine fG 14 [] [⟨12,8,[.string ⟨#[]⟩,.int .i64 0,.int .i64 0,.bool false],none,[]⟩] (by kernel_rfl) (by go_simp) ?_;simp only [aA];repeat (first|(refine fb rfl ?_)|((with_reducible refine fc rfl fun X Y=>?_);go_simp;refine Y _ (by go_simp) ?_;clear Y X)|(with_reducible apply fe))
   refine ⟨by go_simp,?_⟩;simp only [dL,d_,Slot.end_,List.cons_append,List.nil_append];repeat' with_reducible first|apply af|apply ae|apply aR|apply aw|apply ao|apply az|apply cB|apply aa|refine ah [] ?_|(apply au;·go_simp)|(apply aj;·go_simp)|(apply ab;intro X Y;go_simp;(first|(refine ⟨_,g,?_⟩)|skip);apply Y;clear Y X)
   go_simp
  ·have h5:qat s.q f=[]:=List.eq_nil_of_length_eq_zero (by omega);by_cases bp:((qat s.q k).length:Int) < (rat r.ranks k).places
   ·have sM:¬(rat r.ranks k).places≤(qat s.q k).length:=by omega
    rw [show fst [unl (decide (s.time≤tm)) 9,doE r s ⟨0,tm,(k:Int),car⟩ k]=0 by simp [doE,iD,iC,ch,feedN,fst,unl,fY,h1,iq,h5,bp,ht]];generalize dZ s.q car=SK at *;generalize oU s.q car=FP at *;refine aJ Tryz.func67 rfl (by kernel_rfl) rfl fun M0 w0=>?_;simp only [Tryz.ntmps67,Tryz.results67,aC];repeat' with_reducible first|apply af|apply ae|apply ao|apply aa|refine ah [] ?_|(apply aj;·go_simp)|(apply ab;intro X Y;go_simp;apply Y;clear Y X)
    refine fG 14 [] [⟨12,8,[.string ⟨#[]⟩,.int .i64 0,.int .i64 0,.bool false],none,[]⟩] (by kernel_rfl) (by go_simp) ?_;simp only [aA];repeat (first|(refine fb rfl ?_)|((with_reducible refine fc rfl fun X Y=>?_);go_simp;refine Y _ (by go_simp) ?_;clear Y X)|(with_reducible apply fe))
    refine ⟨by go_simp,?_⟩;simp only [dL,d_,Slot.end_,List.cons_append,List.nil_append];repeat' with_reducible first|apply af|apply ae|apply aw|apply ao|apply az|apply aY|apply aa|refine ah [] ?_|(apply au;·go_simp)|(apply aj;·go_simp)|(apply ab;intro X Y;go_simp;(first|(refine ⟨_,g,?_⟩)|skip);apply Y;clear Y X)
    go_simp
   ·have sM:(rat r.ranks k).places≤(qat s.q k).length:=by omega
    rw [show fst [unl (decide (s.time≤tm)) 9,doE r s ⟨0,tm,(k:Int),car⟩ k]=16 by simp [doE,iD,iC,ch,feedN,fst,unl,fY,h1,iq,h5,bp,ht]];generalize dZ s.q car=SK at *;generalize oU s.q car=FP at *;refine aJ Tryz.func67 rfl (by kernel_rfl) rfl fun M0 w0=>?_;simp only [Tryz.ntmps67,Tryz.results67,aC];repeat' with_reducible first|apply af|apply ae|apply ao|apply aa|refine ah [] ?_|(apply aj;·go_simp)|(apply ab;intro X Y;go_simp;apply Y;clear Y X)
    refine fG 14 [] [⟨12,8,[.string ⟨#[]⟩,.int .i64 0,.int .i64 0,.bool false],none,[]⟩] (by kernel_rfl) (by go_simp) ?_;simp only [aA];repeat (first|(refine fb rfl ?_)|((with_reducible refine fc rfl fun X Y=>?_);go_simp;refine Y _ (by go_simp) ?_;clear Y X)|(with_reducible apply fe))
    refine ⟨by go_simp,?_⟩;simp only [dL,d_,Slot.end_,List.cons_append,List.nil_append];repeat' with_reducible first|apply af|apply ae|apply aR|apply aw|apply ao|apply az|apply cB|apply aa|refine ah [] ?_|(apply au;·go_simp)|(apply aj;·go_simp)|(apply ab;intro X Y;go_simp;(first|(refine ⟨_,g,?_⟩)|skip);apply Y;clear Y X)
    go_simp
 ·have jf:tm < s.time:=by omega
  rw [show fst [unl (decide (s.time≤tm)) 9,doE r s ⟨0,tm,(k:Int),car⟩ k]=9 by simp [fst,unl,ht]];refine aJ Tryz.func67 rfl (by kernel_rfl) rfl fun M0 w0=>?_;simp only [Tryz.ntmps67,Tryz.results67,aC];repeat' with_reducible first|apply af|apply ae|apply aR|apply aw|apply aa|refine ah [] ?_|(apply au;·go_simp)|(apply ab;intro X Y;go_simp;apply Y;clear Y X)
  go_simp
theorem N5 (r:Ru) (s:St) (tm:Int) (k:Nat) (car:ByteArray) (hk:k < s.q.length) (hr:r.ranks.length=s.q.length) (hf:ll r s.q.length) (_hql:s.q.length≤1000000) (_hqs:∀ k,k < s.q.length→(qat s.q k).length≤1000000) (yJ:s.tk.length≤1000000) : VC Tryz.prog 67 [bN r,dH s,.agg [I 1,I tm,I (k:Int),S car]] (I (fst [unl (decide (s.time≤tm)) 9,doE r s ⟨1,tm,(k:Int),car⟩ k])):=by
 have cw:k < r.ranks.length:=by omega
 have fR:=hf k hk;clear hf;by_cases ht:s.time≤tm
 ·have jf:¬tm < s.time:=by omega
  clear fR;by_cases kJ:(qat s.q k).length=0
  ·have sC:qat s.q k=[]:=List.eq_nil_of_length_eq_zero kJ;rw [show fst [unl (decide (s.time≤tm)) 9,doE r s ⟨1,tm,(k:Int),car⟩ k]=12 by simp [doE,jz,gL,fst,unl,sC,ht]];refine aJ Tryz.func67 rfl (by kernel_rfl) rfl fun M0 w0=>?_;simp only [Tryz.ntmps67,Tryz.results67,aC];repeat' with_reducible first|apply af|apply ae|apply ao|apply aa|refine ah [] ?_|(apply aj;·go_simp)|(apply ab;intro X Y;go_simp;apply Y;clear Y X)
   refine fG 14 [] [⟨12,8,[.string ⟨#[]⟩,.int .i64 0,.int .i64 0,.bool false],none,[]⟩] (by kernel_rfl) (by go_simp) ?_;simp only [aA];repeat (first|(refine fb rfl ?_)|((with_reducible refine fc rfl fun X Y=>?_);go_simp;refine Y _ (by go_simp) ?_;clear Y X)|(with_reducible apply fe))
   refine ⟨by go_simp,?_⟩;simp only [dL,d_,Slot.end_,List.cons_append,List.nil_append];repeat' with_reducible first|apply af|apply ae|apply aR|apply aw|apply ao|apply az|apply cB|apply aa|refine ah [] ?_|(apply au;·go_simp)|(apply aj;·go_simp)|(apply ab;intro X Y;go_simp;apply Y;clear Y X)
   go_simp
  have sC:¬qat s.q k=[]:=fun h=>by rw [h] at kJ;simp at kJ
  have vz:0 < (qat s.q k).length:=by omega
  have e0:(qat s.q k)[0]=tat (qat s.q k) 0:=(ie vz).symm;by_cases hh:tat (qat s.q k) 0=car
  ·by_cases xP:(s.tk.length:Int) < 40
   ·have N6:¬40≤(s.tk.length:Int):=by omega
    rw [show fst [unl (decide (s.time≤tm)) 9,doE r s ⟨1,tm,(k:Int),car⟩ k]=0 by simp [doE,jz,gL,fst,unl,kJ,hh,xP,ht]];refine aJ Tryz.func67 rfl (by kernel_rfl) rfl fun M0 w0=>?_;simp only [Tryz.ntmps67,Tryz.results67,aC];repeat' with_reducible first|apply af|apply ae|apply ao|apply aa|refine ah [] ?_|(apply aj;·go_simp)|(apply ab;intro X Y;go_simp;apply Y;clear Y X)
    refine fG 14 [] [⟨12,8,[.string ⟨#[]⟩,.int .i64 0,.int .i64 0,.bool false],none,[]⟩] (by kernel_rfl) (by go_simp) ?_;simp only [aA];repeat (first|(refine fb rfl ?_)|((with_reducible refine fc rfl fun X Y=>?_);go_simp;refine Y _ (by go_simp) ?_;clear Y X)|(with_reducible apply fe))
    refine ⟨by go_simp,?_⟩;simp only [dL,d_,Slot.end_,List.cons_append,List.nil_append];repeat' first|(with_reducible first|apply af|apply ae|apply aw|apply ao|apply az|apply aY|apply aa|refine ah [] ?_|apply aP|(apply au;·go_simp)|(apply aj;·go_simp)|((first|apply ab|apply aO);intro X Y;go_simp;apply Y;clear Y X))|((refine bf 6 6 [] rfl (by kernel_rfl) ?_);simp only [aA])
    go_simp
   ·have N6:40≤(s.tk.length:Int):=by omega
    rw [show fst [unl (decide (s.time≤tm)) 9,doE r s ⟨1,tm,(k:Int),car⟩ k]=8 by simp [doE,jz,gL,fst,unl,kJ,hh,xP,ht]];refine aJ Tryz.func67 rfl (by kernel_rfl) rfl fun M0 w0=>?_;simp only [Tryz.ntmps67,Tryz.results67,aC];repeat' with_reducible first|apply af|apply ae|apply ao|apply aa|refine ah [] ?_|(apply aj;·go_simp)|(apply ab;intro X Y;go_simp;apply Y;clear Y X)
    refine fG 14 [] [⟨12,8,[.string ⟨#[]⟩,.int .i64 0,.int .i64 0,.bool false],none,[]⟩] (by kernel_rfl) (by go_simp) ?_;simp only [aA];repeat (first|(refine fb rfl ?_)|((with_reducible refine fc rfl fun X Y=>?_);go_simp;refine Y _ (by go_simp) ?_;clear Y X)|(with_reducible apply fe))
    refine ⟨by go_simp,?_⟩;simp only [dL,d_,Slot.end_,List.cons_append,List.nil_append];repeat' first|(with_reducible first|apply af|apply ae|apply aR|apply aw|apply ao|apply az|apply cB|apply aa|refine ah [] ?_|apply aP|(apply au;·go_simp)|(apply aj;·go_simp)|((first|apply ab|apply aO);intro X Y;go_simp;apply Y;clear Y X))|((refine bf 6 6 [] rfl (by kernel_rfl) ?_);simp only [aA])
    go_simp
  ·rw [show fst [unl (decide (s.time≤tm)) 9,doE r s ⟨1,tm,(k:Int),car⟩ k]=13 by simp [doE,jz,gL,fst,unl,kJ,hh,ht]];refine aJ Tryz.func67 rfl (by kernel_rfl) rfl fun M0 w0=>?_;simp only [Tryz.ntmps67,Tryz.results67,aC];repeat' with_reducible first|apply af|apply ae|apply ao|apply aa|refine ah [] ?_|(apply aj;·go_simp)|(apply ab;intro X Y;go_simp;apply Y;clear Y X)
   refine fG 14 [] [⟨12,8,[.string ⟨#[]⟩,.int .i64 0,.int .i64 0,.bool false],none,[]⟩] (by kernel_rfl) (by go_simp) ?_;simp only [aA];repeat (first|(refine fb rfl ?_)|((with_reducible refine fc rfl fun X Y=>?_);go_simp;refine Y _ (by go_simp) ?_;clear Y X)|(with_reducible apply fe))
   refine ⟨by go_simp,?_⟩;simp only [dL,d_,Slot.end_,List.cons_append,List.nil_append];repeat' first|(with_reducible first|apply af|apply ae|apply aR|apply aw|apply ao|apply az|apply cB|apply aa|refine ah [] ?_|apply aP|(apply au;·go_simp)|(apply aj;·go_simp)|((first|apply ab|apply aO);intro X Y;go_simp;apply Y;clear Y X))|((refine bf 6 6 [] rfl (by kernel_rfl) ?_);simp only [aA])
   go_simp
 ·have jf:tm < s.time:=by omega
  rw [show fst [unl (decide (s.time≤tm)) 9,doE r s ⟨1,tm,(k:Int),car⟩ k]=9 by simp [fst,unl,ht]];refine aJ Tryz.func67 rfl (by kernel_rfl) rfl fun M0 w0=>?_;simp only [Tryz.ntmps67,Tryz.results67,aC];repeat' with_reducible first|apply af|apply ae|apply aR|apply aw|apply aa|refine ah [] ?_|(apply au;·go_simp)|(apply ab;intro X Y;go_simp;apply Y;clear Y X)
  go_simp
theorem N7 (r:Ru) (s:St) (tm:Int) (k:Nat) (car:ByteArray) (hk:k < s.q.length) (hr:r.ranks.length=s.q.length) (hf:ll r s.q.length) (_hql:s.q.length≤1000000) (_hqs:∀ k,k < s.q.length→(qat s.q k).length≤1000000) (_htl:s.tk.length≤1000000) : VC Tryz.prog 67 [bN r,dH s,.agg [I 2,I tm,I (k:Int),S car]] (I (fst [unl (decide (s.time≤tm)) 9,doE r s ⟨2,tm,(k:Int),car⟩ k])):=by
 have cw:k < r.ranks.length:=by omega
 have fR:=hf k hk;clear hf;by_cases ht:s.time≤tm
 ·have jf:¬tm < s.time:=by omega
  clear fR;by_cases kJ:(qat s.q k).length=0
  ·have sC:qat s.q k=[]:=List.eq_nil_of_length_eq_zero kJ;rw [show fst [unl (decide (s.time≤tm)) 9,doE r s ⟨2,tm,(k:Int),car⟩ k]=12 by simp [doE,gL,fst,unl,sC,ht]];refine aJ Tryz.func67 rfl (by kernel_rfl) rfl fun M0 w0=>?_;simp only [Tryz.ntmps67,Tryz.results67,aC];repeat' with_reducible first|apply af|apply ae|apply ao|apply aa|refine ah [] ?_|(apply aj;·go_simp)|(apply ab;intro X Y;go_simp;apply Y;clear Y X)
   refine fG 14 [] [⟨12,8,[.string ⟨#[]⟩,.int .i64 0,.int .i64 0,.bool false],none,[]⟩] (by kernel_rfl) (by go_simp) ?_;simp only [aA];repeat (first|(refine fb rfl ?_)|((with_reducible refine fc rfl fun X Y=>?_);go_simp;refine Y _ (by go_simp) ?_;clear Y X)|(with_reducible apply fe))
   refine ⟨by go_simp,?_⟩;simp only [dL,d_,Slot.end_,List.cons_append,List.nil_append];repeat' with_reducible first|apply af|apply ae|apply aR|apply aw|apply az|apply cB|apply aa|refine ah [] ?_|(apply au;·go_simp)|(apply aj;·go_simp)|(apply ab;intro X Y;go_simp;apply Y;clear Y X)
   go_simp
  have sC:¬qat s.q k=[]:=fun h=>by rw [h] at kJ;simp at kJ
  have vz:0 < (qat s.q k).length:=by omega
  have e0:(qat s.q k)[0]=tat (qat s.q k) 0:=(ie vz).symm;by_cases hh:tat (qat s.q k) 0=car
  ·rw [show fst [unl (decide (s.time≤tm)) 9,doE r s ⟨2,tm,(k:Int),car⟩ k]=0 by simp [doE,gL,fst,unl,kJ,hh,ht]];refine aJ Tryz.func67 rfl (by kernel_rfl) rfl fun M0 w0=>?_;simp only [Tryz.ntmps67,Tryz.results67,aC];repeat' with_reducible first|apply af|apply ae|apply ao|apply aa|refine ah [] ?_|(apply aj;·go_simp)|(apply ab;intro X Y;go_simp;apply Y;clear Y X)
   refine fG 14 [] [⟨12,8,[.string ⟨#[]⟩,.int .i64 0,.int .i64 0,.bool false],none,[]⟩] (by kernel_rfl) (by go_simp) ?_;simp only [aA];repeat (first|(refine fb rfl ?_)|((with_reducible refine fc rfl fun X Y=>?_);go_simp;refine Y _ (by go_simp) ?_;clear Y X)|(with_reducible apply fe))
   refine ⟨by go_simp,?_⟩;simp only [dL,d_,Slot.end_,List.cons_append,List.nil_append];repeat' first|(with_reducible first|apply af|apply ae|apply aw|apply ao|apply az|apply aY|apply aa|refine ah [] ?_|apply aP|(apply au;·go_simp)|(apply aj;·go_simp)|((first|apply ab|apply aO);intro X Y;go_simp;apply Y;clear Y X))|((refine bf 6 6 [] rfl (by kernel_rfl) ?_);simp only [aA])
   go_simp
  ·rw [show fst [unl (decide (s.time≤tm)) 9,doE r s ⟨2,tm,(k:Int),car⟩ k]=13 by simp [doE,gL,fst,unl,kJ,hh,ht]];refine aJ Tryz.func67 rfl (by kernel_rfl) rfl fun M0 w0=>?_;simp only [Tryz.ntmps67,Tryz.results67,aC];repeat' with_reducible first|apply af|apply ae|apply ao|apply aa|refine ah [] ?_|(apply aj;·go_simp)|(apply ab;intro X Y;go_simp;apply Y;clear Y X)
   refine fG 14 [] [⟨12,8,[.string ⟨#[]⟩,.int .i64 0,.int .i64 0,.bool false],none,[]⟩] (by kernel_rfl) (by go_simp) ?_;simp only [aA];repeat (first|(refine fb rfl ?_)|((with_reducible refine fc rfl fun X Y=>?_);go_simp;refine Y _ (by go_simp) ?_;clear Y X)|(with_reducible apply fe))
   refine ⟨by go_simp,?_⟩;simp only [dL,d_,Slot.end_,List.cons_append,List.nil_append];repeat' first|(with_reducible first|apply af|apply ae|apply aR|apply aw|apply ao|apply az|apply cB|apply aa|refine ah [] ?_|apply aP|(apply au;·go_simp)|(apply aj;·go_simp)|((first|apply ab|apply aO);intro X Y;go_simp;apply Y;clear Y X))|((refine bf 6 6 [] rfl (by kernel_rfl) ?_);simp only [aA])
   go_simp
 ·have jf:tm < s.time:=by omega
  rw [show fst [unl (decide (s.time≤tm)) 9,doE r s ⟨2,tm,(k:Int),car⟩ k]=9 by simp [fst,unl,ht]];refine aJ Tryz.func67 rfl (by kernel_rfl) rfl fun M0 w0=>?_;simp only [Tryz.ntmps67,Tryz.results67,aC];repeat' with_reducible first|apply af|apply ae|apply aR|apply aw|apply aa|refine ah [] ?_|(apply au;·go_simp)|(apply ab;intro X Y;go_simp;apply Y;clear Y X)
  go_simp
theorem N8 (r:Ru) (s:St) (tm:Int) (k:Nat) (car:ByteArray) (hk:k < s.q.length) (hr:r.ranks.length=s.q.length) (hf:ll r s.q.length) (_hql:s.q.length≤1000000) (dC:∀ k,k < s.q.length→(qat s.q k).length≤1000000) (_htl:s.tk.length≤1000000) : VC Tryz.prog 67 [bN r,dH s,.agg [I 3,I tm,I (k:Int),S car]] (I (fst [unl (decide (s.time≤tm)) 9,doE r s ⟨3,tm,(k:Int),car⟩ k])):=by
 have cw:k < r.ranks.length:=by omega
 have fR:=hf k hk;clear hf;by_cases ht:s.time≤tm
 ·have jf:¬tm < s.time:=by omega
  clear fR;have g:=MZ (qat s.q k) car (dC k hk);have iy:gz (isT (qat s.q k) car) 0 (qat s.q k).length=decide (0≤fj (qat s.q k) car):=(yK _ _).symm;rw [iy] at g;by_cases hi:fj (qat s.q k) car < 0
  ·have bJ:¬0≤fj (qat s.q k) car:=by omega
   rw [decide_eq_false bJ] at g;rw [show fst [unl (decide (s.time≤tm)) 9,doE r s ⟨3,tm,(k:Int),car⟩ k]=6 by simp [doE,ql,fst,unl,hi,ht]];refine aJ Tryz.func67 rfl (by kernel_rfl) rfl fun M0 w0=>?_;simp only [Tryz.ntmps67,Tryz.results67,aC];repeat' with_reducible first|apply af|apply ae|apply ao|apply aa|refine ah [] ?_|(apply aj;·go_simp)|(apply ab;intro X Y;go_simp;apply Y;clear Y X)
   refine fG 14 [] [⟨12,8,[.string ⟨#[]⟩,.int .i64 0,.int .i64 0,.bool false],none,[]⟩] (by kernel_rfl) (by go_simp) ?_;simp only [aA];repeat (first|(refine fb rfl ?_)|((with_reducible refine fc rfl fun X Y=>?_);go_simp;refine Y _ (by go_simp) ?_;clear Y X)|(with_reducible apply fe))
   refine ⟨by go_simp,?_⟩;simp only [dL,d_,Slot.end_,List.cons_append,List.nil_append];repeat' with_reducible first|apply af|apply ae|apply aR|apply aw|apply az|apply cB|apply aa|refine ah [] ?_|(apply au;·go_simp)|(apply aj;·go_simp)|(apply ab;intro X Y;go_simp;(first|(refine ⟨_,g,?_⟩)|skip);apply Y;clear Y X)
   go_simp
  ·have bJ:0≤fj (qat s.q k) car:=by omega
   rw [decide_eq_true bJ] at g;rw [show fst [unl (decide (s.time≤tm)) 9,doE r s ⟨3,tm,(k:Int),car⟩ k]=0 by simp [doE,ql,fst,unl,hi,ht]];refine aJ Tryz.func67 rfl (by kernel_rfl) rfl fun M0 w0=>?_;simp only [Tryz.ntmps67,Tryz.results67,aC];repeat' with_reducible first|apply af|apply ae|apply ao|apply aa|refine ah [] ?_|(apply aj;·go_simp)|(apply ab;intro X Y;go_simp;apply Y;clear Y X)
   refine fG 14 [] [⟨12,8,[.string ⟨#[]⟩,.int .i64 0,.int .i64 0,.bool false],none,[]⟩] (by kernel_rfl) (by go_simp) ?_;simp only [aA];repeat (first|(refine fb rfl ?_)|((with_reducible refine fc rfl fun X Y=>?_);go_simp;refine Y _ (by go_simp) ?_;clear Y X)|(with_reducible apply fe))
   refine ⟨by go_simp,?_⟩;simp only [dL,d_,Slot.end_,List.cons_append,List.nil_append];repeat' with_reducible first|apply af|apply ae|apply aw|apply ao|apply az|apply aY|apply aa|refine ah [] ?_|(apply au;·go_simp)|(apply aj;·go_simp)|(apply ab;intro X Y;go_simp;(first|(refine ⟨_,g,?_⟩)|skip);apply Y;clear Y X)
   go_simp
 ·have jf:tm < s.time:=by omega
  rw [show fst [unl (decide (s.time≤tm)) 9,doE r s ⟨3,tm,(k:Int),car⟩ k]=9 by simp [fst,unl,ht]];refine aJ Tryz.func67 rfl (by kernel_rfl) rfl fun M0 w0=>?_;simp only [Tryz.ntmps67,Tryz.results67,aC];repeat' with_reducible first|apply af|apply ae|apply aR|apply aw|apply aa|refine ah [] ?_|(apply au;·go_simp)|(apply ab;intro X Y;go_simp;apply Y;clear Y X)
  go_simp
theorem N9 (r:Ru) (s:St) (tm:Int) (k:Nat) (car:ByteArray) (hk:k < s.q.length) (hr:r.ranks.length=s.q.length) (hf:ll r s.q.length) (_hql:s.q.length≤1000000) (_hqs:∀ k,k < s.q.length→(qat s.q k).length≤1000000) (_htl:s.tk.length≤1000000) : VC Tryz.prog 67 [bN r,dH s,.agg [I 4,I tm,I (k:Int),S car]] (I (fst [unl (decide (s.time≤tm)) 9,doE r s ⟨4,tm,(k:Int),car⟩ k])):=by
 have cw:k < r.ranks.length:=by omega
 have fR:=hf k hk;clear hf;by_cases ht:s.time≤tm
 ·have jf:¬tm < s.time:=by omega
  by_cases h1:(rat r.ranks k).feeder = -1
  ·clear fR;rw [show fst [unl (decide (s.time≤tm)) 9,doE r s ⟨4,tm,(k:Int),car⟩ k]=6 by simp [doE,iB,fst,unl,h1,ht]];refine aJ Tryz.func67 rfl (by kernel_rfl) rfl fun M0 w0=>?_;simp only [Tryz.ntmps67,Tryz.results67,aC];repeat' with_reducible first|apply af|apply ae|apply ao|apply aa|refine ah [] ?_|(apply aj;·go_simp)|(apply ab;intro X Y;go_simp;apply Y;clear Y X)
   refine fG 14 [] [⟨12,8,[.string ⟨#[]⟩,.int .i64 0,.int .i64 0,.bool false],none,[]⟩] (by kernel_rfl) (by go_simp) ?_;simp only [aA];repeat (first|(refine fb rfl ?_)|((with_reducible refine fc rfl fun X Y=>?_);go_simp;refine Y _ (by go_simp) ?_;clear Y X)|(with_reducible apply fe))
   refine ⟨by go_simp,?_⟩;simp only [dL,d_,Slot.end_,List.cons_append,List.nil_append];repeat' with_reducible first|apply af|apply ae|apply aR|apply aw|apply az|apply cB|apply aa|refine ah [] ?_|(apply au;·go_simp)|(apply aj;·go_simp)|(apply ab;intro X Y;go_simp;apply Y;clear Y X)
   go_simp
  obtain ⟨f0,fl⟩:=fR h1;clear fR;obtain ⟨f,iq⟩ : ∃ f:Nat,(rat r.ranks k).feeder=f:=⟨(rat r.ranks k).feeder.toNat,by omega⟩
  rw [iq] at fl h1;simp only [Int.toNat_natCast] at fl;clear f0;cases h2:(rat r.ranks k).called
  ·rw [show fst [unl (decide (s.time≤tm)) 9,doE r s ⟨4,tm,(k:Int),car⟩ k]=22 by simp [doE,iB,fst,unl,h1,h2,iq,ht]];refine aJ Tryz.func67 rfl (by kernel_rfl) rfl fun M0 w0=>?_;simp only [Tryz.ntmps67,Tryz.results67,aC];repeat' with_reducible first|apply af|apply ae|apply ao|apply aa|refine ah [] ?_|(apply aj;·go_simp)|(apply ab;intro X Y;go_simp;apply Y;clear Y X)
   refine fG 14 [] [⟨12,8,[.string ⟨#[]⟩,.int .i64 0,.int .i64 0,.bool false],none,[]⟩] (by kernel_rfl) (by go_simp) ?_;simp only [aA];repeat (first|(refine fb rfl ?_)|((with_reducible refine fc rfl fun X Y=>?_);go_simp;refine Y _ (by go_simp) ?_;clear Y X)|(with_reducible apply fe))
   refine ⟨by go_simp,?_⟩;simp only [dL,d_,Slot.end_,List.cons_append,List.nil_append];repeat' with_reducible first|apply af|apply ae|apply aR|apply aw|apply ao|apply az|apply cB|apply aa|refine ah [] ?_|(apply au;·go_simp)|(apply aj;·go_simp)|(apply ab;intro X Y;go_simp;apply Y;clear Y X)
   go_simp
  by_cases h4:0 < (qat s.q f).length
  ·have h5:¬qat s.q f=[]:=fun h=>by rw [h] at h4;simp at h4
   by_cases bp:((qat s.q k).length:Int) < (rat r.ranks k).places
   ·have sM:¬(rat r.ranks k).places≤(qat s.q k).length:=by omega
    rw [show fst [unl (decide (s.time≤tm)) 9,doE r s ⟨4,tm,(k:Int),car⟩ k]=0 by simp [doE,iB,ch,feedN,fst,unl,h1,h2,iq,h4,bp,ht]];refine aJ Tryz.func67 rfl (by kernel_rfl) rfl fun M0 w0=>?_;simp only [Tryz.ntmps67,Tryz.results67,aC];repeat' with_reducible first|apply af|apply ae|apply ao|apply aa|refine ah [] ?_|(apply aj;·go_simp)|(apply ab;intro X Y;go_simp;apply Y;clear Y X)
    refine fG 14 [] [⟨12,8,[.string ⟨#[]⟩,.int .i64 0,.int .i64 0,.bool false],none,[]⟩] (by kernel_rfl) (by go_simp) ?_;simp only [aA];repeat (first|(refine fb rfl ?_)|((with_reducible refine fc rfl fun X Y=>?_);go_simp;refine Y _ (by go_simp) ?_;clear Y X)|(with_reducible apply fe))
    refine ⟨by go_simp,?_⟩;simp only [dL,d_,Slot.end_,List.cons_append,List.nil_append];repeat' with_reducible first|apply af|apply ae|apply aw|apply ao|apply az|apply aY|apply aa|refine ah [] ?_|(apply au;·go_simp)|(apply aj;·go_simp)|(apply ab;intro X Y;go_simp;apply Y;clear Y X)
    go_simp
   ·have sM:(rat r.ranks k).places≤(qat s.q k).length:=by omega
    rw [show fst [unl (decide (s.time≤tm)) 9,doE r s ⟨4,tm,(k:Int),car⟩ k]=16 by simp [doE,iB,ch,feedN,fst,unl,h1,h2,iq,h4,bp,ht]];refine aJ Tryz.func67 rfl (by kernel_rfl) rfl fun M0 w0=>?_;simp only [Tryz.ntmps67,Tryz.results67,aC];repeat' with_reducible first|apply af|apply ae|apply ao|apply aa|refine ah [] ?_|(apply aj;·go_simp)|(apply ab;intro X Y;go_simp;apply Y;clear Y X)
    refine fG 14 [] [⟨12,8,[.string ⟨#[]⟩,.int .i64 0,.int .i64 0,.bool false],none,[]⟩] (by kernel_rfl) (by go_simp) ?_;simp only [aA];repeat (first|(refine fb rfl ?_)|((with_reducible refine fc rfl fun X Y=>?_);go_simp;refine Y _ (by go_simp) ?_;clear Y X)|(with_reducible apply fe))
    refine ⟨by go_simp,?_⟩;simp only [dL,d_,Slot.end_,List.cons_append,List.nil_append];repeat' with_reducible first|apply af|apply ae|apply aR|apply aw|apply ao|apply az|apply cB|apply aa|refine ah [] ?_|(apply au;·go_simp)|(apply aj;·go_simp)|(apply ab;intro X Y;go_simp;apply Y;clear Y X)
    go_simp
  ·have h5:qat s.q f=[]:=List.eq_nil_of_length_eq_zero (by omega);rw [show fst [unl (decide (s.time≤tm)) 9,doE r s ⟨4,tm,(k:Int),car⟩ k]=12 by simp [doE,iB,feedN,fst,unl,h1,h2,iq,h5,ht]];refine aJ Tryz.func67 rfl (by kernel_rfl) rfl fun M0 w0=>?_;simp only [Tryz.ntmps67,Tryz.results67,aC];repeat' with_reducible first|apply af|apply ae|apply ao|apply aa|refine ah [] ?_|(apply aj;·go_simp)|(apply ab;intro X Y;go_simp;apply Y;clear Y X)
   refine fG 14 [] [⟨12,8,[.string ⟨#[]⟩,.int .i64 0,.int .i64 0,.bool false],none,[]⟩] (by kernel_rfl) (by go_simp) ?_;simp only [aA];repeat (first|(refine fb rfl ?_)|((with_reducible refine fc rfl fun X Y=>?_);go_simp;refine Y _ (by go_simp) ?_;clear Y X)|(with_reducible apply fe))
   refine ⟨by go_simp,?_⟩;simp only [dL,d_,Slot.end_,List.cons_append,List.nil_append];repeat' with_reducible first|apply af|apply ae|apply aR|apply aw|apply ao|apply az|apply cB|apply aa|refine ah [] ?_|(apply au;·go_simp)|(apply aj;·go_simp)|(apply ab;intro X Y;go_simp;apply Y;clear Y X)
   go_simp
 ·have jf:tm < s.time:=by omega
  rw [show fst [unl (decide (s.time≤tm)) 9,doE r s ⟨4,tm,(k:Int),car⟩ k]=9 by simp [fst,unl,ht]];refine aJ Tryz.func67 rfl (by kernel_rfl) rfl fun M0 w0=>?_;simp only [Tryz.ntmps67,Tryz.results67,aC];repeat' with_reducible first|apply af|apply ae|apply aR|apply aw|apply aa|refine ah [] ?_|(apply au;·go_simp)|(apply ab;intro X Y;go_simp;apply Y;clear Y X)
  go_simp
theorem N_ (r:Ru) (s:St) (tm:Int) (k:Nat) (car:ByteArray) (hk:k < s.q.length) (hr:r.ranks.length=s.q.length) (hf:ll r s.q.length) (_hql:s.q.length≤1000000) (_hqs:∀ k,k < s.q.length→(qat s.q k).length≤1000000) (yJ:s.tk.length≤1000000) (zC:∀ i,i < s.tk.length→IntKind.i64.wrap (tm - (cj s.tk i).time)=tm - (cj s.tk i).time) : VC Tryz.prog 67 [bN r,dH s,.agg [I 5,I tm,I (k:Int),S car]] (I (fst [unl (decide (s.time≤tm)) 9,doE r s ⟨5,tm,(k:Int),car⟩ k])):=by
 have cw:k < r.ranks.length:=by omega
 have fR:=hf k hk;clear hf;by_cases ht:s.time≤tm
 ·have jf:¬tm < s.time:=by omega
  clear fR;have g:=NM s car yJ;by_cases hi:eL s.tk car < 0
  ·rw [show fst [unl (decide (s.time≤tm)) 9,doE r s ⟨5,tm,(k:Int),car⟩ k]=6 by simp [doE,my,fst,unl,hi,ht]];refine aJ Tryz.func67 rfl (by kernel_rfl) rfl fun M0 w0=>?_;simp only [Tryz.ntmps67,Tryz.results67,aC];repeat' with_reducible first|apply af|apply ae|apply ao|apply aa|refine ah [] ?_|(apply aj;·go_simp)|(apply ab;intro X Y;go_simp;apply Y;clear Y X)
   refine fG 14 [] [⟨12,8,[.string ⟨#[]⟩,.int .i64 0,.int .i64 0,.bool false],none,[]⟩] (by kernel_rfl) (by go_simp) ?_;simp only [aA];repeat (first|(refine fb rfl ?_)|((with_reducible refine fc rfl fun X Y=>?_);go_simp;refine Y _ (by go_simp) ?_;clear Y X)|(with_reducible apply fe))
   refine ⟨by go_simp,?_⟩;simp only [dL,d_,Slot.end_,List.cons_append,List.nil_append];repeat' first|(with_reducible first|apply af|apply ae|apply aR|apply aw|apply az|apply cB|apply aa|refine ah [] ?_|apply aP|(apply au;·go_simp)|(apply aj;·go_simp)|((first|apply ab|apply aO);intro X Y;go_simp;(first|(refine ⟨_,g,?_⟩)|skip);apply Y;clear Y X))|((refine bf 13 13 [] rfl (by kernel_rfl) ?_);simp only [aA])
   go_simp
  obtain ⟨i,ei,cu,_⟩:=tO (Classical.byContradiction fun hh=>hi (pt.2 hh));have zD:tK s ⟨5,tm,(k:Int),car⟩=cj s.tk i:=by unfold tK;rw [ei,Int.toNat_natCast]
  rw [ei] at g;have rZ:¬(i:Int) < 0:=by omega
  by_cases oF:(cj s.tk i).rank=k
  ·have Sd:=zC i cu;by_cases aq:tm - (cj s.tk i).time≤r.ret
   ·have kT:¬r.ret < tm - (cj s.tk i).time:=by omega
    by_cases bp:((qat s.q k).length:Int) < (rat r.ranks k).places
    ·have sM:¬(rat r.ranks k).places≤(qat s.q k).length:=by omega
     rw [show fst [unl (decide (s.time≤tm)) 9,doE r s ⟨5,tm,(k:Int),car⟩ k]=0 by simp [doE,my,ch,fst,unl,ei,rZ,zD,oF,aq,bp,ht]];refine aJ Tryz.func67 rfl (by kernel_rfl) rfl fun M0 w0=>?_;simp only [Tryz.ntmps67,Tryz.results67,aC];repeat' with_reducible first|apply af|apply ae|apply ao|apply aa|refine ah [] ?_|(apply aj;·go_simp)|(apply ab;intro X Y;go_simp;apply Y;clear Y X)
     refine fG 14 [] [⟨12,8,[.string ⟨#[]⟩,.int .i64 0,.int .i64 0,.bool false],none,[]⟩] (by kernel_rfl) (by go_simp) ?_;simp only [aA];repeat (first|(refine fb rfl ?_)|((with_reducible refine fc rfl fun X Y=>?_);go_simp;refine Y _ (by go_simp) ?_;clear Y X)|(with_reducible apply fe))
     refine ⟨by go_simp,?_⟩;simp only [dL,d_,Slot.end_,List.cons_append,List.nil_append];repeat' first|(with_reducible first|apply af|apply ae|apply aw|apply ao|apply az|apply aY|apply aa|refine ah [] ?_|apply aP|(apply au;·go_simp)|(apply aj;·go_simp)|((first|apply ab|apply aO);intro X Y;go_simp;(first|(refine ⟨_,g,?_⟩)|skip);apply Y;clear Y X))|((refine bf 12 12 [] rfl (by kernel_rfl) ?_);simp only [aA])|((refine bf 13 13 [] rfl (by kernel_rfl) ?_);simp only [aA])
     go_simp
    ·have sM:(rat r.ranks k).places≤(qat s.q k).length:=by omega
     rw [show fst [unl (decide (s.time≤tm)) 9,doE r s ⟨5,tm,(k:Int),car⟩ k]=16 by simp [doE,my,ch,fst,unl,ei,rZ,zD,oF,aq,bp,ht]];refine aJ Tryz.func67 rfl (by kernel_rfl) rfl fun M0 w0=>?_;simp only [Tryz.ntmps67,Tryz.results67,aC];repeat' with_reducible first|apply af|apply ae|apply ao|apply aa|refine ah [] ?_|(apply aj;·go_simp)|(apply ab;intro X Y;go_simp;apply Y;clear Y X)
     refine fG 14 [] [⟨12,8,[.string ⟨#[]⟩,.int .i64 0,.int .i64 0,.bool false],none,[]⟩] (by kernel_rfl) (by go_simp) ?_;simp only [aA];repeat (first|(refine fb rfl ?_)|((with_reducible refine fc rfl fun X Y=>?_);go_simp;refine Y _ (by go_simp) ?_;clear Y X)|(with_reducible apply fe))
     refine ⟨by go_simp,?_⟩;simp only [dL,d_,Slot.end_,List.cons_append,List.nil_append];repeat' first|(with_reducible first|apply af|apply ae|apply aR|apply aw|apply ao|apply az|apply cB|apply aa|refine ah [] ?_|apply aP|(apply au;·go_simp)|(apply aj;·go_simp)|((first|apply ab|apply aO);intro X Y;go_simp;(first|(refine ⟨_,g,?_⟩)|skip);apply Y;clear Y X))|((refine bf 12 12 [] rfl (by kernel_rfl) ?_);simp only [aA])|((refine bf 13 13 [] rfl (by kernel_rfl) ?_);simp only [aA])
     go_simp
   ·have kT:r.ret < tm - (cj s.tk i).time:=by omega
    rw [show fst [unl (decide (s.time≤tm)) 9,doE r s ⟨5,tm,(k:Int),car⟩ k]=25 by simp [doE,my,fst,unl,ei,rZ,zD,oF,aq,ht]];refine aJ Tryz.func67 rfl (by kernel_rfl) rfl fun M0 w0=>?_;simp only [Tryz.ntmps67,Tryz.results67,aC];repeat' with_reducible first|apply af|apply ae|apply ao|apply aa|refine ah [] ?_|(apply aj;·go_simp)|(apply ab;intro X Y;go_simp;apply Y;clear Y X)
    refine fG 14 [] [⟨12,8,[.string ⟨#[]⟩,.int .i64 0,.int .i64 0,.bool false],none,[]⟩] (by kernel_rfl) (by go_simp) ?_;simp only [aA];repeat (first|(refine fb rfl ?_)|((with_reducible refine fc rfl fun X Y=>?_);go_simp;refine Y _ (by go_simp) ?_;clear Y X)|(with_reducible apply fe))
    refine ⟨by go_simp,?_⟩;simp only [dL,d_,Slot.end_,List.cons_append,List.nil_append];repeat' first|(with_reducible first|apply af|apply ae|apply aR|apply aw|apply ao|apply az|apply cB|apply aa|refine ah [] ?_|apply aP|(apply au;·go_simp)|(apply aj;·go_simp)|((first|apply ab|apply aO);intro X Y;go_simp;(first|(refine ⟨_,g,?_⟩)|skip);apply Y;clear Y X))|((refine bf 12 12 [] rfl (by kernel_rfl) ?_);simp only [aA])|((refine bf 13 13 [] rfl (by kernel_rfl) ?_);simp only [aA])
    go_simp
  ·rw [show fst [unl (decide (s.time≤tm)) 9,doE r s ⟨5,tm,(k:Int),car⟩ k]=6 by simp [doE,my,fst,unl,ei,rZ,zD,oF,ht]];refine aJ Tryz.func67 rfl (by kernel_rfl) rfl fun M0 w0=>?_;simp only [Tryz.ntmps67,Tryz.results67,aC];repeat' with_reducible first|apply af|apply ae|apply ao|apply aa|refine ah [] ?_|(apply aj;·go_simp)|(apply ab;intro X Y;go_simp;apply Y;clear Y X)
   refine fG 14 [] [⟨12,8,[.string ⟨#[]⟩,.int .i64 0,.int .i64 0,.bool false],none,[]⟩] (by kernel_rfl) (by go_simp) ?_;simp only [aA];repeat (first|(refine fb rfl ?_)|((with_reducible refine fc rfl fun X Y=>?_);go_simp;refine Y _ (by go_simp) ?_;clear Y X)|(with_reducible apply fe))
   refine ⟨by go_simp,?_⟩;simp only [dL,d_,Slot.end_,List.cons_append,List.nil_append];repeat' first|(with_reducible first|apply af|apply ae|apply aR|apply aw|apply az|apply cB|apply aa|refine ah [] ?_|apply aP|(apply au;·go_simp)|(apply aj;·go_simp)|((first|apply ab|apply aO);intro X Y;go_simp;(first|(refine ⟨_,g,?_⟩)|skip);apply Y;clear Y X))|((refine bf 13 13 [] rfl (by kernel_rfl) ?_);simp only [aA])
   go_simp
 ·have jf:tm < s.time:=by omega
  rw [show fst [unl (decide (s.time≤tm)) 9,doE r s ⟨5,tm,(k:Int),car⟩ k]=9 by simp [fst,unl,ht]];refine aJ Tryz.func67 rfl (by kernel_rfl) rfl fun M0 w0=>?_;simp only [Tryz.ntmps67,Tryz.results67,aC];repeat' with_reducible first|apply af|apply ae|apply aR|apply aw|apply aa|refine ah [] ?_|(apply au;·go_simp)|(apply ab;intro X Y;go_simp;apply Y;clear Y X)
  go_simp
theorem Oa (r:Ru) (s:St) (x:Ev) (hr:RuOK r) (hi:Inv r s) (hx:evE r x=0) : VC Tryz.prog 67 [bN r,dH s,evA x] (I (fst [unl (decide (s.time≤x.time)) 9,doE r s x x.rank.toNat])):=by
 have h1:=qo hx;obtain ⟨h2,h3⟩:=rW hx;have h4:=vu hx;have hk:x.rank.toNat < s.q.length:=by rw [hi.len];omega
 have hlen:r.ranks.length=s.q.length:=hi.len.symm;have mB:ll r s.q.length:=by rw [hi.len];exact hr.feed
 have h6:s.q.length≤6:=by rw [hi.len];exact hr.n6
 have dC:∀ j,j < s.q.length→(qat s.q j).length≤1000000:=fun j hj=>by
  have:=hi.fit j hj;have:=hr.pl j (by omega);omega
 have yJ:=hi.tkl;have zC:∀ i,i < s.tk.length→IntKind.i64.wrap (x.time - (cj s.tk i).time)=x.time - (cj s.tk i).time:=fun i cu=>by
  have:=hi.tkt _ (List.getElem_mem cu);rw [←lk cu] at this;have:=hi.t0;exact fM (by omega) (by omega)
 obtain ⟨kd,tm,rk,car⟩:=x;simp only at h1 h2 h3 h4 hk zC ⊢;obtain ⟨k,rfl⟩ : ∃ k:Nat,rk=k:=⟨rk.toNat,by omega⟩
 rw [Int.toNat_natCast] at hk ⊢;have rP:kd=0∨kd=1∨kd=2∨kd=3∨kd=4∨kd=5:=by omega
 rcases rP with rfl|rfl|rfl|rfl|rfl|rfl
 ·exact N4 r s tm k car hk hlen mB (by omega) dC (by omega)
 ·exact N5 r s tm k car hk hlen mB (by omega) dC (by omega)
 ·exact N7 r s tm k car hk hlen mB (by omega) dC (by omega)
 ·exact N8 r s tm k car hk hlen mB (by omega) dC (by omega)
 ·exact N9 r s tm k car hk hlen mB (by omega) dC (by omega)
 ·exact N_ r s tm k car hk hlen mB (by omega) dC (by omega) zC
end Go.Proofs.YtoibondihdhnoaaGreatDoor
