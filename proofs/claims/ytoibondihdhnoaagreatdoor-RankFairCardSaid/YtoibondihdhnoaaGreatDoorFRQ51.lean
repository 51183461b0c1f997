/- Texts in one: Walks: a state is copied. -/
import Derived.Test.YtoibondihdhnoaaGreatDoorFRQ9
import Derived.Test.YtoibondihdhnoaaGreatDoorFRQ46
import Derived.Test.YtoibondihdhnoaaGreatDoorFRQ32
import Derived.Test.YtoibondihdhnoaaGreatDoorFRQ35
import Derived.Test.YtoibondihdhnoaaGreatDoorFRQ50
import Derived.Test.YtoibondihdhnoaaGreatDoorFRQ21
import Derived.Test.YtoibondihdhnoaaGreatDoorFRQ26
namespace Go.Proofs.YtoibondihdhnoaaGreatDoor
open Go.RowKit
set_option maxRecDepth 100000
set_option maxHeartbeats 2000000
theorem mE (r:Ru) (s:St) (hl:r.ranks.length≤1000000) (hr:r.ranks.length=s.q.length) (hf:lh r s.q.length) : VC Tryz.prog 118 [bJ r,hQ s.q] (I (di r s)):=by
 obtain ⟨R,hR⟩ : ∃ R,di r s=R:=⟨_,rfl⟩
 rw [hR];unfold di at hR;have HR:=Lib.hid hR;have HF:=Lib.hid hf;clear hR hf;refine aL Tryz.func118 rfl (by kernel_rfl) rfl fun M0 w0=>?_;simp only [Tryz.ntmps118,Tryz.results118,aC];repeat' with_reducible first|apply af|apply ae|apply aE|apply aa|refine ah [] ?_|(apply ab;intro X Y;go_simp;apply Y;clear Y X)
 apply gy [1,2] (fun k=>[(5,I k)]) (fun k=>([] : Hp)) (mM r s) (r.ranks.length)
 ·go_simp<;>exact rfl
 ·go_simp
 ·intro k hk HB HP K hK;obtain ⟨w1,w2,w3,w4,w5,w6⟩:=ixs (m:=k) (by omega);have cI:k < s.q.length:=by omega
  have hp:=HP.out;unfold mM cm at hp;by_cases h1:(rat r.ranks k).feeder = -1
  ·clear hp;repeat' first|(with_reducible first|apply af|apply ae|apply aw|apply aE|apply bc|apply aa|refine ah [] ?_|apply aQ|(apply ax;·go_simp)|(apply ar;·go_simp)|((first|apply ab|apply aR);intro X Y;go_simp;apply Y;clear Y X))|((refine bw 27 27 [] rfl (by kernel_rfl) ?_);simp only [au])
   refine hK _ ?_;go_simp
  obtain ⟨f0,fl⟩:=HF.out k cI h1;obtain ⟨f,hf⟩ : ∃ f:Nat,(rat r.ranks k).feeder=f:=⟨(rat r.ranks k).feeder.toNat,by omega⟩
  rw [hf] at fl h1 hp;simp only [Int.toNat_natCast] at fl hp;clear f0;cases h2:(rat r.ranks k).called
  ·rw [decide_eq_true h1,h2] at hp;simp only [Bool.not_false,Bool.true_and] at hp;by_cases h3:((qat s.q k).length:Int) < (rat r.ranks k).places
   ·rw [decide_eq_true h3,Bool.true_and,decide_eq_false_iff_not] at hp;have h4:qat s.q f=[]:=List.eq_nil_of_length_eq_zero (by omega);clear hp;repeat' first|(with_reducible first|apply af|apply ae|apply aw|apply aE|apply bc|apply aa|refine ah [] ?_|apply aQ|(apply ax;·go_simp)|(apply ar;·go_simp)|((first|apply ab|apply aR);intro X Y;go_simp;apply Y;clear Y X))|((refine bw 27 27 [] rfl (by kernel_rfl) ?_);simp only [au])
    refine hK _ ?_;go_simp
   ·clear hp;repeat' first|(with_reducible first|apply af|apply ae|apply aw|apply aE|apply bc|apply aa|refine ah [] ?_|apply aQ|(apply ax;·go_simp)|(apply ar;·go_simp)|((first|apply ab|apply aR);intro X Y;go_simp;apply Y;clear Y X))|((refine bw 27 27 [] rfl (by kernel_rfl) ?_);simp only [au])
    refine hK _ ?_;go_simp
  ·clear hp;repeat' first|(with_reducible first|apply af|apply ae|apply aw|apply aE|apply bc|apply aa|refine ah [] ?_|apply aQ|(apply ax;·go_simp)|(apply ar;·go_simp)|((first|apply ab|apply aR);intro X Y;go_simp;apply Y;clear Y X))|((refine bw 27 27 [] rfl (by kernel_rfl) ?_);simp only [au])
   refine hK _ ?_;go_simp
 ·intro k hk HB HP K;have cI:k < s.q.length:=by omega
  have e:=HR.out;rw [kq hk HB.out HP.out] at e;subst e;have hp:=HP.out;unfold mM cm at hp;simp only [Bool.and_eq_true,decide_eq_true_eq,Bool.not_eq_true'] at hp;obtain ⟨⟨⟨h1,h2⟩,h3⟩,h4⟩:=hp;obtain ⟨f0,fl⟩:=HF.out k cI h1;obtain ⟨f,hf⟩ : ∃ f:Nat,(rat r.ranks k).feeder=f:=⟨(rat r.ranks k).feeder.toNat,by omega⟩
  rw [hf] at fl h1 h4;simp only [Int.toNat_natCast] at fl h4;have h5:¬qat s.q f=[]:=fun h=>by rw [h] at h4;simp at h4
  clear f0;repeat' first|(with_reducible first|apply af|apply ae|apply aW|apply az|apply aw|apply aE|apply dh|apply aa|refine ah [] ?_|apply aQ|(apply ax;·go_simp)|((first|apply ab|apply aR);intro X Y;go_simp;apply Y;clear Y X))|((refine bw 27 27 [] rfl (by kernel_rfl) ?_);simp only [au])
  go_simp
 ·intro HB K;have e:=HR.out;rw [lg HB.out] at e;subst e;repeat' with_reducible first|apply af|apply ae|apply bU|apply az|apply bV|apply bW|apply aa|refine ah [] ?_|(apply ar;·go_simp)|(apply ab;intro X Y;go_simp;apply Y;clear Y X)
  go_simp
def oR (q:List (List ByteArray)) (c:ByteArray) : Int:=if dY q c < 0 then -1 else fp (qat q (dY q c).toNat) c
theorem Ny (s:St) (c:ByteArray) (hl:s.q.length≤1000000) (hq:∀ k,k < s.q.length→(qat s.q k).length≤1000000) : VC Tryz.prog 129 [dX s,S c] (.tup [I (dY s.q c),I (oR s.q c)]):=by
 obtain ⟨A,hA⟩ : ∃ A,dY s.q c=A:=⟨_,rfl⟩
 obtain ⟨D,hD⟩ : ∃ D,oR s.q c=D:=⟨_,rfl⟩
 unfold oR at hD;rw [hA] at hD;unfold oR;rw [hA,hD];unfold dY at hA;have HA:=Lib.hid hA;have HD:=Lib.hid hD;have HQ:=Lib.hid hq;clear hA hD hq;refine aL Tryz.func129 rfl (by kernel_rfl) rfl fun M0 w0=>?_;simp only [Tryz.ntmps129,Tryz.results129,aC];repeat' with_reducible first|apply af|apply ae|apply aE|apply aa|refine ah [] ?_|(apply ab;intro X Y;go_simp;apply Y;clear Y X)
 apply gy [1,2] (fun k=>[(6,I k)]) (fun k=>([] : Hp)) (inQ s.q c) (s.q.length)
 ·go_simp<;>exact rfl
 ·go_simp
 ·intro k hk HB HP K hK;obtain ⟨w1,w2,w3,w4,w5,w6⟩:=ixs (m:=k) (by omega);have jX:=HQ.out k hk;repeat' with_reducible first|apply af|apply ae|apply aw|apply aE|apply aa|refine ah [] ?_|(apply ax;·go_simp)|(apply ab;intro X Y;go_simp;apply Y;clear Y X)
  apply gy [1,2,6] (fun k=>[(7,I k)]) (fun k=>([] : Hp)) (isT (qat s.q k) c) ((qat s.q k).length)
  ·go_simp<;>exact rfl
  ·go_simp
  ·intro j hj j9 j_ K2 gY;obtain ⟨x1,x2,x3,x4,x5,x6⟩:=ixs (m:=j) (by omega);have hp:¬(qat s.q k)[j]=c:=by
    have:=j_.out;simpa [isT,iK hj] using this
   repeat' with_reducible first|apply af|apply ae|apply aw|apply aE|apply bc|apply aa|refine ah [] ?_|(apply ax;·go_simp)|(apply ar;·go_simp)|(apply ab;intro X Y;go_simp;apply Y;clear Y X)
   refine gY _ ?_;go_simp
  ·intro j hj j9 j_ K2;exfalso;have h1:=HP.out;unfold inQ fp at h1;rw [kq hj j9.out j_.out] at h1;simp at h1
  ·intro j9 K2;repeat' with_reducible first|apply af|apply ae|apply bU|apply bV|apply bc|apply bW|apply aa|refine ah [] ?_|(apply ar;·go_simp)|(apply ab;intro X Y;go_simp;apply Y;clear Y X)
   refine hK _ ?_;go_simp
 ·intro k hk HB HP K;obtain ⟨w1,w2,w3,w4,w5,w6⟩:=ixs (m:=k) (by omega);have jX:=HQ.out k hk;have e:=HA.out;rw [kq hk HB.out HP.out] at e;subst e;have e2:=HD.out;rw [if_neg (by omega),Int.toNat_natCast] at e2;have Nz:=Lib.hid e2;clear e2;repeat' with_reducible first|apply af|apply ae|apply aw|apply aE|apply aa|refine ah [] ?_|(apply ax;·go_simp)|(apply ab;intro X Y;go_simp;apply Y;clear Y X)
  apply gy [1,2,6] (fun k=>[(7,I k)]) (fun k=>([] : Hp)) (isT (qat s.q k) c) ((qat s.q k).length)
  ·go_simp<;>exact rfl
  ·go_simp
  ·intro j hj j9 j_ K2 gY;obtain ⟨x1,x2,x3,x4,x5,x6⟩:=ixs (m:=j) (by omega);have hp:¬(qat s.q k)[j]=c:=by
    have:=j_.out;simpa [isT,iK hj] using this
   repeat' with_reducible first|apply af|apply ae|apply aw|apply aE|apply bc|apply aa|refine ah [] ?_|(apply ax;·go_simp)|(apply ar;·go_simp)|(apply ab;intro X Y;go_simp;apply Y;clear Y X)
   refine gY _ ?_;go_simp
  ·intro j hj j9 j_ K2;have hp:(qat s.q k)[j]=c:=by
    have:=j_.out;simpa [isT,iK hj] using this
   have e3:=Nz.out;unfold fp at e3;rw [kq hj j9.out j_.out] at e3;subst e3;repeat' with_reducible first|apply af|apply ae|apply aW|apply az|apply aw|apply aE|apply dh|apply aa|refine ah [] ?_|(apply ax;·go_simp)|(apply ab;intro X Y;go_simp;apply Y;clear Y X)
   go_simp
  ·intro j9 K2;exfalso;have h1:=HP.out;unfold inQ fp at h1;rw [lg j9.out] at h1;simp at h1
 ·intro HB K;have e:=HA.out;rw [lg HB.out] at e;subst e;have e2:=HD.out;rw [if_pos (by decide)] at e2;subst e2;repeat' with_reducible first|apply af|apply ae|apply bU|apply az|apply bV|apply bW|apply aa|refine ah [] ?_|(apply ar;·go_simp)|(apply ab;intro X Y;go_simp;apply Y;clear Y X)
  go_simp
theorem NA (s:St) (c:ByteArray) (hl:s.tk.length≤1000000) : VC Tryz.prog 130 [dX s,S c] (I (eI s.tk c)):=by
 obtain ⟨R,hR⟩ : ∃ R,eI s.tk c=R:=⟨_,rfl⟩
 rw [hR];unfold eI at hR;have HR:=Lib.hid hR;clear hR;refine aL Tryz.func130 rfl (by kernel_rfl) rfl fun M0 w0=>?_;simp only [Tryz.ntmps130,Tryz.results130,aC];repeat' with_reducible first|apply af|apply ae|apply aE|apply aa|refine ah [] ?_|(apply ab;intro X Y;go_simp;apply Y;clear Y X)
 apply gy [1,2] (fun k=>[(5,I k)]) (fun k=>([] : Hp)) (mN s.tk c) (s.tk.length)
 ·go_simp<;>exact rfl
 ·go_simp
 ·intro k hk HB HP K hK;obtain ⟨w1,w2,w3,w4,w5,w6⟩:=ixs (m:=k) (by omega);have hp:¬(cl s.tk k).car=c:=of_decide_eq_false HP.out;repeat' with_reducible first|apply af|apply ae|apply aw|apply aE|apply bc|apply aa|refine ah [] ?_|(apply ax;·go_simp)|(apply ar;·go_simp)|(apply ab;intro X Y;go_simp;apply Y;clear Y X)
  refine hK _ ?_;go_simp
 ·intro k hk HB HP K;have hp:(cl s.tk k).car=c:=of_decide_eq_true HP.out;have e:=HR.out;rw [kq hk HB.out HP.out] at e;subst e;repeat' with_reducible first|apply af|apply ae|apply aW|apply az|apply aw|apply aE|apply dh|apply aa|refine ah [] ?_|(apply ax;·go_simp)|(apply ab;intro X Y;go_simp;apply Y;clear Y X)
  go_simp
 ·intro HB K;have e:=HR.out;rw [lg HB.out] at e;subst e;repeat' with_reducible first|apply af|apply ae|apply bU|apply az|apply bV|apply bW|apply aa|refine ah [] ?_|(apply ar;·go_simp)|(apply ab;intro X Y;go_simp;apply Y;clear Y X)
  go_simp
set_option maxHeartbeats 4000000
def y_ (s:St) (k:Nat) : List ByteArray:=(s.q.take k).flatten
@[go_sem] theorem Ri (s:St) : y_ s 0=[]:=by simp [y_]
def GM (s:St) (k:Nat) : List ByteArray:=s.q.flatten++(s.tk.take k).map (·.car)
@[go_sem] theorem Rj (s:St) : GM s 0=y_ s s.q.length:=by simp [GM,y_]
def NB (L:List ByteArray) : KV:=L.foldl (fun m c=>fm (.string c) (.bool true) m) []
@[go_sem] theorem Rl:NB []=[]:=rfl
theorem VC.args {P:Program} {f:FuncId} {args lD:List AV} {r:AV} (h:VC P f args r) (hl:lD.length=args.length) (ha:∀ (i:Nat) (a a':AV),args[i]? = some a→lD[i]? = some a'→∀ (w:World) (M:Nat→Nat→Prop) (v:Value),V0 w M a' v→V0 w M a v) : VC P f lD r:=
 ⟨h.1,fun w M vs hM iw hv=>h.2 w M vs hM (iw.trans hl) fun i a v hi NC=>by
  have ak:i < lD.length:=by
   rw [hl];exact (List.getElem?_eq_some_iff.1 hi).1
  exact ha i a _ hi (List.getElem?_eq_getElem ak) w M v (hv i _ v (List.getElem?_eq_getElem ak) NC)⟩
def cpT (es:List (List AV)) (tm:Int) (M:Nat→Nat→Prop) (w:World) (i:Nat) (v:Value) (w':World) : Prop:=
 if i=2 then ∃ b,v = .slice (some b) 0 0
 else if i=5 then OwnRow w w' M 148 3 (decide (es=[])) es v
 else if i=6 then ∃ v5,v = .agg #[.slice none 0 0,v5,.int .i64 tm]∧OwnRow w w' M 148 3 (decide (es=[])) es v5
 else ∃ b,v = .pointer (some ⟨b,0,none⟩)∧w.heap.size≤b∧w'.heap[b]? = some (.cells #[.slice none 0 0,.slice none 0 0,.int .i64 0] 32 (0,0))
theorem ND (es:List (List AV)) (tm:Int) (M:Nat→Nat→Prop) (w:World) (i:Nat) (v:Value) (w1 w2:World) (h:cpT es tm M w i v w1) (hb:Below w1.heap.size w1 w2) : cpT es tm M w i v w2:=by
 unfold cpT at h ⊢;split
 ·rename_i h2;rwa [if_pos h2] at h
 rename_i h2;rw [if_neg h2] at h;split
 ·rename_i h5;rw [if_pos h5] at h;exact h.later hb
 rename_i h5;rw [if_neg h5] at h;split
 ·rename_i h6;rw [if_pos h6] at h;obtain ⟨v5,e,h⟩:=h;exact ⟨v5,e,h.later hb⟩
 ·rename_i h6;rw [if_neg h6] at h;obtain ⟨b,e,h1,h3⟩:=h;exact ⟨b,e,h1,(hb.block b (Array.getElem?_eq_some_iff.1 h3).1).trans h3⟩
theorem NF (x:Tk) : (Tk.av x).length=3∧∀ c∈Tk.av x,∃ u,c = .lit u∧u.oneCell'=true:=by
 refine ⟨rfl,fun c hc=>?_⟩;simp only [Tk.av,List.mem_cons,List.not_mem_nil,or_false] at hc;rcases hc with rfl|rfl|rfl<;>exact ⟨_,rfl,rfl⟩
def NG (s:St) (k:Nat) : List (List AV):=(bA (s.q.take k)).map fun l=>[AV.sl 1 l]
@[go_sem] theorem Rm (s:St) : NG s 0=[]:=rfl
def woN (l:List ByteArray) (s:ByteArray) (k:Nat) : List ByteArray:=woT (l.take k) s
theorem NH {l:List ByteArray} {s:ByteArray} {k:Nat} (h:k < l.length) : woN l s (k+1)=if l[k]=s then woN l s k else woN l s k++[l[k]]:=by
 unfold woN woT;rw [tB h,List.filter_append];by_cases e:l[k]=s
 ·simp [e]
 ·simp [e]
theorem NI (l:List ByteArray) (s:ByteArray) (k:Nat) : (woN l s k).length≤k:=by
 unfold woN woT;exact Nat.le_trans (List.length_filter_le _ _) (by simp;omega)
theorem NJ (l:List ByteArray) (s:ByteArray) : woN l s l.length=woT l s:=by
 unfold woN;rw [List.take_length]
def wkN (l:List Tk) (s:ByteArray) (k:Nat) : List Tk:=woK (l.take k) s
theorem NK {l:List Tk} {s:ByteArray} {k:Nat} (h:k < l.length) : wkN l s (k+1)=if (cl l k).car=s then wkN l s k else wkN l s k++[cl l k]:=by
 rw [lf h];unfold wkN woK;rw [tB h,List.filter_append];by_cases e:l[k].car=s
 ·simp [e]
 ·simp [e]
theorem NL (l:List Tk) (s:ByteArray) (k:Nat) : (wkN l s k).length≤k:=by
 unfold wkN woK;exact Nat.le_trans (List.length_filter_le _ _) (by simp;omega)
theorem NN (l:List Tk) (s:ByteArray) : wkN l s l.length=woK l s:=by
 unfold wkN;rw [List.take_length]
theorem NO (l:List ByteArray) : ∀ (k:Nat) (x:List AV),(l.map bY)[k]? = some x→x.length=1∧∀ c∈x,cP c=true:=fun k x hx=>by
 obtain ⟨y,hy,rfl⟩:=eo hx;exact ⟨rfl,by simp [bY,cP,Value.oneCell']⟩
theorem NP (l:List Tk) : ∀ (k:Nat) (x:List AV),(l.map Tk.av)[k]? = some x→x.length=3∧∀ c∈x,cP c=true:=fun k x hx=>by
 obtain ⟨y,hy,rfl⟩:=eo hx;exact ⟨rfl,by simp [Tk.av,cP,Value.oneCell']⟩
theorem NQ (l:List ByteArray) (s:ByteArray) (hl:l.length≤1000000) : VCo Tryz.prog 132 [jm l,S s] 9 1 (decide (woT l s=[])) ((woT l s).map bY):=by
 rw [←NJ];have e0:woN l s 0=[]:=rfl;refine uP Tryz.func132 rfl (by kernel_rfl) (by kernel_rfl) rfl Tryz.results132 (by decide) (NO _) fun M0 w0=>?_;simp only [Tryz.ntmps132,aC];repeat' with_reducible first|apply af|apply ae|apply aE|apply aa|refine ah [5] ?_|(apply ab;intro X Y;go_simp;apply Y;clear Y X)
 apply jQ [0,1] (fun k=>[(6,I k),(5,.osl 0)]) (fun k=>([some (.arr 9 1 (decide (woN l s k=[])) ((woN l s k).map bY))] : Hp))  (l.length)
 ·go_simp<;>exact rfl
 ·go_simp
 ·intro k hk K hK;obtain ⟨w1,w2,w3,w4,w5,w6⟩:=ixs (m:=k) (by omega);have hs:=NH (s:=s) hk;have hb:(woN l s k).length+1≤1000000000:=by have:=NI l s k;omega
  clear e0;by_cases e:l[k]=s
  ·rw [if_pos e] at hs;have HS:=Lib.hid hs;clear hs;repeat' with_reducible first|apply af|apply ae|apply aw|apply aE|apply bc|apply aa|refine ah [] ?_|(apply ax;·go_simp)|(apply ar;·go_simp)|(apply ab;intro X Y;go_simp;apply Y;clear Y X)
   refine hK _ ?_;rw [HS.out];go_simp
  ·rw [if_neg e] at hs;have HS:=Lib.hid hs;clear hs;repeat' with_reducible first|apply af|apply ae|apply aw|apply aE|apply bc|apply aa|refine ah [] ?_|(apply ax;·go_simp)|(apply ab;intro X Y;go_simp;apply Y;clear Y X)
   refine hK _ ?_;rw [HS.out];go_simp
 ·intro K;clear e0;repeat' with_reducible first|apply af|apply ae|apply bU|apply az|apply bV|apply bW|apply aa|refine ah [] ?_|(apply ar;·go_simp)|(apply ab;intro X Y;go_simp;apply Y;clear Y X)
  exact ⟨0,rfl,rfl⟩
theorem NR (l:List Tk) (s:ByteArray) (hl:l.length≤1000000) : VCo Tryz.prog 131 [.sl 3 (l.map Tk.av),S s] 148 3 (decide (woK l s=[])) ((woK l s).map Tk.av):=by
 rw [←NN];have e0:wkN l s 0=[]:=rfl;refine uP Tryz.func131 rfl (by kernel_rfl) (by kernel_rfl) rfl Tryz.results131 (by decide) (NP _) fun M0 w0=>?_;simp only [Tryz.ntmps131,aC];repeat' with_reducible first|apply af|apply ae|apply aE|apply aa|refine ah [5] ?_|(apply ab;intro X Y;go_simp;apply Y;clear Y X)
 apply jQ [0,1] (fun k=>[(6,I k),(5,.osl 0)]) (fun k=>([some (.arr 148 3 (decide (wkN l s k=[])) ((wkN l s k).map Tk.av))] : Hp))  (l.length)
 ·go_simp<;>exact rfl
 ·go_simp
 ·intro k hk K hK;obtain ⟨w1,w2,w3,w4,w5,w6⟩:=ixs (m:=k) (by omega);have hs:=NK (s:=s) hk;have hb:(wkN l s k).length+1≤1000000000:=by have:=NL l s k;omega
  clear e0;by_cases e:(cl l k).car=s
  ·rw [if_pos e] at hs;have HS:=Lib.hid hs;clear hs;repeat' with_reducible first|apply af|apply ae|apply aw|apply aE|apply bc|apply aa|refine ah [] ?_|(apply ax;·go_simp)|(apply ar;·go_simp)|(apply ab;intro X Y;go_simp;apply Y;clear Y X)
   refine hK _ ?_;rw [HS.out];go_simp
  ·rw [if_neg e] at hs;have HS:=Lib.hid hs;clear hs;repeat' with_reducible first|apply af|apply ae|apply aw|apply aE|apply bc|apply aa|refine ah [] ?_|(apply ax;·go_simp)|(apply ab;intro X Y;go_simp;apply Y;clear Y X)
   refine hK _ ?_;rw [HS.out];go_simp
 ·intro K;clear e0;repeat' with_reducible first|apply af|apply ae|apply bU|apply az|apply bV|apply bW|apply aa|refine ah [] ?_|(apply ar;·go_simp)|(apply ab;intro X Y;go_simp;apply Y;clear Y X)
  exact ⟨0,rfl,rfl⟩
theorem Cj (l:List ByteArray) (s:ByteArray) (hl:l.length≤1000000) : VC Tryz.prog 132 [jm l,S s] (jm (woT l s)):=yY (NQ l s hl)
theorem GN (l:List Tk) (s:ByteArray) (hl:l.length≤1000000) : VC Tryz.prog 131 [.sl 3 (l.map Tk.av),S s] (.sl 3 ((woK l s).map Tk.av)):=yY (NR l s hl)
theorem NS (r:Ru) (s:St) (tm:Int) (k:Nat) (car:ByteArray) (hk:k < s.q.length) (hr:r.ranks.length=s.q.length) (hf:lh r s.q.length) (jX:s.q.length≤1000000) (dF:∀ k,k < s.q.length→(qat s.q k).length≤1000000) (_htl:s.tk.length≤1000000) : VC Tryz.prog 67 [bJ r,dX s,.agg [I 0,I tm,I (k:Int),S car]] (I (fst [unl (decide (s.time≤tm)) 9,doE r s ⟨0,tm,(k:Int),car⟩ k])):=by
 have cI:k < r.ranks.length:=by omega
 have fQ:=hf k hk;clear hf;by_cases ht:s.time≤tm
 ·have jd:¬tm < s.time:=by omega
  have g:=Ny s car jX dF;by_cases fH:0≤dY s.q car
  ·rw [show fst [unl (decide (s.time≤tm)) 9,doE r s ⟨0,tm,(k:Int),car⟩ k]=5 by simp [doE,iQ,fst,unl,fH,ht]];generalize dY s.q car=SK at *;generalize oR s.q car=FP at *;refine aL Tryz.func67 rfl (by kernel_rfl) rfl fun M0 w0=>?_;simp only [Tryz.ntmps67,Tryz.results67,aC];repeat' with_reducible first|apply af|apply ae|apply aw|apply aa|refine ah [] ?_|(apply ar;·go_simp)|(apply ab;intro X Y;go_simp;apply Y;clear Y X)
   refine fM 14 [] [⟨12,8,[.string ⟨#[]⟩,.int .i64 0,.int .i64 0,.bool false],none,[]⟩] (by kernel_rfl) (by go_simp) ?_;simp only [au];repeat (first|(refine fi rfl ?_)|((with_reducible refine fj rfl fun X Y=>?_);go_simp;refine Y _ (by go_simp) ?_;clear Y X)|(with_reducible apply fk))
   refine ⟨by go_simp,?_⟩;simp only [dP,eg,Slot.end_,List.cons_append,List.nil_append];repeat' with_reducible first|apply af|apply ae|apply aW|apply az|apply aE|apply dh|apply aa|refine ah [] ?_|(apply ax;·go_simp)|(apply ab;intro X Y;go_simp;(first|(refine ⟨_,g,?_⟩)|skip);apply Y;clear Y X)
   go_simp
  by_cases h1:(rat r.ranks k).feeder = -1
  ·clear fQ;by_cases bs:((qat s.q k).length:Int) < (rat r.ranks k).places
   ·have sq:¬(rat r.ranks k).places≤(qat s.q k).length:=by omega
    rw [show fst [unl (decide (s.time≤tm)) 9,doE r s ⟨0,tm,(k:Int),car⟩ k]=0 by simp [doE,iQ,iB,cm,feedN,fst,unl,fH,h1,bs,ht]];generalize dY s.q car=SK at *;generalize oR s.q car=FP at *;refine aL Tryz.func67 rfl (by kernel_rfl) rfl fun M0 w0=>?_;simp only [Tryz.ntmps67,Tryz.results67,aC];repeat' with_reducible first|apply af|apply ae|apply aw|apply aa|refine ah [] ?_|(apply ar;·go_simp)|(apply ab;intro X Y;go_simp;apply Y;clear Y X)
    refine fM 14 [] [⟨12,8,[.string ⟨#[]⟩,.int .i64 0,.int .i64 0,.bool false],none,[]⟩] (by kernel_rfl) (by go_simp) ?_;simp only [au];repeat (first|(refine fi rfl ?_)|((with_reducible refine fj rfl fun X Y=>?_);go_simp;refine Y _ (by go_simp) ?_;clear Y X)|(with_reducible apply fk))
    refine ⟨by go_simp,?_⟩;simp only [dP,eg,Slot.end_,List.cons_append,List.nil_append];repeat' with_reducible first|apply af|apply ae|apply az|apply aw|apply aE|apply bc|apply aa|refine ah [] ?_|(apply ax;·go_simp)|(apply ar;·go_simp)|(apply ab;intro X Y;go_simp;(first|(refine ⟨_,g,?_⟩)|skip);apply Y;clear Y X)
    go_simp
   ·have sq:(rat r.ranks k).places≤(qat s.q k).length:=by omega
    rw [show fst [unl (decide (s.time≤tm)) 9,doE r s ⟨0,tm,(k:Int),car⟩ k]=16 by simp [doE,iQ,iB,cm,feedN,fst,unl,fH,h1,bs,ht]];generalize dY s.q car=SK at *;generalize oR s.q car=FP at *;refine aL Tryz.func67 rfl (by kernel_rfl) rfl fun M0 w0=>?_;simp only [Tryz.ntmps67,Tryz.results67,aC];repeat' with_reducible first|apply af|apply ae|apply aw|apply aa|refine ah [] ?_|(apply ar;·go_simp)|(apply ab;intro X Y;go_simp;apply Y;clear Y X)
    refine fM 14 [] [⟨12,8,[.string ⟨#[]⟩,.int .i64 0,.int .i64 0,.bool false],none,[]⟩] (by kernel_rfl) (by go_simp) ?_;simp only [au];repeat (first|(refine fi rfl ?_)|((with_reducible refine fj rfl fun X Y=>?_);go_simp;refine Y _ (by go_simp) ?_;clear Y X)|(with_reducible apply fk))
    refine ⟨by go_simp,?_⟩;simp only [dP,eg,Slot.end_,List.cons_append,List.nil_append];repeat' with_reducible first|apply af|apply ae|apply aW|apply az|apply aw|apply aE|apply dh|apply aa|refine ah [] ?_|(apply ax;·go_simp)|(apply ar;·go_simp)|(apply ab;intro X Y;go_simp;(first|(refine ⟨_,g,?_⟩)|skip);apply Y;clear Y X)
    go_simp
  obtain ⟨f0,fl⟩:=fQ h1;clear fQ;obtain ⟨f,im⟩ : ∃ f:Nat,(rat r.ranks k).feeder=f:=⟨(rat r.ranks k).feeder.toNat,by omega⟩
  rw [im] at fl h1;simp only [Int.toNat_natCast] at fl;clear f0;by_cases h4:0 < (qat s.q f).length
  ·have h5:¬qat s.q f=[]:=fun h=>by rw [h] at h4;simp at h4
   rw [show fst [unl (decide (s.time≤tm)) 9,doE r s ⟨0,tm,(k:Int),car⟩ k]=13 by simp [doE,iQ,iB,feedN,fst,unl,fH,h1,im,h4,ht]];generalize dY s.q car=SK at *;generalize oR s.q car=FP at *;refine aL Tryz.func67 rfl (by kernel_rfl) rfl fun M0 w0=>?_;simp only [Tryz.ntmps67,Tryz.results67,aC];repeat' with_reducible first|apply af|apply ae|apply aw|apply aa|refine ah [] ?_|(apply ar;·go_simp)|(apply ab;intro X Y;go_simp;apply Y;clear Y X)
   refine fM 14 [] [⟨12,8,[.string ⟨#[]⟩,.int .i64 0,.int .i64 0,.bool false],none,[]⟩] (by kernel_rfl) (by go_simp) ?_;simp only [au];repeat (first|(refine fi rfl ?_)|((with_reducible refine fj rfl fun X Y=>?_);go_simp;refine Y _ (by go_simp) ?_;clear Y X)|(with_reducible apply fk))
   refine ⟨by go_simp,?_⟩;simp only [dP,eg,Slot.end_,List.cons_append,List.nil_append];repeat' with_reducible first|apply af|apply ae|apply aW|apply az|apply aw|apply aE|apply dh|apply aa|refine ah [] ?_|(apply ax;·go_simp)|(apply ar;·go_simp)|(apply ab;intro X Y;go_simp;(first|(refine ⟨_,g,?_⟩)|skip);apply Y;clear Y X)
   go_simp
  ·have h5:qat s.q f=[]:=List.eq_nil_of_length_eq_zero (by omega);by_cases bs:((qat s.q k).length:Int) < (rat r.ranks k).places
   ·have sq:¬(rat r.ranks k).places≤(qat s.q k).length:=by omega
    rw [show fst [unl (decide (s.time≤tm)) 9,doE r s ⟨0,tm,(k:Int),car⟩ k]=0 by simp [doE,iQ,iB,cm,feedN,fst,unl,fH,h1,im,h5,bs,ht]];generalize dY s.q car=SK at *;generalize oR s.q car=FP at *;refine aL Tryz.func67 rfl (by kernel_rfl) rfl fun M0 w0=>?_;simp only [Tryz.ntmps67,Tryz.results67,aC];repeat' with_reducible first|apply af|apply ae|apply aw|apply aa|refine ah [] ?_|(apply ar;·go_simp)|(apply ab;intro X Y;go_simp;apply Y;clear Y X)
    refine fM 14 [] [⟨12,8,[.string ⟨#[]⟩,.int .i64 0,.int .i64 0,.bool false],none,[]⟩] (by kernel_rfl) (by go_simp) ?_;simp only [au];repeat (first|(refine fi rfl ?_)|((with_reducible refine fj rfl fun X Y=>?_);go_simp;refine Y _ (by go_simp) ?_;clear Y X)|(with_reducible apply fk))
    refine ⟨by go_simp,?_⟩;simp only [dP,eg,Slot.end_,List.cons_append,List.nil_append];repeat' with_reducible first|apply af|apply ae|apply az|apply aw|apply aE|apply bc|apply aa|refine ah [] ?_|(apply ax;·go_simp)|(apply ar;·go_simp)|(apply ab;intro X Y;go_simp;(first|(refine ⟨_,g,?_⟩)|skip);apply Y;clear Y X)
    go_simp
   ·have sq:(rat r.ranks k).places≤(qat s.q k).length:=by omega
    rw [show fst [unl (decide (s.time≤tm)) 9,doE r s ⟨0,tm,(k:Int),car⟩ k]=16 by simp [doE,iQ,iB,cm,feedN,fst,unl,fH,h1,im,h5,bs,ht]];generalize dY s.q car=SK at *;generalize oR s.q car=FP at *;refine aL Tryz.func67 rfl (by kernel_rfl) rfl fun M0 w0=>?_;simp only [Tryz.ntmps67,Tryz.results67,aC];repeat' with_reducible first|apply af|apply ae|apply aw|apply aa|refine ah [] ?_|(apply ar;·go_simp)|(apply ab;intro X Y;go_simp;apply Y;clear Y X)
    refine fM 14 [] [⟨12,8,[.string ⟨#[]⟩,.int .i64 0,.int .i64 0,.bool false],none,[]⟩] (by kernel_rfl) (by go_simp) ?_;simp only [au];repeat (first|(refine fi rfl ?_)|((with_reducible refine fj rfl fun X Y=>?_);go_simp;refine Y _ (by go_simp) ?_;clear Y X)|(with_reducible apply fk))
    refine ⟨by go_simp,?_⟩;simp only [dP,eg,Slot.end_,List.cons_append,List.nil_append];repeat' with_reducible first|apply af|apply ae|apply aW|apply az|apply aw|apply aE|apply dh|apply aa|refine ah [] ?_|(apply ax;·go_simp)|(apply ar;·go_simp)|(apply ab;intro X Y;go_simp;(first|(refine ⟨_,g,?_⟩)|skip);apply Y;clear Y X)
    go_simp
 ·have jd:tm < s.time:=by omega
  rw [show fst [unl (decide (s.time≤tm)) 9,doE r s ⟨0,tm,(k:Int),car⟩ k]=9 by simp [fst,unl,ht]];refine aL Tryz.func67 rfl (by kernel_rfl) rfl fun M0 w0=>?_;simp only [Tryz.ntmps67,Tryz.results67,aC];repeat' with_reducible first|apply af|apply ae|apply aW|apply az|apply aa|refine ah [] ?_|(apply ax;·go_simp)|(apply ab;intro X Y;go_simp;apply Y;clear Y X)
  go_simp
theorem NT (r:Ru) (s:St) (tm:Int) (k:Nat) (car:ByteArray) (hk:k < s.q.length) (hr:r.ranks.length=s.q.length) (hf:lh r s.q.length) (_hql:s.q.length≤1000000) (_hqs:∀ k,k < s.q.length→(qat s.q k).length≤1000000) (xU:s.tk.length≤1000000) : VC Tryz.prog 67 [bJ r,dX s,.agg [I 1,I tm,I (k:Int),S car]] (I (fst [unl (decide (s.time≤tm)) 9,doE r s ⟨1,tm,(k:Int),car⟩ k])):=by
 have cI:k < r.ranks.length:=by omega
 have fQ:=hf k hk;clear hf;by_cases ht:s.time≤tm
 ·have jd:¬tm < s.time:=by omega
  clear fQ;by_cases kV:(qat s.q k).length=0
  ·have sh:qat s.q k=[]:=List.eq_nil_of_length_eq_zero kV;rw [show fst [unl (decide (s.time≤tm)) 9,doE r s ⟨1,tm,(k:Int),car⟩ k]=12 by simp [doE,kE,gH,fst,unl,sh,ht]];refine aL Tryz.func67 rfl (by kernel_rfl) rfl fun M0 w0=>?_;simp only [Tryz.ntmps67,Tryz.results67,aC];repeat' with_reducible first|apply af|apply ae|apply aw|apply aa|refine ah [] ?_|(apply ar;·go_simp)|(apply ab;intro X Y;go_simp;apply Y;clear Y X)
   refine fM 14 [] [⟨12,8,[.string ⟨#[]⟩,.int .i64 0,.int .i64 0,.bool false],none,[]⟩] (by kernel_rfl) (by go_simp) ?_;simp only [au];repeat (first|(refine fi rfl ?_)|((with_reducible refine fj rfl fun X Y=>?_);go_simp;refine Y _ (by go_simp) ?_;clear Y X)|(with_reducible apply fk))
   refine ⟨by go_simp,?_⟩;simp only [dP,eg,Slot.end_,List.cons_append,List.nil_append];repeat' with_reducible first|apply af|apply ae|apply aW|apply az|apply aw|apply aE|apply dh|apply aa|refine ah [] ?_|(apply ax;·go_simp)|(apply ar;·go_simp)|(apply ab;intro X Y;go_simp;apply Y;clear Y X)
   go_simp
  have sh:¬qat s.q k=[]:=fun h=>by rw [h] at kV;simp at kV
  have Ck:0 < (qat s.q k).length:=by omega
  have e0:(qat s.q k)[0]=tat (qat s.q k) 0:=(iK Ck).symm;by_cases hh:tat (qat s.q k) 0=car
  ·by_cases xG:(s.tk.length:Int) < 40
   ·have NU:¬40≤(s.tk.length:Int):=by omega
    rw [show fst [unl (decide (s.time≤tm)) 9,doE r s ⟨1,tm,(k:Int),car⟩ k]=0 by simp [doE,kE,gH,fst,unl,kV,hh,xG,ht]];refine aL Tryz.func67 rfl (by kernel_rfl) rfl fun M0 w0=>?_;simp only [Tryz.ntmps67,Tryz.results67,aC];repeat' with_reducible first|apply af|apply ae|apply aw|apply aa|refine ah [] ?_|(apply ar;·go_simp)|(apply ab;intro X Y;go_simp;apply Y;clear Y X)
    refine fM 14 [] [⟨12,8,[.string ⟨#[]⟩,.int .i64 0,.int .i64 0,.bool false],none,[]⟩] (by kernel_rfl) (by go_simp) ?_;simp only [au];repeat (first|(refine fi rfl ?_)|((with_reducible refine fj rfl fun X Y=>?_);go_simp;refine Y _ (by go_simp) ?_;clear Y X)|(with_reducible apply fk))
    refine ⟨by go_simp,?_⟩;simp only [dP,eg,Slot.end_,List.cons_append,List.nil_append];repeat' first|(with_reducible first|apply af|apply ae|apply az|apply aw|apply aE|apply bc|apply aa|refine ah [] ?_|apply aQ|(apply ax;·go_simp)|(apply ar;·go_simp)|((first|apply ab|apply aR);intro X Y;go_simp;apply Y;clear Y X))|((refine bw 6 6 [] rfl (by kernel_rfl) ?_);simp only [au])
    go_simp
   ·have NU:40≤(s.tk.length:Int):=by omega
    rw [show fst [unl (decide (s.time≤tm)) 9,doE r s ⟨1,tm,(k:Int),car⟩ k]=8 by simp [doE,kE,gH,fst,unl,kV,hh,xG,ht]];refine aL Tryz.func67 rfl (by kernel_rfl) rfl fun M0 w0=>?_;simp only [Tryz.ntmps67,Tryz.results67,aC];repeat' with_reducible first|apply af|apply ae|apply aw|apply aa|refine ah [] ?_|(apply ar;·go_simp)|(apply ab;intro X Y;go_simp;apply Y;clear Y X)
    refine fM 14 [] [⟨12,8,[.string ⟨#[]⟩,.int .i64 0,.int .i64 0,.bool false],none,[]⟩] (by kernel_rfl) (by go_simp) ?_;simp only [au];repeat (first|(refine fi rfl ?_)|((with_reducible refine fj rfl fun X Y=>?_);go_simp;refine Y _ (by go_simp) ?_;clear Y X)|(with_reducible apply fk))
    refine ⟨by go_simp,?_⟩;simp only [dP,eg,Slot.end_,List.cons_append,List.nil_append];repeat' first|(with_reducible first|apply af|apply ae|apply aW|apply az|apply aw|apply aE|apply dh|apply aa|refine ah [] ?_|apply aQ|(apply ax;·go_simp)|(apply ar;·go_simp)|((first|apply ab|apply aR);intro X Y;go_simp;apply Y;clear Y X))|((refine bw 6 6 [] rfl (by kernel_rfl) ?_);simp only [au])
    go_simp
  ·rw [show fst [unl (decide (s.time≤tm)) 9,doE r s ⟨1,tm,(k:Int),car⟩ k]=13 by simp [doE,kE,gH,fst,unl,kV,hh,ht]];refine aL Tryz.func67 rfl (by kernel_rfl) rfl fun M0 w0=>?_;simp only [Tryz.ntmps67,Tryz.results67,aC];repeat' with_reducible first|apply af|apply ae|apply aw|apply aa|refine ah [] ?_|(apply ar;·go_simp)|(apply ab;intro X Y;go_simp;apply Y;clear Y X)
   refine fM 14 [] [⟨12,8,[.string ⟨#[]⟩,.int .i64 0,.int .i64 0,.bool false],none,[]⟩] (by kernel_rfl) (by go_simp) ?_;simp only [au];repeat (first|(refine fi rfl ?_)|((with_reducible refine fj rfl fun X Y=>?_);go_simp;refine Y _ (by go_simp) ?_;clear Y X)|(with_reducible apply fk))
   refine ⟨by go_simp,?_⟩;simp only [dP,eg,Slot.end_,List.cons_append,List.nil_append];repeat' first|(with_reducible first|apply af|apply ae|apply aW|apply az|apply aw|apply aE|apply dh|apply aa|refine ah [] ?_|apply aQ|(apply ax;·go_simp)|(apply ar;·go_simp)|((first|apply ab|apply aR);intro X Y;go_simp;apply Y;clear Y X))|((refine bw 6 6 [] rfl (by kernel_rfl) ?_);simp only [au])
   go_simp
 ·have jd:tm < s.time:=by omega
  rw [show fst [unl (decide (s.time≤tm)) 9,doE r s ⟨1,tm,(k:Int),car⟩ k]=9 by simp [fst,unl,ht]];refine aL Tryz.func67 rfl (by kernel_rfl) rfl fun M0 w0=>?_;simp only [Tryz.ntmps67,Tryz.results67,aC];repeat' with_reducible first|apply af|apply ae|apply aW|apply az|apply aa|refine ah [] ?_|(apply ax;·go_simp)|(apply ab;intro X Y;go_simp;apply Y;clear Y X)
  go_simp
theorem NV (r:Ru) (s:St) (tm:Int) (k:Nat) (car:ByteArray) (hk:k < s.q.length) (hr:r.ranks.length=s.q.length) (hf:lh r s.q.length) (_hql:s.q.length≤1000000) (_hqs:∀ k,k < s.q.length→(qat s.q k).length≤1000000) (_htl:s.tk.length≤1000000) : VC Tryz.prog 67 [bJ r,dX s,.agg [I 2,I tm,I (k:Int),S car]] (I (fst [unl (decide (s.time≤tm)) 9,doE r s ⟨2,tm,(k:Int),car⟩ k])):=by
 have cI:k < r.ranks.length:=by omega
 have fQ:=hf k hk;clear hf;by_cases ht:s.time≤tm
 ·have jd:¬tm < s.time:=by omega
  clear fQ;by_cases kV:(qat s.q k).length=0
  ·have sh:qat s.q k=[]:=List.eq_nil_of_length_eq_zero kV;rw [show fst [unl (decide (s.time≤tm)) 9,doE r s ⟨2,tm,(k:Int),car⟩ k]=12 by simp [doE,gH,fst,unl,sh,ht]];refine aL Tryz.func67 rfl (by kernel_rfl) rfl fun M0 w0=>?_;simp only [Tryz.ntmps67,Tryz.results67,aC];repeat' with_reducible first|apply af|apply ae|apply aw|apply aa|refine ah [] ?_|(apply ar;·go_simp)|(apply ab;intro X Y;go_simp;apply Y;clear Y X)
   refine fM 14 [] [⟨12,8,[.string ⟨#[]⟩,.int .i64 0,.int .i64 0,.bool false],none,[]⟩] (by kernel_rfl) (by go_simp) ?_;simp only [au];repeat (first|(refine fi rfl ?_)|((with_reducible refine fj rfl fun X Y=>?_);go_simp;refine Y _ (by go_simp) ?_;clear Y X)|(with_reducible apply fk))
   refine ⟨by go_simp,?_⟩;simp only [dP,eg,Slot.end_,List.cons_append,List.nil_append];repeat' with_reducible first|apply af|apply ae|apply aW|apply az|apply aE|apply dh|apply aa|refine ah [] ?_|(apply ax;·go_simp)|(apply ar;·go_simp)|(apply ab;intro X Y;go_simp;apply Y;clear Y X)
   go_simp
  have sh:¬qat s.q k=[]:=fun h=>by rw [h] at kV;simp at kV
  have Ck:0 < (qat s.q k).length:=by omega
  have e0:(qat s.q k)[0]=tat (qat s.q k) 0:=(iK Ck).symm;by_cases hh:tat (qat s.q k) 0=car
  ·rw [show fst [unl (decide (s.time≤tm)) 9,doE r s ⟨2,tm,(k:Int),car⟩ k]=0 by simp [doE,gH,fst,unl,kV,hh,ht]];refine aL Tryz.func67 rfl (by kernel_rfl) rfl fun M0 w0=>?_;simp only [Tryz.ntmps67,Tryz.results67,aC];repeat' with_reducible first|apply af|apply ae|apply aw|apply aa|refine ah [] ?_|(apply ar;·go_simp)|(apply ab;intro X Y;go_simp;apply Y;clear Y X)
   refine fM 14 [] [⟨12,8,[.string ⟨#[]⟩,.int .i64 0,.int .i64 0,.bool false],none,[]⟩] (by kernel_rfl) (by go_simp) ?_;simp only [au];repeat (first|(refine fi rfl ?_)|((with_reducible refine fj rfl fun X Y=>?_);go_simp;refine Y _ (by go_simp) ?_;clear Y X)|(with_reducible apply fk))
   refine ⟨by go_simp,?_⟩;simp only [dP,eg,Slot.end_,List.cons_append,List.nil_append];repeat' first|(with_reducible first|apply af|apply ae|apply az|apply aw|apply aE|apply bc|apply aa|refine ah [] ?_|apply aQ|(apply ax;·go_simp)|(apply ar;·go_simp)|((first|apply ab|apply aR);intro X Y;go_simp;apply Y;clear Y X))|((refine bw 6 6 [] rfl (by kernel_rfl) ?_);simp only [au])
   go_simp
  ·rw [show fst [unl (decide (s.time≤tm)) 9,doE r s ⟨2,tm,(k:Int),car⟩ k]=13 by simp [doE,gH,fst,unl,kV,hh,ht]];refine aL Tryz.func67 rfl (by kernel_rfl) rfl fun M0 w0=>?_;simp only [Tryz.ntmps67,Tryz.results67,aC];repeat' with_reducible first|apply af|apply ae|apply aw|apply aa|refine ah [] ?_|(apply ar;·go_simp)|(apply ab;intro X Y;go_simp;apply Y;clear Y X)
   refine fM 14 [] [⟨12,8,[.string ⟨#[]⟩,.int .i64 0,.int .i64 0,.bool false],none,[]⟩] (by kernel_rfl) (by go_simp) ?_;simp only [au];repeat (first|(refine fi rfl ?_)|((with_reducible refine fj rfl fun X Y=>?_);go_simp;refine Y _ (by go_simp) ?_;clear Y X)|(with_reducible apply fk))
   refine ⟨by go_simp,?_⟩;simp only [dP,eg,Slot.end_,List.cons_append,List.nil_append];repeat' first|(with_reducible first|apply af|apply ae|apply aW|apply az|apply aw|apply aE|apply dh|apply aa|refine ah [] ?_|apply aQ|(apply ax;·go_simp)|(apply ar;·go_simp)|((first|apply ab|apply aR);intro X Y;go_simp;apply Y;clear Y X))|((refine bw 6 6 [] rfl (by kernel_rfl) ?_);simp only [au])
   go_simp
 ·have jd:tm < s.time:=by omega
  rw [show fst [unl (decide (s.time≤tm)) 9,doE r s ⟨2,tm,(k:Int),car⟩ k]=9 by simp [fst,unl,ht]];refine aL Tryz.func67 rfl (by kernel_rfl) rfl fun M0 w0=>?_;simp only [Tryz.ntmps67,Tryz.results67,aC];repeat' with_reducible first|apply af|apply ae|apply aW|apply az|apply aa|refine ah [] ?_|(apply ax;·go_simp)|(apply ab;intro X Y;go_simp;apply Y;clear Y X)
  go_simp
theorem NW (r:Ru) (s:St) (tm:Int) (k:Nat) (car:ByteArray) (hk:k < s.q.length) (hr:r.ranks.length=s.q.length) (hf:lh r s.q.length) (_hql:s.q.length≤1000000) (dF:∀ k,k < s.q.length→(qat s.q k).length≤1000000) (_htl:s.tk.length≤1000000) : VC Tryz.prog 67 [bJ r,dX s,.agg [I 3,I tm,I (k:Int),S car]] (I (fst [unl (decide (s.time≤tm)) 9,doE r s ⟨3,tm,(k:Int),car⟩ k])):=by
 have cI:k < r.ranks.length:=by omega
 have fQ:=hf k hk;clear hf;by_cases ht:s.time≤tm
 ·have jd:¬tm < s.time:=by omega
  clear fQ;have g:=MO (qat s.q k) car (dF k hk);have iz:iu (isT (qat s.q k) car) 0 (qat s.q k).length=decide (0≤fp (qat s.q k) car):=(xW _ _).symm;rw [iz] at g;by_cases hi:fp (qat s.q k) car < 0
  ·have bD:¬0≤fp (qat s.q k) car:=by omega
   rw [decide_eq_false bD] at g;rw [show fst [unl (decide (s.time≤tm)) 9,doE r s ⟨3,tm,(k:Int),car⟩ k]=6 by simp [doE,qk,fst,unl,hi,ht]];refine aL Tryz.func67 rfl (by kernel_rfl) rfl fun M0 w0=>?_;simp only [Tryz.ntmps67,Tryz.results67,aC];repeat' with_reducible first|apply af|apply ae|apply aw|apply aa|refine ah [] ?_|(apply ar;·go_simp)|(apply ab;intro X Y;go_simp;apply Y;clear Y X)
   refine fM 14 [] [⟨12,8,[.string ⟨#[]⟩,.int .i64 0,.int .i64 0,.bool false],none,[]⟩] (by kernel_rfl) (by go_simp) ?_;simp only [au];repeat (first|(refine fi rfl ?_)|((with_reducible refine fj rfl fun X Y=>?_);go_simp;refine Y _ (by go_simp) ?_;clear Y X)|(with_reducible apply fk))
   refine ⟨by go_simp,?_⟩;simp only [dP,eg,Slot.end_,List.cons_append,List.nil_append];repeat' with_reducible first|apply af|apply ae|apply aW|apply az|apply aE|apply dh|apply aa|refine ah [] ?_|(apply ax;·go_simp)|(apply ar;·go_simp)|(apply ab;intro X Y;go_simp;(first|(refine ⟨_,g,?_⟩)|skip);apply Y;clear Y X)
   go_simp
  ·have bD:0≤fp (qat s.q k) car:=by omega
   rw [decide_eq_true bD] at g;rw [show fst [unl (decide (s.time≤tm)) 9,doE r s ⟨3,tm,(k:Int),car⟩ k]=0 by simp [doE,qk,fst,unl,hi,ht]];refine aL Tryz.func67 rfl (by kernel_rfl) rfl fun M0 w0=>?_;simp only [Tryz.ntmps67,Tryz.results67,aC];repeat' with_reducible first|apply af|apply ae|apply aw|apply aa|refine ah [] ?_|(apply ar;·go_simp)|(apply ab;intro X Y;go_simp;apply Y;clear Y X)
   refine fM 14 [] [⟨12,8,[.string ⟨#[]⟩,.int .i64 0,.int .i64 0,.bool false],none,[]⟩] (by kernel_rfl) (by go_simp) ?_;simp only [au];repeat (first|(refine fi rfl ?_)|((with_reducible refine fj rfl fun X Y=>?_);go_simp;refine Y _ (by go_simp) ?_;clear Y X)|(with_reducible apply fk))
   refine ⟨by go_simp,?_⟩;simp only [dP,eg,Slot.end_,List.cons_append,List.nil_append];repeat' with_reducible first|apply af|apply ae|apply az|apply aw|apply aE|apply bc|apply aa|refine ah [] ?_|(apply ax;·go_simp)|(apply ar;·go_simp)|(apply ab;intro X Y;go_simp;(first|(refine ⟨_,g,?_⟩)|skip);apply Y;clear Y X)
   go_simp
 ·have jd:tm < s.time:=by omega
  rw [show fst [unl (decide (s.time≤tm)) 9,doE r s ⟨3,tm,(k:Int),car⟩ k]=9 by simp [fst,unl,ht]];refine aL Tryz.func67 rfl (by kernel_rfl) rfl fun M0 w0=>?_;simp only [Tryz.ntmps67,Tryz.results67,aC];repeat' with_reducible first|apply af|apply ae|apply aW|apply az|apply aa|refine ah [] ?_|(apply ax;·go_simp)|(apply ab;intro X Y;go_simp;apply Y;clear Y X)
  go_simp
theorem NY (r:Ru) (s:St) (tm:Int) (k:Nat) (car:ByteArray) (hk:k < s.q.length) (hr:r.ranks.length=s.q.length) (hf:lh r s.q.length) (_hql:s.q.length≤1000000) (_hqs:∀ k,k < s.q.length→(qat s.q k).length≤1000000) (_htl:s.tk.length≤1000000) : VC Tryz.prog 67 [bJ r,dX s,.agg [I 4,I tm,I (k:Int),S car]] (I (fst [unl (decide (s.time≤tm)) 9,doE r s ⟨4,tm,(k:Int),car⟩ k])):=by
 have cI:k < r.ranks.length:=by omega
 have fQ:=hf k hk;clear hf;by_cases ht:s.time≤tm
 ·have jd:¬tm < s.time:=by omega
  by_cases h1:(rat r.ranks k).feeder = -1
  ·clear fQ;rw [show fst [unl (decide (s.time≤tm)) 9,doE r s ⟨4,tm,(k:Int),car⟩ k]=6 by simp [doE,jz,fst,unl,h1,ht]];refine aL Tryz.func67 rfl (by kernel_rfl) rfl fun M0 w0=>?_;simp only [Tryz.ntmps67,Tryz.results67,aC];repeat' with_reducible first|apply af|apply ae|apply aw|apply aa|refine ah [] ?_|(apply ar;·go_simp)|(apply ab;intro X Y;go_simp;apply Y;clear Y X)
   refine fM 14 [] [⟨12,8,[.string ⟨#[]⟩,.int .i64 0,.int .i64 0,.bool false],none,[]⟩] (by kernel_rfl) (by go_simp) ?_;simp only [au];repeat (first|(refine fi rfl ?_)|((with_reducible refine fj rfl fun X Y=>?_);go_simp;refine Y _ (by go_simp) ?_;clear Y X)|(with_reducible apply fk))
   refine ⟨by go_simp,?_⟩;simp only [dP,eg,Slot.end_,List.cons_append,List.nil_append];repeat' with_reducible first|apply af|apply ae|apply aW|apply az|apply aE|apply dh|apply aa|refine ah [] ?_|(apply ax;·go_simp)|(apply ar;·go_simp)|(apply ab;intro X Y;go_simp;apply Y;clear Y X)
   go_simp
  obtain ⟨f0,fl⟩:=fQ h1;clear fQ;obtain ⟨f,im⟩ : ∃ f:Nat,(rat r.ranks k).feeder=f:=⟨(rat r.ranks k).feeder.toNat,by omega⟩
  rw [im] at fl h1;simp only [Int.toNat_natCast] at fl;clear f0;cases h2:(rat r.ranks k).called
  ·rw [show fst [unl (decide (s.time≤tm)) 9,doE r s ⟨4,tm,(k:Int),car⟩ k]=22 by simp [doE,jz,fst,unl,h1,h2,im,ht]];refine aL Tryz.func67 rfl (by kernel_rfl) rfl fun M0 w0=>?_;simp only [Tryz.ntmps67,Tryz.results67,aC];repeat' with_reducible first|apply af|apply ae|apply aw|apply aa|refine ah [] ?_|(apply ar;·go_simp)|(apply ab;intro X Y;go_simp;apply Y;clear Y X)
   refine fM 14 [] [⟨12,8,[.string ⟨#[]⟩,.int .i64 0,.int .i64 0,.bool false],none,[]⟩] (by kernel_rfl) (by go_simp) ?_;simp only [au];repeat (first|(refine fi rfl ?_)|((with_reducible refine fj rfl fun X Y=>?_);go_simp;refine Y _ (by go_simp) ?_;clear Y X)|(with_reducible apply fk))
   refine ⟨by go_simp,?_⟩;simp only [dP,eg,Slot.end_,List.cons_append,List.nil_append];repeat' with_reducible first|apply af|apply ae|apply aW|apply az|apply aw|apply aE|apply dh|apply aa|refine ah [] ?_|(apply ax;·go_simp)|(apply ar;·go_simp)|(apply ab;intro X Y;go_simp;apply Y;clear Y X)
   go_simp
  by_cases h4:0 < (qat s.q f).length
  ·have h5:¬qat s.q f=[]:=fun h=>by rw [h] at h4;simp at h4
   by_cases bs:((qat s.q k).length:Int) < (rat r.ranks k).places
   ·have sq:¬(rat r.ranks k).places≤(qat s.q k).length:=by omega
    rw [show fst [unl (decide (s.time≤tm)) 9,doE r s ⟨4,tm,(k:Int),car⟩ k]=0 by simp [doE,jz,cm,feedN,fst,unl,h1,h2,im,h4,bs,ht]];refine aL Tryz.func67 rfl (by kernel_rfl) rfl fun M0 w0=>?_;simp only [Tryz.ntmps67,Tryz.results67,aC];repeat' with_reducible first|apply af|apply ae|apply aw|apply aa|refine ah [] ?_|(apply ar;·go_simp)|(apply ab;intro X Y;go_simp;apply Y;clear Y X)
    refine fM 14 [] [⟨12,8,[.string ⟨#[]⟩,.int .i64 0,.int .i64 0,.bool false],none,[]⟩] (by kernel_rfl) (by go_simp) ?_;simp only [au];repeat (first|(refine fi rfl ?_)|((with_reducible refine fj rfl fun X Y=>?_);go_simp;refine Y _ (by go_simp) ?_;clear Y X)|(with_reducible apply fk))
    refine ⟨by go_simp,?_⟩;simp only [dP,eg,Slot.end_,List.cons_append,List.nil_append];repeat' with_reducible first|apply af|apply ae|apply az|apply aw|apply aE|apply bc|apply aa|refine ah [] ?_|(apply ax;·go_simp)|(apply ar;·go_simp)|(apply ab;intro X Y;go_simp;apply Y;clear Y X)
    go_simp
   ·have sq:(rat r.ranks k).places≤(qat s.q k).length:=by omega
    rw [show fst [unl (decide (s.time≤tm)) 9,doE r s ⟨4,tm,(k:Int),car⟩ k]=16 by simp [doE,jz,cm,feedN,fst,unl,h1,h2,im,h4,bs,ht]];refine aL Tryz.func67 rfl (by kernel_rfl) rfl fun M0 w0=>?_;simp only [Tryz.ntmps67,Tryz.results67,aC];repeat' with_reducible first|apply af|apply ae|apply aw|apply aa|refine ah [] ?_|(apply ar;·go_simp)|(apply ab;intro X Y;go_simp;apply Y;clear Y X)
    refine fM 14 [] [⟨12,8,[.string ⟨#[]⟩,.int .i64 0,.int .i64 0,.bool false],none,[]⟩] (by kernel_rfl) (by go_simp) ?_;simp only [au];repeat (first|(refine fi rfl ?_)|((with_reducible refine fj rfl fun X Y=>?_);go_simp;refine Y _ (by go_simp) ?_;clear Y X)|(with_reducible apply fk))
    refine ⟨by go_simp,?_⟩;simp only [dP,eg,Slot.end_,List.cons_append,List.nil_append];repeat' with_reducible first|apply af|apply ae|apply aW|apply az|apply aw|apply aE|apply dh|apply aa|refine ah [] ?_|(apply ax;·go_simp)|(apply ar;·go_simp)|(apply ab;intro X Y;go_simp;apply Y;clear Y X)
    go_simp
  ·have h5:qat s.q f=[]:=List.eq_nil_of_length_eq_zero (by omega);rw [show fst [unl (decide (s.time≤tm)) 9,doE r s ⟨4,tm,(k:Int),car⟩ k]=12 by simp [doE,jz,feedN,fst,unl,h1,h2,im,h5,ht]];refine aL Tryz.func67 rfl (by kernel_rfl) rfl fun M0 w0=>?_;simp only [Tryz.ntmps67,Tryz.results67,aC];repeat' with_reducible first|apply af|apply ae|apply aw|apply aa|refine ah [] ?_|(apply ar;·go_simp)|(apply ab;intro X Y;go_simp;apply Y;clear Y X)
   refine fM 14 [] [⟨12,8,[.string ⟨#[]⟩,.int .i64 0,.int .i64 0,.bool false],none,[]⟩] (by kernel_rfl) (by go_simp) ?_;simp only [au];repeat (first|(refine fi rfl ?_)|((with_reducible refine fj rfl fun X Y=>?_);go_simp;refine Y _ (by go_simp) ?_;clear Y X)|(with_reducible apply fk))
   refine ⟨by go_simp,?_⟩;simp only [dP,eg,Slot.end_,List.cons_append,List.nil_append];repeat' with_reducible first|apply af|apply ae|apply aW|apply az|apply aw|apply aE|apply dh|apply aa|refine ah [] ?_|(apply ax;·go_simp)|(apply ar;·go_simp)|(apply ab;intro X Y;go_simp;apply Y;clear Y X)
   go_simp
 ·have jd:tm < s.time:=by omega
  rw [show fst [unl (decide (s.time≤tm)) 9,doE r s ⟨4,tm,(k:Int),car⟩ k]=9 by simp [fst,unl,ht]];refine aL Tryz.func67 rfl (by kernel_rfl) rfl fun M0 w0=>?_;simp only [Tryz.ntmps67,Tryz.results67,aC];repeat' with_reducible first|apply af|apply ae|apply aW|apply az|apply aa|refine ah [] ?_|(apply ax;·go_simp)|(apply ab;intro X Y;go_simp;apply Y;clear Y X)
  go_simp
theorem NZ (r:Ru) (s:St) (tm:Int) (k:Nat) (car:ByteArray) (hk:k < s.q.length) (hr:r.ranks.length=s.q.length) (hf:lh r s.q.length) (_hql:s.q.length≤1000000) (_hqs:∀ k,k < s.q.length→(qat s.q k).length≤1000000) (xU:s.tk.length≤1000000) (za:∀ i,i < s.tk.length→IntKind.i64.wrap (tm - (cl s.tk i).time)=tm - (cl s.tk i).time) : VC Tryz.prog 67 [bJ r,dX s,.agg [I 5,I tm,I (k:Int),S car]] (I (fst [unl (decide (s.time≤tm)) 9,doE r s ⟨5,tm,(k:Int),car⟩ k])):=by
 have cI:k < r.ranks.length:=by omega
 have fQ:=hf k hk;clear hf;by_cases ht:s.time≤tm
 ·have jd:¬tm < s.time:=by omega
  clear fQ;have g:=NA s car xU;by_cases hi:eI s.tk car < 0
  ·rw [show fst [unl (decide (s.time≤tm)) 9,doE r s ⟨5,tm,(k:Int),car⟩ k]=6 by simp [doE,lv,fst,unl,hi,ht]];refine aL Tryz.func67 rfl (by kernel_rfl) rfl fun M0 w0=>?_;simp only [Tryz.ntmps67,Tryz.results67,aC];repeat' with_reducible first|apply af|apply ae|apply aw|apply aa|refine ah [] ?_|(apply ar;·go_simp)|(apply ab;intro X Y;go_simp;apply Y;clear Y X)
   refine fM 14 [] [⟨12,8,[.string ⟨#[]⟩,.int .i64 0,.int .i64 0,.bool false],none,[]⟩] (by kernel_rfl) (by go_simp) ?_;simp only [au];repeat (first|(refine fi rfl ?_)|((with_reducible refine fj rfl fun X Y=>?_);go_simp;refine Y _ (by go_simp) ?_;clear Y X)|(with_reducible apply fk))
   refine ⟨by go_simp,?_⟩;simp only [dP,eg,Slot.end_,List.cons_append,List.nil_append];repeat' first|(with_reducible first|apply af|apply ae|apply aW|apply az|apply aE|apply dh|apply aa|refine ah [] ?_|apply aQ|(apply ax;·go_simp)|(apply ar;·go_simp)|((first|apply ab|apply aR);intro X Y;go_simp;(first|(refine ⟨_,g,?_⟩)|skip);apply Y;clear Y X))|((refine bw 13 13 [] rfl (by kernel_rfl) ?_);simp only [au])
   go_simp
  obtain ⟨i,ei,cC,_⟩:=tj (Classical.byContradiction fun hh=>hi (oF.2 hh));have zb:tc s ⟨5,tm,(k:Int),car⟩=cl s.tk i:=by unfold tc;rw [ei,Int.toNat_natCast]
  rw [ei] at g;have rN:¬(i:Int) < 0:=by omega
  by_cases tl:(cl s.tk i).rank=k
  ·have Rn:=za i cC;by_cases ak:tm - (cl s.tk i).time≤r.ret
   ·have kg:¬r.ret < tm - (cl s.tk i).time:=by omega
    by_cases bs:((qat s.q k).length:Int) < (rat r.ranks k).places
    ·have sq:¬(rat r.ranks k).places≤(qat s.q k).length:=by omega
     rw [show fst [unl (decide (s.time≤tm)) 9,doE r s ⟨5,tm,(k:Int),car⟩ k]=0 by simp [doE,lv,cm,fst,unl,ei,rN,zb,tl,ak,bs,ht]];refine aL Tryz.func67 rfl (by kernel_rfl) rfl fun M0 w0=>?_;simp only [Tryz.ntmps67,Tryz.results67,aC];repeat' with_reducible first|apply af|apply ae|apply aw|apply aa|refine ah [] ?_|(apply ar;·go_simp)|(apply ab;intro X Y;go_simp;apply Y;clear Y X)
     refine fM 14 [] [⟨12,8,[.string ⟨#[]⟩,.int .i64 0,.int .i64 0,.bool false],none,[]⟩] (by kernel_rfl) (by go_simp) ?_;simp only [au];repeat (first|(refine fi rfl ?_)|((with_reducible refine fj rfl fun X Y=>?_);go_simp;refine Y _ (by go_simp) ?_;clear Y X)|(with_reducible apply fk))
     refine ⟨by go_simp,?_⟩;simp only [dP,eg,Slot.end_,List.cons_append,List.nil_append];repeat' first|(with_reducible first|apply af|apply ae|apply az|apply aw|apply aE|apply bc|apply aa|refine ah [] ?_|apply aQ|(apply ax;·go_simp)|(apply ar;·go_simp)|((first|apply ab|apply aR);intro X Y;go_simp;(first|(refine ⟨_,g,?_⟩)|skip);apply Y;clear Y X))|((refine bw 12 12 [] rfl (by kernel_rfl) ?_);simp only [au])|((refine bw 13 13 [] rfl (by kernel_rfl) ?_);simp only [au])
     go_simp
    ·have sq:(rat r.ranks k).places≤(qat s.q k).length:=by omega
     rw [show fst [unl (decide (s.time≤tm)) 9,doE r s ⟨5,tm,(k:Int),car⟩ k]=16 by simp [doE,lv,cm,fst,unl,ei,rN,zb,tl,ak,bs,ht]];refine aL Tryz.func67 rfl (by kernel_rfl) rfl fun M0 w0=>?_;simp only [Tryz.ntmps67,Tryz.results67,aC];repeat' with_reducible first|apply af|apply ae|apply aw|apply aa|refine ah [] ?_|(apply ar;·go_simp)|(apply ab;intro X Y;go_simp;apply Y;clear Y X)
     refine fM 14 [] [⟨12,8,[.string ⟨#[]⟩,.int .i64 0,.int .i64 0,.bool false],none,[]⟩] (by kernel_rfl) (by go_simp) ?_;simp only [au];repeat (first|(refine fi rfl ?_)|((with_reducible refine fj rfl fun X Y=>?_);go_simp;refine Y _ (by go_simp) ?_;clear Y X)|(with_reducible apply fk))
     refine ⟨by go_simp,?_⟩;simp only [dP,eg,Slot.end_,List.cons_append,List.nil_append];repeat' first|(with_reducible first|apply af|apply ae|apply aW|apply az|apply aw|apply aE|apply dh|apply aa|refine ah [] ?_|apply aQ|(apply ax;·go_simp)|(apply ar;·go_simp)|((first|apply ab|apply aR);intro X Y;go_simp;(first|(refine ⟨_,g,?_⟩)|skip);apply Y;clear Y X))|((refine bw 12 12 [] rfl (by kernel_rfl) ?_);simp only [au])|((refine bw 13 13 [] rfl (by kernel_rfl) ?_);simp only [au])
     go_simp
   ·have kg:r.ret < tm - (cl s.tk i).time:=by omega
    rw [show fst [unl (decide (s.time≤tm)) 9,doE r s ⟨5,tm,(k:Int),car⟩ k]=25 by simp [doE,lv,fst,unl,ei,rN,zb,tl,ak,ht]];refine aL Tryz.func67 rfl (by kernel_rfl) rfl fun M0 w0=>?_;simp only [Tryz.ntmps67,Tryz.results67,aC];repeat' with_reducible first|apply af|apply ae|apply aw|apply aa|refine ah [] ?_|(apply ar;·go_simp)|(apply ab;intro X Y;go_simp;apply Y;clear Y X)
    refine fM 14 [] [⟨12,8,[.string ⟨#[]⟩,.int .i64 0,.int .i64 0,.bool false],none,[]⟩] (by kernel_rfl) (by go_simp) ?_;simp only [au];repeat (first|(refine fi rfl ?_)|((with_reducible refine fj rfl fun X Y=>?_);go_simp;refine Y _ (by go_simp) ?_;clear Y X)|(with_reducible apply fk))
    refine ⟨by go_simp,?_⟩;simp only [dP,eg,Slot.end_,List.cons_append,List.nil_append];repeat' first|(with_reducible first|apply af|apply ae|apply aW|apply az|apply aw|apply aE|apply dh|apply aa|refine ah [] ?_|apply aQ|(apply ax;·go_simp)|(apply ar;·go_simp)|((first|apply ab|apply aR);intro X Y;go_simp;(first|(refine ⟨_,g,?_⟩)|skip);apply Y;clear Y X))|((refine bw 12 12 [] rfl (by kernel_rfl) ?_);simp only [au])|((refine bw 13 13 [] rfl (by kernel_rfl) ?_);simp only [au])
    go_simp
  ·rw [show fst [unl (decide (s.time≤tm)) 9,doE r s ⟨5,tm,(k:Int),car⟩ k]=6 by simp [doE,lv,fst,unl,ei,rN,zb,tl,ht]];refine aL Tryz.func67 rfl (by kernel_rfl) rfl fun M0 w0=>?_;simp only [Tryz.ntmps67,Tryz.results67,aC];repeat' with_reducible first|apply af|apply ae|apply aw|apply aa|refine ah [] ?_|(apply ar;·go_simp)|(apply ab;intro X Y;go_simp;apply Y;clear Y X)
   refine fM 14 [] [⟨12,8,[.string ⟨#[]⟩,.int .i64 0,.int .i64 0,.bool false],none,[]⟩] (by kernel_rfl) (by go_simp) ?_;simp only [au];repeat (first|(refine fi rfl ?_)|((with_reducible refine fj rfl fun X Y=>?_);go_simp;refine Y _ (by go_simp) ?_;clear Y X)|(with_reducible apply fk))
   refine ⟨by go_simp,?_⟩;simp only [dP,eg,Slot.end_,List.cons_append,List.nil_append];repeat' first|(with_reducible first|apply af|apply ae|apply aW|apply az|apply aE|apply dh|apply aa|refine ah [] ?_|apply aQ|(apply ax;·go_simp)|(apply ar;·go_simp)|((first|apply ab|apply aR);intro X Y;go_simp;(first|(refine ⟨_,g,?_⟩)|skip);apply Y;clear Y X))|((refine bw 13 13 [] rfl (by kernel_rfl) ?_);simp only [au])
   go_simp
 ·have jd:tm < s.time:=by omega
  rw [show fst [unl (decide (s.time≤tm)) 9,doE r s ⟨5,tm,(k:Int),car⟩ k]=9 by simp [fst,unl,ht]];refine aL Tryz.func67 rfl (by kernel_rfl) rfl fun M0 w0=>?_;simp only [Tryz.ntmps67,Tryz.results67,aC];repeat' with_reducible first|apply af|apply ae|apply aW|apply az|apply aa|refine ah [] ?_|(apply ax;·go_simp)|(apply ab;intro X Y;go_simp;apply Y;clear Y X)
  go_simp
theorem N0 (r:Ru) (s:St) (x:Ev) (hr:RuOK r) (hi:Inv r s) (hx:evE r x=0) : VC Tryz.prog 67 [bJ r,dX s,evA x] (I (fst [unl (decide (s.time≤x.time)) 9,doE r s x x.rank.toNat])):=by
 have h1:=tr hx;obtain ⟨h2,h3⟩:=vb hx;have h4:=tt hx;have hk:x.rank.toNat < s.q.length:=by rw [hi.len];omega
 have hlen:r.ranks.length=s.q.length:=hi.len.symm;have mw:lh r s.q.length:=by rw [hi.len];exact hr.feed
 have h6:s.q.length≤6:=by rw [hi.len];exact hr.n6
 have dF:∀ j,j < s.q.length→(qat s.q j).length≤1000000:=fun j hj=>by
  have:=hi.fit j hj;have:=hr.pl j (by omega);omega
 have xU:=hi.tkl;have za:∀ i,i < s.tk.length→IntKind.i64.wrap (x.time - (cl s.tk i).time)=x.time - (cl s.tk i).time:=fun i cC=>by
  have:=hi.tkt _ (List.getElem_mem cC);rw [←lf cC] at this;have:=hi.t0;exact gG (by omega) (by omega)
 obtain ⟨kd,tm,rk,car⟩:=x;simp only at h1 h2 h3 h4 hk za ⊢;obtain ⟨k,rfl⟩ : ∃ k:Nat,rk=k:=⟨rk.toNat,by omega⟩
 rw [Int.toNat_natCast] at hk ⊢;have rC:kd=0∨kd=1∨kd=2∨kd=3∨kd=4∨kd=5:=by omega
 rcases rC with rfl|rfl|rfl|rfl|rfl|rfl
 ·exact NS r s tm k car hk hlen mw (by omega) dF (by omega)
 ·exact NT r s tm k car hk hlen mw (by omega) dF (by omega)
 ·exact NV r s tm k car hk hlen mw (by omega) dF (by omega)
 ·exact NW r s tm k car hk hlen mw (by omega) dF (by omega)
 ·exact NY r s tm k car hk hlen mw (by omega) dF (by omega)
 ·exact NZ r s tm k car hk hlen mw (by omega) dF (by omega) za
end Go.Proofs.YtoibondihdhnoaaGreatDoor
