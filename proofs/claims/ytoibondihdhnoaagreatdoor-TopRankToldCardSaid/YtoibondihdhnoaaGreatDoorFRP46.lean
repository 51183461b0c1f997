/- Texts in one: Walks: lists that are the same; of every length up to a million. -/
import Derived.Test.YtoibondihdhnoaaGreatDoorFRP9
import Derived.Test.YtoibondihdhnoaaGreatDoorFRP45
import Derived.Test.YtoibondihdhnoaaGreatDoorFRP41
namespace Go.Proofs.YtoibondihdhnoaaGreatDoor
open Go.RowKit
set_option maxRecDepth 100000
set_option maxHeartbeats 2000000
theorem Nx (l:List Ev) (hl:l.length≤1000000) : VC Tryz.prog 73 [.sl 4 (l.map Ev.av),.sl 4 (l.map Ev.av)] (B true):=by
 refine aP Tryz.func73 rfl (by kernel_rfl) rfl fun M0 w0=>?_;simp only [Tryz.ntmps73,Tryz.results73,aF];repeat' with_reducible first|apply af|apply ae|apply au|apply aB|apply aa|refine ah [] ?_|(apply ar;·go_simp)|(apply ab;intro X Y;go_simp;apply Y;clear Y X)
 apply eo [0,1] (fun k=>[(5,I k)]) (fun k=>([] : Hp)) (fun _=>false) (l.length)
 ·go_simp<;>exact rfl
 ·go_simp
 ·intro k hk HB HP K hK;obtain ⟨w1,w2,w3,w4,w5,w6⟩:=ixs (m:=k) (by omega);repeat' first|(with_reducible first|apply af|apply ae|apply au|apply aB|apply bp|apply aa|refine ah [] ?_|apply aT|(apply aw;·go_simp)|(apply ar;·go_simp)|((first|apply ab|apply aU);intro X Y;go_simp;apply Y;clear Y X))|((refine bc 9 9 [] rfl (by kernel_rfl) ?_);simp only [az])
  refine hK _ ?_;go_simp
 ·intro k hk HB HP K;exact absurd HP.out (by simp)
 ·intro HB K;repeat' with_reducible first|apply af|apply ae|apply bP|apply ax|apply bQ|apply bT|apply aa|refine ah [] ?_|(apply ar;·go_simp)|(apply ab;intro X Y;go_simp;apply Y;clear Y X)
  go_simp
theorem Ny (l:List Ev) (hl:l.length≤1000000) : VCo Tryz.prog 23 [iZ l] 58 4 false (l.map Ev.av):=by
 refine u9 Tryz.func23 rfl (by kernel_rfl) (by kernel_rfl) rfl Tryz.results23 (by decide) (fun k x hx=>by obtain ⟨y,hy,rfl⟩:=ec hx;exact ⟨rfl,by simp [Ev.av,cN,Value.oneCell']⟩) fun M0 w0=>?_;simp only [Tryz.ntmps23,aF];have gU:l.length≤1000000000:=by omega
 repeat (with_reducible first|apply af|apply ae|apply ax|apply aa|refine ah [3] ?_|(apply ab;intro X Y;go_simp;apply Y;clear Y X))
 exact ⟨0,rfl,rfl⟩
theorem zl (l:List ByteArray) (hl:l.length≤1000000) : VCo Tryz.prog 116 [gG l] 9 1 false (l.map bK):=by
 refine u9 Tryz.func116 rfl (by kernel_rfl) (by kernel_rfl) rfl Tryz.results116 (by decide) (fun k x hx=>by exact TxO.map l x (List.mem_of_getElem? hx)) fun M0 w0=>?_;simp only [Tryz.ntmps116,aF];have gU:l.length≤1000000000:=by omega
 repeat (with_reducible first|apply af|apply ae|apply ax|apply aa|refine ah [3] ?_|(apply ab;intro X Y;go_simp;apply Y;clear Y X))
 exact ⟨0,rfl,rfl⟩
theorem Hh (l:List Ev) (hl:l.length≤1000000) : VC Tryz.prog 23 [iZ l] (iZ l):=zm (Ny l hl)
theorem Hi (l:List ByteArray) (hl:l.length≤1000000) : VC Tryz.prog 116 [gG l] (gG l):=zm (zl l hl)
theorem Nz (r:Ru) (hl:r.ranks.length≤1000000) : VC Tryz.prog 22 [cY r] (cY r):=by
 have gU:r.ranks.length≤1000000000:=by omega
 refine aP Tryz.func22 rfl (by kernel_rfl) rfl fun M0 w0=>?_;simp only [Tryz.ntmps22,Tryz.results22,aF];repeat' with_reducible apply af
 refine ah [1] ?_;repeat' with_reducible first|apply af|apply ae|apply aa|(apply ab;intro X Y;go_simp;apply Y;clear Y X)
 refine ah [3] ?_;repeat' with_reducible first|apply af|apply ae|apply aa|(apply ab;intro X Y;go_simp;apply Y;clear Y X)
 refine g_ 0 0 2 rfl rfl rfl ?_;repeat' with_reducible first|apply ae|apply ax|apply aa|refine ah [] ?_|(apply ab;intro X Y;go_simp;apply Y;clear Y X)
 go_simp
theorem NA (l:List ByteArray) (s:ByteArray) (hl:l.length≤1000000) : VC Tryz.prog 70 [gG l,S s] (B (fU (isT l s) 0 l.length)):=by
 obtain ⟨R,hR⟩ : ∃ R,fU (isT l s) 0 l.length=R:=⟨_,rfl⟩
 rw [hR];have HR:=Lib.hid hR;clear hR;refine aP Tryz.func70 rfl (by kernel_rfl) rfl fun M0 w0=>?_;simp only [Tryz.ntmps70,Tryz.results70,aF];repeat' with_reducible first|apply af|apply ae|apply aB|apply aa|refine ah [] ?_|(apply ab;intro X Y;go_simp;apply Y;clear Y X)
 apply eo [0,1] (fun k=>[(5,I k)]) (fun k=>([] : Hp)) (isT l s) (l.length)
 ·go_simp<;>exact rfl
 ·go_simp
 ·intro k hk HB HP K hK;obtain ⟨w1,w2,w3,w4,w5,w6⟩:=ixs (m:=k) (by omega);have hp:¬l[k]=s:=by
   have:=HP.out;simpa [isT,dp hk] using this
  repeat' with_reducible first|apply af|apply ae|apply au|apply aB|apply bp|apply aa|refine ah [] ?_|(apply aw;·go_simp)|(apply ar;·go_simp)|(apply ab;intro X Y;go_simp;apply Y;clear Y X)
  refine hK _ ?_;go_simp
 ·intro k hk HB HP K;have hp:l[k]=s:=by
   have:=HP.out;simpa [isT,dp hk] using this
  have e:=HR.out;rw [ni hk HP.out] at e;subst e;repeat' with_reducible first|apply af|apply ae|apply aZ|apply ax|apply au|apply aB|apply cX|apply aa|refine ah [] ?_|(apply aw;·go_simp)|(apply ab;intro X Y;go_simp;apply Y;clear Y X)
  go_simp
 ·intro HB K;have e:=HR.out;rw [nj HB.out] at e;subst e;repeat (with_reducible first|apply af|apply ae|apply bP|apply ax|apply bQ|apply bT|apply aa|refine ah [] ?_|(apply ar;·go_simp)|(apply ab;intro X Y;go_simp;apply Y;clear Y X))
  go_simp
theorem NB (l:List ByteArray) (hl:l.length≤1000000) : VC Tryz.prog 78 [gG l,gG l] (B true):=by
 refine aP Tryz.func78 rfl (by kernel_rfl) rfl fun M0 w0=>?_;simp only [Tryz.ntmps78,Tryz.results78,aF];repeat' with_reducible first|apply af|apply ae|apply au|apply aB|apply aa|refine ah [] ?_|(apply ar;·go_simp)|(apply ab;intro X Y;go_simp;apply Y;clear Y X)
 apply eo [0,1] (fun k=>[(5,I k)]) (fun k=>([] : Hp)) (fun _=>false) (l.length)
 ·go_simp<;>exact rfl
 ·go_simp
 ·intro k hk HB HP K hK;obtain ⟨w1,w2,w3,w4,w5,w6⟩:=ixs (m:=k) (by omega);repeat' first|(with_reducible first|apply af|apply ae|apply au|apply aB|apply bp|apply aa|refine ah [] ?_|apply aT|(apply aw;·go_simp)|(apply ar;·go_simp)|((first|apply ab|apply aU);intro X Y;go_simp;apply Y;clear Y X))|((refine bc 9 9 [] rfl (by kernel_rfl) ?_);simp only [az])
  refine hK _ ?_;go_simp
 ·intro k hk HB HP K;exact absurd HP.out (by simp)
 ·intro HB K;repeat' with_reducible first|apply af|apply ae|apply bP|apply ax|apply bQ|apply bT|apply aa|refine ah [] ?_|(apply ar;·go_simp)|(apply ab;intro X Y;go_simp;apply Y;clear Y X)
  go_simp
theorem NC (s:St) (h:SmallS s) : VC Tryz.prog 25 [cT s,cT s] (B true):=by
 have hq:=h.q1;have yI:=h.nq;have yJ:=h.nt;have HQ:=Lib.hid hq;clear hq h;refine aP Tryz.func25 rfl (by kernel_rfl) rfl fun M0 w0=>?_;simp only [Tryz.ntmps25,Tryz.results25,aF];repeat' with_reducible first|apply af|apply ae|apply au|apply aB|apply aa|refine ah [] ?_|(apply ar;·go_simp)|(apply ab;intro X Y;go_simp;apply Y;clear Y X)
 apply eo [2,3] (fun k=>[(5,I k)]) (fun k=>([] : Hp)) (fun _=>false) (s.q.length)
 ·go_simp<;>exact rfl
 ·go_simp
 ·intro k hk HB HP K hK;obtain ⟨w1,w2,w3,w4,w5,w6⟩:=ixs (m:=k) (by omega);have g:=NB (qat s.q k) (by rw [ft hk];have:=(HQ.out _ (List.getElem_mem hk)).1;omega);repeat' first|(with_reducible first|apply af|apply ae|apply au|apply aB|apply bp|apply aa|refine ah [] ?_|apply aT|(apply aw;·go_simp)|(apply ar;·go_simp)|((first|apply ab|apply aU);intro X Y;go_simp;(first|(refine ⟨_,g,?_⟩)|skip);apply Y;clear Y X))|((refine bc 12 12 [] rfl (by kernel_rfl) ?_);simp only [az])
  refine hK _ ?_;go_simp
 ·intro k hk HB HP K;exact absurd HP.out (by simp)
 ·intro HB K;repeat' with_reducible first|apply af|apply ae|apply bP|apply bQ|apply aB|apply bT|apply aa|refine ah [] ?_|(apply ar;·go_simp)|(apply ab;intro X Y;go_simp;apply Y;clear Y X)
  apply eo [2,3] (fun k=>[(6,I k)]) (fun k=>([] : Hp)) (fun _=>false) (s.tk.length)
  ·go_simp<;>exact rfl
  ·go_simp
  ·intro k hk HB HP K hK;obtain ⟨w1,w2,w3,w4,w5,w6⟩:=ixs (m:=k) (by omega);repeat' first|(with_reducible first|apply af|apply ae|apply au|apply aB|apply bp|apply aa|refine ah [] ?_|apply aT|(apply aw;·go_simp)|(apply ar;·go_simp)|((first|apply ab|apply aU);intro X Y;go_simp;apply Y;clear Y X))|((refine bc 11 11 [] rfl (by kernel_rfl) ?_);simp only [az])
   refine hK _ ?_;go_simp
  ·intro k hk HB HP K;exact absurd HP.out (by simp)
  ·intro HB K;repeat' with_reducible first|apply af|apply ae|apply bP|apply ax|apply bQ|apply bT|apply aa|refine ah [] ?_|(apply ar;·go_simp)|(apply ab;intro X Y;go_simp;apply Y;clear Y X)
   go_simp
def t_:Ru:=⟨[⟨⟨#[115,116,97,110,100]⟩,2,1,false⟩,⟨⟨#[102,101,101,100,101,114]⟩,3,-1,false⟩],1,60⟩
def sx:List Ev:=[⟨0,0,0,⟨#[97]⟩⟩,⟨0,5,0,⟨#[98]⟩⟩,⟨0,9,1,⟨#[99]⟩⟩,⟨1,20,0,⟨#[97]⟩⟩]
def sy:St:=⟨[[⟨#[98]⟩,⟨#[99]⟩],[]],[⟨⟨#[97]⟩,0,20⟩],20⟩
theorem ND:VC Tryz.prog 83 [] (cY t_):=by
 unfold t_;refine aP Tryz.func83 rfl (by kernel_rfl) rfl fun M0 w0=>?_;simp only [Tryz.ntmps83,Tryz.results83,aF];repeat' with_reducible first|apply af|apply ae|apply ax|apply aa|refine ah [] ?_|(apply ab;intro X Y;go_simp;apply Y;clear Y X)
 go_simp
theorem NF:VC Tryz.prog 84 [] (iZ sx):=by
 unfold sx;refine aP Tryz.func84 rfl (by kernel_rfl) rfl fun M0 w0=>?_;simp only [Tryz.ntmps84,Tryz.results84,aF];repeat' with_reducible first|apply af|apply ae|apply ax|apply aa|refine ah [] ?_|(apply ab;intro X Y;go_simp;apply Y;clear Y X)
 go_simp
theorem NG:sc t_ sx=(sy,0,0):=by kernel_rfl
def zn:List Sg:=[⟨0,0,⟨#[97]⟩⟩,⟨0,0,⟨#[98]⟩⟩,⟨1,0,⟨#[98]⟩⟩]
theorem NH:ovT zn = .agg [I 0,I 1,I 2]:=by kernel_rfl
theorem NI:ovE zn=0:=by kernel_rfl
theorem NJ:o7 sy=⟨#[50,48,124,98,32,99,124,124,97,58,48,58,50,48]⟩:=by kernel_rfl
theorem NK:SmallL t_ sx:=⟨by decide,fun k hk=>by
 have h2:k < 2:=hk;rcases k with _|_|k
 ·decide
 ·decide
 ·omega,fun x hx=>by
 simp only [sx,List.mem_cons,List.not_mem_nil,or_false] at hx;rcases hx with rfl|rfl|rfl|rfl<;>decide⟩
theorem NL:SmallS sy:=by
 refine ⟨by decide,fun l hl=>?_,by decide,fun t ht=>?_,by unfold i64;decide⟩
 ·simp only [sy,List.mem_cons,List.not_mem_nil,or_false] at hl;rcases hl with rfl|rfl
  ·refine ⟨by decide,fun c hc=>?_⟩;simp only [List.mem_cons,List.not_mem_nil,or_false] at hc;rcases hc with rfl|rfl<;>decide
  ·exact ⟨by decide,fun c hc=>by simp at hc⟩
 ·simp only [sy,List.mem_cons,List.not_mem_nil,or_false] at ht;subst ht;unfold i64;decide
theorem NM {p:Nat→Bool} {n:Nat} (h:∀ j,j < n→p j=false) : fU p 0 n=false:=nj h
theorem Hj (r:Ru) (n:Int) (hn:r.ranks.length≤1000000) : VC Tryz.prog 33 [cY r,I n] (B (inR n 0 ((r.ranks.length:Int) - 1))):=by
 have i1:=s6 n 0 ((r.ranks.length:Int) - 1);have hw:IntKind.i64.wrap ((r.ranks.length:Int) - 1)=(r.ranks.length:Int) - 1:=iu (by omega) (by omega);generalize inR n 0 ((r.ranks.length:Int) - 1)=D at *;refine aP Tryz.func33 rfl (by kernel_rfl) rfl fun M0 w0=>?_;simp only [Tryz.ntmps33,Tryz.results33,aF];repeat' with_reducible first|apply af|apply ae|apply ax|apply aa|refine ah [] ?_|(apply ab;intro X Y;go_simp;(first|(refine ⟨_,i1,?_⟩)|skip);apply Y;clear Y X)
 go_simp
theorem Hk (r:Ru) (i:Nat) (hi:i < r.ranks.length) (hn:r.ranks.length≤1000000) (cW:(rat r.ranks i).name.size≤1000) : VC Tryz.prog 101 [cY r,I (i:Int)] (I (rkE r i)):=by
 obtain ⟨E,hE⟩ : ∃ E,rkE r i=E:=⟨_,rfl⟩
 rw [hE];have i1:=D7 (rat r.ranks i).name (by omega);have i2:=s6 (rat r.ranks i).places 1 12;have i3:=Hj r (rat r.ranks i).feeder hn;have HE:=Lib.hid hE;clear hE cW;obtain ⟨w1,w2,w3,w4,w5,w6⟩:=ixs (m:=i) (by omega);cases kc:cu (rat r.ranks i).name
 ·have e:rkE r i=4:=by simp [rkE,fst,unl,kc]
  rw [HE.out] at e;rw [kc] at i1;subst e;refine aP Tryz.func101 rfl (by kernel_rfl) rfl fun M0 w0=>?_;simp only [Tryz.ntmps101,Tryz.results101,aF];repeat' with_reducible first|apply af|apply ae|apply aZ|apply ax|apply aa|refine ah [] ?_|(apply aw;·go_simp)|(apply ab;intro X Y;go_simp;(first|(refine ⟨_,i1,?_⟩)|skip);apply Y;clear Y X)
  go_simp
 rw [kc] at i1;refine aP Tryz.func101 rfl (by kernel_rfl) rfl fun M0 w0=>?_;simp only [Tryz.ntmps101,Tryz.results101,aF];repeat' with_reducible first|apply af|apply ae|apply au|apply aB|apply aa|refine ah [] ?_|(apply ar;·go_simp)|(apply ab;intro X Y;go_simp;(first|(refine ⟨_,i1,?_⟩)|skip);apply Y;clear Y X)
 apply eo [1,2,5] (fun k=>[(6,I k)]) (fun k=>([some (.box [S (rat r.ranks i).name,I (rat r.ranks i).places,I (rat r.ranks i).feeder,B (rat r.ranks i).called])] : Hp)) (fun k=>decide ((rat r.ranks k).name=(rat r.ranks i).name)) (i)
 ·go_simp<;>exact rfl
 ·go_simp
 ·intro k hk HB HP K hK;obtain ⟨x1,x2,x3,x4,x5,x6⟩:=ixs (m:=k) (by omega);have jf:k < r.ranks.length:=by omega
  have hp:¬(rat r.ranks k).name=(rat r.ranks i).name:=of_decide_eq_false HP.out;repeat' first|(with_reducible first|apply af|apply ae|apply au|apply aB|apply bp|apply aa|refine ah [] ?_|apply aT|(apply aw;·go_simp)|(apply ar;·go_simp)|((first|apply ab|apply aU);intro X Y;go_simp;apply Y;clear Y X))|((refine bc 9 9 [] rfl (by kernel_rfl) ?_);simp only [az])
  refine hK _ ?_;go_simp
 ·intro k hk HB HP K;obtain ⟨x1,x2,x3,x4,x5,x6⟩:=ixs (m:=k) (by omega);have jf:k < r.ranks.length:=by omega
  have hp:(rat r.ranks k).name=(rat r.ranks i).name:=of_decide_eq_true HP.out;have hA:nP r i=true:=ni hk HP.out;have e:rkE r i=5:=by simp [rkE,fst,unl,kc,hA]
  rw [HE.out] at e;subst e;repeat' first|(with_reducible first|apply af|apply ae|apply aZ|apply ax|apply au|apply aB|apply cX|apply aa|refine ah [] ?_|apply aT|(apply aw;·go_simp)|((first|apply ab|apply aU);intro X Y;go_simp;apply Y;clear Y X))|((refine bc 9 9 [] rfl (by kernel_rfl) ?_);simp only [az])
  go_simp
 ·intro HB K;have hA:nP r i=false:=nj HB.out;cases jP:inR (rat r.ranks i).places 1 12
  ·have e:rkE r i=2:=by simp [rkE,fst,unl,kc,hA,jP]
   rw [HE.out] at e;rw [jP] at i2;subst e;repeat' with_reducible first|apply af|apply ae|apply bP|apply aZ|apply ax|apply bQ|apply bT|apply aa|refine ah [] ?_|(apply aw;·go_simp)|(apply ar;·go_simp)|(apply ab;intro X Y;go_simp;(first|(refine ⟨_,i2,?_⟩)|skip);apply Y;clear Y X)
   go_simp
  rw [jP] at i2;by_cases hF:(rat r.ranks i).feeder = -1
  ·have pU:fS r i=false:=by simp [fS,hF]
   cases hC:(rat r.ranks i).called
   ·have e:rkE r i=0:=by simp [rkE,fst,unl,kc,hA,jP,pU,hC]
    rw [HE.out] at e;subst e;repeat' with_reducible first|apply af|apply ae|apply bP|apply aZ|apply ax|apply au|apply bQ|apply bT|apply aa|refine ah [] ?_|(apply aw;·go_simp)|(apply ar;·go_simp)|(apply ab;intro X Y;go_simp;(first|(refine ⟨_,i2,?_⟩)|skip);apply Y;clear Y X)
    go_simp
   ·have e:rkE r i=3:=by simp [rkE,fst,unl,kc,hA,jP,pU,hC]
    rw [HE.out] at e;subst e;repeat' with_reducible first|apply af|apply ae|apply bP|apply aZ|apply ax|apply au|apply bQ|apply bT|apply aa|refine ah [] ?_|(apply aw;·go_simp)|(apply ar;·go_simp)|(apply ab;intro X Y;go_simp;(first|(refine ⟨_,i2,?_⟩)|skip);apply Y;clear Y X)
    go_simp
  have pU:fS r i=true:=by simp [fS,hF]
  cases p8:inR (rat r.ranks i).feeder 0 ((r.ranks.length:Int) - 1)
  ·have e:rkE r i=6:=by simp [rkE,fst,unl,kc,hA,jP,pU,p8]
   rw [HE.out] at e;rw [p8] at i3;subst e;repeat' first|(with_reducible first|apply af|apply ae|apply bP|apply aZ|apply ax|apply au|apply bQ|apply bT|apply aa|refine ah [] ?_|(apply aw;·go_simp)|(apply ar;·go_simp))|((with_reducible apply ab);intro X Y;go_simp;(first|(with_reducible refine ⟨_,i2,?_⟩)|(refine ⟨_,i3,?_⟩)|skip);apply Y;clear Y X)
   go_simp
  rw [p8] at i3;by_cases hO:(i:Int) < (rat r.ranks i).feeder
  ·have kJ:¬(rat r.ranks i).feeder≤(i:Int):=by omega
   repeat' first|(with_reducible first|apply af|apply ae|apply bP|apply au|apply bQ|apply aB|apply bT|apply aa|refine ah [] ?_|(apply ar;·go_simp))|((with_reducible apply ab);intro X Y;go_simp;(first|(with_reducible refine ⟨_,i2,?_⟩)|(refine ⟨_,i3,?_⟩)|skip);apply Y;clear Y X)
   apply eo [1,2,5] (fun k=>[(7,I k)]) (fun k=>([some (.box [S (rat r.ranks i).name,I (rat r.ranks i).places,I (rat r.ranks i).feeder,B (rat r.ranks i).called])] : Hp)) (fun k=>decide ((rat r.ranks k).feeder=(rat r.ranks i).feeder)) (i)
   ·go_simp<;>exact rfl
   ·go_simp
   ·intro k hk HB HP K hK;obtain ⟨x1,x2,x3,x4,x5,x6⟩:=ixs (m:=k) (by omega);have jf:k < r.ranks.length:=by omega
    have hp:¬(rat r.ranks k).feeder=(rat r.ranks i).feeder:=of_decide_eq_false HP.out;repeat' first|(with_reducible first|apply af|apply ae|apply au|apply aB|apply bp|apply aa|refine ah [] ?_|apply aT|(apply aw;·go_simp)|(apply ar;·go_simp)|((first|apply ab|apply aU);intro X Y;go_simp;apply Y;clear Y X))|((refine bc 9 9 [] rfl (by kernel_rfl) ?_);simp only [az])
    refine hK _ ?_;go_simp
   ·intro k hk HB HP K;obtain ⟨x1,x2,x3,x4,x5,x6⟩:=ixs (m:=k) (by omega);have jf:k < r.ranks.length:=by omega
    have hp:(rat r.ranks k).feeder=(rat r.ranks i).feeder:=of_decide_eq_true HP.out;have hB:ml r i=true:=ni hk HP.out;have e:rkE r i=26:=by simp [rkE,fst,unl,kc,hA,jP,pU,p8,hO,hB]
    rw [HE.out] at e;subst e;repeat' first|(with_reducible first|apply af|apply ae|apply aZ|apply ax|apply au|apply aB|apply cX|apply aa|refine ah [] ?_|apply aT|(apply aw;·go_simp)|((first|apply ab|apply aU);intro X Y;go_simp;apply Y;clear Y X))|((refine bc 9 9 [] rfl (by kernel_rfl) ?_);simp only [az])
    go_simp
   ·intro HB K;have hB:ml r i=false:=nj HB.out;have e:rkE r i=0:=by simp [rkE,fst,unl,kc,hA,jP,pU,p8,hO,hB]
    rw [HE.out] at e;subst e;repeat' with_reducible first|apply af|apply ae|apply bP|apply ax|apply bQ|apply bT|apply aa|refine ah [] ?_|(apply ar;·go_simp)|(apply ab;intro X Y;go_simp;apply Y;clear Y X)
    go_simp
  ·have kJ:(rat r.ranks i).feeder≤(i:Int):=by omega
   have e:rkE r i=9:=by simp [rkE,fst,unl,kc,hA,jP,pU,p8,hO]
   rw [HE.out] at e;subst e;repeat' first|(with_reducible first|apply af|apply ae|apply bP|apply aZ|apply ax|apply au|apply bQ|apply bT|apply aa|refine ah [] ?_|(apply aw;·go_simp)|(apply ar;·go_simp))|((with_reducible apply ab);intro X Y;go_simp;(first|(with_reducible refine ⟨_,i2,?_⟩)|(refine ⟨_,i3,?_⟩)|skip);apply Y;clear Y X)
   go_simp
theorem NN (r:Ru) (hn:r.ranks.length≤1000000) (cW:∀ k,k < r.ranks.length→(rat r.ranks k).name.size≤1000) : VC Tryz.prog 38 [cY r] (.tup [I ((df r).1:Int),I (df r).2]):=by
 unfold df;by_cases h0:r.ranks.length=0
 ·rw [if_pos h0];have oY:(r.ranks.length:Int)=0:=by omega
  refine aP Tryz.func38 rfl (by kernel_rfl) rfl fun M0 w0=>?_;simp only [Tryz.ntmps38,Tryz.results38,aF];repeat' with_reducible first|apply af|apply ae|apply aZ|apply ax|apply aa|refine ah [] ?_|(apply aw;·go_simp)|(apply ab;intro X Y;go_simp;apply Y;clear Y X)
  go_simp
 rw [if_neg h0];have oY:¬r.ranks=[]:=fun h=>h0 (by rw [h];rfl);by_cases h6:6 < r.ranks.length
 ·rw [if_pos h6];have NO:(6:Int) < (r.ranks.length:Int):=by omega
  refine aP Tryz.func38 rfl (by kernel_rfl) rfl fun M0 w0=>?_;simp only [Tryz.ntmps38,Tryz.results38,aF];repeat' with_reducible first|apply af|apply ae|apply aZ|apply ax|apply au|apply aa|refine ah [] ?_|(apply aw;·go_simp)|(apply ar;·go_simp)|(apply ab;intro X Y;go_simp;apply Y;clear Y X)
  go_simp
 rw [if_neg h6];have NO:¬(6:Int) < (r.ranks.length:Int):=by omega
 obtain ⟨R,hR⟩ : ∃ R,(if (kD (rkE r) 0 r.ranks.length).2≠0 then kD (rkE r) 0 r.ranks.length else (0,r9 r))=R:=⟨_,rfl⟩
 rw [hR];have HR:=Lib.hid hR;have HM:=Lib.hid cW;have i1:=s6 r.back 0 12;have i2:=s6 r.ret 0 3600;clear hR cW h0 h6;refine aP Tryz.func38 rfl (by kernel_rfl) rfl fun M0 w0=>?_;simp only [Tryz.ntmps38,Tryz.results38,aF];repeat' with_reducible first|apply af|apply ae|apply au|apply aB|apply aa|refine ah [] ?_|(apply ar;·go_simp)|(apply ab;intro X Y;go_simp;apply Y;clear Y X)
 apply eo [1] (fun k=>[(4,I k)]) (fun k=>([] : Hp)) (fun k=>!decide (rkE r k=0)) (r.ranks.length)
 ·go_simp<;>exact rfl
 ·go_simp
 ·intro k hk HB HP K hK;obtain ⟨x1,x2,x3,x4,x5,x6⟩:=ixs (m:=k) (by omega);have g:=Hk r k hk hn (HM.out k hk);have he:rkE r k=0:=by simpa using HP.out
  rw [he] at g;clear he;repeat' first|(with_reducible first|apply af|apply ae|apply au|apply aB|apply bp|apply aa|refine ah [] ?_|(apply aw;·go_simp)|(apply ar;·go_simp))|((with_reducible apply ab);intro X Y;go_simp;(first|(refine ⟨_,g,?_⟩)|skip);apply Y;clear Y X)
  refine hK _ ?_;go_simp
 ·intro k hk HB HP K;obtain ⟨x1,x2,x3,x4,x5,x6⟩:=ixs (m:=k) (by omega);have g:=Hk r k hk hn (HM.out k hk);have he:¬rkE r k=0:=by simpa using HP.out
  have e:=HR.out;rw [Bv hk HB.out HP.out,if_pos he] at e;subst e;generalize rkE r k=E at *;repeat' first|(with_reducible first|apply af|apply ae|apply aZ|apply ax|apply au|apply aB|apply cX|apply aa|refine ah [] ?_|(apply aw;·go_simp))|((with_reducible apply ab);intro X Y;go_simp;(first|(refine ⟨_,g,?_⟩)|skip);apply Y;clear Y X)
  go_simp
 ·intro HB K;have e:=HR.out;rw [yu _ _ (fun j hj=>HB.out j (by omega)),if_neg (by simp)] at e;subst e;unfold r9;by_cases hb:r.back = -1
  ·cases jP:inR r.ret 0 3600
   ·rw [jP] at i2;have e2:unl ((decide (r.back = -1) || inR r.back 0 12)&&false) 2=2:=by simp [unl]
    rw [e2];repeat' with_reducible first|apply af|apply ae|apply bP|apply aZ|apply ax|apply bQ|apply bT|apply aa|refine ah [] ?_|(apply aw;·go_simp)|(apply ar;·go_simp)|(apply ab;intro X Y;go_simp;(first|(refine ⟨_,i2,?_⟩)|skip);apply Y;clear Y X)
    go_simp
   ·rw [jP] at i2;have e2:unl ((decide (r.back = -1) || inR r.back 0 12)&&true) 2=0:=by simp [unl,hb]
    rw [e2];repeat' with_reducible first|apply af|apply ae|apply bP|apply ax|apply au|apply bQ|apply bT|apply aa|refine ah [] ?_|(apply ar;·go_simp)|(apply ab;intro X Y;go_simp;(first|(refine ⟨_,i2,?_⟩)|skip);apply Y;clear Y X)
    go_simp
  ·cases kc:inR r.back 0 12
   ·rw [kc] at i1;have e2:unl ((decide (r.back = -1) || false)&&inR r.ret 0 3600) 2=2:=by simp [unl,hb]
    rw [e2];repeat' with_reducible first|apply af|apply ae|apply bP|apply aZ|apply ax|apply bQ|apply bT|apply aa|refine ah [] ?_|(apply aw;·go_simp)|(apply ar;·go_simp)|(apply ab;intro X Y;go_simp;(first|(refine ⟨_,i1,?_⟩)|skip);apply Y;clear Y X)
    go_simp
   ·rw [kc] at i1;cases jP:inR r.ret 0 3600
    ·rw [jP] at i2;have e2:unl ((decide (r.back = -1) || true)&&false) 2=2:=by simp [unl]
     rw [e2];repeat' with_reducible first|apply af|apply ae|apply bP|apply aZ|apply ax|apply bQ|apply bT|apply aa|refine ah [] ?_|(apply aw;·go_simp)|(apply ar;·go_simp)|(apply ab;intro X Y;go_simp;(first|(refine ⟨_,i1,?_⟩)|(refine ⟨_,i2,?_⟩)|skip);apply Y;clear Y X)
     go_simp
    ·rw [jP] at i2;have e2:unl ((decide (r.back = -1) || true)&&true) 2=0:=by simp [unl]
     rw [e2];repeat' with_reducible first|apply af|apply ae|apply bP|apply ax|apply au|apply bQ|apply bT|apply aa|refine ah [] ?_|(apply ar;·go_simp)|(apply ab;intro X Y;go_simp;(first|(refine ⟨_,i1,?_⟩)|(refine ⟨_,i2,?_⟩)|skip);apply Y;clear Y X)
     go_simp
theorem NP (r:Ru) (x:Ev) (hn:r.ranks.length≤1000000) (hc:x.car.size≤1000) : VC Tryz.prog 56 [cY r,evA x] (I (evE r x)):=by
 obtain ⟨kd,tm,rk,car⟩:=x;simp only [evA] at *;obtain ⟨E,hE⟩ : ∃ E,evE r ⟨kd,tm,rk,car⟩=E:=⟨_,rfl⟩
 rw [hE];have i1:=s6 kd 0 5;have i2:=s6 tm 0 604800;have i3:=Hj r rk hn;have i4:=D7 car (by omega);unfold evE at hE;cases kc:inR kd 0 5
 ·rw [kc] at i1 hE;have e:E=15:=by rw [←hE];rfl
  subst e;clear hE;refine aP Tryz.func56 rfl (by kernel_rfl) rfl fun M0 w0=>?_;simp only [Tryz.ntmps56,Tryz.results56,aF];repeat' with_reducible first|apply af|apply ae|apply aZ|apply ax|apply aa|refine ah [] ?_|(apply aw;·go_simp)|(apply ab;intro X Y;go_simp;(first|(refine ⟨_,i1,?_⟩)|skip);apply Y;clear Y X)
  go_simp
 rw [kc] at i1 hE;cases jP:inR tm 0 604800
 ·rw [jP] at i2 hE;have e:E=2:=by rw [←hE];rfl
  subst e;clear hE;refine aP Tryz.func56 rfl (by kernel_rfl) rfl fun M0 w0=>?_;simp only [Tryz.ntmps56,Tryz.results56,aF];repeat' with_reducible first|apply af|apply ae|apply aZ|apply ax|apply au|apply aa|refine ah [] ?_|(apply aw;·go_simp)|(apply ar;·go_simp)|(apply ab;intro X Y;go_simp;(first|(refine ⟨_,i1,?_⟩)|(refine ⟨_,i2,?_⟩)|skip);apply Y;clear Y X)
  go_simp
 rw [jP] at i2 hE;cases p8:inR rk 0 ((r.ranks.length:Int) - 1)
 ·rw [p8] at i3 hE;have e:E=6:=by rw [←hE];rfl
  subst e;clear hE;refine aP Tryz.func56 rfl (by kernel_rfl) rfl fun M0 w0=>?_;simp only [Tryz.ntmps56,Tryz.results56,aF];repeat' first|(with_reducible first|apply af|apply ae|apply aZ|apply ax|apply au|apply aa|refine ah [] ?_|(apply aw;·go_simp)|(apply ar;·go_simp))|((with_reducible apply ab);intro X Y;go_simp;(first|(with_reducible refine ⟨_,i1,?_⟩)|(with_reducible refine ⟨_,i2,?_⟩)|(refine ⟨_,i3,?_⟩)|skip);apply Y;clear Y X)
  go_simp
 rw [p8] at i3 hE;by_cases h4:kd=4
 ·rw [decide_eq_true h4] at hE;rw [h4] at i1;by_cases dK:car=ByteArray.empty
  ·have e:E=0:=by rw [←hE,decide_eq_true dK];rfl
   have qY:car=⟨#[]⟩:=dK;subst e;clear hE dK;subst qY;refine aP Tryz.func56 rfl (by kernel_rfl) rfl fun M0 w0=>?_;simp only [Tryz.ntmps56,Tryz.results56,aF];repeat' first|(with_reducible first|apply af|apply ae|apply aZ|apply ax|apply au|apply aa|refine ah [] ?_|(apply aw;·go_simp)|(apply ar;·go_simp))|((with_reducible apply ab);intro X Y;go_simp;(first|(with_reducible refine ⟨_,i1,?_⟩)|(with_reducible refine ⟨_,i2,?_⟩)|(refine ⟨_,i3,?_⟩)|skip);apply Y;clear Y X)
   go_simp
  ·have e:E=3:=by rw [←hE,decide_eq_false dK];rfl
   have qY:¬car=⟨#[]⟩:=dK;subst e;clear hE;refine aP Tryz.func56 rfl (by kernel_rfl) rfl fun M0 w0=>?_;simp only [Tryz.ntmps56,Tryz.results56,aF];repeat' first|(with_reducible first|apply af|apply ae|apply aZ|apply ax|apply au|apply aa|refine ah [] ?_|(apply aw;·go_simp)|(apply ar;·go_simp))|((with_reducible apply ab);intro X Y;go_simp;(first|(with_reducible refine ⟨_,i1,?_⟩)|(with_reducible refine ⟨_,i2,?_⟩)|(refine ⟨_,i3,?_⟩)|skip);apply Y;clear Y X)
   go_simp
 ·rw [decide_eq_false h4] at hE;cases Hl:cu car
  ·rw [Hl] at i4 hE;have e:E=4:=by rw [←hE];rfl
   subst e;clear hE;refine aP Tryz.func56 rfl (by kernel_rfl) rfl fun M0 w0=>?_;simp only [Tryz.ntmps56,Tryz.results56,aF];repeat' first|(with_reducible first|apply af|apply ae|apply aZ|apply ax|apply au|apply aa|refine ah [] ?_|(apply aw;·go_simp)|(apply ar;·go_simp))|((with_reducible apply ab);intro X Y;go_simp;(first|(with_reducible refine ⟨_,i1,?_⟩)|(with_reducible refine ⟨_,i2,?_⟩)|(refine ⟨_,i3,?_⟩)|(with_reducible refine ⟨_,i4,?_⟩)|skip);apply Y;clear Y X)
   go_simp
  ·rw [Hl] at i4 hE;have e:E=0:=by rw [←hE];rfl
   subst e;clear hE;refine aP Tryz.func56 rfl (by kernel_rfl) rfl fun M0 w0=>?_;simp only [Tryz.ntmps56,Tryz.results56,aF];repeat' first|(with_reducible first|apply af|apply ae|apply ax|apply au|apply aa|refine ah [] ?_|(apply ar;·go_simp))|((with_reducible apply ab);intro X Y;go_simp;(first|(with_reducible refine ⟨_,i1,?_⟩)|(with_reducible refine ⟨_,i2,?_⟩)|(refine ⟨_,i3,?_⟩)|(with_reducible refine ⟨_,i4,?_⟩)|skip);apply Y;clear Y X)
   go_simp
theorem mZ (r:Ru) (s:St) (hl:r.ranks.length≤1000000) (hr:r.ranks.length=s.q.length) (hf:kt r s.q.length) : VC Tryz.prog 118 [cY r,gp s.q] (I (cM r s)):=by
 obtain ⟨R,hR⟩ : ∃ R,cM r s=R:=⟨_,rfl⟩
 rw [hR];unfold cM at hR;have HR:=Lib.hid hR;have HF:=Lib.hid hf;clear hR hf;refine aP Tryz.func118 rfl (by kernel_rfl) rfl fun M0 w0=>?_;simp only [Tryz.ntmps118,Tryz.results118,aF];repeat' with_reducible first|apply af|apply ae|apply aB|apply aa|refine ah [] ?_|(apply ab;intro X Y;go_simp;apply Y;clear Y X)
 apply eo [1,2] (fun k=>[(5,I k)]) (fun k=>([] : Hp)) (nk r s) (r.ranks.length)
 ·go_simp<;>exact rfl
 ·go_simp
 ·intro k hk HB HP K hK;obtain ⟨w1,w2,w3,w4,w5,w6⟩:=ixs (m:=k) (by omega);have cA:k < s.q.length:=by omega
  have hp:=HP.out;unfold nk ch at hp;by_cases h1:(rat r.ranks k).feeder = -1
  ·clear hp;repeat' first|(with_reducible first|apply af|apply ae|apply au|apply aB|apply bp|apply aa|refine ah [] ?_|apply aT|(apply aw;·go_simp)|(apply ar;·go_simp)|((first|apply ab|apply aU);intro X Y;go_simp;apply Y;clear Y X))|((refine bc 27 27 [] rfl (by kernel_rfl) ?_);simp only [az])
   refine hK _ ?_;go_simp
  obtain ⟨f0,fl⟩:=HF.out k cA h1;obtain ⟨f,hf⟩ : ∃ f:Nat,(rat r.ranks k).feeder=f:=⟨(rat r.ranks k).feeder.toNat,by omega⟩
  rw [hf] at fl h1 hp;simp only [Int.toNat_natCast] at fl hp;clear f0;cases h2:(rat r.ranks k).called
  ·rw [decide_eq_true h1,h2] at hp;simp only [Bool.not_false,Bool.true_and] at hp;by_cases h3:((qat s.q k).length:Int) < (rat r.ranks k).places
   ·rw [decide_eq_true h3,Bool.true_and,decide_eq_false_iff_not] at hp;have h4:qat s.q f=[]:=List.eq_nil_of_length_eq_zero (by omega);clear hp;repeat' first|(with_reducible first|apply af|apply ae|apply au|apply aB|apply bp|apply aa|refine ah [] ?_|apply aT|(apply aw;·go_simp)|(apply ar;·go_simp)|((first|apply ab|apply aU);intro X Y;go_simp;apply Y;clear Y X))|((refine bc 27 27 [] rfl (by kernel_rfl) ?_);simp only [az])
    refine hK _ ?_;go_simp
   ·clear hp;repeat' first|(with_reducible first|apply af|apply ae|apply au|apply aB|apply bp|apply aa|refine ah [] ?_|apply aT|(apply aw;·go_simp)|(apply ar;·go_simp)|((first|apply ab|apply aU);intro X Y;go_simp;apply Y;clear Y X))|((refine bc 27 27 [] rfl (by kernel_rfl) ?_);simp only [az])
    refine hK _ ?_;go_simp
  ·clear hp;repeat' first|(with_reducible first|apply af|apply ae|apply au|apply aB|apply bp|apply aa|refine ah [] ?_|apply aT|(apply aw;·go_simp)|(apply ar;·go_simp)|((first|apply ab|apply aU);intro X Y;go_simp;apply Y;clear Y X))|((refine bc 27 27 [] rfl (by kernel_rfl) ?_);simp only [az])
   refine hK _ ?_;go_simp
 ·intro k hk HB HP K;have cA:k < s.q.length:=by omega
  have e:=HR.out;rw [jw hk HB.out HP.out] at e;subst e;have hp:=HP.out;unfold nk ch at hp;simp only [Bool.and_eq_true,decide_eq_true_eq,Bool.not_eq_true'] at hp;obtain ⟨⟨⟨h1,h2⟩,h3⟩,h4⟩:=hp;obtain ⟨f0,fl⟩:=HF.out k cA h1;obtain ⟨f,hf⟩ : ∃ f:Nat,(rat r.ranks k).feeder=f:=⟨(rat r.ranks k).feeder.toNat,by omega⟩
  rw [hf] at fl h1 h4;simp only [Int.toNat_natCast] at fl h4;have h5:¬qat s.q f=[]:=fun h=>by rw [h] at h4;simp at h4
  clear f0;repeat' first|(with_reducible first|apply af|apply ae|apply aZ|apply ax|apply au|apply aB|apply cX|apply aa|refine ah [] ?_|apply aT|(apply aw;·go_simp)|((first|apply ab|apply aU);intro X Y;go_simp;apply Y;clear Y X))|((refine bc 27 27 [] rfl (by kernel_rfl) ?_);simp only [az])
  go_simp
 ·intro HB K;have e:=HR.out;rw [kr HB.out] at e;subst e;repeat' with_reducible first|apply af|apply ae|apply bP|apply ax|apply bQ|apply bT|apply aa|refine ah [] ?_|(apply ar;·go_simp)|(apply ab;intro X Y;go_simp;apply Y;clear Y X)
  go_simp
def pk (q:List (List ByteArray)) (c:ByteArray) : Int:=if eb q c < 0 then -1 else fH (qat q (eb q c).toNat) c
theorem NQ (s:St) (c:ByteArray) (hl:s.q.length≤1000000) (hq:∀ k,k < s.q.length→(qat s.q k).length≤1000000) : VC Tryz.prog 129 [cT s,S c] (.tup [I (eb s.q c),I (pk s.q c)]):=by
 obtain ⟨A,hA⟩ : ∃ A,eb s.q c=A:=⟨_,rfl⟩
 obtain ⟨D,hD⟩ : ∃ D,pk s.q c=D:=⟨_,rfl⟩
 unfold pk at hD;rw [hA] at hD;unfold pk;rw [hA,hD];unfold eb at hA;have HA:=Lib.hid hA;have HD:=Lib.hid hD;have HQ:=Lib.hid hq;clear hA hD hq;refine aP Tryz.func129 rfl (by kernel_rfl) rfl fun M0 w0=>?_;simp only [Tryz.ntmps129,Tryz.results129,aF];repeat' with_reducible first|apply af|apply ae|apply aB|apply aa|refine ah [] ?_|(apply ab;intro X Y;go_simp;apply Y;clear Y X)
 apply eo [1,2] (fun k=>[(6,I k)]) (fun k=>([] : Hp)) (inQ s.q c) (s.q.length)
 ·go_simp<;>exact rfl
 ·go_simp
 ·intro k hk HB HP K hK;obtain ⟨w1,w2,w3,w4,w5,w6⟩:=ixs (m:=k) (by omega);have ie:=HQ.out k hk;repeat' with_reducible first|apply af|apply ae|apply au|apply aB|apply aa|refine ah [] ?_|(apply aw;·go_simp)|(apply ab;intro X Y;go_simp;apply Y;clear Y X)
  apply eo [1,2,6] (fun k=>[(7,I k)]) (fun k=>([] : Hp)) (isT (qat s.q k) c) ((qat s.q k).length)
  ·go_simp<;>exact rfl
  ·go_simp
  ·intro j hj gL gN K2 iO;obtain ⟨x1,x2,x3,x4,x5,x6⟩:=ixs (m:=j) (by omega);have hp:¬(qat s.q k)[j]=c:=by
    have:=gN.out;simpa [isT,dp hj] using this
   repeat' with_reducible first|apply af|apply ae|apply au|apply aB|apply bp|apply aa|refine ah [] ?_|(apply aw;·go_simp)|(apply ar;·go_simp)|(apply ab;intro X Y;go_simp;apply Y;clear Y X)
   refine iO _ ?_;go_simp
  ·intro j hj gL gN K2;exfalso;have h1:=HP.out;unfold inQ fH at h1;rw [jw hj gL.out gN.out] at h1;simp at h1
  ·intro gL K2;repeat' with_reducible first|apply af|apply ae|apply bP|apply bQ|apply bp|apply bT|apply aa|refine ah [] ?_|(apply ar;·go_simp)|(apply ab;intro X Y;go_simp;apply Y;clear Y X)
   refine hK _ ?_;go_simp
 ·intro k hk HB HP K;obtain ⟨w1,w2,w3,w4,w5,w6⟩:=ixs (m:=k) (by omega);have ie:=HQ.out k hk;have e:=HA.out;rw [jw hk HB.out HP.out] at e;subst e;have e2:=HD.out;rw [if_neg (by omega),Int.toNat_natCast] at e2;have NR:=Lib.hid e2;clear e2;repeat' with_reducible first|apply af|apply ae|apply au|apply aB|apply aa|refine ah [] ?_|(apply aw;·go_simp)|(apply ab;intro X Y;go_simp;apply Y;clear Y X)
  apply eo [1,2,6] (fun k=>[(7,I k)]) (fun k=>([] : Hp)) (isT (qat s.q k) c) ((qat s.q k).length)
  ·go_simp<;>exact rfl
  ·go_simp
  ·intro j hj gL gN K2 iO;obtain ⟨x1,x2,x3,x4,x5,x6⟩:=ixs (m:=j) (by omega);have hp:¬(qat s.q k)[j]=c:=by
    have:=gN.out;simpa [isT,dp hj] using this
   repeat' with_reducible first|apply af|apply ae|apply au|apply aB|apply bp|apply aa|refine ah [] ?_|(apply aw;·go_simp)|(apply ar;·go_simp)|(apply ab;intro X Y;go_simp;apply Y;clear Y X)
   refine iO _ ?_;go_simp
  ·intro j hj gL gN K2;have hp:(qat s.q k)[j]=c:=by
    have:=gN.out;simpa [isT,dp hj] using this
   have e3:=NR.out;unfold fH at e3;rw [jw hj gL.out gN.out] at e3;subst e3;repeat' with_reducible first|apply af|apply ae|apply aZ|apply ax|apply au|apply aB|apply cX|apply aa|refine ah [] ?_|(apply aw;·go_simp)|(apply ab;intro X Y;go_simp;apply Y;clear Y X)
   go_simp
  ·intro gL K2;exfalso;have h1:=HP.out;unfold inQ fH at h1;rw [kr gL.out] at h1;simp at h1
 ·intro HB K;have e:=HA.out;rw [kr HB.out] at e;subst e;have e2:=HD.out;rw [if_pos (by decide)] at e2;subst e2;repeat' with_reducible first|apply af|apply ae|apply bP|apply ax|apply bQ|apply bT|apply aa|refine ah [] ?_|(apply ar;·go_simp)|(apply ab;intro X Y;go_simp;apply Y;clear Y X)
  go_simp
theorem NS (s:St) (c:ByteArray) (hl:s.tk.length≤1000000) : VC Tryz.prog 130 [cT s,S c] (I (eK s.tk c)):=by
 obtain ⟨R,hR⟩ : ∃ R,eK s.tk c=R:=⟨_,rfl⟩
 rw [hR];unfold eK at hR;have HR:=Lib.hid hR;clear hR;refine aP Tryz.func130 rfl (by kernel_rfl) rfl fun M0 w0=>?_;simp only [Tryz.ntmps130,Tryz.results130,aF];repeat' with_reducible first|apply af|apply ae|apply aB|apply aa|refine ah [] ?_|(apply ab;intro X Y;go_simp;apply Y;clear Y X)
 apply eo [1,2] (fun k=>[(5,I k)]) (fun k=>([] : Hp)) (np s.tk c) (s.tk.length)
 ·go_simp<;>exact rfl
 ·go_simp
 ·intro k hk HB HP K hK;obtain ⟨w1,w2,w3,w4,w5,w6⟩:=ixs (m:=k) (by omega);have hp:¬(aS s.tk k).car=c:=of_decide_eq_false HP.out;repeat' with_reducible first|apply af|apply ae|apply au|apply aB|apply bp|apply aa|refine ah [] ?_|(apply aw;·go_simp)|(apply ar;·go_simp)|(apply ab;intro X Y;go_simp;apply Y;clear Y X)
  refine hK _ ?_;go_simp
 ·intro k hk HB HP K;have hp:(aS s.tk k).car=c:=of_decide_eq_true HP.out;have e:=HR.out;rw [jw hk HB.out HP.out] at e;subst e;repeat' with_reducible first|apply af|apply ae|apply aZ|apply ax|apply au|apply aB|apply cX|apply aa|refine ah [] ?_|(apply aw;·go_simp)|(apply ab;intro X Y;go_simp;apply Y;clear Y X)
  go_simp
 ·intro HB K;have e:=HR.out;rw [kr HB.out] at e;subst e;repeat' with_reducible first|apply af|apply ae|apply bP|apply ax|apply bQ|apply bT|apply aa|refine ah [] ?_|(apply ar;·go_simp)|(apply ab;intro X Y;go_simp;apply Y;clear Y X)
  go_simp
end Go.Proofs.YtoibondihdhnoaaGreatDoor
