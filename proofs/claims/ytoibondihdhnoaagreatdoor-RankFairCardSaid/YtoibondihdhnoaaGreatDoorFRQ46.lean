/- Texts in one: Walks: lists that are the same; of every length up to a million. -/
import Derived.Test.YtoibondihdhnoaaGreatDoorFRQ9
import Derived.Test.YtoibondihdhnoaaGreatDoorFRQ45
import Derived.Test.YtoibondihdhnoaaGreatDoorFRQ41
namespace Go.Proofs.YtoibondihdhnoaaGreatDoor
open Go.RowKit
set_option maxRecDepth 100000
set_option maxHeartbeats 2000000
theorem MK (l:List Wt) (hl:l.length≤1000000) : VC Tryz.prog 43 [.sl 3 (l.map Wt.av),.sl 3 (l.map Wt.av)] (B true):=by
 refine aL Tryz.func43 rfl (by kernel_rfl) rfl fun M0 w0=>?_;simp only [Tryz.ntmps43,Tryz.results43,aC];repeat' with_reducible first|apply af|apply ae|apply aw|apply aE|apply aa|refine ah [] ?_|(apply ar;·go_simp)|(apply ab;intro X Y;go_simp;apply Y;clear Y X)
 apply gy [0,1] (fun k=>[(5,I k)]) (fun k=>([] : Hp)) (fun _=>false) (l.length)
 ·go_simp<;>exact rfl
 ·go_simp
 ·intro k hk HB HP K hK;obtain ⟨w1,w2,w3,w4,w5,w6⟩:=ixs (m:=k) (by omega);repeat' first|(with_reducible first|apply af|apply ae|apply aw|apply aE|apply bc|apply aa|refine ah [] ?_|apply aQ|(apply ax;·go_simp)|(apply ar;·go_simp)|((first|apply ab|apply aR);intro X Y;go_simp;apply Y;clear Y X))|((refine bw 9 9 [] rfl (by kernel_rfl) ?_);simp only [au])
  refine hK _ ?_;go_simp
 ·intro k hk HB HP K;exact absurd HP.out (by simp)
 ·intro HB K;repeat' with_reducible first|apply af|apply ae|apply bU|apply az|apply bV|apply bW|apply aa|refine ah [] ?_|(apply ar;·go_simp)|(apply ab;intro X Y;go_simp;apply Y;clear Y X)
  go_simp
theorem ML (l:List Ev) (hl:l.length≤1000000) : VCo Tryz.prog 23 [cp l] 58 4 false (l.map Ev.av):=by
 refine uP Tryz.func23 rfl (by kernel_rfl) (by kernel_rfl) rfl Tryz.results23 (by decide) (fun k x hx=>by obtain ⟨y,hy,rfl⟩:=eo hx;exact ⟨rfl,by simp [Ev.av,cP,Value.oneCell']⟩) fun M0 w0=>?_;simp only [Tryz.ntmps23,aC];have fu:l.length≤1000000000:=by omega
 repeat (with_reducible first|apply af|apply ae|apply az|apply aa|refine ah [3] ?_|(apply ab;intro X Y;go_simp;apply Y;clear Y X))
 exact ⟨0,rfl,rfl⟩
theorem yX (l:List ByteArray) (hl:l.length≤1000000) : VCo Tryz.prog 116 [jm l] 9 1 false (l.map bY):=by
 refine uP Tryz.func116 rfl (by kernel_rfl) (by kernel_rfl) rfl Tryz.results116 (by decide) (fun k x hx=>by exact TxO.map l x (List.mem_of_getElem? hx)) fun M0 w0=>?_;simp only [Tryz.ntmps116,aC];have fu:l.length≤1000000000:=by omega
 repeat (with_reducible first|apply af|apply ae|apply az|apply aa|refine ah [3] ?_|(apply ab;intro X Y;go_simp;apply Y;clear Y X))
 exact ⟨0,rfl,rfl⟩
theorem MM (l:List Ev) (hl:l.length≤1000000) : VC Tryz.prog 23 [cp l] (cp l):=yY (ML l hl)
theorem Gq (l:List ByteArray) (hl:l.length≤1000000) : VC Tryz.prog 116 [jm l] (jm l):=yY (yX l hl)
theorem MN (r:Ru) (hl:r.ranks.length≤1000000) : VC Tryz.prog 22 [bJ r] (bJ r):=by
 have fu:r.ranks.length≤1000000000:=by omega
 refine aL Tryz.func22 rfl (by kernel_rfl) rfl fun M0 w0=>?_;simp only [Tryz.ntmps22,Tryz.results22,aC];repeat' with_reducible apply af
 refine ah [1] ?_;repeat' with_reducible first|apply af|apply ae|apply aa|(apply ab;intro X Y;go_simp;apply Y;clear Y X)
 refine ah [3] ?_;repeat' with_reducible first|apply af|apply ae|apply aa|(apply ab;intro X Y;go_simp;apply Y;clear Y X)
 refine gV 0 0 2 rfl rfl rfl ?_;repeat' with_reducible first|apply ae|apply az|apply aa|refine ah [] ?_|(apply ab;intro X Y;go_simp;apply Y;clear Y X)
 go_simp
theorem MO (l:List ByteArray) (s:ByteArray) (hl:l.length≤1000000) : VC Tryz.prog 70 [jm l,S s] (B (iu (isT l s) 0 l.length)):=by
 obtain ⟨R,hR⟩ : ∃ R,iu (isT l s) 0 l.length=R:=⟨_,rfl⟩
 rw [hR];have HR:=Lib.hid hR;clear hR;refine aL Tryz.func70 rfl (by kernel_rfl) rfl fun M0 w0=>?_;simp only [Tryz.ntmps70,Tryz.results70,aC];repeat' with_reducible first|apply af|apply ae|apply aE|apply aa|refine ah [] ?_|(apply ab;intro X Y;go_simp;apply Y;clear Y X)
 apply gy [0,1] (fun k=>[(5,I k)]) (fun k=>([] : Hp)) (isT l s) (l.length)
 ·go_simp<;>exact rfl
 ·go_simp
 ·intro k hk HB HP K hK;obtain ⟨w1,w2,w3,w4,w5,w6⟩:=ixs (m:=k) (by omega);have hp:¬l[k]=s:=by
   have:=HP.out;simpa [isT,iK hk] using this
  repeat' with_reducible first|apply af|apply ae|apply aw|apply aE|apply bc|apply aa|refine ah [] ?_|(apply ax;·go_simp)|(apply ar;·go_simp)|(apply ab;intro X Y;go_simp;apply Y;clear Y X)
  refine hK _ ?_;go_simp
 ·intro k hk HB HP K;have hp:l[k]=s:=by
   have:=HP.out;simpa [isT,iK hk] using this
  have e:=HR.out;rw [oX hk HP.out] at e;subst e;repeat' with_reducible first|apply af|apply ae|apply aW|apply az|apply aw|apply aE|apply dh|apply aa|refine ah [] ?_|(apply ax;·go_simp)|(apply ab;intro X Y;go_simp;apply Y;clear Y X)
  go_simp
 ·intro HB K;have e:=HR.out;rw [qX HB.out] at e;subst e;repeat (with_reducible first|apply af|apply ae|apply bU|apply az|apply bV|apply bW|apply aa|refine ah [] ?_|(apply ar;·go_simp)|(apply ab;intro X Y;go_simp;apply Y;clear Y X))
  go_simp
def mC:Ru:=⟨[⟨⟨#[115,116,97,110,100]⟩,2,1,false⟩,⟨⟨#[102,101,101,100,101,114]⟩,3,-1,false⟩],1,60⟩
def k8:List Ev:=[⟨0,0,0,⟨#[97]⟩⟩,⟨0,5,0,⟨#[98]⟩⟩,⟨0,9,1,⟨#[99]⟩⟩,⟨1,20,0,⟨#[97]⟩⟩]
def sc:St:=⟨[[⟨#[98]⟩,⟨#[99]⟩],[]],[⟨⟨#[97]⟩,0,20⟩],20⟩
theorem MP:VC Tryz.prog 83 [] (bJ mC):=by
 unfold mC;refine aL Tryz.func83 rfl (by kernel_rfl) rfl fun M0 w0=>?_;simp only [Tryz.ntmps83,Tryz.results83,aC];repeat' with_reducible first|apply af|apply ae|apply az|apply aa|refine ah [] ?_|(apply ab;intro X Y;go_simp;apply Y;clear Y X)
 go_simp
theorem MQ:VC Tryz.prog 84 [] (cp k8):=by
 unfold k8;refine aL Tryz.func84 rfl (by kernel_rfl) rfl fun M0 w0=>?_;simp only [Tryz.ntmps84,Tryz.results84,aC];repeat' with_reducible first|apply af|apply ae|apply az|apply aa|refine ah [] ?_|(apply ab;intro X Y;go_simp;apply Y;clear Y X)
 go_simp
theorem MR:vr mC k8=(sc,0,0):=by kernel_rfl
theorem MS:fP mC k8=0:=by kernel_rfl
theorem MT:tI k8 0 k8=[⟨⟨#[97]⟩,0,20⟩]:=by kernel_rfl
theorem MU:(tR mC k8).2=0∧(tR mC k8).1.length=6:=⟨by kernel_rfl,by kernel_rfl⟩
def yZ:List Sg:=[⟨0,0,⟨#[97]⟩⟩,⟨0,0,⟨#[98]⟩⟩,⟨1,0,⟨#[98]⟩⟩]
theorem MW:ovT yZ = .agg [I 0,I 1,I 2]:=by kernel_rfl
theorem MX:ovE yZ=0:=by kernel_rfl
def B0:ByteArray:=⟨#[99,97,108,108,32,50,48,32,48,32,45]⟩
theorem MY:evP (jE 32 B0)=(⟨4,20,0,⟨#[]⟩⟩,0):=by kernel_rfl
theorem MZ:Bl sc=⟨#[50,48,124,98,32,99,124,124,97,58,48,58,50,48]⟩:=by kernel_rfl
theorem B1:SmallL mC k8:=⟨by decide,fun k hk=>by
 have h2:k < 2:=hk;rcases k with _|_|k
 ·decide
 ·decide
 ·omega,fun x hx=>by
 simp only [k8,List.mem_cons,List.not_mem_nil,or_false] at hx;rcases hx with rfl|rfl|rfl|rfl<;>decide⟩
theorem M4:SmallS sc:=by
 refine ⟨by decide,fun l hl=>?_,by decide,fun t ht=>?_,by unfold i64;decide⟩
 ·simp only [sc,List.mem_cons,List.not_mem_nil,or_false] at hl;rcases hl with rfl|rfl
  ·refine ⟨by decide,fun c hc=>?_⟩;simp only [List.mem_cons,List.not_mem_nil,or_false] at hc;rcases hc with rfl|rfl<;>decide
  ·exact ⟨by decide,fun c hc=>by simp at hc⟩
 ·simp only [sc,List.mem_cons,List.not_mem_nil,or_false] at ht;subst ht;unfold i64;decide
theorem M5:VC Tryz.prog 18 [] (B true):=by
 have g1:=MP;have g2:=MQ;have g3:=KF mC k8 B1;have g4:=MJ mC k8 B1;have g5:=Mi yZ (by decide) (fun k hk=>by
  have h2:k < 3:=hk;rcases k with _|_|_|k
  ·decide
  ·decide
  ·decide
  ·omega)
 have g6:=Mp B0 (by decide);have g7:=Ms mC k8 B1;have g8:=KZ sc M4;have g9:=MK [⟨⟨#[97]⟩,0,20⟩] (by decide);obtain ⟨m1,m2⟩:=MU;rw [MR] at g3;rw [MS,if_pos rfl,MT] at g4;rw [MW,MX] at g5;rw [MY] at g6;rw [m1] at g7;rw [MZ] at g8;generalize (tR mC k8).1=L at *;have m3:(L.length:Int)=6:=by omega
 clear m1 m2;generalize mC=R0 at *;generalize hM:k8=M at *;clear hM;generalize hS:sc=S0 at *;clear hS;unfold yZ at g5;unfold B0 at g6;simp only [bJ,cp,dX,Du,evA,List.map_cons,List.map_nil,Sg.av,Wt.av] at g1 g2 g3 g4 g5 g6 g7 g8 g9;refine aL Tryz.func18 rfl (by kernel_rfl) rfl fun M0 w0=>?_;simp only [Tryz.ntmps18,Tryz.results18,aC];repeat' with_reducible first|apply af|apply ae|apply az|apply aa|refine ah [] ?_|(apply ab;intro X Y;go_simp;(first|(refine ⟨_,g1,?_⟩)|(refine ⟨_,g2,?_⟩)|(refine ⟨_,g3,?_⟩)|(refine ⟨_,g4,?_⟩)|(refine ⟨_,g5,?_⟩)|(refine ⟨_,g6,?_⟩)|(refine ⟨_,g7,?_⟩)|(refine ⟨_,g8,?_⟩)|(refine ⟨_,g9,?_⟩)|skip);apply Y;clear Y X)
 go_simp
theorem Gr (r:Ru) (n:Int) (hn:r.ranks.length≤1000000) : VC Tryz.prog 33 [bJ r,I n] (B (inR n 0 ((r.ranks.length:Int) - 1))):=by
 have i1:=qW n 0 ((r.ranks.length:Int) - 1);have hw:IntKind.i64.wrap ((r.ranks.length:Int) - 1)=(r.ranks.length:Int) - 1:=gG (by omega) (by omega);generalize inR n 0 ((r.ranks.length:Int) - 1)=D at *;refine aL Tryz.func33 rfl (by kernel_rfl) rfl fun M0 w0=>?_;simp only [Tryz.ntmps33,Tryz.results33,aC];repeat' with_reducible first|apply af|apply ae|apply az|apply aa|refine ah [] ?_|(apply ab;intro X Y;go_simp;(first|(refine ⟨_,i1,?_⟩)|skip);apply Y;clear Y X)
 go_simp
theorem Gs (r:Ru) (i:Nat) (hi:i < r.ranks.length) (hn:r.ranks.length≤1000000) (cU:(rat r.ranks i).name.size≤1000) : VC Tryz.prog 101 [bJ r,I (i:Int)] (I (rkE r i)):=by
 obtain ⟨E,hE⟩ : ∃ E,rkE r i=E:=⟨_,rfl⟩
 rw [hE];have i1:=zG (rat r.ranks i).name (by omega);have i2:=qW (rat r.ranks i).places 1 12;have i3:=Gr r (rat r.ranks i).feeder hn;have HE:=Lib.hid hE;clear hE cU;obtain ⟨w1,w2,w3,w4,w5,w6⟩:=ixs (m:=i) (by omega);cases ka:cu (rat r.ranks i).name
 ·have e:rkE r i=4:=by simp [rkE,fst,unl,ka]
  rw [HE.out] at e;rw [ka] at i1;subst e;refine aL Tryz.func101 rfl (by kernel_rfl) rfl fun M0 w0=>?_;simp only [Tryz.ntmps101,Tryz.results101,aC];repeat' with_reducible first|apply af|apply ae|apply aW|apply az|apply aa|refine ah [] ?_|(apply ax;·go_simp)|(apply ab;intro X Y;go_simp;(first|(refine ⟨_,i1,?_⟩)|skip);apply Y;clear Y X)
  go_simp
 rw [ka] at i1;refine aL Tryz.func101 rfl (by kernel_rfl) rfl fun M0 w0=>?_;simp only [Tryz.ntmps101,Tryz.results101,aC];repeat' with_reducible first|apply af|apply ae|apply aw|apply aE|apply aa|refine ah [] ?_|(apply ar;·go_simp)|(apply ab;intro X Y;go_simp;(first|(refine ⟨_,i1,?_⟩)|skip);apply Y;clear Y X)
 apply gy [1,2,5] (fun k=>[(6,I k)]) (fun k=>([some (.box [S (rat r.ranks i).name,I (rat r.ranks i).places,I (rat r.ranks i).feeder,B (rat r.ranks i).called])] : Hp)) (fun k=>decide ((rat r.ranks k).name=(rat r.ranks i).name)) (i)
 ·go_simp<;>exact rfl
 ·go_simp
 ·intro k hk HB HP K hK;obtain ⟨x1,x2,x3,x4,x5,x6⟩:=ixs (m:=k) (by omega);have lQ:k < r.ranks.length:=by omega
  have hp:¬(rat r.ranks k).name=(rat r.ranks i).name:=of_decide_eq_false HP.out;repeat' first|(with_reducible first|apply af|apply ae|apply aw|apply aE|apply bc|apply aa|refine ah [] ?_|apply aQ|(apply ax;·go_simp)|(apply ar;·go_simp)|((first|apply ab|apply aR);intro X Y;go_simp;apply Y;clear Y X))|((refine bw 9 9 [] rfl (by kernel_rfl) ?_);simp only [au])
  refine hK _ ?_;go_simp
 ·intro k hk HB HP K;obtain ⟨x1,x2,x3,x4,x5,x6⟩:=ixs (m:=k) (by omega);have lQ:k < r.ranks.length:=by omega
  have hp:(rat r.ranks k).name=(rat r.ranks i).name:=of_decide_eq_true HP.out;have hA:nu r i=true:=oX hk HP.out;have e:rkE r i=5:=by simp [rkE,fst,unl,ka,hA]
  rw [HE.out] at e;subst e;repeat' first|(with_reducible first|apply af|apply ae|apply aW|apply az|apply aw|apply aE|apply dh|apply aa|refine ah [] ?_|apply aQ|(apply ax;·go_simp)|((first|apply ab|apply aR);intro X Y;go_simp;apply Y;clear Y X))|((refine bw 9 9 [] rfl (by kernel_rfl) ?_);simp only [au])
  go_simp
 ·intro HB K;have hA:nu r i=false:=qX HB.out;cases jJ:inR (rat r.ranks i).places 1 12
  ·have e:rkE r i=2:=by simp [rkE,fst,unl,ka,hA,jJ]
   rw [HE.out] at e;rw [jJ] at i2;subst e;repeat' with_reducible first|apply af|apply ae|apply bU|apply aW|apply az|apply bV|apply bW|apply aa|refine ah [] ?_|(apply ax;·go_simp)|(apply ar;·go_simp)|(apply ab;intro X Y;go_simp;(first|(refine ⟨_,i2,?_⟩)|skip);apply Y;clear Y X)
   go_simp
  rw [jJ] at i2;by_cases hF:(rat r.ranks i).feeder = -1
  ·have pA:fN r i=false:=by simp [fN,hF]
   cases hC:(rat r.ranks i).called
   ·have e:rkE r i=0:=by simp [rkE,fst,unl,ka,hA,jJ,pA,hC]
    rw [HE.out] at e;subst e;repeat' with_reducible first|apply af|apply ae|apply bU|apply aW|apply az|apply aw|apply bV|apply bW|apply aa|refine ah [] ?_|(apply ax;·go_simp)|(apply ar;·go_simp)|(apply ab;intro X Y;go_simp;(first|(refine ⟨_,i2,?_⟩)|skip);apply Y;clear Y X)
    go_simp
   ·have e:rkE r i=3:=by simp [rkE,fst,unl,ka,hA,jJ,pA,hC]
    rw [HE.out] at e;subst e;repeat' with_reducible first|apply af|apply ae|apply bU|apply aW|apply az|apply aw|apply bV|apply bW|apply aa|refine ah [] ?_|(apply ax;·go_simp)|(apply ar;·go_simp)|(apply ab;intro X Y;go_simp;(first|(refine ⟨_,i2,?_⟩)|skip);apply Y;clear Y X)
    go_simp
  have pA:fN r i=true:=by simp [fN,hF]
  cases pN:inR (rat r.ranks i).feeder 0 ((r.ranks.length:Int) - 1)
  ·have e:rkE r i=6:=by simp [rkE,fst,unl,ka,hA,jJ,pA,pN]
   rw [HE.out] at e;rw [pN] at i3;subst e;repeat' first|(with_reducible first|apply af|apply ae|apply bU|apply aW|apply az|apply aw|apply bV|apply bW|apply aa|refine ah [] ?_|(apply ax;·go_simp)|(apply ar;·go_simp))|((with_reducible apply ab);intro X Y;go_simp;(first|(with_reducible refine ⟨_,i2,?_⟩)|(refine ⟨_,i3,?_⟩)|skip);apply Y;clear Y X)
   go_simp
  rw [pN] at i3;by_cases hO:(i:Int) < (rat r.ranks i).feeder
  ·have kM:¬(rat r.ranks i).feeder≤(i:Int):=by omega
   repeat' first|(with_reducible first|apply af|apply ae|apply bU|apply aw|apply bV|apply aE|apply bW|apply aa|refine ah [] ?_|(apply ar;·go_simp))|((with_reducible apply ab);intro X Y;go_simp;(first|(with_reducible refine ⟨_,i2,?_⟩)|(refine ⟨_,i3,?_⟩)|skip);apply Y;clear Y X)
   apply gy [1,2,5] (fun k=>[(7,I k)]) (fun k=>([some (.box [S (rat r.ranks i).name,I (rat r.ranks i).places,I (rat r.ranks i).feeder,B (rat r.ranks i).called])] : Hp)) (fun k=>decide ((rat r.ranks k).feeder=(rat r.ranks i).feeder)) (i)
   ·go_simp<;>exact rfl
   ·go_simp
   ·intro k hk HB HP K hK;obtain ⟨x1,x2,x3,x4,x5,x6⟩:=ixs (m:=k) (by omega);have lQ:k < r.ranks.length:=by omega
    have hp:¬(rat r.ranks k).feeder=(rat r.ranks i).feeder:=of_decide_eq_false HP.out;repeat' first|(with_reducible first|apply af|apply ae|apply aw|apply aE|apply bc|apply aa|refine ah [] ?_|apply aQ|(apply ax;·go_simp)|(apply ar;·go_simp)|((first|apply ab|apply aR);intro X Y;go_simp;apply Y;clear Y X))|((refine bw 9 9 [] rfl (by kernel_rfl) ?_);simp only [au])
    refine hK _ ?_;go_simp
   ·intro k hk HB HP K;obtain ⟨x1,x2,x3,x4,x5,x6⟩:=ixs (m:=k) (by omega);have lQ:k < r.ranks.length:=by omega
    have hp:(rat r.ranks k).feeder=(rat r.ranks i).feeder:=of_decide_eq_true HP.out;have hB:lX r i=true:=oX hk HP.out;have e:rkE r i=26:=by simp [rkE,fst,unl,ka,hA,jJ,pA,pN,hO,hB]
    rw [HE.out] at e;subst e;repeat' first|(with_reducible first|apply af|apply ae|apply aW|apply az|apply aw|apply aE|apply dh|apply aa|refine ah [] ?_|apply aQ|(apply ax;·go_simp)|((first|apply ab|apply aR);intro X Y;go_simp;apply Y;clear Y X))|((refine bw 9 9 [] rfl (by kernel_rfl) ?_);simp only [au])
    go_simp
   ·intro HB K;have hB:lX r i=false:=qX HB.out;have e:rkE r i=0:=by simp [rkE,fst,unl,ka,hA,jJ,pA,pN,hO,hB]
    rw [HE.out] at e;subst e;repeat' with_reducible first|apply af|apply ae|apply bU|apply az|apply bV|apply bW|apply aa|refine ah [] ?_|(apply ar;·go_simp)|(apply ab;intro X Y;go_simp;apply Y;clear Y X)
    go_simp
  ·have kM:(rat r.ranks i).feeder≤(i:Int):=by omega
   have e:rkE r i=9:=by simp [rkE,fst,unl,ka,hA,jJ,pA,pN,hO]
   rw [HE.out] at e;subst e;repeat' first|(with_reducible first|apply af|apply ae|apply bU|apply aW|apply az|apply aw|apply bV|apply bW|apply aa|refine ah [] ?_|(apply ax;·go_simp)|(apply ar;·go_simp))|((with_reducible apply ab);intro X Y;go_simp;(first|(with_reducible refine ⟨_,i2,?_⟩)|(refine ⟨_,i3,?_⟩)|skip);apply Y;clear Y X)
   go_simp
theorem M6 (r:Ru) (hn:r.ranks.length≤1000000) (cU:∀ k,k < r.ranks.length→(rat r.ranks k).name.size≤1000) : VC Tryz.prog 38 [bJ r] (.tup [I ((dR r).1:Int),I (dR r).2]):=by
 unfold dR;by_cases h0:r.ranks.length=0
 ·rw [if_pos h0];have oH:(r.ranks.length:Int)=0:=by omega
  refine aL Tryz.func38 rfl (by kernel_rfl) rfl fun M0 w0=>?_;simp only [Tryz.ntmps38,Tryz.results38,aC];repeat' with_reducible first|apply af|apply ae|apply aW|apply az|apply aa|refine ah [] ?_|(apply ax;·go_simp)|(apply ab;intro X Y;go_simp;apply Y;clear Y X)
  go_simp
 rw [if_neg h0];have oH:¬r.ranks=[]:=fun h=>h0 (by rw [h];rfl);by_cases h6:6 < r.ranks.length
 ·rw [if_pos h6];have M7:(6:Int) < (r.ranks.length:Int):=by omega
  refine aL Tryz.func38 rfl (by kernel_rfl) rfl fun M0 w0=>?_;simp only [Tryz.ntmps38,Tryz.results38,aC];repeat' with_reducible first|apply af|apply ae|apply aW|apply az|apply aw|apply aa|refine ah [] ?_|(apply ax;·go_simp)|(apply ar;·go_simp)|(apply ab;intro X Y;go_simp;apply Y;clear Y X)
  go_simp
 rw [if_neg h6];have M7:¬(6:Int) < (r.ranks.length:Int):=by omega
 obtain ⟨R,hR⟩ : ∃ R,(if (kG (rkE r) 0 r.ranks.length).2≠0 then kG (rkE r) 0 r.ranks.length else (0,rQ r))=R:=⟨_,rfl⟩
 rw [hR];have HR:=Lib.hid hR;have HM:=Lib.hid cU;have i1:=qW r.back 0 12;have i2:=qW r.ret 0 3600;clear hR cU h0 h6;refine aL Tryz.func38 rfl (by kernel_rfl) rfl fun M0 w0=>?_;simp only [Tryz.ntmps38,Tryz.results38,aC];repeat' with_reducible first|apply af|apply ae|apply aw|apply aE|apply aa|refine ah [] ?_|(apply ar;·go_simp)|(apply ab;intro X Y;go_simp;apply Y;clear Y X)
 apply gy [1] (fun k=>[(4,I k)]) (fun k=>([] : Hp)) (fun k=>!decide (rkE r k=0)) (r.ranks.length)
 ·go_simp<;>exact rfl
 ·go_simp
 ·intro k hk HB HP K hK;obtain ⟨x1,x2,x3,x4,x5,x6⟩:=ixs (m:=k) (by omega);have g:=Gs r k hk hn (HM.out k hk);have he:rkE r k=0:=by simpa using HP.out
  rw [he] at g;clear he;repeat' first|(with_reducible first|apply af|apply ae|apply aw|apply aE|apply bc|apply aa|refine ah [] ?_|(apply ax;·go_simp)|(apply ar;·go_simp))|((with_reducible apply ab);intro X Y;go_simp;(first|(refine ⟨_,g,?_⟩)|skip);apply Y;clear Y X)
  refine hK _ ?_;go_simp
 ·intro k hk HB HP K;obtain ⟨x1,x2,x3,x4,x5,x6⟩:=ixs (m:=k) (by omega);have g:=Gs r k hk hn (HM.out k hk);have he:¬rkE r k=0:=by simpa using HP.out
  have e:=HR.out;rw [AX hk HB.out HP.out,if_pos he] at e;subst e;generalize rkE r k=E at *;repeat' first|(with_reducible first|apply af|apply ae|apply aW|apply az|apply aw|apply aE|apply dh|apply aa|refine ah [] ?_|(apply ax;·go_simp))|((with_reducible apply ab);intro X Y;go_simp;(first|(refine ⟨_,g,?_⟩)|skip);apply Y;clear Y X)
  go_simp
 ·intro HB K;have e:=HR.out;rw [xY _ _ (fun j hj=>HB.out j (by omega)),if_neg (by simp)] at e;subst e;unfold rQ;by_cases hb:r.back = -1
  ·cases jJ:inR r.ret 0 3600
   ·rw [jJ] at i2;have e2:unl ((decide (r.back = -1) || inR r.back 0 12)&&false) 2=2:=by simp [unl]
    rw [e2];repeat' with_reducible first|apply af|apply ae|apply bU|apply aW|apply az|apply bV|apply bW|apply aa|refine ah [] ?_|(apply ax;·go_simp)|(apply ar;·go_simp)|(apply ab;intro X Y;go_simp;(first|(refine ⟨_,i2,?_⟩)|skip);apply Y;clear Y X)
    go_simp
   ·rw [jJ] at i2;have e2:unl ((decide (r.back = -1) || inR r.back 0 12)&&true) 2=0:=by simp [unl,hb]
    rw [e2];repeat' with_reducible first|apply af|apply ae|apply bU|apply az|apply aw|apply bV|apply bW|apply aa|refine ah [] ?_|(apply ar;·go_simp)|(apply ab;intro X Y;go_simp;(first|(refine ⟨_,i2,?_⟩)|skip);apply Y;clear Y X)
    go_simp
  ·cases ka:inR r.back 0 12
   ·rw [ka] at i1;have e2:unl ((decide (r.back = -1) || false)&&inR r.ret 0 3600) 2=2:=by simp [unl,hb]
    rw [e2];repeat' with_reducible first|apply af|apply ae|apply bU|apply aW|apply az|apply bV|apply bW|apply aa|refine ah [] ?_|(apply ax;·go_simp)|(apply ar;·go_simp)|(apply ab;intro X Y;go_simp;(first|(refine ⟨_,i1,?_⟩)|skip);apply Y;clear Y X)
    go_simp
   ·rw [ka] at i1;cases jJ:inR r.ret 0 3600
    ·rw [jJ] at i2;have e2:unl ((decide (r.back = -1) || true)&&false) 2=2:=by simp [unl]
     rw [e2];repeat' with_reducible first|apply af|apply ae|apply bU|apply aW|apply az|apply bV|apply bW|apply aa|refine ah [] ?_|(apply ax;·go_simp)|(apply ar;·go_simp)|(apply ab;intro X Y;go_simp;(first|(refine ⟨_,i1,?_⟩)|(refine ⟨_,i2,?_⟩)|skip);apply Y;clear Y X)
     go_simp
    ·rw [jJ] at i2;have e2:unl ((decide (r.back = -1) || true)&&true) 2=0:=by simp [unl]
     rw [e2];repeat' with_reducible first|apply af|apply ae|apply bU|apply az|apply aw|apply bV|apply bW|apply aa|refine ah [] ?_|(apply ar;·go_simp)|(apply ab;intro X Y;go_simp;(first|(refine ⟨_,i1,?_⟩)|(refine ⟨_,i2,?_⟩)|skip);apply Y;clear Y X)
     go_simp
theorem M8 (r:Ru) (x:Ev) (hn:r.ranks.length≤1000000) (hc:x.car.size≤1000) : VC Tryz.prog 56 [bJ r,evA x] (I (evE r x)):=by
 obtain ⟨kd,tm,rk,car⟩:=x;simp only [evA] at *;obtain ⟨E,hE⟩ : ∃ E,evE r ⟨kd,tm,rk,car⟩=E:=⟨_,rfl⟩
 rw [hE];have i1:=qW kd 0 5;have i2:=qW tm 0 604800;have i3:=Gr r rk hn;have i4:=zG car (by omega);unfold evE at hE;cases ka:inR kd 0 5
 ·rw [ka] at i1 hE;have e:E=15:=by rw [←hE];rfl
  subst e;clear hE;refine aL Tryz.func56 rfl (by kernel_rfl) rfl fun M0 w0=>?_;simp only [Tryz.ntmps56,Tryz.results56,aC];repeat' with_reducible first|apply af|apply ae|apply aW|apply az|apply aa|refine ah [] ?_|(apply ax;·go_simp)|(apply ab;intro X Y;go_simp;(first|(refine ⟨_,i1,?_⟩)|skip);apply Y;clear Y X)
  go_simp
 rw [ka] at i1 hE;cases jJ:inR tm 0 604800
 ·rw [jJ] at i2 hE;have e:E=2:=by rw [←hE];rfl
  subst e;clear hE;refine aL Tryz.func56 rfl (by kernel_rfl) rfl fun M0 w0=>?_;simp only [Tryz.ntmps56,Tryz.results56,aC];repeat' with_reducible first|apply af|apply ae|apply aW|apply az|apply aw|apply aa|refine ah [] ?_|(apply ax;·go_simp)|(apply ar;·go_simp)|(apply ab;intro X Y;go_simp;(first|(refine ⟨_,i1,?_⟩)|(refine ⟨_,i2,?_⟩)|skip);apply Y;clear Y X)
  go_simp
 rw [jJ] at i2 hE;cases pN:inR rk 0 ((r.ranks.length:Int) - 1)
 ·rw [pN] at i3 hE;have e:E=6:=by rw [←hE];rfl
  subst e;clear hE;refine aL Tryz.func56 rfl (by kernel_rfl) rfl fun M0 w0=>?_;simp only [Tryz.ntmps56,Tryz.results56,aC];repeat' first|(with_reducible first|apply af|apply ae|apply aW|apply az|apply aw|apply aa|refine ah [] ?_|(apply ax;·go_simp)|(apply ar;·go_simp))|((with_reducible apply ab);intro X Y;go_simp;(first|(with_reducible refine ⟨_,i1,?_⟩)|(with_reducible refine ⟨_,i2,?_⟩)|(refine ⟨_,i3,?_⟩)|skip);apply Y;clear Y X)
  go_simp
 rw [pN] at i3 hE;by_cases h4:kd=4
 ·rw [decide_eq_true h4] at hE;rw [h4] at i1;by_cases de:car=ByteArray.empty
  ·have e:E=0:=by rw [←hE,decide_eq_true de];rfl
   have qK:car=⟨#[]⟩:=de;subst e;clear hE de;subst qK;refine aL Tryz.func56 rfl (by kernel_rfl) rfl fun M0 w0=>?_;simp only [Tryz.ntmps56,Tryz.results56,aC];repeat' first|(with_reducible first|apply af|apply ae|apply aW|apply az|apply aw|apply aa|refine ah [] ?_|(apply ax;·go_simp)|(apply ar;·go_simp))|((with_reducible apply ab);intro X Y;go_simp;(first|(with_reducible refine ⟨_,i1,?_⟩)|(with_reducible refine ⟨_,i2,?_⟩)|(refine ⟨_,i3,?_⟩)|skip);apply Y;clear Y X)
   go_simp
  ·have e:E=3:=by rw [←hE,decide_eq_false de];rfl
   have qK:¬car=⟨#[]⟩:=de;subst e;clear hE;refine aL Tryz.func56 rfl (by kernel_rfl) rfl fun M0 w0=>?_;simp only [Tryz.ntmps56,Tryz.results56,aC];repeat' first|(with_reducible first|apply af|apply ae|apply aW|apply az|apply aw|apply aa|refine ah [] ?_|(apply ax;·go_simp)|(apply ar;·go_simp))|((with_reducible apply ab);intro X Y;go_simp;(first|(with_reducible refine ⟨_,i1,?_⟩)|(with_reducible refine ⟨_,i2,?_⟩)|(refine ⟨_,i3,?_⟩)|skip);apply Y;clear Y X)
   go_simp
 ·rw [decide_eq_false h4] at hE;cases Gt:cu car
  ·rw [Gt] at i4 hE;have e:E=4:=by rw [←hE];rfl
   subst e;clear hE;refine aL Tryz.func56 rfl (by kernel_rfl) rfl fun M0 w0=>?_;simp only [Tryz.ntmps56,Tryz.results56,aC];repeat' first|(with_reducible first|apply af|apply ae|apply aW|apply az|apply aw|apply aa|refine ah [] ?_|(apply ax;·go_simp)|(apply ar;·go_simp))|((with_reducible apply ab);intro X Y;go_simp;(first|(with_reducible refine ⟨_,i1,?_⟩)|(with_reducible refine ⟨_,i2,?_⟩)|(refine ⟨_,i3,?_⟩)|(with_reducible refine ⟨_,i4,?_⟩)|skip);apply Y;clear Y X)
   go_simp
  ·rw [Gt] at i4 hE;have e:E=0:=by rw [←hE];rfl
   subst e;clear hE;refine aL Tryz.func56 rfl (by kernel_rfl) rfl fun M0 w0=>?_;simp only [Tryz.ntmps56,Tryz.results56,aC];repeat' first|(with_reducible first|apply af|apply ae|apply az|apply aw|apply aa|refine ah [] ?_|(apply ar;·go_simp))|((with_reducible apply ab);intro X Y;go_simp;(first|(with_reducible refine ⟨_,i1,?_⟩)|(with_reducible refine ⟨_,i2,?_⟩)|(refine ⟨_,i3,?_⟩)|(with_reducible refine ⟨_,i4,?_⟩)|skip);apply Y;clear Y X)
   go_simp
def sd (r:Ru) (k:Nat) : Bool:=decide (20 < (rat r.ranks k).name.size)
def vW (r:Ru) : Bool:=decide (r.ranks.length≤8)&&!iu (sd r) 0 r.ranks.length
theorem M9 (r:Ru) (hl:r.ranks.length≤9223372036854775807) : VC Tryz.prog 19 [bJ r] (B (vW r)):=by
 unfold vW;by_cases h8:r.ranks.length≤8
 ·have M_:¬(8:Int) < (r.ranks.length:Int):=by omega
  obtain ⟨R,hR⟩ : ∃ R,iu (sd r) 0 r.ranks.length=R:=⟨_,rfl⟩
  rw [decide_eq_true h8,hR];have HR:=Lib.hid hR;have HL:=Lib.hid h8;clear hR h8 hl;refine aL Tryz.func19 rfl (by kernel_rfl) rfl fun M0 w0=>?_;simp only [Tryz.ntmps19,Tryz.results19,aC];repeat' with_reducible first|apply af|apply ae|apply aw|apply aE|apply aa|refine ah [] ?_|(apply ar;·go_simp)|(apply ab;intro X Y;go_simp;apply Y;clear Y X)
  apply gy [1] (fun k=>[(3,I k)]) (fun k=>([] : Hp)) (sd r) (r.ranks.length)
  ·go_simp<;>exact rfl
  ·go_simp
  ·intro k hk HB HP K hK;have:=HL.out;obtain ⟨w1,w2,w3,w4,w5,w6⟩:=ixs (m:=k) (by omega);have hp:=HP.out;rw [sd,decide_eq_false_iff_not] at hp;have qm:¬(20:Int) < ((rat r.ranks k).name.size:Int):=by omega
   clear hp this;repeat' with_reducible first|apply af|apply ae|apply aw|apply aE|apply bc|apply aa|refine ah [] ?_|(apply ax;·go_simp)|(apply ar;·go_simp)|(apply ab;intro X Y;go_simp;apply Y;clear Y X)
   refine hK _ ?_;go_simp
  ·intro k hk HB HP K;have hp:=HP.out;rw [sd,decide_eq_true_eq] at hp;have qm:(20:Int) < ((rat r.ranks k).name.size:Int):=by omega
   have e:=HR.out;rw [oX hk HP.out] at e;subst e;clear hp;repeat' with_reducible first|apply af|apply ae|apply aW|apply az|apply aw|apply aE|apply dh|apply aa|refine ah [] ?_|(apply ax;·go_simp)|(apply ab;intro X Y;go_simp;apply Y;clear Y X)
   go_simp
  ·intro HB K;have e:=HR.out;rw [qX HB.out] at e;subst e;repeat' with_reducible first|apply af|apply ae|apply bU|apply az|apply bV|apply bW|apply aa|refine ah [] ?_|(apply ar;·go_simp)|(apply ab;intro X Y;go_simp;apply Y;clear Y X)
   go_simp
 ·have M_:(8:Int) < (r.ranks.length:Int):=by omega
  rw [decide_eq_false h8,Bool.false_and];clear h8 hl;refine aL Tryz.func19 rfl (by kernel_rfl) rfl fun M0 w0=>?_;simp only [Tryz.ntmps19,Tryz.results19,aC];repeat' with_reducible first|apply af|apply ae|apply aW|apply az|apply aa|refine ah [] ?_|(apply ax;·go_simp)|(apply ab;intro X Y;go_simp;apply Y;clear Y X)
  go_simp
theorem Na {r:Ru} (h:vW r=true) : r.ranks.length≤8∧∀ k,k < r.ranks.length→(rat r.ranks k).name.size≤1000:=by
 unfold vW at h;rw [Bool.and_eq_true,decide_eq_true_eq,Bool.not_eq_true'] at h;refine ⟨h.1,fun k hk=>?_⟩;by_cases hb:sd r k=true
 ·have:=oX hk hb;rw [h.2] at this;cases this
 ·unfold sd at hb;have:¬20 < (rat r.ranks k).name.size:=fun hh=>hb (decide_eq_true hh);omega
def se (l:List Ev) (k:Nat) : Bool:=decide (20 < (aA l k).car.size)
def vX (l:List Ev) : Bool:=decide (l.length≤20∨200 < l.length∧l.length≤202)&&!iu (se l) 0 l.length
theorem Nb (l:List Ev) (hl:l.length≤9223372036854775807) : VC Tryz.prog 20 [cp l] (B (vX l)):=by
 unfold vX;by_cases h8:l.length≤20∨200 < l.length∧l.length≤202
 ·have hb:((20:Int) < (l.length:Int)→¬(l.length:Int)≤200)∧¬(202:Int) < (l.length:Int):=by omega
  obtain ⟨h1,h2⟩:=hb;obtain ⟨R,hR⟩ : ∃ R,iu (se l) 0 l.length=R:=⟨_,rfl⟩
  rw [decide_eq_true h8,hR];have vK:l.length≤202:=by omega
  have HR:=Lib.hid hR;have HL:=Lib.hid vK;clear hR h8 hl vK;by_cases pP:(20:Int) < (l.length:Int)
  all_goals (
   first
    | (have l8:=h1 pP)
    | skip
   clear h1;refine aL Tryz.func20 rfl (by kernel_rfl) rfl fun M0 w0=>?_;simp only [Tryz.ntmps20,Tryz.results20,aC];repeat' with_reducible first|apply af|apply ae|apply aw|apply aE|apply aa|refine ah [] ?_|(apply ar;·go_simp)|(apply ab;intro X Y;go_simp;apply Y;clear Y X)
   apply gy [0] (fun k=>[(3,I k)]) (fun k=>([] : Hp)) (se l) (l.length)
   ·go_simp<;>exact rfl
   ·go_simp
   ·intro k hk HB HP K hK;have:=HL.out;obtain ⟨w1,w2,w3,w4,w5,w6⟩:=ixs (m:=k) (by omega);have hp:=HP.out;rw [se,decide_eq_false_iff_not] at hp;have qm:¬(20:Int) < ((aA l k).car.size:Int):=by omega
    clear hp this;repeat' with_reducible first|apply af|apply ae|apply aw|apply aE|apply bc|apply aa|refine ah [] ?_|(apply ax;·go_simp)|(apply ar;·go_simp)|(apply ab;intro X Y;go_simp;apply Y;clear Y X)
    refine hK _ ?_;go_simp
   ·intro k hk HB HP K;have hp:=HP.out;rw [se,decide_eq_true_eq] at hp;have qm:(20:Int) < ((aA l k).car.size:Int):=by omega
    have e:=HR.out;rw [oX hk HP.out] at e;subst e;clear hp;repeat' with_reducible first|apply af|apply ae|apply aW|apply az|apply aw|apply aE|apply dh|apply aa|refine ah [] ?_|(apply ax;·go_simp)|(apply ab;intro X Y;go_simp;apply Y;clear Y X)
    go_simp
   ·intro HB K;have e:=HR.out;rw [qX HB.out] at e;subst e;repeat' with_reducible first|apply af|apply ae|apply bU|apply az|apply bV|apply bW|apply aa|refine ah [] ?_|(apply ar;·go_simp)|(apply ab;intro X Y;go_simp;apply Y;clear Y X)
    go_simp)
 ·rw [decide_eq_false h8,Bool.false_and];by_cases h2:(202:Int) < (l.length:Int)
  ·have pP:(20:Int) < (l.length:Int):=by omega
   have l8:¬(l.length:Int)≤200:=by omega
   clear h8 hl;refine aL Tryz.func20 rfl (by kernel_rfl) rfl fun M0 w0=>?_;simp only [Tryz.ntmps20,Tryz.results20,aC];repeat' with_reducible first|apply af|apply ae|apply aW|apply az|apply aa|refine ah [] ?_|(apply ax;·go_simp)|(apply ab;intro X Y;go_simp;apply Y;clear Y X)
   go_simp
  ·have pP:(20:Int) < (l.length:Int):=by omega
   have l8:(l.length:Int)≤200:=by omega
   clear h8 hl;refine aL Tryz.func20 rfl (by kernel_rfl) rfl fun M0 w0=>?_;simp only [Tryz.ntmps20,Tryz.results20,aC];repeat' with_reducible first|apply af|apply ae|apply aW|apply az|apply aa|refine ah [] ?_|(apply ax;·go_simp)|(apply ab;intro X Y;go_simp;apply Y;clear Y X)
   go_simp
theorem Nc {l:List Ev} (h:vX l=true) : l.length≤202∧∀ x∈l,x.car.size≤1000:=by
 unfold vX at h;rw [Bool.and_eq_true,decide_eq_true_eq,Bool.not_eq_true'] at h;refine ⟨by omega,fun x hx=>?_⟩;obtain ⟨k,hk,rfl⟩:=List.getElem_of_mem hx;rw [←jK hk];by_cases hb:se l k=true
 ·have:=oX hk hb;rw [h.2] at this;cases this
 ·unfold se at hb;have:¬20 < (aA l k).car.size:=fun hh=>hb (decide_eq_true hh);omega
theorem Nd (r:Ru) (hn:r.ranks.length≤1000000) (cU:∀ k,k < r.ranks.length→(rat r.ranks k).name.size≤1000) : VC Tryz.prog 24 [bJ r] (I (dR r).2):=by
 have g:=M6 r hn cU;generalize (dR r).2=E at *;generalize ((dR r).1:Int)=K0 at *;refine aL Tryz.func24 rfl (by kernel_rfl) rfl fun M0 w0=>?_;simp only [Tryz.ntmps24,Tryz.results24,aC];repeat' first|(with_reducible first|apply af|apply ae|apply az|apply aa|refine ah [] ?_)|((with_reducible apply ab);intro X Y;go_simp;(first|(refine ⟨_,g,?_⟩)|skip);apply Y;clear Y X)
 go_simp
theorem V0.nilTk {w:World} {M:Nat→Nat→Prop} {v:Value} {q:AV} {t:Int} (hv:V0 w M (.agg [q,bG,I t]) v) : V0 w M (.agg [q,.sl 3 [],I t]) v:=by
 cases hv with
 | agg _ us hl h1 h2=>
  refine .agg _ us hl (fun c hc=>?_) fun j c u hc hu=>?_
  ·simp only [List.mem_cons,List.not_mem_nil,or_false] at hc;rcases hc with rfl|rfl|rfl
   ·exact h1 _ (by simp)
   ·rfl
   ·rfl
  ·rcases j with _|_|_|j
   ·exact h2 0 c u hc hu
   ·simp only [List.getElem?_cons_zero,List.getElem?_cons_succ,Option.some.injEq] at hc;subst hc;exact (h2 1 _ u rfl hu).nilSl 3
   ·exact h2 2 c u hc hu
   ·simp at hc
theorem Nf (r:Ru) (hn:r.ranks.length≤1000000) : VC Tryz.prog 39 [bJ r] (dX (st0 r)):=by
 refine (?_:VC Tryz.prog 39 [bJ r] (.agg [hQ (st0 r).q,bG,I 0])).weak fun w M v hv=>hv.nilTk;unfold st0;simp only [hQ,EX];have fu:r.ranks.length≤1000000000:=by omega
 have fL:(r.ranks.length:Int)≤1000000000:=by omega
 refine aL Tryz.func39 rfl (by kernel_rfl) rfl fun M0 w0=>?_;simp only [Tryz.ntmps39,Tryz.results39,aC];repeat' with_reducible apply af
 refine ah [] ?_;repeat' with_reducible first|apply af|apply ae|apply aa|(apply ab;intro X Y;go_simp;apply Y;clear Y X)
 refine ah [6] ?_;repeat ((with_reducible refine ab fun X Y=>?_);go_simp;refine Y _ ?_;clear Y X)
 apply aa;apply ae;refine hZ (fun p a w R=>⟨_,R.toBag (id:=1) (sz:=1) rfl (by decide) (by kernel_rfl)⟩) ?_;go_simp;refine hZ (fun p a w R=>R.bagArr (id:=1) rfl (by kernel_rfl)) ?_;go_simp;refine gV 0 0 1 rfl rfl rfl ?_;repeat' with_reducible apply az
 go_simp
end Go.Proofs.YtoibondihdhnoaaGreatDoor
