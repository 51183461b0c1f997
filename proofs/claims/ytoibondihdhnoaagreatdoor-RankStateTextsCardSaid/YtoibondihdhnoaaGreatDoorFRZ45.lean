/- Texts in one: Walks: lists that are the same; of every length up to a million. -/
import Derived.Test.YtoibondihdhnoaaGreatDoorFRZ8
import Derived.Test.YtoibondihdhnoaaGreatDoorFRZ44
import Derived.Test.YtoibondihdhnoaaGreatDoorFRZ40
namespace Go.Proofs.YtoibondihdhnoaaGreatDoor
open Go.RowKit
set_option maxRecDepth 100000
set_option maxHeartbeats 2000000
theorem N3 (l:List Wt) (hl:l.length≤1000000) : VC Tryz.prog 43 [.sl 3 (l.map Wt.av),.sl 3 (l.map Wt.av)] (B true):=by
 refine aK Tryz.func43 rfl (by kernel_rfl) rfl fun M0 w0=>?_;simp only [Tryz.ntmps43,Tryz.results43,az];repeat' with_reducible first|apply af|apply ae|apply aj|apply ar|apply aa|refine ah [] ?_|(apply ak;·go_simp)|(apply ab;intro X Y;go_simp;apply Y;clear Y X)
 apply ch [0,1] (fun k=>[(5,I k)]) (fun k=>([] : Hp)) (fun _=>false) (l.length)
 ·go_simp<;>exact rfl
 ·go_simp
 ·intro k hk HB HP K hK;obtain ⟨w1,w2,w3,w4,w5,w6⟩:=ixs (m:=k) (by omega);repeat' first|(with_reducible first|apply af|apply ae|apply aj|apply ar|apply aT|apply aa|refine ah [] ?_|apply aI|(apply ao;·go_simp)|(apply ak;·go_simp)|((first|apply ab|apply aJ);intro X Y;go_simp;apply Y;clear Y X))|((refine aQ 9 9 [] rfl (by kernel_rfl) ?_);simp only [aA])
  refine hK _ ?_;go_simp
 ·intro k hk HB HP K;exact absurd HP.out (by simp)
 ·intro HB K;repeat' with_reducible first|apply af|apply ae|apply aW|apply aq|apply aX|apply aY|apply aa|refine ah [] ?_|(apply ak;·go_simp)|(apply ab;intro X Y;go_simp;apply Y;clear Y X)
  go_simp
theorem N4 (l:List ByteArray) (hl:l.length≤1000000) : VCo Tryz.prog 116 [fr l] 9 1 false (l.map cL):=by
 refine Eu Tryz.func116 rfl (by kernel_rfl) (by kernel_rfl) rfl Tryz.results116 (by decide) (fun k x hx=>by exact TxO.map l x (List.mem_of_getElem? hx)) fun M0 w0=>?_;simp only [Tryz.ntmps116,az];have l5:l.length≤1000000000:=by omega
 repeat (with_reducible first|apply af|apply ae|apply aq|apply aa|refine ah [3] ?_|(apply ab;intro X Y;go_simp;apply Y;clear Y X))
 exact ⟨0,rfl,rfl⟩
theorem N5 (l:List ByteArray) (hl:l.length≤1000000) : VC Tryz.prog 116 [fr l] (fr l):=N6 (N4 l hl)
theorem Hr (r:Ru) (hl:r.ranks.length≤1000000) : VC Tryz.prog 22 [ct r] (ct r):=by
 have l5:r.ranks.length≤1000000000:=by omega
 refine aK Tryz.func22 rfl (by kernel_rfl) rfl fun M0 w0=>?_;simp only [Tryz.ntmps22,Tryz.results22,az];repeat' with_reducible apply af
 refine ah [1] ?_;repeat' with_reducible first|apply af|apply ae|apply aa|(apply ab;intro X Y;go_simp;apply Y;clear Y X)
 refine ah [3] ?_;repeat' with_reducible first|apply af|apply ae|apply aa|(apply ab;intro X Y;go_simp;apply Y;clear Y X)
 refine hZ 0 0 2 rfl rfl rfl ?_;repeat' with_reducible first|apply ae|apply aq|apply aa|refine ah [] ?_|(apply ab;intro X Y;go_simp;apply Y;clear Y X)
 go_simp
theorem nx (l:List ByteArray) (s:ByteArray) (hl:l.length≤1000000) : VC Tryz.prog 70 [fr l,S s] (B (cQ (isT l s) 0 l.length)):=by
 obtain ⟨R,hR⟩ : ∃ R,cQ (isT l s) 0 l.length=R:=⟨_,rfl⟩
 rw [hR];have HR:=Lib.hid hR;clear hR;refine aK Tryz.func70 rfl (by kernel_rfl) rfl fun M0 w0=>?_;simp only [Tryz.ntmps70,Tryz.results70,az];repeat' with_reducible first|apply af|apply ae|apply ar|apply aa|refine ah [] ?_|(apply ab;intro X Y;go_simp;apply Y;clear Y X)
 apply ch [0,1] (fun k=>[(5,I k)]) (fun k=>([] : Hp)) (isT l s) (l.length)
 ·go_simp<;>exact rfl
 ·go_simp
 ·intro k hk HB HP K hK;obtain ⟨w1,w2,w3,w4,w5,w6⟩:=ixs (m:=k) (by omega);have hp:¬l[k]=s:=by
   have:=HP.out;simpa [isT,bc hk] using this
  repeat' with_reducible first|apply af|apply ae|apply aj|apply ar|apply aT|apply aa|refine ah [] ?_|(apply ao;·go_simp)|(apply ak;·go_simp)|(apply ab;intro X Y;go_simp;apply Y;clear Y X)
  refine hK _ ?_;go_simp
 ·intro k hk HB HP K;have hp:l[k]=s:=by
   have:=HP.out;simpa [isT,bc hk] using this
  have e:=HR.out;rw [ig hk HP.out] at e;subst e;repeat' with_reducible first|apply af|apply ae|apply aF|apply aq|apply aj|apply ar|apply b_|apply aa|refine ah [] ?_|(apply ao;·go_simp)|(apply ab;intro X Y;go_simp;apply Y;clear Y X)
  go_simp
 ·intro HB K;have e:=HR.out;rw [gI HB.out] at e;subst e;repeat (with_reducible first|apply af|apply ae|apply aW|apply aq|apply aX|apply aY|apply aa|refine ah [] ?_|(apply ak;·go_simp)|(apply ab;intro X Y;go_simp;apply Y;clear Y X))
  go_simp
theorem Hs (l:List ByteArray) (hl:l.length≤1000000) : VC Tryz.prog 78 [fr l,fr l] (B true):=by
 refine aK Tryz.func78 rfl (by kernel_rfl) rfl fun M0 w0=>?_;simp only [Tryz.ntmps78,Tryz.results78,az];repeat' with_reducible first|apply af|apply ae|apply aj|apply ar|apply aa|refine ah [] ?_|(apply ak;·go_simp)|(apply ab;intro X Y;go_simp;apply Y;clear Y X)
 apply ch [0,1] (fun k=>[(5,I k)]) (fun k=>([] : Hp)) (fun _=>false) (l.length)
 ·go_simp<;>exact rfl
 ·go_simp
 ·intro k hk HB HP K hK;obtain ⟨w1,w2,w3,w4,w5,w6⟩:=ixs (m:=k) (by omega);repeat' first|(with_reducible first|apply af|apply ae|apply aj|apply ar|apply aT|apply aa|refine ah [] ?_|apply aI|(apply ao;·go_simp)|(apply ak;·go_simp)|((first|apply ab|apply aJ);intro X Y;go_simp;apply Y;clear Y X))|((refine aQ 9 9 [] rfl (by kernel_rfl) ?_);simp only [aA])
  refine hK _ ?_;go_simp
 ·intro k hk HB HP K;exact absurd HP.out (by simp)
 ·intro HB K;repeat' with_reducible first|apply af|apply ae|apply aW|apply aq|apply aX|apply aY|apply aa|refine ah [] ?_|(apply ak;·go_simp)|(apply ab;intro X Y;go_simp;apply Y;clear Y X)
  go_simp
theorem Ht (s:St) (h:SmallS s) : VC Tryz.prog 25 [ez s,ez s] (B true):=by
 have hq:=h.q1;have sd:=h.nq;have se:=h.nt;have HQ:=Lib.hid hq;clear hq h;refine aK Tryz.func25 rfl (by kernel_rfl) rfl fun M0 w0=>?_;simp only [Tryz.ntmps25,Tryz.results25,az];repeat' with_reducible first|apply af|apply ae|apply aj|apply ar|apply aa|refine ah [] ?_|(apply ak;·go_simp)|(apply ab;intro X Y;go_simp;apply Y;clear Y X)
 apply ch [2,3] (fun k=>[(5,I k)]) (fun k=>([] : Hp)) (fun _=>false) (s.q.length)
 ·go_simp<;>exact rfl
 ·go_simp
 ·intro k hk HB HP K hK;obtain ⟨w1,w2,w3,w4,w5,w6⟩:=ixs (m:=k) (by omega);have g:=Hs (qat s.q k) (by rw [fo hk];have:=(HQ.out _ (List.getElem_mem hk)).1;omega);repeat' first|(with_reducible first|apply af|apply ae|apply aj|apply ar|apply aT|apply aa|refine ah [] ?_|apply aI|(apply ao;·go_simp)|(apply ak;·go_simp)|((first|apply ab|apply aJ);intro X Y;go_simp;(first|(refine ⟨_,g,?_⟩)|skip);apply Y;clear Y X))|((refine aQ 12 12 [] rfl (by kernel_rfl) ?_);simp only [aA])
  refine hK _ ?_;go_simp
 ·intro k hk HB HP K;exact absurd HP.out (by simp)
 ·intro HB K;repeat' with_reducible first|apply af|apply ae|apply aW|apply aX|apply ar|apply aY|apply aa|refine ah [] ?_|(apply ak;·go_simp)|(apply ab;intro X Y;go_simp;apply Y;clear Y X)
  apply ch [2,3] (fun k=>[(6,I k)]) (fun k=>([] : Hp)) (fun _=>false) (s.tk.length)
  ·go_simp<;>exact rfl
  ·go_simp
  ·intro k hk HB HP K hK;obtain ⟨w1,w2,w3,w4,w5,w6⟩:=ixs (m:=k) (by omega);repeat' first|(with_reducible first|apply af|apply ae|apply aj|apply ar|apply aT|apply aa|refine ah [] ?_|apply aI|(apply ao;·go_simp)|(apply ak;·go_simp)|((first|apply ab|apply aJ);intro X Y;go_simp;apply Y;clear Y X))|((refine aQ 11 11 [] rfl (by kernel_rfl) ?_);simp only [aA])
   refine hK _ ?_;go_simp
  ·intro k hk HB HP K;exact absurd HP.out (by simp)
  ·intro HB K;repeat' with_reducible first|apply af|apply ae|apply aW|apply aq|apply aX|apply aY|apply aa|refine ah [] ?_|(apply ak;·go_simp)|(apply ab;intro X Y;go_simp;apply Y;clear Y X)
   go_simp
def ml:Ru:=⟨[⟨⟨#[115,116,97,110,100]⟩,2,1,false⟩,⟨⟨#[102,101,101,100,101,114]⟩,3,-1,false⟩],1,60⟩
def kF:List Ev:=[⟨0,0,0,⟨#[97]⟩⟩,⟨0,5,0,⟨#[98]⟩⟩,⟨0,9,1,⟨#[99]⟩⟩,⟨1,20,0,⟨#[97]⟩⟩]
def sw:St:=⟨[[⟨#[98]⟩,⟨#[99]⟩],[]],[⟨⟨#[97]⟩,0,20⟩],20⟩
theorem N7:VC Tryz.prog 83 [] (ct ml):=by
 unfold ml;refine aK Tryz.func83 rfl (by kernel_rfl) rfl fun M0 w0=>?_;simp only [Tryz.ntmps83,Tryz.results83,az];repeat' with_reducible first|apply af|apply ae|apply aq|apply aa|refine ah [] ?_|(apply ab;intro X Y;go_simp;apply Y;clear Y X)
 go_simp
theorem N8:VC Tryz.prog 84 [] (dD kF):=by
 unfold kF;refine aK Tryz.func84 rfl (by kernel_rfl) rfl fun M0 w0=>?_;simp only [Tryz.ntmps84,Tryz.results84,az];repeat' with_reducible first|apply af|apply ae|apply aq|apply aa|refine ah [] ?_|(apply ab;intro X Y;go_simp;apply Y;clear Y X)
 go_simp
theorem N9:vO ml kF=(sw,0,0):=by kernel_rfl
theorem N_:su ml kF=0:=by kernel_rfl
theorem Oa:tJ kF 0 kF=[⟨⟨#[97]⟩,0,20⟩]:=by kernel_rfl
theorem Oc:(tZ ml kF).2=0∧(tZ ml kF).1.length=6:=⟨by kernel_rfl,by kernel_rfl⟩
def zC:List Sg:=[⟨0,0,⟨#[97]⟩⟩,⟨0,0,⟨#[98]⟩⟩,⟨1,0,⟨#[98]⟩⟩]
theorem Od:ovT zC = .agg [I 0,I 1,I 2]:=by kernel_rfl
theorem Oe:ovE zC=0:=by kernel_rfl
def CW:ByteArray:=⟨#[99,97,108,108,32,50,48,32,48,32,45]⟩
theorem Of:evP (aP 32 CW)=(⟨4,20,0,⟨#[]⟩⟩,0):=by kernel_rfl
theorem Og:k6 sw=⟨#[50,48,124,98,32,99,124,124,97,58,48,58,50,48]⟩:=by kernel_rfl
theorem CX:SmallL ml kF:=⟨by decide,fun k hk=>by
 have h2:k < 2:=hk;rcases k with _|_|k
 ·decide
 ·decide
 ·omega,fun x hx=>by
 simp only [kF,List.mem_cons,List.not_mem_nil,or_false] at hx;rcases hx with rfl|rfl|rfl|rfl<;>decide⟩
theorem Oh:SmallS sw:=by
 refine ⟨by decide,fun l hl=>?_,by decide,fun t ht=>?_,by unfold i64;decide⟩
 ·simp only [sw,List.mem_cons,List.not_mem_nil,or_false] at hl;rcases hl with rfl|rfl
  ·refine ⟨by decide,fun c hc=>?_⟩;simp only [List.mem_cons,List.not_mem_nil,or_false] at hc;rcases hc with rfl|rfl<;>decide
  ·exact ⟨by decide,fun c hc=>by simp at hc⟩
 ·simp only [sw,List.mem_cons,List.not_mem_nil,or_false] at ht;subst ht;unfold i64;decide
theorem wK:VC Tryz.prog 18 [] (B true):=by
 have g1:=N7;have g2:=N8;have g3:=Mq ml kF CX;have g4:=N0 ml kF CX;have g5:=GO zC (by decide) (fun k hk=>by
  have h2:k < 3:=hk;rcases k with _|_|_|k
  ·decide
  ·decide
  ·decide
  ·omega)
 have g6:=CS CW (by decide);have g7:=NK ml kF CX;have g8:=GF sw Oh;have g9:=N3 [⟨⟨#[97]⟩,0,20⟩] (by decide);obtain ⟨m1,m2⟩:=Oc;rw [N9] at g3;rw [N_,if_pos rfl,Oa] at g4;rw [Od,Oe] at g5;rw [Of] at g6;rw [m1] at g7;rw [Og] at g8;generalize (tZ ml kF).1=L at *;have m3:(L.length:Int)=6:=by omega
 clear m1 m2;generalize ml=R0 at *;generalize hM:kF=M at *;clear hM;generalize hS:sw=S0 at *;clear hS;unfold zC at g5;unfold CW at g6;simp only [ct,dD,ez,qK,evA,List.map_cons,List.map_nil,Sg.av,Wt.av] at g1 g2 g3 g4 g5 g6 g7 g8 g9;refine aK Tryz.func18 rfl (by kernel_rfl) rfl fun M0 w0=>?_;simp only [Tryz.ntmps18,Tryz.results18,az];repeat' with_reducible first|apply af|apply ae|apply aq|apply aa|refine ah [] ?_|(apply ab;intro X Y;go_simp;(first|(refine ⟨_,g1,?_⟩)|(refine ⟨_,g2,?_⟩)|(refine ⟨_,g3,?_⟩)|(refine ⟨_,g4,?_⟩)|(refine ⟨_,g5,?_⟩)|(refine ⟨_,g6,?_⟩)|(refine ⟨_,g7,?_⟩)|(refine ⟨_,g8,?_⟩)|(refine ⟨_,g9,?_⟩)|skip);apply Y;clear Y X)
 go_simp
theorem Oi {p:Nat→Bool} {n:Nat} (h:∀ j,j < n→p j=false) : cQ p 0 n=false:=gI h
theorem Oj (l:List Sg) (i k:Nat) : kA l i k=cQ (fun d=>fS (aB l (i+1+d)) (aB l i).rank (aB l i).car) 0 (k - (i+1)):=by
 unfold kA cQ;simp only [Nat.zero_add]
theorem sx (l:List Sg) (i m:Nat) (hi:i < m) (hm:m≤l.length) (hl:l.length≤1000000) : VC Tryz.prog 93 [qK l,I (i:Int),I (m:Int)] (B (kA l i m)):=by
 obtain ⟨R,hR⟩ : ∃ R,kA l i m=R:=⟨_,rfl⟩
 rw [hR];rw [Oj] at hR;obtain ⟨w1,w2,w3,w4,w5,w6⟩:=ixs (m:=i) (by omega);have HR:=Lib.hid hR;obtain ⟨i0,va⟩ : ∃ i0,i0=i:=⟨_,rfl⟩
 have CY:=Lib.hid va;clear hR va;have cK:i < l.length:=by omega
 refine aK Tryz.func93 rfl (by kernel_rfl) rfl fun M0 w0=>?_;simp only [Tryz.ntmps93,Tryz.results93,az];repeat' with_reducible first|apply af|apply ae|apply ar|apply aa|refine ah [] ?_|(apply ab;intro X Y;go_simp;apply Y;clear Y X)
 apply ch [0,1,2] (fun k=>[(7,I ((i:Int)+1+(k:Int)))]) (fun k=>([] : Hp)) (fun d=>fS (aB l (i0+1+d)) (aB l i0).rank (aB l i0).car) (m - (i+1))
 ·go_simp<;>exact rfl
 ·go_simp
 ·intro k hk HB HP K hK;obtain ⟨n,hn⟩ : ∃ n,n=i+1+k:=⟨_,rfl⟩
  rw [show (i:Int)+1+((k+1:Nat) : Int)=(n:Int)+1 by omega] at hK;rw [show (i:Int)+1+(k:Int)=(n:Int) by omega];have hp:=HP.out;rw [CY.out,←hn] at hp;have bg:n < l.length:=by omega
  have bI:(n:Int) < m:=by omega
  obtain ⟨x1,x2,x3,x4,x5,x6⟩:=ixs (m:=n) (by omega);clear hn;rw [fS] at hp;by_cases q1:(aB l n).rank=(aB l i).rank
  ·have q2:¬(aB l n).car=(aB l i).car:=by
    rw [decide_eq_true q1] at hp;simpa using hp
   clear hp;repeat' first|(with_reducible first|apply af|apply ae|apply aj|apply ar|apply aT|apply aa|refine ah [] ?_|apply aI|(apply ao;·go_simp)|(apply ak;·go_simp)|((first|apply ab|apply aJ);intro X Y;go_simp;apply Y;clear Y X))|((refine aQ 24 24 [] rfl (by kernel_rfl) ?_);simp only [aA])
   refine hK _ ?_;go_simp
  ·clear hp;repeat' first|(with_reducible first|apply af|apply ae|apply aj|apply ar|apply aT|apply aa|refine ah [] ?_|apply aI|(apply ao;·go_simp)|(apply ak;·go_simp)|((first|apply ab|apply aJ);intro X Y;go_simp;apply Y;clear Y X))|((refine aQ 24 24 [] rfl (by kernel_rfl) ?_);simp only [aA])
   refine hK _ ?_;go_simp
 ·intro k hk HB HP K;obtain ⟨n,hn⟩ : ∃ n,n=i+1+k:=⟨_,rfl⟩
  rw [show (i:Int)+1+(k:Int)=(n:Int) by omega];have e:=HR.out;rw [CY.out] at HP;rw [ig hk HP.out] at e;subst e;have hp:=HP.out;rw [←hn] at hp;have bg:n < l.length:=by omega
  have bI:(n:Int) < m:=by omega
  obtain ⟨x1,x2,x3,x4,x5,x6⟩:=ixs (m:=n) (by omega);obtain ⟨q1,q2⟩:=oa.1 hp;clear hn hp;repeat' first|(with_reducible first|apply af|apply ae|apply aF|apply aq|apply aj|apply ar|apply b_|apply aa|refine ah [] ?_|apply aI|(apply ao;·go_simp)|((first|apply ab|apply aJ);intro X Y;go_simp;apply Y;clear Y X))|((refine aQ 24 24 [] rfl (by kernel_rfl) ?_);simp only [aA])
  go_simp
 ·intro HB K;rw [show (i:Int)+1+((m - (i+1) : Nat) : Int)=(m:Int) by omega];have e:=HR.out;have hb:=HB.out;rw [CY.out] at hb;rw [Oi hb] at e;subst e;repeat' with_reducible first|apply af|apply ae|apply aW|apply aq|apply aX|apply aY|apply aa|refine ah [] ?_|(apply ak;·go_simp)|(apply ab;intro X Y;go_simp;apply Y;clear Y X)
  go_simp
theorem Ok (l:List Sg) (hl:l.length≤1000000) (hc:∀ k,k < l.length→(aB l k).car.size≤1000) : VC Tryz.prog 28 [qK l] (I (ni l)):=by
 unfold ni;by_cases h2:200 < l.length
 ·rw [if_pos h2];have h3:(200:Int) < (l.length:Int):=by omega
  refine aK Tryz.func28 rfl (by kernel_rfl) rfl fun M0 w0=>?_;simp only [Tryz.ntmps28,Tryz.results28,az];repeat' with_reducible first|apply af|apply ae|apply aF|apply aq|apply aa|refine ah [] ?_|(apply ao;·go_simp)|(apply ab;intro X Y;go_simp;apply Y;clear Y X)
  go_simp
 rw [if_neg h2];have h3:¬(200:Int) < (l.length:Int):=by omega
 obtain ⟨R,hR⟩ : ∃ R,(jU (sgE l) 0 l.length).2=R:=⟨_,rfl⟩
 rw [hR];have HR:=Lib.hid hR;have HC:=Lib.hid hc;clear hR hc;refine aK Tryz.func28 rfl (by kernel_rfl) rfl fun M0 w0=>?_;simp only [Tryz.ntmps28,Tryz.results28,az];repeat' with_reducible first|apply af|apply ae|apply aj|apply ar|apply aa|refine ah [] ?_|(apply ak;·go_simp)|(apply ab;intro X Y;go_simp;apply Y;clear Y X)
 apply ch [0] (fun k=>[(3,I k)]) (fun k=>([] : Hp)) (fun k=>!decide (sgE l k=0)) (l.length)
 ·go_simp<;>exact rfl
 ·go_simp
 ·intro k hk HB HP K hK;obtain ⟨w1,w2,w3,w4,w5,w6⟩:=ixs (m:=k) (by omega);have he:sgE l k=0:=by simpa using HP.out
  unfold sgE at he;rw [bU,bU,bU] at he;have i1:=j3 (aB l k).kind 0 3;have i2:=j3 (aB l k).rank 0 5;have i3:=ny (aB l k).car (by have:=HC.out k hk;omega);rw [ew (by decide) he.1] at i1;rw [ew (by decide) he.2.1] at i2;rw [ew (by decide) he.2.2.1] at i3;clear he;repeat' with_reducible first|apply af|apply ae|apply aj|apply ar|apply aT|apply aa|refine ah [] ?_|(apply ao;·go_simp)|(apply ak;·go_simp)|(apply ab;intro X Y;go_simp;(first|(refine ⟨_,i1,?_⟩)|(refine ⟨_,i2,?_⟩)|(refine ⟨_,i3,?_⟩)|skip);apply Y;clear Y X)
  refine hK _ ?_;go_simp
 ·intro k hk HB HP K;have e:=HR.out;rw [y9 hk HB.out HP.out] at e;have i1:=j3 (aB l k).kind 0 3;have i2:=j3 (aB l k).rank 0 5;have i3:=ny (aB l k).car (by have:=HC.out k hk;omega);have aC:sgE l k≠0:=by simpa using HP.out
  unfold sgE at e aC;cases gv:inR (aB l k).kind 0 3
  ·rw [gv] at e i1;subst e;clear aC;repeat' with_reducible first|apply af|apply ae|apply aF|apply aq|apply aj|apply ar|apply b_|apply aa|refine ah [] ?_|(apply ao;·go_simp)|(apply ab;intro X Y;go_simp;(first|(refine ⟨_,i1,?_⟩)|skip);apply Y;clear Y X)
   go_simp;rfl
  cases gx:inR (aB l k).rank 0 5
  ·rw [gv,gx] at e;rw [gv] at i1;rw [gx] at i2;subst e;clear aC;repeat' with_reducible first|apply af|apply ae|apply aF|apply aq|apply aj|apply ar|apply b_|apply aa|refine ah [] ?_|(apply ao;·go_simp)|(apply ak;·go_simp)|(apply ab;intro X Y;go_simp;(first|(refine ⟨_,i1,?_⟩)|(refine ⟨_,i2,?_⟩)|skip);apply Y;clear Y X)
   go_simp;rfl
  cases lS:bP (aB l k).car
  ·rw [gv,gx,lS] at e;rw [gv] at i1;rw [gx] at i2;rw [lS] at i3;subst e;clear aC;repeat' with_reducible first|apply af|apply ae|apply aF|apply aq|apply aj|apply ar|apply b_|apply aa|refine ah [] ?_|(apply ao;·go_simp)|(apply ak;·go_simp)|(apply ab;intro X Y;go_simp;(first|(refine ⟨_,i1,?_⟩)|(refine ⟨_,i2,?_⟩)|(refine ⟨_,i3,?_⟩)|skip);apply Y;clear Y X)
   go_simp;rfl
  ·rw [gv,gx,lS] at aC;exact absurd rfl aC
 ·intro HB K;have e:=HR.out;rw [vF l.length 0 (fun j hj=>HB.out j (by omega))] at e;subst e;repeat' with_reducible first|apply af|apply ae|apply aW|apply aq|apply aX|apply aY|apply aa|refine ah [] ?_|(apply ak;·go_simp)|(apply ab;intro X Y;go_simp;apply Y;clear Y X)
  go_simp
def ovA (l:List Sg) : AV:=if ij l < 0 then .agg [I 0,I 0,I 0] else .agg [I (kz l (ij l).toNat),I (jOf l (ij l).toNat),I (ij l)]
theorem Ol (l:List Sg) (hl:l.length≤1000000) : VC Tryz.prog 29 [qK l] (.tup [ovA l,B (decide (0≤ij l))]):=by
 obtain ⟨T,hT⟩ : ∃ T,ovA l=T:=⟨_,rfl⟩
 obtain ⟨O,hO⟩ : ∃ O,decide (0≤ij l)=O:=⟨_,rfl⟩
 rw [hT,hO];unfold ovA at hT;have zD:=Lib.hid hT;have HO:=Lib.hid hO;clear hT hO;refine aK Tryz.func29 rfl (by kernel_rfl) rfl fun M0 w0=>?_;simp only [Tryz.ntmps29,Tryz.results29,az];repeat' with_reducible first|apply af|apply ae|apply ar|apply aa|refine ah [] ?_|(apply ab;intro X Y;go_simp;apply Y;clear Y X)
 apply ch [0,2] (fun k=>[(4,I k)]) (fun k=>([some (.box [I 0,I 0,I 0])] : Hp)) (vH l) (l.length)
 ·go_simp<;>exact rfl
 ·go_simp
 ·intro k hk HB HP K hK;obtain ⟨w1,w2,w3,w4,w5,w6⟩:=ixs (m:=k) (by omega);by_cases iF:(aB l k).kind=1
  ·have hp:¬0≤ixP (okR l k) 0 k:=by
    have:=HP.out;unfold vH qz at this;rw [if_pos iF] at this;exact of_decide_eq_false this
   have sh:=Lib.hid hp;clear hp;repeat' with_reducible first|apply af|apply ae|apply aj|apply ar|apply aa|refine ah [] ?_|(apply ao;·go_simp)|(apply ak;·go_simp)|(apply ab;intro X Y;go_simp;apply Y;clear Y X)
   apply ch [0,2,4] (fun k=>[(5,I k)]) (fun k=>([some (.box [I 0,I 0,I 0])] : Hp)) (okR l k) (k)
   ·go_simp<;>exact rfl
   ·go_simp
   ·intro i hi cb cx K2 cB;have cK:i < l.length:=by omega
    have p7:(i:Int) < k:=by omega
    obtain ⟨x1,x2,x3,x4,x5,x6⟩:=ixs (m:=i) (by omega);have ga:=sx l i k hi (by omega) hl;have ho:=cx.out;by_cases q1:(aB l i).kind=0
    ·by_cases q2:(aB l i).rank=(aB l k).rank
     ·by_cases q3:(aB l i).car=(aB l k).car
      ·clear ho ga;repeat' first|(with_reducible first|apply af|apply ae|apply aW|apply aj|apply aX|apply ar|apply aY|apply aa|refine ah [] ?_|apply aI|(apply ao;·go_simp)|((first|apply ab|apply aJ);intro X Y;go_simp;apply Y;clear Y X))|((refine aQ 38 38 [] rfl (by kernel_rfl) ?_);simp only [aA])
       refine cB _ ?_;go_simp
      ·cases q4:kA l i k
       ·have hj:¬0≤jR l k i:=by
         unfold okR tE at ho;rw [decide_eq_true q1,decide_eq_true q2,decide_eq_false q3,q4] at ho;simpa using ho
        rw [q4] at ga;have HJ:=Lib.hid hj;clear ho hj q4;repeat' first|(with_reducible first|apply af|apply ae|apply aj|apply ar|apply aa|refine ah [] ?_|apply aI|(apply ao;·go_simp)|(apply ak;·go_simp)|((first|apply ab|apply aJ);intro X Y;go_simp;(first|(refine ⟨_,ga,?_⟩)|skip);apply Y;clear Y X))|((refine aQ 38 38 [] rfl (by kernel_rfl) ?_);simp only [aA])
        apply ch [0,2,4,5] (fun k=>[(6,I ((i:Int)+1+(k:Int)))]) (fun k=>([some (.box [I 0,I 0,I 0])] : Hp)) (fun d=>mh l k (i+1+d)) (k - (i+1))
        ·go_simp<;>exact rfl
        ·go_simp
        ·intro d hd mm mn K3 j4;obtain ⟨n,hn⟩ : ∃ n,n=i+1+d:=⟨_,rfl⟩
         rw [show (i:Int)+1+((d+1:Nat) : Int)=(n:Int)+1 by omega] at j4;rw [show (i:Int)+1+(d:Int)=(n:Int) by omega];have ho:=mn.out;rw [←hn] at ho;have bg:n < l.length:=by omega
         have CZ:(n:Int) < k:=by omega
         have gM:n < k:=by omega
         obtain ⟨v1,v2,v3,v4,v5,v6⟩:=ixs (m:=n) (by omega);have gb:=sx l n k gM (by omega) hl;clear hn gM;by_cases p1:(aB l n).kind=0
         ·by_cases p2:(aB l n).rank=(aB l k).rank
          ·by_cases p3:(aB l n).car=(aB l k).car
           ·have p4:kA l n k=true:=by
             unfold mh at ho;rw [decide_eq_true p1,decide_eq_true p2,decide_eq_true p3] at ho;simpa using ho
            rw [p4] at gb;clear ho p4;repeat' first|(with_reducible first|apply af|apply ae|apply aj|apply ar|apply aT|apply aa|refine ah [] ?_|apply aI|(apply ao;·go_simp)|(apply ak;·go_simp)|((first|apply ab|apply aJ);intro X Y;go_simp;(first|(refine ⟨_,gb,?_⟩)|skip);apply Y;clear Y X))|((refine aQ 39 39 [] rfl (by kernel_rfl) ?_);simp only [aA])
            refine j4 _ ?_;go_simp
           ·clear ho gb;repeat' first|(with_reducible first|apply af|apply ae|apply aj|apply ar|apply aT|apply aa|refine ah [] ?_|apply aI|(apply ao;·go_simp)|(apply ak;·go_simp)|((first|apply ab|apply aJ);intro X Y;go_simp;apply Y;clear Y X))|((refine aQ 39 39 [] rfl (by kernel_rfl) ?_);simp only [aA])
            refine j4 _ ?_;go_simp
          ·clear ho gb;repeat' first|(with_reducible first|apply af|apply ae|apply aj|apply ar|apply aT|apply aa|refine ah [] ?_|apply aI|(apply ao;·go_simp)|(apply ak;·go_simp)|((first|apply ab|apply aJ);intro X Y;go_simp;apply Y;clear Y X))|((refine aQ 39 39 [] rfl (by kernel_rfl) ?_);simp only [aA])
           refine j4 _ ?_;go_simp
         ·clear ho gb;repeat' first|(with_reducible first|apply af|apply ae|apply aj|apply ar|apply aT|apply aa|refine ah [] ?_|apply aI|(apply ao;·go_simp)|(apply ak;·go_simp)|((first|apply ab|apply aJ);intro X Y;go_simp;apply Y;clear Y X))|((refine aQ 39 39 [] rfl (by kernel_rfl) ?_);simp only [aA])
          refine j4 _ ?_;go_simp
        ·intro d hd mm mn K3;have hh:=gU hd mm.out mn.out;exact absurd (show 0≤jR l k i by unfold jR;rw [hh];omega) HJ.out
        ·intro mm K3;rw [show (i:Int)+1+((k - (i+1) : Nat) : Int)=(k:Int) by omega];repeat' with_reducible first|apply af|apply ae|apply aW|apply aX|apply aT|apply aY|apply aa|refine ah [] ?_|(apply ak;·go_simp)|(apply ab;intro X Y;go_simp;apply Y;clear Y X)
         refine cB _ ?_;go_simp
       ·rw [q4] at ga;clear ho q4;repeat' first|(with_reducible first|apply af|apply ae|apply aW|apply aj|apply aX|apply ar|apply aY|apply aa|refine ah [] ?_|apply aI|(apply ao;·go_simp)|((first|apply ab|apply aJ);intro X Y;go_simp;(first|(refine ⟨_,ga,?_⟩)|skip);apply Y;clear Y X))|((refine aQ 38 38 [] rfl (by kernel_rfl) ?_);simp only [aA])
        refine cB _ ?_;go_simp
     ·clear ho ga;repeat' first|(with_reducible first|apply af|apply ae|apply aW|apply aj|apply aX|apply ar|apply aY|apply aa|refine ah [] ?_|apply aI|(apply ao;·go_simp)|((first|apply ab|apply aJ);intro X Y;go_simp;apply Y;clear Y X))|((refine aQ 38 38 [] rfl (by kernel_rfl) ?_);simp only [aA])
      refine cB _ ?_;go_simp
    ·clear ho ga;repeat' first|(with_reducible first|apply af|apply ae|apply aW|apply aj|apply aX|apply ar|apply aY|apply aa|refine ah [] ?_|apply aI|(apply ao;·go_simp)|((first|apply ab|apply aJ);intro X Y;go_simp;apply Y;clear Y X))|((refine aQ 38 38 [] rfl (by kernel_rfl) ?_);simp only [aA])
     refine cB _ ?_;go_simp
   ·intro i hi cb cx K2;have:=gU hi cb.out cx.out;have h5:=sh.out;rw [this] at h5;exact absurd (by omega) h5
   ·intro cb K2;repeat' with_reducible first|apply af|apply ae|apply aW|apply aX|apply aT|apply aY|apply aa|refine ah [] ?_|(apply ak;·go_simp)|(apply ab;intro X Y;go_simp;apply Y;clear Y X)
    refine hK _ ?_;go_simp
  ·repeat' with_reducible first|apply af|apply ae|apply aW|apply aj|apply aX|apply ar|apply aY|apply aa|refine ah [] ?_|(apply ao;·go_simp)|(apply ab;intro X Y;go_simp;apply Y;clear Y X)
   refine hK _ ?_;go_simp
 ·intro k hk HB HP K;obtain ⟨w1,w2,w3,w4,w5,w6⟩:=ixs (m:=k) (by omega);have hf:0≤qz l k:=of_decide_eq_true HP.out;have iF:(aB l k).kind=1:=Classical.byContradiction fun hh=>by
   unfold qz at hf;rw [if_neg hh] at hf;omega
  have hp:0≤ixP (okR l k) 0 k:=by
   unfold qz at hf;rw [if_pos iF] at hf;exact hf
  have eO:ij l=(k:Int):=by rw [←FX];exact gU hk HB.out HP.out
  have hT:=zD.out;rw [eO,if_neg (by omega),Int.toNat_natCast] at hT;have hO:=HO.out;rw [eO,decide_eq_true (by omega)] at hO;have HT:=Lib.hid hT;have sh:=Lib.hid hp;have Om:=Lib.hid iF;clear hT hp hf eO zD HO;subst hO;repeat' with_reducible first|apply af|apply ae|apply aj|apply ar|apply aa|refine ah [] ?_|(apply ao;·go_simp)|(apply ak;·go_simp)|(apply ab;intro X Y;go_simp;apply Y;clear Y X)
  apply ch [0,2,4] (fun k=>[(5,I k)]) (fun k=>([some (.box [I 0,I 0,I 0])] : Hp)) (okR l k) (k)
  ·go_simp<;>exact rfl
  ·go_simp
  ·intro i hi cb cx K2 cB;have cK:i < l.length:=by omega
   have p7:(i:Int) < k:=by omega
   obtain ⟨x1,x2,x3,x4,x5,x6⟩:=ixs (m:=i) (by omega);have ga:=sx l i k hi (by omega) hl;have ho:=cx.out;by_cases q1:(aB l i).kind=0
   ·by_cases q2:(aB l i).rank=(aB l k).rank
    ·by_cases q3:(aB l i).car=(aB l k).car
     ·clear ho ga;repeat' first|(with_reducible first|apply af|apply ae|apply aW|apply aj|apply aX|apply ar|apply aY|apply aa|refine ah [] ?_|apply aI|(apply ao;·go_simp)|((first|apply ab|apply aJ);intro X Y;go_simp;apply Y;clear Y X))|((refine aQ 38 38 [] rfl (by kernel_rfl) ?_);simp only [aA])
      refine cB _ ?_;go_simp
     ·cases q4:kA l i k
      ·have hj:¬0≤jR l k i:=by
        unfold okR tE at ho;rw [decide_eq_true q1,decide_eq_true q2,decide_eq_false q3,q4] at ho;simpa using ho
       rw [q4] at ga;have HJ:=Lib.hid hj;clear ho hj q4;repeat' first|(with_reducible first|apply af|apply ae|apply aj|apply ar|apply aa|refine ah [] ?_|apply aI|(apply ao;·go_simp)|(apply ak;·go_simp)|((first|apply ab|apply aJ);intro X Y;go_simp;(first|(refine ⟨_,ga,?_⟩)|skip);apply Y;clear Y X))|((refine aQ 38 38 [] rfl (by kernel_rfl) ?_);simp only [aA])
       apply ch [0,2,4,5] (fun k=>[(6,I ((i:Int)+1+(k:Int)))]) (fun k=>([some (.box [I 0,I 0,I 0])] : Hp)) (fun d=>mh l k (i+1+d)) (k - (i+1))
       ·go_simp<;>exact rfl
       ·go_simp
       ·intro d hd mm mn K3 j4;obtain ⟨n,hn⟩ : ∃ n,n=i+1+d:=⟨_,rfl⟩
        rw [show (i:Int)+1+((d+1:Nat) : Int)=(n:Int)+1 by omega] at j4;rw [show (i:Int)+1+(d:Int)=(n:Int) by omega];have ho:=mn.out;rw [←hn] at ho;have bg:n < l.length:=by omega
        have CZ:(n:Int) < k:=by omega
        have gM:n < k:=by omega
        obtain ⟨v1,v2,v3,v4,v5,v6⟩:=ixs (m:=n) (by omega);have gb:=sx l n k gM (by omega) hl;clear hn gM;by_cases p1:(aB l n).kind=0
        ·by_cases p2:(aB l n).rank=(aB l k).rank
         ·by_cases p3:(aB l n).car=(aB l k).car
          ·have p4:kA l n k=true:=by
            unfold mh at ho;rw [decide_eq_true p1,decide_eq_true p2,decide_eq_true p3] at ho;simpa using ho
           rw [p4] at gb;clear ho p4;repeat' first|(with_reducible first|apply af|apply ae|apply aj|apply ar|apply aT|apply aa|refine ah [] ?_|apply aI|(apply ao;·go_simp)|(apply ak;·go_simp)|((first|apply ab|apply aJ);intro X Y;go_simp;(first|(refine ⟨_,gb,?_⟩)|skip);apply Y;clear Y X))|((refine aQ 39 39 [] rfl (by kernel_rfl) ?_);simp only [aA])
           refine j4 _ ?_;go_simp
          ·clear ho gb;repeat' first|(with_reducible first|apply af|apply ae|apply aj|apply ar|apply aT|apply aa|refine ah [] ?_|apply aI|(apply ao;·go_simp)|(apply ak;·go_simp)|((first|apply ab|apply aJ);intro X Y;go_simp;apply Y;clear Y X))|((refine aQ 39 39 [] rfl (by kernel_rfl) ?_);simp only [aA])
           refine j4 _ ?_;go_simp
         ·clear ho gb;repeat' first|(with_reducible first|apply af|apply ae|apply aj|apply ar|apply aT|apply aa|refine ah [] ?_|apply aI|(apply ao;·go_simp)|(apply ak;·go_simp)|((first|apply ab|apply aJ);intro X Y;go_simp;apply Y;clear Y X))|((refine aQ 39 39 [] rfl (by kernel_rfl) ?_);simp only [aA])
          refine j4 _ ?_;go_simp
        ·clear ho gb;repeat' first|(with_reducible first|apply af|apply ae|apply aj|apply ar|apply aT|apply aa|refine ah [] ?_|apply aI|(apply ao;·go_simp)|(apply ak;·go_simp)|((first|apply ab|apply aJ);intro X Y;go_simp;apply Y;clear Y X))|((refine aQ 39 39 [] rfl (by kernel_rfl) ?_);simp only [aA])
         refine j4 _ ?_;go_simp
       ·intro d hd mm mn K3;have hh:=gU hd mm.out mn.out;exact absurd (show 0≤jR l k i by unfold jR;rw [hh];omega) HJ.out
       ·intro mm K3;rw [show (i:Int)+1+((k - (i+1) : Nat) : Int)=(k:Int) by omega];repeat' with_reducible first|apply af|apply ae|apply aW|apply aX|apply aT|apply aY|apply aa|refine ah [] ?_|(apply ak;·go_simp)|(apply ab;intro X Y;go_simp;apply Y;clear Y X)
        refine cB _ ?_;go_simp
      ·rw [q4] at ga;clear ho q4;repeat' first|(with_reducible first|apply af|apply ae|apply aW|apply aj|apply aX|apply ar|apply aY|apply aa|refine ah [] ?_|apply aI|(apply ao;·go_simp)|((first|apply ab|apply aJ);intro X Y;go_simp;(first|(refine ⟨_,ga,?_⟩)|skip);apply Y;clear Y X))|((refine aQ 38 38 [] rfl (by kernel_rfl) ?_);simp only [aA])
       refine cB _ ?_;go_simp
    ·clear ho ga;repeat' first|(with_reducible first|apply af|apply ae|apply aW|apply aj|apply aX|apply ar|apply aY|apply aa|refine ah [] ?_|apply aI|(apply ao;·go_simp)|((first|apply ab|apply aJ);intro X Y;go_simp;apply Y;clear Y X))|((refine aQ 38 38 [] rfl (by kernel_rfl) ?_);simp only [aA])
     refine cB _ ?_;go_simp
   ·clear ho ga;repeat' first|(with_reducible first|apply af|apply ae|apply aW|apply aj|apply aX|apply ar|apply aY|apply aa|refine ah [] ?_|apply aI|(apply ao;·go_simp)|((first|apply ab|apply aJ);intro X Y;go_simp;apply Y;clear Y X))|((refine aQ 38 38 [] rfl (by kernel_rfl) ?_);simp only [aA])
    refine cB _ ?_;go_simp
  ·intro i hi cb cx K2;have cK:i < l.length:=by omega
   have p7:(i:Int) < k:=by omega
   obtain ⟨x1,x2,x3,x4,x5,x6⟩:=ixs (m:=i) (by omega);have ga:=sx l i k hi (by omega) hl;have ho:=cx.out;have zj:kz l k=(i:Int):=by rw [←FW];unfold qz;rw [if_pos Om.out];exact gU hi cb.out cx.out
   unfold okR tE at ho;simp only [Bool.and_eq_true,decide_eq_true_eq,Bool.not_eq_true',decide_eq_false_iff_not] at ho;obtain ⟨⟨⟨⟨q1,q2⟩,q3⟩,q4⟩,q5⟩:=ho;have Hu:jOf l k=(i:Int)+1+jR l k i:=by
    have hg:kg l k=true∧(i:Int) < jOf l k:=Classical.byContradiction fun hh=>by
     rw [Cc hh] at q5;omega
    obtain ⟨d,e1,e2⟩:=FV hg.1 hg.2;rw [e1];omega
   have gr:=HT.out;rw [zj,Hu] at gr;rw [q4] at ga;have HJ:=Lib.hid q5;have zu:=Lib.hid gr;clear zj Hu gr q5 q4 HT;repeat' first|(with_reducible first|apply af|apply ae|apply aj|apply ar|apply aa|refine ah [] ?_|apply aI|(apply ao;·go_simp)|(apply ak;·go_simp)|((first|apply ab|apply aJ);intro X Y;go_simp;(first|(refine ⟨_,ga,?_⟩)|skip);apply Y;clear Y X))|((refine aQ 38 38 [] rfl (by kernel_rfl) ?_);simp only [aA])
   apply ch [0,2,4,5] (fun k=>[(6,I ((i:Int)+1+(k:Int)))]) (fun k=>([some (.box [I 0,I 0,I 0])] : Hp)) (fun d=>mh l k (i+1+d)) (k - (i+1))
   ·go_simp<;>exact rfl
   ·go_simp
   ·intro d hd mm mn K3 j4;obtain ⟨n,hn⟩ : ∃ n,n=i+1+d:=⟨_,rfl⟩
    rw [show (i:Int)+1+((d+1:Nat) : Int)=(n:Int)+1 by omega] at j4;rw [show (i:Int)+1+(d:Int)=(n:Int) by omega];have ho:=mn.out;rw [←hn] at ho;have bg:n < l.length:=by omega
    have CZ:(n:Int) < k:=by omega
    have gM:n < k:=by omega
    obtain ⟨v1,v2,v3,v4,v5,v6⟩:=ixs (m:=n) (by omega);have gb:=sx l n k gM (by omega) hl;clear hn gM;by_cases p1:(aB l n).kind=0
    ·by_cases p2:(aB l n).rank=(aB l k).rank
     ·by_cases p3:(aB l n).car=(aB l k).car
      ·have p4:kA l n k=true:=by
        unfold mh at ho;rw [decide_eq_true p1,decide_eq_true p2,decide_eq_true p3] at ho;simpa using ho
       rw [p4] at gb;clear ho p4;repeat' first|(with_reducible first|apply af|apply ae|apply aj|apply ar|apply aT|apply aa|refine ah [] ?_|apply aI|(apply ao;·go_simp)|(apply ak;·go_simp)|((first|apply ab|apply aJ);intro X Y;go_simp;(first|(refine ⟨_,gb,?_⟩)|skip);apply Y;clear Y X))|((refine aQ 39 39 [] rfl (by kernel_rfl) ?_);simp only [aA])
       refine j4 _ ?_;go_simp
      ·clear ho gb;repeat' first|(with_reducible first|apply af|apply ae|apply aj|apply ar|apply aT|apply aa|refine ah [] ?_|apply aI|(apply ao;·go_simp)|(apply ak;·go_simp)|((first|apply ab|apply aJ);intro X Y;go_simp;apply Y;clear Y X))|((refine aQ 39 39 [] rfl (by kernel_rfl) ?_);simp only [aA])
       refine j4 _ ?_;go_simp
     ·clear ho gb;repeat' first|(with_reducible first|apply af|apply ae|apply aj|apply ar|apply aT|apply aa|refine ah [] ?_|apply aI|(apply ao;·go_simp)|(apply ak;·go_simp)|((first|apply ab|apply aJ);intro X Y;go_simp;apply Y;clear Y X))|((refine aQ 39 39 [] rfl (by kernel_rfl) ?_);simp only [aA])
      refine j4 _ ?_;go_simp
    ·clear ho gb;repeat' first|(with_reducible first|apply af|apply ae|apply aj|apply ar|apply aT|apply aa|refine ah [] ?_|apply aI|(apply ao;·go_simp)|(apply ak;·go_simp)|((first|apply ab|apply aJ);intro X Y;go_simp;apply Y;clear Y X))|((refine aQ 39 39 [] rfl (by kernel_rfl) ?_);simp only [aA])
     refine j4 _ ?_;go_simp
   ·intro d hd mm mn K3;have hh:=gU hd mm.out mn.out;obtain ⟨n,hn⟩ : ∃ n,n=i+1+d:=⟨_,rfl⟩
    rw [show (i:Int)+1+(d:Int)=(n:Int) by omega];have ho:=mn.out;rw [←hn] at ho;have bg:n < l.length:=by omega
    have CZ:(n:Int) < k:=by omega
    have gM:n < k:=by omega
    obtain ⟨v1,v2,v3,v4,v5,v6⟩:=ixs (m:=n) (by omega);have gb:=sx l n k gM (by omega) hl;have gr:=zu.out;have Hv:jR l k i=(d:Int):=hh;rw [Hv,show (i:Int)+1+(d:Int)=(n:Int) by omega] at gr;unfold mh at ho;simp only [Bool.and_eq_true,decide_eq_true_eq,Bool.not_eq_true'] at ho;obtain ⟨⟨⟨p1,p2⟩,p3⟩,p4⟩:=ho;rw [p4] at gb;subst gr;clear hh Hv hn gM p4 zu;repeat' first|(with_reducible first|apply af|apply ae|apply aF|apply aq|apply aj|apply ar|apply b_|apply aa|refine ah [] ?_|apply aI|(apply ao;·go_simp)|((first|apply ab|apply aJ);intro X Y;go_simp;(first|(refine ⟨_,gb,?_⟩)|skip);apply Y;clear Y X))|((refine aQ 39 39 [] rfl (by kernel_rfl) ?_);simp only [aA])
    go_simp
   ·intro mm K3;have hn:=jb mm.out;exact absurd HJ.out (by unfold jR;rw [hn];decide)
  ·intro cb K2;have hn:=jb cb.out;have h5:=sh.out;rw [hn] at h5;exact absurd h5 (by decide)
 ·intro HB K;have eO:ij l = -1:=by rw [←FX];exact jb HB.out
  have hT:=zD.out;rw [eO,if_pos (by decide)] at hT;have hO:=HO.out;rw [eO,decide_eq_false (by decide)] at hO;clear zD HO;subst hO hT;repeat' with_reducible first|apply af|apply ae|apply aW|apply aq|apply aX|apply aY|apply aa|refine ah [] ?_|(apply ak;·go_simp)|(apply ab;intro X Y;go_simp;apply Y;clear Y X)
  go_simp
def zE (l:List Sg) (k:Nat) : Bool:=decide (20 < (aB l k).car.size)
theorem On (l:List Sg) (hl:l.length≤9223372036854775807) : VC Tryz.prog 4 [qK l] (B true):=by
 have ha:=wK;by_cases h1:l.length≤202
 ·by_cases h2:(20:Int) < (l.length:Int)∧(l.length:Int)≤200
  ·obtain ⟨h3,h4⟩:=h2;clear h1 hl;refine aK Tryz.func4 rfl (by kernel_rfl) rfl fun M0 w0=>?_;simp only [Tryz.ntmps4,Tryz.results4,az];repeat' with_reducible first|apply af|apply ae|apply aF|apply aq|apply aj|apply aa|refine ah [] ?_|(apply ao;·go_simp)|(apply ak;·go_simp)|(apply ab;intro X Y;go_simp;(first|(refine ⟨_,ha,?_⟩)|skip);apply Y;clear Y X)
   go_simp
  ·have h3:¬(202:Int) < (l.length:Int):=by omega
   have hb:(20:Int) < (l.length:Int)→¬(l.length:Int)≤200:=fun h h4=>h2 ⟨h,h4⟩;have Fq:l.length≤1000000000:=by omega
   clear h2 hl;by_cases wL:(20:Int) < (l.length:Int)
   all_goals (
    first
     | (have ps:=hb wL)
     | skip
    clear hb;refine aK Tryz.func4 rfl (by kernel_rfl) rfl fun M0 w0=>?_;simp only [Tryz.ntmps4,Tryz.results4,az];repeat' with_reducible first|apply af|apply ae|apply aj|apply ar|apply aa|refine ah [] ?_|(apply ak;·go_simp)|(apply ab;intro X Y;go_simp;(first|(refine ⟨_,ha,?_⟩)|skip);apply Y;clear Y X)
    apply ch [0] (fun k=>[(3,I k)]) (fun k=>([] : Hp)) (zE l) (l.length)
    ·go_simp<;>exact rfl
    ·go_simp
    ·intro k hk HB HP K hK;obtain ⟨w1,w2,w3,w4,w5,w6⟩:=ixs (m:=k) (by omega);have hp:=HP.out;rw [zE,decide_eq_false_iff_not] at hp;have eX:¬(20:Int) < ((aB l k).car.size:Int):=by omega
     clear hp;repeat' with_reducible first|apply af|apply ae|apply aj|apply ar|apply aT|apply aa|refine ah [] ?_|(apply ao;·go_simp)|(apply ak;·go_simp)|(apply ab;intro X Y;go_simp;apply Y;clear Y X)
     refine hK _ ?_;go_simp
    ·intro k hk HB HP K;have hp:=HP.out;rw [zE,decide_eq_true_eq] at hp;have eX:(20:Int) < ((aB l k).car.size:Int):=by omega
     clear hp;repeat' with_reducible first|apply af|apply ae|apply aF|apply aq|apply aj|apply ar|apply b_|apply aa|refine ah [] ?_|(apply ao;·go_simp)|(apply ab;intro X Y;go_simp;apply Y;clear Y X)
     go_simp
    ·intro HB K;have hc:∀ k,k < l.length→(aB l k).car.size≤1000:=fun k hk=>by
      have:=HB.out k hk;rw [zE,decide_eq_false_iff_not] at this;omega
     have g1:=GO l (by omega) hc;have g2:=Ok l (by omega) hc;have g3:=Ol l (by omega);by_cases he:ni l=0
     ·have e1:ovE l=if ij l < 0 then 12 else 0:=by unfold ovE;rw [if_neg (by simp [he])]
      by_cases ho:ij l < 0
      ·rw [if_pos ho] at e1;have e2:ovT l = .agg [I 0,I 0,I 0]:=by unfold ovT;rw [e1];rfl
       rw [e1,e2] at g1;unfold ovA at g3;rw [if_pos ho,decide_eq_false (by omega)] at g3;rw [he] at g2;clear hc HB e1 e2 he ho;repeat' first|(with_reducible first|apply af|apply ae|apply aW|apply aq|apply aX|apply aY|apply aa|refine ah [39] ?_|(apply ao;·go_simp)|(apply ak;·go_simp))|((with_reducible apply ab);intro X Y;go_simp;(first|(refine ⟨_,⟨g1,rfl⟩,?_⟩)|(with_reducible refine ⟨_,g2,?_⟩)|(with_reducible refine ⟨_,g3,?_⟩)|skip);apply Y;clear Y X)
       go_simp
      ·rw [if_neg ho] at e1;have e2:ovT l=ovA l:=by unfold ovT ovA;rw [e1,if_neg ho];rfl
       rw [e1,e2] at g1;unfold ovA at g1 g3;rw [if_neg ho] at g1 g3;rw [decide_eq_true (by omega)] at g3;rw [he] at g2;generalize kz l (ij l).toNat=A at *;generalize jOf l (ij l).toNat=J at *;generalize ij l=Kk at *;clear hc HB e1 e2 he ho;repeat' first|(with_reducible first|apply af|apply ae|apply aW|apply aq|apply aj|apply aX|apply aY|apply aa|refine ah [39] ?_|(apply ao;·go_simp)|(apply ak;·go_simp))|((with_reducible apply ab);intro X Y;go_simp;(first|(refine ⟨_,⟨g1,rfl⟩,?_⟩)|(with_reducible refine ⟨_,g2,?_⟩)|(with_reducible refine ⟨_,g3,?_⟩)|skip);apply Y;clear Y X)
       go_simp
     ·have e1:ovE l=ni l:=by unfold ovE;rw [if_pos he]
      have e2:ovT l = .agg [I 0,I 0,I 0]:=by unfold ovT;rw [e1,if_pos he]
      rw [e1,e2] at g1;generalize ni l=E at *;clear hc HB e1 e2;repeat' first|(with_reducible first|apply af|apply ae|apply aW|apply aq|apply aj|apply aX|apply aY|apply aa|refine ah [39] ?_|(apply ak;·go_simp))|((with_reducible apply ab);intro X Y;go_simp;(first|(refine ⟨_,⟨g1,rfl⟩,?_⟩)|(with_reducible refine ⟨_,g2,?_⟩)|skip);apply Y;clear Y X)
      go_simp)
 ·have h3:(202:Int) < (l.length:Int):=by omega
  have h4:¬(l.length:Int)≤200:=by omega
  have h5:(20:Int) < (l.length:Int):=by omega
  clear h1 hl;refine aK Tryz.func4 rfl (by kernel_rfl) rfl fun M0 w0=>?_;simp only [Tryz.ntmps4,Tryz.results4,az];repeat' with_reducible first|apply af|apply ae|apply aF|apply aq|apply aj|apply aa|refine ah [] ?_|(apply ao;·go_simp)|(apply ak;·go_simp)|(apply ab;intro X Y;go_simp;(first|(refine ⟨_,ha,?_⟩)|skip);apply Y;clear Y X)
  go_simp
end Go.Proofs.YtoibondihdhnoaaGreatDoor
