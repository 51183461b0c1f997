/- Texts in one: Walks: lists that are the same; of every length up to a million. -/
import Derived.Test.YtoibondihdhnoaaGreatDoorFRY8
import Derived.Test.YtoibondihdhnoaaGreatDoorFRY44
import Derived.Test.YtoibondihdhnoaaGreatDoorFRY40
namespace Go.Proofs.YtoibondihdhnoaaGreatDoor
open Go.RowKit
set_option maxRecDepth 100000
set_option maxHeartbeats 2000000
theorem GJ (l:List Wt) (hl:l.length≤1000000) : VC Tryz.prog 43 [.sl 3 (l.map Wt.av),.sl 3 (l.map Wt.av)] (B true):=by
 refine aJ Tryz.func43 rfl (by kernel_rfl) rfl fun M0 w0=>?_;simp only [Tryz.ntmps43,Tryz.results43,aC];repeat' with_reducible first|apply af|apply ae|apply ao|apply az|apply aa|refine ah [] ?_|(apply aj;·go_simp)|(apply ab;intro X Y;go_simp;apply Y;clear Y X)
 apply ef [0,1] (fun k=>[(5,I k)]) (fun k=>([] : Hp)) (fun _=>false) (l.length)
 ·go_simp<;>exact rfl
 ·go_simp
 ·intro k hk HB HP K hK;obtain ⟨w1,w2,w3,w4,w5,w6⟩:=ixs (m:=k) (by omega);repeat' first|(with_reducible first|apply af|apply ae|apply ao|apply az|apply aY|apply aa|refine ah [] ?_|apply aP|(apply au;·go_simp)|(apply aj;·go_simp)|((first|apply ab|apply aO);intro X Y;go_simp;apply Y;clear Y X))|((refine bf 9 9 [] rfl (by kernel_rfl) ?_);simp only [aA])
  refine hK _ ?_;go_simp
 ·intro k hk HB HP K;exact absurd HP.out (by simp)
 ·intro HB K;repeat' with_reducible first|apply af|apply ae|apply bE|apply aw|apply bF|apply bG|apply aa|refine ah [] ?_|(apply aj;·go_simp)|(apply ab;intro X Y;go_simp;apply Y;clear Y X)
  go_simp
theorem MW (l:List Sy) (hl:l.length≤1000000) : VC Tryz.prog 41 [.sl 4 (l.map Sy.av),.sl 4 (l.map Sy.av)] (B true):=by
 refine aJ Tryz.func41 rfl (by kernel_rfl) rfl fun M0 w0=>?_;simp only [Tryz.ntmps41,Tryz.results41,aC];repeat' with_reducible first|apply af|apply ae|apply ao|apply az|apply aa|refine ah [] ?_|(apply aj;·go_simp)|(apply ab;intro X Y;go_simp;apply Y;clear Y X)
 apply ef [0,1] (fun k=>[(5,I k)]) (fun k=>([] : Hp)) (fun _=>false) (l.length)
 ·go_simp<;>exact rfl
 ·go_simp
 ·intro k hk HB HP K hK;obtain ⟨w1,w2,w3,w4,w5,w6⟩:=ixs (m:=k) (by omega);repeat' first|(with_reducible first|apply af|apply ae|apply ao|apply az|apply aY|apply aa|refine ah [] ?_|apply aP|(apply au;·go_simp)|(apply aj;·go_simp)|((first|apply ab|apply aO);intro X Y;go_simp;apply Y;clear Y X))|((refine bf 9 9 [] rfl (by kernel_rfl) ?_);simp only [aA])
  refine hK _ ?_;go_simp
 ·intro k hk HB HP K;exact absurd HP.out (by simp)
 ·intro HB K;repeat' with_reducible first|apply af|apply ae|apply bE|apply aw|apply bF|apply bG|apply aa|refine ah [] ?_|(apply aj;·go_simp)|(apply ab;intro X Y;go_simp;apply Y;clear Y X)
  go_simp
theorem MX (l:List Sg) (hl:l.length≤1000000) : VC Tryz.prog 32 [.sl 3 (l.map Sg.av),.sl 3 (l.map Sg.av)] (B true):=by
 refine aJ Tryz.func32 rfl (by kernel_rfl) rfl fun M0 w0=>?_;simp only [Tryz.ntmps32,Tryz.results32,aC];repeat' with_reducible first|apply af|apply ae|apply ao|apply az|apply aa|refine ah [] ?_|(apply aj;·go_simp)|(apply ab;intro X Y;go_simp;apply Y;clear Y X)
 apply ef [0,1] (fun k=>[(5,I k)]) (fun k=>([] : Hp)) (fun _=>false) (l.length)
 ·go_simp<;>exact rfl
 ·go_simp
 ·intro k hk HB HP K hK;obtain ⟨w1,w2,w3,w4,w5,w6⟩:=ixs (m:=k) (by omega);repeat' first|(with_reducible first|apply af|apply ae|apply ao|apply az|apply aY|apply aa|refine ah [] ?_|apply aP|(apply au;·go_simp)|(apply aj;·go_simp)|((first|apply ab|apply aO);intro X Y;go_simp;apply Y;clear Y X))|((refine bf 9 9 [] rfl (by kernel_rfl) ?_);simp only [aA])
  refine hK _ ?_;go_simp
 ·intro k hk HB HP K;exact absurd HP.out (by simp)
 ·intro HB K;repeat' with_reducible first|apply af|apply ae|apply bE|apply aw|apply bF|apply bG|apply aa|refine ah [] ?_|(apply aj;·go_simp)|(apply ab;intro X Y;go_simp;apply Y;clear Y X)
  go_simp
theorem MY (l:List Ev) (hl:l.length≤1000000) : VCo Tryz.prog 23 [cF l] 58 4 false (l.map Ev.av):=by
 refine vk Tryz.func23 rfl (by kernel_rfl) (by kernel_rfl) rfl Tryz.results23 (by decide) (fun k x hx=>by obtain ⟨y,hy,rfl⟩:=ea hx;exact ⟨rfl,by simp [Ev.av,cQ,Value.oneCell']⟩) fun M0 w0=>?_;simp only [Tryz.ntmps23,aC];have gw:l.length≤1000000000:=by omega
 repeat (with_reducible first|apply af|apply ae|apply aw|apply aa|refine ah [3] ?_|(apply ab;intro X Y;go_simp;apply Y;clear Y X))
 exact ⟨0,rfl,rfl⟩
theorem zc (l:List ByteArray) (hl:l.length≤1000000) : VCo Tryz.prog 116 [iT l] 9 1 false (l.map bL):=by
 refine vk Tryz.func116 rfl (by kernel_rfl) (by kernel_rfl) rfl Tryz.results116 (by decide) (fun k x hx=>by exact TxO.map l x (List.mem_of_getElem? hx)) fun M0 w0=>?_;simp only [Tryz.ntmps116,aC];have gw:l.length≤1000000000:=by omega
 repeat (with_reducible first|apply af|apply ae|apply aw|apply aa|refine ah [3] ?_|(apply ab;intro X Y;go_simp;apply Y;clear Y X))
 exact ⟨0,rfl,rfl⟩
theorem zd (l:List Ev) (hl:l.length≤1000000) : VC Tryz.prog 23 [cF l] (cF l):=ze (MY l hl)
theorem GK (l:List ByteArray) (hl:l.length≤1000000) : VC Tryz.prog 116 [iT l] (iT l):=ze (zc l hl)
theorem zf (r:Ru) (hl:r.ranks.length≤1000000) : VC Tryz.prog 22 [bN r] (bN r):=by
 have gw:r.ranks.length≤1000000000:=by omega
 refine aJ Tryz.func22 rfl (by kernel_rfl) rfl fun M0 w0=>?_;simp only [Tryz.ntmps22,Tryz.results22,aC];repeat' with_reducible apply af
 refine ah [1] ?_;repeat' with_reducible first|apply af|apply ae|apply aa|(apply ab;intro X Y;go_simp;apply Y;clear Y X)
 refine ah [3] ?_;repeat' with_reducible first|apply af|apply ae|apply aa|(apply ab;intro X Y;go_simp;apply Y;clear Y X)
 refine gN 0 0 2 rfl rfl rfl ?_;repeat' with_reducible first|apply ae|apply aw|apply aa|refine ah [] ?_|(apply ab;intro X Y;go_simp;apply Y;clear Y X)
 go_simp
theorem MZ (l:List ByteArray) (s:ByteArray) (hl:l.length≤1000000) : VC Tryz.prog 70 [iT l,S s] (B (gz (isT l s) 0 l.length)):=by
 obtain ⟨R,hR⟩ : ∃ R,gz (isT l s) 0 l.length=R:=⟨_,rfl⟩
 rw [hR];have HR:=Lib.hid hR;clear hR;refine aJ Tryz.func70 rfl (by kernel_rfl) rfl fun M0 w0=>?_;simp only [Tryz.ntmps70,Tryz.results70,aC];repeat' with_reducible first|apply af|apply ae|apply az|apply aa|refine ah [] ?_|(apply ab;intro X Y;go_simp;apply Y;clear Y X)
 apply ef [0,1] (fun k=>[(5,I k)]) (fun k=>([] : Hp)) (isT l s) (l.length)
 ·go_simp<;>exact rfl
 ·go_simp
 ·intro k hk HB HP K hK;obtain ⟨w1,w2,w3,w4,w5,w6⟩:=ixs (m:=k) (by omega);have hp:¬l[k]=s:=by
   have:=HP.out;simpa [isT,ie hk] using this
  repeat' with_reducible first|apply af|apply ae|apply ao|apply az|apply aY|apply aa|refine ah [] ?_|(apply au;·go_simp)|(apply aj;·go_simp)|(apply ab;intro X Y;go_simp;apply Y;clear Y X)
  refine hK _ ?_;go_simp
 ·intro k hk HB HP K;have hp:l[k]=s:=by
   have:=HP.out;simpa [isT,ie hk] using this
  have e:=HR.out;rw [nB hk HP.out] at e;subst e;repeat' with_reducible first|apply af|apply ae|apply aR|apply aw|apply ao|apply az|apply cB|apply aa|refine ah [] ?_|(apply au;·go_simp)|(apply ab;intro X Y;go_simp;apply Y;clear Y X)
  go_simp
 ·intro HB K;have e:=HR.out;rw [qC HB.out] at e;subst e;repeat (with_reducible first|apply af|apply ae|apply bE|apply aw|apply bF|apply bG|apply aa|refine ah [] ?_|(apply aj;·go_simp)|(apply ab;intro X Y;go_simp;apply Y;clear Y X))
  go_simp
theorem M1 (l:List ByteArray) (hl:l.length≤1000000) : VC Tryz.prog 78 [iT l,iT l] (B true):=by
 refine aJ Tryz.func78 rfl (by kernel_rfl) rfl fun M0 w0=>?_;simp only [Tryz.ntmps78,Tryz.results78,aC];repeat' with_reducible first|apply af|apply ae|apply ao|apply az|apply aa|refine ah [] ?_|(apply aj;·go_simp)|(apply ab;intro X Y;go_simp;apply Y;clear Y X)
 apply ef [0,1] (fun k=>[(5,I k)]) (fun k=>([] : Hp)) (fun _=>false) (l.length)
 ·go_simp<;>exact rfl
 ·go_simp
 ·intro k hk HB HP K hK;obtain ⟨w1,w2,w3,w4,w5,w6⟩:=ixs (m:=k) (by omega);repeat' first|(with_reducible first|apply af|apply ae|apply ao|apply az|apply aY|apply aa|refine ah [] ?_|apply aP|(apply au;·go_simp)|(apply aj;·go_simp)|((first|apply ab|apply aO);intro X Y;go_simp;apply Y;clear Y X))|((refine bf 9 9 [] rfl (by kernel_rfl) ?_);simp only [aA])
  refine hK _ ?_;go_simp
 ·intro k hk HB HP K;exact absurd HP.out (by simp)
 ·intro HB K;repeat' with_reducible first|apply af|apply ae|apply bE|apply aw|apply bF|apply bG|apply aa|refine ah [] ?_|(apply aj;·go_simp)|(apply ab;intro X Y;go_simp;apply Y;clear Y X)
  go_simp
theorem M4 (s:St) (h:SmallS s) : VC Tryz.prog 25 [dH s,dH s] (B true):=by
 have hq:=h.q1;have F5:=h.nq;have F6:=h.nt;have HQ:=Lib.hid hq;clear hq h;refine aJ Tryz.func25 rfl (by kernel_rfl) rfl fun M0 w0=>?_;simp only [Tryz.ntmps25,Tryz.results25,aC];repeat' with_reducible first|apply af|apply ae|apply ao|apply az|apply aa|refine ah [] ?_|(apply aj;·go_simp)|(apply ab;intro X Y;go_simp;apply Y;clear Y X)
 apply ef [2,3] (fun k=>[(5,I k)]) (fun k=>([] : Hp)) (fun _=>false) (s.q.length)
 ·go_simp<;>exact rfl
 ·go_simp
 ·intro k hk HB HP K hK;obtain ⟨w1,w2,w3,w4,w5,w6⟩:=ixs (m:=k) (by omega);have g:=M1 (qat s.q k) (by rw [gM hk];have:=(HQ.out _ (List.getElem_mem hk)).1;omega);repeat' first|(with_reducible first|apply af|apply ae|apply ao|apply az|apply aY|apply aa|refine ah [] ?_|apply aP|(apply au;·go_simp)|(apply aj;·go_simp)|((first|apply ab|apply aO);intro X Y;go_simp;(first|(refine ⟨_,g,?_⟩)|skip);apply Y;clear Y X))|((refine bf 12 12 [] rfl (by kernel_rfl) ?_);simp only [aA])
  refine hK _ ?_;go_simp
 ·intro k hk HB HP K;exact absurd HP.out (by simp)
 ·intro HB K;repeat' with_reducible first|apply af|apply ae|apply bE|apply bF|apply az|apply bG|apply aa|refine ah [] ?_|(apply aj;·go_simp)|(apply ab;intro X Y;go_simp;apply Y;clear Y X)
  apply ef [2,3] (fun k=>[(6,I k)]) (fun k=>([] : Hp)) (fun _=>false) (s.tk.length)
  ·go_simp<;>exact rfl
  ·go_simp
  ·intro k hk HB HP K hK;obtain ⟨w1,w2,w3,w4,w5,w6⟩:=ixs (m:=k) (by omega);repeat' first|(with_reducible first|apply af|apply ae|apply ao|apply az|apply aY|apply aa|refine ah [] ?_|apply aP|(apply au;·go_simp)|(apply aj;·go_simp)|((first|apply ab|apply aO);intro X Y;go_simp;apply Y;clear Y X))|((refine bf 11 11 [] rfl (by kernel_rfl) ?_);simp only [aA])
   refine hK _ ?_;go_simp
  ·intro k hk HB HP K;exact absurd HP.out (by simp)
  ·intro HB K;repeat' with_reducible first|apply af|apply ae|apply bE|apply aw|apply bF|apply bG|apply aa|refine ah [] ?_|(apply aj;·go_simp)|(apply ab;intro X Y;go_simp;apply Y;clear Y X)
   go_simp
def mE:Ru:=⟨[⟨⟨#[115,116,97,110,100]⟩,2,1,false⟩,⟨⟨#[102,101,101,100,101,114]⟩,3,-1,false⟩],1,60⟩
def kV:List Ev:=[⟨0,0,0,⟨#[97]⟩⟩,⟨0,5,0,⟨#[98]⟩⟩,⟨0,9,1,⟨#[99]⟩⟩,⟨1,20,0,⟨#[97]⟩⟩]
def sD:St:=⟨[[⟨#[98]⟩,⟨#[99]⟩],[]],[⟨⟨#[97]⟩,0,20⟩],20⟩
theorem M5:VC Tryz.prog 83 [] (bN mE):=by
 unfold mE;refine aJ Tryz.func83 rfl (by kernel_rfl) rfl fun M0 w0=>?_;simp only [Tryz.ntmps83,Tryz.results83,aC];repeat' with_reducible first|apply af|apply ae|apply aw|apply aa|refine ah [] ?_|(apply ab;intro X Y;go_simp;apply Y;clear Y X)
 go_simp
theorem M6:VC Tryz.prog 84 [] (cF kV):=by
 unfold kV;refine aJ Tryz.func84 rfl (by kernel_rfl) rfl fun M0 w0=>?_;simp only [Tryz.ntmps84,Tryz.results84,aC];repeat' with_reducible first|apply af|apply ae|apply aw|apply aa|refine ah [] ?_|(apply ab;intro X Y;go_simp;apply Y;clear Y X)
 go_simp
theorem M7:pR mE kV=(sD,0,0):=by kernel_rfl
theorem M8:gE mE kV=0:=by kernel_rfl
theorem M9:fI kV 0 kV=[⟨⟨#[97]⟩,0,20⟩]:=by kernel_rfl
theorem M_:(oR mE kV).2=0∧(oR mE kV).1.length=6:=⟨by kernel_rfl,by kernel_rfl⟩
def zg:List Sg:=[⟨0,0,⟨#[97]⟩⟩,⟨0,0,⟨#[98]⟩⟩,⟨1,0,⟨#[98]⟩⟩]
theorem Na:ovT zg = .agg [I 0,I 1,I 2]:=by kernel_rfl
theorem Nb:ovE zg=0:=by kernel_rfl
def Cx:ByteArray:=⟨#[99,97,108,108,32,50,48,32,48,32,45]⟩
theorem Nc:evP (jF 32 Cx)=(⟨4,20,0,⟨#[]⟩⟩,0):=by kernel_rfl
theorem Nd:B7 sD=⟨#[50,48,124,98,32,99,124,124,97,58,48,58,50,48]⟩:=by kernel_rfl
theorem Cy:SmallL mE kV:=⟨by decide,fun k hk=>by
 have h2:k < 2:=hk;rcases k with _|_|k
 ·decide
 ·decide
 ·omega,fun x hx=>by
 simp only [kV,List.mem_cons,List.not_mem_nil,or_false] at hx;rcases hx with rfl|rfl|rfl|rfl<;>decide⟩
theorem Nf:SmallS sD:=by
 refine ⟨by decide,fun l hl=>?_,by decide,fun t ht=>?_,by unfold i64;decide⟩
 ·simp only [sD,List.mem_cons,List.not_mem_nil,or_false] at hl;rcases hl with rfl|rfl
  ·refine ⟨by decide,fun c hc=>?_⟩;simp only [List.mem_cons,List.not_mem_nil,or_false] at hc;rcases hc with rfl|rfl<;>decide
  ·exact ⟨by decide,fun c hc=>by simp at hc⟩
 ·simp only [sD,List.mem_cons,List.not_mem_nil,or_false] at ht;subst ht;unfold i64;decide
theorem zh:VC Tryz.prog 18 [] (B true):=by
 have g1:=M5;have g2:=M6;have g3:=FN mE kV Cy;have g4:=Cw mE kV Cy;have g5:=Gd zg (by decide) (fun k hk=>by
  have h2:k < 3:=hk;rcases k with _|_|_|k
  ·decide
  ·decide
  ·decide
  ·omega)
 have g6:=MD Cx (by decide);have g7:=GB mE kV Cy;have g8:=LN sD Nf;have g9:=GJ [⟨⟨#[97]⟩,0,20⟩] (by decide);obtain ⟨m1,m2⟩:=M_;rw [M7] at g3;rw [M8,if_pos rfl,M9] at g4;rw [Na,Nb] at g5;rw [Nc] at g6;rw [m1] at g7;rw [Nd] at g8;generalize (oR mE kV).1=L at *;have m3:(L.length:Int)=6:=by omega
 clear m1 m2;generalize mE=R0 at *;generalize hM:kV=M at *;clear hM;generalize hS:sD=S0 at *;clear hS;unfold zg at g5;unfold Cx at g6;simp only [bN,cF,dH,Ge,evA,List.map_cons,List.map_nil,Sg.av,Wt.av] at g1 g2 g3 g4 g5 g6 g7 g8 g9;refine aJ Tryz.func18 rfl (by kernel_rfl) rfl fun M0 w0=>?_;simp only [Tryz.ntmps18,Tryz.results18,aC];repeat' with_reducible first|apply af|apply ae|apply aw|apply aa|refine ah [] ?_|(apply ab;intro X Y;go_simp;(first|(refine ⟨_,g1,?_⟩)|(refine ⟨_,g2,?_⟩)|(refine ⟨_,g3,?_⟩)|(refine ⟨_,g4,?_⟩)|(refine ⟨_,g5,?_⟩)|(refine ⟨_,g6,?_⟩)|(refine ⟨_,g7,?_⟩)|(refine ⟨_,g8,?_⟩)|(refine ⟨_,g9,?_⟩)|skip);apply Y;clear Y X)
 go_simp
theorem Ng {p:Nat→Bool} {n:Nat} (h:∀ j,j < n→p j=false) : gz p 0 n=false:=qC h
theorem Cz (r:Ru) (n:Int) (hn:r.ranks.length≤1000000) : VC Tryz.prog 33 [bN r,I n] (B (inR n 0 ((r.ranks.length:Int) - 1))):=by
 have i1:=ux n 0 ((r.ranks.length:Int) - 1);have hw:IntKind.i64.wrap ((r.ranks.length:Int) - 1)=(r.ranks.length:Int) - 1:=fM (by omega) (by omega);generalize inR n 0 ((r.ranks.length:Int) - 1)=D at *;refine aJ Tryz.func33 rfl (by kernel_rfl) rfl fun M0 w0=>?_;simp only [Tryz.ntmps33,Tryz.results33,aC];repeat' with_reducible first|apply af|apply ae|apply aw|apply aa|refine ah [] ?_|(apply ab;intro X Y;go_simp;(first|(refine ⟨_,i1,?_⟩)|skip);apply Y;clear Y X)
 go_simp
theorem GL (r:Ru) (i:Nat) (hi:i < r.ranks.length) (hn:r.ranks.length≤1000000) (cf:(rat r.ranks i).name.size≤1000) : VC Tryz.prog 101 [bN r,I (i:Int)] (I (rkE r i)):=by
 obtain ⟨E,hE⟩ : ∃ E,rkE r i=E:=⟨_,rfl⟩
 rw [hE];have i1:=GM (rat r.ranks i).name (by omega);have i2:=ux (rat r.ranks i).places 1 12;have i3:=Cz r (rat r.ranks i).feeder hn;have HE:=Lib.hid hE;clear hE cf;obtain ⟨w1,w2,w3,w4,w5,w6⟩:=ixs (m:=i) (by omega);cases j4:dj (rat r.ranks i).name
 ·have e:rkE r i=4:=by simp [rkE,fst,unl,j4]
  rw [HE.out] at e;rw [j4] at i1;subst e;refine aJ Tryz.func101 rfl (by kernel_rfl) rfl fun M0 w0=>?_;simp only [Tryz.ntmps101,Tryz.results101,aC];repeat' with_reducible first|apply af|apply ae|apply aR|apply aw|apply aa|refine ah [] ?_|(apply au;·go_simp)|(apply ab;intro X Y;go_simp;(first|(refine ⟨_,i1,?_⟩)|skip);apply Y;clear Y X)
  go_simp
 rw [j4] at i1;refine aJ Tryz.func101 rfl (by kernel_rfl) rfl fun M0 w0=>?_;simp only [Tryz.ntmps101,Tryz.results101,aC];repeat' with_reducible first|apply af|apply ae|apply ao|apply az|apply aa|refine ah [] ?_|(apply aj;·go_simp)|(apply ab;intro X Y;go_simp;(first|(refine ⟨_,i1,?_⟩)|skip);apply Y;clear Y X)
 apply ef [1,2,5] (fun k=>[(6,I k)]) (fun k=>([some (.box [S (rat r.ranks i).name,I (rat r.ranks i).places,I (rat r.ranks i).feeder,B (rat r.ranks i).called])] : Hp)) (fun k=>decide ((rat r.ranks k).name=(rat r.ranks i).name)) (i)
 ·go_simp<;>exact rfl
 ·go_simp
 ·intro k hk HB HP K hK;obtain ⟨x1,x2,x3,x4,x5,x6⟩:=ixs (m:=k) (by omega);have lO:k < r.ranks.length:=by omega
  have hp:¬(rat r.ranks k).name=(rat r.ranks i).name:=of_decide_eq_false HP.out;repeat' first|(with_reducible first|apply af|apply ae|apply ao|apply az|apply aY|apply aa|refine ah [] ?_|apply aP|(apply au;·go_simp)|(apply aj;·go_simp)|((first|apply ab|apply aO);intro X Y;go_simp;apply Y;clear Y X))|((refine bf 9 9 [] rfl (by kernel_rfl) ?_);simp only [aA])
  refine hK _ ?_;go_simp
 ·intro k hk HB HP K;obtain ⟨x1,x2,x3,x4,x5,x6⟩:=ixs (m:=k) (by omega);have lO:k < r.ranks.length:=by omega
  have hp:(rat r.ranks k).name=(rat r.ranks i).name:=of_decide_eq_true HP.out;have hA:nA r i=true:=nB hk HP.out;have e:rkE r i=5:=by simp [rkE,fst,unl,j4,hA]
  rw [HE.out] at e;subst e;repeat' first|(with_reducible first|apply af|apply ae|apply aR|apply aw|apply ao|apply az|apply cB|apply aa|refine ah [] ?_|apply aP|(apply au;·go_simp)|((first|apply ab|apply aO);intro X Y;go_simp;apply Y;clear Y X))|((refine bf 9 9 [] rfl (by kernel_rfl) ?_);simp only [aA])
  go_simp
 ·intro HB K;have hA:nA r i=false:=qC HB.out;cases jH:inR (rat r.ranks i).places 1 12
  ·have e:rkE r i=2:=by simp [rkE,fst,unl,j4,hA,jH]
   rw [HE.out] at e;rw [jH] at i2;subst e;repeat' with_reducible first|apply af|apply ae|apply bE|apply aR|apply aw|apply bF|apply bG|apply aa|refine ah [] ?_|(apply au;·go_simp)|(apply aj;·go_simp)|(apply ab;intro X Y;go_simp;(first|(refine ⟨_,i2,?_⟩)|skip);apply Y;clear Y X)
   go_simp
  rw [jH] at i2;by_cases hF:(rat r.ranks i).feeder = -1
  ·have pJ:fH r i=false:=by simp [fH,hF]
   cases hC:(rat r.ranks i).called
   ·have e:rkE r i=0:=by simp [rkE,fst,unl,j4,hA,jH,pJ,hC]
    rw [HE.out] at e;subst e;repeat' with_reducible first|apply af|apply ae|apply bE|apply aR|apply aw|apply ao|apply bF|apply bG|apply aa|refine ah [] ?_|(apply au;·go_simp)|(apply aj;·go_simp)|(apply ab;intro X Y;go_simp;(first|(refine ⟨_,i2,?_⟩)|skip);apply Y;clear Y X)
    go_simp
   ·have e:rkE r i=3:=by simp [rkE,fst,unl,j4,hA,jH,pJ,hC]
    rw [HE.out] at e;subst e;repeat' with_reducible first|apply af|apply ae|apply bE|apply aR|apply aw|apply ao|apply bF|apply bG|apply aa|refine ah [] ?_|(apply au;·go_simp)|(apply aj;·go_simp)|(apply ab;intro X Y;go_simp;(first|(refine ⟨_,i2,?_⟩)|skip);apply Y;clear Y X)
    go_simp
  have pJ:fH r i=true:=by simp [fH,hF]
  cases pV:inR (rat r.ranks i).feeder 0 ((r.ranks.length:Int) - 1)
  ·have e:rkE r i=6:=by simp [rkE,fst,unl,j4,hA,jH,pJ,pV]
   rw [HE.out] at e;rw [pV] at i3;subst e;repeat' first|(with_reducible first|apply af|apply ae|apply bE|apply aR|apply aw|apply ao|apply bF|apply bG|apply aa|refine ah [] ?_|(apply au;·go_simp)|(apply aj;·go_simp))|((with_reducible apply ab);intro X Y;go_simp;(first|(with_reducible refine ⟨_,i2,?_⟩)|(refine ⟨_,i3,?_⟩)|skip);apply Y;clear Y X)
   go_simp
  rw [pV] at i3;by_cases hO:(i:Int) < (rat r.ranks i).feeder
  ·have ky:¬(rat r.ranks i).feeder≤(i:Int):=by omega
   repeat' first|(with_reducible first|apply af|apply ae|apply bE|apply ao|apply bF|apply az|apply bG|apply aa|refine ah [] ?_|(apply aj;·go_simp))|((with_reducible apply ab);intro X Y;go_simp;(first|(with_reducible refine ⟨_,i2,?_⟩)|(refine ⟨_,i3,?_⟩)|skip);apply Y;clear Y X)
   apply ef [1,2,5] (fun k=>[(7,I k)]) (fun k=>([some (.box [S (rat r.ranks i).name,I (rat r.ranks i).places,I (rat r.ranks i).feeder,B (rat r.ranks i).called])] : Hp)) (fun k=>decide ((rat r.ranks k).feeder=(rat r.ranks i).feeder)) (i)
   ·go_simp<;>exact rfl
   ·go_simp
   ·intro k hk HB HP K hK;obtain ⟨x1,x2,x3,x4,x5,x6⟩:=ixs (m:=k) (by omega);have lO:k < r.ranks.length:=by omega
    have hp:¬(rat r.ranks k).feeder=(rat r.ranks i).feeder:=of_decide_eq_false HP.out;repeat' first|(with_reducible first|apply af|apply ae|apply ao|apply az|apply aY|apply aa|refine ah [] ?_|apply aP|(apply au;·go_simp)|(apply aj;·go_simp)|((first|apply ab|apply aO);intro X Y;go_simp;apply Y;clear Y X))|((refine bf 9 9 [] rfl (by kernel_rfl) ?_);simp only [aA])
    refine hK _ ?_;go_simp
   ·intro k hk HB HP K;obtain ⟨x1,x2,x3,x4,x5,x6⟩:=ixs (m:=k) (by omega);have lO:k < r.ranks.length:=by omega
    have hp:(rat r.ranks k).feeder=(rat r.ranks i).feeder:=of_decide_eq_true HP.out;have hB:lY r i=true:=nB hk HP.out;have e:rkE r i=26:=by simp [rkE,fst,unl,j4,hA,jH,pJ,pV,hO,hB]
    rw [HE.out] at e;subst e;repeat' first|(with_reducible first|apply af|apply ae|apply aR|apply aw|apply ao|apply az|apply cB|apply aa|refine ah [] ?_|apply aP|(apply au;·go_simp)|((first|apply ab|apply aO);intro X Y;go_simp;apply Y;clear Y X))|((refine bf 9 9 [] rfl (by kernel_rfl) ?_);simp only [aA])
    go_simp
   ·intro HB K;have hB:lY r i=false:=qC HB.out;have e:rkE r i=0:=by simp [rkE,fst,unl,j4,hA,jH,pJ,pV,hO,hB]
    rw [HE.out] at e;subst e;repeat' with_reducible first|apply af|apply ae|apply bE|apply aw|apply bF|apply bG|apply aa|refine ah [] ?_|(apply aj;·go_simp)|(apply ab;intro X Y;go_simp;apply Y;clear Y X)
    go_simp
  ·have ky:(rat r.ranks i).feeder≤(i:Int):=by omega
   have e:rkE r i=9:=by simp [rkE,fst,unl,j4,hA,jH,pJ,pV,hO]
   rw [HE.out] at e;subst e;repeat' first|(with_reducible first|apply af|apply ae|apply bE|apply aR|apply aw|apply ao|apply bF|apply bG|apply aa|refine ah [] ?_|(apply au;·go_simp)|(apply aj;·go_simp))|((with_reducible apply ab);intro X Y;go_simp;(first|(with_reducible refine ⟨_,i2,?_⟩)|(refine ⟨_,i3,?_⟩)|skip);apply Y;clear Y X)
   go_simp
theorem Nh (r:Ru) (hn:r.ranks.length≤1000000) (cf:∀ k,k < r.ranks.length→(rat r.ranks k).name.size≤1000) : VC Tryz.prog 38 [bN r] (.tup [I ((dm r).1:Int),I (dm r).2]):=by
 unfold dm;by_cases h0:r.ranks.length=0
 ·rw [if_pos h0];have oN:(r.ranks.length:Int)=0:=by omega
  refine aJ Tryz.func38 rfl (by kernel_rfl) rfl fun M0 w0=>?_;simp only [Tryz.ntmps38,Tryz.results38,aC];repeat' with_reducible first|apply af|apply ae|apply aR|apply aw|apply aa|refine ah [] ?_|(apply au;·go_simp)|(apply ab;intro X Y;go_simp;apply Y;clear Y X)
  go_simp
 rw [if_neg h0];have oN:¬r.ranks=[]:=fun h=>h0 (by rw [h];rfl);by_cases h6:6 < r.ranks.length
 ·rw [if_pos h6];have Ni:(6:Int) < (r.ranks.length:Int):=by omega
  refine aJ Tryz.func38 rfl (by kernel_rfl) rfl fun M0 w0=>?_;simp only [Tryz.ntmps38,Tryz.results38,aC];repeat' with_reducible first|apply af|apply ae|apply aR|apply aw|apply ao|apply aa|refine ah [] ?_|(apply au;·go_simp)|(apply aj;·go_simp)|(apply ab;intro X Y;go_simp;apply Y;clear Y X)
  go_simp
 rw [if_neg h6];have Ni:¬(6:Int) < (r.ranks.length:Int):=by omega
 obtain ⟨R,hR⟩ : ∃ R,(if (ko (rkE r) 0 r.ranks.length).2≠0 then ko (rkE r) 0 r.ranks.length else (0,sk r))=R:=⟨_,rfl⟩
 rw [hR];have HR:=Lib.hid hR;have HM:=Lib.hid cf;have i1:=ux r.back 0 12;have i2:=ux r.ret 0 3600;clear hR cf h0 h6;refine aJ Tryz.func38 rfl (by kernel_rfl) rfl fun M0 w0=>?_;simp only [Tryz.ntmps38,Tryz.results38,aC];repeat' with_reducible first|apply af|apply ae|apply ao|apply az|apply aa|refine ah [] ?_|(apply aj;·go_simp)|(apply ab;intro X Y;go_simp;apply Y;clear Y X)
 apply ef [1] (fun k=>[(4,I k)]) (fun k=>([] : Hp)) (fun k=>!decide (rkE r k=0)) (r.ranks.length)
 ·go_simp<;>exact rfl
 ·go_simp
 ·intro k hk HB HP K hK;obtain ⟨x1,x2,x3,x4,x5,x6⟩:=ixs (m:=k) (by omega);have g:=GL r k hk hn (HM.out k hk);have he:rkE r k=0:=by simpa using HP.out
  rw [he] at g;clear he;repeat' first|(with_reducible first|apply af|apply ae|apply ao|apply az|apply aY|apply aa|refine ah [] ?_|(apply au;·go_simp)|(apply aj;·go_simp))|((with_reducible apply ab);intro X Y;go_simp;(first|(refine ⟨_,g,?_⟩)|skip);apply Y;clear Y X)
  refine hK _ ?_;go_simp
 ·intro k hk HB HP K;obtain ⟨x1,x2,x3,x4,x5,x6⟩:=ixs (m:=k) (by omega);have g:=GL r k hk hn (HM.out k hk);have he:¬rkE r k=0:=by simpa using HP.out
  have e:=HR.out;rw [BR hk HB.out HP.out,if_pos he] at e;subst e;generalize rkE r k=E at *;repeat' first|(with_reducible first|apply af|apply ae|apply aR|apply aw|apply ao|apply az|apply cB|apply aa|refine ah [] ?_|(apply au;·go_simp))|((with_reducible apply ab);intro X Y;go_simp;(first|(refine ⟨_,g,?_⟩)|skip);apply Y;clear Y X)
  go_simp
 ·intro HB K;have e:=HR.out;rw [yM _ _ (fun j hj=>HB.out j (by omega)),if_neg (by simp)] at e;subst e;unfold sk;by_cases hb:r.back = -1
  ·cases jH:inR r.ret 0 3600
   ·rw [jH] at i2;have e2:unl ((decide (r.back = -1) || inR r.back 0 12)&&false) 2=2:=by simp [unl]
    rw [e2];repeat' with_reducible first|apply af|apply ae|apply bE|apply aR|apply aw|apply bF|apply bG|apply aa|refine ah [] ?_|(apply au;·go_simp)|(apply aj;·go_simp)|(apply ab;intro X Y;go_simp;(first|(refine ⟨_,i2,?_⟩)|skip);apply Y;clear Y X)
    go_simp
   ·rw [jH] at i2;have e2:unl ((decide (r.back = -1) || inR r.back 0 12)&&true) 2=0:=by simp [unl,hb]
    rw [e2];repeat' with_reducible first|apply af|apply ae|apply bE|apply aw|apply ao|apply bF|apply bG|apply aa|refine ah [] ?_|(apply aj;·go_simp)|(apply ab;intro X Y;go_simp;(first|(refine ⟨_,i2,?_⟩)|skip);apply Y;clear Y X)
    go_simp
  ·cases j4:inR r.back 0 12
   ·rw [j4] at i1;have e2:unl ((decide (r.back = -1) || false)&&inR r.ret 0 3600) 2=2:=by simp [unl,hb]
    rw [e2];repeat' with_reducible first|apply af|apply ae|apply bE|apply aR|apply aw|apply bF|apply bG|apply aa|refine ah [] ?_|(apply au;·go_simp)|(apply aj;·go_simp)|(apply ab;intro X Y;go_simp;(first|(refine ⟨_,i1,?_⟩)|skip);apply Y;clear Y X)
    go_simp
   ·rw [j4] at i1;cases jH:inR r.ret 0 3600
    ·rw [jH] at i2;have e2:unl ((decide (r.back = -1) || true)&&false) 2=2:=by simp [unl]
     rw [e2];repeat' with_reducible first|apply af|apply ae|apply bE|apply aR|apply aw|apply bF|apply bG|apply aa|refine ah [] ?_|(apply au;·go_simp)|(apply aj;·go_simp)|(apply ab;intro X Y;go_simp;(first|(refine ⟨_,i1,?_⟩)|(refine ⟨_,i2,?_⟩)|skip);apply Y;clear Y X)
     go_simp
    ·rw [jH] at i2;have e2:unl ((decide (r.back = -1) || true)&&true) 2=0:=by simp [unl]
     rw [e2];repeat' with_reducible first|apply af|apply ae|apply bE|apply aw|apply ao|apply bF|apply bG|apply aa|refine ah [] ?_|(apply aj;·go_simp)|(apply ab;intro X Y;go_simp;(first|(refine ⟨_,i1,?_⟩)|(refine ⟨_,i2,?_⟩)|skip);apply Y;clear Y X)
     go_simp
theorem Nj (r:Ru) (x:Ev) (hn:r.ranks.length≤1000000) (hc:x.car.size≤1000) : VC Tryz.prog 56 [bN r,evA x] (I (evE r x)):=by
 obtain ⟨kd,tm,rk,car⟩:=x;simp only [evA] at *;obtain ⟨E,hE⟩ : ∃ E,evE r ⟨kd,tm,rk,car⟩=E:=⟨_,rfl⟩
 rw [hE];have i1:=ux kd 0 5;have i2:=ux tm 0 604800;have i3:=Cz r rk hn;have i4:=GM car (by omega);unfold evE at hE;cases j4:inR kd 0 5
 ·rw [j4] at i1 hE;have e:E=15:=by rw [←hE];rfl
  subst e;clear hE;refine aJ Tryz.func56 rfl (by kernel_rfl) rfl fun M0 w0=>?_;simp only [Tryz.ntmps56,Tryz.results56,aC];repeat' with_reducible first|apply af|apply ae|apply aR|apply aw|apply aa|refine ah [] ?_|(apply au;·go_simp)|(apply ab;intro X Y;go_simp;(first|(refine ⟨_,i1,?_⟩)|skip);apply Y;clear Y X)
  go_simp
 rw [j4] at i1 hE;cases jH:inR tm 0 604800
 ·rw [jH] at i2 hE;have e:E=2:=by rw [←hE];rfl
  subst e;clear hE;refine aJ Tryz.func56 rfl (by kernel_rfl) rfl fun M0 w0=>?_;simp only [Tryz.ntmps56,Tryz.results56,aC];repeat' with_reducible first|apply af|apply ae|apply aR|apply aw|apply ao|apply aa|refine ah [] ?_|(apply au;·go_simp)|(apply aj;·go_simp)|(apply ab;intro X Y;go_simp;(first|(refine ⟨_,i1,?_⟩)|(refine ⟨_,i2,?_⟩)|skip);apply Y;clear Y X)
  go_simp
 rw [jH] at i2 hE;cases pV:inR rk 0 ((r.ranks.length:Int) - 1)
 ·rw [pV] at i3 hE;have e:E=6:=by rw [←hE];rfl
  subst e;clear hE;refine aJ Tryz.func56 rfl (by kernel_rfl) rfl fun M0 w0=>?_;simp only [Tryz.ntmps56,Tryz.results56,aC];repeat' first|(with_reducible first|apply af|apply ae|apply aR|apply aw|apply ao|apply aa|refine ah [] ?_|(apply au;·go_simp)|(apply aj;·go_simp))|((with_reducible apply ab);intro X Y;go_simp;(first|(with_reducible refine ⟨_,i1,?_⟩)|(with_reducible refine ⟨_,i2,?_⟩)|(refine ⟨_,i3,?_⟩)|skip);apply Y;clear Y X)
  go_simp
 rw [pV] at i3 hE;by_cases h4:kd=4
 ·rw [decide_eq_true h4] at hE;rw [h4] at i1;by_cases gG:car=ByteArray.empty
  ·have e:E=0:=by rw [←hE,decide_eq_true gG];rfl
   have qV:car=⟨#[]⟩:=gG;subst e;clear hE gG;subst qV;refine aJ Tryz.func56 rfl (by kernel_rfl) rfl fun M0 w0=>?_;simp only [Tryz.ntmps56,Tryz.results56,aC];repeat' first|(with_reducible first|apply af|apply ae|apply aR|apply aw|apply ao|apply aa|refine ah [] ?_|(apply au;·go_simp)|(apply aj;·go_simp))|((with_reducible apply ab);intro X Y;go_simp;(first|(with_reducible refine ⟨_,i1,?_⟩)|(with_reducible refine ⟨_,i2,?_⟩)|(refine ⟨_,i3,?_⟩)|skip);apply Y;clear Y X)
   go_simp
  ·have e:E=3:=by rw [←hE,decide_eq_false gG];rfl
   have qV:¬car=⟨#[]⟩:=gG;subst e;clear hE;refine aJ Tryz.func56 rfl (by kernel_rfl) rfl fun M0 w0=>?_;simp only [Tryz.ntmps56,Tryz.results56,aC];repeat' first|(with_reducible first|apply af|apply ae|apply aR|apply aw|apply ao|apply aa|refine ah [] ?_|(apply au;·go_simp)|(apply aj;·go_simp))|((with_reducible apply ab);intro X Y;go_simp;(first|(with_reducible refine ⟨_,i1,?_⟩)|(with_reducible refine ⟨_,i2,?_⟩)|(refine ⟨_,i3,?_⟩)|skip);apply Y;clear Y X)
   go_simp
 ·rw [decide_eq_false h4] at hE;cases GN:dj car
  ·rw [GN] at i4 hE;have e:E=4:=by rw [←hE];rfl
   subst e;clear hE;refine aJ Tryz.func56 rfl (by kernel_rfl) rfl fun M0 w0=>?_;simp only [Tryz.ntmps56,Tryz.results56,aC];repeat' first|(with_reducible first|apply af|apply ae|apply aR|apply aw|apply ao|apply aa|refine ah [] ?_|(apply au;·go_simp)|(apply aj;·go_simp))|((with_reducible apply ab);intro X Y;go_simp;(first|(with_reducible refine ⟨_,i1,?_⟩)|(with_reducible refine ⟨_,i2,?_⟩)|(refine ⟨_,i3,?_⟩)|(with_reducible refine ⟨_,i4,?_⟩)|skip);apply Y;clear Y X)
   go_simp
  ·rw [GN] at i4 hE;have e:E=0:=by rw [←hE];rfl
   subst e;clear hE;refine aJ Tryz.func56 rfl (by kernel_rfl) rfl fun M0 w0=>?_;simp only [Tryz.ntmps56,Tryz.results56,aC];repeat' first|(with_reducible first|apply af|apply ae|apply aw|apply ao|apply aa|refine ah [] ?_|(apply aj;·go_simp))|((with_reducible apply ab);intro X Y;go_simp;(first|(with_reducible refine ⟨_,i1,?_⟩)|(with_reducible refine ⟨_,i2,?_⟩)|(refine ⟨_,i3,?_⟩)|(with_reducible refine ⟨_,i4,?_⟩)|skip);apply Y;clear Y X)
   go_simp
def sE (r:Ru) (k:Nat) : Bool:=decide (20 < (rat r.ranks k).name.size)
def qW (r:Ru) : Bool:=decide (r.ranks.length≤8)&&!gz (sE r) 0 r.ranks.length
theorem zi (r:Ru) (hl:r.ranks.length≤9223372036854775807) : VC Tryz.prog 19 [bN r] (B (qW r)):=by
 unfold qW;by_cases h8:r.ranks.length≤8
 ·have Nk:¬(8:Int) < (r.ranks.length:Int):=by omega
  obtain ⟨R,hR⟩ : ∃ R,gz (sE r) 0 r.ranks.length=R:=⟨_,rfl⟩
  rw [decide_eq_true h8,hR];have HR:=Lib.hid hR;have HL:=Lib.hid h8;clear hR h8 hl;refine aJ Tryz.func19 rfl (by kernel_rfl) rfl fun M0 w0=>?_;simp only [Tryz.ntmps19,Tryz.results19,aC];repeat' with_reducible first|apply af|apply ae|apply ao|apply az|apply aa|refine ah [] ?_|(apply aj;·go_simp)|(apply ab;intro X Y;go_simp;apply Y;clear Y X)
  apply ef [1] (fun k=>[(3,I k)]) (fun k=>([] : Hp)) (sE r) (r.ranks.length)
  ·go_simp<;>exact rfl
  ·go_simp
  ·intro k hk HB HP K hK;have:=HL.out;obtain ⟨w1,w2,w3,w4,w5,w6⟩:=ixs (m:=k) (by omega);have hp:=HP.out;rw [sE,decide_eq_false_iff_not] at hp;have oG:¬(20:Int) < ((rat r.ranks k).name.size:Int):=by omega
   clear hp this;repeat' with_reducible first|apply af|apply ae|apply ao|apply az|apply aY|apply aa|refine ah [] ?_|(apply au;·go_simp)|(apply aj;·go_simp)|(apply ab;intro X Y;go_simp;apply Y;clear Y X)
   refine hK _ ?_;go_simp
  ·intro k hk HB HP K;have hp:=HP.out;rw [sE,decide_eq_true_eq] at hp;have oG:(20:Int) < ((rat r.ranks k).name.size:Int):=by omega
   have e:=HR.out;rw [nB hk HP.out] at e;subst e;clear hp;repeat' with_reducible first|apply af|apply ae|apply aR|apply aw|apply ao|apply az|apply cB|apply aa|refine ah [] ?_|(apply au;·go_simp)|(apply ab;intro X Y;go_simp;apply Y;clear Y X)
   go_simp
  ·intro HB K;have e:=HR.out;rw [qC HB.out] at e;subst e;repeat' with_reducible first|apply af|apply ae|apply bE|apply aw|apply bF|apply bG|apply aa|refine ah [] ?_|(apply aj;·go_simp)|(apply ab;intro X Y;go_simp;apply Y;clear Y X)
   go_simp
 ·have Nk:(8:Int) < (r.ranks.length:Int):=by omega
  rw [decide_eq_false h8,Bool.false_and];clear h8 hl;refine aJ Tryz.func19 rfl (by kernel_rfl) rfl fun M0 w0=>?_;simp only [Tryz.ntmps19,Tryz.results19,aC];repeat' with_reducible first|apply af|apply ae|apply aR|apply aw|apply aa|refine ah [] ?_|(apply au;·go_simp)|(apply ab;intro X Y;go_simp;apply Y;clear Y X)
  go_simp
theorem zj {r:Ru} (h:qW r=true) : r.ranks.length≤8∧∀ k,k < r.ranks.length→(rat r.ranks k).name.size≤1000:=by
 unfold qW at h;rw [Bool.and_eq_true,decide_eq_true_eq,Bool.not_eq_true'] at h;refine ⟨h.1,fun k hk=>?_⟩;by_cases hb:sE r k=true
 ·have:=nB hk hb;rw [h.2] at this;cases this
 ·unfold sE at hb;have:¬20 < (rat r.ranks k).name.size:=fun hh=>hb (decide_eq_true hh);omega
def sF (l:List Ev) (k:Nat) : Bool:=decide (20 < (aB l k).car.size)
def qX (l:List Ev) : Bool:=decide (l.length≤20∨200 < l.length∧l.length≤202)&&!gz (sF l) 0 l.length
theorem zk (l:List Ev) (hl:l.length≤9223372036854775807) : VC Tryz.prog 20 [cF l] (B (qX l)):=by
 unfold qX;by_cases h8:l.length≤20∨200 < l.length∧l.length≤202
 ·have hb:((20:Int) < (l.length:Int)→¬(l.length:Int)≤200)∧¬(202:Int) < (l.length:Int):=by omega
  obtain ⟨h1,h2⟩:=hb;obtain ⟨R,hR⟩ : ∃ R,gz (sF l) 0 l.length=R:=⟨_,rfl⟩
  rw [decide_eq_true h8,hR];have yr:l.length≤202:=by omega
  have HR:=Lib.hid hR;have HL:=Lib.hid yr;clear hR h8 hl yr;by_cases zl:(20:Int) < (l.length:Int)
  all_goals (
   first
    | (have hZ:=h1 zl)
    | skip
   clear h1;refine aJ Tryz.func20 rfl (by kernel_rfl) rfl fun M0 w0=>?_;simp only [Tryz.ntmps20,Tryz.results20,aC];repeat' with_reducible first|apply af|apply ae|apply ao|apply az|apply aa|refine ah [] ?_|(apply aj;·go_simp)|(apply ab;intro X Y;go_simp;apply Y;clear Y X)
   apply ef [0] (fun k=>[(3,I k)]) (fun k=>([] : Hp)) (sF l) (l.length)
   ·go_simp<;>exact rfl
   ·go_simp
   ·intro k hk HB HP K hK;have:=HL.out;obtain ⟨w1,w2,w3,w4,w5,w6⟩:=ixs (m:=k) (by omega);have hp:=HP.out;rw [sF,decide_eq_false_iff_not] at hp;have oG:¬(20:Int) < ((aB l k).car.size:Int):=by omega
    clear hp this;repeat' with_reducible first|apply af|apply ae|apply ao|apply az|apply aY|apply aa|refine ah [] ?_|(apply au;·go_simp)|(apply aj;·go_simp)|(apply ab;intro X Y;go_simp;apply Y;clear Y X)
    refine hK _ ?_;go_simp
   ·intro k hk HB HP K;have hp:=HP.out;rw [sF,decide_eq_true_eq] at hp;have oG:(20:Int) < ((aB l k).car.size:Int):=by omega
    have e:=HR.out;rw [nB hk HP.out] at e;subst e;clear hp;repeat' with_reducible first|apply af|apply ae|apply aR|apply aw|apply ao|apply az|apply cB|apply aa|refine ah [] ?_|(apply au;·go_simp)|(apply ab;intro X Y;go_simp;apply Y;clear Y X)
    go_simp
   ·intro HB K;have e:=HR.out;rw [qC HB.out] at e;subst e;repeat' with_reducible first|apply af|apply ae|apply bE|apply aw|apply bF|apply bG|apply aa|refine ah [] ?_|(apply aj;·go_simp)|(apply ab;intro X Y;go_simp;apply Y;clear Y X)
    go_simp)
 ·rw [decide_eq_false h8,Bool.false_and];by_cases h2:(202:Int) < (l.length:Int)
  ·have zl:(20:Int) < (l.length:Int):=by omega
   have hZ:¬(l.length:Int)≤200:=by omega
   clear h8 hl;refine aJ Tryz.func20 rfl (by kernel_rfl) rfl fun M0 w0=>?_;simp only [Tryz.ntmps20,Tryz.results20,aC];repeat' with_reducible first|apply af|apply ae|apply aR|apply aw|apply aa|refine ah [] ?_|(apply au;·go_simp)|(apply ab;intro X Y;go_simp;apply Y;clear Y X)
   go_simp
  ·have zl:(20:Int) < (l.length:Int):=by omega
   have hZ:(l.length:Int)≤200:=by omega
   clear h8 hl;refine aJ Tryz.func20 rfl (by kernel_rfl) rfl fun M0 w0=>?_;simp only [Tryz.ntmps20,Tryz.results20,aC];repeat' with_reducible first|apply af|apply ae|apply aR|apply aw|apply aa|refine ah [] ?_|(apply au;·go_simp)|(apply ab;intro X Y;go_simp;apply Y;clear Y X)
   go_simp
theorem zm {l:List Ev} (h:qX l=true) : l.length≤202∧∀ x∈l,x.car.size≤1000:=by
 unfold qX at h;rw [Bool.and_eq_true,decide_eq_true_eq,Bool.not_eq_true'] at h;refine ⟨by omega,fun x hx=>?_⟩;obtain ⟨k,hk,rfl⟩:=List.getElem_of_mem hx;rw [←kq hk];by_cases hb:sF l k=true
 ·have:=nB hk hb;rw [h.2] at this;cases this
 ·unfold sF at hb;have:¬20 < (aB l k).car.size:=fun hh=>hb (decide_eq_true hh);omega
theorem GO (r:Ru) (hn:r.ranks.length≤1000000) (cf:∀ k,k < r.ranks.length→(rat r.ranks k).name.size≤1000) : VC Tryz.prog 24 [bN r] (I (dm r).2):=by
 have g:=Nh r hn cf;generalize (dm r).2=E at *;generalize ((dm r).1:Int)=K0 at *;refine aJ Tryz.func24 rfl (by kernel_rfl) rfl fun M0 w0=>?_;simp only [Tryz.ntmps24,Tryz.results24,aC];repeat' first|(with_reducible first|apply af|apply ae|apply aw|apply aa|refine ah [] ?_)|((with_reducible apply ab);intro X Y;go_simp;(first|(refine ⟨_,g,?_⟩)|skip);apply Y;clear Y X)
 go_simp
theorem V0.nilTk {w:World} {M:Nat→Nat→Prop} {v:Value} {q:AV} {t:Int} (hv:V0 w M (.agg [q,bz,I t]) v) : V0 w M (.agg [q,.sl 3 [],I t]) v:=by
 cases hv with
 | agg _ us hl h1 h2=>
  refine .agg _ us hl (fun c hc=>?_) fun j c u hc hu=>?_
  ·simp only [List.mem_cons,List.not_mem_nil,or_false] at hc;rcases hc with rfl|rfl|rfl
   ·exact h1 _ (by simp)
   ·rfl
   ·rfl
  ·rcases j with _|_|_|j
   ·exact h2 0 c u hc hu
   ·simp only [List.getElem?_cons_zero,List.getElem?_cons_succ,Option.some.injEq] at hc;subst hc;exact (h2 1 _ u rfl hu).nilSl 3
   ·exact h2 2 c u hc hu
   ·simp at hc
theorem Nl (r:Ru) (hn:r.ranks.length≤1000000) : VC Tryz.prog 39 [bN r] (dH (st0 r)):=by
 refine (?_:VC Tryz.prog 39 [bN r] (.agg [h_ (st0 r).q,bz,I 0])).weak fun w M v hv=>hv.nilTk;unfold st0;simp only [h_,Fs];have gw:r.ranks.length≤1000000000:=by omega
 have gy:(r.ranks.length:Int)≤1000000000:=by omega
 refine aJ Tryz.func39 rfl (by kernel_rfl) rfl fun M0 w0=>?_;simp only [Tryz.ntmps39,Tryz.results39,aC];repeat' with_reducible apply af
 refine ah [] ?_;repeat' with_reducible first|apply af|apply ae|apply aa|(apply ab;intro X Y;go_simp;apply Y;clear Y X)
 refine ah [6] ?_;repeat ((with_reducible refine ab fun X Y=>?_);go_simp;refine Y _ ?_;clear Y X)
 apply aa;apply ae;refine ib (fun p a w R=>⟨_,R.toBag (id:=1) (sz:=1) rfl (by decide) (by kernel_rfl)⟩) ?_;go_simp;refine ib (fun p a w R=>R.bagArr (id:=1) rfl (by kernel_rfl)) ?_;go_simp;refine gN 0 0 1 rfl rfl rfl ?_;repeat' with_reducible apply aw
 go_simp
theorem Nn:VC Tryz.prog 25 [dH stZ,.agg [bz,bz,I 0]] (B true):=by
 unfold stZ;refine aJ Tryz.func25 rfl (by kernel_rfl) rfl fun M0 w0=>?_;simp only [Tryz.ntmps25,Tryz.results25,aC];repeat' with_reducible first|apply af|apply ae|apply ao|apply az|apply aa|refine ah [] ?_|(apply aj;·go_simp)|(apply ab;intro X Y;go_simp;apply Y;clear Y X)
 apply ef [2,3] (fun k=>[(5,I k)]) (fun k=>([] : Hp)) (fun _=>false) (0)
 ·go_simp<;>exact rfl
 ·go_simp
 ·intro k hk;omega
 ·intro k hk;omega
 ·intro HB K;repeat' with_reducible first|apply af|apply ae|apply bE|apply bF|apply az|apply bG|apply aa|refine ah [] ?_|(apply aj;·go_simp)|(apply ab;intro X Y;go_simp;apply Y;clear Y X)
  apply ef [2,3] (fun k=>[(6,I k)]) (fun k=>([] : Hp)) (fun _=>false) (0)
  ·go_simp<;>exact rfl
  ·go_simp
  ·intro k hk;omega
  ·intro k hk;omega
  ·intro HB K;repeat' with_reducible first|apply af|apply ae|apply bE|apply aw|apply bF|apply bG|apply aa|refine ah [] ?_|(apply aj;·go_simp)|(apply ab;intro X Y;go_simp;apply Y;clear Y X)
   go_simp
end Go.Proofs.YtoibondihdhnoaaGreatDoor
