/- Texts in one: Walks: lists that are the same; of every length up to a million. -/
import Derived.Test.YtoibondihdhnoaaGreatDoorFRK9
import Derived.Test.YtoibondihdhnoaaGreatDoorFRK45
import Derived.Test.YtoibondihdhnoaaGreatDoorFRK41
namespace Go.Proofs.YtoibondihdhnoaaGreatDoor
open Go.RowKit
set_option maxRecDepth 100000
set_option maxHeartbeats 2000000
theorem MD (l:List Wt) (hl:l.length≤1000000) : VC Tryz.prog 43 [.sl 3 (l.map Wt.av),.sl 3 (l.map Wt.av)] (B true):=by
 refine aQ Tryz.func43 rfl (by kernel_rfl) rfl fun M0 w0=>?_;simp only [Tryz.ntmps43,Tryz.results43,aB];repeat' with_reducible first|apply af|apply ae|apply ar|apply aA|apply aa|refine ah [] ?_|(apply ak;·go_simp)|(apply ab;intro X Y;go_simp;apply Y;clear Y X)
 apply dI [0,1] (fun k=>[(5,I k)]) (fun k=>([] : Hp)) (fun _=>false) (l.length)
 ·go_simp<;>exact rfl
 ·go_simp
 ·intro k hk HB HP K hK;obtain ⟨w1,w2,w3,w4,w5,w6⟩:=ixs (m:=k) (by omega);repeat' first|(with_reducible first|apply af|apply ae|apply ar|apply aA|apply bf|apply aa|refine ah [] ?_|apply aR|(apply aw;·go_simp)|(apply ak;·go_simp)|((first|apply ab|apply aS);intro X Y;go_simp;apply Y;clear Y X))|((refine bg 9 9 [] rfl (by kernel_rfl) ?_);simp only [ax])
  refine hK _ ?_;go_simp
 ·intro k hk HB HP K;exact absurd HP.out (by simp)
 ·intro HB K;repeat' with_reducible first|apply af|apply ae|apply bP|apply az|apply bQ|apply bT|apply aa|refine ah [] ?_|(apply ak;·go_simp)|(apply ab;intro X Y;go_simp;apply Y;clear Y X)
  go_simp
theorem y9 (l:List ByteArray) (hl:l.length≤1000000) : VCo Tryz.prog 116 [iP l] 9 1 false (l.map bU):=by
 refine xw Tryz.func116 rfl (by kernel_rfl) (by kernel_rfl) rfl Tryz.results116 (by decide) (fun k x hx=>by exact TxO.map l x (List.mem_of_getElem? hx)) fun M0 w0=>?_;simp only [Tryz.ntmps116,aB];have hQ:l.length≤1000000000:=by omega
 repeat (with_reducible first|apply af|apply ae|apply az|apply aa|refine ah [3] ?_|(apply ab;intro X Y;go_simp;apply Y;clear Y X))
 exact ⟨0,rfl,rfl⟩
theorem B0 (l:List ByteArray) (hl:l.length≤1000000) : VC Tryz.prog 116 [iP l] (iP l):=B1 (y9 l hl)
theorem ME (r:Ru) (hl:r.ranks.length≤1000000) : VC Tryz.prog 22 [b8 r] (b8 r):=by
 have hQ:r.ranks.length≤1000000000:=by omega
 refine aQ Tryz.func22 rfl (by kernel_rfl) rfl fun M0 w0=>?_;simp only [Tryz.ntmps22,Tryz.results22,aB];repeat' with_reducible apply af
 refine ah [1] ?_;repeat' with_reducible first|apply af|apply ae|apply aa|(apply ab;intro X Y;go_simp;apply Y;clear Y X)
 refine ah [3] ?_;repeat' with_reducible first|apply af|apply ae|apply aa|(apply ab;intro X Y;go_simp;apply Y;clear Y X)
 refine gA 0 0 2 rfl rfl rfl ?_;repeat' with_reducible first|apply ae|apply az|apply aa|refine ah [] ?_|(apply ab;intro X Y;go_simp;apply Y;clear Y X)
 go_simp
theorem tW (l:List ByteArray) (s:ByteArray) (hl:l.length≤1000000) : VC Tryz.prog 70 [iP l,S s] (B (gg (isT l s) 0 l.length)):=by
 obtain ⟨R,hR⟩ : ∃ R,gg (isT l s) 0 l.length=R:=⟨_,rfl⟩
 rw [hR];have HR:=Lib.hid hR;clear hR;refine aQ Tryz.func70 rfl (by kernel_rfl) rfl fun M0 w0=>?_;simp only [Tryz.ntmps70,Tryz.results70,aB];repeat' with_reducible first|apply af|apply ae|apply aA|apply aa|refine ah [] ?_|(apply ab;intro X Y;go_simp;apply Y;clear Y X)
 apply dI [0,1] (fun k=>[(5,I k)]) (fun k=>([] : Hp)) (isT l s) (l.length)
 ·go_simp<;>exact rfl
 ·go_simp
 ·intro k hk HB HP K hK;obtain ⟨w1,w2,w3,w4,w5,w6⟩:=ixs (m:=k) (by omega);have hp:¬l[k]=s:=by
   have:=HP.out;simpa [isT,dE hk] using this
  repeat' with_reducible first|apply af|apply ae|apply ar|apply aA|apply bf|apply aa|refine ah [] ?_|(apply aw;·go_simp)|(apply ak;·go_simp)|(apply ab;intro X Y;go_simp;apply Y;clear Y X)
  refine hK _ ?_;go_simp
 ·intro k hk HB HP K;have hp:l[k]=s:=by
   have:=HP.out;simpa [isT,dE hk] using this
  have e:=HR.out;rw [mh hk HP.out] at e;subst e;repeat' with_reducible first|apply af|apply ae|apply aT|apply az|apply ar|apply aA|apply cG|apply aa|refine ah [] ?_|(apply aw;·go_simp)|(apply ab;intro X Y;go_simp;apply Y;clear Y X)
  go_simp
 ·intro HB K;have e:=HR.out;rw [oo HB.out] at e;subst e;repeat (with_reducible first|apply af|apply ae|apply bP|apply az|apply bQ|apply bT|apply aa|refine ah [] ?_|(apply ak;·go_simp)|(apply ab;intro X Y;go_simp;apply Y;clear Y X))
  go_simp
theorem MF (l:List ByteArray) (hl:l.length≤1000000) : VC Tryz.prog 78 [iP l,iP l] (B true):=by
 refine aQ Tryz.func78 rfl (by kernel_rfl) rfl fun M0 w0=>?_;simp only [Tryz.ntmps78,Tryz.results78,aB];repeat' with_reducible first|apply af|apply ae|apply ar|apply aA|apply aa|refine ah [] ?_|(apply ak;·go_simp)|(apply ab;intro X Y;go_simp;apply Y;clear Y X)
 apply dI [0,1] (fun k=>[(5,I k)]) (fun k=>([] : Hp)) (fun _=>false) (l.length)
 ·go_simp<;>exact rfl
 ·go_simp
 ·intro k hk HB HP K hK;obtain ⟨w1,w2,w3,w4,w5,w6⟩:=ixs (m:=k) (by omega);repeat' first|(with_reducible first|apply af|apply ae|apply ar|apply aA|apply bf|apply aa|refine ah [] ?_|apply aR|(apply aw;·go_simp)|(apply ak;·go_simp)|((first|apply ab|apply aS);intro X Y;go_simp;apply Y;clear Y X))|((refine bg 9 9 [] rfl (by kernel_rfl) ?_);simp only [ax])
  refine hK _ ?_;go_simp
 ·intro k hk HB HP K;exact absurd HP.out (by simp)
 ·intro HB K;repeat' with_reducible first|apply af|apply ae|apply bP|apply az|apply bQ|apply bT|apply aa|refine ah [] ?_|(apply ak;·go_simp)|(apply ab;intro X Y;go_simp;apply Y;clear Y X)
  go_simp
theorem MG (s:St) (h:SmallS s) : VC Tryz.prog 25 [da s,da s] (B true):=by
 have hq:=h.q1;have tS:=h.nq;have vQ:=h.nt;have HQ:=Lib.hid hq;clear hq h;refine aQ Tryz.func25 rfl (by kernel_rfl) rfl fun M0 w0=>?_;simp only [Tryz.ntmps25,Tryz.results25,aB];repeat' with_reducible first|apply af|apply ae|apply ar|apply aA|apply aa|refine ah [] ?_|(apply ak;·go_simp)|(apply ab;intro X Y;go_simp;apply Y;clear Y X)
 apply dI [2,3] (fun k=>[(5,I k)]) (fun k=>([] : Hp)) (fun _=>false) (s.q.length)
 ·go_simp<;>exact rfl
 ·go_simp
 ·intro k hk HB HP K hK;obtain ⟨w1,w2,w3,w4,w5,w6⟩:=ixs (m:=k) (by omega);have g:=MF (qat s.q k) (by rw [eM hk];have:=(HQ.out _ (List.getElem_mem hk)).1;omega);repeat' first|(with_reducible first|apply af|apply ae|apply ar|apply aA|apply bf|apply aa|refine ah [] ?_|apply aR|(apply aw;·go_simp)|(apply ak;·go_simp)|((first|apply ab|apply aS);intro X Y;go_simp;(first|(refine ⟨_,g,?_⟩)|skip);apply Y;clear Y X))|((refine bg 12 12 [] rfl (by kernel_rfl) ?_);simp only [ax])
  refine hK _ ?_;go_simp
 ·intro k hk HB HP K;exact absurd HP.out (by simp)
 ·intro HB K;repeat' with_reducible first|apply af|apply ae|apply bP|apply bQ|apply aA|apply bT|apply aa|refine ah [] ?_|(apply ak;·go_simp)|(apply ab;intro X Y;go_simp;apply Y;clear Y X)
  apply dI [2,3] (fun k=>[(6,I k)]) (fun k=>([] : Hp)) (fun _=>false) (s.tk.length)
  ·go_simp<;>exact rfl
  ·go_simp
  ·intro k hk HB HP K hK;obtain ⟨w1,w2,w3,w4,w5,w6⟩:=ixs (m:=k) (by omega);repeat' first|(with_reducible first|apply af|apply ae|apply ar|apply aA|apply bf|apply aa|refine ah [] ?_|apply aR|(apply aw;·go_simp)|(apply ak;·go_simp)|((first|apply ab|apply aS);intro X Y;go_simp;apply Y;clear Y X))|((refine bg 11 11 [] rfl (by kernel_rfl) ?_);simp only [ax])
   refine hK _ ?_;go_simp
  ·intro k hk HB HP K;exact absurd HP.out (by simp)
  ·intro HB K;repeat' with_reducible first|apply af|apply ae|apply bP|apply az|apply bQ|apply bT|apply aa|refine ah [] ?_|(apply ak;·go_simp)|(apply ab;intro X Y;go_simp;apply Y;clear Y X)
   go_simp
def mK:Ru:=⟨[⟨⟨#[115,116,97,110,100]⟩,2,1,false⟩,⟨⟨#[102,101,101,100,101,114]⟩,3,-1,false⟩],1,60⟩
def k9:List Ev:=[⟨0,0,0,⟨#[97]⟩⟩,⟨0,5,0,⟨#[98]⟩⟩,⟨0,9,1,⟨#[99]⟩⟩,⟨1,20,0,⟨#[97]⟩⟩]
def su:St:=⟨[[⟨#[98]⟩,⟨#[99]⟩],[]],[⟨⟨#[97]⟩,0,20⟩],20⟩
theorem MH:VC Tryz.prog 83 [] (b8 mK):=by
 unfold mK;refine aQ Tryz.func83 rfl (by kernel_rfl) rfl fun M0 w0=>?_;simp only [Tryz.ntmps83,Tryz.results83,aB];repeat' with_reducible first|apply af|apply ae|apply az|apply aa|refine ah [] ?_|(apply ab;intro X Y;go_simp;apply Y;clear Y X)
 go_simp
theorem MI:VC Tryz.prog 84 [] (ee k9):=by
 unfold k9;refine aQ Tryz.func84 rfl (by kernel_rfl) rfl fun M0 w0=>?_;simp only [Tryz.ntmps84,Tryz.results84,aB];repeat' with_reducible first|apply af|apply ae|apply az|apply aa|refine ah [] ?_|(apply ab;intro X Y;go_simp;apply Y;clear Y X)
 go_simp
theorem MJ:vt mK k9=(su,0,0):=by kernel_rfl
theorem MK:ss mK k9=0:=by kernel_rfl
theorem ML:tK k9 0 k9=[⟨⟨#[97]⟩,0,20⟩]:=by kernel_rfl
theorem MM:(tU mK k9).2=0∧(tU mK k9).1.length=6:=⟨by kernel_rfl,by kernel_rfl⟩
def y_:List Sg:=[⟨0,0,⟨#[97]⟩⟩,⟨0,0,⟨#[98]⟩⟩,⟨1,0,⟨#[98]⟩⟩]
theorem MN:ovT y_ = .agg [I 0,I 1,I 2]:=by kernel_rfl
theorem MO:ovE y_=0:=by kernel_rfl
def B2:ByteArray:=⟨#[99,97,108,108,32,50,48,32,48,32,45]⟩
theorem MP:evP (jL 32 B2)=(⟨4,20,0,⟨#[]⟩⟩,0):=by kernel_rfl
theorem MQ:BP su=⟨#[50,48,124,98,32,99,124,124,97,58,48,58,50,48]⟩:=by kernel_rfl
theorem B3:SmallL mK k9:=⟨by decide,fun k hk=>by
 have h2:k < 2:=hk;rcases k with _|_|k
 ·decide
 ·decide
 ·omega,fun x hx=>by
 simp only [k9,List.mem_cons,List.not_mem_nil,or_false] at hx;rcases hx with rfl|rfl|rfl|rfl<;>decide⟩
theorem MR:SmallS su:=by
 refine ⟨by decide,fun l hl=>?_,by decide,fun t ht=>?_,by unfold i64;decide⟩
 ·simp only [su,List.mem_cons,List.not_mem_nil,or_false] at hl;rcases hl with rfl|rfl
  ·refine ⟨by decide,fun c hc=>?_⟩;simp only [List.mem_cons,List.not_mem_nil,or_false] at hc;rcases hc with rfl|rfl<;>decide
  ·exact ⟨by decide,fun c hc=>by simp at hc⟩
 ·simp only [su,List.mem_cons,List.not_mem_nil,or_false] at ht;subst ht;unfold i64;decide
theorem MS:VC Tryz.prog 18 [] (B true):=by
 have g1:=MH;have g2:=MI;have g3:=KD mK k9 B3;have g4:=MC mK k9 B3;have g5:=Mb y_ (by decide) (fun k hk=>by
  have h2:k < 3:=hk;rcases k with _|_|_|k
  ·decide
  ·decide
  ·decide
  ·omega)
 have g6:=Mi B2 (by decide);have g7:=Mm mK k9 B3;have g8:=LJ su MR;have g9:=MD [⟨⟨#[97]⟩,0,20⟩] (by decide);obtain ⟨m1,m2⟩:=MM;rw [MJ] at g3;rw [MK,if_pos rfl,ML] at g4;rw [MN,MO] at g5;rw [MP] at g6;rw [m1] at g7;rw [MQ] at g8;generalize (tU mK k9).1=L at *;have m3:(L.length:Int)=6:=by omega
 clear m1 m2;generalize mK=R0 at *;generalize hM:k9=M at *;clear hM;generalize hS:su=S0 at *;clear hS;unfold y_ at g5;unfold B2 at g6;simp only [b8,ee,da,Dq,evA,List.map_cons,List.map_nil,Sg.av,Wt.av] at g1 g2 g3 g4 g5 g6 g7 g8 g9;refine aQ Tryz.func18 rfl (by kernel_rfl) rfl fun M0 w0=>?_;simp only [Tryz.ntmps18,Tryz.results18,aB];repeat' with_reducible first|apply af|apply ae|apply az|apply aa|refine ah [] ?_|(apply ab;intro X Y;go_simp;(first|(refine ⟨_,g1,?_⟩)|(refine ⟨_,g2,?_⟩)|(refine ⟨_,g3,?_⟩)|(refine ⟨_,g4,?_⟩)|(refine ⟨_,g5,?_⟩)|(refine ⟨_,g6,?_⟩)|(refine ⟨_,g7,?_⟩)|(refine ⟨_,g8,?_⟩)|(refine ⟨_,g9,?_⟩)|skip);apply Y;clear Y X)
 go_simp
theorem za (r:Ru) (n:Int) (hn:r.ranks.length≤1000000) : VC Tryz.prog 33 [b8 r,I n] (B (inR n 0 ((r.ranks.length:Int) - 1))):=by
 have i1:=pd n 0 ((r.ranks.length:Int) - 1);have hw:IntKind.i64.wrap ((r.ranks.length:Int) - 1)=(r.ranks.length:Int) - 1:=gZ (by omega) (by omega);generalize inR n 0 ((r.ranks.length:Int) - 1)=D at *;refine aQ Tryz.func33 rfl (by kernel_rfl) rfl fun M0 w0=>?_;simp only [Tryz.ntmps33,Tryz.results33,aB];repeat' with_reducible first|apply af|apply ae|apply az|apply aa|refine ah [] ?_|(apply ab;intro X Y;go_simp;(first|(refine ⟨_,i1,?_⟩)|skip);apply Y;clear Y X)
 go_simp
theorem Gh (r:Ru) (i:Nat) (hi:i < r.ranks.length) (hn:r.ranks.length≤1000000) (ch:(rat r.ranks i).name.size≤1000) : VC Tryz.prog 101 [b8 r,I (i:Int)] (I (rkE r i)):=by
 obtain ⟨E,hE⟩ : ∃ E,rkE r i=E:=⟨_,rfl⟩
 rw [hE];have i1:=rj (rat r.ranks i).name (by omega);have i2:=pd (rat r.ranks i).places 1 12;have i3:=za r (rat r.ranks i).feeder hn;have HE:=Lib.hid hE;clear hE ch;obtain ⟨w1,w2,w3,w4,w5,w6⟩:=ixs (m:=i) (by omega);cases kb:cI (rat r.ranks i).name
 ·have e:rkE r i=4:=by simp [rkE,fst,unl,kb]
  rw [HE.out] at e;rw [kb] at i1;subst e;refine aQ Tryz.func101 rfl (by kernel_rfl) rfl fun M0 w0=>?_;simp only [Tryz.ntmps101,Tryz.results101,aB];repeat' with_reducible first|apply af|apply ae|apply aT|apply az|apply aa|refine ah [] ?_|(apply aw;·go_simp)|(apply ab;intro X Y;go_simp;(first|(refine ⟨_,i1,?_⟩)|skip);apply Y;clear Y X)
  go_simp
 rw [kb] at i1;refine aQ Tryz.func101 rfl (by kernel_rfl) rfl fun M0 w0=>?_;simp only [Tryz.ntmps101,Tryz.results101,aB];repeat' with_reducible first|apply af|apply ae|apply ar|apply aA|apply aa|refine ah [] ?_|(apply ak;·go_simp)|(apply ab;intro X Y;go_simp;(first|(refine ⟨_,i1,?_⟩)|skip);apply Y;clear Y X)
 apply dI [1,2,5] (fun k=>[(6,I k)]) (fun k=>([some (.box [S (rat r.ranks i).name,I (rat r.ranks i).places,I (rat r.ranks i).feeder,B (rat r.ranks i).called])] : Hp)) (fun k=>decide ((rat r.ranks k).name=(rat r.ranks i).name)) (i)
 ·go_simp<;>exact rfl
 ·go_simp
 ·intro k hk HB HP K hK;obtain ⟨x1,x2,x3,x4,x5,x6⟩:=ixs (m:=k) (by omega);have jU:k < r.ranks.length:=by omega
  have hp:¬(rat r.ranks k).name=(rat r.ranks i).name:=of_decide_eq_false HP.out;repeat' first|(with_reducible first|apply af|apply ae|apply ar|apply aA|apply bf|apply aa|refine ah [] ?_|apply aR|(apply aw;·go_simp)|(apply ak;·go_simp)|((first|apply ab|apply aS);intro X Y;go_simp;apply Y;clear Y X))|((refine bg 9 9 [] rfl (by kernel_rfl) ?_);simp only [ax])
  refine hK _ ?_;go_simp
 ·intro k hk HB HP K;obtain ⟨x1,x2,x3,x4,x5,x6⟩:=ixs (m:=k) (by omega);have jU:k < r.ranks.length:=by omega
  have hp:(rat r.ranks k).name=(rat r.ranks i).name:=of_decide_eq_true HP.out;have hA:nC r i=true:=mh hk HP.out;have e:rkE r i=5:=by simp [rkE,fst,unl,kb,hA]
  rw [HE.out] at e;subst e;repeat' first|(with_reducible first|apply af|apply ae|apply aT|apply az|apply ar|apply aA|apply cG|apply aa|refine ah [] ?_|apply aR|(apply aw;·go_simp)|((first|apply ab|apply aS);intro X Y;go_simp;apply Y;clear Y X))|((refine bg 9 9 [] rfl (by kernel_rfl) ?_);simp only [ax])
  go_simp
 ·intro HB K;have hA:nC r i=false:=oo HB.out;cases jN:inR (rat r.ranks i).places 1 12
  ·have e:rkE r i=2:=by simp [rkE,fst,unl,kb,hA,jN]
   rw [HE.out] at e;rw [jN] at i2;subst e;repeat' with_reducible first|apply af|apply ae|apply bP|apply aT|apply az|apply bQ|apply bT|apply aa|refine ah [] ?_|(apply aw;·go_simp)|(apply ak;·go_simp)|(apply ab;intro X Y;go_simp;(first|(refine ⟨_,i2,?_⟩)|skip);apply Y;clear Y X)
   go_simp
  rw [jN] at i2;by_cases hF:(rat r.ranks i).feeder = -1
  ·have pJ:fS r i=false:=by simp [fS,hF]
   cases hC:(rat r.ranks i).called
   ·have e:rkE r i=0:=by simp [rkE,fst,unl,kb,hA,jN,pJ,hC]
    rw [HE.out] at e;subst e;repeat' with_reducible first|apply af|apply ae|apply bP|apply aT|apply az|apply ar|apply bQ|apply bT|apply aa|refine ah [] ?_|(apply aw;·go_simp)|(apply ak;·go_simp)|(apply ab;intro X Y;go_simp;(first|(refine ⟨_,i2,?_⟩)|skip);apply Y;clear Y X)
    go_simp
   ·have e:rkE r i=3:=by simp [rkE,fst,unl,kb,hA,jN,pJ,hC]
    rw [HE.out] at e;subst e;repeat' with_reducible first|apply af|apply ae|apply bP|apply aT|apply az|apply ar|apply bQ|apply bT|apply aa|refine ah [] ?_|(apply aw;·go_simp)|(apply ak;·go_simp)|(apply ab;intro X Y;go_simp;(first|(refine ⟨_,i2,?_⟩)|skip);apply Y;clear Y X)
    go_simp
  have pJ:fS r i=true:=by simp [fS,hF]
  cases pW:inR (rat r.ranks i).feeder 0 ((r.ranks.length:Int) - 1)
  ·have e:rkE r i=6:=by simp [rkE,fst,unl,kb,hA,jN,pJ,pW]
   rw [HE.out] at e;rw [pW] at i3;subst e;repeat' first|(with_reducible first|apply af|apply ae|apply bP|apply aT|apply az|apply ar|apply bQ|apply bT|apply aa|refine ah [] ?_|(apply aw;·go_simp)|(apply ak;·go_simp))|((with_reducible apply ab);intro X Y;go_simp;(first|(with_reducible refine ⟨_,i2,?_⟩)|(refine ⟨_,i3,?_⟩)|skip);apply Y;clear Y X)
   go_simp
  rw [pW] at i3;by_cases hO:(i:Int) < (rat r.ranks i).feeder
  ·have kH:¬(rat r.ranks i).feeder≤(i:Int):=by omega
   repeat' first|(with_reducible first|apply af|apply ae|apply bP|apply ar|apply bQ|apply aA|apply bT|apply aa|refine ah [] ?_|(apply ak;·go_simp))|((with_reducible apply ab);intro X Y;go_simp;(first|(with_reducible refine ⟨_,i2,?_⟩)|(refine ⟨_,i3,?_⟩)|skip);apply Y;clear Y X)
   apply dI [1,2,5] (fun k=>[(7,I k)]) (fun k=>([some (.box [S (rat r.ranks i).name,I (rat r.ranks i).places,I (rat r.ranks i).feeder,B (rat r.ranks i).called])] : Hp)) (fun k=>decide ((rat r.ranks k).feeder=(rat r.ranks i).feeder)) (i)
   ·go_simp<;>exact rfl
   ·go_simp
   ·intro k hk HB HP K hK;obtain ⟨x1,x2,x3,x4,x5,x6⟩:=ixs (m:=k) (by omega);have jU:k < r.ranks.length:=by omega
    have hp:¬(rat r.ranks k).feeder=(rat r.ranks i).feeder:=of_decide_eq_false HP.out;repeat' first|(with_reducible first|apply af|apply ae|apply ar|apply aA|apply bf|apply aa|refine ah [] ?_|apply aR|(apply aw;·go_simp)|(apply ak;·go_simp)|((first|apply ab|apply aS);intro X Y;go_simp;apply Y;clear Y X))|((refine bg 9 9 [] rfl (by kernel_rfl) ?_);simp only [ax])
    refine hK _ ?_;go_simp
   ·intro k hk HB HP K;obtain ⟨x1,x2,x3,x4,x5,x6⟩:=ixs (m:=k) (by omega);have jU:k < r.ranks.length:=by omega
    have hp:(rat r.ranks k).feeder=(rat r.ranks i).feeder:=of_decide_eq_true HP.out;have hB:lZ r i=true:=mh hk HP.out;have e:rkE r i=26:=by simp [rkE,fst,unl,kb,hA,jN,pJ,pW,hO,hB]
    rw [HE.out] at e;subst e;repeat' first|(with_reducible first|apply af|apply ae|apply aT|apply az|apply ar|apply aA|apply cG|apply aa|refine ah [] ?_|apply aR|(apply aw;·go_simp)|((first|apply ab|apply aS);intro X Y;go_simp;apply Y;clear Y X))|((refine bg 9 9 [] rfl (by kernel_rfl) ?_);simp only [ax])
    go_simp
   ·intro HB K;have hB:lZ r i=false:=oo HB.out;have e:rkE r i=0:=by simp [rkE,fst,unl,kb,hA,jN,pJ,pW,hO,hB]
    rw [HE.out] at e;subst e;repeat' with_reducible first|apply af|apply ae|apply bP|apply az|apply bQ|apply bT|apply aa|refine ah [] ?_|(apply ak;·go_simp)|(apply ab;intro X Y;go_simp;apply Y;clear Y X)
    go_simp
  ·have kH:(rat r.ranks i).feeder≤(i:Int):=by omega
   have e:rkE r i=9:=by simp [rkE,fst,unl,kb,hA,jN,pJ,pW,hO]
   rw [HE.out] at e;subst e;repeat' first|(with_reducible first|apply af|apply ae|apply bP|apply aT|apply az|apply ar|apply bQ|apply bT|apply aa|refine ah [] ?_|(apply aw;·go_simp)|(apply ak;·go_simp))|((with_reducible apply ab);intro X Y;go_simp;(first|(with_reducible refine ⟨_,i2,?_⟩)|(refine ⟨_,i3,?_⟩)|skip);apply Y;clear Y X)
   go_simp
theorem MT (r:Ru) (hn:r.ranks.length≤1000000) (ch:∀ k,k < r.ranks.length→(rat r.ranks k).name.size≤1000) : VC Tryz.prog 38 [b8 r] (.tup [I ((di r).1:Int),I (di r).2]):=by
 unfold di;by_cases h0:r.ranks.length=0
 ·rw [if_pos h0];have oL:(r.ranks.length:Int)=0:=by omega
  refine aQ Tryz.func38 rfl (by kernel_rfl) rfl fun M0 w0=>?_;simp only [Tryz.ntmps38,Tryz.results38,aB];repeat' with_reducible first|apply af|apply ae|apply aT|apply az|apply aa|refine ah [] ?_|(apply aw;·go_simp)|(apply ab;intro X Y;go_simp;apply Y;clear Y X)
  go_simp
 rw [if_neg h0];have oL:¬r.ranks=[]:=fun h=>h0 (by rw [h];rfl);by_cases h6:6 < r.ranks.length
 ·rw [if_pos h6];have MU:(6:Int) < (r.ranks.length:Int):=by omega
  refine aQ Tryz.func38 rfl (by kernel_rfl) rfl fun M0 w0=>?_;simp only [Tryz.ntmps38,Tryz.results38,aB];repeat' with_reducible first|apply af|apply ae|apply aT|apply az|apply ar|apply aa|refine ah [] ?_|(apply aw;·go_simp)|(apply ak;·go_simp)|(apply ab;intro X Y;go_simp;apply Y;clear Y X)
  go_simp
 rw [if_neg h6];have MU:¬(6:Int) < (r.ranks.length:Int):=by omega
 obtain ⟨R,hR⟩ : ∃ R,(if (kE (rkE r) 0 r.ranks.length).2≠0 then kE (rkE r) 0 r.ranks.length else (0,r9 r))=R:=⟨_,rfl⟩
 rw [hR];have HR:=Lib.hid hR;have HM:=Lib.hid ch;have i1:=pd r.back 0 12;have i2:=pd r.ret 0 3600;clear hR ch h0 h6;refine aQ Tryz.func38 rfl (by kernel_rfl) rfl fun M0 w0=>?_;simp only [Tryz.ntmps38,Tryz.results38,aB];repeat' with_reducible first|apply af|apply ae|apply ar|apply aA|apply aa|refine ah [] ?_|(apply ak;·go_simp)|(apply ab;intro X Y;go_simp;apply Y;clear Y X)
 apply dI [1] (fun k=>[(4,I k)]) (fun k=>([] : Hp)) (fun k=>!decide (rkE r k=0)) (r.ranks.length)
 ·go_simp<;>exact rfl
 ·go_simp
 ·intro k hk HB HP K hK;obtain ⟨x1,x2,x3,x4,x5,x6⟩:=ixs (m:=k) (by omega);have g:=Gh r k hk hn (HM.out k hk);have he:rkE r k=0:=by simpa using HP.out
  rw [he] at g;clear he;repeat' first|(with_reducible first|apply af|apply ae|apply ar|apply aA|apply bf|apply aa|refine ah [] ?_|(apply aw;·go_simp)|(apply ak;·go_simp))|((with_reducible apply ab);intro X Y;go_simp;(first|(refine ⟨_,g,?_⟩)|skip);apply Y;clear Y X)
  refine hK _ ?_;go_simp
 ·intro k hk HB HP K;obtain ⟨x1,x2,x3,x4,x5,x6⟩:=ixs (m:=k) (by omega);have g:=Gh r k hk hn (HM.out k hk);have he:¬rkE r k=0:=by simpa using HP.out
  have e:=HR.out;rw [Ba hk HB.out HP.out,if_pos he] at e;subst e;generalize rkE r k=E at *;repeat' first|(with_reducible first|apply af|apply ae|apply aT|apply az|apply ar|apply aA|apply cG|apply aa|refine ah [] ?_|(apply aw;·go_simp))|((with_reducible apply ab);intro X Y;go_simp;(first|(refine ⟨_,g,?_⟩)|skip);apply Y;clear Y X)
  go_simp
 ·intro HB K;have e:=HR.out;rw [yj _ _ (fun j hj=>HB.out j (by omega)),if_neg (by simp)] at e;subst e;unfold r9;by_cases hb:r.back = -1
  ·cases jN:inR r.ret 0 3600
   ·rw [jN] at i2;have e2:unl ((decide (r.back = -1) || inR r.back 0 12)&&false) 2=2:=by simp [unl]
    rw [e2];repeat' with_reducible first|apply af|apply ae|apply bP|apply aT|apply az|apply bQ|apply bT|apply aa|refine ah [] ?_|(apply aw;·go_simp)|(apply ak;·go_simp)|(apply ab;intro X Y;go_simp;(first|(refine ⟨_,i2,?_⟩)|skip);apply Y;clear Y X)
    go_simp
   ·rw [jN] at i2;have e2:unl ((decide (r.back = -1) || inR r.back 0 12)&&true) 2=0:=by simp [unl,hb]
    rw [e2];repeat' with_reducible first|apply af|apply ae|apply bP|apply az|apply ar|apply bQ|apply bT|apply aa|refine ah [] ?_|(apply ak;·go_simp)|(apply ab;intro X Y;go_simp;(first|(refine ⟨_,i2,?_⟩)|skip);apply Y;clear Y X)
    go_simp
  ·cases kb:inR r.back 0 12
   ·rw [kb] at i1;have e2:unl ((decide (r.back = -1) || false)&&inR r.ret 0 3600) 2=2:=by simp [unl,hb]
    rw [e2];repeat' with_reducible first|apply af|apply ae|apply bP|apply aT|apply az|apply bQ|apply bT|apply aa|refine ah [] ?_|(apply aw;·go_simp)|(apply ak;·go_simp)|(apply ab;intro X Y;go_simp;(first|(refine ⟨_,i1,?_⟩)|skip);apply Y;clear Y X)
    go_simp
   ·rw [kb] at i1;cases jN:inR r.ret 0 3600
    ·rw [jN] at i2;have e2:unl ((decide (r.back = -1) || true)&&false) 2=2:=by simp [unl]
     rw [e2];repeat' with_reducible first|apply af|apply ae|apply bP|apply aT|apply az|apply bQ|apply bT|apply aa|refine ah [] ?_|(apply aw;·go_simp)|(apply ak;·go_simp)|(apply ab;intro X Y;go_simp;(first|(refine ⟨_,i1,?_⟩)|(refine ⟨_,i2,?_⟩)|skip);apply Y;clear Y X)
     go_simp
    ·rw [jN] at i2;have e2:unl ((decide (r.back = -1) || true)&&true) 2=0:=by simp [unl]
     rw [e2];repeat' with_reducible first|apply af|apply ae|apply bP|apply az|apply ar|apply bQ|apply bT|apply aa|refine ah [] ?_|(apply ak;·go_simp)|(apply ab;intro X Y;go_simp;(first|(refine ⟨_,i1,?_⟩)|(refine ⟨_,i2,?_⟩)|skip);apply Y;clear Y X)
     go_simp
theorem MV (r:Ru) (x:Ev) (hn:r.ranks.length≤1000000) (hc:x.car.size≤1000) : VC Tryz.prog 56 [b8 r,evA x] (I (evE r x)):=by
 obtain ⟨kd,tm,rk,car⟩:=x;simp only [evA] at *;obtain ⟨E,hE⟩ : ∃ E,evE r ⟨kd,tm,rk,car⟩=E:=⟨_,rfl⟩
 rw [hE];have i1:=pd kd 0 5;have i2:=pd tm 0 604800;have i3:=za r rk hn;have i4:=rj car (by omega);unfold evE at hE;cases kb:inR kd 0 5
 ·rw [kb] at i1 hE;have e:E=15:=by rw [←hE];rfl
  subst e;clear hE;refine aQ Tryz.func56 rfl (by kernel_rfl) rfl fun M0 w0=>?_;simp only [Tryz.ntmps56,Tryz.results56,aB];repeat' with_reducible first|apply af|apply ae|apply aT|apply az|apply aa|refine ah [] ?_|(apply aw;·go_simp)|(apply ab;intro X Y;go_simp;(first|(refine ⟨_,i1,?_⟩)|skip);apply Y;clear Y X)
  go_simp
 rw [kb] at i1 hE;cases jN:inR tm 0 604800
 ·rw [jN] at i2 hE;have e:E=2:=by rw [←hE];rfl
  subst e;clear hE;refine aQ Tryz.func56 rfl (by kernel_rfl) rfl fun M0 w0=>?_;simp only [Tryz.ntmps56,Tryz.results56,aB];repeat' with_reducible first|apply af|apply ae|apply aT|apply az|apply ar|apply aa|refine ah [] ?_|(apply aw;·go_simp)|(apply ak;·go_simp)|(apply ab;intro X Y;go_simp;(first|(refine ⟨_,i1,?_⟩)|(refine ⟨_,i2,?_⟩)|skip);apply Y;clear Y X)
  go_simp
 rw [jN] at i2 hE;cases pW:inR rk 0 ((r.ranks.length:Int) - 1)
 ·rw [pW] at i3 hE;have e:E=6:=by rw [←hE];rfl
  subst e;clear hE;refine aQ Tryz.func56 rfl (by kernel_rfl) rfl fun M0 w0=>?_;simp only [Tryz.ntmps56,Tryz.results56,aB];repeat' first|(with_reducible first|apply af|apply ae|apply aT|apply az|apply ar|apply aa|refine ah [] ?_|(apply aw;·go_simp)|(apply ak;·go_simp))|((with_reducible apply ab);intro X Y;go_simp;(first|(with_reducible refine ⟨_,i1,?_⟩)|(with_reducible refine ⟨_,i2,?_⟩)|(refine ⟨_,i3,?_⟩)|skip);apply Y;clear Y X)
  go_simp
 rw [pW] at i3 hE;by_cases h4:kd=4
 ·rw [decide_eq_true h4] at hE;rw [h4] at i1;by_cases nM:car=ByteArray.empty
  ·have e:E=0:=by rw [←hE,decide_eq_true nM];rfl
   have qQ:car=⟨#[]⟩:=nM;subst e;clear hE nM;subst qQ;refine aQ Tryz.func56 rfl (by kernel_rfl) rfl fun M0 w0=>?_;simp only [Tryz.ntmps56,Tryz.results56,aB];repeat' first|(with_reducible first|apply af|apply ae|apply aT|apply az|apply ar|apply aa|refine ah [] ?_|(apply aw;·go_simp)|(apply ak;·go_simp))|((with_reducible apply ab);intro X Y;go_simp;(first|(with_reducible refine ⟨_,i1,?_⟩)|(with_reducible refine ⟨_,i2,?_⟩)|(refine ⟨_,i3,?_⟩)|skip);apply Y;clear Y X)
   go_simp
  ·have e:E=3:=by rw [←hE,decide_eq_false nM];rfl
   have qQ:¬car=⟨#[]⟩:=nM;subst e;clear hE;refine aQ Tryz.func56 rfl (by kernel_rfl) rfl fun M0 w0=>?_;simp only [Tryz.ntmps56,Tryz.results56,aB];repeat' first|(with_reducible first|apply af|apply ae|apply aT|apply az|apply ar|apply aa|refine ah [] ?_|(apply aw;·go_simp)|(apply ak;·go_simp))|((with_reducible apply ab);intro X Y;go_simp;(first|(with_reducible refine ⟨_,i1,?_⟩)|(with_reducible refine ⟨_,i2,?_⟩)|(refine ⟨_,i3,?_⟩)|skip);apply Y;clear Y X)
   go_simp
 ·rw [decide_eq_false h4] at hE;cases Gi:cI car
  ·rw [Gi] at i4 hE;have e:E=4:=by rw [←hE];rfl
   subst e;clear hE;refine aQ Tryz.func56 rfl (by kernel_rfl) rfl fun M0 w0=>?_;simp only [Tryz.ntmps56,Tryz.results56,aB];repeat' first|(with_reducible first|apply af|apply ae|apply aT|apply az|apply ar|apply aa|refine ah [] ?_|(apply aw;·go_simp)|(apply ak;·go_simp))|((with_reducible apply ab);intro X Y;go_simp;(first|(with_reducible refine ⟨_,i1,?_⟩)|(with_reducible refine ⟨_,i2,?_⟩)|(refine ⟨_,i3,?_⟩)|(with_reducible refine ⟨_,i4,?_⟩)|skip);apply Y;clear Y X)
   go_simp
  ·rw [Gi] at i4 hE;have e:E=0:=by rw [←hE];rfl
   subst e;clear hE;refine aQ Tryz.func56 rfl (by kernel_rfl) rfl fun M0 w0=>?_;simp only [Tryz.ntmps56,Tryz.results56,aB];repeat' first|(with_reducible first|apply af|apply ae|apply az|apply ar|apply aa|refine ah [] ?_|(apply ak;·go_simp))|((with_reducible apply ab);intro X Y;go_simp;(first|(with_reducible refine ⟨_,i1,?_⟩)|(with_reducible refine ⟨_,i2,?_⟩)|(refine ⟨_,i3,?_⟩)|(with_reducible refine ⟨_,i4,?_⟩)|skip);apply Y;clear Y X)
   go_simp
theorem l9 (r:Ru) (s:St) (hl:r.ranks.length≤1000000) (hr:r.ranks.length=s.q.length) (hf:jO r s.q.length) : VC Tryz.prog 118 [b8 r,hJ s.q] (I (cO r s)):=by
 obtain ⟨R,hR⟩ : ∃ R,cO r s=R:=⟨_,rfl⟩
 rw [hR];unfold cO at hR;have HR:=Lib.hid hR;have HF:=Lib.hid hf;clear hR hf;refine aQ Tryz.func118 rfl (by kernel_rfl) rfl fun M0 w0=>?_;simp only [Tryz.ntmps118,Tryz.results118,aB];repeat' with_reducible first|apply af|apply ae|apply aA|apply aa|refine ah [] ?_|(apply ab;intro X Y;go_simp;apply Y;clear Y X)
 apply dI [1,2] (fun k=>[(5,I k)]) (fun k=>([] : Hp)) (mR r s) (r.ranks.length)
 ·go_simp<;>exact rfl
 ·go_simp
 ·intro k hk HB HP K hK;obtain ⟨w1,w2,w3,w4,w5,w6⟩:=ixs (m:=k) (by omega);have cN:k < s.q.length:=by omega
  have hp:=HP.out;unfold mR cm at hp;by_cases h1:(rat r.ranks k).feeder = -1
  ·clear hp;repeat' first|(with_reducible first|apply af|apply ae|apply ar|apply aA|apply bf|apply aa|refine ah [] ?_|apply aR|(apply aw;·go_simp)|(apply ak;·go_simp)|((first|apply ab|apply aS);intro X Y;go_simp;apply Y;clear Y X))|((refine bg 27 27 [] rfl (by kernel_rfl) ?_);simp only [ax])
   refine hK _ ?_;go_simp
  obtain ⟨f0,fl⟩:=HF.out k cN h1;obtain ⟨f,hf⟩ : ∃ f:Nat,(rat r.ranks k).feeder=f:=⟨(rat r.ranks k).feeder.toNat,by omega⟩
  rw [hf] at fl h1 hp;simp only [Int.toNat_natCast] at fl hp;clear f0;cases h2:(rat r.ranks k).called
  ·rw [decide_eq_true h1,h2] at hp;simp only [Bool.not_false,Bool.true_and] at hp;by_cases h3:((qat s.q k).length:Int) < (rat r.ranks k).places
   ·rw [decide_eq_true h3,Bool.true_and,decide_eq_false_iff_not] at hp;have h4:qat s.q f=[]:=List.eq_nil_of_length_eq_zero (by omega);clear hp;repeat' first|(with_reducible first|apply af|apply ae|apply ar|apply aA|apply bf|apply aa|refine ah [] ?_|apply aR|(apply aw;·go_simp)|(apply ak;·go_simp)|((first|apply ab|apply aS);intro X Y;go_simp;apply Y;clear Y X))|((refine bg 27 27 [] rfl (by kernel_rfl) ?_);simp only [ax])
    refine hK _ ?_;go_simp
   ·clear hp;repeat' first|(with_reducible first|apply af|apply ae|apply ar|apply aA|apply bf|apply aa|refine ah [] ?_|apply aR|(apply aw;·go_simp)|(apply ak;·go_simp)|((first|apply ab|apply aS);intro X Y;go_simp;apply Y;clear Y X))|((refine bg 27 27 [] rfl (by kernel_rfl) ?_);simp only [ax])
    refine hK _ ?_;go_simp
  ·clear hp;repeat' first|(with_reducible first|apply af|apply ae|apply ar|apply aA|apply bf|apply aa|refine ah [] ?_|apply aR|(apply aw;·go_simp)|(apply ak;·go_simp)|((first|apply ab|apply aS);intro X Y;go_simp;apply Y;clear Y X))|((refine bg 27 27 [] rfl (by kernel_rfl) ?_);simp only [ax])
   refine hK _ ?_;go_simp
 ·intro k hk HB HP K;have cN:k < s.q.length:=by omega
  have e:=HR.out;rw [kr hk HB.out HP.out] at e;subst e;have hp:=HP.out;unfold mR cm at hp;simp only [Bool.and_eq_true,decide_eq_true_eq,Bool.not_eq_true'] at hp;obtain ⟨⟨⟨h1,h2⟩,h3⟩,h4⟩:=hp;obtain ⟨f0,fl⟩:=HF.out k cN h1;obtain ⟨f,hf⟩ : ∃ f:Nat,(rat r.ranks k).feeder=f:=⟨(rat r.ranks k).feeder.toNat,by omega⟩
  rw [hf] at fl h1 h4;simp only [Int.toNat_natCast] at fl h4;have h5:¬qat s.q f=[]:=fun h=>by rw [h] at h4;simp at h4
  clear f0;repeat' first|(with_reducible first|apply af|apply ae|apply aT|apply az|apply ar|apply aA|apply cG|apply aa|refine ah [] ?_|apply aR|(apply aw;·go_simp)|((first|apply ab|apply aS);intro X Y;go_simp;apply Y;clear Y X))|((refine bg 27 27 [] rfl (by kernel_rfl) ?_);simp only [ax])
  go_simp
 ·intro HB K;have e:=HR.out;rw [ll HB.out] at e;subst e;repeat' with_reducible first|apply af|apply ae|apply bP|apply az|apply bQ|apply bT|apply aa|refine ah [] ?_|(apply ak;·go_simp)|(apply ab;intro X Y;go_simp;apply Y;clear Y X)
  go_simp
def oX (q:List (List ByteArray)) (c:ByteArray) : Int:=if eh q c < 0 then -1 else fx (qat q (eh q c).toNat) c
theorem MW (s:St) (c:ByteArray) (hl:s.q.length≤1000000) (hq:∀ k,k < s.q.length→(qat s.q k).length≤1000000) : VC Tryz.prog 129 [da s,S c] (.tup [I (eh s.q c),I (oX s.q c)]):=by
 obtain ⟨A,hA⟩ : ∃ A,eh s.q c=A:=⟨_,rfl⟩
 obtain ⟨D,hD⟩ : ∃ D,oX s.q c=D:=⟨_,rfl⟩
 unfold oX at hD;rw [hA] at hD;unfold oX;rw [hA,hD];unfold eh at hA;have HA:=Lib.hid hA;have HD:=Lib.hid hD;have HQ:=Lib.hid hq;clear hA hD hq;refine aQ Tryz.func129 rfl (by kernel_rfl) rfl fun M0 w0=>?_;simp only [Tryz.ntmps129,Tryz.results129,aB];repeat' with_reducible first|apply af|apply ae|apply aA|apply aa|refine ah [] ?_|(apply ab;intro X Y;go_simp;apply Y;clear Y X)
 apply dI [1,2] (fun k=>[(6,I k)]) (fun k=>([] : Hp)) (inQ s.q c) (s.q.length)
 ·go_simp<;>exact rfl
 ·go_simp
 ·intro k hk HB HP K hK;obtain ⟨w1,w2,w3,w4,w5,w6⟩:=ixs (m:=k) (by omega);have iK:=HQ.out k hk;repeat' with_reducible first|apply af|apply ae|apply ar|apply aA|apply aa|refine ah [] ?_|(apply aw;·go_simp)|(apply ab;intro X Y;go_simp;apply Y;clear Y X)
  apply dI [1,2,6] (fun k=>[(7,I k)]) (fun k=>([] : Hp)) (isT (qat s.q k) c) ((qat s.q k).length)
  ·go_simp<;>exact rfl
  ·go_simp
  ·intro j hj dz eB K2 fG;obtain ⟨x1,x2,x3,x4,x5,x6⟩:=ixs (m:=j) (by omega);have hp:¬(qat s.q k)[j]=c:=by
    have:=eB.out;simpa [isT,dE hj] using this
   repeat' with_reducible first|apply af|apply ae|apply ar|apply aA|apply bf|apply aa|refine ah [] ?_|(apply aw;·go_simp)|(apply ak;·go_simp)|(apply ab;intro X Y;go_simp;apply Y;clear Y X)
   refine fG _ ?_;go_simp
  ·intro j hj dz eB K2;exfalso;have h1:=HP.out;unfold inQ fx at h1;rw [kr hj dz.out eB.out] at h1;simp at h1
  ·intro dz K2;repeat' with_reducible first|apply af|apply ae|apply bP|apply bQ|apply bf|apply bT|apply aa|refine ah [] ?_|(apply ak;·go_simp)|(apply ab;intro X Y;go_simp;apply Y;clear Y X)
   refine hK _ ?_;go_simp
 ·intro k hk HB HP K;obtain ⟨w1,w2,w3,w4,w5,w6⟩:=ixs (m:=k) (by omega);have iK:=HQ.out k hk;have e:=HA.out;rw [kr hk HB.out HP.out] at e;subst e;have e2:=HD.out;rw [if_neg (by omega),Int.toNat_natCast] at e2;have MX:=Lib.hid e2;clear e2;repeat' with_reducible first|apply af|apply ae|apply ar|apply aA|apply aa|refine ah [] ?_|(apply aw;·go_simp)|(apply ab;intro X Y;go_simp;apply Y;clear Y X)
  apply dI [1,2,6] (fun k=>[(7,I k)]) (fun k=>([] : Hp)) (isT (qat s.q k) c) ((qat s.q k).length)
  ·go_simp<;>exact rfl
  ·go_simp
  ·intro j hj dz eB K2 fG;obtain ⟨x1,x2,x3,x4,x5,x6⟩:=ixs (m:=j) (by omega);have hp:¬(qat s.q k)[j]=c:=by
    have:=eB.out;simpa [isT,dE hj] using this
   repeat' with_reducible first|apply af|apply ae|apply ar|apply aA|apply bf|apply aa|refine ah [] ?_|(apply aw;·go_simp)|(apply ak;·go_simp)|(apply ab;intro X Y;go_simp;apply Y;clear Y X)
   refine fG _ ?_;go_simp
  ·intro j hj dz eB K2;have hp:(qat s.q k)[j]=c:=by
    have:=eB.out;simpa [isT,dE hj] using this
   have e3:=MX.out;unfold fx at e3;rw [kr hj dz.out eB.out] at e3;subst e3;repeat' with_reducible first|apply af|apply ae|apply aT|apply az|apply ar|apply aA|apply cG|apply aa|refine ah [] ?_|(apply aw;·go_simp)|(apply ab;intro X Y;go_simp;apply Y;clear Y X)
   go_simp
  ·intro dz K2;exfalso;have h1:=HP.out;unfold inQ fx at h1;rw [ll dz.out] at h1;simp at h1
 ·intro HB K;have e:=HA.out;rw [ll HB.out] at e;subst e;have e2:=HD.out;rw [if_pos (by decide)] at e2;subst e2;repeat' with_reducible first|apply af|apply ae|apply bP|apply az|apply bQ|apply bT|apply aa|refine ah [] ?_|(apply ak;·go_simp)|(apply ab;intro X Y;go_simp;apply Y;clear Y X)
  go_simp
theorem MY (s:St) (c:ByteArray) (hl:s.tk.length≤1000000) : VC Tryz.prog 130 [da s,S c] (I (eN s.tk c)):=by
 obtain ⟨R,hR⟩ : ∃ R,eN s.tk c=R:=⟨_,rfl⟩
 rw [hR];unfold eN at hR;have HR:=Lib.hid hR;clear hR;refine aQ Tryz.func130 rfl (by kernel_rfl) rfl fun M0 w0=>?_;simp only [Tryz.ntmps130,Tryz.results130,aB];repeat' with_reducible first|apply af|apply ae|apply aA|apply aa|refine ah [] ?_|(apply ab;intro X Y;go_simp;apply Y;clear Y X)
 apply dI [1,2] (fun k=>[(5,I k)]) (fun k=>([] : Hp)) (mS s.tk c) (s.tk.length)
 ·go_simp<;>exact rfl
 ·go_simp
 ·intro k hk HB HP K hK;obtain ⟨w1,w2,w3,w4,w5,w6⟩:=ixs (m:=k) (by omega);have hp:¬(aI s.tk k).car=c:=of_decide_eq_false HP.out;repeat' with_reducible first|apply af|apply ae|apply ar|apply aA|apply bf|apply aa|refine ah [] ?_|(apply aw;·go_simp)|(apply ak;·go_simp)|(apply ab;intro X Y;go_simp;apply Y;clear Y X)
  refine hK _ ?_;go_simp
 ·intro k hk HB HP K;have hp:(aI s.tk k).car=c:=of_decide_eq_true HP.out;have e:=HR.out;rw [kr hk HB.out HP.out] at e;subst e;repeat' with_reducible first|apply af|apply ae|apply aT|apply az|apply ar|apply aA|apply cG|apply aa|refine ah [] ?_|(apply aw;·go_simp)|(apply ab;intro X Y;go_simp;apply Y;clear Y X)
  go_simp
 ·intro HB K;have e:=HR.out;rw [ll HB.out] at e;subst e;repeat' with_reducible first|apply af|apply ae|apply bP|apply az|apply bQ|apply bT|apply aa|refine ah [] ?_|(apply ak;·go_simp)|(apply ab;intro X Y;go_simp;apply Y;clear Y X)
  go_simp
end Go.Proofs.YtoibondihdhnoaaGreatDoor
