/- Texts in one: Walks: rules and events, as the reference has them. -/
import Derived.Test.YtoibondihdhnoaaGreatDoorFRZ8
import Derived.Test.YtoibondihdhnoaaGreatDoorFRZ45
namespace Go.Proofs.YtoibondihdhnoaaGreatDoor
open Go.RowKit
set_option maxRecDepth 100000
set_option maxHeartbeats 2000000
theorem zO (r:Ru) (n:Int) (hn:r.ranks.length≤1000000) : VC Tryz.prog 33 [ct r,I n] (B (inR n 0 ((r.ranks.length:Int) - 1))):=by
 have i1:=j3 n 0 ((r.ranks.length:Int) - 1);have hw:IntKind.i64.wrap ((r.ranks.length:Int) - 1)=(r.ranks.length:Int) - 1:=cj (by omega) (by omega);generalize inR n 0 ((r.ranks.length:Int) - 1)=D at *;refine aK Tryz.func33 rfl (by kernel_rfl) rfl fun M0 w0=>?_;simp only [Tryz.ntmps33,Tryz.results33,az];repeat' with_reducible first|apply af|apply ae|apply aq|apply aa|refine ah [] ?_|(apply ab;intro X Y;go_simp;(first|(refine ⟨_,i1,?_⟩)|skip);apply Y;clear Y X)
 go_simp
theorem Iw (r:Ru) (i:Nat) (hi:i < r.ranks.length) (hn:r.ranks.length≤1000000) (bI:(rat r.ranks i).name.size≤1000) : VC Tryz.prog 101 [ct r,I (i:Int)] (I (rkE r i)):=by
 obtain ⟨E,hE⟩ : ∃ E,rkE r i=E:=⟨_,rfl⟩
 rw [hE];have i1:=ny (rat r.ranks i).name (by omega);have i2:=j3 (rat r.ranks i).places 1 12;have i3:=zO r (rat r.ranks i).feeder hn;have HE:=Lib.hid hE;clear hE bI;obtain ⟨w1,w2,w3,w4,w5,w6⟩:=ixs (m:=i) (by omega);cases gv:bP (rat r.ranks i).name
 ·have e:rkE r i=4:=by simp [rkE,fst,unl,gv]
  rw [HE.out] at e;rw [gv] at i1;subst e;refine aK Tryz.func101 rfl (by kernel_rfl) rfl fun M0 w0=>?_;simp only [Tryz.ntmps101,Tryz.results101,az];repeat' with_reducible first|apply af|apply ae|apply aF|apply aq|apply aa|refine ah [] ?_|(apply ao;·go_simp)|(apply ab;intro X Y;go_simp;(first|(refine ⟨_,i1,?_⟩)|skip);apply Y;clear Y X)
  go_simp
 rw [gv] at i1;refine aK Tryz.func101 rfl (by kernel_rfl) rfl fun M0 w0=>?_;simp only [Tryz.ntmps101,Tryz.results101,az];repeat' with_reducible first|apply af|apply ae|apply aj|apply ar|apply aa|refine ah [] ?_|(apply ak;·go_simp)|(apply ab;intro X Y;go_simp;(first|(refine ⟨_,i1,?_⟩)|skip);apply Y;clear Y X)
 apply ch [1,2,5] (fun k=>[(6,I k)]) (fun k=>([some (.box [S (rat r.ranks i).name,I (rat r.ranks i).places,I (rat r.ranks i).feeder,B (rat r.ranks i).called])] : Hp)) (fun k=>decide ((rat r.ranks k).name=(rat r.ranks i).name)) (i)
 ·go_simp<;>exact rfl
 ·go_simp
 ·intro k hk HB HP K hK;obtain ⟨x1,x2,x3,x4,x5,x6⟩:=ixs (m:=k) (by omega);have kM:k < r.ranks.length:=by omega
  have hp:¬(rat r.ranks k).name=(rat r.ranks i).name:=of_decide_eq_false HP.out;repeat' first|(with_reducible first|apply af|apply ae|apply aj|apply ar|apply aT|apply aa|refine ah [] ?_|apply aI|(apply ao;·go_simp)|(apply ak;·go_simp)|((first|apply ab|apply aJ);intro X Y;go_simp;apply Y;clear Y X))|((refine aQ 9 9 [] rfl (by kernel_rfl) ?_);simp only [aA])
  refine hK _ ?_;go_simp
 ·intro k hk HB HP K;obtain ⟨x1,x2,x3,x4,x5,x6⟩:=ixs (m:=k) (by omega);have kM:k < r.ranks.length:=by omega
  have hp:(rat r.ranks k).name=(rat r.ranks i).name:=of_decide_eq_true HP.out;have hA:mT r i=true:=ig hk HP.out;have e:rkE r i=5:=by simp [rkE,fst,unl,gv,hA]
  rw [HE.out] at e;subst e;repeat' first|(with_reducible first|apply af|apply ae|apply aF|apply aq|apply aj|apply ar|apply b_|apply aa|refine ah [] ?_|apply aI|(apply ao;·go_simp)|((first|apply ab|apply aJ);intro X Y;go_simp;apply Y;clear Y X))|((refine aQ 9 9 [] rfl (by kernel_rfl) ?_);simp only [aA])
  go_simp
 ·intro HB K;have hA:mT r i=false:=gI HB.out;cases gx:inR (rat r.ranks i).places 1 12
  ·have e:rkE r i=2:=by simp [rkE,fst,unl,gv,hA,gx]
   rw [HE.out] at e;rw [gx] at i2;subst e;repeat' with_reducible first|apply af|apply ae|apply aW|apply aF|apply aq|apply aX|apply aY|apply aa|refine ah [] ?_|(apply ao;·go_simp)|(apply ak;·go_simp)|(apply ab;intro X Y;go_simp;(first|(refine ⟨_,i2,?_⟩)|skip);apply Y;clear Y X)
   go_simp
  rw [gx] at i2;by_cases hF:(rat r.ranks i).feeder = -1
  ·have oU:fg r i=false:=by simp [fg,hF]
   cases hC:(rat r.ranks i).called
   ·have e:rkE r i=0:=by simp [rkE,fst,unl,gv,hA,gx,oU,hC]
    rw [HE.out] at e;subst e;repeat' with_reducible first|apply af|apply ae|apply aW|apply aF|apply aq|apply aj|apply aX|apply aY|apply aa|refine ah [] ?_|(apply ao;·go_simp)|(apply ak;·go_simp)|(apply ab;intro X Y;go_simp;(first|(refine ⟨_,i2,?_⟩)|skip);apply Y;clear Y X)
    go_simp
   ·have e:rkE r i=3:=by simp [rkE,fst,unl,gv,hA,gx,oU,hC]
    rw [HE.out] at e;subst e;repeat' with_reducible first|apply af|apply ae|apply aW|apply aF|apply aq|apply aj|apply aX|apply aY|apply aa|refine ah [] ?_|(apply ao;·go_simp)|(apply ak;·go_simp)|(apply ab;intro X Y;go_simp;(first|(refine ⟨_,i2,?_⟩)|skip);apply Y;clear Y X)
    go_simp
  have oU:fg r i=true:=by simp [fg,hF]
  cases lS:inR (rat r.ranks i).feeder 0 ((r.ranks.length:Int) - 1)
  ·have e:rkE r i=6:=by simp [rkE,fst,unl,gv,hA,gx,oU,lS]
   rw [HE.out] at e;rw [lS] at i3;subst e;repeat' first|(with_reducible first|apply af|apply ae|apply aW|apply aF|apply aq|apply aj|apply aX|apply aY|apply aa|refine ah [] ?_|(apply ao;·go_simp)|(apply ak;·go_simp))|((with_reducible apply ab);intro X Y;go_simp;(first|(with_reducible refine ⟨_,i2,?_⟩)|(refine ⟨_,i3,?_⟩)|skip);apply Y;clear Y X)
   go_simp
  rw [lS] at i3;by_cases hO:(i:Int) < (rat r.ranks i).feeder
  ·have my:¬(rat r.ranks i).feeder≤(i:Int):=by omega
   repeat' first|(with_reducible first|apply af|apply ae|apply aW|apply aj|apply aX|apply ar|apply aY|apply aa|refine ah [] ?_|(apply ak;·go_simp))|((with_reducible apply ab);intro X Y;go_simp;(first|(with_reducible refine ⟨_,i2,?_⟩)|(refine ⟨_,i3,?_⟩)|skip);apply Y;clear Y X)
   apply ch [1,2,5] (fun k=>[(7,I k)]) (fun k=>([some (.box [S (rat r.ranks i).name,I (rat r.ranks i).places,I (rat r.ranks i).feeder,B (rat r.ranks i).called])] : Hp)) (fun k=>decide ((rat r.ranks k).feeder=(rat r.ranks i).feeder)) (i)
   ·go_simp<;>exact rfl
   ·go_simp
   ·intro k hk HB HP K hK;obtain ⟨x1,x2,x3,x4,x5,x6⟩:=ixs (m:=k) (by omega);have kM:k < r.ranks.length:=by omega
    have hp:¬(rat r.ranks k).feeder=(rat r.ranks i).feeder:=of_decide_eq_false HP.out;repeat' first|(with_reducible first|apply af|apply ae|apply aj|apply ar|apply aT|apply aa|refine ah [] ?_|apply aI|(apply ao;·go_simp)|(apply ak;·go_simp)|((first|apply ab|apply aJ);intro X Y;go_simp;apply Y;clear Y X))|((refine aQ 9 9 [] rfl (by kernel_rfl) ?_);simp only [aA])
    refine hK _ ?_;go_simp
   ·intro k hk HB HP K;obtain ⟨x1,x2,x3,x4,x5,x6⟩:=ixs (m:=k) (by omega);have kM:k < r.ranks.length:=by omega
    have hp:(rat r.ranks k).feeder=(rat r.ranks i).feeder:=of_decide_eq_true HP.out;have hB:lE r i=true:=ig hk HP.out;have e:rkE r i=26:=by simp [rkE,fst,unl,gv,hA,gx,oU,lS,hO,hB]
    rw [HE.out] at e;subst e;repeat' first|(with_reducible first|apply af|apply ae|apply aF|apply aq|apply aj|apply ar|apply b_|apply aa|refine ah [] ?_|apply aI|(apply ao;·go_simp)|((first|apply ab|apply aJ);intro X Y;go_simp;apply Y;clear Y X))|((refine aQ 9 9 [] rfl (by kernel_rfl) ?_);simp only [aA])
    go_simp
   ·intro HB K;have hB:lE r i=false:=gI HB.out;have e:rkE r i=0:=by simp [rkE,fst,unl,gv,hA,gx,oU,lS,hO,hB]
    rw [HE.out] at e;subst e;repeat' with_reducible first|apply af|apply ae|apply aW|apply aq|apply aX|apply aY|apply aa|refine ah [] ?_|(apply ak;·go_simp)|(apply ab;intro X Y;go_simp;apply Y;clear Y X)
    go_simp
  ·have my:(rat r.ranks i).feeder≤(i:Int):=by omega
   have e:rkE r i=9:=by simp [rkE,fst,unl,gv,hA,gx,oU,lS,hO]
   rw [HE.out] at e;subst e;repeat' first|(with_reducible first|apply af|apply ae|apply aW|apply aF|apply aq|apply aj|apply aX|apply aY|apply aa|refine ah [] ?_|(apply ao;·go_simp)|(apply ak;·go_simp))|((with_reducible apply ab);intro X Y;go_simp;(first|(with_reducible refine ⟨_,i2,?_⟩)|(refine ⟨_,i3,?_⟩)|skip);apply Y;clear Y X)
   go_simp
theorem Ix (r:Ru) (hn:r.ranks.length≤1000000) (bI:∀ k,k < r.ranks.length→(rat r.ranks k).name.size≤1000) : VC Tryz.prog 38 [ct r] (.tup [I ((bY r).1:Int),I (bY r).2]):=by
 unfold bY;by_cases h0:r.ranks.length=0
 ·rw [if_pos h0];have n_:(r.ranks.length:Int)=0:=by omega
  refine aK Tryz.func38 rfl (by kernel_rfl) rfl fun M0 w0=>?_;simp only [Tryz.ntmps38,Tryz.results38,az];repeat' with_reducible first|apply af|apply ae|apply aF|apply aq|apply aa|refine ah [] ?_|(apply ao;·go_simp)|(apply ab;intro X Y;go_simp;apply Y;clear Y X)
  go_simp
 rw [if_neg h0];have n_:¬r.ranks=[]:=fun h=>h0 (by rw [h];rfl);by_cases h6:6 < r.ranks.length
 ·rw [if_pos h6];have Pm:(6:Int) < (r.ranks.length:Int):=by omega
  refine aK Tryz.func38 rfl (by kernel_rfl) rfl fun M0 w0=>?_;simp only [Tryz.ntmps38,Tryz.results38,az];repeat' with_reducible first|apply af|apply ae|apply aF|apply aq|apply aj|apply aa|refine ah [] ?_|(apply ao;·go_simp)|(apply ak;·go_simp)|(apply ab;intro X Y;go_simp;apply Y;clear Y X)
  go_simp
 rw [if_neg h6];have Pm:¬(6:Int) < (r.ranks.length:Int):=by omega
 obtain ⟨R,hR⟩ : ∃ R,(if (jU (rkE r) 0 r.ranks.length).2≠0 then jU (rkE r) 0 r.ranks.length else (0,rM r))=R:=⟨_,rfl⟩
 rw [hR];have HR:=Lib.hid hR;have HM:=Lib.hid bI;have i1:=j3 r.back 0 12;have i2:=j3 r.ret 0 3600;clear hR bI h0 h6;refine aK Tryz.func38 rfl (by kernel_rfl) rfl fun M0 w0=>?_;simp only [Tryz.ntmps38,Tryz.results38,az];repeat' with_reducible first|apply af|apply ae|apply aj|apply ar|apply aa|refine ah [] ?_|(apply ak;·go_simp)|(apply ab;intro X Y;go_simp;apply Y;clear Y X)
 apply ch [1] (fun k=>[(4,I k)]) (fun k=>([] : Hp)) (fun k=>!decide (rkE r k=0)) (r.ranks.length)
 ·go_simp<;>exact rfl
 ·go_simp
 ·intro k hk HB HP K hK;obtain ⟨x1,x2,x3,x4,x5,x6⟩:=ixs (m:=k) (by omega);have g:=Iw r k hk hn (HM.out k hk);have he:rkE r k=0:=by simpa using HP.out
  rw [he] at g;clear he;repeat' first|(with_reducible first|apply af|apply ae|apply aj|apply ar|apply aT|apply aa|refine ah [] ?_|(apply ao;·go_simp)|(apply ak;·go_simp))|((with_reducible apply ab);intro X Y;go_simp;(first|(refine ⟨_,g,?_⟩)|skip);apply Y;clear Y X)
  refine hK _ ?_;go_simp
 ·intro k hk HB HP K;obtain ⟨x1,x2,x3,x4,x5,x6⟩:=ixs (m:=k) (by omega);have g:=Iw r k hk hn (HM.out k hk);have he:¬rkE r k=0:=by simpa using HP.out
  have e:=HR.out;rw [y9 hk HB.out HP.out,if_pos he] at e;subst e;generalize rkE r k=E at *;repeat' first|(with_reducible first|apply af|apply ae|apply aF|apply aq|apply aj|apply ar|apply b_|apply aa|refine ah [] ?_|(apply ao;·go_simp))|((with_reducible apply ab);intro X Y;go_simp;(first|(refine ⟨_,g,?_⟩)|skip);apply Y;clear Y X)
  go_simp
 ·intro HB K;have e:=HR.out;rw [vF _ _ (fun j hj=>HB.out j (by omega)),if_neg (by simp)] at e;subst e;unfold rM;by_cases hb:r.back = -1
  ·cases gx:inR r.ret 0 3600
   ·rw [gx] at i2;have e2:unl ((decide (r.back = -1) || inR r.back 0 12)&&false) 2=2:=by simp [unl]
    rw [e2];repeat' with_reducible first|apply af|apply ae|apply aW|apply aF|apply aq|apply aX|apply aY|apply aa|refine ah [] ?_|(apply ao;·go_simp)|(apply ak;·go_simp)|(apply ab;intro X Y;go_simp;(first|(refine ⟨_,i2,?_⟩)|skip);apply Y;clear Y X)
    go_simp
   ·rw [gx] at i2;have e2:unl ((decide (r.back = -1) || inR r.back 0 12)&&true) 2=0:=by simp [unl,hb]
    rw [e2];repeat' with_reducible first|apply af|apply ae|apply aW|apply aq|apply aj|apply aX|apply aY|apply aa|refine ah [] ?_|(apply ak;·go_simp)|(apply ab;intro X Y;go_simp;(first|(refine ⟨_,i2,?_⟩)|skip);apply Y;clear Y X)
    go_simp
  ·cases gv:inR r.back 0 12
   ·rw [gv] at i1;have e2:unl ((decide (r.back = -1) || false)&&inR r.ret 0 3600) 2=2:=by simp [unl,hb]
    rw [e2];repeat' with_reducible first|apply af|apply ae|apply aW|apply aF|apply aq|apply aX|apply aY|apply aa|refine ah [] ?_|(apply ao;·go_simp)|(apply ak;·go_simp)|(apply ab;intro X Y;go_simp;(first|(refine ⟨_,i1,?_⟩)|skip);apply Y;clear Y X)
    go_simp
   ·rw [gv] at i1;cases gx:inR r.ret 0 3600
    ·rw [gx] at i2;have e2:unl ((decide (r.back = -1) || true)&&false) 2=2:=by simp [unl]
     rw [e2];repeat' with_reducible first|apply af|apply ae|apply aW|apply aF|apply aq|apply aX|apply aY|apply aa|refine ah [] ?_|(apply ao;·go_simp)|(apply ak;·go_simp)|(apply ab;intro X Y;go_simp;(first|(refine ⟨_,i1,?_⟩)|(refine ⟨_,i2,?_⟩)|skip);apply Y;clear Y X)
     go_simp
    ·rw [gx] at i2;have e2:unl ((decide (r.back = -1) || true)&&true) 2=0:=by simp [unl]
     rw [e2];repeat' with_reducible first|apply af|apply ae|apply aW|apply aq|apply aj|apply aX|apply aY|apply aa|refine ah [] ?_|(apply ak;·go_simp)|(apply ab;intro X Y;go_simp;(first|(refine ⟨_,i1,?_⟩)|(refine ⟨_,i2,?_⟩)|skip);apply Y;clear Y X)
     go_simp
theorem Pn (r:Ru) (x:Ev) (hn:r.ranks.length≤1000000) (hc:x.car.size≤1000) : VC Tryz.prog 56 [ct r,evA x] (I (evE r x)):=by
 obtain ⟨kd,tm,rk,car⟩:=x;simp only [evA] at *;obtain ⟨E,hE⟩ : ∃ E,evE r ⟨kd,tm,rk,car⟩=E:=⟨_,rfl⟩
 rw [hE];have i1:=j3 kd 0 5;have i2:=j3 tm 0 604800;have i3:=zO r rk hn;have i4:=ny car (by omega);unfold evE at hE;cases gv:inR kd 0 5
 ·rw [gv] at i1 hE;have e:E=15:=by rw [←hE];rfl
  subst e;clear hE;refine aK Tryz.func56 rfl (by kernel_rfl) rfl fun M0 w0=>?_;simp only [Tryz.ntmps56,Tryz.results56,az];repeat' with_reducible first|apply af|apply ae|apply aF|apply aq|apply aa|refine ah [] ?_|(apply ao;·go_simp)|(apply ab;intro X Y;go_simp;(first|(refine ⟨_,i1,?_⟩)|skip);apply Y;clear Y X)
  go_simp
 rw [gv] at i1 hE;cases gx:inR tm 0 604800
 ·rw [gx] at i2 hE;have e:E=2:=by rw [←hE];rfl
  subst e;clear hE;refine aK Tryz.func56 rfl (by kernel_rfl) rfl fun M0 w0=>?_;simp only [Tryz.ntmps56,Tryz.results56,az];repeat' with_reducible first|apply af|apply ae|apply aF|apply aq|apply aj|apply aa|refine ah [] ?_|(apply ao;·go_simp)|(apply ak;·go_simp)|(apply ab;intro X Y;go_simp;(first|(refine ⟨_,i1,?_⟩)|(refine ⟨_,i2,?_⟩)|skip);apply Y;clear Y X)
  go_simp
 rw [gx] at i2 hE;cases lS:inR rk 0 ((r.ranks.length:Int) - 1)
 ·rw [lS] at i3 hE;have e:E=6:=by rw [←hE];rfl
  subst e;clear hE;refine aK Tryz.func56 rfl (by kernel_rfl) rfl fun M0 w0=>?_;simp only [Tryz.ntmps56,Tryz.results56,az];repeat' first|(with_reducible first|apply af|apply ae|apply aF|apply aq|apply aj|apply aa|refine ah [] ?_|(apply ao;·go_simp)|(apply ak;·go_simp))|((with_reducible apply ab);intro X Y;go_simp;(first|(with_reducible refine ⟨_,i1,?_⟩)|(with_reducible refine ⟨_,i2,?_⟩)|(refine ⟨_,i3,?_⟩)|skip);apply Y;clear Y X)
  go_simp
 rw [lS] at i3 hE;by_cases h4:kd=4
 ·rw [decide_eq_true h4] at hE;rw [h4] at i1;by_cases dc:car=ByteArray.empty
  ·have e:E=0:=by rw [←hE,decide_eq_true dc];rfl
   have iH:car=⟨#[]⟩:=dc;subst e;clear hE dc;subst iH;refine aK Tryz.func56 rfl (by kernel_rfl) rfl fun M0 w0=>?_;simp only [Tryz.ntmps56,Tryz.results56,az];repeat' first|(with_reducible first|apply af|apply ae|apply aF|apply aq|apply aj|apply aa|refine ah [] ?_|(apply ao;·go_simp)|(apply ak;·go_simp))|((with_reducible apply ab);intro X Y;go_simp;(first|(with_reducible refine ⟨_,i1,?_⟩)|(with_reducible refine ⟨_,i2,?_⟩)|(refine ⟨_,i3,?_⟩)|skip);apply Y;clear Y X)
   go_simp
  ·have e:E=3:=by rw [←hE,decide_eq_false dc];rfl
   have iH:¬car=⟨#[]⟩:=dc;subst e;clear hE;refine aK Tryz.func56 rfl (by kernel_rfl) rfl fun M0 w0=>?_;simp only [Tryz.ntmps56,Tryz.results56,az];repeat' first|(with_reducible first|apply af|apply ae|apply aF|apply aq|apply aj|apply aa|refine ah [] ?_|(apply ao;·go_simp)|(apply ak;·go_simp))|((with_reducible apply ab);intro X Y;go_simp;(first|(with_reducible refine ⟨_,i1,?_⟩)|(with_reducible refine ⟨_,i2,?_⟩)|(refine ⟨_,i3,?_⟩)|skip);apply Y;clear Y X)
   go_simp
 ·rw [decide_eq_false h4] at hE;cases Iy:bP car
  ·rw [Iy] at i4 hE;have e:E=4:=by rw [←hE];rfl
   subst e;clear hE;refine aK Tryz.func56 rfl (by kernel_rfl) rfl fun M0 w0=>?_;simp only [Tryz.ntmps56,Tryz.results56,az];repeat' first|(with_reducible first|apply af|apply ae|apply aF|apply aq|apply aj|apply aa|refine ah [] ?_|(apply ao;·go_simp)|(apply ak;·go_simp))|((with_reducible apply ab);intro X Y;go_simp;(first|(with_reducible refine ⟨_,i1,?_⟩)|(with_reducible refine ⟨_,i2,?_⟩)|(refine ⟨_,i3,?_⟩)|(with_reducible refine ⟨_,i4,?_⟩)|skip);apply Y;clear Y X)
   go_simp
  ·rw [Iy] at i4 hE;have e:E=0:=by rw [←hE];rfl
   subst e;clear hE;refine aK Tryz.func56 rfl (by kernel_rfl) rfl fun M0 w0=>?_;simp only [Tryz.ntmps56,Tryz.results56,az];repeat' first|(with_reducible first|apply af|apply ae|apply aq|apply aj|apply aa|refine ah [] ?_|(apply ak;·go_simp))|((with_reducible apply ab);intro X Y;go_simp;(first|(with_reducible refine ⟨_,i1,?_⟩)|(with_reducible refine ⟨_,i2,?_⟩)|(refine ⟨_,i3,?_⟩)|(with_reducible refine ⟨_,i4,?_⟩)|skip);apply Y;clear Y X)
   go_simp
def sH (r:Ru) (k:Nat) : Bool:=decide (20 < (rat r.ranks k).name.size)
def sI (r:Ru) : Bool:=decide (r.ranks.length≤8)&&!cQ (sH r) 0 r.ranks.length
theorem Dk (r:Ru) (hl:r.ranks.length≤9223372036854775807) : VC Tryz.prog 19 [ct r] (B (sI r)):=by
 unfold sI;by_cases h8:r.ranks.length≤8
 ·have Po:¬(8:Int) < (r.ranks.length:Int):=by omega
  obtain ⟨R,hR⟩ : ∃ R,cQ (sH r) 0 r.ranks.length=R:=⟨_,rfl⟩
  rw [decide_eq_true h8,hR];have HR:=Lib.hid hR;have HL:=Lib.hid h8;clear hR h8 hl;refine aK Tryz.func19 rfl (by kernel_rfl) rfl fun M0 w0=>?_;simp only [Tryz.ntmps19,Tryz.results19,az];repeat' with_reducible first|apply af|apply ae|apply aj|apply ar|apply aa|refine ah [] ?_|(apply ak;·go_simp)|(apply ab;intro X Y;go_simp;apply Y;clear Y X)
  apply ch [1] (fun k=>[(3,I k)]) (fun k=>([] : Hp)) (sH r) (r.ranks.length)
  ·go_simp<;>exact rfl
  ·go_simp
  ·intro k hk HB HP K hK;have:=HL.out;obtain ⟨w1,w2,w3,w4,w5,w6⟩:=ixs (m:=k) (by omega);have hp:=HP.out;rw [sH,decide_eq_false_iff_not] at hp;have eX:¬(20:Int) < ((rat r.ranks k).name.size:Int):=by omega
   clear hp this;repeat' with_reducible first|apply af|apply ae|apply aj|apply ar|apply aT|apply aa|refine ah [] ?_|(apply ao;·go_simp)|(apply ak;·go_simp)|(apply ab;intro X Y;go_simp;apply Y;clear Y X)
   refine hK _ ?_;go_simp
  ·intro k hk HB HP K;have hp:=HP.out;rw [sH,decide_eq_true_eq] at hp;have eX:(20:Int) < ((rat r.ranks k).name.size:Int):=by omega
   have e:=HR.out;rw [ig hk HP.out] at e;subst e;clear hp;repeat' with_reducible first|apply af|apply ae|apply aF|apply aq|apply aj|apply ar|apply b_|apply aa|refine ah [] ?_|(apply ao;·go_simp)|(apply ab;intro X Y;go_simp;apply Y;clear Y X)
   go_simp
  ·intro HB K;have e:=HR.out;rw [gI HB.out] at e;subst e;repeat' with_reducible first|apply af|apply ae|apply aW|apply aq|apply aX|apply aY|apply aa|refine ah [] ?_|(apply ak;·go_simp)|(apply ab;intro X Y;go_simp;apply Y;clear Y X)
   go_simp
 ·have Po:(8:Int) < (r.ranks.length:Int):=by omega
  rw [decide_eq_false h8,Bool.false_and];clear h8 hl;refine aK Tryz.func19 rfl (by kernel_rfl) rfl fun M0 w0=>?_;simp only [Tryz.ntmps19,Tryz.results19,az];repeat' with_reducible first|apply af|apply ae|apply aF|apply aq|apply aa|refine ah [] ?_|(apply ao;·go_simp)|(apply ab;intro X Y;go_simp;apply Y;clear Y X)
  go_simp
theorem Dl {r:Ru} (h:sI r=true) : r.ranks.length≤8∧∀ k,k < r.ranks.length→(rat r.ranks k).name.size≤1000:=by
 unfold sI at h;rw [Bool.and_eq_true,decide_eq_true_eq,Bool.not_eq_true'] at h;refine ⟨h.1,fun k hk=>?_⟩;by_cases hb:sH r k=true
 ·have:=ig hk hb;rw [h.2] at this;cases this
 ·unfold sH at hb;have:¬20 < (rat r.ranks k).name.size:=fun hh=>hb (decide_eq_true hh);omega
theorem Iz (r:Ru) (hn:r.ranks.length≤1000000) (bI:∀ k,k < r.ranks.length→(rat r.ranks k).name.size≤1000) : VC Tryz.prog 24 [ct r] (I (bY r).2):=by
 have g:=Ix r hn bI;generalize (bY r).2=E at *;generalize ((bY r).1:Int)=K0 at *;refine aK Tryz.func24 rfl (by kernel_rfl) rfl fun M0 w0=>?_;simp only [Tryz.ntmps24,Tryz.results24,az];repeat' first|(with_reducible first|apply af|apply ae|apply aq|apply aa|refine ah [] ?_)|((with_reducible apply ab);intro X Y;go_simp;(first|(refine ⟨_,g,?_⟩)|skip);apply Y;clear Y X)
 go_simp
theorem Pp (r:Ru) (hn:r.ranks.length≤1000000) (bI:∀ k,k < r.ranks.length→(rat r.ranks k).name.size≤1000) (h:(bY r).2≠0) : VC Tryz.prog 37 [ct r] (.tup [.agg [aZ,aZ,I 0],I (bY r).2]):=by
 have g:=nc r hn bI;generalize (bY r).2=E at *;refine aK Tryz.func37 rfl (by kernel_rfl) rfl fun M0 w0=>?_;simp only [Tryz.ntmps37,Tryz.results37,az];repeat' first|(with_reducible first|apply af|apply ae|apply aF|apply aq|apply aa|refine ah [] ?_|(apply ao;·go_simp))|((with_reducible apply ab);intro X Y;go_simp;(first|(refine ⟨_,g,?_⟩)|skip);apply Y;clear Y X)
 go_simp
theorem Pq (r:Ru) (hn:r.ranks.length≤1000000) (bI:∀ k,k < r.ranks.length→(rat r.ranks k).name.size≤1000) (h:(bY r).2=0) : VC Tryz.prog 37 [ct r] (.tup [ez (st0 r),I 0]):=by
 have g:=nc r hn bI;have gw:=y_ r hn;rw [h] at g;unfold mg at gw;clear h;refine aK Tryz.func37 rfl (by kernel_rfl) rfl fun M0 w0=>?_;simp only [Tryz.ntmps37,Tryz.results37,az];repeat' with_reducible apply af
 refine ah [] ?_;repeat' with_reducible first|apply af|apply ae|apply aa|(apply ab;intro X Y;go_simp;apply Y;clear Y X)
 refine ah [] ?_;repeat' first|(with_reducible first|apply af|apply ae|apply aa)|((with_reducible apply ab);intro X Y;go_simp;(first|(refine ⟨_,g,?_⟩)|skip);apply Y;clear Y X)
 refine ah [] ?_;repeat' with_reducible first|apply af|apply ae|apply aj|apply aa|(apply ak;·go_simp)|(apply ab;intro X Y;go_simp;apply Y;clear Y X)
 refine ec (bM [] 1 ⟨rfl,rfl⟩ ?_);simp only [aA];repeat' with_reducible first|apply aa|(apply ab;intro X Y;go_simp;apply Y;clear Y X)
 refine eo [] [] [] [some (.bag 62 1 false none (cA (st0 r).q)),some (.box [.osl 0,.osl 2,I (st0 r).time,.sl 4 (r.ranks.map Rk.av),I r.back,I r.ret,.osl 3]),some (.arr 148 3 true ((st0 r).tk.map Tk.av)),some (.arr 45 3 true [])] (.ref 1 0) rfl (by go_simp) ?_ ?_
 ·unfold dM;go_simp;refine ⟨_,_,⟨_,gw⟩,?_⟩;go_simp;kernel_rfl
 go_simp;refine bM [] 5 ⟨rfl,rfl⟩ ?_;simp only [aA];repeat' with_reducible first|apply aa|(apply ab;intro X Y;go_simp;apply Y;clear Y X)
 apply c_;apply ae;refine fa (fun p a w R=>R.bagArr (id:=1) rfl (by kernel_rfl)) ?_;go_simp;refine hZ 0 0 1 rfl rfl rfl ?_;refine hZ 0 1 3 rfl rfl rfl ?_;repeat' with_reducible apply aq
 go_simp
theorem V0.nilTk {w:World} {M:Nat→Nat→Prop} {v:Value} {q:AV} {t:Int} (hv:V0 w M (.agg [q,aZ,I t]) v) : V0 w M (.agg [q,.sl 3 [],I t]) v:=by
 cases hv with
 | agg _ us hl h1 h2=>
  refine .agg _ us hl (fun c hc=>?_) fun j c u hc hu=>?_
  ·simp only [List.mem_cons,List.not_mem_nil,or_false] at hc;rcases hc with rfl|rfl|rfl
   ·exact h1 _ (by simp)
   ·rfl
   ·rfl
  ·rcases j with _|_|_|j
   ·exact h2 0 c u hc hu
   ·simp only [List.getElem?_cons_zero,List.getElem?_cons_succ,Option.some.injEq] at hc;subst hc;exact (h2 1 _ u rfl hu).nilSl 3
   ·exact h2 2 c u hc hu
   ·simp at hc
theorem Pr (r:Ru) (hn:r.ranks.length≤1000000) : VC Tryz.prog 39 [ct r] (ez (st0 r)):=by
 refine (?_:VC Tryz.prog 39 [ct r] (.agg [ot (st0 r).q,aZ,I 0])).weak fun w M v hv=>hv.nilTk;unfold st0;simp only [ot,FM];have l5:r.ranks.length≤1000000000:=by omega
 have gE:(r.ranks.length:Int)≤1000000000:=by omega
 refine aK Tryz.func39 rfl (by kernel_rfl) rfl fun M0 w0=>?_;simp only [Tryz.ntmps39,Tryz.results39,az];repeat' with_reducible apply af
 refine ah [] ?_;repeat' with_reducible first|apply af|apply ae|apply aa|(apply ab;intro X Y;go_simp;apply Y;clear Y X)
 refine ah [6] ?_;repeat ((with_reducible refine ab fun X Y=>?_);go_simp;refine Y _ ?_;clear Y X)
 apply aa;apply ae;refine fa (fun p a w R=>⟨_,R.toBag (id:=1) (sz:=1) rfl (by decide) (by kernel_rfl)⟩) ?_;go_simp;refine fa (fun p a w R=>R.bagArr (id:=1) rfl (by kernel_rfl)) ?_;go_simp;refine hZ 0 0 1 rfl rfl rfl ?_;repeat' with_reducible apply aq
 go_simp
theorem Ps:VC Tryz.prog 25 [.agg [aZ,aZ,I 0],.agg [aZ,aZ,I 0]] (B true):=by
 refine aK Tryz.func25 rfl (by kernel_rfl) rfl fun M0 w0=>?_;simp only [Tryz.ntmps25,Tryz.results25,az];repeat' with_reducible first|apply af|apply ae|apply aj|apply ar|apply aa|refine ah [] ?_|(apply ak;·go_simp)|(apply ab;intro X Y;go_simp;apply Y;clear Y X)
 apply ch [2,3] (fun k=>[(5,I k)]) (fun k=>([] : Hp)) (fun _=>false) (0)
 ·go_simp<;>exact rfl
 ·go_simp
 ·intro k hk;omega
 ·intro k hk;omega
 ·intro HB K;repeat' with_reducible first|apply af|apply ae|apply aW|apply aX|apply ar|apply aY|apply aa|refine ah [] ?_|(apply ak;·go_simp)|(apply ab;intro X Y;go_simp;apply Y;clear Y X)
  apply ch [2,3] (fun k=>[(6,I k)]) (fun k=>([] : Hp)) (fun _=>false) (0)
  ·go_simp<;>exact rfl
  ·go_simp
  ·intro k hk;omega
  ·intro k hk;omega
  ·intro HB K;repeat' with_reducible first|apply af|apply ae|apply aW|apply aq|apply aX|apply aY|apply aa|refine ah [] ?_|(apply ak;·go_simp)|(apply ab;intro X Y;go_simp;apply Y;clear Y X)
   go_simp
theorem Pt (r:Ru) (h:r.ranks.length≤300) : SmallS (st0 r):=by
 refine ⟨by simp [st0];omega,fun l hl=>?_,by simp [st0],fun t ht=>by simp [st0] at ht,by show i64 0;unfold i64;decide⟩;have:=List.eq_of_mem_replicate hl;subst this;exact ⟨by simp,fun c hc=>by simp at hc⟩
theorem Pu (r:Ru) (hl:r.ranks.length≤9223372036854775807) : VC Tryz.prog 7 [ct r] (B true):=by
 have ha:=wK;have gF:=Dk r hl;clear hl;cases hF:sI r
 ·rw [hF] at gF;clear hF;refine aK Tryz.func7 rfl (by kernel_rfl) rfl fun M0 w0=>?_;simp only [Tryz.ntmps7,Tryz.results7,az];repeat' first|(with_reducible first|apply af|apply ae|apply aF|apply aq|apply aj|apply aa|refine ah [] ?_|(apply ao;·go_simp)|(apply ak;·go_simp))|((with_reducible apply ab);intro X Y;go_simp;(first|(with_reducible refine ⟨_,ha,?_⟩)|(refine ⟨_,gF,?_⟩)|skip);apply Y;clear Y X)
  go_simp
 rw [hF] at gF;obtain ⟨h8,bI⟩:=Dl hF;have g1:=Hr r (by omega);have g2:=FL r (by omega) bI;have g4:=Ix r (by omega) bI;by_cases h:(bY r).2=0
 ·have g3:=Pq r (by omega) bI h;have g5:=Pr r (by omega);have g6:=Ht (st0 r) (Pt r (by omega));rw [h] at g2 g4;clear hF h8 bI h;generalize ((bY r).1:Int)=K0 at *;refine aK Tryz.func7 rfl (by kernel_rfl) rfl fun M0 w0=>?_;simp only [Tryz.ntmps7,Tryz.results7,az];repeat' first|(with_reducible first|apply af|apply ae|apply aq|apply aj|apply aa|refine ah [] ?_|apply aI|(apply ak;·go_simp))|((with_reducible first|apply ab|apply aJ);intro X Y;go_simp;(first|(with_reducible refine ⟨_,ha,?_⟩)|(refine ⟨_,gF,?_⟩)|(refine ⟨_,g1,?_⟩)|(refine ⟨_,g2,?_⟩)|(refine ⟨_,g3,?_⟩)|(refine ⟨_,g4,?_⟩)|(refine ⟨_,g5,?_⟩)|(refine ⟨_,g6,?_⟩)|skip);apply Y;clear Y X)|((refine aQ 9 9 [] rfl (by kernel_rfl) ?_);simp only [aA])
  go_simp
 ·have g3:=Pp r (by omega) bI h;have g6:=Ps;clear hF h8 bI;generalize ((bY r).1:Int)=K0 at *;generalize (bY r).2=E at *;refine aK Tryz.func7 rfl (by kernel_rfl) rfl fun M0 w0=>?_;simp only [Tryz.ntmps7,Tryz.results7,az];repeat' first|(with_reducible first|apply af|apply ae|apply aF|apply aq|apply aj|apply aa|refine ah [] ?_|(apply ao;·go_simp)|(apply ak;·go_simp))|((with_reducible apply ab);intro X Y;go_simp;(first|(with_reducible refine ⟨_,ha,?_⟩)|(refine ⟨_,gF,?_⟩)|(refine ⟨_,g1,?_⟩)|(refine ⟨_,g2,?_⟩)|(refine ⟨_,g3,?_⟩)|(refine ⟨_,g4,?_⟩)|(refine ⟨_,g6,?_⟩)|skip);apply Y;clear Y X)
  go_simp
end Go.Proofs.YtoibondihdhnoaaGreatDoor
