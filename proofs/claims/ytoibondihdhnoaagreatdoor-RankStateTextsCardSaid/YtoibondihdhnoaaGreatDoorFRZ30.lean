/- Texts in one: Walks: which rules are right. -/
import Derived.Test.YtoibondihdhnoaaGreatDoorFRZ8
import Derived.Test.YtoibondihdhnoaaGreatDoorFRZ21
import Derived.Test.YtoibondihdhnoaaGreatDoorFRZ20
import Derived.Test.YtoibondihdhnoaaGreatDoorFRZ25
import Derived.Test.YtoibondihdhnoaaGreatDoorFRZ26
import Derived.Test.YtoibondihdhnoaaGreatDoorFRZ29
namespace Go.Proofs.YtoibondihdhnoaaGreatDoor
open Go.RowKit
set_option maxRecDepth 100000
set_option maxHeartbeats 2000000
theorem LP (r:Ru) (s:St) (mv:List Sg) (n1 n2:Bool) (x:Ev) (k:Nat) (hx:x.rank=k) (hk:k < s.q.length) (hq:(qat s.q k).length≤1000000) (h0:i_ (qat s.q k) x.car < 0) :
  VH Tryz.prog 227 (b8 r s mv n1 n2) [.ref 0 0,evA x] [0] (b8 r s mv n1 n2) (I 6):=by
 have g1:=vE (qat s.q k) x.car hq;unfold i_ at h0;generalize ixP (isT (qat s.q k) x.car) 0 (qat s.q k).length=A at *;obtain ⟨kd,tm,rk,car⟩:=x;simp only at hx;subst hx;simp only [evA];refine cZ Tryz.func227 rfl (by kernel_rfl) rfl (fun _=>by kernel_rfl) fun M0 w0 vs=>?_;simp only [Tryz.ntmps227,Tryz.results227,az];unfold b8;repeat' first|(with_reducible first|apply af|apply ae|apply aF|apply aq|apply aa|refine ah [] ?_|apply aI|(apply ao;·go_simp))|((with_reducible first|apply ab|apply aJ);intro X Y;go_simp;(first|(refine ⟨_,⟨g1,rfl⟩,?_⟩)|skip);apply Y;clear Y X)|((refine aQ 10 10 [] rfl (by kernel_rfl) ?_);simp only [aA])
 go_simp
theorem LQ (r:Ru) (s:St) (mv:List Sg) (n1 n2:Bool) (x:Ev) (k:Nat) (hx:x.rank=k) (hk:k < s.q.length) (hq:(qat s.q k).length≤10000) (h0:¬i_ (qat s.q k) x.car < 0) :
  VH Tryz.prog 227 (b8 r s mv n1 n2) [.ref 0 0,evA x] [0] (b8 r (uU s x k) mv n1 n2) (I 0):=by
 have g1:=vE (qat s.q k) x.car (by omega);obtain ⟨i,e,hi,hh⟩:=Kv (l:=qat s.q k) (c:=x.car) (Classical.byContradiction fun hn=>h0 (x_.2 hn));unfold uU;rw [e,Int.toNat_natCast];unfold i_ at e;rw [e] at g1;clear e h0 hh;obtain ⟨kd,tm,rk,car⟩:=x;simp only at hx;subst hx;have hw:=ixs (m:=i) (by omega);obtain ⟨w1,w2,w3,w4,w5,w6⟩:=hw;have eb:i≤(qat s.q k).length:=by omega
 have FB:(i:Int)+1≤((qat s.q k).length:Int):=by omega
 have FC:i+1≤(qat s.q k).length:=hi;have RZ:(i:Int)≤((qat s.q k).length:Int):=by omega
 simp only [evA];refine cZ Tryz.func227 rfl (by kernel_rfl) rfl (fun _=>by kernel_rfl) fun M0 w0 vs=>?_;simp only [Tryz.ntmps227,Tryz.results227,az];unfold b8;repeat' with_reducible first|apply af|apply ae|apply aa|refine ah [] ?_|(apply ab;intro X Y;go_simp;apply Y;clear Y X)
 refine aQ 10 10 [] rfl (by kernel_rfl) ?_;simp only [aA];repeat' first|(with_reducible first|apply af|apply ae|apply aj|apply aa|refine ah [] ?_|apply aI|(apply ak;·go_simp))|((with_reducible first|apply ab|apply aJ);intro X Y;go_simp;(first|(refine ⟨_,⟨g1,rfl⟩,?_⟩)|skip);apply Y;clear Y X)
 refine oJ 15 [0,22,22,23,23,24,24,25,25,26,3,27,27,28] (by kernel_rfl) (by kernel_rfl) (by kernel_rfl) (fun v=>v) xH rfl ⟨rfl,rfl⟩ ?_;simp only [List.take];repeat' with_reducible first|apply aI|(apply aJ;intro X Y;go_simp;apply Y;clear Y X)
 refine ⟨_,_,xG (by exact rfl) (by exact rfl) (by go_simp;exact EL _ _ (by repeat' (first|exact TxO.one _|exact TxO.map _|apply TxO.take|apply TxO.drop|apply TxO.tail)) (by repeat' (first|exact TxO.one _|exact TxO.map _|apply TxO.take|apply TxO.drop|apply TxO.tail)) (by simp;omega)) (by go_simp),?_,?_,?_⟩
 ·simp only [List.forall_mem_cons];go_simp
 ·repeat' with_reducible first|apply aI|(apply aJ;intro X Y;go_simp;apply Y;clear Y X)
  simp only [List.forall_mem_cons];go_simp
 go_simp;refine bM [] 2 ⟨rfl,rfl⟩ ?_;simp only [aA];repeat' with_reducible first|apply aa|(apply ab;intro X Y;go_simp;apply Y;clear Y X)
 apply c_;repeat' with_reducible first|apply af|apply ae|apply aq|apply aa|refine ah [] ?_|(apply ab;intro X Y;go_simp;apply Y;clear Y X)
 go_simp;rw [←mG];congr 1;rw [List.eraseIdx_eq_take_drop_succ,List.map_append,List.map_take,List.map_drop]
def fF (r:Ru) (s:St) (mv:List Sg) (n1:Bool) : Hp:=
 [some (.box [.osl 1,.osl 2,I s.time,.sl 4 (r.ranks.map Rk.av),I r.back,I r.ret,.sl 3 (mv.map Sg.av)]),some (.bag 62 1 false none (cA s.q)),some (.arr 148 3 n1 (s.tk.map Tk.av))]
theorem LR (r:Ru) (s:St) (mv:List Sg) (n1:Bool) (x:Ev) (hn:r.ranks.length≤1000000) (hc:x.car.size≤1000) (h0:¬fst [evE r x,unl (decide (s.time≤x.time)) 9]=0) :
  VH Tryz.prog 128 (fF r s mv n1) [.ref 0 0,evA x] [0] (fF r s [] n1) (I (fst [evE r x,unl (decide (s.time≤x.time)) 9])):=by
 have g1:=BC r x hn hc;have g2:=br (decide (s.time≤x.time)) 9;have g5:VC Tryz.prog 88 [.sl 1 ([evE r x,unl (decide (s.time≤x.time)) 9].map dk)] (I (fst [evE r x,unl (decide (s.time≤x.time)) 9])):=dW _ rfl rfl;generalize fst [evE r x,unl (decide (s.time≤x.time)) 9]=E at *;generalize unl (decide (s.time≤x.time)) 9=A1 at *;generalize evE r x=A2 at *;refine cZ Tryz.func128 rfl (by kernel_rfl) rfl (fun _=>by kernel_rfl) fun M0 w0 vs=>?_;simp only [Tryz.ntmps128,Tryz.results128,az];unfold fF;repeat' with_reducible apply af
 refine ah [] ?_;repeat' with_reducible first|apply af|apply ae|apply aa|(apply ab;intro X Y;go_simp;apply Y;clear Y X)
 refine ah [] ?_;repeat' with_reducible first|apply af|apply ae|apply aa|(apply ab;intro X Y;go_simp;apply Y;clear Y X)
 refine fa (fun p a w R=>⟨_,R.nilCell (bi:=0) (j:=6) (e:=45) (sz:=3) rfl rfl (by decide)⟩) ?_;go_simp;refine hZ 0 6 3 rfl rfl rfl ?_;repeat' first|(with_reducible first|apply af|apply ae|apply aF|apply aq|apply aa|refine ah [] ?_|apply aI|(apply ao;·go_simp))|((with_reducible first|apply ab|apply aJ);intro X Y;go_simp;(first|(with_reducible refine ⟨_,g1,?_⟩)|(with_reducible refine ⟨_,g2,?_⟩)|(refine ⟨_,g5,?_⟩)|skip);apply Y;clear Y X)|((refine aQ 18 18 [] rfl (by kernel_rfl) ?_);simp only [aA])
 go_simp
theorem FD (r:Ru) (s s' S2:St) (mv m' M2:List Sg) (n1 pW rT:Bool) (x:Ev) (e:Int) (hn:r.ranks.length≤1000000) (hc:x.car.size≤1000) (h0:fst [evE r x,unl (decide (s.time≤x.time)) 9]=0) (iF:0≤x.kind∧x.kind≤5)
  (hd:VH Tryz.prog (224+x.kind.toNat) (b8 r s [] n1 true) [.ref 0 0,evA x] [0] (b8 r s' m' pW rT) (I e))
  (gB:e≠0∧S2=s'∧M2=m'∨e=0∧RuOK r∧Inv r (atS s' x.time)∧m'.length+2*gG 0 s'.q≤1000000∧(∃ n,gG 0 s'.q≤n∧hJ r n (atS s' x.time) m'=(S2,M2))) :
  VH Tryz.prog 128 (fF r s mv n1) [.ref 0 0,evA x] [0] (fF r S2 M2 pW) (I e):=by
 have g1:=BC r x hn hc;have g2:=br (decide (s.time≤x.time)) 9;have g5:VC Tryz.prog 88 [.sl 1 ([evE r x,unl (decide (s.time≤x.time)) 9].map dk)] (I (fst [evE r x,unl (decide (s.time≤x.time)) 9])):=dW _ rfl rfl;rw [h0] at g5;clear h0;generalize unl (decide (s.time≤x.time)) 9=A1 at *;generalize evE r x=A2 at *;obtain ⟨kd,tm,rk,car⟩:=x;simp only at iF hd g2 gB;simp only [evA] at g1 hd ⊢;have HR:=Lib.hid gB;clear gB;refine cZ Tryz.func128 rfl (by kernel_rfl) rfl (fun _=>by kernel_rfl) fun M0 w0 vs=>?_;simp only [Tryz.ntmps128,Tryz.results128,az];unfold b8 at hd;unfold fF;repeat' with_reducible apply af
 refine ah [] ?_;repeat' with_reducible first|apply af|apply ae|apply aa|(apply ab;intro X Y;go_simp;apply Y;clear Y X)
 refine ah [] ?_;repeat' with_reducible first|apply af|apply ae|apply aa|(apply ab;intro X Y;go_simp;apply Y;clear Y X)
 refine fa (fun p a w R=>⟨_,R.nilCell (bi:=0) (j:=6) (e:=45) (sz:=3) rfl rfl (by decide)⟩) ?_;go_simp;refine aQ 18 18 [] rfl (by kernel_rfl) ?_;simp only [aA];repeat' first|(with_reducible first|apply af|apply ae|apply aa|apply aI)|((with_reducible apply aJ);intro X Y;go_simp;(first|(with_reducible refine ⟨_,g1,?_⟩)|(with_reducible refine ⟨_,g2,?_⟩)|(refine ⟨_,g5,?_⟩)|skip);apply Y;clear Y X)
 refine ah [] ?_;repeat' with_reducible first|apply af|apply ae|apply aj|apply aa|(apply ak;·go_simp)|(apply ab;intro X Y;go_simp;apply Y;clear Y X)
 refine J1 ⟨[(0,.ref 0 0),(1,.agg [I kd,I tm,I rk,S car]),(3,.vp [I kd,I tm,I rk,S car]),(6,I e)],[some (.box [.osl 1,.osl 2,I s'.time,.sl 4 (r.ranks.map Rk.av),I r.back,I r.ret,.osl 3]),some (.bag 62 1 false none (cA s'.q)),some (.arr 148 3 pW (s'.tk.map Tk.av)),some (.arr 45 3 rT (m'.map Sg.av))]⟩ (fun K hK=>?_) ?_
 ·clear HR;have qb:kd=0∨kd=1∨kd=2∨kd=3∨kd=4∨kd=5:=by omega
  refine JS 7 (by kernel_rfl) (by kernel_rfl) ?_;simp only [aA];rcases qb with rfl|rfl|rfl|rfl|rfl|rfl
  all_goals
   repeat' with_reducible first|apply aI|(apply aJ;intro X Y;go_simp;apply Y;clear Y X)
   refine eo [0,1,2,3] [0] [] [some (.box [.osl 1,.osl 2,I s'.time,.sl 4 (r.ranks.map Rk.av),I r.back,I r.ret,.osl 3]),some (.bag 62 1 false none (cA s'.q)),some (.arr 148 3 pW (s'.tk.map Tk.av)),some (.arr 45 3 rT (m'.map Sg.av))] (I e) rfl (by go_simp) ?_ ?_
   ·unfold dM;go_simp;refine ⟨_,_,_,hd,?_⟩;go_simp;kernel_rfl
   go_simp;refine bM [] 1 ⟨rfl,rfl⟩ ?_;simp only [aA];repeat' with_reducible first|apply aa|(apply ab;intro X Y;go_simp;apply Y;clear Y X)
   apply c_;refine hK _ ?_;go_simp
 ·clear hd;rcases HR.out with ⟨he,rfl,rfl⟩|⟨rfl,hr,hi,hB,⟨n,jq,gC⟩⟩
  ·clear HR;refine hZ 0 6 3 rfl rfl rfl ?_;repeat' with_reducible first|apply af|apply ae|apply aF|apply aq|apply aa|refine ah [] ?_|(apply ao;·go_simp)|(apply ab;intro X Y;go_simp;apply Y;clear Y X)
   go_simp
  ·clear HR;have HI:=Lib.hid hi;have HN:=Lib.hid gC;have HU:=Lib.hid hr;have gn:=B6 r (atS s' tm) m' hn hi.len.symm (by rw [hi.len];exact hr.feed);clear hi gC hr;unfold atS at gn;repeat' with_reducible apply af
   refine ah [] ?_;repeat' with_reducible first|apply af|apply ae|apply aj|apply aa|(apply ak;·go_simp)|(apply ab;intro X Y;go_simp;apply Y;clear Y X)
   refine ah [] ?_;repeat' with_reducible first|apply af|apply ae|apply aa|(apply ab;intro X Y;go_simp;apply Y;clear Y X)
   refine ah [] ?_;repeat' first|(with_reducible first|apply ae|apply ar|apply aa)|((with_reducible apply ab);intro X Y;go_simp;(first|(refine ⟨_,⟨gn,rfl⟩,?_⟩)|skip);apply Y;clear Y X)
   apply rU (α:=St×List Sg) [0] (fun (x:St×List Sg)=>[(7,I (dI r x.1))]) (fun (x:St×List Sg)=>([some (.box [.osl 1,.osl 2,I x.1.time,.sl 4 (r.ranks.map Rk.av),I r.back,I r.ret,.osl 3]),some (.bag 62 1 false none (cA x.1.q)),some (.arr 148 3 pW (x.1.tk.map Tk.av)),some (.arr 45 3 (rT&&decide (x.2.length=m'.length)) (x.2.map Sg.av))] : Hp)) (fun (x:St×List Sg)=>Hid (Inv r x.1)∧m'.length≤x.2.length∧x.2.length+2*gG 0 x.1.q≤1000000∧Hid (∃ n,gG 0 x.1.q≤n∧hJ r n x.1 x.2=(S2,M2))) (fun (x:St×List Sg)=>gG 0 x.1.q) ((⟨s'.q,s'.tk,tm⟩,m')) ⟨HI,Nat.le_refl _,hB,Lib.hid ⟨n,jq,HN.out⟩⟩
   ·(go_simp<;>exact rfl)
   ·go_simp
   rintro ⟨⟨Q,TK,t⟩,m⟩ ⟨fG,Au,xU,HE⟩ K hK;simp only at fG Au xU HE hK ⊢;obtain ⟨n3,o8,rV⟩:=HE.out;by_cases lJ:dI r ⟨Q,TK,t⟩ < 0
   ·have e:(⟨Q,TK,t⟩,m)=(S2,M2):=by
     cases n3 with
     | zero=>exact rV
     | succ n=>rw [hJ,if_pos lJ] at rV;exact rV
    clear hK rV HE o8 xU;injection e with e1 e2
    subst e1;subst e2;generalize dI r ⟨Q,TK,t⟩=R at *;refine hZ 0 6 3 rfl rfl rfl ?_;repeat' with_reducible apply af
    refine ah [] ?_;repeat' with_reducible first|apply af|apply ae|apply aW|apply aX|apply aY|apply aa|(apply ak;·go_simp)|(apply ab;intro X Y;go_simp;apply Y;clear Y X)
    refine ah [] ?_;repeat' with_reducible first|apply ae|apply aq|apply aa|(apply ab;intro X Y;go_simp;apply Y;clear Y X)
    go_simp
   ·obtain ⟨k,ek,hk,hp⟩:=uX lJ;have rW:k < Q.length:=by rw [fG.out.len];exact hk
    obtain ⟨f1,f2,f3⟩:=uW hp;obtain ⟨p1,p2,p3⟩:=HU.out.feedN hk f1;have gg:feedN r k < Q.length:=by rw [fG.out.len];exact p3
    have tC:=Bg HU.out fG.out.len rW f1 f2;have eb:=fG.out.up HU.out rW f1 f2 f3;have dV:=fG.out.fit k rW;have cP:=HU.out.pl k hk;have gu:=Ep r ⟨Q,TK,t⟩ m pW (rT&&decide (m.length=m'.length)) k (feedN r k) rW fG.out.len.symm p1 gg (by omega) f2 (by simp only at dV ⊢;omega) (by omega);have LS:=B6 r (upS r ⟨Q,TK,t⟩ k) (m++upM Q k (feedN r k)) hn (by rw [eb.len]) (by rw [eb.len];exact HU.out.feed);have qv:∃ n,gG 0 (upS r ⟨Q,TK,t⟩ k).q≤n∧hJ r n (upS r ⟨Q,TK,t⟩ k) (m++upM Q k (feedN r k))=(S2,M2):=by
     cases n3 with
     | zero=>simp only at tC o8;omega
     | succ n3=>
      rw [hJ,if_neg lJ,ek,Int.toNat_natCast] at rV;exact ⟨n3,by simp only at tC o8;omega,rV⟩
    have HX:=Lib.hid qv;have LU:=Lib.hid eb;have B7:(m++upM Q k (feedN r k)).length=m.length+2:=by simp [upM]
    have LV:(rT&&decide ((m++upM Q k (feedN r k)).length=m'.length))=false:=by
     rw [B7,decide_eq_false (by omega),Bool.and_false]
    clear rV HE qv eb dV cP o8 lJ fG f1 f2 f3 hp;unfold upS at *;simp only at *;generalize (rT&&decide (m.length=m'.length))=fl at *;generalize upQ Q k (feedN r k)=Q2 at *;generalize m++upM Q k (feedN r k)=M3 at *;rw [ek];unfold b8 at gu;repeat' with_reducible apply af
    refine ah [] ?_;repeat' with_reducible first|apply af|apply ae|apply aj|apply ar|apply aa|(apply ao;·go_simp)|(apply ab;intro X Y;go_simp;apply Y;clear Y X)
    refine ec (bM [] 2 ⟨rfl,rfl⟩ ?_);simp only [aA];repeat' with_reducible first|apply aa|(apply ab;intro X Y;go_simp;apply Y;clear Y X)
    refine eo [0,1,2,3] [0] [] [some (.box [.osl 1,.osl 2,I t,.sl 4 (r.ranks.map Rk.av),I r.back,I r.ret,.osl 3]),some (.bag 62 1 false none (cA Q2)),some (.arr 148 3 pW (TK.map Tk.av)),some (.arr 45 3 false (M3.map Sg.av))] (.tup []) rfl (by go_simp) ?_ ?_
    ·unfold dM;go_simp;refine ⟨_,_,_,gu,?_⟩;go_simp;kernel_rfl
    go_simp;apply c_;repeat' with_reducible first|apply ae|apply aT
    refine ah [] ?_;repeat' first|(with_reducible first|apply ae|apply aa)|((with_reducible apply ab);intro X Y;go_simp;(first|(refine ⟨_,⟨LS,rfl⟩,?_⟩)|skip);apply Y;clear Y X)
    refine hK _ (⟨Q2,TK,t⟩,M3) ⟨LU,by simp only;omega,by simp only;omega,HX⟩ (by simp only;omega) ?_;simp only [LV];go_simp
theorem FE:∀ (q:List (List ByteArray)) (i:Nat),(∀ l∈q,l.length≤12)→gG i q≤q.length*(12*(i+q.length))
 | [],_,_=>by simp [gG]
 | l::q,i,h=>by
  have h1:=FE q (i+1) fun x hx=>h x (List.mem_cons_of_mem _ hx);have h2:=h l (List.mem_cons_self ..);rw [gG,List.length_cons];have h3:i*l.length≤i*12:=Nat.mul_le_mul_left _ h2;have e:(q.length+1)*(12*(i+(q.length+1)))=q.length*(12*(i+1+q.length))+12*(i+1+q.length):=by
   rw [show i+(q.length+1)=i+1+q.length by omega,Nat.add_mul,Nat.one_mul]
  omega
theorem FF {r:Ru} {s:St} (hr:RuOK r) (h:Inv r s) : gG 0 s.q≤500:=by
 have h1:=FE s.q 0 fun l hl=>by
  obtain ⟨k,hk,rfl⟩:=List.getElem_of_mem hl;have:=h.fit k hk;have:=hr.pl k (by rw [←h.len];exact hk);rw [←fo hk];omega
 have h6:s.q.length≤6:=by rw [h.len];exact hr.n6
 have:s.q.length*(12*(0+s.q.length))≤6*(12*(0+6)):=Nat.mul_le_mul h6 (by omega);omega
def doR (r:Ru) (s:St) (x:Ev) (k:Nat) : St×List Sg:=if doE r s x k=0 then (doS r s x k,doM r s x k) else (s,[])
theorem LW (r:Ru) (s:St) (n1:Bool) (x:Ev) (k:Nat) (hr:RuOK r) (hi:Inv r s) (hx:x.rank=k) (hk:k < s.q.length) (iF:0≤x.kind∧x.kind≤5) (ht:0≤x.time∧x.time≤604800) :
  ∃ a b,VH Tryz.prog (224+x.kind.toNat) (b8 r s [] n1 true) [.ref 0 0,evA x] [0] (b8 r (doR r s x k).1 (doR r s x k).2 a b) (I (doE r s x k))∧(doE r s x k≠0→a=n1∧b=true):=by
 have hlen:r.ranks.length=s.q.length:=hi.len.symm;have uZ:nU r s.q.length:=by rw [hi.len];exact hr.feed
 have h6:s.q.length≤6:=by rw [hi.len];exact hr.n6
 have fR:∀ j,j < s.q.length→(qat s.q j).length≤12:=fun j hj=>by
  have:=hi.fit j hj;have:=hr.pl j (by omega);omega
 have tu:=fR k hk;have B8:=hi.tkl;have qg:k < r.ranks.length:=by omega
 unfold doR;by_cases hd:doE r s x k=0
 ·rw [if_pos hd,hd];simp only;unfold doE at hd;unfold doS doM;by_cases k0:x.kind=0
  ·rw [if_pos k0] at hd ⊢;rw [if_neg (by omega),k0];unfold xZ rF;by_cases hf:(rat r.ranks k).feeder = -1
   ·by_cases hT:eR s.tk x.car < 0
    ·rw [if_neg (by omega)];exact ⟨_,_,KR r s [] n1 true x k hx hk hlen (by omega) (fun j hj=>by have:=fR j hj;omega) (by omega) hf hT hd,fun h=>absurd rfl h⟩
    ·obtain ⟨i,e,cK,_⟩:=uV (Classical.byContradiction fun hh=>hT (qf.2 hh));rw [if_pos (by omega),e,Int.toNat_natCast];exact ⟨_,_,KS r s [] n1 true x k hx hk hlen (by omega) (fun j hj=>by have:=fR j hj;omega) (by omega) hf i e cK hd,fun h=>absurd rfl h⟩
   ·obtain ⟨p1,p2,p3⟩:=hr.feedN qg hf;by_cases hT:eR s.tk x.car < 0
    ·rw [if_neg (by omega)];exact ⟨_,_,KT r s [] n1 true x k hx hk hlen (by omega) (fun j hj=>by have:=fR j hj;omega) (by omega) (feedN r k) p1 (by omega) hT hd,fun h=>absurd rfl h⟩
    ·obtain ⟨i,e,cK,_⟩:=uV (Classical.byContradiction fun hh=>hT (qf.2 hh));rw [if_pos (by omega),e,Int.toNat_natCast];exact ⟨_,_,KU r s [] n1 true x k hx hk hlen (by omega) (fun j hj=>by have:=fR j hj;omega) (by omega) (feedN r k) p1 (by omega) i e cK hd,fun h=>absurd rfl h⟩
  rw [if_neg k0] at hd ⊢;by_cases k1:x.kind=1
  ·rw [if_pos k1] at hd ⊢;rw [if_neg (by omega),k1];exact ⟨_,_,Ks r s [] n1 true x k hx hk hlen (by omega) hd,fun h=>absurd rfl h⟩
  rw [if_neg k1] at hd ⊢;by_cases k2:x.kind=2
  ·rw [if_pos k2] at hd ⊢;rw [if_neg (by omega),k2];exact ⟨_,_,KD r s [] n1 true x k hx hk hlen (by have:=hr.bk;omega) (by omega) hd,fun h=>absurd rfl h⟩
  rw [if_neg k2] at hd ⊢;by_cases k3:x.kind=3
  ·rw [if_pos k3] at hd ⊢;rw [if_neg (by omega),k3];unfold xW at hd;exact ⟨_,_,LQ r s [] n1 true x k hx hk (by omega) (fun hh=>by rw [if_pos hh] at hd;cases hd),fun h=>absurd rfl h⟩
  rw [if_neg k3] at hd ⊢;by_cases k4:x.kind=4
  ·rw [if_pos k4] at hd ⊢;rw [if_pos k4,k4];have hf:(rat r.ranks k).feeder≠-1:=fun hh=>by
    unfold oQ at hd;rw [if_pos hh] at hd;cases hd
   obtain ⟨p1,p2,p3⟩:=hr.feedN qg hf;exact ⟨_,_,KL r s [] n1 true x k (feedN r k) hx hk hlen p1 (by omega) (by omega) (by omega) (by simp) hd,fun h=>absurd rfl h⟩
  rw [if_neg k4] at hd ⊢;rw [if_neg k4];have k5:x.kind=5:=by omega
  rw [k5];unfold tj at hd;split at hd
  ·cases hd
  ·rename_i ly;have hT:¬eR s.tk x.car < 0:=fun hh=>ly (.inl hh);obtain ⟨i,e,cK,_⟩:=uV (Classical.byContradiction fun hh=>hT (qf.2 hh));unfold xX at hd ly;rw [e,Int.toNat_natCast] at hd ly;have h0:(aH s.tk i).rank=k:=Classical.byContradiction fun hh=>ly (.inr (by rw [hx];exact hh));have gR:=hi.tkt _ (show aH s.tk i∈s.tk by rw [fe cK];exact List.getElem_mem cK);have:=hi.t0;unfold xY rF;rw [e,Int.toNat_natCast];exact ⟨_,_,KP r s [] n1 true x k i hx hk hlen (by omega) e cK h0 ht (by omega) (by omega) hd,fun h=>absurd rfl h⟩
 ·rw [if_neg hd];simp only;refine ⟨n1,true,?_,fun _=>⟨rfl,rfl⟩⟩;unfold doE at hd ⊢;by_cases k0:x.kind=0
  ·rw [if_pos k0] at hd ⊢;rw [k0];exact KQ r s [] n1 true x k hx hk hlen uZ (by omega) (fun j hj=>by have:=fR j hj;omega) hd
  rw [if_neg k0] at hd ⊢;by_cases k1:x.kind=1
  ·rw [if_pos k1] at hd ⊢;rw [k1];exact Kq r s [] n1 true x k hx hk hlen (by omega) hd
  rw [if_neg k1] at hd ⊢;by_cases k2:x.kind=2
  ·rw [if_pos k2] at hd ⊢;rw [k2];exact Ku r s [] n1 true x k hx hk hlen hd
  rw [if_neg k2] at hd ⊢;by_cases k3:x.kind=3
  ·rw [if_pos k3] at hd ⊢;rw [k3];unfold xW at hd ⊢;by_cases hh:i_ (qat s.q k) x.car < 0
   ·rw [if_pos hh];exact LP r s [] n1 true x k hx hk (by omega) hh
   ·rw [if_neg hh] at hd;exact absurd rfl hd
  rw [if_neg k3] at hd ⊢;by_cases k4:x.kind=4
  ·rw [if_pos k4] at hd ⊢;rw [k4];exact KK r s [] n1 true x k hx hk hlen uZ hd
  rw [if_neg k4] at hd ⊢;have k5:x.kind=5:=by omega
  rw [k5];unfold tj at hd ⊢;by_cases hT:eR s.tk x.car < 0
  ·rw [if_pos (.inl hT)];exact KM r s [] n1 true x k hx (by omega) hT
  ·obtain ⟨i,e,cK,_⟩:=uV (Classical.byContradiction fun hh=>hT (qf.2 hh));unfold xX at hd ⊢;rw [e,Int.toNat_natCast] at hd ⊢;by_cases h0:(aH s.tk i).rank=k
   ·have hc:¬((i:Int) < 0∨(aH s.tk i).rank≠x.rank):=by rw [hx];omega
    rw [if_neg hc] at hd ⊢;have gR:=hi.tkt _ (show aH s.tk i∈s.tk by rw [fe cK];exact List.getElem_mem cK);have:=hi.t0;exact KO r s [] n1 true x k i hx hk hlen (by omega) e cK h0 ht (by omega) hd
   ·rw [if_pos (.inr (by rw [hx];exact h0))];exact KN r s [] n1 true x k i hx (by omega) e cK h0
theorem LX {a b c:Int} (h:fst [a,b]≠0) : fst [a,b,c]=fst [a,b]:=by
 by_cases h1:a=0
 ·subst h1;by_cases h2:b=0
  ·subst h2;exact absurd rfl h
  ·simp [fst,h2]
 ·simp [fst,h1]
def apR (r:Ru) (s:St) (x:Ev) : St×List Sg:=if apE r s x=0 then apU r s x else (s,[])
theorem LY (r:Ru) (s:St) (mv:List Sg) (n1:Bool) (x:Ev) (hr:RuOK r) (hi:Inv r s) (hc:x.car.size≤1000) :
  ∃ a,VH Tryz.prog 128 (fF r s mv n1) [.ref 0 0,evA x] [0] (fF r (apR r s x).1 (apR r s x).2 a) (I (apE r s x)):=by
 have hn:r.ranks.length≤1000000:=by have:=hr.n6;omega
 unfold apR;by_cases h0:fst [evE r x,unl (decide (s.time≤x.time)) 9]=0
 ·have n_:=h0;rw [bU,bU] at n_;have hE:apE r s x=doE r s x x.rank.toNat:=by
   unfold apE;rw [n_.1,n_.2.1];simp only [fst,ne_eq,not_true_eq_false,if_false];split
   ·rfl
   ·rename_i h;exact (Classical.byContradiction h).symm
  have LZ:=yg n_.1;have hx:x.rank=(x.rank.toNat:Int):=by omega
  have hk:x.rank.toNat < s.q.length:=by rw [hi.len];omega
  have ht:=Bi n_.1;have iF:=Bh n_.1;obtain ⟨a,b,hd,yC⟩:=LW r s n1 x x.rank.toNat hr hi hx hk iF ht;rw [hE];by_cases he:doE r s x x.rank.toNat=0
  ·rw [if_pos he];have FG:=hi.doS hr n_.1 (of_decide_eq_true (ew (by decide) n_.2.1)) hx he;unfold doR at hd;rw [if_pos he] at hd;have Au:(doM r s x x.rank.toNat).length≤2:=by
    unfold doM;split
    ·simp [upM]
    ·simp
   have y4:=FF hr FG;exact ⟨a,FD r s (doS r s x x.rank.toNat) (apU r s x).1 mv (doM r s x x.rank.toNat) (apU r s x).2 n1 a b x _ hn hc h0 iF hd
    (.inr ⟨he,hr,FG,by change gG 0 (doS r s x x.rank.toNat).q≤500 at y4;omega,⟨_,Nat.le_refl _,rfl⟩⟩)⟩
  ·rw [if_neg he];unfold doR at hd;rw [if_neg he] at hd;exact ⟨a,FD r s s s mv [] [] n1 a b x _ hn hc h0 iF hd (.inl ⟨he,rfl,rfl⟩)⟩
 ·have hE:apE r s x=fst [evE r x,unl (decide (s.time≤x.time)) 9]:=by
   unfold apE;exact LX h0
  rw [hE,if_neg h0];exact ⟨n1,LR r s mv n1 x hn hc h0⟩
theorem y7 (p:Nat→Bool) (n:Nat) : decide (0≤ixP p 0 n)=cQ p 0 n:=by
 rcases qe p n with ⟨h,hn⟩|⟨k,hk,h,hp,_⟩
 ·rw [h,gI hn];rfl
 ·rw [h,ig hk hp];exact decide_eq_true (by omega)
theorem FH {p p':Nat→Bool} : ∀ {n k:Nat},(∀ j,k≤j→j < k+n→p j=p' j)→ixP p k n=ixP p' k n
 | 0,_,_=>rfl
 | n+1,k,h=>by
  rw [ixP,ixP,h k (Nat.le_refl k) (by omega),FH fun j h1 h2=>h j (by omega) (by omega)]
theorem L0 (f:Nat) (y:Rk) (p:Rk→Bool) (hc:∀ x:Rk,VC Tryz.prog f [.agg [S x.name,I x.places,I x.feeder,B x.called],.vp [S y.name,I y.places,I y.feeder,B y.called]] (B (p x))) (l:List Rk) (hl:l.length≤1000000) :
  VC Tryz.prog 137 [.sl 4 (l.map Rk.av),.fn (.func f) [] [.vp [S y.name,I y.places,I y.feeder,B y.called]]] (I (ixP (fun j=>p (rat l j)) 0 l.length)):=by
 obtain ⟨R,hR⟩ : ∃ R,ixP (fun j=>p (rat l j)) 0 l.length=R:=⟨_,rfl⟩
 rw [hR];have HR:=Lib.hid hR;have HC:=Lib.hid hc;clear hR hc;refine aK Tryz.func137 rfl (by kernel_rfl) rfl fun M0 w0=>?_;simp only [Tryz.ntmps137,Tryz.results137,az];repeat' with_reducible first|apply af|apply ae|apply ar|apply aa|refine ah [] ?_|(apply ab;intro X Y;go_simp;apply Y;clear Y X)
 apply ch [0,1,7] (fun k=>[(8,I k)]) (fun k=>([] : Hp)) (fun j=>p (rat l j)) (l.length)
 ·go_simp<;>exact rfl
 ·go_simp
 ·intro k hk HB HP K hK;obtain ⟨w1,w2,w3,w4,w5,w6⟩:=ixs (m:=k) (by omega);have g:=HC.out (rat l k);have hp:=HP.out;rw [hp] at g;clear hp;repeat' first|(with_reducible first|apply af|apply ae|apply aj|apply ar|apply aT|apply aa|refine ah [] ?_|(apply ao;·go_simp)|(apply ak;·go_simp))|((with_reducible apply ab);intro X Y;go_simp;(first|(refine ⟨_,g,?_⟩)|skip);apply Y;clear Y X)
  refine hK _ ?_;go_simp
 ·intro k hk HB HP K;have g:=HC.out (rat l k);have hp:=HP.out;rw [hp] at g;clear hp;have e:=HR.out;rw [gU hk HB.out HP.out] at e;subst e;repeat' first|(with_reducible first|apply af|apply ae|apply aF|apply aq|apply aj|apply ar|apply b_|apply aa|refine ah [] ?_|(apply ao;·go_simp))|((with_reducible apply ab);intro X Y;go_simp;(first|(refine ⟨_,g,?_⟩)|skip);apply Y;clear Y X)
  go_simp
 ·intro HB K;have e:=HR.out;rw [jb HB.out] at e;subst e;repeat (with_reducible first|apply af|apply ae|apply aW|apply aq|apply aX|apply aY|apply aa|refine ah [] ?_|(apply ak;·go_simp)|(apply ab;intro X Y;go_simp;apply Y;clear Y X))
  go_simp
theorem y8 (f:Nat) (y:Rk) (p:Rk→Bool) (hc:∀ x:Rk,VC Tryz.prog f [.agg [S x.name,I x.places,I x.feeder,B x.called],.vp [S y.name,I y.places,I y.feeder,B y.called]] (B (p x))) (l:List Rk) (i:Nat) (hi:i < l.length) (hl:l.length≤1000000) :
  VC Tryz.prog 96 [.sl 4 ((l.map Rk.av).take i),.fn (.func f) [] [.vp [S y.name,I y.places,I y.feeder,B y.called]]] (B (cQ (fun j=>p (rat l j)) 0 i)):=by
 have g:=L0 f y p hc (l.take i) (by rw [List.length_take];omega);have e:ixP (fun j=>p (rat (l.take i) j)) 0 (l.take i).length=ixP (fun j=>p (rat l j)) 0 i:=by
  rw [List.length_take,Nat.min_eq_left (by omega)];refine FH fun j _ hj=>?_;unfold rat;rw [List.getD_eq_getElem?_getD,List.getElem?_take_of_lt (by omega),List.getD_eq_getElem?_getD]
 rw [e,List.map_take] at g;rw [←y7];generalize ixP (fun j=>p (rat l j)) 0 i=R at *;generalize List.take i (List.map Rk.av l)=T at *;refine aK Tryz.func96 rfl (by kernel_rfl) rfl fun M0 w0=>?_;simp only [Tryz.ntmps96,Tryz.results96,az];repeat' first|(with_reducible first|apply af|apply ae|apply aq|apply aa|refine ah [] ?_)|((with_reducible apply ab);intro X Y;go_simp;(first|(refine ⟨_,g,?_⟩)|skip);apply Y;clear Y X)
 go_simp
theorem FI (x:Rk) (y:Rk) : VC Tryz.prog 97 [.agg [S x.name,I x.places,I x.feeder,B x.called],.vp [S y.name,I y.places,I y.feeder,B y.called]] (B (decide (x.name=y.name))):=by
 refine aK Tryz.func97 rfl (by kernel_rfl) rfl fun M0 w0=>?_;simp only [Tryz.ntmps97,Tryz.results97,az];repeat' with_reducible first|apply af|apply ae|apply aq|apply aa|refine ah [] ?_|(apply ab;intro X Y;go_simp;apply Y;clear Y X)
 go_simp
theorem FJ (x:Rk) (y:Rk) : VC Tryz.prog 98 [.agg [S x.name,I x.places,I x.feeder,B x.called],.vp [S y.name,I y.places,I y.feeder,B y.called]] (B (decide (x.feeder=y.feeder))):=by
 refine aK Tryz.func98 rfl (by kernel_rfl) rfl fun M0 w0=>?_;simp only [Tryz.ntmps98,Tryz.results98,az];repeat' with_reducible first|apply af|apply ae|apply aq|apply aa|refine ah [] ?_|(apply ab;intro X Y;go_simp;apply Y;clear Y X)
 go_simp
theorem FK {E:Nat→Int} : ∀ (n k i:Nat),k≤i→i < k+n→(∀ j,k≤j→j < i→E j=0)→E i≠0→jU E k n=(i,E i)
 | 0,k,i,h1,h2,_,_=>by omega
 | n+1,k,i,h1,h2,hb,hp=>by
  rw [jU];by_cases he:k=i
  ·subst he;rw [if_pos hp]
  ·rw [if_neg (by simp [hb k (Nat.le_refl k) (by omega)])];exact FK n (k+1) i (by omega) (by omega) (fun j h3 h4=>hb j (by omega) h4) hp
theorem y9 {E:Nat→Int} {k n:Nat} (hk:k < n) (hb:∀ j,j < k→(!decide (E j=0))=false) (hp:(!decide (E k=0))=true) : jU E 0 n=(k,E k):=FK n 0 k (Nat.zero_le k) (by omega) (fun j _ h=>by simpa using hb j h) (by simpa using hp)
theorem vF {E:Nat→Int} : ∀ (n k:Nat),(∀ j,j < k+n→(!decide (E j=0))=false)→jU E k n=(0,0)
 | 0,_,_=>rfl
 | n+1,k,h=>by
  rw [jU,if_neg (by simpa using h k (by omega))];exact vF n (k+1) fun j hj=>h j (by omega)
theorem L1 (r:Ru) : VC Tryz.prog 89 [B ((decide (r.back = -1) || inR r.back 0 12)&&inR r.ret 0 3600),I 2] (I (rM r)):=br _ 2
theorem FL (r:Ru) (hn:r.ranks.length≤1000000) (bI:∀ k,k < r.ranks.length→(rat r.ranks k).name.size≤1000) : VC Tryz.prog 36 [ct r] (.tup [I ((bY r).1:Int),I (bY r).2]):=by
 have u1:=br (decide (0 < r.ranks.length)) 10;have u2:=br (decide (r.ranks.length≤6)) 8;have g5:VC Tryz.prog 88 [.sl 1 ([unl (decide (0 < r.ranks.length)) 10,unl (decide (r.ranks.length≤6)) 8].map dk)] (I (fst [unl (decide (0 < r.ranks.length)) 10,unl (decide (r.ranks.length≤6)) 8])):=dW _ rfl rfl;unfold bY;by_cases h0:r.ranks.length=0
 ·rw [if_pos h0];have d1:decide (0 < r.ranks.length)=false:=decide_eq_false (by omega);have d2:decide (r.ranks.length≤6)=true:=decide_eq_true (by omega);rw [d1] at u1 g5;rw [d2] at u2 g5;have e:fst [unl false 10,unl true 8]=10:=rfl;rw [e] at g5;generalize unl false 10=A1 at *;generalize unl true 8=A2 at *;clear d1 d2 e;refine aK Tryz.func36 rfl (by kernel_rfl) rfl fun M0 w0=>?_;simp only [Tryz.ntmps36,Tryz.results36,az];repeat' first|(with_reducible first|apply af|apply ae|apply aF|apply aq|apply aa|refine ah [] ?_|(apply ao;·go_simp))|((with_reducible apply ab);intro X Y;go_simp;(first|(with_reducible refine ⟨_,u1,?_⟩)|(with_reducible refine ⟨_,u2,?_⟩)|(refine ⟨_,g5,?_⟩)|skip);apply Y;clear Y X)
  go_simp
 rw [if_neg h0];by_cases h6:6 < r.ranks.length
 ·rw [if_pos h6];have d1:decide (0 < r.ranks.length)=true:=decide_eq_true (by omega);have d2:decide (r.ranks.length≤6)=false:=decide_eq_false (by omega);rw [d1] at u1 g5;rw [d2] at u2 g5;have e:fst [unl true 10,unl false 8]=8:=rfl;rw [e] at g5;generalize unl true 10=A1 at *;generalize unl false 8=A2 at *;have h7:0 < r.ranks.length:=by omega
  have h8:¬r.ranks.length≤6:=by omega
  have h9:¬(r.ranks.length:Int)≤6:=by omega
  clear d1 d2 e;refine aK Tryz.func36 rfl (by kernel_rfl) rfl fun M0 w0=>?_;simp only [Tryz.ntmps36,Tryz.results36,az];repeat' first|(with_reducible first|apply af|apply ae|apply aF|apply aq|apply aa|refine ah [] ?_|(apply ao;·go_simp))|((with_reducible apply ab);intro X Y;go_simp;(first|(with_reducible refine ⟨_,u1,?_⟩)|(with_reducible refine ⟨_,u2,?_⟩)|(refine ⟨_,g5,?_⟩)|skip);apply Y;clear Y X)
  go_simp
 rw [if_neg h6];have d1:decide (0 < r.ranks.length)=true:=decide_eq_true (by omega);have d2:decide (r.ranks.length≤6)=true:=decide_eq_true (by omega);rw [d1] at u1 g5;rw [d2] at u2 g5;have e:fst [unl true 10,unl true 8]=0:=rfl;rw [e] at g5;generalize unl true 10=A1 at *;generalize unl true 8=A2 at *;have h7:0 < r.ranks.length:=by omega
 have h8:r.ranks.length≤6:=by omega
 have h9:(r.ranks.length:Int)≤6:=by omega
 obtain ⟨R,hR⟩ : ∃ R,(if (jU (rkE r) 0 r.ranks.length).2≠0 then jU (rkE r) 0 r.ranks.length else (0,rM r))=R:=⟨_,rfl⟩
 rw [hR];have HR:=Lib.hid hR;have HM:=Lib.hid bI;have HE:=Lib.hid (L1 r);clear d1 d2 e h0 h6 hR bI;refine aK Tryz.func36 rfl (by kernel_rfl) rfl fun M0 w0=>?_;simp only [Tryz.ntmps36,Tryz.results36,az];repeat' first|(with_reducible first|apply af|apply ae|apply aj|apply ar|apply aa|refine ah [] ?_|(apply ak;·go_simp))|((with_reducible apply ab);intro X Y;go_simp;(first|(with_reducible refine ⟨_,u1,?_⟩)|(with_reducible refine ⟨_,u2,?_⟩)|(refine ⟨_,g5,?_⟩)|skip);apply Y;clear Y X)
 apply ch [1,4,26,27] (fun k=>[(28,I k)]) (fun k=>([] : Hp)) (fun k=>!decide (rkE r k=0)) (r.ranks.length)
 ·go_simp<;>exact rfl
 ·go_simp
 ·intro k hk HB HP K hK;obtain ⟨w1,w2,w3,w4,w5,w6⟩:=ixs (m:=k) (by omega);have cp:k≤r.ranks.length:=by omega
  have nR:(k:Int)≤(r.ranks.length:Int):=by omega
  have L2:IntKind.i64.wrap ((r.ranks.length:Int) - 1)=(r.ranks.length:Int) - 1:=cj (by omega) (by omega);have i1:=rL (rat r.ranks k).name (HM.out k hk);have i2:=y8 97 (rat r.ranks k) _ (fun x=>FI x (rat r.ranks k)) r.ranks k hk hn;have i3:=jT (rat r.ranks k).places 1 12;have i4:=jT (rat r.ranks k).feeder 0 ((r.ranks.length:Int) - 1);have i5:=y8 98 (rat r.ranks k) _ (fun x=>FJ x (rat r.ranks k)) r.ranks k hk hn;have u1:=br (bP (rat r.ranks k).name) 4;have u2:=br (!mT r k) 5;have u3:=br (inR (rat r.ranks k).places 1 12) 2;have u4:=br (!fg r k || inR (rat r.ranks k).feeder 0 ((r.ranks.length:Int) - 1)) 6;have u5:=br (!fg r k || decide ((k:Int) < (rat r.ranks k).feeder)) 9;have u6:=br (!fg r k || !lE r k) 26;have u7:=br (fg r k || !(rat r.ranks k).called) 3;have g7:VC Tryz.prog 88 [.sl 1 ([unl (bP (rat r.ranks k).name) 4,unl (!mT r k) 5,unl (inR (rat r.ranks k).places 1 12) 2,unl (!fg r k || inR (rat r.ranks k).feeder 0 ((r.ranks.length:Int) - 1)) 6,
   unl (!fg r k || decide ((k:Int) < (rat r.ranks k).feeder)) 9,unl (!fg r k || !lE r k) 26,unl (fg r k || !(rat r.ranks k).called) 3].map dk)] (I (rkE r k)):=dW _ rfl rfl
  change VC _ _ _ (B (mT r k)) at i2;change VC _ _ _ (B (lE r k)) at i5;have hp:=HP.out;have he:rkE r k=0:=by simpa using hp
  rw [he] at g7;clear hp he;generalize rkE r k=E at *;generalize bP (rat r.ranks k).name=D1 at *;generalize mT r k=D2 at *;generalize inR (rat r.ranks k).places 1 12=D3 at *;generalize inR (rat r.ranks k).feeder 0 ((r.ranks.length:Int) - 1)=D4 at *;generalize lE r k=D6 at *;generalize unl D1 4=A1 at *;generalize unl (!D2) 5=A2 at *;generalize unl D3 2=A3 at *;unfold fg at *;by_cases hf:(rat r.ranks k).feeder = -1
  ·have ed:(!decide ((rat r.ranks k).feeder = -1))=false:=by simp [hf]
   rw [ed,Bool.not_false,Bool.true_or] at u4 u5 u6;rw [ed,Bool.false_or] at u7;rw [ed,Bool.not_false,Bool.true_or,Bool.true_or,Bool.true_or,Bool.false_or] at g7;generalize unl true 6=A4 at *;generalize unl true 9=A5 at *;generalize unl true 26=A6 at *;generalize unl (!(rat r.ranks k).called) 3=A7 at *;clear ed;rw [hf] at i2;repeat' with_reducible first|apply af|apply ae|apply aj|apply ar|apply aa|refine ah [] ?_|(apply ao;·go_simp)|(apply ab;intro X Y;go_simp;apply Y;clear Y X)
   refine aQ 51 51 [] rfl (by kernel_rfl) ?_;simp only [aA];repeat' first|(with_reducible first|apply af|apply ae|apply aj|apply aT|apply aa|refine ah [] ?_|apply aI|(apply ak;·go_simp))|((with_reducible first|apply ab|apply aJ);intro X Y;go_simp;(first|(with_reducible refine ⟨_,i1,?_⟩)|(refine ⟨_,⟨i2,rfl⟩,?_⟩)|(with_reducible refine ⟨_,i3,?_⟩)|(with_reducible refine ⟨_,u1,?_⟩)|(with_reducible refine ⟨_,u2,?_⟩)|(with_reducible refine ⟨_,u3,?_⟩)|(with_reducible refine ⟨_,u4,?_⟩)|(with_reducible refine ⟨_,u5,?_⟩)|(with_reducible refine ⟨_,u6,?_⟩)|(with_reducible refine ⟨_,u7,?_⟩)|(refine ⟨_,g7,?_⟩)|skip);apply Y;clear Y X)
   refine hK _ ?_;go_simp
  ·have ed:(!decide ((rat r.ranks k).feeder = -1))=true:=by simp [hf]
   rw [ed,Bool.not_true,Bool.false_or] at u4 u5 u6;rw [ed,Bool.true_or] at u7;rw [ed,Bool.not_true,Bool.false_or,Bool.false_or,Bool.false_or,Bool.true_or] at g7;generalize unl D4 6=A4 at *;generalize unl (decide ((k:Int) < (rat r.ranks k).feeder)) 9=A5 at *;generalize unl (!D6) 26=A6 at *;generalize unl true 3=A7 at *;clear ed;repeat' with_reducible first|apply af|apply ae|apply aj|apply ar|apply aa|refine ah [] ?_|(apply ao;·go_simp)|(apply ab;intro X Y;go_simp;apply Y;clear Y X)
   refine aQ 51 51 [] rfl (by kernel_rfl) ?_;simp only [aA];repeat' first|(with_reducible first|apply af|apply ae|apply aj|apply aT|apply aa|refine ah [] ?_|apply aI|(apply ak;·go_simp))|((with_reducible first|apply ab|apply aJ);intro X Y;go_simp;(first|(with_reducible refine ⟨_,i1,?_⟩)|(refine ⟨_,⟨i2,rfl⟩,?_⟩)|(with_reducible refine ⟨_,i3,?_⟩)|(with_reducible refine ⟨_,i4,?_⟩)|(refine ⟨_,⟨i5,rfl⟩,?_⟩)|(with_reducible refine ⟨_,u1,?_⟩)|(with_reducible refine ⟨_,u2,?_⟩)|(with_reducible refine ⟨_,u3,?_⟩)|(with_reducible refine ⟨_,u4,?_⟩)|(with_reducible refine ⟨_,u5,?_⟩)|(with_reducible refine ⟨_,u6,?_⟩)|(with_reducible refine ⟨_,u7,?_⟩)|(refine ⟨_,g7,?_⟩)|skip);apply Y;clear Y X)
   refine hK _ ?_;go_simp
 ·intro k hk HB HP K;obtain ⟨w1,w2,w3,w4,w5,w6⟩:=ixs (m:=k) (by omega);have cp:k≤r.ranks.length:=by omega
  have nR:(k:Int)≤(r.ranks.length:Int):=by omega
  have L2:IntKind.i64.wrap ((r.ranks.length:Int) - 1)=(r.ranks.length:Int) - 1:=cj (by omega) (by omega);have i1:=rL (rat r.ranks k).name (HM.out k hk);have i2:=y8 97 (rat r.ranks k) _ (fun x=>FI x (rat r.ranks k)) r.ranks k hk hn;have i3:=jT (rat r.ranks k).places 1 12;have i4:=jT (rat r.ranks k).feeder 0 ((r.ranks.length:Int) - 1);have i5:=y8 98 (rat r.ranks k) _ (fun x=>FJ x (rat r.ranks k)) r.ranks k hk hn;have u1:=br (bP (rat r.ranks k).name) 4;have u2:=br (!mT r k) 5;have u3:=br (inR (rat r.ranks k).places 1 12) 2;have u4:=br (!fg r k || inR (rat r.ranks k).feeder 0 ((r.ranks.length:Int) - 1)) 6;have u5:=br (!fg r k || decide ((k:Int) < (rat r.ranks k).feeder)) 9;have u6:=br (!fg r k || !lE r k) 26;have u7:=br (fg r k || !(rat r.ranks k).called) 3;have g7:VC Tryz.prog 88 [.sl 1 ([unl (bP (rat r.ranks k).name) 4,unl (!mT r k) 5,unl (inR (rat r.ranks k).places 1 12) 2,unl (!fg r k || inR (rat r.ranks k).feeder 0 ((r.ranks.length:Int) - 1)) 6,
   unl (!fg r k || decide ((k:Int) < (rat r.ranks k).feeder)) 9,unl (!fg r k || !lE r k) 26,unl (fg r k || !(rat r.ranks k).called) 3].map dk)] (I (rkE r k)):=dW _ rfl rfl
  change VC _ _ _ (B (mT r k)) at i2;change VC _ _ _ (B (lE r k)) at i5;have hp:=HP.out;have e:=HR.out;rw [y9 hk HB.out HP.out] at e;have aC:rkE r k≠0:=by simpa using hp
  rw [if_pos aC] at e;subst e;clear hp;generalize rkE r k=E at *;generalize bP (rat r.ranks k).name=D1 at *;generalize mT r k=D2 at *;generalize inR (rat r.ranks k).places 1 12=D3 at *;generalize inR (rat r.ranks k).feeder 0 ((r.ranks.length:Int) - 1)=D4 at *;generalize lE r k=D6 at *;generalize unl D1 4=A1 at *;generalize unl (!D2) 5=A2 at *;generalize unl D3 2=A3 at *;unfold fg at *;by_cases hf:(rat r.ranks k).feeder = -1
  ·have ed:(!decide ((rat r.ranks k).feeder = -1))=false:=by simp [hf]
   rw [ed,Bool.not_false,Bool.true_or] at u4 u5 u6;rw [ed,Bool.false_or] at u7;rw [ed,Bool.not_false,Bool.true_or,Bool.true_or,Bool.true_or,Bool.false_or] at g7;generalize unl true 6=A4 at *;generalize unl true 9=A5 at *;generalize unl true 26=A6 at *;generalize unl (!(rat r.ranks k).called) 3=A7 at *;clear ed;rw [hf] at i2;repeat' with_reducible first|apply af|apply ae|apply aj|apply ar|apply aa|refine ah [] ?_|(apply ao;·go_simp)|(apply ab;intro X Y;go_simp;apply Y;clear Y X)
   refine aQ 51 51 [] rfl (by kernel_rfl) ?_;simp only [aA];repeat' first|(with_reducible first|apply af|apply ae|apply aF|apply aq|apply b_|apply aa|refine ah [] ?_|apply aI|(apply ao;·go_simp))|((with_reducible first|apply ab|apply aJ);intro X Y;go_simp;(first|(with_reducible refine ⟨_,i1,?_⟩)|(refine ⟨_,⟨i2,rfl⟩,?_⟩)|(with_reducible refine ⟨_,i3,?_⟩)|(with_reducible refine ⟨_,u1,?_⟩)|(with_reducible refine ⟨_,u2,?_⟩)|(with_reducible refine ⟨_,u3,?_⟩)|(with_reducible refine ⟨_,u4,?_⟩)|(with_reducible refine ⟨_,u5,?_⟩)|(with_reducible refine ⟨_,u6,?_⟩)|(with_reducible refine ⟨_,u7,?_⟩)|(refine ⟨_,g7,?_⟩)|skip);apply Y;clear Y X)
   go_simp
  ·have ed:(!decide ((rat r.ranks k).feeder = -1))=true:=by simp [hf]
   rw [ed,Bool.not_true,Bool.false_or] at u4 u5 u6;rw [ed,Bool.true_or] at u7;rw [ed,Bool.not_true,Bool.false_or,Bool.false_or,Bool.false_or,Bool.true_or] at g7;generalize unl D4 6=A4 at *;generalize unl (decide ((k:Int) < (rat r.ranks k).feeder)) 9=A5 at *;generalize unl (!D6) 26=A6 at *;generalize unl true 3=A7 at *;clear ed;repeat' with_reducible first|apply af|apply ae|apply aj|apply ar|apply aa|refine ah [] ?_|(apply ao;·go_simp)|(apply ab;intro X Y;go_simp;apply Y;clear Y X)
   refine aQ 51 51 [] rfl (by kernel_rfl) ?_;simp only [aA];repeat' first|(with_reducible first|apply af|apply ae|apply aF|apply aq|apply b_|apply aa|refine ah [] ?_|apply aI|(apply ao;·go_simp))|((with_reducible first|apply ab|apply aJ);intro X Y;go_simp;(first|(with_reducible refine ⟨_,i1,?_⟩)|(refine ⟨_,⟨i2,rfl⟩,?_⟩)|(with_reducible refine ⟨_,i3,?_⟩)|(with_reducible refine ⟨_,i4,?_⟩)|(refine ⟨_,⟨i5,rfl⟩,?_⟩)|(with_reducible refine ⟨_,u1,?_⟩)|(with_reducible refine ⟨_,u2,?_⟩)|(with_reducible refine ⟨_,u3,?_⟩)|(with_reducible refine ⟨_,u4,?_⟩)|(with_reducible refine ⟨_,u5,?_⟩)|(with_reducible refine ⟨_,u6,?_⟩)|(with_reducible refine ⟨_,u7,?_⟩)|(refine ⟨_,g7,?_⟩)|skip);apply Y;clear Y X)
   go_simp
 ·intro HB K;have e:=HR.out;rw [vF r.ranks.length 0 (fun j hj=>HB.out j (by omega)),if_neg (by simp)] at e;subst e;have ge:=HE.out;generalize rM r=E at *;have i1:=jT r.back 0 12;have i2:=jT r.ret 0 3600;generalize inR r.back 0 12=D1 at *;generalize inR r.ret 0 3600=D2 at *;by_cases hb:r.back = -1
  ·rw [decide_eq_true hb,Bool.true_or,Bool.true_and] at ge;repeat' with_reducible first|apply af|apply ae|apply aW|apply aq|apply aX|apply aY|apply aa|refine ah [] ?_|(apply ak;·go_simp)|(apply ab;intro X Y;go_simp;(first|(refine ⟨_,i2,?_⟩)|(refine ⟨_,ge,?_⟩)|skip);apply Y;clear Y X)
   all_goals go_simp
  ·rw [decide_eq_false hb,Bool.false_or] at ge;cases D1
   ·rw [Bool.false_and] at ge;repeat' with_reducible first|apply af|apply ae|apply aW|apply aq|apply aX|apply aY|apply aa|refine ah [] ?_|(apply ak;·go_simp)|(apply ab;intro X Y;go_simp;(first|(refine ⟨_,i1,?_⟩)|(refine ⟨_,ge,?_⟩)|skip);apply Y;clear Y X)
    all_goals go_simp
   ·rw [Bool.true_and] at ge;repeat' with_reducible first|apply af|apply ae|apply aW|apply aq|apply aX|apply aY|apply aa|refine ah [] ?_|(apply ak;·go_simp)|(apply ab;intro X Y;go_simp;(first|(refine ⟨_,i1,?_⟩)|(refine ⟨_,i2,?_⟩)|(refine ⟨_,ge,?_⟩)|skip);apply Y;clear Y X)
    all_goals go_simp
theorem nc (r:Ru) (hn:r.ranks.length≤1000000) (bI:∀ k,k < r.ranks.length→(rat r.ranks k).name.size≤1000) : VC Tryz.prog 99 [ct r] (I (bY r).2):=by
 have g:=FL r hn bI;generalize (bY r).2=E at *;generalize ((bY r).1:Int)=K0 at *;refine aK Tryz.func99 rfl (by kernel_rfl) rfl fun M0 w0=>?_;simp only [Tryz.ntmps99,Tryz.results99,az];repeat' first|(with_reducible first|apply af|apply ae|apply aq|apply aa|refine ah [] ?_)|((with_reducible apply ab);intro X Y;go_simp;(first|(refine ⟨_,g,?_⟩)|skip);apply Y;clear Y X)
 go_simp
def mg (r:Ru) (s:St) (mv:List Sg) (n1 n2:Bool) : Hp:=
 [some (.bag 62 1 false none (cA s.q)),some (.box [.osl 0,.osl 2,I s.time,.sl 4 (r.ranks.map Rk.av),I r.back,I r.ret,.osl 3]),some (.arr 148 3 n1 (s.tk.map Tk.av)),some (.arr 45 3 n2 (mv.map Sg.av))]
theorem FM (n:Nat) : cA (List.replicate n [])=List.replicate n []:=by simp [cA]
theorem y_ (r:Ru) (hn:r.ranks.length≤1000000) : VH Tryz.prog 100 [] [ct r] [] (mg r (st0 r) [] true true) (.ref 1 0):=by
 refine cZ Tryz.func100 rfl (by kernel_rfl) rfl (fun _=>by kernel_rfl) fun M0 w0 vs=>?_;simp only [Tryz.ntmps100,Tryz.results100,az];unfold mg st0;simp only [FM];repeat' with_reducible first|apply af|apply ae|apply aa|refine ah [] ?_|(apply ab;intro X Y;go_simp;apply Y;clear Y X)
 refine Kg 6 [10] [⟨4,7,62,[.slice none 0 0],r.ranks.length,false⟩] 5 8 [0] (.agg [.osl 0,aZ,I 0]) (by kernel_rfl) ?_ ?_ (by kernel_rfl) (by kernel_rfl) (by kernel_rfl) (by go_simp) (by go_simp) ?_
 ·intro hh E o ho hE;simp only [List.getElem?_cons_succ,List.getElem?_cons_zero,Option.some.injEq] at ho;subst ho;have e1:=hE 0 (by simp) _ rfl;simp only [Mc.av,List.length_nil,Bool.false_eq_true,if_false,Nat.zero_add] at e1;simp [fN,go_sem,e1]
 ·intro j hj hn;simp at hj hn;omega
 simp only [aA];repeat (first|(refine vf rfl ?_)|((with_reducible refine vg rfl fun X Y=>?_);go_simp;refine Y _ (by go_simp) ?_;clear Y X)|(with_reducible apply vh))
 refine ⟨by simp only [xO,mcK,List.getElem?_cons_succ,List.getElem?_cons_zero];go_simp;omega,?_⟩;simp only [mcS,mcE,Mc.ob,Mc.av,List.cons_append,List.nil_append,Bool.false_eq_true,if_false,Nat.zero_add,List.length_cons,List.length_nil];repeat ((with_reducible refine ab fun X Y=>?_);go_simp;refine Y _ ?_;clear Y X)
 apply aa;apply ae;refine fa (fun p a w R=>⟨_,R.toBag (id:=0) (sz:=1) rfl (by decide) (by kernel_rfl)⟩) ?_;go_simp;refine fa (fun p a w R=>⟨_,R.nilCell (bi:=1) (j:=1) (e:=148) (sz:=3) rfl rfl (by decide)⟩) ?_;go_simp;refine fa (fun p a w R=>⟨_,R.nilCell (bi:=1) (j:=6) (e:=45) (sz:=3) rfl rfl (by decide)⟩) ?_;go_simp;repeat' with_reducible apply aq
 go_simp
theorem L3 (r:Ru) (s:St) (mv:List Sg) (a:Bool) (out:List Sg) (n:Bool) (x:Ev) (i:Int) (hm:x.kind=4→0 < mv.length) (hl:out.length+mv.length+1≤1000000000) :
  VH Tryz.prog 94 (fF r s mv a++[some (.box [.osl 4]),some (.arr 45 3 n (out.map Sg.av))]) [.ref 0 0,I i,evA x,.ref 3 0] [0,3] (fF r s mv a++[some (.box [.osl 4]),some (.arr 45 3 false ((out++lz x++mv).map Sg.av))]) (.tup []):=by
 obtain ⟨kd,tm,rk,car⟩:=x;simp only at hm;unfold lz;simp only;simp only [evA];have FN:out.length≤999999999:=by omega
 have l5:out.length+mv.length≤1000000000:=by omega
 have gE:out.length+1+mv.length≤1000000000:=by omega
 have R3:out.length+(1+mv.length)≤1000000000:=by omega
 have R4:out.length+1≤1000000000:=by omega
 by_cases h4:kd=4
 ·subst h4;have R5:=hm rfl;rw [if_pos rfl,List.append_nil];clear hm;refine cZ Tryz.func94 rfl (by kernel_rfl) rfl (fun _=>by kernel_rfl) fun M0 w0 vs=>?_;simp only [Tryz.ntmps94,Tryz.results94,az];unfold fF;simp only [List.cons_append,List.nil_append];repeat' with_reducible first|apply af|apply ae|apply aj|apply ar|apply aT|apply aa|refine ah [] ?_|(apply ao;·go_simp)|(apply ab;intro X Y;go_simp;apply Y;clear Y X)
  refine qc 5 [36] 4 [] (by kernel_rfl) (by kernel_rfl) (by kernel_rfl) (by kernel_rfl) rfl ⟨rfl,rfl⟩ rfl ?_;simp only [aA];repeat' with_reducible first|apply aI|(apply aJ;intro X Y;go_simp;apply Y;clear Y X)
  refine ⟨_,by go_simp,by go_simp;exact rfl,?_,?_⟩
  ·intro t ht;simp at ht
  go_simp;repeat' with_reducible first|apply aa|(apply ab;intro X Y;go_simp;apply Y;clear Y X)
  go_simp
 ·rw [if_neg h4];by_cases h5:kd=5
  ·subst h5;rw [if_pos rfl];clear hm;refine cZ Tryz.func94 rfl (by kernel_rfl) rfl (fun _=>by kernel_rfl) fun M0 w0 vs=>?_;simp only [Tryz.ntmps94,Tryz.results94,az];unfold fF;simp only [List.cons_append,List.nil_append];repeat' with_reducible first|apply af|apply ae|apply ar|apply aT|apply aa|refine ah [] ?_|(apply ao;·go_simp)|(apply ak;·go_simp)|(apply ab;intro X Y;go_simp;apply Y;clear Y X)
   refine qc 5 [36] 4 [] (by kernel_rfl) (by kernel_rfl) (by kernel_rfl) (by kernel_rfl) rfl ⟨rfl,rfl⟩ rfl ?_;simp only [aA];repeat' with_reducible first|apply aI|(apply aJ;intro X Y;go_simp;apply Y;clear Y X)
   refine ⟨_,by go_simp,by go_simp;exact rfl,?_,?_⟩
   ·intro t ht;simp at ht
   go_simp;repeat' with_reducible first|apply aa|(apply ab;intro X Y;go_simp;apply Y;clear Y X)
   go_simp
  ·rw [if_neg h5];clear hm;refine cZ Tryz.func94 rfl (by kernel_rfl) rfl (fun _=>by kernel_rfl) fun M0 w0 vs=>?_;simp only [Tryz.ntmps94,Tryz.results94,az];unfold fF;simp only [List.cons_append,List.nil_append];repeat' with_reducible first|apply af|apply ae|apply ar|apply aT|apply aa|refine ah [] ?_|(apply ak;·go_simp)|(apply ab;intro X Y;go_simp;apply Y;clear Y X)
   refine qc 5 [36] 4 [] (by kernel_rfl) (by kernel_rfl) (by kernel_rfl) (by kernel_rfl) rfl ⟨rfl,rfl⟩ rfl ?_;simp only [aA];repeat' with_reducible first|apply aI|(apply aJ;intro X Y;go_simp;apply Y;clear Y X)
   refine ⟨_,by go_simp,by go_simp;exact rfl,?_,?_⟩
   ·intro t ht;simp at ht
   go_simp;repeat' with_reducible first|apply aa|(apply ab;intro X Y;go_simp;apply Y;clear Y X)
   go_simp
abbrev T3:Type:=St×List Sg×Bool
def FO (r:Ru) (t:T3) (x:Ev) (a:Bool) : Prop:=VH Tryz.prog 128 (fF r t.1 t.2.1 t.2.2) [.ref 0 0,evA x] [0] (fF r (apR r t.1 x).1 (apR r t.1 x).2 a) (I (apE r t.1 x))
open Classical in
noncomputable def apFl (r:Ru) (t:T3) (x:Ev) : Bool:=if h:∃ a,FO r t x a then Classical.choose h else false
noncomputable def stepT (r:Ru) (t:T3) (x:Ev) : T3:=((apR r t.1 x).1,(apR r t.1 x).2,apFl r t x)
abbrev o9 (r:Ru) (t:T3) : Hp:=fF r t.1 t.2.1 t.2.2
def t0 (r:Ru) : T3:=(st0 r,[],true)
theorem B9 (r:Ru) (t:T3) (x:Ev) (hr:RuOK r) (hi:Inv r t.1) (hc:x.car.size≤1000) : VH Tryz.prog 128 (o9 r t) [.ref 0 0,evA x] [0] (o9 r (stepT r t x)) (I (apE r t.1 x)):=by
 have h:∃ a,FO r t x a:=LY r t.1 t.2.1 t.2.2 x hr hi hc;have e:apFl r t x=Classical.choose h:=dif_pos h;have:=Classical.choose_spec h;rw [←e] at this;exact this
def eY (r:Ru) (l:List Ev) : Int:=fst [(bY r).2,unl (decide (l.length≤200)) 8]
theorem FP {r:Ru} : ∀ (n:Nat) (s:St) (m:List Sg),m.length≤(hJ r n s m).2.length∧(hJ r n s m).2.length≤m.length+2*n
 | 0,_,m=>⟨Nat.le_refl _,by rw [hJ];simp only;omega⟩
 | n+1,s,m=>by
  rw [hJ];split
  ·exact ⟨Nat.le_refl _,by simp only;omega⟩
  ·have:=FP (r:=r) n (upS r s (dI r s).toNat) (m++upM s.q (dI r s).toNat (feedN r (dI r s).toNat));rw [List.length_append] at this;have e:(upM s.q (dI r s).toNat (feedN r (dI r s).toNat)).length=2:=rfl;omega
theorem B_ {r:Ru} {s:St} (hr:RuOK r) (hi:Inv r s) {x:Ev} (h:apE r s x=0) : (apU r s x).2.length≤1002∧(x.kind=4→0 < (apU r s x).2.length):=by
 unfold apE at h;rw [bU,bU,bU] at h;have LZ:=yg h.1;have hd:=hi.doS hr h.1 (of_decide_eq_true (ew (by decide) h.2.1)) (show x.rank=(x.rank.toNat:Int) by omega) h.2.2.1;have hh:=FF hr hd;have hl:=FP (r:=r) (gG 0 (doS r s x x.rank.toNat).q) (atS (doS r s x x.rank.toNat) x.time) (doM r s x x.rank.toNat);change gG 0 (doS r s x x.rank.toNat).q≤500 at hh;unfold apU;have hm:(doM r s x x.rank.toNat).length≤2:=by
  unfold doM;split
  ·simp [upM]
  ·simp
 refine ⟨by omega,fun h4=>?_⟩;have e:(doM r s x x.rank.toNat).length=2:=by
  unfold doM;rw [if_pos h4];rfl
 omega
theorem L4 (r:Ru) (t:T3) (x:Ev) (i:Int) : VH Tryz.prog 86 (o9 r t) [.ref 0 0,I i,evA x] [0] (o9 r t) (.tup []):=by
 refine cZ Tryz.func86 rfl (by kernel_rfl) rfl (fun _=>by kernel_rfl) fun M0 w0 vs=>?_;simp only [Tryz.ntmps86,Tryz.results86,az];unfold o9 fF;repeat' with_reducible first|apply aa|refine ah [] ?_|(apply ab;intro X Y;go_simp;apply Y;clear Y X)
 go_simp
noncomputable def runT0 (r:Ru) : Nat→List Ev→T3×(Unit)→T3×(Unit)
 | _,[],z=>z
 | k,x::l,z=>if apE r z.1.1 x≠0 then (stepT r z.1 x,z.2) else runT0 r (k+1) l (stepT r z.1 x,())
def qw:AV:=.lit (.func (.func 86) #[] #[])
theorem L5 (r:Ru) (l:List Ev) (hn:r.ranks.length≤1000000) (bI:∀ k,k < r.ranks.length→(rat r.ranks k).name.size≤1000) (h0:¬eY r l=0) :
  VH Tryz.prog 85 [] [ct r,dD l,qw] [] [] (.tup [.lit (.pointer none),I 0,I (eY r l)]):=by
 have g1:=nc r hn bI;have g2:=br (decide (l.length≤200)) 8;have g3:VC Tryz.prog 88 [.sl 1 ([(bY r).2,unl (decide (l.length≤200)) 8].map dk)] (I (eY r l)):=dW _ rfl rfl;have ed:decide ((l.length:Int)≤200)=decide (l.length≤200):=by
  by_cases h:l.length≤200
  ·rw [decide_eq_true h,decide_eq_true (by omega)]
  ·rw [decide_eq_false h,decide_eq_false (by omega)]
 rw [←ed] at g2 g3;generalize eY r l=E at *;generalize (bY r).2=A1 at *;generalize unl (decide ((l.length:Int)≤200)) 8=A2 at *;clear ed;unfold qw;refine cZ Tryz.func85 rfl (by kernel_rfl) rfl (fun _=>by kernel_rfl) fun M0 w0 vs=>?_;simp only [Tryz.ntmps85,Tryz.results85,az];repeat' first|(with_reducible first|apply af|apply ae|apply aF|apply aq|apply aa|refine ah [] ?_|(apply ao;·go_simp))|((with_reducible apply ab);intro X Y;go_simp;(first|(with_reducible refine ⟨_,g1,?_⟩)|(with_reducible refine ⟨_,g2,?_⟩)|(refine ⟨_,g3,?_⟩)|skip);apply Y;clear Y X)
 go_simp
theorem FQ (r:Ru) (l:List Ev) (H:Hp) (V:AV) (bI:∀ k,k < r.ranks.length→(rat r.ranks k).name.size≤1000) (hr:RuOK r) (hl:l.length≤200) (hc:∀ x∈l,x.car.size≤1000) (h0:eY r l=0) (z:T3×(Unit)) (hz:runT0 r 0 l (t0 r,())=z)
  (ie:(goP r 0 l (st0 r)).2.2≠0∧H=[]∧V = .tup [.lit (.pointer none),I ((goP r 0 l (st0 r)).2.1:Int),I (goP r 0 l (st0 r)).2.2]∨(goP r 0 l (st0 r)).2.2=0∧H=[some (.bag 62 1 false none (cA z.1.1.q)),some (.box [.osl 0,.osl 2,I z.1.1.time,.sl 4 (r.ranks.map Rk.av),I r.back,I r.ret,.sl 3 (z.1.2.1.map Sg.av)]),some (.arr 148 3 z.1.2.2 (z.1.1.tk.map Tk.av))]∧V = .tup [.ref 1 0,I 0,I 0]) :
  VH Tryz.prog 85 [] [ct r,dD l,qw] [] H V:=by
 have hn:r.ranks.length≤1000000:=by have:=hr.n6;omega
 have g1:=nc r hn bI;have g2:=br (decide (l.length≤200)) 8;have g3:VC Tryz.prog 88 [.sl 1 ([(bY r).2,unl (decide (l.length≤200)) 8].map dk)] (I (eY r l)):=dW _ rfl rfl;have ed:decide ((l.length:Int)≤200)=decide (l.length≤200):=by rw [decide_eq_true hl,decide_eq_true (by omega)]
 rw [←ed] at g2 g3;rw [h0] at g3;generalize (bY r).2=A1 at *;generalize unl (decide ((l.length:Int)≤200)) 8=A2 at *;have ge:=y_ r hn;have HF:=Lib.hid ie;have HR:=Lib.hid hr;have HC:=Lib.hid hc;have HZ:=Lib.hid hz;clear ed h0 ie hr bI hc hn hz;unfold qw;refine cZ Tryz.func85 rfl (by kernel_rfl) rfl (fun _=>by kernel_rfl) fun M0 w0 vs=>?_;simp only [Tryz.ntmps85,Tryz.results85,az];repeat' with_reducible apply af
 refine ah [] ?_;repeat' with_reducible first|apply af|apply ae|apply aa|(apply ab;intro X Y;go_simp;apply Y;clear Y X)
 refine ah [] ?_;repeat' first|(with_reducible first|apply af|apply ae|apply aa)|((with_reducible apply ab);intro X Y;go_simp;(first|(with_reducible refine ⟨_,g1,?_⟩)|(with_reducible refine ⟨_,g2,?_⟩)|(refine ⟨_,g3,?_⟩)|skip);apply Y;clear Y X)
 refine ah [] ?_;repeat' with_reducible first|apply af|apply ae|apply aj|apply aa|(apply ak;·go_simp)|(apply ab;intro X Y;go_simp;apply Y;clear Y X)
 refine ec (bM [] 1 ⟨rfl,rfl⟩ ?_);simp only [aA];repeat' with_reducible first|apply aa|(apply ab;intro X Y;go_simp;apply Y;clear Y X)
 refine eo [] [] [] (mg r (st0 r) [] true true) (.ref 1 0) rfl (by go_simp) ?_ ?_
 ·unfold dM;go_simp;refine ⟨_,_,⟨_,ge⟩,?_⟩;unfold mg;go_simp;kernel_rfl
 unfold mg;go_simp;refine bM [] 1 ⟨rfl,rfl⟩ ?_;simp only [aA];repeat' with_reducible first|apply aa|(apply ab;intro X Y;go_simp;apply Y;clear Y X)
 apply c_;refine hZ 1 6 3 rfl rfl rfl ?_;repeat' with_reducible apply af
 refine ah [] ?_;repeat' with_reducible first|apply ae|apply ar|apply aa|(apply ab;intro X Y;go_simp;apply Y;clear Y X)
 apply rU (α:=Nat×T3×(Unit)) [2,10,27,28] (fun (x:Nat×T3×(Unit))=>[(29,I (x.1:Int))]) (fun (x:Nat×T3×(Unit))=>([some (.bag 62 1 false none (cA x.2.1.1.q)),some (.box [.osl 0,.osl 2,I x.2.1.1.time,.sl 4 (r.ranks.map Rk.av),I r.back,I r.ret,.sl 3 (x.2.1.2.1.map Sg.av)]),some (.arr 148 3 x.2.1.2.2 (x.2.1.1.tk.map Tk.av))] : Hp)) (fun (x:Nat×T3×(Unit))=>Hid (Inv r x.2.1.1∧goP r x.1 (l.drop x.1) x.2.1.1=goP r 0 l (st0 r)∧runT0 r x.1 (l.drop x.1) x.2=z)∧x.1≤l.length∧Hid (True)) (fun (x:Nat×T3×(Unit))=>l.length - x.1) ((0,(st0 r,([] : List Sg),true),())) ⟨Lib.hid ⟨Inv.st0 HR.out,rfl,HZ.out⟩,Nat.zero_le _,Lib.hid (trivial)⟩
 ·(go_simp<;>exact rfl)
 ·go_simp
 rintro ⟨k,⟨s,m,a⟩,y⟩ ⟨HI,hk,HY⟩ K hK;simp only at HI hk hK HY ⊢;by_cases bJ:k < l.length
 ·obtain ⟨w1,w2,w3,w4,w5,w6⟩:=ixs (m:=k) (by omega);have el:l.drop k=aO l k::l.drop (k+1):=by rw [rX bJ,←List.drop_eq_getElem_cons bJ]
  have wa:=B9 r (s,m,a) (aO l k) HR.out HI.out.1 (HC.out _ (by rw [rX bJ];exact List.getElem_mem bJ));obtain ⟨T2,gr⟩ : ∃ T2,stepT r (s,m,a) (aO l k)=T2:=⟨_,rfl⟩
  rw [gr] at wa;obtain ⟨s2,m2,a2⟩:=T2;have kY:apE r s (aO l k)=0→(apU r s (aO l k)).1=s2∧(apU r s (aO l k)).2=m2:=fun h=>by
   have e1:=congrArg (fun t:T3=>t.1) gr;have e2:=congrArg (fun t:T3=>t.2.1) gr;simp only [stepT,apR,if_pos h] at e1 e2;exact ⟨e1,e2⟩
  have hE:goP r k (l.drop k) s=if apE r s (aO l k)≠0 then (s,k,apE r s (aO l k)) else goP r (k+1) (l.drop (k+1)) s2:=by
   rw [el,goP];by_cases h:apE r s (aO l k)=0
   ·rw [if_neg (by simp [h]),if_neg (by simp [h]),(kY h).1]
   ·rw [if_pos h,if_pos h]
  have hU:runT0 r k (l.drop k) ((s,m,a),y)=if apE r s (aO l k)≠0 then ((s2,m2,a2),y) else runT0 r (k+1) (l.drop (k+1)) ((s2,m2,a2),()):=by rw [el,runT0,gr]
  have qx:apE r s (aO l k)=0→Inv r s2:=fun h=>by
   rw [←(kY h).1];exact (HI.out.1.ap HR.out h).1
  have h1:=HI.out.2.1;have h2:=HI.out.2.2;rw [hE] at h1;rw [hU] at h2;have wt:=L4 r (s2,m2,a2) (aO l k) (k:Int);clear gr HI hE hU el kY;unfold o9 fF at wa;simp only at wa;unfold o9 fF at wt;have H1:=Lib.hid h1;have H2:=Lib.hid h2;have fG:=Lib.hid qx;clear h1 h2 qx;have WT:=Lib.hid wt;clear wt;generalize apE r s (aO l k)=E at *;repeat' with_reducible apply af
  refine ah [] ?_;repeat' with_reducible first|apply af|apply ae|apply aj|apply ar|apply aa|(apply ao;·go_simp)|(apply ab;intro X Y;go_simp;apply Y;clear Y X)
  refine ah [] ?_;repeat' with_reducible first|apply af|apply ae|apply aa|(apply ab;intro X Y;go_simp;apply Y;clear Y X)
  refine ec (bM [] 2 ⟨rfl,rfl⟩ ?_);simp only [aA];repeat' with_reducible first|apply aa|(apply ab;intro X Y;go_simp;apply Y;clear Y X)
  refine eo [1,0,2] [1] [] [some (.box [.osl 1,.osl 2,I s2.time,.sl 4 (r.ranks.map Rk.av),I r.back,I r.ret,.sl 3 (m2.map Sg.av)]),some (.bag 62 1 false none (cA s2.q)),some (.arr 148 3 a2 (s2.tk.map Tk.av))] (I E) rfl (by go_simp) ?_ ?_
  ·unfold dM;go_simp;refine ⟨_,_,_,wa,?_⟩;go_simp;kernel_rfl
  go_simp;refine bM [] 1 ⟨rfl,rfl⟩ ?_;simp only [aA];repeat' with_reducible first|apply aa|(apply ab;intro X Y;go_simp;apply Y;clear Y X)
  apply c_;repeat' with_reducible first|apply af|apply ae
  by_cases he:E=0
  ·subst he;have h1:=H1.out;have h2:=H2.out;rw [if_neg (by simp)] at h1 h2;have eb:=fG.out rfl;have wt:=WT.out;clear H1 fG WT H2 HY;have H1:=Lib.hid h1;have H2:=Lib.hid h2;have fG:=Lib.hid eb;clear h1 h2 eb;refine ah [] ?_;repeat' with_reducible first|apply ae|apply aj|apply aa|(apply ak;·go_simp)|(apply ab;intro X Y;go_simp;apply Y;clear Y X)
   refine ec (bM [] 4 ⟨rfl,rfl⟩ ?_);simp only [aA];repeat' with_reducible first|apply aa|(apply ab;intro X Y;go_simp;apply Y;clear Y X)
   refine eo [1,0,2] [1] [] [some (.box [.osl 1,.osl 2,I s2.time,.sl 4 (r.ranks.map Rk.av),I r.back,I r.ret,.sl 3 (m2.map Sg.av)]),some (.bag 62 1 false none (cA s2.q)),some (.arr 148 3 a2 (s2.tk.map Tk.av))] (.tup []) rfl (by go_simp) ?_ ?_
   ·unfold dM;go_simp;refine ⟨_,_,_,wt,?_⟩;go_simp;kernel_rfl
   go_simp;apply c_;repeat' with_reducible first|apply ae|apply aT
   refine ah [] ?_;repeat' with_reducible first|apply ae|apply aa|(apply ab;intro X Y;go_simp;apply Y;clear Y X)
   refine hK _ (k+1,(s2,m2,a2),()) ⟨Lib.hid ⟨fG.out,H1.out,H2.out⟩,bJ,Lib.hid (trivial)⟩ (by simp only;omega) ?_;go_simp
  ·have h1:=H1.out;have h2:=H2.out;rw [if_pos he] at h1 h2;rcases HF.out with ⟨q1,rfl,q3⟩|⟨q1,_,_⟩
   ·rw [←h1] at q3;simp only at q3;subst q3;subst h2;clear HF H1 fG H2 h1 q1 hK HZ WT;refine ah [] ?_;repeat' with_reducible first|apply af|apply ae|apply aa|(apply ao;·go_simp)|(apply ab;intro X Y;go_simp;apply Y;clear Y X)
    refine ah [] ?_;repeat' with_reducible first|apply ae|apply aF|apply aq|apply b_|apply aa|(apply ab;intro X Y;go_simp;apply Y;clear Y X)
    go_simp
   ·rw [←h1] at q1;exact absurd q1 he
 ·have qy:k=l.length:=by omega
  have h1:=HI.out.2.1;have h2:=HI.out.2.2;rw [qy,List.drop_length] at h1 h2;rw [goP] at h1;rw [runT0] at h2;rcases HF.out with ⟨q1,_,_⟩|⟨_,q2,q3⟩
  ·rw [←h1] at q1;exact absurd rfl q1
  ·subst q3;subst h2;subst q2;subst qy;clear HF h1 HI hK HZ;repeat' with_reducible apply af
   refine ah [] ?_;repeat' with_reducible first|apply af|apply ae|apply aW|apply aX|apply aY|apply aa|(apply ak;·go_simp)|(apply ab;intro X Y;go_simp;apply Y;clear Y X)
   refine ah [] ?_;repeat' with_reducible first|apply ae|apply aq|apply aa|(apply ab;intro X Y;go_simp;apply Y;clear Y X)
   go_simp
noncomputable def runTS (r:Ru) : Nat→List Ev→T3×(List Sg×Bool)→T3×(List Sg×Bool)
 | _,[],z=>z
 | k,x::l,z=>if apE r z.1.1 x≠0 then (stepT r z.1 x,z.2) else runTS r (k+1) l (stepT r z.1 x,(z.2.1++lz x++(stepT r z.1 x).2.1,false))
def o_:AV:=.fn (.func 94) [] [.ref 0 0]
theorem L6 (r:Ru) (l:List Ev) (hn:r.ranks.length≤1000000) (bI:∀ k,k < r.ranks.length→(rat r.ranks k).name.size≤1000) (h0:¬eY r l=0) :
  VH Tryz.prog 85 [some (.box [.osl 1]),some (.arr 45 3 true [])] [ct r,dD l,o_] [2] [some (.box [.osl 1]),some (.arr 45 3 true [])] (.tup [.lit (.pointer none),I 0,I (eY r l)]):=by
 have g1:=nc r hn bI;have g2:=br (decide (l.length≤200)) 8;have g3:VC Tryz.prog 88 [.sl 1 ([(bY r).2,unl (decide (l.length≤200)) 8].map dk)] (I (eY r l)):=dW _ rfl rfl;have ed:decide ((l.length:Int)≤200)=decide (l.length≤200):=by
  by_cases h:l.length≤200
  ·rw [decide_eq_true h,decide_eq_true (by omega)]
  ·rw [decide_eq_false h,decide_eq_false (by omega)]
 rw [←ed] at g2 g3;generalize eY r l=E at *;generalize (bY r).2=A1 at *;generalize unl (decide ((l.length:Int)≤200)) 8=A2 at *;clear ed;unfold o_;refine cZ Tryz.func85 rfl (by kernel_rfl) rfl (fun _=>by kernel_rfl) fun M0 w0 vs=>?_;simp only [Tryz.ntmps85,Tryz.results85,az];repeat' first|(with_reducible first|apply af|apply ae|apply aF|apply aq|apply aa|refine ah [] ?_|(apply ao;·go_simp))|((with_reducible apply ab);intro X Y;go_simp;(first|(with_reducible refine ⟨_,g1,?_⟩)|(with_reducible refine ⟨_,g2,?_⟩)|(refine ⟨_,g3,?_⟩)|skip);apply Y;clear Y X)
 go_simp
theorem FR (r:Ru) (l:List Ev) (H:Hp) (V:AV) (bI:∀ k,k < r.ranks.length→(rat r.ranks k).name.size≤1000) (hr:RuOK r) (hl:l.length≤200) (hc:∀ x∈l,x.car.size≤1000) (h0:eY r l=0) (z:T3×(List Sg×Bool)) (hz:runTS r 0 l (t0 r,([],true))=z)
  (ie:(goP r 0 l (st0 r)).2.2≠0∧H=[some (.box [.osl 1]),some (.arr 45 3 z.2.2 (z.2.1.map Sg.av))]∧V = .tup [.lit (.pointer none),I ((goP r 0 l (st0 r)).2.1:Int),I (goP r 0 l (st0 r)).2.2]∨(goP r 0 l (st0 r)).2.2=0∧H=[some (.box [.osl 1]),some (.arr 45 3 z.2.2 (z.2.1.map Sg.av)),some (.bag 62 1 false none (cA z.1.1.q)),some (.box [.osl 2,.osl 4,I z.1.1.time,.sl 4 (r.ranks.map Rk.av),I r.back,I r.ret,.sl 3 (z.1.2.1.map Sg.av)]),some (.arr 148 3 z.1.2.2 (z.1.1.tk.map Tk.av))]∧V = .tup [.ref 3 0,I 0,I 0]) :
  VH Tryz.prog 85 [some (.box [.osl 1]),some (.arr 45 3 true [])] [ct r,dD l,o_] [2] H V:=by
 have hn:r.ranks.length≤1000000:=by have:=hr.n6;omega
 have g1:=nc r hn bI;have g2:=br (decide (l.length≤200)) 8;have g3:VC Tryz.prog 88 [.sl 1 ([(bY r).2,unl (decide (l.length≤200)) 8].map dk)] (I (eY r l)):=dW _ rfl rfl;have ed:decide ((l.length:Int)≤200)=decide (l.length≤200):=by rw [decide_eq_true hl,decide_eq_true (by omega)]
 rw [←ed] at g2 g3;rw [h0] at g3;generalize (bY r).2=A1 at *;generalize unl (decide ((l.length:Int)≤200)) 8=A2 at *;have ge:=y_ r hn;have HF:=Lib.hid ie;have HR:=Lib.hid hr;have HC:=Lib.hid hc;have HZ:=Lib.hid hz;clear ed h0 ie hr bI hc hn hz;unfold o_;refine cZ Tryz.func85 rfl (by kernel_rfl) rfl (fun _=>by kernel_rfl) fun M0 w0 vs=>?_;simp only [Tryz.ntmps85,Tryz.results85,az];repeat' with_reducible apply af
 refine ah [] ?_;repeat' with_reducible first|apply af|apply ae|apply aa|(apply ab;intro X Y;go_simp;apply Y;clear Y X)
 refine ah [] ?_;repeat' first|(with_reducible first|apply af|apply ae|apply aa)|((with_reducible apply ab);intro X Y;go_simp;(first|(with_reducible refine ⟨_,g1,?_⟩)|(with_reducible refine ⟨_,g2,?_⟩)|(refine ⟨_,g3,?_⟩)|skip);apply Y;clear Y X)
 refine ah [] ?_;repeat' with_reducible first|apply af|apply ae|apply aj|apply aa|(apply ak;·go_simp)|(apply ab;intro X Y;go_simp;apply Y;clear Y X)
 refine ec (bM [] 1 ⟨rfl,rfl⟩ ?_);simp only [aA];repeat' with_reducible first|apply aa|(apply ab;intro X Y;go_simp;apply Y;clear Y X)
 refine eo [] [] [] (mg r (st0 r) [] true true) (.ref 1 0) rfl (by go_simp) ?_ ?_
 ·unfold dM;go_simp;refine ⟨_,_,⟨_,ge⟩,?_⟩;unfold mg;go_simp;kernel_rfl
 unfold mg;go_simp;refine bM [] 1 ⟨rfl,rfl⟩ ?_;simp only [aA];repeat' with_reducible first|apply aa|(apply ab;intro X Y;go_simp;apply Y;clear Y X)
 apply c_;refine hZ 3 6 5 rfl rfl rfl ?_;repeat' with_reducible apply af
 refine ah [] ?_;repeat' with_reducible first|apply ae|apply ar|apply aa|(apply ab;intro X Y;go_simp;apply Y;clear Y X)
 apply rU (α:=Nat×T3×(List Sg×Bool)) [2,10,27,28] (fun (x:Nat×T3×(List Sg×Bool))=>[(29,I (x.1:Int))]) (fun (x:Nat×T3×(List Sg×Bool))=>([some (.box [.osl 1]),some (.arr 45 3 x.2.2.2 (x.2.2.1.map Sg.av)),some (.bag 62 1 false none (cA x.2.1.1.q)),some (.box [.osl 2,.osl 4,I x.2.1.1.time,.sl 4 (r.ranks.map Rk.av),I r.back,I r.ret,.sl 3 (x.2.1.2.1.map Sg.av)]),some (.arr 148 3 x.2.1.2.2 (x.2.1.1.tk.map Tk.av))] : Hp)) (fun (x:Nat×T3×(List Sg×Bool))=>Hid (Inv r x.2.1.1∧goP r x.1 (l.drop x.1) x.2.1.1=goP r 0 l (st0 r)∧runTS r x.1 (l.drop x.1) x.2=z)∧x.1≤l.length∧Hid (x.2.2.1.length≤x.1*1100)) (fun (x:Nat×T3×(List Sg×Bool))=>l.length - x.1) ((0,(st0 r,([] : List Sg),true),([],true))) ⟨Lib.hid ⟨Inv.st0 HR.out,rfl,HZ.out⟩,Nat.zero_le _,Lib.hid (Nat.zero_le _)⟩
 ·(go_simp<;>exact rfl)
 ·go_simp
 rintro ⟨k,⟨s,m,a⟩,y⟩ ⟨HI,hk,HY⟩ K hK;simp only at HI hk hK HY ⊢;by_cases bJ:k < l.length
 ·obtain ⟨w1,w2,w3,w4,w5,w6⟩:=ixs (m:=k) (by omega);have el:l.drop k=aO l k::l.drop (k+1):=by rw [rX bJ,←List.drop_eq_getElem_cons bJ]
  have wa:=B9 r (s,m,a) (aO l k) HR.out HI.out.1 (HC.out _ (by rw [rX bJ];exact List.getElem_mem bJ));obtain ⟨T2,gr⟩ : ∃ T2,stepT r (s,m,a) (aO l k)=T2:=⟨_,rfl⟩
  rw [gr] at wa;obtain ⟨s2,m2,a2⟩:=T2;have kY:apE r s (aO l k)=0→(apU r s (aO l k)).1=s2∧(apU r s (aO l k)).2=m2:=fun h=>by
   have e1:=congrArg (fun t:T3=>t.1) gr;have e2:=congrArg (fun t:T3=>t.2.1) gr;simp only [stepT,apR,if_pos h] at e1 e2;exact ⟨e1,e2⟩
  have hE:goP r k (l.drop k) s=if apE r s (aO l k)≠0 then (s,k,apE r s (aO l k)) else goP r (k+1) (l.drop (k+1)) s2:=by
   rw [el,goP];by_cases h:apE r s (aO l k)=0
   ·rw [if_neg (by simp [h]),if_neg (by simp [h]),(kY h).1]
   ·rw [if_pos h,if_pos h]
  have hU:runTS r k (l.drop k) ((s,m,a),y)=if apE r s (aO l k)≠0 then ((s2,m2,a2),y) else runTS r (k+1) (l.drop (k+1)) ((s2,m2,a2),(y.1++lz (aO l k)++(s2,m2,a2).2.1,false)):=by rw [el,runTS,gr]
  have qx:apE r s (aO l k)=0→Inv r s2:=fun h=>by
   rw [←(kY h).1];exact (HI.out.1.ap HR.out h).1
  have hM:apE r s (aO l k)=0→y.1.length+m2.length+1≤1000000000∧((aO l k).kind=4→0 < m2.length):=fun h=>by
   obtain ⟨e1,e2⟩:=B_ HR.out HI.out.1 h;rw [(kY h).2] at e1 e2;have:=HY.out;exact ⟨by omega,e2⟩
  have pa:apE r s (aO l k)=0→(y.1++lz (aO l k)++m2).length≤(k+1)*1100:=fun h=>by
   obtain ⟨e1,e2⟩:=B_ HR.out HI.out.1 h;rw [(kY h).2] at e1;have:=HY.out;have e3:(lz (aO l k)).length≤1:=by
    unfold lz;split
    ·exact Nat.zero_le _
    ·split<;>exact Nat.le_refl _
   rw [List.length_append,List.length_append];omega
  have vG:=Lib.hid pa;clear pa;have h1:=HI.out.2.1;have h2:=HI.out.2.2;rw [hE] at h1;rw [hU] at h2;have wt:=fun tD:apE r s (aO l k)=0=>L3 r s2 m2 a2 y.1 y.2 (aO l k) (k:Int) (hM tD).2 (hM tD).1;clear gr HI hE hU el kY hM;unfold o9 fF at wa;simp only at wa;unfold fF at wt;simp only [List.cons_append,List.nil_append] at wt;have H1:=Lib.hid h1;have H2:=Lib.hid h2;have fG:=Lib.hid qx;clear h1 h2 qx;have WT:=Lib.hid wt;clear wt;generalize apE r s (aO l k)=E at *;repeat' with_reducible apply af
  refine ah [] ?_;repeat' with_reducible first|apply af|apply ae|apply aj|apply ar|apply aa|(apply ao;·go_simp)|(apply ab;intro X Y;go_simp;apply Y;clear Y X)
  refine ah [] ?_;repeat' with_reducible first|apply af|apply ae|apply aa|(apply ab;intro X Y;go_simp;apply Y;clear Y X)
  refine ec (bM [] 2 ⟨rfl,rfl⟩ ?_);simp only [aA];repeat' with_reducible first|apply aa|(apply ab;intro X Y;go_simp;apply Y;clear Y X)
  refine eo [3,2,4] [3] [] [some (.box [.osl 1,.osl 2,I s2.time,.sl 4 (r.ranks.map Rk.av),I r.back,I r.ret,.sl 3 (m2.map Sg.av)]),some (.bag 62 1 false none (cA s2.q)),some (.arr 148 3 a2 (s2.tk.map Tk.av))] (I E) rfl (by go_simp) ?_ ?_
  ·unfold dM;go_simp;refine ⟨_,_,_,wa,?_⟩;go_simp;kernel_rfl
  go_simp;refine bM [] 1 ⟨rfl,rfl⟩ ?_;simp only [aA];repeat' with_reducible first|apply aa|(apply ab;intro X Y;go_simp;apply Y;clear Y X)
  apply c_;repeat' with_reducible first|apply af|apply ae
  by_cases he:E=0
  ·subst he;have h1:=H1.out;have h2:=H2.out;rw [if_neg (by simp)] at h1 h2;have eb:=fG.out rfl;have wt:=WT.out rfl;have pa:=vG.out rfl;generalize y.1++lz (aO l k)++m2=O2 at *;clear H1 fG WT H2 HY vG;have H1:=Lib.hid h1;have H2:=Lib.hid h2;have fG:=Lib.hid eb;clear h1 h2 eb;refine ah [] ?_;repeat' with_reducible first|apply ae|apply aj|apply aa|(apply ak;·go_simp)|(apply ab;intro X Y;go_simp;apply Y;clear Y X)
   refine ec (bM [] 4 ⟨rfl,rfl⟩ ?_);simp only [aA];repeat' with_reducible first|apply aa|(apply ab;intro X Y;go_simp;apply Y;clear Y X)
   refine eo [3,2,4,0,1] [3,0] [] [some (.box [.osl 1,.osl 2,I s2.time,.sl 4 (r.ranks.map Rk.av),I r.back,I r.ret,.sl 3 (m2.map Sg.av)]),some (.bag 62 1 false none (cA s2.q)),some (.arr 148 3 a2 (s2.tk.map Tk.av)),some (.box [.osl 4]),some (.arr 45 3 false (O2.map Sg.av))] (.tup []) rfl (by go_simp) ?_ ?_
   ·unfold dM;go_simp;refine ⟨_,_,_,wt,?_⟩;go_simp;kernel_rfl
   go_simp;apply c_;repeat' with_reducible first|apply ae|apply aT
   refine ah [] ?_;repeat' with_reducible first|apply ae|apply aa|(apply ab;intro X Y;go_simp;apply Y;clear Y X)
   refine hK _ (k+1,(s2,m2,a2),(O2,false)) ⟨Lib.hid ⟨fG.out,H1.out,H2.out⟩,bJ,Lib.hid (pa)⟩ (by simp only;omega) ?_;go_simp
  ·have h1:=H1.out;have h2:=H2.out;rw [if_pos he] at h1 h2;rcases HF.out with ⟨q1,rfl,q3⟩|⟨q1,_,_⟩
   ·rw [←h1] at q3;simp only at q3;subst q3;subst h2;clear HF H1 fG H2 h1 q1 hK HZ WT;refine ah [] ?_;repeat' with_reducible first|apply af|apply ae|apply aa|(apply ao;·go_simp)|(apply ab;intro X Y;go_simp;apply Y;clear Y X)
    refine ah [] ?_;repeat' with_reducible first|apply ae|apply aF|apply aq|apply b_|apply aa|(apply ab;intro X Y;go_simp;apply Y;clear Y X)
    go_simp
   ·rw [←h1] at q1;exact absurd q1 he
 ·have qy:k=l.length:=by omega
  have h1:=HI.out.2.1;have h2:=HI.out.2.2;rw [qy,List.drop_length] at h1 h2;rw [goP] at h1;rw [runTS] at h2;rcases HF.out with ⟨q1,_,_⟩|⟨_,q2,q3⟩
  ·rw [←h1] at q1;exact absurd rfl q1
  ·subst q3;subst h2;subst q2;subst qy;clear HF h1 HI hK HZ;repeat' with_reducible apply af
   refine ah [] ?_;repeat' with_reducible first|apply af|apply ae|apply aW|apply aX|apply aY|apply aa|(apply ak;·go_simp)|(apply ab;intro X Y;go_simp;apply Y;clear Y X)
   refine ah [] ?_;repeat' with_reducible first|apply ae|apply aq|apply aa|(apply ab;intro X Y;go_simp;apply Y;clear Y X)
   go_simp
end Go.Proofs.YtoibondihdhnoaaGreatDoor
