/- Texts in one: Walks: an event is carried out, as the reference has it. Printed by genR39.py. -/
import Derived.Test.YtoibondihdhnoaaGreatDoorFRK9
import Derived.Test.YtoibondihdhnoaaGreatDoorFRK53
import Derived.Test.YtoibondihdhnoaaGreatDoorFRK28
import Derived.Test.YtoibondihdhnoaaGreatDoorFRK54
namespace Go.Proofs.YtoibondihdhnoaaGreatDoor
open Go.RowKit
set_option maxRecDepth 100000
set_option maxHeartbeats 4000000
theorem zu {q:List (List ByteArray)} {k:Nat} {l:List ByteArray} : ((bo q).map fun l=>[AV.sl 1 l]).set k [.sl 1 (l.map bU)]=(bo (q.set k l)).map fun l=>[AV.sl 1 l]:=by
 rw [←lk,List.map_set]
theorem G9 {c:ByteArray} (h:cI c=true) : c.size≤1000:=by
 unfold cI at h;simp only [Bool.and_eq_true,decide_eq_true_eq] at h;omega
theorem Inv.small {r:Ru} {s:St} (hr:RuOK r) (h:Inv r s) : SmallS s:=by
 have h6:=hr.n6;have hl:=h.len;have dV:∀ l∈s.q,l.length≤300:=fun l hQ=>by
  obtain ⟨i,hi,rfl⟩:=List.getElem_of_mem hQ;have h1:=h.fit i hi;have h2:=hr.pl i (by omega);rw [eM hi] at h1;omega
 refine ⟨by omega,fun l hQ=>⟨dV l hQ,fun c hc=>G9 (h.name c (List.mem_append_left _ (List.mem_flatten.2 ⟨l,hQ,hc⟩)))⟩,by have:=h.tkl;omega,fun t ht=>?_,?_⟩
 ·have h1:=h.tkr t ht;have h2:=h.tkt t ht;have h3:=h.t0;exact ⟨G9 (h.name _ (List.mem_append_right _ (List.mem_map.2 ⟨t,ht,rfl⟩))),⟨by omega,by omega⟩,⟨by omega,by omega⟩⟩
 ·have h3:=h.t0;exact ⟨by omega,by omega⟩
theorem Ow (r:Ru) (s S2:St) (tm:Int) (k:Nat) (car:ByteArray) (M2 SN:List Sg) (Q0:List (List ByteArray)) (dH:List Tk) (hn:r.ranks.length≤1000000) (hr:RuOK r) (dw:SmallS s) (hk:k < s.q.length) (dQ:r.ranks.length=s.q.length) (f:Nat) (hf:(rat r.ranks k).feeder=f) (dh:f < s.q.length) (au:f≠k) (hp:0 < (qat s.q f).length) (dL:∀ i,i < s.q.length→(qat s.q i).length≤1000000) (kl:Q0=pE s.q k f) (kG:dH=s.tk) (sM:SN=upM s.q k f) (hI:Inv r ⟨Q0,dH,tm⟩) (hB:SN.length+2*cB 0 Q0≤1000000) (gH:∃ n,cB 0 Q0≤n∧cD r n ⟨Q0,dH,tm⟩ SN=(S2,M2)) :
  VC Tryz.prog 68 [b8 r,da s,.agg [I 4,I tm,I (k:Int),S car]] (.tup [da S2,.sl 3 (M2.map Sg.av)]):=by
 have gC:=ui s dw;have wJ:¬bo s.q=[]:=fun h=>by
  have:=qb s.q;rw [h] at this;simp at this;omega
 rw [decide_eq_false wJ] at gC;have HI:=Lib.hid hI;have HU:=Lib.hid hr;have HN:=Lib.hid gH;have gm:=l9 r ⟨Q0,dH,tm⟩ hn hI.len.symm (by rw [hI.len];exact hr.feed);have jb:(qat s.q k).length≤300:=by rw [eM hk];exact (dw.q1 _ (List.getElem_mem hk)).1
 have km:=dw.nt;clear hI hr gH dw wJ;generalize decide (s.tk.map Tk.av=[])=nT at *;have g4:=G7 r s.q k f hk dQ hf dh au hp (by have:=HU.out.n6;omega) dL;rw [←kl,←sM] at g4;clear hf dh au hp dL kl sM;refine aQ Tryz.func68 rfl (by kernel_rfl) rfl fun M0 w0=>?_;simp only [Tryz.ntmps68,Tryz.results68,aB];repeat' with_reducible apply af
 refine ah [] ?_;repeat' with_reducible first|apply af|apply ae|apply aa|(apply ab;intro X Y;go_simp;apply Y;clear Y X)
 refine dB (bz [] 1 ⟨rfl,rfl⟩ ?_);simp only [ax];repeat' with_reducible first|apply aa|(apply ab;intro X Y;go_simp;apply Y;clear Y X)
 refine dF [] [] [] [none,none,some (.arr 148 3 nT (s.tk.map Tk.av)),some (.bag 62 1 false none (bo s.q))] (.agg [.osl 3,.osl 2,I s.time]) rfl (by go_simp) ?_ ?_
 ·unfold dx;go_simp;refine ⟨_,_,⟨_,gC⟩,?_⟩;go_simp;kernel_rfl
 go_simp;refine bz [] 2 ⟨rfl,rfl⟩ ?_;simp only [ax];repeat' with_reducible first|apply aa|(apply ab;intro X Y;go_simp;apply Y;clear Y X)
 apply cR;repeat' with_reducible first|apply af|apply ae
 refine ah [] ?_;repeat' with_reducible first|apply af|apply ae|apply aa|(apply ab;intro X Y;go_simp;apply Y;clear Y X)
 refine ah [] ?_;repeat' with_reducible first|apply af|apply ae|apply aa|(apply ab;intro X Y;go_simp;apply Y;clear Y X)
 refine ah [] ?_;repeat' with_reducible first|apply af|apply ae|apply aa|(apply ab;intro X Y;go_simp;apply Y;clear Y X)
 refine ir (fun p a w R=>R.bagArr (id:=4) rfl (by kernel_rfl)) ?_;go_simp;refine gA 5 0 4 rfl rfl rfl ?_;refine gA 5 1 3 rfl rfl rfl ?_;go_simp;refine ah [] ?_;repeat' with_reducible first|apply af|apply ae|apply aA|apply aa|(apply ab;intro X Y;go_simp;apply Y;clear Y X)
 refine ah [] ?_;repeat' with_reducible first|apply af|apply ae|apply aa|(apply ak;·go_simp)|(apply ab;intro X Y;go_simp;apply Y;clear Y X)
 refine ah [] ?_;repeat' with_reducible first|apply af|apply ae|apply aa|(apply ak;·go_simp)|(apply ab;intro X Y;go_simp;apply Y;clear Y X)
 refine ah [] ?_;repeat' with_reducible first|apply af|apply ae|apply aa|(apply ak;·go_simp)|(apply ab;intro X Y;go_simp;apply Y;clear Y X)
 refine ah [] ?_;repeat' with_reducible first|apply af|apply ae|apply aa|(apply ak;·go_simp)|(apply ab;intro X Y;go_simp;apply Y;clear Y X)
 refine ah [] ?_;repeat' with_reducible first|apply ae|apply aa|(apply aw;·go_simp)|(apply ab;intro X Y;go_simp;apply Y;clear Y X)
 refine dB (bz [] 5 ⟨rfl,rfl⟩ ?_);simp only [ax];repeat' with_reducible first|apply aa|(apply ab;intro X Y;go_simp;apply Y;clear Y X)
 refine dF [] [] [] [none,some (.arr 45 3 false (SN.map Sg.av))] (.tup [hJ Q0,.osl 1]) rfl (by go_simp) ?_ ?_
 ·unfold dx;go_simp;refine ⟨_,_,⟨_,g4⟩,?_⟩;go_simp;kernel_rfl
 go_simp;refine bz [] 6 ⟨rfl,rfl⟩ ?_;simp only [ax];repeat' with_reducible first|apply aa|(apply ab;intro X Y;go_simp;apply Y;clear Y X)
 apply cR;subst kG;repeat' first|(with_reducible first|apply af|apply ae|apply ar|apply aA|apply bf|apply aa|refine ah [] ?_|(apply ak;·go_simp))|((with_reducible apply ab);intro X Y;go_simp;(first|(refine ⟨_,gm,?_⟩)|skip);apply Y;clear Y X)
 apply nB (α:=St×List Sg) [3,6,8] (fun (x:St×List Sg)=>[(10,.osl 7),(14,I (cO r x.1))]) (fun (x:St×List Sg)=>([some (.box [aW,aW,I 0]),none,none,none,none,some (.box [hJ x.1.q,.sl 3 (x.1.tk.map Tk.av),I x.1.time]),none,some (.arr 45 3 false (x.2.map Sg.av))] : Hp)) (fun (x:St×List Sg)=>Hid (Inv r x.1)∧x.2.length+2*cB 0 x.1.q≤1000000∧Hid (∃ n,cB 0 x.1.q≤n∧cD r n x.1 x.2=(S2,M2))) (fun (x:St×List Sg)=>cB 0 x.1.q) ((⟨Q0,s.tk,tm⟩,SN)) ⟨HI,hB,HN⟩
 ·(go_simp<;>exact rfl)
 ·go_simp
 rintro ⟨⟨Q,TK,t⟩,m⟩ ⟨bx,iv,HE⟩ K hK;simp only at bx iv HE hK ⊢;obtain ⟨n3,ea,cT⟩:=HE.out;by_cases bZ:cO r ⟨Q,TK,t⟩ < 0
 ·have e:(⟨Q,TK,t⟩,m)=(S2,M2):=by
   cases n3 with
   | zero=>exact cT
   | succ n=>rw [cD,if_pos bZ] at cT;exact cT
  clear hK cT HE ea iv;injection e with e1 e2
  subst e1;subst e2;generalize cO r ⟨Q,TK,t⟩=R at *;have kn:¬0≤R:=by omega
  refine ra 10 7 rfl rfl ?_;repeat' with_reducible first|apply af|apply ae|apply bP|apply az|apply bQ|apply bT|apply aa|refine ah [] ?_|(apply ak;·go_simp)|(apply ab;intro X Y;go_simp;apply Y;clear Y X)
  go_simp
 ·obtain ⟨j,ej,hj,hp⟩:=nz bZ;have fJ:j < Q.length:=by rw [bx.out.len];exact hj
  obtain ⟨f1,f2,f3⟩:=ny hp;obtain ⟨p1,p2,p3⟩:=HU.out.feedN hj f1;have dh:feedN r j < Q.length:=by rw [bx.out.len];exact p3
  have gX:=pD HU.out bx.out.len fJ f1 f2;have bV:=bx.out.up HU.out fJ f1 f2 f3;have ko:=uh r Q j (feedN r j) fJ bx.out.len.symm p1 dh (by omega) f2 (by rw [bx.out.len];have:=HU.out.n6;omega) fun i jv=>by
   have h1:=bx.out.fit i jv;have h2:=HU.out.pl i (by rw [←bx.out.len];exact jv);simp only at h1;omega
  rw [rV fJ dh (by omega)] at ko;have od:=l9 r (upS r ⟨Q,TK,t⟩ j) hn (by rw [bV.len]) (by rw [bV.len];exact HU.out.feed);have gB:∃ n,cB 0 (upS r ⟨Q,TK,t⟩ j).q≤n∧cD r n (upS r ⟨Q,TK,t⟩ j) (m++upM Q j (feedN r j))=(S2,M2):=by
   cases n3 with
   | zero=>simp only at gX ea;omega
   | succ n3=>
    rw [cD,if_neg bZ,ej,Int.toNat_natCast] at cT;exact ⟨n3,by simp only at gX ea;omega,cT⟩
  have HX:=Lib.hid gB;have lX:=Lib.hid bV;have pn:m.length+(upM Q j (feedN r j)).length=m.length+2:=by simp [upM]
  have kX:(m++upM Q j (feedN r j)).length=m.length+2:=by simp [upM]
  have oe:(upM Q j (feedN r j)).length=2:=by simp [upM]
  have og:m.length+2≤1000000000:=by omega
  clear cT HE gB bV ea bZ bx f1 f2 f3 hp;unfold upS at *;simp only at *;generalize upQ Q j (feedN r j)=Q2 at *;have mf:(m++upM Q j (feedN r j)).map Sg.av=m.map Sg.av++(upM Q j (feedN r j)).map Sg.av:=List.map_append;generalize upM Q j (feedN r j)=U at *;rw [ej];repeat' with_reducible first|apply af|apply ae|apply ar|apply aA|apply bf|apply aa|refine ah [] ?_|(apply aw;·go_simp)|(apply ab;intro X Y;go_simp;(first|(refine ⟨_,ko,?_⟩)|(refine ⟨_,od,?_⟩)|skip);apply Y;clear Y X)
  refine hK _ (⟨Q2,TK,t⟩,m++U) ⟨lX,by simp only;omega,HX⟩ (by simp only;omega) ?_;simp only [mf];go_simp
theorem Ox (r:Ru) (s S2:St) (tm:Int) (k:Nat) (car:ByteArray) (M2:List Sg) (Q0:List (List ByteArray)) (dH:List Tk) (hn:r.ranks.length≤1000000) (hr:RuOK r) (dw:SmallS s) (hk:k < s.q.length) (_hrl:r.ranks.length=s.q.length) (kl:Q0=s.q.set k (qat s.q k++[car])) (kG:dH=woK s.tk car) (hI:Inv r ⟨Q0,dH,tm⟩) (hB : [(⟨0,(k:Int),car⟩ : Sg)].length+2*cB 0 Q0≤1000000) (gH:∃ n,cB 0 Q0≤n∧cD r n ⟨Q0,dH,tm⟩ [(⟨0,(k:Int),car⟩ : Sg)]=(S2,M2)) :
  VC Tryz.prog 68 [b8 r,da s,.agg [I 0,I tm,I (k:Int),S car]] (.tup [da S2,.sl 3 (M2.map Sg.av)]):=by
 have gC:=ui s dw;have au:¬bo s.q=[]:=fun h=>by
  have:=qb s.q;rw [h] at this;simp at this;omega
 rw [decide_eq_false au] at gC;have HI:=Lib.hid hI;have HU:=Lib.hid hr;have HN:=Lib.hid gH;have gm:=l9 r ⟨Q0,dH,tm⟩ hn hI.len.symm (by rw [hI.len];exact hr.feed);have jb:(qat s.q k).length≤300:=by rw [eM hk];exact (dw.q1 _ (List.getElem_mem hk)).1
 have km:=dw.nt;clear hI hr gH dw au;generalize decide (s.tk.map Tk.av=[])=nT at *;have g1:=GY s.tk car (by omega);have hb1:(qat s.q k).length+1≤1000000000:=by omega
 have aX:(bo Q0).map (fun l=>[AV.sl 1 l])=((bo s.q).set k ((qat s.q k).map bU++[[S car]])).map fun l=>[AV.sl 1 l]:=by
  rw [kl,rH,lk]
 have HR:=Lib.hid aX;rw [←kG] at g1;clear kl aX kG;refine aQ Tryz.func68 rfl (by kernel_rfl) rfl fun M0 w0=>?_;simp only [Tryz.ntmps68,Tryz.results68,aB];repeat' with_reducible apply af
 refine ah [] ?_;repeat' with_reducible first|apply af|apply ae|apply aa|(apply ab;intro X Y;go_simp;apply Y;clear Y X)
 refine dB (bz [] 1 ⟨rfl,rfl⟩ ?_);simp only [ax];repeat' with_reducible first|apply aa|(apply ab;intro X Y;go_simp;apply Y;clear Y X)
 refine dF [] [] [] [none,none,some (.arr 148 3 nT (s.tk.map Tk.av)),some (.bag 62 1 false none (bo s.q))] (.agg [.osl 3,.osl 2,I s.time]) rfl (by go_simp) ?_ ?_
 ·unfold dx;go_simp;refine ⟨_,_,⟨_,gC⟩,?_⟩;go_simp;kernel_rfl
 go_simp;refine bz [] 2 ⟨rfl,rfl⟩ ?_;simp only [ax];repeat' with_reducible first|apply aa|(apply ab;intro X Y;go_simp;apply Y;clear Y X)
 apply cR;repeat' with_reducible first|apply af|apply ae
 refine ah [] ?_;repeat' with_reducible first|apply af|apply ae|apply aa|(apply ab;intro X Y;go_simp;apply Y;clear Y X)
 refine ah [] ?_;repeat' with_reducible first|apply af|apply ae|apply aa|(apply ab;intro X Y;go_simp;apply Y;clear Y X)
 refine ah [10] ?_;repeat' with_reducible first|apply af|apply ae|apply aa|(apply ab;intro X Y;go_simp;apply Y;clear Y X)
 refine ah [] ?_;repeat ((with_reducible refine ab fun X Y=>?_);go_simp;refine Y _ ?_;clear Y X)
 apply aa;apply ae;refine tc ⟨[(3,.vp [.sl 4 (r.ranks.map Rk.av),I r.back,I r.ret]),(5,.vp [I 0,I tm,I (k:Int),S car]),(6,.ref 0 0),(8,.ref 5 0),(10,.osl 6)],[some (.box [aW,aW,I 0]),none,none,none,some (.arr 62 1 false ((bo Q0).map fun l=>[AV.sl 1 l])),some (.box [.osl 4,.sl 3 (dH.map Tk.av),I tm]),some (.arr 45 3 true [])]⟩ (fun K hK=>?_) ?_
 ·clear gm HN HI hB;refine gA 5 1 3 rfl rfl rfl ?_;repeat' with_reducible first|apply af|apply aA
  refine ah [] ?_;repeat' with_reducible first|apply af|apply ae|apply aa|(apply aw;·go_simp)|(apply ab;intro X Y;go_simp;apply Y;clear Y X)
  refine mZ 8 [8,31,31,32,5,33,33,34] (by kernel_rfl) (by kernel_rfl) (by kernel_rfl) (unW 4) (ni 4) rfl ⟨rfl,rfl⟩ ?_;simp only [List.take];repeat' with_reducible first|apply aR|(apply aS;intro X Y;go_simp;apply Y;clear Y X)
  refine ⟨_,_,s_ (id:=4) (k:=k) (es:=(qat s.q k).map bU) (c:=S car) (by exact rfl) (by exact rfl) (by go_simp) (by go_simp) rI ti9 (by exact rfl) (by go_simp),?_,?_,?_⟩
  ·simp only [List.forall_mem_cons];go_simp
  ·repeat' with_reducible first|apply aR|(apply aS;intro X Y;go_simp;apply Y;clear Y X)
   simp only [List.forall_mem_cons];go_simp
  go_simp;refine bz [] 2 ⟨rfl,rfl⟩ ?_;simp only [ax];repeat' with_reducible first|apply aa|(apply ab;intro X Y;go_simp;apply Y;clear Y X)
  apply cR;repeat' with_reducible apply ae
  refine ir (fun p a w R=>R.bagArr (id:=4) rfl (by kernel_rfl)) ?_;go_simp;refine ah [] ?_;repeat' with_reducible first|apply ae|apply bf|apply aa|(apply ab;intro X Y;go_simp;(first|(refine ⟨_,g1,?_⟩)|skip);apply Y;clear Y X)
  rw [HR.out] at hK;refine hK _ ?_;go_simp
 ·refine gA 5 0 4 rfl rfl rfl ?_;repeat' first|(with_reducible first|apply af|apply ae|apply ar|apply aA|apply aa|refine ah [] ?_|(apply aw;·go_simp)|(apply ak;·go_simp))|((with_reducible apply ab);intro X Y;go_simp;(first|(refine ⟨_,gm,?_⟩)|skip);apply Y;clear Y X)
  apply nB (α:=St×List Sg) [3,6,8] (fun (x:St×List Sg)=>[(10,.osl 6),(14,I (cO r x.1))]) (fun (x:St×List Sg)=>([some (.box [aW,aW,I 0]),none,none,none,none,some (.box [hJ x.1.q,.sl 3 (x.1.tk.map Tk.av),I x.1.time]),some (.arr 45 3 false (x.2.map Sg.av))] : Hp)) (fun (x:St×List Sg)=>Hid (Inv r x.1)∧x.2.length+2*cB 0 x.1.q≤1000000∧Hid (∃ n,cB 0 x.1.q≤n∧cD r n x.1 x.2=(S2,M2))) (fun (x:St×List Sg)=>cB 0 x.1.q) ((⟨Q0,dH,tm⟩,[(⟨0,(k:Int),car⟩ : Sg)])) ⟨HI,hB,HN⟩
  ·(go_simp<;>exact rfl)
  ·go_simp
  rintro ⟨⟨Q,TK,t⟩,m⟩ ⟨bx,iv,HE⟩ K hK;simp only at bx iv HE hK ⊢;obtain ⟨n3,ea,cT⟩:=HE.out;by_cases bZ:cO r ⟨Q,TK,t⟩ < 0
  ·have e:(⟨Q,TK,t⟩,m)=(S2,M2):=by
    cases n3 with
    | zero=>exact cT
    | succ n=>rw [cD,if_pos bZ] at cT;exact cT
   clear hK cT HE ea iv;injection e with e1 e2
   subst e1;subst e2;generalize cO r ⟨Q,TK,t⟩=R at *;have kn:¬0≤R:=by omega
   refine ra 10 6 rfl rfl ?_;repeat' with_reducible first|apply af|apply ae|apply bP|apply az|apply bQ|apply bT|apply aa|refine ah [] ?_|(apply ak;·go_simp)|(apply ab;intro X Y;go_simp;apply Y;clear Y X)
   go_simp
  ·obtain ⟨j,ej,hj,hp⟩:=nz bZ;have fJ:j < Q.length:=by rw [bx.out.len];exact hj
   obtain ⟨f1,f2,f3⟩:=ny hp;obtain ⟨p1,p2,p3⟩:=HU.out.feedN hj f1;have dh:feedN r j < Q.length:=by rw [bx.out.len];exact p3
   have gX:=pD HU.out bx.out.len fJ f1 f2;have bV:=bx.out.up HU.out fJ f1 f2 f3;have ko:=uh r Q j (feedN r j) fJ bx.out.len.symm p1 dh (by omega) f2 (by rw [bx.out.len];have:=HU.out.n6;omega) fun i jv=>by
    have h1:=bx.out.fit i jv;have h2:=HU.out.pl i (by rw [←bx.out.len];exact jv);simp only at h1;omega
   rw [rV fJ dh (by omega)] at ko;have od:=l9 r (upS r ⟨Q,TK,t⟩ j) hn (by rw [bV.len]) (by rw [bV.len];exact HU.out.feed);have gB:∃ n,cB 0 (upS r ⟨Q,TK,t⟩ j).q≤n∧cD r n (upS r ⟨Q,TK,t⟩ j) (m++upM Q j (feedN r j))=(S2,M2):=by
    cases n3 with
    | zero=>simp only at gX ea;omega
    | succ n3=>
     rw [cD,if_neg bZ,ej,Int.toNat_natCast] at cT;exact ⟨n3,by simp only at gX ea;omega,cT⟩
   have HX:=Lib.hid gB;have lX:=Lib.hid bV;have pn:m.length+(upM Q j (feedN r j)).length=m.length+2:=by simp [upM]
   have kX:(m++upM Q j (feedN r j)).length=m.length+2:=by simp [upM]
   have oe:(upM Q j (feedN r j)).length=2:=by simp [upM]
   have og:m.length+2≤1000000000:=by omega
   clear cT HE gB bV ea bZ bx f1 f2 f3 hp;unfold upS at *;simp only at *;generalize upQ Q j (feedN r j)=Q2 at *;have mf:(m++upM Q j (feedN r j)).map Sg.av=m.map Sg.av++(upM Q j (feedN r j)).map Sg.av:=List.map_append;generalize upM Q j (feedN r j)=U at *;rw [ej];repeat' with_reducible first|apply af|apply ae|apply ar|apply aA|apply bf|apply aa|refine ah [] ?_|(apply aw;·go_simp)|(apply ab;intro X Y;go_simp;(first|(refine ⟨_,ko,?_⟩)|(refine ⟨_,od,?_⟩)|skip);apply Y;clear Y X)
   refine hK _ (⟨Q2,TK,t⟩,m++U) ⟨lX,by simp only;omega,HX⟩ (by simp only;omega) ?_;simp only [mf];go_simp
theorem Oy (r:Ru) (s S2:St) (tm:Int) (k:Nat) (car:ByteArray) (M2:List Sg) (Q0:List (List ByteArray)) (dH:List Tk) (hn:r.ranks.length≤1000000) (hr:RuOK r) (dw:SmallS s) (hk:k < s.q.length) (_hrl:r.ranks.length=s.q.length) (kl:Q0=s.q.set k (woT (qat s.q k) car)) (kG:dH=s.tk++[⟨car,(k:Int),tm⟩]) (hI:Inv r ⟨Q0,dH,tm⟩) (hB : [(⟨1,(k:Int),car⟩ : Sg)].length+2*cB 0 Q0≤1000000) (gH:∃ n,cB 0 Q0≤n∧cD r n ⟨Q0,dH,tm⟩ [(⟨1,(k:Int),car⟩ : Sg)]=(S2,M2)) :
  VC Tryz.prog 68 [b8 r,da s,.agg [I 1,I tm,I (k:Int),S car]] (.tup [da S2,.sl 3 (M2.map Sg.av)]):=by
 have gC:=ui s dw;have au:¬bo s.q=[]:=fun h=>by
  have:=qb s.q;rw [h] at this;simp at this;omega
 rw [decide_eq_false au] at gC;have HI:=Lib.hid hI;have HU:=Lib.hid hr;have HN:=Lib.hid gH;have gm:=l9 r ⟨Q0,dH,tm⟩ hn hI.len.symm (by rw [hI.len];exact hr.feed);have jb:(qat s.q k).length≤300:=by rw [eM hk];exact (dw.q1 _ (List.getElem_mem hk)).1
 have km:=dw.nt;clear hI hr gH dw au;generalize decide (s.tk.map Tk.av=[])=nT at *;have g1:=CB (qat s.q k) car (by omega);have hb1:s.tk.length+1≤1000000000:=by omega
 have aX:(bo Q0).map (fun l=>[AV.sl 1 l])=((bo s.q).map fun l=>[AV.sl 1 l]).set k [.sl 1 ((woT (qat s.q k) car).map bU)]:=by
  rw [kl,zu]
 have HR:=Lib.hid aX;have HT:Hid (dH.map Tk.av=s.tk.map Tk.av++[[S car,I (k:Int),I tm]]):=Lib.hid (by rw [kG];simp [Tk.av]);clear kl aX kG;refine aQ Tryz.func68 rfl (by kernel_rfl) rfl fun M0 w0=>?_;simp only [Tryz.ntmps68,Tryz.results68,aB];repeat' with_reducible apply af
 refine ah [] ?_;repeat' with_reducible first|apply af|apply ae|apply aa|(apply ab;intro X Y;go_simp;apply Y;clear Y X)
 refine dB (bz [] 1 ⟨rfl,rfl⟩ ?_);simp only [ax];repeat' with_reducible first|apply aa|(apply ab;intro X Y;go_simp;apply Y;clear Y X)
 refine dF [] [] [] [none,none,some (.arr 148 3 nT (s.tk.map Tk.av)),some (.bag 62 1 false none (bo s.q))] (.agg [.osl 3,.osl 2,I s.time]) rfl (by go_simp) ?_ ?_
 ·unfold dx;go_simp;refine ⟨_,_,⟨_,gC⟩,?_⟩;go_simp;kernel_rfl
 go_simp;refine bz [] 2 ⟨rfl,rfl⟩ ?_;simp only [ax];repeat' with_reducible first|apply aa|(apply ab;intro X Y;go_simp;apply Y;clear Y X)
 apply cR;repeat' with_reducible first|apply af|apply ae
 refine ah [] ?_;repeat' with_reducible first|apply af|apply ae|apply aa|(apply ab;intro X Y;go_simp;apply Y;clear Y X)
 refine ah [] ?_;repeat' with_reducible first|apply af|apply ae|apply aa|(apply ab;intro X Y;go_simp;apply Y;clear Y X)
 refine ah [10] ?_;repeat' with_reducible first|apply af|apply ae|apply aa|(apply ab;intro X Y;go_simp;apply Y;clear Y X)
 refine ah [] ?_;repeat ((with_reducible refine ab fun X Y=>?_);go_simp;refine Y _ ?_;clear Y X)
 apply aa;apply ae;refine tc ⟨[(3,.vp [.sl 4 (r.ranks.map Rk.av),I r.back,I r.ret]),(5,.vp [I 1,I tm,I (k:Int),S car]),(6,.ref 0 0),(8,.ref 5 0),(10,.osl 6)],[some (.box [aW,aW,I 0]),none,none,none,some (.arr 62 1 false ((bo Q0).map fun l=>[AV.sl 1 l])),some (.box [.osl 4,.sl 3 (dH.map Tk.av),I tm]),some (.arr 45 3 true [])]⟩ (fun K hK=>?_) ?_
 ·clear gm HN HI hB;refine ir (fun p a w R=>R.bagArr (id:=4) rfl (by kernel_rfl)) ?_;go_simp;repeat' with_reducible first|apply af|apply aA
  refine ah [] ?_;repeat' with_reducible first|apply af|apply ae|apply aa|(apply ak;·go_simp)|(apply ab;intro X Y;go_simp;apply Y;clear Y X)
  refine ah [] ?_;repeat' with_reducible first|apply af|apply ae|apply aa|(apply aw;·go_simp)|(apply ab;intro X Y;go_simp;apply Y;clear Y X)
  refine bg 10 8 [] rfl (by kernel_rfl) ?_;simp only [ax];repeat' with_reducible first|apply ae|apply aa|apply aR|((first|apply ab|apply aS);intro X Y;go_simp;(first|(refine ⟨_,g1,?_⟩)|skip);apply Y;clear Y X)
  refine IA [] 11 ⟨rfl,rfl⟩ ?_;simp only [ax];repeat' with_reducible first|apply aa|(apply ab;intro X Y;go_simp;apply Y;clear Y X)
  refine ⟨_,fun p a w R=>⟨_,R.freeze (t:=68) (id:=3) rfl rfl⟩,?_⟩;go_simp;repeat' with_reducible first|apply ae|apply bf|apply aa|(apply ab;intro X Y;go_simp;apply Y;clear Y X)
  rw [HR.out,HT.out] at hK;refine hK _ ?_;go_simp
 ·refine gA 5 0 4 rfl rfl rfl ?_;repeat' first|(with_reducible first|apply af|apply ae|apply ar|apply aA|apply aa|refine ah [] ?_|(apply aw;·go_simp)|(apply ak;·go_simp))|((with_reducible apply ab);intro X Y;go_simp;(first|(refine ⟨_,gm,?_⟩)|skip);apply Y;clear Y X)
  apply nB (α:=St×List Sg) [3,6,8] (fun (x:St×List Sg)=>[(10,.osl 6),(14,I (cO r x.1))]) (fun (x:St×List Sg)=>([some (.box [aW,aW,I 0]),none,none,none,none,some (.box [hJ x.1.q,.sl 3 (x.1.tk.map Tk.av),I x.1.time]),some (.arr 45 3 false (x.2.map Sg.av))] : Hp)) (fun (x:St×List Sg)=>Hid (Inv r x.1)∧x.2.length+2*cB 0 x.1.q≤1000000∧Hid (∃ n,cB 0 x.1.q≤n∧cD r n x.1 x.2=(S2,M2))) (fun (x:St×List Sg)=>cB 0 x.1.q) ((⟨Q0,dH,tm⟩,[(⟨1,(k:Int),car⟩ : Sg)])) ⟨HI,hB,HN⟩
  ·(go_simp<;>exact rfl)
  ·go_simp
  rintro ⟨⟨Q,TK,t⟩,m⟩ ⟨bx,iv,HE⟩ K hK;simp only at bx iv HE hK ⊢;obtain ⟨n3,ea,cT⟩:=HE.out;by_cases bZ:cO r ⟨Q,TK,t⟩ < 0
  ·have e:(⟨Q,TK,t⟩,m)=(S2,M2):=by
    cases n3 with
    | zero=>exact cT
    | succ n=>rw [cD,if_pos bZ] at cT;exact cT
   clear hK cT HE ea iv;injection e with e1 e2
   subst e1;subst e2;generalize cO r ⟨Q,TK,t⟩=R at *;have kn:¬0≤R:=by omega
   refine ra 10 6 rfl rfl ?_;repeat' with_reducible first|apply af|apply ae|apply bP|apply az|apply bQ|apply bT|apply aa|refine ah [] ?_|(apply ak;·go_simp)|(apply ab;intro X Y;go_simp;apply Y;clear Y X)
   go_simp
  ·obtain ⟨j,ej,hj,hp⟩:=nz bZ;have fJ:j < Q.length:=by rw [bx.out.len];exact hj
   obtain ⟨f1,f2,f3⟩:=ny hp;obtain ⟨p1,p2,p3⟩:=HU.out.feedN hj f1;have dh:feedN r j < Q.length:=by rw [bx.out.len];exact p3
   have gX:=pD HU.out bx.out.len fJ f1 f2;have bV:=bx.out.up HU.out fJ f1 f2 f3;have ko:=uh r Q j (feedN r j) fJ bx.out.len.symm p1 dh (by omega) f2 (by rw [bx.out.len];have:=HU.out.n6;omega) fun i jv=>by
    have h1:=bx.out.fit i jv;have h2:=HU.out.pl i (by rw [←bx.out.len];exact jv);simp only at h1;omega
   rw [rV fJ dh (by omega)] at ko;have od:=l9 r (upS r ⟨Q,TK,t⟩ j) hn (by rw [bV.len]) (by rw [bV.len];exact HU.out.feed);have gB:∃ n,cB 0 (upS r ⟨Q,TK,t⟩ j).q≤n∧cD r n (upS r ⟨Q,TK,t⟩ j) (m++upM Q j (feedN r j))=(S2,M2):=by
    cases n3 with
    | zero=>simp only at gX ea;omega
    | succ n3=>
     rw [cD,if_neg bZ,ej,Int.toNat_natCast] at cT;exact ⟨n3,by simp only at gX ea;omega,cT⟩
   have HX:=Lib.hid gB;have lX:=Lib.hid bV;have pn:m.length+(upM Q j (feedN r j)).length=m.length+2:=by simp [upM]
   have kX:(m++upM Q j (feedN r j)).length=m.length+2:=by simp [upM]
   have oe:(upM Q j (feedN r j)).length=2:=by simp [upM]
   have og:m.length+2≤1000000000:=by omega
   clear cT HE gB bV ea bZ bx f1 f2 f3 hp;unfold upS at *;simp only at *;generalize upQ Q j (feedN r j)=Q2 at *;have mf:(m++upM Q j (feedN r j)).map Sg.av=m.map Sg.av++(upM Q j (feedN r j)).map Sg.av:=List.map_append;generalize upM Q j (feedN r j)=U at *;rw [ej];repeat' with_reducible first|apply af|apply ae|apply ar|apply aA|apply bf|apply aa|refine ah [] ?_|(apply aw;·go_simp)|(apply ab;intro X Y;go_simp;(first|(refine ⟨_,ko,?_⟩)|(refine ⟨_,od,?_⟩)|skip);apply Y;clear Y X)
   refine hK _ (⟨Q2,TK,t⟩,m++U) ⟨lX,by simp only;omega,HX⟩ (by simp only;omega) ?_;simp only [mf];go_simp
theorem Oz (r:Ru) (s S2:St) (tm:Int) (k:Nat) (car:ByteArray) (M2:List Sg) (Q0:List (List ByteArray)) (dH:List Tk) (hn:r.ranks.length≤1000000) (hr:RuOK r) (dw:SmallS s) (hk:k < s.q.length) (_hrl:r.ranks.length=s.q.length) (kl:Q0=s.q.set k (woT (qat s.q k) car)) (kG:dH=s.tk) (hI:Inv r ⟨Q0,dH,tm⟩) (hB : [(⟨3,(k:Int),car⟩ : Sg)].length+2*cB 0 Q0≤1000000) (gH:∃ n,cB 0 Q0≤n∧cD r n ⟨Q0,dH,tm⟩ [(⟨3,(k:Int),car⟩ : Sg)]=(S2,M2)) :
  VC Tryz.prog 68 [b8 r,da s,.agg [I 3,I tm,I (k:Int),S car]] (.tup [da S2,.sl 3 (M2.map Sg.av)]):=by
 have gC:=ui s dw;have au:¬bo s.q=[]:=fun h=>by
  have:=qb s.q;rw [h] at this;simp at this;omega
 rw [decide_eq_false au] at gC;have HI:=Lib.hid hI;have HU:=Lib.hid hr;have HN:=Lib.hid gH;have gm:=l9 r ⟨Q0,dH,tm⟩ hn hI.len.symm (by rw [hI.len];exact hr.feed);have jb:(qat s.q k).length≤300:=by rw [eM hk];exact (dw.q1 _ (List.getElem_mem hk)).1
 have km:=dw.nt;clear hI hr gH dw au;generalize decide (s.tk.map Tk.av=[])=nT at *;have g1:=CB (qat s.q k) car (by omega);have hb1:s.tk.length+1≤1000000000:=by omega
 have aX:(bo Q0).map (fun l=>[AV.sl 1 l])=((bo s.q).map fun l=>[AV.sl 1 l]).set k [.sl 1 ((woT (qat s.q k) car).map bU)]:=by
  rw [kl,zu]
 have HR:=Lib.hid aX;have HT:Hid (dH.map Tk.av=s.tk.map Tk.av):=Lib.hid (by rw [kG]);clear kl aX kG;refine aQ Tryz.func68 rfl (by kernel_rfl) rfl fun M0 w0=>?_;simp only [Tryz.ntmps68,Tryz.results68,aB];repeat' with_reducible apply af
 refine ah [] ?_;repeat' with_reducible first|apply af|apply ae|apply aa|(apply ab;intro X Y;go_simp;apply Y;clear Y X)
 refine dB (bz [] 1 ⟨rfl,rfl⟩ ?_);simp only [ax];repeat' with_reducible first|apply aa|(apply ab;intro X Y;go_simp;apply Y;clear Y X)
 refine dF [] [] [] [none,none,some (.arr 148 3 nT (s.tk.map Tk.av)),some (.bag 62 1 false none (bo s.q))] (.agg [.osl 3,.osl 2,I s.time]) rfl (by go_simp) ?_ ?_
 ·unfold dx;go_simp;refine ⟨_,_,⟨_,gC⟩,?_⟩;go_simp;kernel_rfl
 go_simp;refine bz [] 2 ⟨rfl,rfl⟩ ?_;simp only [ax];repeat' with_reducible first|apply aa|(apply ab;intro X Y;go_simp;apply Y;clear Y X)
 apply cR;repeat' with_reducible first|apply af|apply ae
 refine ah [] ?_;repeat' with_reducible first|apply af|apply ae|apply aa|(apply ab;intro X Y;go_simp;apply Y;clear Y X)
 refine ah [] ?_;repeat' with_reducible first|apply af|apply ae|apply aa|(apply ab;intro X Y;go_simp;apply Y;clear Y X)
 refine ah [10] ?_;repeat' with_reducible first|apply af|apply ae|apply aa|(apply ab;intro X Y;go_simp;apply Y;clear Y X)
 refine ah [] ?_;repeat ((with_reducible refine ab fun X Y=>?_);go_simp;refine Y _ ?_;clear Y X)
 apply aa;apply ae;refine tc ⟨[(3,.vp [.sl 4 (r.ranks.map Rk.av),I r.back,I r.ret]),(5,.vp [I 3,I tm,I (k:Int),S car]),(6,.ref 0 0),(8,.ref 5 0),(10,.osl 6)],[some (.box [aW,aW,I 0]),none,none,none,some (.arr 62 1 false ((bo Q0).map fun l=>[AV.sl 1 l])),some (.box [.osl 4,.sl 3 (dH.map Tk.av),I tm]),some (.arr 45 3 true [])]⟩ (fun K hK=>?_) ?_
 ·clear gm HN HI hB;refine ir (fun p a w R=>R.bagArr (id:=4) rfl (by kernel_rfl)) ?_;go_simp;refine gA 5 1 3 rfl rfl rfl ?_;repeat' first|(with_reducible first|apply af|apply ae|apply aA|apply bf|apply aa|refine ah [] ?_|apply aR|(apply aw;·go_simp)|(apply ak;·go_simp)|((first|apply ab|apply aS);intro X Y;go_simp;(first|(refine ⟨_,g1,?_⟩)|skip);apply Y;clear Y X))|((refine bg 10 9 [] rfl (by kernel_rfl) ?_);simp only [ax])
  rw [HR.out,HT.out] at hK;refine hK _ ?_;go_simp
 ·refine gA 5 0 4 rfl rfl rfl ?_;repeat' first|(with_reducible first|apply af|apply ae|apply ar|apply aA|apply aa|refine ah [] ?_|(apply aw;·go_simp)|(apply ak;·go_simp))|((with_reducible apply ab);intro X Y;go_simp;(first|(refine ⟨_,gm,?_⟩)|skip);apply Y;clear Y X)
  apply nB (α:=St×List Sg) [3,6,8] (fun (x:St×List Sg)=>[(10,.osl 6),(14,I (cO r x.1))]) (fun (x:St×List Sg)=>([some (.box [aW,aW,I 0]),none,none,none,none,some (.box [hJ x.1.q,.sl 3 (x.1.tk.map Tk.av),I x.1.time]),some (.arr 45 3 false (x.2.map Sg.av))] : Hp)) (fun (x:St×List Sg)=>Hid (Inv r x.1)∧x.2.length+2*cB 0 x.1.q≤1000000∧Hid (∃ n,cB 0 x.1.q≤n∧cD r n x.1 x.2=(S2,M2))) (fun (x:St×List Sg)=>cB 0 x.1.q) ((⟨Q0,dH,tm⟩,[(⟨3,(k:Int),car⟩ : Sg)])) ⟨HI,hB,HN⟩
  ·(go_simp<;>exact rfl)
  ·go_simp
  rintro ⟨⟨Q,TK,t⟩,m⟩ ⟨bx,iv,HE⟩ K hK;simp only at bx iv HE hK ⊢;obtain ⟨n3,ea,cT⟩:=HE.out;by_cases bZ:cO r ⟨Q,TK,t⟩ < 0
  ·have e:(⟨Q,TK,t⟩,m)=(S2,M2):=by
    cases n3 with
    | zero=>exact cT
    | succ n=>rw [cD,if_pos bZ] at cT;exact cT
   clear hK cT HE ea iv;injection e with e1 e2
   subst e1;subst e2;generalize cO r ⟨Q,TK,t⟩=R at *;have kn:¬0≤R:=by omega
   refine ra 10 6 rfl rfl ?_;repeat' with_reducible first|apply af|apply ae|apply bP|apply az|apply bQ|apply bT|apply aa|refine ah [] ?_|(apply ak;·go_simp)|(apply ab;intro X Y;go_simp;apply Y;clear Y X)
   go_simp
  ·obtain ⟨j,ej,hj,hp⟩:=nz bZ;have fJ:j < Q.length:=by rw [bx.out.len];exact hj
   obtain ⟨f1,f2,f3⟩:=ny hp;obtain ⟨p1,p2,p3⟩:=HU.out.feedN hj f1;have dh:feedN r j < Q.length:=by rw [bx.out.len];exact p3
   have gX:=pD HU.out bx.out.len fJ f1 f2;have bV:=bx.out.up HU.out fJ f1 f2 f3;have ko:=uh r Q j (feedN r j) fJ bx.out.len.symm p1 dh (by omega) f2 (by rw [bx.out.len];have:=HU.out.n6;omega) fun i jv=>by
    have h1:=bx.out.fit i jv;have h2:=HU.out.pl i (by rw [←bx.out.len];exact jv);simp only at h1;omega
   rw [rV fJ dh (by omega)] at ko;have od:=l9 r (upS r ⟨Q,TK,t⟩ j) hn (by rw [bV.len]) (by rw [bV.len];exact HU.out.feed);have gB:∃ n,cB 0 (upS r ⟨Q,TK,t⟩ j).q≤n∧cD r n (upS r ⟨Q,TK,t⟩ j) (m++upM Q j (feedN r j))=(S2,M2):=by
    cases n3 with
    | zero=>simp only at gX ea;omega
    | succ n3=>
     rw [cD,if_neg bZ,ej,Int.toNat_natCast] at cT;exact ⟨n3,by simp only at gX ea;omega,cT⟩
   have HX:=Lib.hid gB;have lX:=Lib.hid bV;have pn:m.length+(upM Q j (feedN r j)).length=m.length+2:=by simp [upM]
   have kX:(m++upM Q j (feedN r j)).length=m.length+2:=by simp [upM]
   have oe:(upM Q j (feedN r j)).length=2:=by simp [upM]
   have og:m.length+2≤1000000000:=by omega
   clear cT HE gB bV ea bZ bx f1 f2 f3 hp;unfold upS at *;simp only at *;generalize upQ Q j (feedN r j)=Q2 at *;have mf:(m++upM Q j (feedN r j)).map Sg.av=m.map Sg.av++(upM Q j (feedN r j)).map Sg.av:=List.map_append;generalize upM Q j (feedN r j)=U at *;rw [ej];repeat' with_reducible first|apply af|apply ae|apply ar|apply aA|apply bf|apply aa|refine ah [] ?_|(apply aw;·go_simp)|(apply ab;intro X Y;go_simp;(first|(refine ⟨_,ko,?_⟩)|(refine ⟨_,od,?_⟩)|skip);apply Y;clear Y X)
   refine hK _ (⟨Q2,TK,t⟩,m++U) ⟨lX,by simp only;omega,HX⟩ (by simp only;omega) ?_;simp only [mf];go_simp
theorem OA (r:Ru) (s S2:St) (tm:Int) (k:Nat) (car:ByteArray) (M2:List Sg) (Q0:List (List ByteArray)) (dH:List Tk) (hn:r.ranks.length≤1000000) (hr:RuOK r) (dw:SmallS s) (hk:k < s.q.length) (_hrl:r.ranks.length=s.q.length) (b:Nat) (uf:b=tz r (woT (qat s.q k) car).length) (pF:r.back = -1∨0≤r.back∧r.back≤12) (kl:Q0=s.q.set k ((woT (qat s.q k) car).take b++[car]++(woT (qat s.q k) car).drop b)) (kG:dH=s.tk) (hI:Inv r ⟨Q0,dH,tm⟩) (hB : [(⟨2,(k:Int),car⟩ : Sg)].length+2*cB 0 Q0≤1000000) (gH:∃ n,cB 0 Q0≤n∧cD r n ⟨Q0,dH,tm⟩ [(⟨2,(k:Int),car⟩ : Sg)]=(S2,M2)) :
  VC Tryz.prog 68 [b8 r,da s,.agg [I 2,I tm,I (k:Int),S car]] (.tup [da S2,.sl 3 (M2.map Sg.av)]):=by
 have gC:=ui s dw;have au:¬bo s.q=[]:=fun h=>by
  have:=qb s.q;rw [h] at this;simp at this;omega
 rw [decide_eq_false au] at gC;have HI:=Lib.hid hI;have HU:=Lib.hid hr;have HN:=Lib.hid gH;have gm:=l9 r ⟨Q0,dH,tm⟩ hn hI.len.symm (by rw [hI.len];exact hr.feed);have jb:(qat s.q k).length≤300:=by rw [eM hk];exact (dw.q1 _ (List.getElem_mem hk)).1
 have km:=dw.nt;clear hI hr gH dw au;generalize decide (s.tk.map Tk.av=[])=nT at *;have g1:=CB (qat s.q k) car (by omega);have QM:(woT (qat s.q k) car).length≤300:=Nat.le_trans (List.length_filter_le _ _) jb;have aX:(bo Q0).map (fun l=>[AV.sl 1 l])=((bo s.q).map fun l=>[AV.sl 1 l]).set k [.sl 1 (((woT (qat s.q k) car).map bU).take b++[[S car]]++((woT (qat s.q k) car).map bU).drop b)]:=by
  rw [kl,←zu,List.map_append,List.map_append,List.map_take,List.map_drop];rfl
 have hb0:b≤(woT (qat s.q k) car).length∧(r.back = -1∨r.back > (woT (qat s.q k) car).length→b=(woT (qat s.q k) car).length)∧(¬(r.back = -1∨r.back > (woT (qat s.q k) car).length)→r.back=b):=by
  rw [uf];unfold tz;by_cases h:r.back = -1∨r.back > (woT (qat s.q k) car).length
  ·rw [if_pos h];exact ⟨Nat.le_refl _,fun _=>rfl,fun hh=>absurd h hh⟩
  ·rw [if_neg h];exact ⟨by omega,fun hh=>absurd hh h,fun _=>by omega⟩
 generalize woT (qat s.q k) car=W at *;have g2:=y9 (W.take b) (by rw [List.length_take];omega);unfold iP at g2;rw [List.map_take] at g2;have HR:=Lib.hid aX;have HT:Hid (dH.map Tk.av=s.tk.map Tk.av):=Lib.hid (by rw [kG]);obtain ⟨hb1,hb2,hb3⟩:=hb0;have o8:b+1≤1000000000:=by omega
 have OB:(b:Int)≤W.length:=by omega
 have vT:b+1+(W.length - b)≤1000000000:=by omega
 have pz:min b W.length=b:=by omega
 clear kl aX uf kG;refine aQ Tryz.func68 rfl (by kernel_rfl) rfl fun M0 w0=>?_;simp only [Tryz.ntmps68,Tryz.results68,aB];repeat' with_reducible apply af
 refine ah [] ?_;repeat' with_reducible first|apply af|apply ae|apply aa|(apply ab;intro X Y;go_simp;apply Y;clear Y X)
 refine dB (bz [] 1 ⟨rfl,rfl⟩ ?_);simp only [ax];repeat' with_reducible first|apply aa|(apply ab;intro X Y;go_simp;apply Y;clear Y X)
 refine dF [] [] [] [none,none,some (.arr 148 3 nT (s.tk.map Tk.av)),some (.bag 62 1 false none (bo s.q))] (.agg [.osl 3,.osl 2,I s.time]) rfl (by go_simp) ?_ ?_
 ·unfold dx;go_simp;refine ⟨_,_,⟨_,gC⟩,?_⟩;go_simp;kernel_rfl
 go_simp;refine bz [] 2 ⟨rfl,rfl⟩ ?_;simp only [ax];repeat' with_reducible first|apply aa|(apply ab;intro X Y;go_simp;apply Y;clear Y X)
 apply cR;repeat' with_reducible first|apply af|apply ae
 refine ah [] ?_;repeat' with_reducible first|apply af|apply ae|apply aa|(apply ab;intro X Y;go_simp;apply Y;clear Y X)
 refine ah [] ?_;repeat' with_reducible first|apply af|apply ae|apply aa|(apply ab;intro X Y;go_simp;apply Y;clear Y X)
 refine ah [10] ?_;repeat' with_reducible first|apply af|apply ae|apply aa|(apply ab;intro X Y;go_simp;apply Y;clear Y X)
 refine ah [] ?_;repeat ((with_reducible refine ab fun X Y=>?_);go_simp;refine Y _ ?_;clear Y X)
 apply aa;apply ae;refine tc ⟨[(3,.vp [.sl 4 (r.ranks.map Rk.av),I r.back,I r.ret]),(5,.vp [I 2,I tm,I (k:Int),S car]),(6,.ref 0 0),(8,.ref 5 0),(10,.osl 6)],[some (.box [aW,aW,I 0]),none,none,none,some (.arr 62 1 false ((bo Q0).map fun l=>[AV.sl 1 l])),some (.box [.osl 4,.sl 3 (dH.map Tk.av),I tm]),some (.arr 45 3 true [])]⟩ (fun K hK=>?_) ?_
 ·clear gm HN HI hB;refine ir (fun p a w R=>R.bagArr (id:=4) rfl (by kernel_rfl)) ?_;go_simp;refine gA 5 1 3 rfl rfl rfl ?_;rw [HT.out] at hK;by_cases hx:r.back = -1∨r.back > W.length
  ·have zv:W.length=b:=(hb2 hx).symm;have lV:List.take b (W.map bU)=W.map bU:=List.take_of_length_le (by simp [zv]);have OC:List.drop b (W.map bU)=[]:=List.drop_eq_nil_of_le (by simp [zv]);have rz:=HR.out;rw [lV] at g2;rw [lV,OC,List.append_nil] at rz;have HR:=Lib.hid rz;clear hb1 hb2 hb3 pF OB vT pz rz;rw [zv] at hx;by_cases qy:r.back = -1
   ·clear hx;repeat' with_reducible first|apply af|apply aA
    refine ah [] ?_;repeat' with_reducible first|apply af|apply ae|apply aa|(apply ak;·go_simp)|(apply ab;intro X Y;go_simp;apply Y;clear Y X)
    refine ah [] ?_;repeat' with_reducible first|apply af|apply ae|apply aa|(apply ak;·go_simp)|(apply ab;intro X Y;go_simp;apply Y;clear Y X)
    refine ah [] ?_;repeat' with_reducible first|apply af|apply ae|apply aa|(apply aw;·go_simp)|(apply ab;intro X Y;go_simp;apply Y;clear Y X)
    refine ah [] ?_;repeat' with_reducible first|apply af|apply ae|apply aa|(apply ab;intro X Y;go_simp;(first|(refine ⟨_,g1,?_⟩)|skip);apply Y;clear Y X)
    refine ah [] ?_;repeat' with_reducible first|apply af|apply ae|apply aa|(apply ab;intro X Y;go_simp;apply Y;clear Y X)
    refine ah [] ?_;repeat' with_reducible first|apply ae|apply aa|(apply aw;·go_simp)|(apply ab;intro X Y;go_simp;apply Y;clear Y X)
    refine ah [] ?_;repeat' with_reducible first|apply ae|apply aa|(apply ab;intro X Y;go_simp;apply Y;clear Y X)
    refine CO 16 [95] (fun i=>i == 7 || i == 11 || i == 15) (by kernel_rfl) (by kernel_rfl) (by kernel_rfl) (by go_simp) (by go_simp) ?_;simp only [ax];repeat ((with_reducible refine lg rfl fun X Y=>?_);go_simp;refine Y _ (by go_simp) ?_;clear Y X)
    refine lh [some (.arr 9 1 false (W.map bU))] none (.osl 7) rfl ⟨rfl,fun _=>rfl,fun _ h=>by cases h⟩ ?_ ?_
    ·intro s2 cl;have q1:lkp s2 94 = .sl 1 (W.map bU):=(cl 94 (by simp [Op.operands,Call.operands]) (by go_simp)).trans (by go_simp);clear cl;go_simp;exact ⟨_,_,_,g2,rfl,rfl,rfl⟩
    repeat ((with_reducible refine lg rfl fun X Y=>?_);go_simp;refine Y _ (by go_simp) ?_;clear Y X)
    refine lh [some (.arr 9 1 false (W.map bU++[[S car]]))] (some 7) (.osl 7) rfl ⟨rfl,fun h=>(by cases h),fun _ h=>(by cases h;exact Nat.le_refl _)⟩ ?_ ?_
    ·intro s2 cl;have q1:lkp s2 95 = .osl 7:=(cl 95 (by simp [Op.operands,Call.operands]) (by go_simp)).trans (by go_simp);have q2:lkp s2 98 = .sl 1 [[S car]]:=(cl 98 (by simp [Op.operands,Call.operands]) (by go_simp)).trans (by go_simp);clear cl;go_simp
    repeat ((with_reducible refine lg rfl fun X Y=>?_);go_simp;refine Y _ (by go_simp) ?_;clear Y X)
    refine zw [none] (some 7) (.sl 1 (W.map bU++[[S car]])) rfl ⟨rfl,(fun h=>by cases h),fun _ h=>by cases h;exact Nat.le_refl _⟩ rfl ?_ ?_
    ·intro s2 cl;have q1:lkp s2 99 = .osl 7:=(cl 99 (by simp [Op.operands,Call.operands]) (by go_simp)).trans (by go_simp);have q2:lkp s2 102 = .sl 1 ([]):=(cl 102 (by simp [Op.operands,Call.operands]) (by go_simp)).trans (by go_simp);clear cl;go_simp;exact zx (id:=7) rfl rfl
    repeat (first|(with_reducible first|apply ae|apply bf|apply aa|(apply ab;intro X Y;go_simp;apply Y;clear Y X))|((with_reducible refine re ?_);simp only [List.nil_append,lJ,n_,if_true]))
    skip
    rw [HR.out] at hK;refine hK _ ?_;go_simp
   ·have B_:(b:Int) < r.back:=by omega
    clear hx;repeat' with_reducible first|apply af|apply aA
    refine ah [] ?_;repeat' with_reducible first|apply af|apply ae|apply aa|(apply ak;·go_simp)|(apply ab;intro X Y;go_simp;apply Y;clear Y X)
    refine ah [] ?_;repeat' with_reducible first|apply af|apply ae|apply aa|(apply ak;·go_simp)|(apply ab;intro X Y;go_simp;apply Y;clear Y X)
    refine ah [] ?_;repeat' with_reducible first|apply af|apply ae|apply aa|(apply aw;·go_simp)|(apply ab;intro X Y;go_simp;apply Y;clear Y X)
    refine ah [] ?_;repeat' with_reducible first|apply af|apply ae|apply aa|(apply ab;intro X Y;go_simp;(first|(refine ⟨_,g1,?_⟩)|skip);apply Y;clear Y X)
    refine ah [] ?_;repeat' with_reducible first|apply af|apply ae|apply aa|(apply ab;intro X Y;go_simp;apply Y;clear Y X)
    refine ah [] ?_;repeat' with_reducible first|apply ae|apply aa|(apply aw;·go_simp)|(apply ab;intro X Y;go_simp;apply Y;clear Y X)
    refine ah [] ?_;repeat' with_reducible first|apply ae|apply aa|(apply ab;intro X Y;go_simp;apply Y;clear Y X)
    refine CO 16 [95] (fun i=>i == 7 || i == 11 || i == 15) (by kernel_rfl) (by kernel_rfl) (by kernel_rfl) (by go_simp) (by go_simp) ?_;simp only [ax];repeat ((with_reducible refine lg rfl fun X Y=>?_);go_simp;refine Y _ (by go_simp) ?_;clear Y X)
    refine lh [some (.arr 9 1 false (W.map bU))] none (.osl 7) rfl ⟨rfl,fun _=>rfl,fun _ h=>by cases h⟩ ?_ ?_
    ·intro s2 cl;have q1:lkp s2 94 = .sl 1 (W.map bU):=(cl 94 (by simp [Op.operands,Call.operands]) (by go_simp)).trans (by go_simp);clear cl;go_simp;exact ⟨_,_,_,g2,rfl,rfl,rfl⟩
    repeat ((with_reducible refine lg rfl fun X Y=>?_);go_simp;refine Y _ (by go_simp) ?_;clear Y X)
    refine lh [some (.arr 9 1 false (W.map bU++[[S car]]))] (some 7) (.osl 7) rfl ⟨rfl,fun h=>(by cases h),fun _ h=>(by cases h;exact Nat.le_refl _)⟩ ?_ ?_
    ·intro s2 cl;have q1:lkp s2 95 = .osl 7:=(cl 95 (by simp [Op.operands,Call.operands]) (by go_simp)).trans (by go_simp);have q2:lkp s2 98 = .sl 1 [[S car]]:=(cl 98 (by simp [Op.operands,Call.operands]) (by go_simp)).trans (by go_simp);clear cl;go_simp
    repeat ((with_reducible refine lg rfl fun X Y=>?_);go_simp;refine Y _ (by go_simp) ?_;clear Y X)
    refine zw [none] (some 7) (.sl 1 (W.map bU++[[S car]])) rfl ⟨rfl,(fun h=>by cases h),fun _ h=>by cases h;exact Nat.le_refl _⟩ rfl ?_ ?_
    ·intro s2 cl;have q1:lkp s2 99 = .osl 7:=(cl 99 (by simp [Op.operands,Call.operands]) (by go_simp)).trans (by go_simp);have q2:lkp s2 102 = .sl 1 ([]):=(cl 102 (by simp [Op.operands,Call.operands]) (by go_simp)).trans (by go_simp);clear cl;go_simp;exact zx (id:=7) rfl rfl
    repeat (first|(with_reducible first|apply ae|apply bf|apply aa|(apply ab;intro X Y;go_simp;apply Y;clear Y X))|((with_reducible refine re ?_);simp only [List.nil_append,lJ,n_,if_true]))
    skip
    rw [HR.out] at hK;refine hK _ ?_;go_simp
  ·have zv:r.back=b:=hb3 hx;have qy:¬(b:Int) = -1:=by omega
   have B_:¬(W.length:Int) < b:=by omega
   have lV:List.take W.length (W.map bU)=W.map bU:=List.take_of_length_le (by simp);clear hx hb2 hb3 pF;repeat' with_reducible first|apply af|apply aA
   refine ah [] ?_;repeat' with_reducible first|apply af|apply ae|apply aa|(apply ak;·go_simp)|(apply ab;intro X Y;go_simp;apply Y;clear Y X)
   refine ah [] ?_;repeat' with_reducible first|apply af|apply ae|apply aa|(apply ak;·go_simp)|(apply ab;intro X Y;go_simp;apply Y;clear Y X)
   refine ah [] ?_;repeat' with_reducible first|apply af|apply ae|apply aa|(apply aw;·go_simp)|(apply ab;intro X Y;go_simp;apply Y;clear Y X)
   refine ah [] ?_;repeat' with_reducible first|apply af|apply ae|apply aa|(apply ab;intro X Y;go_simp;(first|(refine ⟨_,g1,?_⟩)|skip);apply Y;clear Y X)
   refine ah [] ?_;repeat' with_reducible first|apply af|apply ae|apply aa|(apply ab;intro X Y;go_simp;apply Y;clear Y X)
   refine ah [] ?_;repeat' with_reducible first|apply ae|apply ar|apply aa|(apply ak;·go_simp)|(apply ab;intro X Y;go_simp;apply Y;clear Y X)
   refine CO 16 [95] (fun i=>i == 7 || i == 11 || i == 15) (by kernel_rfl) (by kernel_rfl) (by kernel_rfl) (by go_simp) (by go_simp) ?_;simp only [ax];repeat ((with_reducible refine lg rfl fun X Y=>?_);go_simp;refine Y _ (by go_simp) ?_;clear Y X)
   refine lh [some (.arr 9 1 false ((W.map bU).take b))] none (.osl 7) rfl ⟨rfl,fun _=>rfl,fun _ h=>by cases h⟩ ?_ ?_
   ·intro s2 cl;have q1:lkp s2 94 = .sl 1 ((W.map bU).take b):=(cl 94 (by simp [Op.operands,Call.operands]) (by go_simp)).trans (by go_simp);clear cl;go_simp;exact ⟨_,_,_,g2,rfl,rfl,rfl⟩
   repeat ((with_reducible refine lg rfl fun X Y=>?_);go_simp;refine Y _ (by go_simp) ?_;clear Y X)
   refine lh [some (.arr 9 1 false ((W.map bU).take b++[[S car]]))] (some 7) (.osl 7) rfl ⟨rfl,fun h=>(by cases h),fun _ h=>(by cases h;exact Nat.le_refl _)⟩ ?_ ?_
   ·intro s2 cl;have q1:lkp s2 95 = .osl 7:=(cl 95 (by simp [Op.operands,Call.operands]) (by go_simp)).trans (by go_simp);have q2:lkp s2 98 = .sl 1 [[S car]]:=(cl 98 (by simp [Op.operands,Call.operands]) (by go_simp)).trans (by go_simp);clear cl;go_simp
   repeat ((with_reducible refine lg rfl fun X Y=>?_);go_simp;refine Y _ (by go_simp) ?_;clear Y X)
   refine zw [none] (some 7) (.sl 1 ((W.map bU).take b++[[S car]]++(W.map bU).drop b)) rfl ⟨rfl,(fun h=>by cases h),fun _ h=>by cases h;exact Nat.le_refl _⟩ rfl ?_ ?_
   ·intro s2 cl;have q1:lkp s2 99 = .osl 7:=(cl 99 (by simp [Op.operands,Call.operands]) (by go_simp)).trans (by go_simp);have q2:lkp s2 102 = .sl 1 ((W.map bU).drop b):=(cl 102 (by simp [Op.operands,Call.operands]) (by go_simp)).trans (by go_simp);clear cl;go_simp;exact zx (id:=7) rfl rfl
   repeat (first|(with_reducible first|apply ae|apply bf|apply aa|(apply ab;intro X Y;go_simp;apply Y;clear Y X))|((with_reducible refine re ?_);simp only [List.nil_append,lJ,n_,if_true]))
   skip
   rw [HR.out] at hK;refine hK _ ?_;go_simp
 ·refine gA 5 0 4 rfl rfl rfl ?_;repeat' first|(with_reducible first|apply af|apply ae|apply ar|apply aA|apply aa|refine ah [] ?_|(apply aw;·go_simp)|(apply ak;·go_simp))|((with_reducible apply ab);intro X Y;go_simp;(first|(refine ⟨_,gm,?_⟩)|skip);apply Y;clear Y X)
  apply nB (α:=St×List Sg) [3,6,8] (fun (x:St×List Sg)=>[(10,.osl 6),(14,I (cO r x.1))]) (fun (x:St×List Sg)=>([some (.box [aW,aW,I 0]),none,none,none,none,some (.box [hJ x.1.q,.sl 3 (x.1.tk.map Tk.av),I x.1.time]),some (.arr 45 3 false (x.2.map Sg.av))] : Hp)) (fun (x:St×List Sg)=>Hid (Inv r x.1)∧x.2.length+2*cB 0 x.1.q≤1000000∧Hid (∃ n,cB 0 x.1.q≤n∧cD r n x.1 x.2=(S2,M2))) (fun (x:St×List Sg)=>cB 0 x.1.q) ((⟨Q0,dH,tm⟩,[(⟨2,(k:Int),car⟩ : Sg)])) ⟨HI,hB,HN⟩
  ·(go_simp<;>exact rfl)
  ·go_simp
  rintro ⟨⟨Q,TK,t⟩,m⟩ ⟨bx,iv,HE⟩ K hK;simp only at bx iv HE hK ⊢;obtain ⟨n3,ea,cT⟩:=HE.out;by_cases bZ:cO r ⟨Q,TK,t⟩ < 0
  ·have e:(⟨Q,TK,t⟩,m)=(S2,M2):=by
    cases n3 with
    | zero=>exact cT
    | succ n=>rw [cD,if_pos bZ] at cT;exact cT
   clear hK cT HE ea iv;injection e with e1 e2
   subst e1;subst e2;generalize cO r ⟨Q,TK,t⟩=R at *;have kn:¬0≤R:=by omega
   refine ra 10 6 rfl rfl ?_;repeat' with_reducible first|apply af|apply ae|apply bP|apply az|apply bQ|apply bT|apply aa|refine ah [] ?_|(apply ak;·go_simp)|(apply ab;intro X Y;go_simp;apply Y;clear Y X)
   go_simp
  ·obtain ⟨j,ej,hj,hp⟩:=nz bZ;have fJ:j < Q.length:=by rw [bx.out.len];exact hj
   obtain ⟨f1,f2,f3⟩:=ny hp;obtain ⟨p1,p2,p3⟩:=HU.out.feedN hj f1;have dh:feedN r j < Q.length:=by rw [bx.out.len];exact p3
   have gX:=pD HU.out bx.out.len fJ f1 f2;have bV:=bx.out.up HU.out fJ f1 f2 f3;have ko:=uh r Q j (feedN r j) fJ bx.out.len.symm p1 dh (by omega) f2 (by rw [bx.out.len];have:=HU.out.n6;omega) fun i jv=>by
    have h1:=bx.out.fit i jv;have h2:=HU.out.pl i (by rw [←bx.out.len];exact jv);simp only at h1;omega
   rw [rV fJ dh (by omega)] at ko;have od:=l9 r (upS r ⟨Q,TK,t⟩ j) hn (by rw [bV.len]) (by rw [bV.len];exact HU.out.feed);have gB:∃ n,cB 0 (upS r ⟨Q,TK,t⟩ j).q≤n∧cD r n (upS r ⟨Q,TK,t⟩ j) (m++upM Q j (feedN r j))=(S2,M2):=by
    cases n3 with
    | zero=>simp only at gX ea;omega
    | succ n3=>
     rw [cD,if_neg bZ,ej,Int.toNat_natCast] at cT;exact ⟨n3,by simp only at gX ea;omega,cT⟩
   have HX:=Lib.hid gB;have lX:=Lib.hid bV;have pn:m.length+(upM Q j (feedN r j)).length=m.length+2:=by simp [upM]
   have kX:(m++upM Q j (feedN r j)).length=m.length+2:=by simp [upM]
   have oe:(upM Q j (feedN r j)).length=2:=by simp [upM]
   have og:m.length+2≤1000000000:=by omega
   clear cT HE gB bV ea bZ bx f1 f2 f3 hp;unfold upS at *;simp only at *;generalize upQ Q j (feedN r j)=Q2 at *;have mf:(m++upM Q j (feedN r j)).map Sg.av=m.map Sg.av++(upM Q j (feedN r j)).map Sg.av:=List.map_append;generalize upM Q j (feedN r j)=U at *;rw [ej];repeat' with_reducible first|apply af|apply ae|apply ar|apply aA|apply bf|apply aa|refine ah [] ?_|(apply aw;·go_simp)|(apply ab;intro X Y;go_simp;(first|(refine ⟨_,ko,?_⟩)|(refine ⟨_,od,?_⟩)|skip);apply Y;clear Y X)
   refine hK _ (⟨Q2,TK,t⟩,m++U) ⟨lX,by simp only;omega,HX⟩ (by simp only;omega) ?_;simp only [mf];go_simp
theorem OD (r:Ru) (s S2:St) (tm:Int) (k:Nat) (car:ByteArray) (M2:List Sg) (Q0:List (List ByteArray)) (dH:List Tk) (hn:r.ranks.length≤1000000) (hr:RuOK r) (dw:SmallS s) (hk:k < s.q.length) (_hrl:r.ranks.length=s.q.length) (kl:Q0=s.q.set k ([car]++qat s.q k)) (kG:dH=woK s.tk car) (hI:Inv r ⟨Q0,dH,tm⟩) (hB : [(⟨0,(k:Int),car⟩ : Sg)].length+2*cB 0 Q0≤1000000) (gH:∃ n,cB 0 Q0≤n∧cD r n ⟨Q0,dH,tm⟩ [(⟨0,(k:Int),car⟩ : Sg)]=(S2,M2)) :
  VC Tryz.prog 68 [b8 r,da s,.agg [I 5,I tm,I (k:Int),S car]] (.tup [da S2,.sl 3 (M2.map Sg.av)]):=by
 have gC:=ui s dw;have au:¬bo s.q=[]:=fun h=>by
  have:=qb s.q;rw [h] at this;simp at this;omega
 rw [decide_eq_false au] at gC;have HI:=Lib.hid hI;have HU:=Lib.hid hr;have HN:=Lib.hid gH;have gm:=l9 r ⟨Q0,dH,tm⟩ hn hI.len.symm (by rw [hI.len];exact hr.feed);have jb:(qat s.q k).length≤300:=by rw [eM hk];exact (dw.q1 _ (List.getElem_mem hk)).1
 have km:=dw.nt;clear hI hr gH dw au;generalize decide (s.tk.map Tk.av=[])=nT at *;have g1:=GY s.tk car (by omega);have hb1:1+(qat s.q k).length≤1000000000:=by omega
 have hb2:(qat s.q k).length+1≤1000000000:=by omega
 have aX:(bo Q0).map (fun l=>[AV.sl 1 l])=((bo s.q).map fun l=>[AV.sl 1 l]).set k [.sl 1 ([[S car]]++(qat s.q k).map bU)]:=by
  rw [kl,←zu];rfl
 have HR:=Lib.hid aX;rw [←kG] at g1;clear kl aX kG;refine aQ Tryz.func68 rfl (by kernel_rfl) rfl fun M0 w0=>?_;simp only [Tryz.ntmps68,Tryz.results68,aB];repeat' with_reducible apply af
 refine ah [] ?_;repeat' with_reducible first|apply af|apply ae|apply aa|(apply ab;intro X Y;go_simp;apply Y;clear Y X)
 refine dB (bz [] 1 ⟨rfl,rfl⟩ ?_);simp only [ax];repeat' with_reducible first|apply aa|(apply ab;intro X Y;go_simp;apply Y;clear Y X)
 refine dF [] [] [] [none,none,some (.arr 148 3 nT (s.tk.map Tk.av)),some (.bag 62 1 false none (bo s.q))] (.agg [.osl 3,.osl 2,I s.time]) rfl (by go_simp) ?_ ?_
 ·unfold dx;go_simp;refine ⟨_,_,⟨_,gC⟩,?_⟩;go_simp;kernel_rfl
 go_simp;refine bz [] 2 ⟨rfl,rfl⟩ ?_;simp only [ax];repeat' with_reducible first|apply aa|(apply ab;intro X Y;go_simp;apply Y;clear Y X)
 apply cR;repeat' with_reducible first|apply af|apply ae
 refine ah [] ?_;repeat' with_reducible first|apply af|apply ae|apply aa|(apply ab;intro X Y;go_simp;apply Y;clear Y X)
 refine ah [] ?_;repeat' with_reducible first|apply af|apply ae|apply aa|(apply ab;intro X Y;go_simp;apply Y;clear Y X)
 refine ah [10] ?_;repeat' with_reducible first|apply af|apply ae|apply aa|(apply ab;intro X Y;go_simp;apply Y;clear Y X)
 refine ah [] ?_;repeat ((with_reducible refine ab fun X Y=>?_);go_simp;refine Y _ ?_;clear Y X)
 apply aa;apply ae;refine tc ⟨[(3,.vp [.sl 4 (r.ranks.map Rk.av),I r.back,I r.ret]),(5,.vp [I 5,I tm,I (k:Int),S car]),(6,.ref 0 0),(8,.ref 5 0),(10,.osl 6)],[some (.box [aW,aW,I 0]),none,none,none,some (.arr 62 1 false ((bo Q0).map fun l=>[AV.sl 1 l])),some (.box [.osl 4,.sl 3 (dH.map Tk.av),I tm]),some (.arr 45 3 true [])]⟩ (fun K hK=>?_) ?_
 ·clear gm HN HI hB;refine ir (fun p a w R=>R.bagArr (id:=4) rfl (by kernel_rfl)) ?_;go_simp;refine gA 5 1 3 rfl rfl rfl ?_;repeat' with_reducible first|apply af|apply aA
  refine ah [] ?_;repeat' with_reducible first|apply af|apply ae|apply aa|(apply ak;·go_simp)|(apply ab;intro X Y;go_simp;apply Y;clear Y X)
  refine ah [] ?_;repeat' with_reducible first|apply af|apply ae|apply aa|(apply ak;·go_simp)|(apply ab;intro X Y;go_simp;apply Y;clear Y X)
  refine ah [] ?_;repeat' with_reducible first|apply af|apply ae|apply aa|(apply ak;·go_simp)|(apply ab;intro X Y;go_simp;apply Y;clear Y X)
  refine ah [] ?_;repeat' with_reducible first|apply af|apply ae|apply aa|(apply ak;·go_simp)|(apply ab;intro X Y;go_simp;apply Y;clear Y X)
  refine ah [] ?_;repeat' with_reducible first|apply af|apply ae|apply aa|(apply ak;·go_simp)|(apply ab;intro X Y;go_simp;apply Y;clear Y X)
  refine ah [] ?_;repeat' with_reducible first|apply af|apply ae|apply aa|(apply aw;·go_simp)|(apply ab;intro X Y;go_simp;apply Y;clear Y X)
  refine wK 9 [136] (fun i=>i == 6 || i == 8) (by kernel_rfl) (by kernel_rfl) (by kernel_rfl) (by go_simp) (by go_simp) ?_;simp only [ax];repeat ((with_reducible refine lg rfl fun X Y=>?_);go_simp;refine Y _ (by go_simp) ?_;clear Y X)
  refine lh [some (.arr 9 1 false [[S car]])] none (.osl 7) rfl ⟨rfl,fun _=>rfl,fun _ h=>by cases h⟩ ?_ ?_
  ·intro s2 cl;have q1:lkp s2 135=S car:=(cl 135 (by simp [Op.operands]) (by go_simp)).trans (by go_simp);clear cl;go_simp
  repeat ((with_reducible refine lg rfl fun X Y=>?_);go_simp;refine Y _ (by go_simp) ?_;clear Y X)
  refine zw [none] (some 7) (.sl 1 ([[S car]]++(qat s.q k).map bU)) rfl ⟨rfl,(fun h=>by cases h),fun _ h=>by cases h;exact Nat.le_refl _⟩ rfl ?_ ?_
  ·intro s2 cl;have q1:lkp s2 136 = .osl 7:=(cl 136 (by simp [Op.operands,Call.operands]) (by go_simp)).trans (by go_simp);have q2:lkp s2 137 = .sl 1 ((qat s.q k).map bU):=(cl 137 (by simp [Op.operands,Call.operands]) (by go_simp)).trans (by go_simp);clear cl;go_simp;exact zx (id:=7) rfl rfl
  repeat (first|(with_reducible first|apply ae|apply aa|refine ah [] ?_|(apply ab;intro X Y;go_simp;apply Y;clear Y X))|((with_reducible refine re ?_);simp only [List.cons_append,List.nil_append,lJ,n_,if_true]))
  repeat' with_reducible first|apply ae|apply bf|apply aa|(apply ab;intro X Y;go_simp;(first|(refine ⟨_,g1,?_⟩)|skip);apply Y;clear Y X)
  rw [HR.out] at hK;refine hK _ ?_;go_simp
 ·refine gA 5 0 4 rfl rfl rfl ?_;repeat' first|(with_reducible first|apply af|apply ae|apply aA|apply aa|refine ah [] ?_|(apply aw;·go_simp))|((with_reducible apply ab);intro X Y;go_simp;(first|(refine ⟨_,gm,?_⟩)|skip);apply Y;clear Y X)
  apply nB (α:=St×List Sg) [3,6,8] (fun (x:St×List Sg)=>[(10,.osl 6),(14,I (cO r x.1))]) (fun (x:St×List Sg)=>([some (.box [aW,aW,I 0]),none,none,none,none,some (.box [hJ x.1.q,.sl 3 (x.1.tk.map Tk.av),I x.1.time]),some (.arr 45 3 false (x.2.map Sg.av))] : Hp)) (fun (x:St×List Sg)=>Hid (Inv r x.1)∧x.2.length+2*cB 0 x.1.q≤1000000∧Hid (∃ n,cB 0 x.1.q≤n∧cD r n x.1 x.2=(S2,M2))) (fun (x:St×List Sg)=>cB 0 x.1.q) ((⟨Q0,dH,tm⟩,[(⟨0,(k:Int),car⟩ : Sg)])) ⟨HI,hB,HN⟩
  ·(go_simp<;>exact rfl)
  ·go_simp
  rintro ⟨⟨Q,TK,t⟩,m⟩ ⟨bx,iv,HE⟩ K hK;simp only at bx iv HE hK ⊢;obtain ⟨n3,ea,cT⟩:=HE.out;by_cases bZ:cO r ⟨Q,TK,t⟩ < 0
  ·have e:(⟨Q,TK,t⟩,m)=(S2,M2):=by
    cases n3 with
    | zero=>exact cT
    | succ n=>rw [cD,if_pos bZ] at cT;exact cT
   clear hK cT HE ea iv;injection e with e1 e2
   subst e1;subst e2;generalize cO r ⟨Q,TK,t⟩=R at *;have kn:¬0≤R:=by omega
   refine ra 10 6 rfl rfl ?_;repeat' with_reducible first|apply af|apply ae|apply bP|apply az|apply bQ|apply bT|apply aa|refine ah [] ?_|(apply ak;·go_simp)|(apply ab;intro X Y;go_simp;apply Y;clear Y X)
   go_simp
  ·obtain ⟨j,ej,hj,hp⟩:=nz bZ;have fJ:j < Q.length:=by rw [bx.out.len];exact hj
   obtain ⟨f1,f2,f3⟩:=ny hp;obtain ⟨p1,p2,p3⟩:=HU.out.feedN hj f1;have dh:feedN r j < Q.length:=by rw [bx.out.len];exact p3
   have gX:=pD HU.out bx.out.len fJ f1 f2;have bV:=bx.out.up HU.out fJ f1 f2 f3;have ko:=uh r Q j (feedN r j) fJ bx.out.len.symm p1 dh (by omega) f2 (by rw [bx.out.len];have:=HU.out.n6;omega) fun i jv=>by
    have h1:=bx.out.fit i jv;have h2:=HU.out.pl i (by rw [←bx.out.len];exact jv);simp only at h1;omega
   rw [rV fJ dh (by omega)] at ko;have od:=l9 r (upS r ⟨Q,TK,t⟩ j) hn (by rw [bV.len]) (by rw [bV.len];exact HU.out.feed);have gB:∃ n,cB 0 (upS r ⟨Q,TK,t⟩ j).q≤n∧cD r n (upS r ⟨Q,TK,t⟩ j) (m++upM Q j (feedN r j))=(S2,M2):=by
    cases n3 with
    | zero=>simp only at gX ea;omega
    | succ n3=>
     rw [cD,if_neg bZ,ej,Int.toNat_natCast] at cT;exact ⟨n3,by simp only at gX ea;omega,cT⟩
   have HX:=Lib.hid gB;have lX:=Lib.hid bV;have pn:m.length+(upM Q j (feedN r j)).length=m.length+2:=by simp [upM]
   have kX:(m++upM Q j (feedN r j)).length=m.length+2:=by simp [upM]
   have oe:(upM Q j (feedN r j)).length=2:=by simp [upM]
   have og:m.length+2≤1000000000:=by omega
   clear cT HE gB bV ea bZ bx f1 f2 f3 hp;unfold upS at *;simp only at *;generalize upQ Q j (feedN r j)=Q2 at *;have mf:(m++upM Q j (feedN r j)).map Sg.av=m.map Sg.av++(upM Q j (feedN r j)).map Sg.av:=List.map_append;generalize upM Q j (feedN r j)=U at *;rw [ej];repeat' with_reducible first|apply af|apply ae|apply ar|apply aA|apply bf|apply aa|refine ah [] ?_|(apply aw;·go_simp)|(apply ab;intro X Y;go_simp;(first|(refine ⟨_,ko,?_⟩)|(refine ⟨_,od,?_⟩)|skip);apply Y;clear Y X)
   refine hK _ (⟨Q2,TK,t⟩,m++U) ⟨lX,by simp only;omega,HX⟩ (by simp only;omega) ?_;simp only [mf];go_simp
end Go.Proofs.YtoibondihdhnoaaGreatDoor
