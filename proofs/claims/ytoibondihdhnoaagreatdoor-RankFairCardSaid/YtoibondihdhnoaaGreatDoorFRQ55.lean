/- Texts in one: Walks: an event is carried out, as the reference has it. Printed by genR39.py. -/
import Derived.Test.YtoibondihdhnoaaGreatDoorFRQ9
import Derived.Test.YtoibondihdhnoaaGreatDoorFRQ53
import Derived.Test.YtoibondihdhnoaaGreatDoorFRQ28
import Derived.Test.YtoibondihdhnoaaGreatDoorFRQ54
namespace Go.Proofs.YtoibondihdhnoaaGreatDoor
open Go.RowKit
set_option maxRecDepth 100000
set_option maxHeartbeats 4000000
theorem zj {q:List (List ByteArray)} {k:Nat} {l:List ByteArray} : ((bA q).map fun l=>[AV.sl 1 l]).set k [.sl 1 (l.map bY)]=(bA (q.set k l)).map fun l=>[AV.sl 1 l]:=by
 rw [←lK,List.map_set]
theorem G0 {c:ByteArray} (h:cu c=true) : c.size≤1000:=by
 unfold cu at h;simp only [Bool.and_eq_true,decide_eq_true_eq] at h;omega
theorem Inv.small {r:Ru} {s:St} (hr:RuOK r) (h:Inv r s) : SmallS s:=by
 have h6:=hr.n6;have hl:=h.len;have dN:∀ l∈s.q,l.length≤300:=fun l fu=>by
  obtain ⟨i,hi,rfl⟩:=List.getElem_of_mem fu;have h1:=h.fit i hi;have h2:=hr.pl i (by omega);rw [iJ hi] at h1;omega
 refine ⟨by omega,fun l fu=>⟨dN l fu,fun c hc=>G0 (h.name c (List.mem_append_left _ (List.mem_flatten.2 ⟨l,fu,hc⟩)))⟩,by have:=h.tkl;omega,fun t ht=>?_,?_⟩
 ·have h1:=h.tkr t ht;have h2:=h.tkt t ht;have h3:=h.t0;exact ⟨G0 (h.name _ (List.mem_append_right _ (List.mem_map.2 ⟨t,ht,rfl⟩))),⟨by omega,by omega⟩,⟨by omega,by omega⟩⟩
 ·have h3:=h.t0;exact ⟨by omega,by omega⟩
theorem Ox (r:Ru) (s S2:St) (tm:Int) (k:Nat) (car:ByteArray) (M2 SN:List Sg) (Q0:List (List ByteArray)) (dA:List Tk) (hn:r.ranks.length≤1000000) (hr:RuOK r) (dy:SmallS s) (hk:k < s.q.length) (dW:r.ranks.length=s.q.length) (f:Nat) (hf:(rat r.ranks k).feeder=f) (cX:f < s.q.length) (aq:f≠k) (hp:0 < (qat s.q f).length) (dF:∀ i,i < s.q.length→(qat s.q i).length≤1000000) (kl:Q0=pw s.q k f) (kL:dA=s.tk) (su:SN=upM s.q k f) (hI:Inv r ⟨Q0,dA,tm⟩) (hB:SN.length+2*cA 0 Q0≤1000000) (gw:∃ n,cA 0 Q0≤n∧cD r n ⟨Q0,dA,tm⟩ SN=(S2,M2)) :
  VC Tryz.prog 68 [bJ r,dX s,.agg [I 4,I tm,I (k:Int),S car]] (.tup [dX S2,.sl 3 (M2.map Sg.av)]):=by
 have gC:=uc s dy;have wG:¬bA s.q=[]:=fun h=>by
  have:=p4 s.q;rw [h] at this;simp at this;omega
 rw [decide_eq_false wG] at gC;have HI:=Lib.hid hI;have HU:=Lib.hid hr;have HN:=Lib.hid gw;have gm:=mE r ⟨Q0,dA,tm⟩ hn hI.len.symm (by rw [hI.len];exact hr.feed);have iT:(qat s.q k).length≤300:=by rw [iJ hk];exact (dy.q1 _ (List.getElem_mem hk)).1
 have km:=dy.nt;clear hI hr gw dy wG;generalize decide (s.tk.map Tk.av=[])=nT at *;have g4:=GY r s.q k f hk dW hf cX aq hp (by have:=HU.out.n6;omega) dF;rw [←kl,←su] at g4;clear hf cX aq hp dF kl su;refine aL Tryz.func68 rfl (by kernel_rfl) rfl fun M0 w0=>?_;simp only [Tryz.ntmps68,Tryz.results68,aC];repeat' with_reducible apply af
 refine ah [] ?_;repeat' with_reducible first|apply af|apply ae|apply aa|(apply ab;intro X Y;go_simp;apply Y;clear Y X)
 refine dm (bb [] 1 ⟨rfl,rfl⟩ ?_);simp only [au];repeat' with_reducible first|apply aa|(apply ab;intro X Y;go_simp;apply Y;clear Y X)
 refine dI [] [] [] [none,none,some (.arr 148 3 nT (s.tk.map Tk.av)),some (.bag 62 1 false none (bA s.q))] (.agg [.osl 3,.osl 2,I s.time]) rfl (by go_simp) ?_ ?_
 ·unfold dv;go_simp;refine ⟨_,_,⟨_,gC⟩,?_⟩;go_simp;kernel_rfl
 go_simp;refine bb [] 2 ⟨rfl,rfl⟩ ?_;simp only [au];repeat' with_reducible first|apply aa|(apply ab;intro X Y;go_simp;apply Y;clear Y X)
 apply cF;repeat' with_reducible first|apply af|apply ae
 refine ah [] ?_;repeat' with_reducible first|apply af|apply ae|apply aa|(apply ab;intro X Y;go_simp;apply Y;clear Y X)
 refine ah [] ?_;repeat' with_reducible first|apply af|apply ae|apply aa|(apply ab;intro X Y;go_simp;apply Y;clear Y X)
 refine ah [] ?_;repeat' with_reducible first|apply af|apply ae|apply aa|(apply ab;intro X Y;go_simp;apply Y;clear Y X)
 refine hZ (fun p a w R=>R.bagArr (id:=4) rfl (by kernel_rfl)) ?_;go_simp;refine gV 5 0 4 rfl rfl rfl ?_;refine gV 5 1 3 rfl rfl rfl ?_;go_simp;refine ah [] ?_;repeat' with_reducible first|apply af|apply ae|apply aE|apply aa|(apply ab;intro X Y;go_simp;apply Y;clear Y X)
 refine ah [] ?_;repeat' with_reducible first|apply af|apply ae|apply aa|(apply ar;·go_simp)|(apply ab;intro X Y;go_simp;apply Y;clear Y X)
 refine ah [] ?_;repeat' with_reducible first|apply af|apply ae|apply aa|(apply ar;·go_simp)|(apply ab;intro X Y;go_simp;apply Y;clear Y X)
 refine ah [] ?_;repeat' with_reducible first|apply af|apply ae|apply aa|(apply ar;·go_simp)|(apply ab;intro X Y;go_simp;apply Y;clear Y X)
 refine ah [] ?_;repeat' with_reducible first|apply af|apply ae|apply aa|(apply ar;·go_simp)|(apply ab;intro X Y;go_simp;apply Y;clear Y X)
 refine ah [] ?_;repeat' with_reducible first|apply ae|apply aa|(apply ax;·go_simp)|(apply ab;intro X Y;go_simp;apply Y;clear Y X)
 refine dm (bb [] 5 ⟨rfl,rfl⟩ ?_);simp only [au];repeat' with_reducible first|apply aa|(apply ab;intro X Y;go_simp;apply Y;clear Y X)
 refine dI [] [] [] [none,some (.arr 45 3 false (SN.map Sg.av))] (.tup [hQ Q0,.osl 1]) rfl (by go_simp) ?_ ?_
 ·unfold dv;go_simp;refine ⟨_,_,⟨_,g4⟩,?_⟩;go_simp;kernel_rfl
 go_simp;refine bb [] 6 ⟨rfl,rfl⟩ ?_;simp only [au];repeat' with_reducible first|apply aa|(apply ab;intro X Y;go_simp;apply Y;clear Y X)
 apply cF;subst kL;repeat' first|(with_reducible first|apply af|apply ae|apply aw|apply aE|apply bc|apply aa|refine ah [] ?_|(apply ar;·go_simp))|((with_reducible apply ab);intro X Y;go_simp;(first|(refine ⟨_,gm,?_⟩)|skip);apply Y;clear Y X)
 apply mz (α:=St×List Sg) [3,6,8] (fun (x:St×List Sg)=>[(10,.osl 7),(14,I (di r x.1))]) (fun (x:St×List Sg)=>([some (.box [bG,bG,I 0]),none,none,none,none,some (.box [hQ x.1.q,.sl 3 (x.1.tk.map Tk.av),I x.1.time]),none,some (.arr 45 3 false (x.2.map Sg.av))] : Hp)) (fun (x:St×List Sg)=>Hid (Inv r x.1)∧x.2.length+2*cA 0 x.1.q≤1000000∧Hid (∃ n,cA 0 x.1.q≤n∧cD r n x.1 x.2=(S2,M2))) (fun (x:St×List Sg)=>cA 0 x.1.q) ((⟨Q0,s.tk,tm⟩,SN)) ⟨HI,hB,HN⟩
 ·(go_simp<;>exact rfl)
 ·go_simp
 rintro ⟨⟨Q,TK,t⟩,m⟩ ⟨bj,ie,HE⟩ K hK;simp only at bj ie HE hK ⊢;obtain ⟨n3,dQ,cN⟩:=HE.out;by_cases bT:di r ⟨Q,TK,t⟩ < 0
 ·have e:(⟨Q,TK,t⟩,m)=(S2,M2):=by
   cases n3 with
   | zero=>exact cN
   | succ n=>rw [cD,if_pos bT] at cN;exact cN
  clear hK cN HE dQ ie;injection e with e1 e2
  subst e1;subst e2;generalize di r ⟨Q,TK,t⟩=R at *;have kn:¬0≤R:=by omega
  refine oU 10 7 rfl rfl ?_;repeat' with_reducible first|apply af|apply ae|apply bU|apply az|apply bV|apply bW|apply aa|refine ah [] ?_|(apply ar;·go_simp)|(apply ab;intro X Y;go_simp;apply Y;clear Y X)
  go_simp
 ·obtain ⟨j,ej,hj,hp⟩:=mu bT;have fF:j < Q.length:=by rw [bj.out.len];exact hj
  obtain ⟨f1,f2,f3⟩:=mr hp;obtain ⟨p1,p2,p3⟩:=HU.out.feedN hj f1;have cX:feedN r j < Q.length:=by rw [bj.out.len];exact p3
  have gM:=pv HU.out bj.out.len fF f1 f2;have bD:=bj.out.up HU.out fF f1 f2 f3;have ko:=ub r Q j (feedN r j) fF bj.out.len.symm p1 cX (by omega) f2 (by rw [bj.out.len];have:=HU.out.n6;omega) fun i jl=>by
   have h1:=bj.out.fit i jl;have h2:=HU.out.pl i (by rw [←bj.out.len];exact jl);simp only at h1;omega
  rw [rL fF cX (by omega)] at ko;have nW:=mE r (upS r ⟨Q,TK,t⟩ j) hn (by rw [bD.len]) (by rw [bD.len];exact HU.out.feed);have fC:∃ n,cA 0 (upS r ⟨Q,TK,t⟩ j).q≤n∧cD r n (upS r ⟨Q,TK,t⟩ j) (m++upM Q j (feedN r j))=(S2,M2):=by
   cases n3 with
   | zero=>simp only at gM dQ;omega
   | succ n3=>
    rw [cD,if_neg bT,ej,Int.toNat_natCast] at cN;exact ⟨n3,by simp only at gM dQ;omega,cN⟩
  have HX:=Lib.hid fC;have lW:=Lib.hid bD;have o_:m.length+(upM Q j (feedN r j)).length=m.length+2:=by simp [upM]
  have kW:(m++upM Q j (feedN r j)).length=m.length+2:=by simp [upM]
  have nX:(upM Q j (feedN r j)).length=2:=by simp [upM]
  have nY:m.length+2≤1000000000:=by omega
  clear cN HE fC bD dQ bT bj f1 f2 f3 hp;unfold upS at *;simp only at *;generalize upQ Q j (feedN r j)=Q2 at *;have ld:(m++upM Q j (feedN r j)).map Sg.av=m.map Sg.av++(upM Q j (feedN r j)).map Sg.av:=List.map_append;generalize upM Q j (feedN r j)=U at *;rw [ej];repeat' with_reducible first|apply af|apply ae|apply aw|apply aE|apply bc|apply aa|refine ah [] ?_|(apply ax;·go_simp)|(apply ab;intro X Y;go_simp;(first|(refine ⟨_,ko,?_⟩)|(refine ⟨_,nW,?_⟩)|skip);apply Y;clear Y X)
  refine hK _ (⟨Q2,TK,t⟩,m++U) ⟨lW,by simp only;omega,HX⟩ (by simp only;omega) ?_;simp only [ld];go_simp
theorem Oy (r:Ru) (s S2:St) (tm:Int) (k:Nat) (car:ByteArray) (M2:List Sg) (Q0:List (List ByteArray)) (dA:List Tk) (hn:r.ranks.length≤1000000) (hr:RuOK r) (dy:SmallS s) (hk:k < s.q.length) (_hrl:r.ranks.length=s.q.length) (kl:Q0=s.q.set k (qat s.q k++[car])) (kL:dA=woK s.tk car) (hI:Inv r ⟨Q0,dA,tm⟩) (hB : [(⟨0,(k:Int),car⟩ : Sg)].length+2*cA 0 Q0≤1000000) (gw:∃ n,cA 0 Q0≤n∧cD r n ⟨Q0,dA,tm⟩ [(⟨0,(k:Int),car⟩ : Sg)]=(S2,M2)) :
  VC Tryz.prog 68 [bJ r,dX s,.agg [I 0,I tm,I (k:Int),S car]] (.tup [dX S2,.sl 3 (M2.map Sg.av)]):=by
 have gC:=uc s dy;have aq:¬bA s.q=[]:=fun h=>by
  have:=p4 s.q;rw [h] at this;simp at this;omega
 rw [decide_eq_false aq] at gC;have HI:=Lib.hid hI;have HU:=Lib.hid hr;have HN:=Lib.hid gw;have gm:=mE r ⟨Q0,dA,tm⟩ hn hI.len.symm (by rw [hI.len];exact hr.feed);have iT:(qat s.q k).length≤300:=by rw [iJ hk];exact (dy.q1 _ (List.getElem_mem hk)).1
 have km:=dy.nt;clear hI hr gw dy aq;generalize decide (s.tk.map Tk.av=[])=nT at *;have g1:=GN s.tk car (by omega);have hb1:(qat s.q k).length+1≤1000000000:=by omega
 have aP:(bA Q0).map (fun l=>[AV.sl 1 l])=((bA s.q).set k ((qat s.q k).map bY++[[S car]])).map fun l=>[AV.sl 1 l]:=by
  rw [kl,ry,lK]
 have HR:=Lib.hid aP;rw [←kL] at g1;clear kl aP kL;refine aL Tryz.func68 rfl (by kernel_rfl) rfl fun M0 w0=>?_;simp only [Tryz.ntmps68,Tryz.results68,aC];repeat' with_reducible apply af
 refine ah [] ?_;repeat' with_reducible first|apply af|apply ae|apply aa|(apply ab;intro X Y;go_simp;apply Y;clear Y X)
 refine dm (bb [] 1 ⟨rfl,rfl⟩ ?_);simp only [au];repeat' with_reducible first|apply aa|(apply ab;intro X Y;go_simp;apply Y;clear Y X)
 refine dI [] [] [] [none,none,some (.arr 148 3 nT (s.tk.map Tk.av)),some (.bag 62 1 false none (bA s.q))] (.agg [.osl 3,.osl 2,I s.time]) rfl (by go_simp) ?_ ?_
 ·unfold dv;go_simp;refine ⟨_,_,⟨_,gC⟩,?_⟩;go_simp;kernel_rfl
 go_simp;refine bb [] 2 ⟨rfl,rfl⟩ ?_;simp only [au];repeat' with_reducible first|apply aa|(apply ab;intro X Y;go_simp;apply Y;clear Y X)
 apply cF;repeat' with_reducible first|apply af|apply ae
 refine ah [] ?_;repeat' with_reducible first|apply af|apply ae|apply aa|(apply ab;intro X Y;go_simp;apply Y;clear Y X)
 refine ah [] ?_;repeat' with_reducible first|apply af|apply ae|apply aa|(apply ab;intro X Y;go_simp;apply Y;clear Y X)
 refine ah [10] ?_;repeat' with_reducible first|apply af|apply ae|apply aa|(apply ab;intro X Y;go_simp;apply Y;clear Y X)
 refine ah [] ?_;repeat ((with_reducible refine ab fun X Y=>?_);go_simp;refine Y _ ?_;clear Y X)
 apply aa;apply ae;refine sZ ⟨[(3,.vp [.sl 4 (r.ranks.map Rk.av),I r.back,I r.ret]),(5,.vp [I 0,I tm,I (k:Int),S car]),(6,.ref 0 0),(8,.ref 5 0),(10,.osl 6)],[some (.box [bG,bG,I 0]),none,none,none,some (.arr 62 1 false ((bA Q0).map fun l=>[AV.sl 1 l])),some (.box [.osl 4,.sl 3 (dA.map Tk.av),I tm]),some (.arr 45 3 true [])]⟩ (fun K hK=>?_) ?_
 ·clear gm HN HI hB;refine gV 5 1 3 rfl rfl rfl ?_;repeat' with_reducible first|apply af|apply aE
  refine ah [] ?_;repeat' with_reducible first|apply af|apply ae|apply aa|(apply ax;·go_simp)|(apply ab;intro X Y;go_simp;apply Y;clear Y X)
  refine mV 8 [8,31,31,32,5,33,33,34] (by kernel_rfl) (by kernel_rfl) (by kernel_rfl) (unW 4) (nc 4) rfl ⟨rfl,rfl⟩ ?_;simp only [List.take];repeat' with_reducible first|apply aQ|(apply aR;intro X Y;go_simp;apply Y;clear Y X)
  refine ⟨_,_,sY (id:=4) (k:=k) (es:=(qat s.q k).map bY) (c:=S car) (by exact rfl) (by exact rfl) (by go_simp) (by go_simp) rz ti9 (by exact rfl) (by go_simp),?_,?_,?_⟩
  ·simp only [List.forall_mem_cons];go_simp
  ·repeat' with_reducible first|apply aQ|(apply aR;intro X Y;go_simp;apply Y;clear Y X)
   simp only [List.forall_mem_cons];go_simp
  go_simp;refine bb [] 2 ⟨rfl,rfl⟩ ?_;simp only [au];repeat' with_reducible first|apply aa|(apply ab;intro X Y;go_simp;apply Y;clear Y X)
  apply cF;repeat' with_reducible apply ae
  refine hZ (fun p a w R=>R.bagArr (id:=4) rfl (by kernel_rfl)) ?_;go_simp;refine ah [] ?_;repeat' with_reducible first|apply ae|apply bc|apply aa|(apply ab;intro X Y;go_simp;(first|(refine ⟨_,g1,?_⟩)|skip);apply Y;clear Y X)
  rw [HR.out] at hK;refine hK _ ?_;go_simp
 ·refine gV 5 0 4 rfl rfl rfl ?_;repeat' first|(with_reducible first|apply af|apply ae|apply aw|apply aE|apply aa|refine ah [] ?_|(apply ax;·go_simp)|(apply ar;·go_simp))|((with_reducible apply ab);intro X Y;go_simp;(first|(refine ⟨_,gm,?_⟩)|skip);apply Y;clear Y X)
  apply mz (α:=St×List Sg) [3,6,8] (fun (x:St×List Sg)=>[(10,.osl 6),(14,I (di r x.1))]) (fun (x:St×List Sg)=>([some (.box [bG,bG,I 0]),none,none,none,none,some (.box [hQ x.1.q,.sl 3 (x.1.tk.map Tk.av),I x.1.time]),some (.arr 45 3 false (x.2.map Sg.av))] : Hp)) (fun (x:St×List Sg)=>Hid (Inv r x.1)∧x.2.length+2*cA 0 x.1.q≤1000000∧Hid (∃ n,cA 0 x.1.q≤n∧cD r n x.1 x.2=(S2,M2))) (fun (x:St×List Sg)=>cA 0 x.1.q) ((⟨Q0,dA,tm⟩,[(⟨0,(k:Int),car⟩ : Sg)])) ⟨HI,hB,HN⟩
  ·(go_simp<;>exact rfl)
  ·go_simp
  rintro ⟨⟨Q,TK,t⟩,m⟩ ⟨bj,ie,HE⟩ K hK;simp only at bj ie HE hK ⊢;obtain ⟨n3,dQ,cN⟩:=HE.out;by_cases bT:di r ⟨Q,TK,t⟩ < 0
  ·have e:(⟨Q,TK,t⟩,m)=(S2,M2):=by
    cases n3 with
    | zero=>exact cN
    | succ n=>rw [cD,if_pos bT] at cN;exact cN
   clear hK cN HE dQ ie;injection e with e1 e2
   subst e1;subst e2;generalize di r ⟨Q,TK,t⟩=R at *;have kn:¬0≤R:=by omega
   refine oU 10 6 rfl rfl ?_;repeat' with_reducible first|apply af|apply ae|apply bU|apply az|apply bV|apply bW|apply aa|refine ah [] ?_|(apply ar;·go_simp)|(apply ab;intro X Y;go_simp;apply Y;clear Y X)
   go_simp
  ·obtain ⟨j,ej,hj,hp⟩:=mu bT;have fF:j < Q.length:=by rw [bj.out.len];exact hj
   obtain ⟨f1,f2,f3⟩:=mr hp;obtain ⟨p1,p2,p3⟩:=HU.out.feedN hj f1;have cX:feedN r j < Q.length:=by rw [bj.out.len];exact p3
   have gM:=pv HU.out bj.out.len fF f1 f2;have bD:=bj.out.up HU.out fF f1 f2 f3;have ko:=ub r Q j (feedN r j) fF bj.out.len.symm p1 cX (by omega) f2 (by rw [bj.out.len];have:=HU.out.n6;omega) fun i jl=>by
    have h1:=bj.out.fit i jl;have h2:=HU.out.pl i (by rw [←bj.out.len];exact jl);simp only at h1;omega
   rw [rL fF cX (by omega)] at ko;have nW:=mE r (upS r ⟨Q,TK,t⟩ j) hn (by rw [bD.len]) (by rw [bD.len];exact HU.out.feed);have fC:∃ n,cA 0 (upS r ⟨Q,TK,t⟩ j).q≤n∧cD r n (upS r ⟨Q,TK,t⟩ j) (m++upM Q j (feedN r j))=(S2,M2):=by
    cases n3 with
    | zero=>simp only at gM dQ;omega
    | succ n3=>
     rw [cD,if_neg bT,ej,Int.toNat_natCast] at cN;exact ⟨n3,by simp only at gM dQ;omega,cN⟩
   have HX:=Lib.hid fC;have lW:=Lib.hid bD;have o_:m.length+(upM Q j (feedN r j)).length=m.length+2:=by simp [upM]
   have kW:(m++upM Q j (feedN r j)).length=m.length+2:=by simp [upM]
   have nX:(upM Q j (feedN r j)).length=2:=by simp [upM]
   have nY:m.length+2≤1000000000:=by omega
   clear cN HE fC bD dQ bT bj f1 f2 f3 hp;unfold upS at *;simp only at *;generalize upQ Q j (feedN r j)=Q2 at *;have ld:(m++upM Q j (feedN r j)).map Sg.av=m.map Sg.av++(upM Q j (feedN r j)).map Sg.av:=List.map_append;generalize upM Q j (feedN r j)=U at *;rw [ej];repeat' with_reducible first|apply af|apply ae|apply aw|apply aE|apply bc|apply aa|refine ah [] ?_|(apply ax;·go_simp)|(apply ab;intro X Y;go_simp;(first|(refine ⟨_,ko,?_⟩)|(refine ⟨_,nW,?_⟩)|skip);apply Y;clear Y X)
   refine hK _ (⟨Q2,TK,t⟩,m++U) ⟨lW,by simp only;omega,HX⟩ (by simp only;omega) ?_;simp only [ld];go_simp
theorem Oz (r:Ru) (s S2:St) (tm:Int) (k:Nat) (car:ByteArray) (M2:List Sg) (Q0:List (List ByteArray)) (dA:List Tk) (hn:r.ranks.length≤1000000) (hr:RuOK r) (dy:SmallS s) (hk:k < s.q.length) (_hrl:r.ranks.length=s.q.length) (kl:Q0=s.q.set k (woT (qat s.q k) car)) (kL:dA=s.tk++[⟨car,(k:Int),tm⟩]) (hI:Inv r ⟨Q0,dA,tm⟩) (hB : [(⟨1,(k:Int),car⟩ : Sg)].length+2*cA 0 Q0≤1000000) (gw:∃ n,cA 0 Q0≤n∧cD r n ⟨Q0,dA,tm⟩ [(⟨1,(k:Int),car⟩ : Sg)]=(S2,M2)) :
  VC Tryz.prog 68 [bJ r,dX s,.agg [I 1,I tm,I (k:Int),S car]] (.tup [dX S2,.sl 3 (M2.map Sg.av)]):=by
 have gC:=uc s dy;have aq:¬bA s.q=[]:=fun h=>by
  have:=p4 s.q;rw [h] at this;simp at this;omega
 rw [decide_eq_false aq] at gC;have HI:=Lib.hid hI;have HU:=Lib.hid hr;have HN:=Lib.hid gw;have gm:=mE r ⟨Q0,dA,tm⟩ hn hI.len.symm (by rw [hI.len];exact hr.feed);have iT:(qat s.q k).length≤300:=by rw [iJ hk];exact (dy.q1 _ (List.getElem_mem hk)).1
 have km:=dy.nt;clear hI hr gw dy aq;generalize decide (s.tk.map Tk.av=[])=nT at *;have g1:=Cj (qat s.q k) car (by omega);have hb1:s.tk.length+1≤1000000000:=by omega
 have aP:(bA Q0).map (fun l=>[AV.sl 1 l])=((bA s.q).map fun l=>[AV.sl 1 l]).set k [.sl 1 ((woT (qat s.q k) car).map bY)]:=by
  rw [kl,zj]
 have HR:=Lib.hid aP;have HT:Hid (dA.map Tk.av=s.tk.map Tk.av++[[S car,I (k:Int),I tm]]):=Lib.hid (by rw [kL];simp [Tk.av]);clear kl aP kL;refine aL Tryz.func68 rfl (by kernel_rfl) rfl fun M0 w0=>?_;simp only [Tryz.ntmps68,Tryz.results68,aC];repeat' with_reducible apply af
 refine ah [] ?_;repeat' with_reducible first|apply af|apply ae|apply aa|(apply ab;intro X Y;go_simp;apply Y;clear Y X)
 refine dm (bb [] 1 ⟨rfl,rfl⟩ ?_);simp only [au];repeat' with_reducible first|apply aa|(apply ab;intro X Y;go_simp;apply Y;clear Y X)
 refine dI [] [] [] [none,none,some (.arr 148 3 nT (s.tk.map Tk.av)),some (.bag 62 1 false none (bA s.q))] (.agg [.osl 3,.osl 2,I s.time]) rfl (by go_simp) ?_ ?_
 ·unfold dv;go_simp;refine ⟨_,_,⟨_,gC⟩,?_⟩;go_simp;kernel_rfl
 go_simp;refine bb [] 2 ⟨rfl,rfl⟩ ?_;simp only [au];repeat' with_reducible first|apply aa|(apply ab;intro X Y;go_simp;apply Y;clear Y X)
 apply cF;repeat' with_reducible first|apply af|apply ae
 refine ah [] ?_;repeat' with_reducible first|apply af|apply ae|apply aa|(apply ab;intro X Y;go_simp;apply Y;clear Y X)
 refine ah [] ?_;repeat' with_reducible first|apply af|apply ae|apply aa|(apply ab;intro X Y;go_simp;apply Y;clear Y X)
 refine ah [10] ?_;repeat' with_reducible first|apply af|apply ae|apply aa|(apply ab;intro X Y;go_simp;apply Y;clear Y X)
 refine ah [] ?_;repeat ((with_reducible refine ab fun X Y=>?_);go_simp;refine Y _ ?_;clear Y X)
 apply aa;apply ae;refine sZ ⟨[(3,.vp [.sl 4 (r.ranks.map Rk.av),I r.back,I r.ret]),(5,.vp [I 1,I tm,I (k:Int),S car]),(6,.ref 0 0),(8,.ref 5 0),(10,.osl 6)],[some (.box [bG,bG,I 0]),none,none,none,some (.arr 62 1 false ((bA Q0).map fun l=>[AV.sl 1 l])),some (.box [.osl 4,.sl 3 (dA.map Tk.av),I tm]),some (.arr 45 3 true [])]⟩ (fun K hK=>?_) ?_
 ·clear gm HN HI hB;refine hZ (fun p a w R=>R.bagArr (id:=4) rfl (by kernel_rfl)) ?_;go_simp;repeat' with_reducible first|apply af|apply aE
  refine ah [] ?_;repeat' with_reducible first|apply af|apply ae|apply aa|(apply ar;·go_simp)|(apply ab;intro X Y;go_simp;apply Y;clear Y X)
  refine ah [] ?_;repeat' with_reducible first|apply af|apply ae|apply aa|(apply ax;·go_simp)|(apply ab;intro X Y;go_simp;apply Y;clear Y X)
  refine bw 10 8 [] rfl (by kernel_rfl) ?_;simp only [au];repeat' with_reducible first|apply ae|apply aa|apply aQ|((first|apply ab|apply aR);intro X Y;go_simp;(first|(refine ⟨_,g1,?_⟩)|skip);apply Y;clear Y X)
  refine IL [] 11 ⟨rfl,rfl⟩ ?_;simp only [au];repeat' with_reducible first|apply aa|(apply ab;intro X Y;go_simp;apply Y;clear Y X)
  refine ⟨_,fun p a w R=>⟨_,R.freeze (t:=68) (id:=3) rfl rfl⟩,?_⟩;go_simp;repeat' with_reducible first|apply ae|apply bc|apply aa|(apply ab;intro X Y;go_simp;apply Y;clear Y X)
  rw [HR.out,HT.out] at hK;refine hK _ ?_;go_simp
 ·refine gV 5 0 4 rfl rfl rfl ?_;repeat' first|(with_reducible first|apply af|apply ae|apply aw|apply aE|apply aa|refine ah [] ?_|(apply ax;·go_simp)|(apply ar;·go_simp))|((with_reducible apply ab);intro X Y;go_simp;(first|(refine ⟨_,gm,?_⟩)|skip);apply Y;clear Y X)
  apply mz (α:=St×List Sg) [3,6,8] (fun (x:St×List Sg)=>[(10,.osl 6),(14,I (di r x.1))]) (fun (x:St×List Sg)=>([some (.box [bG,bG,I 0]),none,none,none,none,some (.box [hQ x.1.q,.sl 3 (x.1.tk.map Tk.av),I x.1.time]),some (.arr 45 3 false (x.2.map Sg.av))] : Hp)) (fun (x:St×List Sg)=>Hid (Inv r x.1)∧x.2.length+2*cA 0 x.1.q≤1000000∧Hid (∃ n,cA 0 x.1.q≤n∧cD r n x.1 x.2=(S2,M2))) (fun (x:St×List Sg)=>cA 0 x.1.q) ((⟨Q0,dA,tm⟩,[(⟨1,(k:Int),car⟩ : Sg)])) ⟨HI,hB,HN⟩
  ·(go_simp<;>exact rfl)
  ·go_simp
  rintro ⟨⟨Q,TK,t⟩,m⟩ ⟨bj,ie,HE⟩ K hK;simp only at bj ie HE hK ⊢;obtain ⟨n3,dQ,cN⟩:=HE.out;by_cases bT:di r ⟨Q,TK,t⟩ < 0
  ·have e:(⟨Q,TK,t⟩,m)=(S2,M2):=by
    cases n3 with
    | zero=>exact cN
    | succ n=>rw [cD,if_pos bT] at cN;exact cN
   clear hK cN HE dQ ie;injection e with e1 e2
   subst e1;subst e2;generalize di r ⟨Q,TK,t⟩=R at *;have kn:¬0≤R:=by omega
   refine oU 10 6 rfl rfl ?_;repeat' with_reducible first|apply af|apply ae|apply bU|apply az|apply bV|apply bW|apply aa|refine ah [] ?_|(apply ar;·go_simp)|(apply ab;intro X Y;go_simp;apply Y;clear Y X)
   go_simp
  ·obtain ⟨j,ej,hj,hp⟩:=mu bT;have fF:j < Q.length:=by rw [bj.out.len];exact hj
   obtain ⟨f1,f2,f3⟩:=mr hp;obtain ⟨p1,p2,p3⟩:=HU.out.feedN hj f1;have cX:feedN r j < Q.length:=by rw [bj.out.len];exact p3
   have gM:=pv HU.out bj.out.len fF f1 f2;have bD:=bj.out.up HU.out fF f1 f2 f3;have ko:=ub r Q j (feedN r j) fF bj.out.len.symm p1 cX (by omega) f2 (by rw [bj.out.len];have:=HU.out.n6;omega) fun i jl=>by
    have h1:=bj.out.fit i jl;have h2:=HU.out.pl i (by rw [←bj.out.len];exact jl);simp only at h1;omega
   rw [rL fF cX (by omega)] at ko;have nW:=mE r (upS r ⟨Q,TK,t⟩ j) hn (by rw [bD.len]) (by rw [bD.len];exact HU.out.feed);have fC:∃ n,cA 0 (upS r ⟨Q,TK,t⟩ j).q≤n∧cD r n (upS r ⟨Q,TK,t⟩ j) (m++upM Q j (feedN r j))=(S2,M2):=by
    cases n3 with
    | zero=>simp only at gM dQ;omega
    | succ n3=>
     rw [cD,if_neg bT,ej,Int.toNat_natCast] at cN;exact ⟨n3,by simp only at gM dQ;omega,cN⟩
   have HX:=Lib.hid fC;have lW:=Lib.hid bD;have o_:m.length+(upM Q j (feedN r j)).length=m.length+2:=by simp [upM]
   have kW:(m++upM Q j (feedN r j)).length=m.length+2:=by simp [upM]
   have nX:(upM Q j (feedN r j)).length=2:=by simp [upM]
   have nY:m.length+2≤1000000000:=by omega
   clear cN HE fC bD dQ bT bj f1 f2 f3 hp;unfold upS at *;simp only at *;generalize upQ Q j (feedN r j)=Q2 at *;have ld:(m++upM Q j (feedN r j)).map Sg.av=m.map Sg.av++(upM Q j (feedN r j)).map Sg.av:=List.map_append;generalize upM Q j (feedN r j)=U at *;rw [ej];repeat' with_reducible first|apply af|apply ae|apply aw|apply aE|apply bc|apply aa|refine ah [] ?_|(apply ax;·go_simp)|(apply ab;intro X Y;go_simp;(first|(refine ⟨_,ko,?_⟩)|(refine ⟨_,nW,?_⟩)|skip);apply Y;clear Y X)
   refine hK _ (⟨Q2,TK,t⟩,m++U) ⟨lW,by simp only;omega,HX⟩ (by simp only;omega) ?_;simp only [ld];go_simp
theorem OA (r:Ru) (s S2:St) (tm:Int) (k:Nat) (car:ByteArray) (M2:List Sg) (Q0:List (List ByteArray)) (dA:List Tk) (hn:r.ranks.length≤1000000) (hr:RuOK r) (dy:SmallS s) (hk:k < s.q.length) (_hrl:r.ranks.length=s.q.length) (kl:Q0=s.q.set k (woT (qat s.q k) car)) (kL:dA=s.tk) (hI:Inv r ⟨Q0,dA,tm⟩) (hB : [(⟨3,(k:Int),car⟩ : Sg)].length+2*cA 0 Q0≤1000000) (gw:∃ n,cA 0 Q0≤n∧cD r n ⟨Q0,dA,tm⟩ [(⟨3,(k:Int),car⟩ : Sg)]=(S2,M2)) :
  VC Tryz.prog 68 [bJ r,dX s,.agg [I 3,I tm,I (k:Int),S car]] (.tup [dX S2,.sl 3 (M2.map Sg.av)]):=by
 have gC:=uc s dy;have aq:¬bA s.q=[]:=fun h=>by
  have:=p4 s.q;rw [h] at this;simp at this;omega
 rw [decide_eq_false aq] at gC;have HI:=Lib.hid hI;have HU:=Lib.hid hr;have HN:=Lib.hid gw;have gm:=mE r ⟨Q0,dA,tm⟩ hn hI.len.symm (by rw [hI.len];exact hr.feed);have iT:(qat s.q k).length≤300:=by rw [iJ hk];exact (dy.q1 _ (List.getElem_mem hk)).1
 have km:=dy.nt;clear hI hr gw dy aq;generalize decide (s.tk.map Tk.av=[])=nT at *;have g1:=Cj (qat s.q k) car (by omega);have hb1:s.tk.length+1≤1000000000:=by omega
 have aP:(bA Q0).map (fun l=>[AV.sl 1 l])=((bA s.q).map fun l=>[AV.sl 1 l]).set k [.sl 1 ((woT (qat s.q k) car).map bY)]:=by
  rw [kl,zj]
 have HR:=Lib.hid aP;have HT:Hid (dA.map Tk.av=s.tk.map Tk.av):=Lib.hid (by rw [kL]);clear kl aP kL;refine aL Tryz.func68 rfl (by kernel_rfl) rfl fun M0 w0=>?_;simp only [Tryz.ntmps68,Tryz.results68,aC];repeat' with_reducible apply af
 refine ah [] ?_;repeat' with_reducible first|apply af|apply ae|apply aa|(apply ab;intro X Y;go_simp;apply Y;clear Y X)
 refine dm (bb [] 1 ⟨rfl,rfl⟩ ?_);simp only [au];repeat' with_reducible first|apply aa|(apply ab;intro X Y;go_simp;apply Y;clear Y X)
 refine dI [] [] [] [none,none,some (.arr 148 3 nT (s.tk.map Tk.av)),some (.bag 62 1 false none (bA s.q))] (.agg [.osl 3,.osl 2,I s.time]) rfl (by go_simp) ?_ ?_
 ·unfold dv;go_simp;refine ⟨_,_,⟨_,gC⟩,?_⟩;go_simp;kernel_rfl
 go_simp;refine bb [] 2 ⟨rfl,rfl⟩ ?_;simp only [au];repeat' with_reducible first|apply aa|(apply ab;intro X Y;go_simp;apply Y;clear Y X)
 apply cF;repeat' with_reducible first|apply af|apply ae
 refine ah [] ?_;repeat' with_reducible first|apply af|apply ae|apply aa|(apply ab;intro X Y;go_simp;apply Y;clear Y X)
 refine ah [] ?_;repeat' with_reducible first|apply af|apply ae|apply aa|(apply ab;intro X Y;go_simp;apply Y;clear Y X)
 refine ah [10] ?_;repeat' with_reducible first|apply af|apply ae|apply aa|(apply ab;intro X Y;go_simp;apply Y;clear Y X)
 refine ah [] ?_;repeat ((with_reducible refine ab fun X Y=>?_);go_simp;refine Y _ ?_;clear Y X)
 apply aa;apply ae;refine sZ ⟨[(3,.vp [.sl 4 (r.ranks.map Rk.av),I r.back,I r.ret]),(5,.vp [I 3,I tm,I (k:Int),S car]),(6,.ref 0 0),(8,.ref 5 0),(10,.osl 6)],[some (.box [bG,bG,I 0]),none,none,none,some (.arr 62 1 false ((bA Q0).map fun l=>[AV.sl 1 l])),some (.box [.osl 4,.sl 3 (dA.map Tk.av),I tm]),some (.arr 45 3 true [])]⟩ (fun K hK=>?_) ?_
 ·clear gm HN HI hB;refine hZ (fun p a w R=>R.bagArr (id:=4) rfl (by kernel_rfl)) ?_;go_simp;refine gV 5 1 3 rfl rfl rfl ?_;repeat' first|(with_reducible first|apply af|apply ae|apply aE|apply bc|apply aa|refine ah [] ?_|apply aQ|(apply ax;·go_simp)|(apply ar;·go_simp)|((first|apply ab|apply aR);intro X Y;go_simp;(first|(refine ⟨_,g1,?_⟩)|skip);apply Y;clear Y X))|((refine bw 10 9 [] rfl (by kernel_rfl) ?_);simp only [au])
  rw [HR.out,HT.out] at hK;refine hK _ ?_;go_simp
 ·refine gV 5 0 4 rfl rfl rfl ?_;repeat' first|(with_reducible first|apply af|apply ae|apply aw|apply aE|apply aa|refine ah [] ?_|(apply ax;·go_simp)|(apply ar;·go_simp))|((with_reducible apply ab);intro X Y;go_simp;(first|(refine ⟨_,gm,?_⟩)|skip);apply Y;clear Y X)
  apply mz (α:=St×List Sg) [3,6,8] (fun (x:St×List Sg)=>[(10,.osl 6),(14,I (di r x.1))]) (fun (x:St×List Sg)=>([some (.box [bG,bG,I 0]),none,none,none,none,some (.box [hQ x.1.q,.sl 3 (x.1.tk.map Tk.av),I x.1.time]),some (.arr 45 3 false (x.2.map Sg.av))] : Hp)) (fun (x:St×List Sg)=>Hid (Inv r x.1)∧x.2.length+2*cA 0 x.1.q≤1000000∧Hid (∃ n,cA 0 x.1.q≤n∧cD r n x.1 x.2=(S2,M2))) (fun (x:St×List Sg)=>cA 0 x.1.q) ((⟨Q0,dA,tm⟩,[(⟨3,(k:Int),car⟩ : Sg)])) ⟨HI,hB,HN⟩
  ·(go_simp<;>exact rfl)
  ·go_simp
  rintro ⟨⟨Q,TK,t⟩,m⟩ ⟨bj,ie,HE⟩ K hK;simp only at bj ie HE hK ⊢;obtain ⟨n3,dQ,cN⟩:=HE.out;by_cases bT:di r ⟨Q,TK,t⟩ < 0
  ·have e:(⟨Q,TK,t⟩,m)=(S2,M2):=by
    cases n3 with
    | zero=>exact cN
    | succ n=>rw [cD,if_pos bT] at cN;exact cN
   clear hK cN HE dQ ie;injection e with e1 e2
   subst e1;subst e2;generalize di r ⟨Q,TK,t⟩=R at *;have kn:¬0≤R:=by omega
   refine oU 10 6 rfl rfl ?_;repeat' with_reducible first|apply af|apply ae|apply bU|apply az|apply bV|apply bW|apply aa|refine ah [] ?_|(apply ar;·go_simp)|(apply ab;intro X Y;go_simp;apply Y;clear Y X)
   go_simp
  ·obtain ⟨j,ej,hj,hp⟩:=mu bT;have fF:j < Q.length:=by rw [bj.out.len];exact hj
   obtain ⟨f1,f2,f3⟩:=mr hp;obtain ⟨p1,p2,p3⟩:=HU.out.feedN hj f1;have cX:feedN r j < Q.length:=by rw [bj.out.len];exact p3
   have gM:=pv HU.out bj.out.len fF f1 f2;have bD:=bj.out.up HU.out fF f1 f2 f3;have ko:=ub r Q j (feedN r j) fF bj.out.len.symm p1 cX (by omega) f2 (by rw [bj.out.len];have:=HU.out.n6;omega) fun i jl=>by
    have h1:=bj.out.fit i jl;have h2:=HU.out.pl i (by rw [←bj.out.len];exact jl);simp only at h1;omega
   rw [rL fF cX (by omega)] at ko;have nW:=mE r (upS r ⟨Q,TK,t⟩ j) hn (by rw [bD.len]) (by rw [bD.len];exact HU.out.feed);have fC:∃ n,cA 0 (upS r ⟨Q,TK,t⟩ j).q≤n∧cD r n (upS r ⟨Q,TK,t⟩ j) (m++upM Q j (feedN r j))=(S2,M2):=by
    cases n3 with
    | zero=>simp only at gM dQ;omega
    | succ n3=>
     rw [cD,if_neg bT,ej,Int.toNat_natCast] at cN;exact ⟨n3,by simp only at gM dQ;omega,cN⟩
   have HX:=Lib.hid fC;have lW:=Lib.hid bD;have o_:m.length+(upM Q j (feedN r j)).length=m.length+2:=by simp [upM]
   have kW:(m++upM Q j (feedN r j)).length=m.length+2:=by simp [upM]
   have nX:(upM Q j (feedN r j)).length=2:=by simp [upM]
   have nY:m.length+2≤1000000000:=by omega
   clear cN HE fC bD dQ bT bj f1 f2 f3 hp;unfold upS at *;simp only at *;generalize upQ Q j (feedN r j)=Q2 at *;have ld:(m++upM Q j (feedN r j)).map Sg.av=m.map Sg.av++(upM Q j (feedN r j)).map Sg.av:=List.map_append;generalize upM Q j (feedN r j)=U at *;rw [ej];repeat' with_reducible first|apply af|apply ae|apply aw|apply aE|apply bc|apply aa|refine ah [] ?_|(apply ax;·go_simp)|(apply ab;intro X Y;go_simp;(first|(refine ⟨_,ko,?_⟩)|(refine ⟨_,nW,?_⟩)|skip);apply Y;clear Y X)
   refine hK _ (⟨Q2,TK,t⟩,m++U) ⟨lW,by simp only;omega,HX⟩ (by simp only;omega) ?_;simp only [ld];go_simp
theorem OB (r:Ru) (s S2:St) (tm:Int) (k:Nat) (car:ByteArray) (M2:List Sg) (Q0:List (List ByteArray)) (dA:List Tk) (hn:r.ranks.length≤1000000) (hr:RuOK r) (dy:SmallS s) (hk:k < s.q.length) (_hrl:r.ranks.length=s.q.length) (b:Nat) (t_:b=tq r (woT (qat s.q k) car).length) (px:r.back = -1∨0≤r.back∧r.back≤12) (kl:Q0=s.q.set k ((woT (qat s.q k) car).take b++[car]++(woT (qat s.q k) car).drop b)) (kL:dA=s.tk) (hI:Inv r ⟨Q0,dA,tm⟩) (hB : [(⟨2,(k:Int),car⟩ : Sg)].length+2*cA 0 Q0≤1000000) (gw:∃ n,cA 0 Q0≤n∧cD r n ⟨Q0,dA,tm⟩ [(⟨2,(k:Int),car⟩ : Sg)]=(S2,M2)) :
  VC Tryz.prog 68 [bJ r,dX s,.agg [I 2,I tm,I (k:Int),S car]] (.tup [dX S2,.sl 3 (M2.map Sg.av)]):=by
 have gC:=uc s dy;have aq:¬bA s.q=[]:=fun h=>by
  have:=p4 s.q;rw [h] at this;simp at this;omega
 rw [decide_eq_false aq] at gC;have HI:=Lib.hid hI;have HU:=Lib.hid hr;have HN:=Lib.hid gw;have gm:=mE r ⟨Q0,dA,tm⟩ hn hI.len.symm (by rw [hI.len];exact hr.feed);have iT:(qat s.q k).length≤300:=by rw [iJ hk];exact (dy.q1 _ (List.getElem_mem hk)).1
 have km:=dy.nt;clear hI hr gw dy aq;generalize decide (s.tk.map Tk.av=[])=nT at *;have g1:=Cj (qat s.q k) car (by omega);have Rs:(woT (qat s.q k) car).length≤300:=Nat.le_trans (List.length_filter_le _ _) iT;have aP:(bA Q0).map (fun l=>[AV.sl 1 l])=((bA s.q).map fun l=>[AV.sl 1 l]).set k [.sl 1 (((woT (qat s.q k) car).map bY).take b++[[S car]]++((woT (qat s.q k) car).map bY).drop b)]:=by
  rw [kl,←zj,List.map_append,List.map_append,List.map_take,List.map_drop];rfl
 have hb0:b≤(woT (qat s.q k) car).length∧(r.back = -1∨r.back > (woT (qat s.q k) car).length→b=(woT (qat s.q k) car).length)∧(¬(r.back = -1∨r.back > (woT (qat s.q k) car).length)→r.back=b):=by
  rw [t_];unfold tq;by_cases h:r.back = -1∨r.back > (woT (qat s.q k) car).length
  ·rw [if_pos h];exact ⟨Nat.le_refl _,fun _=>rfl,fun hh=>absurd h hh⟩
  ·rw [if_neg h];exact ⟨by omega,fun hh=>absurd hh h,fun _=>by omega⟩
 generalize woT (qat s.q k) car=W at *;have g2:=yX (W.take b) (by rw [List.length_take];omega);unfold jm at g2;rw [List.map_take] at g2;have HR:=Lib.hid aP;have HT:Hid (dA.map Tk.av=s.tk.map Tk.av):=Lib.hid (by rw [kL]);obtain ⟨hb1,hb2,hb3⟩:=hb0;have oS:b+1≤1000000000:=by omega
 have OC:(b:Int)≤W.length:=by omega
 have vQ:b+1+(W.length - b)≤1000000000:=by omega
 have pr:min b W.length=b:=by omega
 clear kl aP t_ kL;refine aL Tryz.func68 rfl (by kernel_rfl) rfl fun M0 w0=>?_;simp only [Tryz.ntmps68,Tryz.results68,aC];repeat' with_reducible apply af
 refine ah [] ?_;repeat' with_reducible first|apply af|apply ae|apply aa|(apply ab;intro X Y;go_simp;apply Y;clear Y X)
 refine dm (bb [] 1 ⟨rfl,rfl⟩ ?_);simp only [au];repeat' with_reducible first|apply aa|(apply ab;intro X Y;go_simp;apply Y;clear Y X)
 refine dI [] [] [] [none,none,some (.arr 148 3 nT (s.tk.map Tk.av)),some (.bag 62 1 false none (bA s.q))] (.agg [.osl 3,.osl 2,I s.time]) rfl (by go_simp) ?_ ?_
 ·unfold dv;go_simp;refine ⟨_,_,⟨_,gC⟩,?_⟩;go_simp;kernel_rfl
 go_simp;refine bb [] 2 ⟨rfl,rfl⟩ ?_;simp only [au];repeat' with_reducible first|apply aa|(apply ab;intro X Y;go_simp;apply Y;clear Y X)
 apply cF;repeat' with_reducible first|apply af|apply ae
 refine ah [] ?_;repeat' with_reducible first|apply af|apply ae|apply aa|(apply ab;intro X Y;go_simp;apply Y;clear Y X)
 refine ah [] ?_;repeat' with_reducible first|apply af|apply ae|apply aa|(apply ab;intro X Y;go_simp;apply Y;clear Y X)
 refine ah [10] ?_;repeat' with_reducible first|apply af|apply ae|apply aa|(apply ab;intro X Y;go_simp;apply Y;clear Y X)
 refine ah [] ?_;repeat ((with_reducible refine ab fun X Y=>?_);go_simp;refine Y _ ?_;clear Y X)
 apply aa;apply ae;refine sZ ⟨[(3,.vp [.sl 4 (r.ranks.map Rk.av),I r.back,I r.ret]),(5,.vp [I 2,I tm,I (k:Int),S car]),(6,.ref 0 0),(8,.ref 5 0),(10,.osl 6)],[some (.box [bG,bG,I 0]),none,none,none,some (.arr 62 1 false ((bA Q0).map fun l=>[AV.sl 1 l])),some (.box [.osl 4,.sl 3 (dA.map Tk.av),I tm]),some (.arr 45 3 true [])]⟩ (fun K hK=>?_) ?_
 ·clear gm HN HI hB;refine hZ (fun p a w R=>R.bagArr (id:=4) rfl (by kernel_rfl)) ?_;go_simp;refine gV 5 1 3 rfl rfl rfl ?_;rw [HT.out] at hK;by_cases hx:r.back = -1∨r.back > W.length
  ·have zk:W.length=b:=(hb2 hx).symm;have lU:List.take b (W.map bY)=W.map bY:=List.take_of_length_le (by simp [zk]);have zl:List.drop b (W.map bY)=[]:=List.drop_eq_nil_of_le (by simp [zk]);have ri:=HR.out;rw [lU] at g2;rw [lU,zl,List.append_nil] at ri;have HR:=Lib.hid ri;clear hb1 hb2 hb3 px OC vQ pr ri;rw [zk] at hx;by_cases qo:r.back = -1
   ·clear hx;repeat' with_reducible first|apply af|apply aE
    refine ah [] ?_;repeat' with_reducible first|apply af|apply ae|apply aa|(apply ar;·go_simp)|(apply ab;intro X Y;go_simp;apply Y;clear Y X)
    refine ah [] ?_;repeat' with_reducible first|apply af|apply ae|apply aa|(apply ar;·go_simp)|(apply ab;intro X Y;go_simp;apply Y;clear Y X)
    refine ah [] ?_;repeat' with_reducible first|apply af|apply ae|apply aa|(apply ax;·go_simp)|(apply ab;intro X Y;go_simp;apply Y;clear Y X)
    refine ah [] ?_;repeat' with_reducible first|apply af|apply ae|apply aa|(apply ab;intro X Y;go_simp;(first|(refine ⟨_,g1,?_⟩)|skip);apply Y;clear Y X)
    refine ah [] ?_;repeat' with_reducible first|apply af|apply ae|apply aa|(apply ab;intro X Y;go_simp;apply Y;clear Y X)
    refine ah [] ?_;repeat' with_reducible first|apply ae|apply aa|(apply ax;·go_simp)|(apply ab;intro X Y;go_simp;apply Y;clear Y X)
    refine ah [] ?_;repeat' with_reducible first|apply ae|apply aa|(apply ab;intro X Y;go_simp;apply Y;clear Y X)
    refine Cu 16 [95] (fun i=>i == 7 || i == 11 || i == 15) (by kernel_rfl) (by kernel_rfl) (by kernel_rfl) (by go_simp) (by go_simp) ?_;simp only [au];repeat ((with_reducible refine mI rfl fun X Y=>?_);go_simp;refine Y _ (by go_simp) ?_;clear Y X)
    refine pU [some (.arr 9 1 false (W.map bY))] none (.osl 7) rfl ⟨rfl,fun _=>rfl,fun _ h=>by cases h⟩ ?_ ?_
    ·intro s2 cV;have q1:lkp s2 94 = .sl 1 (W.map bY):=(cV 94 (by simp [Op.operands,Call.operands]) (by go_simp)).trans (by go_simp);clear cV;go_simp;exact ⟨_,_,_,g2,rfl,rfl,rfl⟩
    repeat ((with_reducible refine mI rfl fun X Y=>?_);go_simp;refine Y _ (by go_simp) ?_;clear Y X)
    refine pU [some (.arr 9 1 false (W.map bY++[[S car]]))] (some 7) (.osl 7) rfl ⟨rfl,fun h=>(by cases h),fun _ h=>(by cases h;exact Nat.le_refl _)⟩ ?_ ?_
    ·intro s2 cV;have q1:lkp s2 95 = .osl 7:=(cV 95 (by simp [Op.operands,Call.operands]) (by go_simp)).trans (by go_simp);have q2:lkp s2 98 = .sl 1 [[S car]]:=(cV 98 (by simp [Op.operands,Call.operands]) (by go_simp)).trans (by go_simp);clear cV;go_simp
    repeat ((with_reducible refine mI rfl fun X Y=>?_);go_simp;refine Y _ (by go_simp) ?_;clear Y X)
    refine zm [none] (some 7) (.sl 1 (W.map bY++[[S car]])) rfl ⟨rfl,(fun h=>by cases h),fun _ h=>by cases h;exact Nat.le_refl _⟩ rfl ?_ ?_
    ·intro s2 cV;have q1:lkp s2 99 = .osl 7:=(cV 99 (by simp [Op.operands,Call.operands]) (by go_simp)).trans (by go_simp);have q2:lkp s2 102 = .sl 1 ([]):=(cV 102 (by simp [Op.operands,Call.operands]) (by go_simp)).trans (by go_simp);clear cV;go_simp;exact zn (id:=7) rfl rfl
    repeat (first|(with_reducible first|apply ae|apply bc|apply aa|(apply ab;intro X Y;go_simp;apply Y;clear Y X))|((with_reducible refine wH ?_);simp only [List.nil_append,nV,nU,if_true]))
    skip
    rw [HR.out] at hK;refine hK _ ?_;go_simp
   ·have OD:(b:Int) < r.back:=by omega
    clear hx;repeat' with_reducible first|apply af|apply aE
    refine ah [] ?_;repeat' with_reducible first|apply af|apply ae|apply aa|(apply ar;·go_simp)|(apply ab;intro X Y;go_simp;apply Y;clear Y X)
    refine ah [] ?_;repeat' with_reducible first|apply af|apply ae|apply aa|(apply ar;·go_simp)|(apply ab;intro X Y;go_simp;apply Y;clear Y X)
    refine ah [] ?_;repeat' with_reducible first|apply af|apply ae|apply aa|(apply ax;·go_simp)|(apply ab;intro X Y;go_simp;apply Y;clear Y X)
    refine ah [] ?_;repeat' with_reducible first|apply af|apply ae|apply aa|(apply ab;intro X Y;go_simp;(first|(refine ⟨_,g1,?_⟩)|skip);apply Y;clear Y X)
    refine ah [] ?_;repeat' with_reducible first|apply af|apply ae|apply aa|(apply ab;intro X Y;go_simp;apply Y;clear Y X)
    refine ah [] ?_;repeat' with_reducible first|apply ae|apply aa|(apply ax;·go_simp)|(apply ab;intro X Y;go_simp;apply Y;clear Y X)
    refine ah [] ?_;repeat' with_reducible first|apply ae|apply aa|(apply ab;intro X Y;go_simp;apply Y;clear Y X)
    refine Cu 16 [95] (fun i=>i == 7 || i == 11 || i == 15) (by kernel_rfl) (by kernel_rfl) (by kernel_rfl) (by go_simp) (by go_simp) ?_;simp only [au];repeat ((with_reducible refine mI rfl fun X Y=>?_);go_simp;refine Y _ (by go_simp) ?_;clear Y X)
    refine pU [some (.arr 9 1 false (W.map bY))] none (.osl 7) rfl ⟨rfl,fun _=>rfl,fun _ h=>by cases h⟩ ?_ ?_
    ·intro s2 cV;have q1:lkp s2 94 = .sl 1 (W.map bY):=(cV 94 (by simp [Op.operands,Call.operands]) (by go_simp)).trans (by go_simp);clear cV;go_simp;exact ⟨_,_,_,g2,rfl,rfl,rfl⟩
    repeat ((with_reducible refine mI rfl fun X Y=>?_);go_simp;refine Y _ (by go_simp) ?_;clear Y X)
    refine pU [some (.arr 9 1 false (W.map bY++[[S car]]))] (some 7) (.osl 7) rfl ⟨rfl,fun h=>(by cases h),fun _ h=>(by cases h;exact Nat.le_refl _)⟩ ?_ ?_
    ·intro s2 cV;have q1:lkp s2 95 = .osl 7:=(cV 95 (by simp [Op.operands,Call.operands]) (by go_simp)).trans (by go_simp);have q2:lkp s2 98 = .sl 1 [[S car]]:=(cV 98 (by simp [Op.operands,Call.operands]) (by go_simp)).trans (by go_simp);clear cV;go_simp
    repeat ((with_reducible refine mI rfl fun X Y=>?_);go_simp;refine Y _ (by go_simp) ?_;clear Y X)
    refine zm [none] (some 7) (.sl 1 (W.map bY++[[S car]])) rfl ⟨rfl,(fun h=>by cases h),fun _ h=>by cases h;exact Nat.le_refl _⟩ rfl ?_ ?_
    ·intro s2 cV;have q1:lkp s2 99 = .osl 7:=(cV 99 (by simp [Op.operands,Call.operands]) (by go_simp)).trans (by go_simp);have q2:lkp s2 102 = .sl 1 ([]):=(cV 102 (by simp [Op.operands,Call.operands]) (by go_simp)).trans (by go_simp);clear cV;go_simp;exact zn (id:=7) rfl rfl
    repeat (first|(with_reducible first|apply ae|apply bc|apply aa|(apply ab;intro X Y;go_simp;apply Y;clear Y X))|((with_reducible refine wH ?_);simp only [List.nil_append,nV,nU,if_true]))
    skip
    rw [HR.out] at hK;refine hK _ ?_;go_simp
  ·have zk:r.back=b:=hb3 hx;have qo:¬(b:Int) = -1:=by omega
   have OD:¬(W.length:Int) < b:=by omega
   have lU:List.take W.length (W.map bY)=W.map bY:=List.take_of_length_le (by simp);clear hx hb2 hb3 px;repeat' with_reducible first|apply af|apply aE
   refine ah [] ?_;repeat' with_reducible first|apply af|apply ae|apply aa|(apply ar;·go_simp)|(apply ab;intro X Y;go_simp;apply Y;clear Y X)
   refine ah [] ?_;repeat' with_reducible first|apply af|apply ae|apply aa|(apply ar;·go_simp)|(apply ab;intro X Y;go_simp;apply Y;clear Y X)
   refine ah [] ?_;repeat' with_reducible first|apply af|apply ae|apply aa|(apply ax;·go_simp)|(apply ab;intro X Y;go_simp;apply Y;clear Y X)
   refine ah [] ?_;repeat' with_reducible first|apply af|apply ae|apply aa|(apply ab;intro X Y;go_simp;(first|(refine ⟨_,g1,?_⟩)|skip);apply Y;clear Y X)
   refine ah [] ?_;repeat' with_reducible first|apply af|apply ae|apply aa|(apply ab;intro X Y;go_simp;apply Y;clear Y X)
   refine ah [] ?_;repeat' with_reducible first|apply ae|apply aw|apply aa|(apply ar;·go_simp)|(apply ab;intro X Y;go_simp;apply Y;clear Y X)
   refine Cu 16 [95] (fun i=>i == 7 || i == 11 || i == 15) (by kernel_rfl) (by kernel_rfl) (by kernel_rfl) (by go_simp) (by go_simp) ?_;simp only [au];repeat ((with_reducible refine mI rfl fun X Y=>?_);go_simp;refine Y _ (by go_simp) ?_;clear Y X)
   refine pU [some (.arr 9 1 false ((W.map bY).take b))] none (.osl 7) rfl ⟨rfl,fun _=>rfl,fun _ h=>by cases h⟩ ?_ ?_
   ·intro s2 cV;have q1:lkp s2 94 = .sl 1 ((W.map bY).take b):=(cV 94 (by simp [Op.operands,Call.operands]) (by go_simp)).trans (by go_simp);clear cV;go_simp;exact ⟨_,_,_,g2,rfl,rfl,rfl⟩
   repeat ((with_reducible refine mI rfl fun X Y=>?_);go_simp;refine Y _ (by go_simp) ?_;clear Y X)
   refine pU [some (.arr 9 1 false ((W.map bY).take b++[[S car]]))] (some 7) (.osl 7) rfl ⟨rfl,fun h=>(by cases h),fun _ h=>(by cases h;exact Nat.le_refl _)⟩ ?_ ?_
   ·intro s2 cV;have q1:lkp s2 95 = .osl 7:=(cV 95 (by simp [Op.operands,Call.operands]) (by go_simp)).trans (by go_simp);have q2:lkp s2 98 = .sl 1 [[S car]]:=(cV 98 (by simp [Op.operands,Call.operands]) (by go_simp)).trans (by go_simp);clear cV;go_simp
   repeat ((with_reducible refine mI rfl fun X Y=>?_);go_simp;refine Y _ (by go_simp) ?_;clear Y X)
   refine zm [none] (some 7) (.sl 1 ((W.map bY).take b++[[S car]]++(W.map bY).drop b)) rfl ⟨rfl,(fun h=>by cases h),fun _ h=>by cases h;exact Nat.le_refl _⟩ rfl ?_ ?_
   ·intro s2 cV;have q1:lkp s2 99 = .osl 7:=(cV 99 (by simp [Op.operands,Call.operands]) (by go_simp)).trans (by go_simp);have q2:lkp s2 102 = .sl 1 ((W.map bY).drop b):=(cV 102 (by simp [Op.operands,Call.operands]) (by go_simp)).trans (by go_simp);clear cV;go_simp;exact zn (id:=7) rfl rfl
   repeat (first|(with_reducible first|apply ae|apply bc|apply aa|(apply ab;intro X Y;go_simp;apply Y;clear Y X))|((with_reducible refine wH ?_);simp only [List.nil_append,nV,nU,if_true]))
   skip
   rw [HR.out] at hK;refine hK _ ?_;go_simp
 ·refine gV 5 0 4 rfl rfl rfl ?_;repeat' first|(with_reducible first|apply af|apply ae|apply aw|apply aE|apply aa|refine ah [] ?_|(apply ax;·go_simp)|(apply ar;·go_simp))|((with_reducible apply ab);intro X Y;go_simp;(first|(refine ⟨_,gm,?_⟩)|skip);apply Y;clear Y X)
  apply mz (α:=St×List Sg) [3,6,8] (fun (x:St×List Sg)=>[(10,.osl 6),(14,I (di r x.1))]) (fun (x:St×List Sg)=>([some (.box [bG,bG,I 0]),none,none,none,none,some (.box [hQ x.1.q,.sl 3 (x.1.tk.map Tk.av),I x.1.time]),some (.arr 45 3 false (x.2.map Sg.av))] : Hp)) (fun (x:St×List Sg)=>Hid (Inv r x.1)∧x.2.length+2*cA 0 x.1.q≤1000000∧Hid (∃ n,cA 0 x.1.q≤n∧cD r n x.1 x.2=(S2,M2))) (fun (x:St×List Sg)=>cA 0 x.1.q) ((⟨Q0,dA,tm⟩,[(⟨2,(k:Int),car⟩ : Sg)])) ⟨HI,hB,HN⟩
  ·(go_simp<;>exact rfl)
  ·go_simp
  rintro ⟨⟨Q,TK,t⟩,m⟩ ⟨bj,ie,HE⟩ K hK;simp only at bj ie HE hK ⊢;obtain ⟨n3,dQ,cN⟩:=HE.out;by_cases bT:di r ⟨Q,TK,t⟩ < 0
  ·have e:(⟨Q,TK,t⟩,m)=(S2,M2):=by
    cases n3 with
    | zero=>exact cN
    | succ n=>rw [cD,if_pos bT] at cN;exact cN
   clear hK cN HE dQ ie;injection e with e1 e2
   subst e1;subst e2;generalize di r ⟨Q,TK,t⟩=R at *;have kn:¬0≤R:=by omega
   refine oU 10 6 rfl rfl ?_;repeat' with_reducible first|apply af|apply ae|apply bU|apply az|apply bV|apply bW|apply aa|refine ah [] ?_|(apply ar;·go_simp)|(apply ab;intro X Y;go_simp;apply Y;clear Y X)
   go_simp
  ·obtain ⟨j,ej,hj,hp⟩:=mu bT;have fF:j < Q.length:=by rw [bj.out.len];exact hj
   obtain ⟨f1,f2,f3⟩:=mr hp;obtain ⟨p1,p2,p3⟩:=HU.out.feedN hj f1;have cX:feedN r j < Q.length:=by rw [bj.out.len];exact p3
   have gM:=pv HU.out bj.out.len fF f1 f2;have bD:=bj.out.up HU.out fF f1 f2 f3;have ko:=ub r Q j (feedN r j) fF bj.out.len.symm p1 cX (by omega) f2 (by rw [bj.out.len];have:=HU.out.n6;omega) fun i jl=>by
    have h1:=bj.out.fit i jl;have h2:=HU.out.pl i (by rw [←bj.out.len];exact jl);simp only at h1;omega
   rw [rL fF cX (by omega)] at ko;have nW:=mE r (upS r ⟨Q,TK,t⟩ j) hn (by rw [bD.len]) (by rw [bD.len];exact HU.out.feed);have fC:∃ n,cA 0 (upS r ⟨Q,TK,t⟩ j).q≤n∧cD r n (upS r ⟨Q,TK,t⟩ j) (m++upM Q j (feedN r j))=(S2,M2):=by
    cases n3 with
    | zero=>simp only at gM dQ;omega
    | succ n3=>
     rw [cD,if_neg bT,ej,Int.toNat_natCast] at cN;exact ⟨n3,by simp only at gM dQ;omega,cN⟩
   have HX:=Lib.hid fC;have lW:=Lib.hid bD;have o_:m.length+(upM Q j (feedN r j)).length=m.length+2:=by simp [upM]
   have kW:(m++upM Q j (feedN r j)).length=m.length+2:=by simp [upM]
   have nX:(upM Q j (feedN r j)).length=2:=by simp [upM]
   have nY:m.length+2≤1000000000:=by omega
   clear cN HE fC bD dQ bT bj f1 f2 f3 hp;unfold upS at *;simp only at *;generalize upQ Q j (feedN r j)=Q2 at *;have ld:(m++upM Q j (feedN r j)).map Sg.av=m.map Sg.av++(upM Q j (feedN r j)).map Sg.av:=List.map_append;generalize upM Q j (feedN r j)=U at *;rw [ej];repeat' with_reducible first|apply af|apply ae|apply aw|apply aE|apply bc|apply aa|refine ah [] ?_|(apply ax;·go_simp)|(apply ab;intro X Y;go_simp;(first|(refine ⟨_,ko,?_⟩)|(refine ⟨_,nW,?_⟩)|skip);apply Y;clear Y X)
   refine hK _ (⟨Q2,TK,t⟩,m++U) ⟨lW,by simp only;omega,HX⟩ (by simp only;omega) ?_;simp only [ld];go_simp
theorem OE (r:Ru) (s S2:St) (tm:Int) (k:Nat) (car:ByteArray) (M2:List Sg) (Q0:List (List ByteArray)) (dA:List Tk) (hn:r.ranks.length≤1000000) (hr:RuOK r) (dy:SmallS s) (hk:k < s.q.length) (_hrl:r.ranks.length=s.q.length) (kl:Q0=s.q.set k ([car]++qat s.q k)) (kL:dA=woK s.tk car) (hI:Inv r ⟨Q0,dA,tm⟩) (hB : [(⟨0,(k:Int),car⟩ : Sg)].length+2*cA 0 Q0≤1000000) (gw:∃ n,cA 0 Q0≤n∧cD r n ⟨Q0,dA,tm⟩ [(⟨0,(k:Int),car⟩ : Sg)]=(S2,M2)) :
  VC Tryz.prog 68 [bJ r,dX s,.agg [I 5,I tm,I (k:Int),S car]] (.tup [dX S2,.sl 3 (M2.map Sg.av)]):=by
 have gC:=uc s dy;have aq:¬bA s.q=[]:=fun h=>by
  have:=p4 s.q;rw [h] at this;simp at this;omega
 rw [decide_eq_false aq] at gC;have HI:=Lib.hid hI;have HU:=Lib.hid hr;have HN:=Lib.hid gw;have gm:=mE r ⟨Q0,dA,tm⟩ hn hI.len.symm (by rw [hI.len];exact hr.feed);have iT:(qat s.q k).length≤300:=by rw [iJ hk];exact (dy.q1 _ (List.getElem_mem hk)).1
 have km:=dy.nt;clear hI hr gw dy aq;generalize decide (s.tk.map Tk.av=[])=nT at *;have g1:=GN s.tk car (by omega);have hb1:1+(qat s.q k).length≤1000000000:=by omega
 have hb2:(qat s.q k).length+1≤1000000000:=by omega
 have aP:(bA Q0).map (fun l=>[AV.sl 1 l])=((bA s.q).map fun l=>[AV.sl 1 l]).set k [.sl 1 ([[S car]]++(qat s.q k).map bY)]:=by
  rw [kl,←zj];rfl
 have HR:=Lib.hid aP;rw [←kL] at g1;clear kl aP kL;refine aL Tryz.func68 rfl (by kernel_rfl) rfl fun M0 w0=>?_;simp only [Tryz.ntmps68,Tryz.results68,aC];repeat' with_reducible apply af
 refine ah [] ?_;repeat' with_reducible first|apply af|apply ae|apply aa|(apply ab;intro X Y;go_simp;apply Y;clear Y X)
 refine dm (bb [] 1 ⟨rfl,rfl⟩ ?_);simp only [au];repeat' with_reducible first|apply aa|(apply ab;intro X Y;go_simp;apply Y;clear Y X)
 refine dI [] [] [] [none,none,some (.arr 148 3 nT (s.tk.map Tk.av)),some (.bag 62 1 false none (bA s.q))] (.agg [.osl 3,.osl 2,I s.time]) rfl (by go_simp) ?_ ?_
 ·unfold dv;go_simp;refine ⟨_,_,⟨_,gC⟩,?_⟩;go_simp;kernel_rfl
 go_simp;refine bb [] 2 ⟨rfl,rfl⟩ ?_;simp only [au];repeat' with_reducible first|apply aa|(apply ab;intro X Y;go_simp;apply Y;clear Y X)
 apply cF;repeat' with_reducible first|apply af|apply ae
 refine ah [] ?_;repeat' with_reducible first|apply af|apply ae|apply aa|(apply ab;intro X Y;go_simp;apply Y;clear Y X)
 refine ah [] ?_;repeat' with_reducible first|apply af|apply ae|apply aa|(apply ab;intro X Y;go_simp;apply Y;clear Y X)
 refine ah [10] ?_;repeat' with_reducible first|apply af|apply ae|apply aa|(apply ab;intro X Y;go_simp;apply Y;clear Y X)
 refine ah [] ?_;repeat ((with_reducible refine ab fun X Y=>?_);go_simp;refine Y _ ?_;clear Y X)
 apply aa;apply ae;refine sZ ⟨[(3,.vp [.sl 4 (r.ranks.map Rk.av),I r.back,I r.ret]),(5,.vp [I 5,I tm,I (k:Int),S car]),(6,.ref 0 0),(8,.ref 5 0),(10,.osl 6)],[some (.box [bG,bG,I 0]),none,none,none,some (.arr 62 1 false ((bA Q0).map fun l=>[AV.sl 1 l])),some (.box [.osl 4,.sl 3 (dA.map Tk.av),I tm]),some (.arr 45 3 true [])]⟩ (fun K hK=>?_) ?_
 ·clear gm HN HI hB;refine hZ (fun p a w R=>R.bagArr (id:=4) rfl (by kernel_rfl)) ?_;go_simp;refine gV 5 1 3 rfl rfl rfl ?_;repeat' with_reducible first|apply af|apply aE
  refine ah [] ?_;repeat' with_reducible first|apply af|apply ae|apply aa|(apply ar;·go_simp)|(apply ab;intro X Y;go_simp;apply Y;clear Y X)
  refine ah [] ?_;repeat' with_reducible first|apply af|apply ae|apply aa|(apply ar;·go_simp)|(apply ab;intro X Y;go_simp;apply Y;clear Y X)
  refine ah [] ?_;repeat' with_reducible first|apply af|apply ae|apply aa|(apply ar;·go_simp)|(apply ab;intro X Y;go_simp;apply Y;clear Y X)
  refine ah [] ?_;repeat' with_reducible first|apply af|apply ae|apply aa|(apply ar;·go_simp)|(apply ab;intro X Y;go_simp;apply Y;clear Y X)
  refine ah [] ?_;repeat' with_reducible first|apply af|apply ae|apply aa|(apply ar;·go_simp)|(apply ab;intro X Y;go_simp;apply Y;clear Y X)
  refine ah [] ?_;repeat' with_reducible first|apply af|apply ae|apply aa|(apply ax;·go_simp)|(apply ab;intro X Y;go_simp;apply Y;clear Y X)
  refine G2 9 [136] (fun i=>i == 6 || i == 8) (by kernel_rfl) (by kernel_rfl) (by kernel_rfl) (by go_simp) (by go_simp) ?_;simp only [au];repeat ((with_reducible refine mI rfl fun X Y=>?_);go_simp;refine Y _ (by go_simp) ?_;clear Y X)
  refine pU [some (.arr 9 1 false [[S car]])] none (.osl 7) rfl ⟨rfl,fun _=>rfl,fun _ h=>by cases h⟩ ?_ ?_
  ·intro s2 cV;have q1:lkp s2 135=S car:=(cV 135 (by simp [Op.operands]) (by go_simp)).trans (by go_simp);clear cV;go_simp
  repeat ((with_reducible refine mI rfl fun X Y=>?_);go_simp;refine Y _ (by go_simp) ?_;clear Y X)
  refine zm [none] (some 7) (.sl 1 ([[S car]]++(qat s.q k).map bY)) rfl ⟨rfl,(fun h=>by cases h),fun _ h=>by cases h;exact Nat.le_refl _⟩ rfl ?_ ?_
  ·intro s2 cV;have q1:lkp s2 136 = .osl 7:=(cV 136 (by simp [Op.operands,Call.operands]) (by go_simp)).trans (by go_simp);have q2:lkp s2 137 = .sl 1 ((qat s.q k).map bY):=(cV 137 (by simp [Op.operands,Call.operands]) (by go_simp)).trans (by go_simp);clear cV;go_simp;exact zn (id:=7) rfl rfl
  repeat (first|(with_reducible first|apply ae|apply aa|refine ah [] ?_|(apply ab;intro X Y;go_simp;apply Y;clear Y X))|((with_reducible refine wH ?_);simp only [List.cons_append,List.nil_append,nV,nU,if_true]))
  repeat' with_reducible first|apply ae|apply bc|apply aa|(apply ab;intro X Y;go_simp;(first|(refine ⟨_,g1,?_⟩)|skip);apply Y;clear Y X)
  rw [HR.out] at hK;refine hK _ ?_;go_simp
 ·refine gV 5 0 4 rfl rfl rfl ?_;repeat' first|(with_reducible first|apply af|apply ae|apply aE|apply aa|refine ah [] ?_|(apply ax;·go_simp))|((with_reducible apply ab);intro X Y;go_simp;(first|(refine ⟨_,gm,?_⟩)|skip);apply Y;clear Y X)
  apply mz (α:=St×List Sg) [3,6,8] (fun (x:St×List Sg)=>[(10,.osl 6),(14,I (di r x.1))]) (fun (x:St×List Sg)=>([some (.box [bG,bG,I 0]),none,none,none,none,some (.box [hQ x.1.q,.sl 3 (x.1.tk.map Tk.av),I x.1.time]),some (.arr 45 3 false (x.2.map Sg.av))] : Hp)) (fun (x:St×List Sg)=>Hid (Inv r x.1)∧x.2.length+2*cA 0 x.1.q≤1000000∧Hid (∃ n,cA 0 x.1.q≤n∧cD r n x.1 x.2=(S2,M2))) (fun (x:St×List Sg)=>cA 0 x.1.q) ((⟨Q0,dA,tm⟩,[(⟨0,(k:Int),car⟩ : Sg)])) ⟨HI,hB,HN⟩
  ·(go_simp<;>exact rfl)
  ·go_simp
  rintro ⟨⟨Q,TK,t⟩,m⟩ ⟨bj,ie,HE⟩ K hK;simp only at bj ie HE hK ⊢;obtain ⟨n3,dQ,cN⟩:=HE.out;by_cases bT:di r ⟨Q,TK,t⟩ < 0
  ·have e:(⟨Q,TK,t⟩,m)=(S2,M2):=by
    cases n3 with
    | zero=>exact cN
    | succ n=>rw [cD,if_pos bT] at cN;exact cN
   clear hK cN HE dQ ie;injection e with e1 e2
   subst e1;subst e2;generalize di r ⟨Q,TK,t⟩=R at *;have kn:¬0≤R:=by omega
   refine oU 10 6 rfl rfl ?_;repeat' with_reducible first|apply af|apply ae|apply bU|apply az|apply bV|apply bW|apply aa|refine ah [] ?_|(apply ar;·go_simp)|(apply ab;intro X Y;go_simp;apply Y;clear Y X)
   go_simp
  ·obtain ⟨j,ej,hj,hp⟩:=mu bT;have fF:j < Q.length:=by rw [bj.out.len];exact hj
   obtain ⟨f1,f2,f3⟩:=mr hp;obtain ⟨p1,p2,p3⟩:=HU.out.feedN hj f1;have cX:feedN r j < Q.length:=by rw [bj.out.len];exact p3
   have gM:=pv HU.out bj.out.len fF f1 f2;have bD:=bj.out.up HU.out fF f1 f2 f3;have ko:=ub r Q j (feedN r j) fF bj.out.len.symm p1 cX (by omega) f2 (by rw [bj.out.len];have:=HU.out.n6;omega) fun i jl=>by
    have h1:=bj.out.fit i jl;have h2:=HU.out.pl i (by rw [←bj.out.len];exact jl);simp only at h1;omega
   rw [rL fF cX (by omega)] at ko;have nW:=mE r (upS r ⟨Q,TK,t⟩ j) hn (by rw [bD.len]) (by rw [bD.len];exact HU.out.feed);have fC:∃ n,cA 0 (upS r ⟨Q,TK,t⟩ j).q≤n∧cD r n (upS r ⟨Q,TK,t⟩ j) (m++upM Q j (feedN r j))=(S2,M2):=by
    cases n3 with
    | zero=>simp only at gM dQ;omega
    | succ n3=>
     rw [cD,if_neg bT,ej,Int.toNat_natCast] at cN;exact ⟨n3,by simp only at gM dQ;omega,cN⟩
   have HX:=Lib.hid fC;have lW:=Lib.hid bD;have o_:m.length+(upM Q j (feedN r j)).length=m.length+2:=by simp [upM]
   have kW:(m++upM Q j (feedN r j)).length=m.length+2:=by simp [upM]
   have nX:(upM Q j (feedN r j)).length=2:=by simp [upM]
   have nY:m.length+2≤1000000000:=by omega
   clear cN HE fC bD dQ bT bj f1 f2 f3 hp;unfold upS at *;simp only at *;generalize upQ Q j (feedN r j)=Q2 at *;have ld:(m++upM Q j (feedN r j)).map Sg.av=m.map Sg.av++(upM Q j (feedN r j)).map Sg.av:=List.map_append;generalize upM Q j (feedN r j)=U at *;rw [ej];repeat' with_reducible first|apply af|apply ae|apply aw|apply aE|apply bc|apply aa|refine ah [] ?_|(apply ax;·go_simp)|(apply ab;intro X Y;go_simp;(first|(refine ⟨_,ko,?_⟩)|(refine ⟨_,nW,?_⟩)|skip);apply Y;clear Y X)
   refine hK _ (⟨Q2,TK,t⟩,m++U) ⟨lW,by simp only;omega,HX⟩ (by simp only;omega) ?_;simp only [ld];go_simp
end Go.Proofs.YtoibondihdhnoaaGreatDoor
