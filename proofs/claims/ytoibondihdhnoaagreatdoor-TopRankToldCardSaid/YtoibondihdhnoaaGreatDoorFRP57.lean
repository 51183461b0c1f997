/- Texts in one: Walks: an event is carried out, as the reference has it. Printed by genR39.py. -/
import Derived.Test.YtoibondihdhnoaaGreatDoorFRP9
import Derived.Test.YtoibondihdhnoaaGreatDoorFRP53
import Derived.Test.YtoibondihdhnoaaGreatDoorFRP28
import Derived.Test.YtoibondihdhnoaaGreatDoorFRP56
namespace Go.Proofs.YtoibondihdhnoaaGreatDoor
open Go.RowKit
set_option maxRecDepth 100000
set_option maxHeartbeats 4000000
theorem zG {q:List (List ByteArray)} {k:Nat} {l:List ByteArray} : ((bL q).map fun l=>[AV.sl 1 l]).set k [.sl 1 (l.map bK)]=(bL (q.set k l)).map fun l=>[AV.sl 1 l]:=by
 rw [←lu,List.map_set]
theorem Io {c:ByteArray} (h:cu c=true) : c.size≤1000:=by
 unfold cu at h;simp only [Bool.and_eq_true,decide_eq_true_eq] at h;omega
theorem Inv.small {r:Ru} {s:St} (hr:RuOK r) (h:Inv r s) : SmallS s:=by
 have h6:=hr.n6;have hl:=h.len;have dT:∀ l∈s.q,l.length≤300:=fun l gU=>by
  obtain ⟨i,hi,rfl⟩:=List.getElem_of_mem gU;have h1:=h.fit i hi;have h2:=hr.pl i (by omega);rw [ft hi] at h1;omega
 refine ⟨by omega,fun l gU=>⟨dT l gU,fun c hc=>Io (h.name c (List.mem_append_left _ (List.mem_flatten.2 ⟨l,gU,hc⟩)))⟩,by have:=h.tkl;omega,fun t ht=>?_,?_⟩
 ·have h1:=h.tkr t ht;have h2:=h.tkt t ht;have h3:=h.t0;exact ⟨Io (h.name _ (List.mem_append_right _ (List.mem_map.2 ⟨t,ht,rfl⟩))),⟨by omega,by omega⟩,⟨by omega,by omega⟩⟩
 ·have h3:=h.t0;exact ⟨by omega,by omega⟩
theorem Pz (r:Ru) (s S2:St) (tm:Int) (k:Nat) (car:ByteArray) (M2 SN:List Sg) (Q0:List (List ByteArray)) (dE:List Tk) (hn:r.ranks.length≤1000000) (hr:RuOK r) (dZ:SmallS s) (hk:k < s.q.length) (dO:r.ranks.length=s.q.length) (f:Nat) (hf:(rat r.ranks k).feeder=f) (de:f < s.q.length) (aq:f≠k) (hp:0 < (qat s.q f).length) (dJ:∀ i,i < s.q.length→(qat s.q i).length≤1000000) (km:Q0=pQ s.q k f) (kI:dE=s.tk) (sI:SN=upM s.q k f) (hI:Inv r ⟨Q0,dE,tm⟩) (hB:SN.length+2*cD 0 Q0≤1000000) (gE:∃ n,cD 0 Q0≤n∧cE r n ⟨Q0,dE,tm⟩ SN=(S2,M2)) :
  VC Tryz.prog 68 [cY r,cT s,.agg [I 4,I tm,I (k:Int),S car]] (.tup [cT S2,.sl 3 (M2.map Sg.av)]):=by
 have gC:=uu s dZ;have w9:¬bL s.q=[]:=fun h=>by
  have:=ql s.q;rw [h] at this;simp at this;omega
 rw [decide_eq_false w9] at gC;have HI:=Lib.hid hI;have HU:=Lib.hid hr;have HN:=Lib.hid gE;have gm:=mZ r ⟨Q0,dE,tm⟩ hn hI.len.symm (by rw [hI.len];exact hr.feed);have iX:(qat s.q k).length≤300:=by rw [ft hk];exact (dZ.q1 _ (List.getElem_mem hk)).1
 have kn:=dZ.nt;clear hI hr gE dZ w9;generalize decide (s.tk.map Tk.av=[])=nT at *;have g4:=Ii r s.q k f hk dO hf de aq hp (by have:=HU.out.n6;omega) dJ;rw [←km,←sI] at g4;clear hf de aq hp dJ km sI;refine aP Tryz.func68 rfl (by kernel_rfl) rfl fun M0 w0=>?_;simp only [Tryz.ntmps68,Tryz.results68,aF];repeat' with_reducible apply af
 refine ah [] ?_;repeat' with_reducible first|apply af|apply ae|apply aa|(apply ab;intro X Y;go_simp;apply Y;clear Y X)
 refine fB (ca [] 1 ⟨rfl,rfl⟩ ?_);simp only [az];repeat' with_reducible first|apply aa|(apply ab;intro X Y;go_simp;apply Y;clear Y X)
 refine fJ [] [] [] [none,none,some (.arr 148 3 nT (s.tk.map Tk.av)),some (.bag 62 1 false none (bL s.q))] (.agg [.osl 3,.osl 2,I s.time]) rfl (by go_simp) ?_ ?_
 ·unfold fk;go_simp;refine ⟨_,_,⟨_,gC⟩,?_⟩;go_simp;kernel_rfl
 go_simp;refine ca [] 2 ⟨rfl,rfl⟩ ?_;simp only [az];repeat' with_reducible first|apply aa|(apply ab;intro X Y;go_simp;apply Y;clear Y X)
 apply dA;repeat' with_reducible first|apply af|apply ae
 refine ah [] ?_;repeat' with_reducible first|apply af|apply ae|apply aa|(apply ab;intro X Y;go_simp;apply Y;clear Y X)
 refine ah [] ?_;repeat' with_reducible first|apply af|apply ae|apply aa|(apply ab;intro X Y;go_simp;apply Y;clear Y X)
 refine ah [] ?_;repeat' with_reducible first|apply af|apply ae|apply aa|(apply ab;intro X Y;go_simp;apply Y;clear Y X)
 refine jA (fun p a w R=>R.bagArr (id:=4) rfl (by kernel_rfl)) ?_;go_simp;refine g_ 5 0 4 rfl rfl rfl ?_;refine g_ 5 1 3 rfl rfl rfl ?_;go_simp;refine ah [] ?_;repeat' with_reducible first|apply af|apply ae|apply aB|apply aa|(apply ab;intro X Y;go_simp;apply Y;clear Y X)
 refine ah [] ?_;repeat' with_reducible first|apply af|apply ae|apply aa|(apply ar;·go_simp)|(apply ab;intro X Y;go_simp;apply Y;clear Y X)
 refine ah [] ?_;repeat' with_reducible first|apply af|apply ae|apply aa|(apply ar;·go_simp)|(apply ab;intro X Y;go_simp;apply Y;clear Y X)
 refine ah [] ?_;repeat' with_reducible first|apply af|apply ae|apply aa|(apply ar;·go_simp)|(apply ab;intro X Y;go_simp;apply Y;clear Y X)
 refine ah [] ?_;repeat' with_reducible first|apply af|apply ae|apply aa|(apply ar;·go_simp)|(apply ab;intro X Y;go_simp;apply Y;clear Y X)
 refine ah [] ?_;repeat' with_reducible first|apply ae|apply aa|(apply aw;·go_simp)|(apply ab;intro X Y;go_simp;apply Y;clear Y X)
 refine fB (ca [] 5 ⟨rfl,rfl⟩ ?_);simp only [az];repeat' with_reducible first|apply aa|(apply ab;intro X Y;go_simp;apply Y;clear Y X)
 refine fJ [] [] [] [none,some (.arr 45 3 false (SN.map Sg.av))] (.tup [gp Q0,.osl 1]) rfl (by go_simp) ?_ ?_
 ·unfold fk;go_simp;refine ⟨_,_,⟨_,g4⟩,?_⟩;go_simp;kernel_rfl
 go_simp;refine ca [] 6 ⟨rfl,rfl⟩ ?_;simp only [az];repeat' with_reducible first|apply aa|(apply ab;intro X Y;go_simp;apply Y;clear Y X)
 apply dA;subst kI;repeat' first|(with_reducible first|apply af|apply ae|apply au|apply aB|apply bp|apply aa|refine ah [] ?_|(apply ar;·go_simp))|((with_reducible apply ab);intro X Y;go_simp;(first|(refine ⟨_,gm,?_⟩)|skip);apply Y;clear Y X)
 apply oX (α:=St×List Sg) [3,6,8] (fun (x:St×List Sg)=>[(10,.osl 7),(14,I (cM r x.1))]) (fun (x:St×List Sg)=>([some (.box [br,br,I 0]),none,none,none,none,some (.box [gp x.1.q,.sl 3 (x.1.tk.map Tk.av),I x.1.time]),none,some (.arr 45 3 false (x.2.map Sg.av))] : Hp)) (fun (x:St×List Sg)=>Hid (Inv r x.1)∧x.2.length+2*cD 0 x.1.q≤1000000∧Hid (∃ n,cD 0 x.1.q≤n∧cE r n x.1 x.2=(S2,M2))) (fun (x:St×List Sg)=>cD 0 x.1.q) ((⟨Q0,s.tk,tm⟩,SN)) ⟨HI,hB,HN⟩
 ·(go_simp<;>exact rfl)
 ·go_simp
 rintro ⟨⟨Q,TK,t⟩,m⟩ ⟨bF,ix,HE⟩ K hK;simp only at bF ix HE hK ⊢;obtain ⟨n3,dW,cR⟩:=HE.out;by_cases bV:cM r ⟨Q,TK,t⟩ < 0
 ·have e:(⟨Q,TK,t⟩,m)=(S2,M2):=by
   cases n3 with
   | zero=>exact cR
   | succ n=>rw [cE,if_pos bV] at cR;exact cR
  clear hK cR HE dW ix;injection e with e1 e2
  subst e1;subst e2;generalize cM r ⟨Q,TK,t⟩=R at *;have ko:¬0≤R:=by omega
  refine pr 10 7 rfl rfl ?_;repeat' with_reducible first|apply af|apply ae|apply bP|apply ax|apply bQ|apply bT|apply aa|refine ah [] ?_|(apply ar;·go_simp)|(apply ab;intro X Y;go_simp;apply Y;clear Y X)
  go_simp
 ·obtain ⟨j,ej,hj,hp⟩:=mS bV;have fF:j < Q.length:=by rw [bF.out.len];exact hj
  obtain ⟨f1,f2,f3⟩:=mR hp;obtain ⟨p1,p2,p3⟩:=HU.out.feedN hj f1;have de:feedN r j < Q.length:=by rw [bF.out.len];exact p3
  have hJ:=pP HU.out bF.out.len fF f1 f2;have bM:=bF.out.up HU.out fF f1 f2 f3;have kp:=ur r Q j (feedN r j) fF bF.out.len.symm p1 de (by omega) f2 (by rw [bF.out.len];have:=HU.out.n6;omega) fun i ju=>by
   have h1:=bF.out.fit i ju;have h2:=HU.out.pl i (by rw [←bF.out.len];exact ju);simp only at h1;omega
  rw [rV fF de (by omega)] at kp;have oE:=mZ r (upS r ⟨Q,TK,t⟩ j) hn (by rw [bM.len]) (by rw [bM.len];exact HU.out.feed);have gA:∃ n,cD 0 (upS r ⟨Q,TK,t⟩ j).q≤n∧cE r n (upS r ⟨Q,TK,t⟩ j) (m++upM Q j (feedN r j))=(S2,M2):=by
   cases n3 with
   | zero=>simp only at hJ dW;omega
   | succ n3=>
    rw [cE,if_neg bV,ej,Int.toNat_natCast] at cR;exact ⟨n3,by simp only at hJ dW;omega,cR⟩
  have HX:=Lib.hid gA;have mi:=Lib.hid bM;have oP:m.length+(upM Q j (feedN r j)).length=m.length+2:=by simp [upM]
  have k7:(m++upM Q j (feedN r j)).length=m.length+2:=by simp [upM]
  have oF:(upM Q j (feedN r j)).length=2:=by simp [upM]
  have oG:m.length+2≤1000000000:=by omega
  clear cR HE gA bM dW bV bF f1 f2 f3 hp;unfold upS at *;simp only at *;generalize upQ Q j (feedN r j)=Q2 at *;have lr:(m++upM Q j (feedN r j)).map Sg.av=m.map Sg.av++(upM Q j (feedN r j)).map Sg.av:=List.map_append;generalize upM Q j (feedN r j)=U at *;rw [ej];repeat' with_reducible first|apply af|apply ae|apply au|apply aB|apply bp|apply aa|refine ah [] ?_|(apply aw;·go_simp)|(apply ab;intro X Y;go_simp;(first|(refine ⟨_,kp,?_⟩)|(refine ⟨_,oE,?_⟩)|skip);apply Y;clear Y X)
  refine hK _ (⟨Q2,TK,t⟩,m++U) ⟨mi,by simp only;omega,HX⟩ (by simp only;omega) ?_;simp only [lr];go_simp
theorem PA (r:Ru) (s S2:St) (tm:Int) (k:Nat) (car:ByteArray) (M2:List Sg) (Q0:List (List ByteArray)) (dE:List Tk) (hn:r.ranks.length≤1000000) (hr:RuOK r) (dZ:SmallS s) (hk:k < s.q.length) (_hrl:r.ranks.length=s.q.length) (km:Q0=s.q.set k (qat s.q k++[car])) (kI:dE=woK s.tk car) (hI:Inv r ⟨Q0,dE,tm⟩) (hB : [(⟨0,(k:Int),car⟩ : Sg)].length+2*cD 0 Q0≤1000000) (gE:∃ n,cD 0 Q0≤n∧cE r n ⟨Q0,dE,tm⟩ [(⟨0,(k:Int),car⟩ : Sg)]=(S2,M2)) :
  VC Tryz.prog 68 [cY r,cT s,.agg [I 0,I tm,I (k:Int),S car]] (.tup [cT S2,.sl 3 (M2.map Sg.av)]):=by
 have gC:=uu s dZ;have aq:¬bL s.q=[]:=fun h=>by
  have:=ql s.q;rw [h] at this;simp at this;omega
 rw [decide_eq_false aq] at gC;have HI:=Lib.hid hI;have HU:=Lib.hid hr;have HN:=Lib.hid gE;have gm:=mZ r ⟨Q0,dE,tm⟩ hn hI.len.symm (by rw [hI.len];exact hr.feed);have iX:(qat s.q k).length≤300:=by rw [ft hk];exact (dZ.q1 _ (List.getElem_mem hk)).1
 have kn:=dZ.nt;clear hI hr gE dZ aq;generalize decide (s.tk.map Tk.av=[])=nT at *;have g1:=H8 s.tk car (by omega);have hb1:(qat s.q k).length+1≤1000000000:=by omega
 have aR:(bL Q0).map (fun l=>[AV.sl 1 l])=((bL s.q).set k ((qat s.q k).map bK++[[S car]])).map fun l=>[AV.sl 1 l]:=by
  rw [km,rL,lu]
 have HR:=Lib.hid aR;rw [←kI] at g1;clear km aR kI;refine aP Tryz.func68 rfl (by kernel_rfl) rfl fun M0 w0=>?_;simp only [Tryz.ntmps68,Tryz.results68,aF];repeat' with_reducible apply af
 refine ah [] ?_;repeat' with_reducible first|apply af|apply ae|apply aa|(apply ab;intro X Y;go_simp;apply Y;clear Y X)
 refine fB (ca [] 1 ⟨rfl,rfl⟩ ?_);simp only [az];repeat' with_reducible first|apply aa|(apply ab;intro X Y;go_simp;apply Y;clear Y X)
 refine fJ [] [] [] [none,none,some (.arr 148 3 nT (s.tk.map Tk.av)),some (.bag 62 1 false none (bL s.q))] (.agg [.osl 3,.osl 2,I s.time]) rfl (by go_simp) ?_ ?_
 ·unfold fk;go_simp;refine ⟨_,_,⟨_,gC⟩,?_⟩;go_simp;kernel_rfl
 go_simp;refine ca [] 2 ⟨rfl,rfl⟩ ?_;simp only [az];repeat' with_reducible first|apply aa|(apply ab;intro X Y;go_simp;apply Y;clear Y X)
 apply dA;repeat' with_reducible first|apply af|apply ae
 refine ah [] ?_;repeat' with_reducible first|apply af|apply ae|apply aa|(apply ab;intro X Y;go_simp;apply Y;clear Y X)
 refine ah [] ?_;repeat' with_reducible first|apply af|apply ae|apply aa|(apply ab;intro X Y;go_simp;apply Y;clear Y X)
 refine ah [10] ?_;repeat' with_reducible first|apply af|apply ae|apply aa|(apply ab;intro X Y;go_simp;apply Y;clear Y X)
 refine ah [] ?_;repeat ((with_reducible refine ab fun X Y=>?_);go_simp;refine Y _ ?_;clear Y X)
 apply aa;apply ae;refine tj ⟨[(3,.vp [.sl 4 (r.ranks.map Rk.av),I r.back,I r.ret]),(5,.vp [I 0,I tm,I (k:Int),S car]),(6,.ref 0 0),(8,.ref 5 0),(10,.osl 6)],[some (.box [br,br,I 0]),none,none,none,some (.arr 62 1 false ((bL Q0).map fun l=>[AV.sl 1 l])),some (.box [.osl 4,.sl 3 (dE.map Tk.av),I tm]),some (.arr 45 3 true [])]⟩ (fun K hK=>?_) ?_
 ·clear gm HN HI hB;refine g_ 5 1 3 rfl rfl rfl ?_;repeat' with_reducible first|apply af|apply aB
  refine ah [] ?_;repeat' with_reducible first|apply af|apply ae|apply aa|(apply aw;·go_simp)|(apply ab;intro X Y;go_simp;apply Y;clear Y X)
  refine mJ 8 [8,31,31,32,5,33,33,34] (by kernel_rfl) (by kernel_rfl) (by kernel_rfl) (unW 4) (nE 4) rfl ⟨rfl,rfl⟩ ?_;simp only [List.take];repeat' with_reducible first|apply aT|(apply aU;intro X Y;go_simp;apply Y;clear Y X)
  refine ⟨_,_,tg (id:=4) (k:=k) (es:=(qat s.q k).map bK) (c:=S car) (by exact rfl) (by exact rfl) (by go_simp) (by go_simp) rM ti9 (by exact rfl) (by go_simp),?_,?_,?_⟩
  ·simp only [List.forall_mem_cons];go_simp
  ·repeat' with_reducible first|apply aT|(apply aU;intro X Y;go_simp;apply Y;clear Y X)
   simp only [List.forall_mem_cons];go_simp
  go_simp;refine ca [] 2 ⟨rfl,rfl⟩ ?_;simp only [az];repeat' with_reducible first|apply aa|(apply ab;intro X Y;go_simp;apply Y;clear Y X)
  apply dA;repeat' with_reducible apply ae
  refine jA (fun p a w R=>R.bagArr (id:=4) rfl (by kernel_rfl)) ?_;go_simp;refine ah [] ?_;repeat' with_reducible first|apply ae|apply bp|apply aa|(apply ab;intro X Y;go_simp;(first|(refine ⟨_,g1,?_⟩)|skip);apply Y;clear Y X)
  rw [HR.out] at hK;refine hK _ ?_;go_simp
 ·refine g_ 5 0 4 rfl rfl rfl ?_;repeat' first|(with_reducible first|apply af|apply ae|apply au|apply aB|apply aa|refine ah [] ?_|(apply aw;·go_simp)|(apply ar;·go_simp))|((with_reducible apply ab);intro X Y;go_simp;(first|(refine ⟨_,gm,?_⟩)|skip);apply Y;clear Y X)
  apply oX (α:=St×List Sg) [3,6,8] (fun (x:St×List Sg)=>[(10,.osl 6),(14,I (cM r x.1))]) (fun (x:St×List Sg)=>([some (.box [br,br,I 0]),none,none,none,none,some (.box [gp x.1.q,.sl 3 (x.1.tk.map Tk.av),I x.1.time]),some (.arr 45 3 false (x.2.map Sg.av))] : Hp)) (fun (x:St×List Sg)=>Hid (Inv r x.1)∧x.2.length+2*cD 0 x.1.q≤1000000∧Hid (∃ n,cD 0 x.1.q≤n∧cE r n x.1 x.2=(S2,M2))) (fun (x:St×List Sg)=>cD 0 x.1.q) ((⟨Q0,dE,tm⟩,[(⟨0,(k:Int),car⟩ : Sg)])) ⟨HI,hB,HN⟩
  ·(go_simp<;>exact rfl)
  ·go_simp
  rintro ⟨⟨Q,TK,t⟩,m⟩ ⟨bF,ix,HE⟩ K hK;simp only at bF ix HE hK ⊢;obtain ⟨n3,dW,cR⟩:=HE.out;by_cases bV:cM r ⟨Q,TK,t⟩ < 0
  ·have e:(⟨Q,TK,t⟩,m)=(S2,M2):=by
    cases n3 with
    | zero=>exact cR
    | succ n=>rw [cE,if_pos bV] at cR;exact cR
   clear hK cR HE dW ix;injection e with e1 e2
   subst e1;subst e2;generalize cM r ⟨Q,TK,t⟩=R at *;have ko:¬0≤R:=by omega
   refine pr 10 6 rfl rfl ?_;repeat' with_reducible first|apply af|apply ae|apply bP|apply ax|apply bQ|apply bT|apply aa|refine ah [] ?_|(apply ar;·go_simp)|(apply ab;intro X Y;go_simp;apply Y;clear Y X)
   go_simp
  ·obtain ⟨j,ej,hj,hp⟩:=mS bV;have fF:j < Q.length:=by rw [bF.out.len];exact hj
   obtain ⟨f1,f2,f3⟩:=mR hp;obtain ⟨p1,p2,p3⟩:=HU.out.feedN hj f1;have de:feedN r j < Q.length:=by rw [bF.out.len];exact p3
   have hJ:=pP HU.out bF.out.len fF f1 f2;have bM:=bF.out.up HU.out fF f1 f2 f3;have kp:=ur r Q j (feedN r j) fF bF.out.len.symm p1 de (by omega) f2 (by rw [bF.out.len];have:=HU.out.n6;omega) fun i ju=>by
    have h1:=bF.out.fit i ju;have h2:=HU.out.pl i (by rw [←bF.out.len];exact ju);simp only at h1;omega
   rw [rV fF de (by omega)] at kp;have oE:=mZ r (upS r ⟨Q,TK,t⟩ j) hn (by rw [bM.len]) (by rw [bM.len];exact HU.out.feed);have gA:∃ n,cD 0 (upS r ⟨Q,TK,t⟩ j).q≤n∧cE r n (upS r ⟨Q,TK,t⟩ j) (m++upM Q j (feedN r j))=(S2,M2):=by
    cases n3 with
    | zero=>simp only at hJ dW;omega
    | succ n3=>
     rw [cE,if_neg bV,ej,Int.toNat_natCast] at cR;exact ⟨n3,by simp only at hJ dW;omega,cR⟩
   have HX:=Lib.hid gA;have mi:=Lib.hid bM;have oP:m.length+(upM Q j (feedN r j)).length=m.length+2:=by simp [upM]
   have k7:(m++upM Q j (feedN r j)).length=m.length+2:=by simp [upM]
   have oF:(upM Q j (feedN r j)).length=2:=by simp [upM]
   have oG:m.length+2≤1000000000:=by omega
   clear cR HE gA bM dW bV bF f1 f2 f3 hp;unfold upS at *;simp only at *;generalize upQ Q j (feedN r j)=Q2 at *;have lr:(m++upM Q j (feedN r j)).map Sg.av=m.map Sg.av++(upM Q j (feedN r j)).map Sg.av:=List.map_append;generalize upM Q j (feedN r j)=U at *;rw [ej];repeat' with_reducible first|apply af|apply ae|apply au|apply aB|apply bp|apply aa|refine ah [] ?_|(apply aw;·go_simp)|(apply ab;intro X Y;go_simp;(first|(refine ⟨_,kp,?_⟩)|(refine ⟨_,oE,?_⟩)|skip);apply Y;clear Y X)
   refine hK _ (⟨Q2,TK,t⟩,m++U) ⟨mi,by simp only;omega,HX⟩ (by simp only;omega) ?_;simp only [lr];go_simp
theorem PB (r:Ru) (s S2:St) (tm:Int) (k:Nat) (car:ByteArray) (M2:List Sg) (Q0:List (List ByteArray)) (dE:List Tk) (hn:r.ranks.length≤1000000) (hr:RuOK r) (dZ:SmallS s) (hk:k < s.q.length) (_hrl:r.ranks.length=s.q.length) (km:Q0=s.q.set k (woT (qat s.q k) car)) (kI:dE=s.tk++[⟨car,(k:Int),tm⟩]) (hI:Inv r ⟨Q0,dE,tm⟩) (hB : [(⟨1,(k:Int),car⟩ : Sg)].length+2*cD 0 Q0≤1000000) (gE:∃ n,cD 0 Q0≤n∧cE r n ⟨Q0,dE,tm⟩ [(⟨1,(k:Int),car⟩ : Sg)]=(S2,M2)) :
  VC Tryz.prog 68 [cY r,cT s,.agg [I 1,I tm,I (k:Int),S car]] (.tup [cT S2,.sl 3 (M2.map Sg.av)]):=by
 have gC:=uu s dZ;have aq:¬bL s.q=[]:=fun h=>by
  have:=ql s.q;rw [h] at this;simp at this;omega
 rw [decide_eq_false aq] at gC;have HI:=Lib.hid hI;have HU:=Lib.hid hr;have HN:=Lib.hid gE;have gm:=mZ r ⟨Q0,dE,tm⟩ hn hI.len.symm (by rw [hI.len];exact hr.feed);have iX:(qat s.q k).length≤300:=by rw [ft hk];exact (dZ.q1 _ (List.getElem_mem hk)).1
 have kn:=dZ.nt;clear hI hr gE dZ aq;generalize decide (s.tk.map Tk.av=[])=nT at *;have g1:=CR (qat s.q k) car (by omega);have hb1:s.tk.length+1≤1000000000:=by omega
 have aR:(bL Q0).map (fun l=>[AV.sl 1 l])=((bL s.q).map fun l=>[AV.sl 1 l]).set k [.sl 1 ((woT (qat s.q k) car).map bK)]:=by
  rw [km,zG]
 have HR:=Lib.hid aR;have HT:Hid (dE.map Tk.av=s.tk.map Tk.av++[[S car,I (k:Int),I tm]]):=Lib.hid (by rw [kI];simp [Tk.av]);clear km aR kI;refine aP Tryz.func68 rfl (by kernel_rfl) rfl fun M0 w0=>?_;simp only [Tryz.ntmps68,Tryz.results68,aF];repeat' with_reducible apply af
 refine ah [] ?_;repeat' with_reducible first|apply af|apply ae|apply aa|(apply ab;intro X Y;go_simp;apply Y;clear Y X)
 refine fB (ca [] 1 ⟨rfl,rfl⟩ ?_);simp only [az];repeat' with_reducible first|apply aa|(apply ab;intro X Y;go_simp;apply Y;clear Y X)
 refine fJ [] [] [] [none,none,some (.arr 148 3 nT (s.tk.map Tk.av)),some (.bag 62 1 false none (bL s.q))] (.agg [.osl 3,.osl 2,I s.time]) rfl (by go_simp) ?_ ?_
 ·unfold fk;go_simp;refine ⟨_,_,⟨_,gC⟩,?_⟩;go_simp;kernel_rfl
 go_simp;refine ca [] 2 ⟨rfl,rfl⟩ ?_;simp only [az];repeat' with_reducible first|apply aa|(apply ab;intro X Y;go_simp;apply Y;clear Y X)
 apply dA;repeat' with_reducible first|apply af|apply ae
 refine ah [] ?_;repeat' with_reducible first|apply af|apply ae|apply aa|(apply ab;intro X Y;go_simp;apply Y;clear Y X)
 refine ah [] ?_;repeat' with_reducible first|apply af|apply ae|apply aa|(apply ab;intro X Y;go_simp;apply Y;clear Y X)
 refine ah [10] ?_;repeat' with_reducible first|apply af|apply ae|apply aa|(apply ab;intro X Y;go_simp;apply Y;clear Y X)
 refine ah [] ?_;repeat ((with_reducible refine ab fun X Y=>?_);go_simp;refine Y _ ?_;clear Y X)
 apply aa;apply ae;refine tj ⟨[(3,.vp [.sl 4 (r.ranks.map Rk.av),I r.back,I r.ret]),(5,.vp [I 1,I tm,I (k:Int),S car]),(6,.ref 0 0),(8,.ref 5 0),(10,.osl 6)],[some (.box [br,br,I 0]),none,none,none,some (.arr 62 1 false ((bL Q0).map fun l=>[AV.sl 1 l])),some (.box [.osl 4,.sl 3 (dE.map Tk.av),I tm]),some (.arr 45 3 true [])]⟩ (fun K hK=>?_) ?_
 ·clear gm HN HI hB;refine jA (fun p a w R=>R.bagArr (id:=4) rfl (by kernel_rfl)) ?_;go_simp;repeat' with_reducible first|apply af|apply aB
  refine ah [] ?_;repeat' with_reducible first|apply af|apply ae|apply aa|(apply ar;·go_simp)|(apply ab;intro X Y;go_simp;apply Y;clear Y X)
  refine ah [] ?_;repeat' with_reducible first|apply af|apply ae|apply aa|(apply aw;·go_simp)|(apply ab;intro X Y;go_simp;apply Y;clear Y X)
  refine bc 10 8 [] rfl (by kernel_rfl) ?_;simp only [az];repeat' with_reducible first|apply ae|apply aa|apply aT|((first|apply ab|apply aU);intro X Y;go_simp;(first|(refine ⟨_,g1,?_⟩)|skip);apply Y;clear Y X)
  refine JJ [] 11 ⟨rfl,rfl⟩ ?_;simp only [az];repeat' with_reducible first|apply aa|(apply ab;intro X Y;go_simp;apply Y;clear Y X)
  refine ⟨_,fun p a w R=>⟨_,R.freeze (t:=68) (id:=3) rfl rfl⟩,?_⟩;go_simp;repeat' with_reducible first|apply ae|apply bp|apply aa|(apply ab;intro X Y;go_simp;apply Y;clear Y X)
  rw [HR.out,HT.out] at hK;refine hK _ ?_;go_simp
 ·refine g_ 5 0 4 rfl rfl rfl ?_;repeat' first|(with_reducible first|apply af|apply ae|apply au|apply aB|apply aa|refine ah [] ?_|(apply aw;·go_simp)|(apply ar;·go_simp))|((with_reducible apply ab);intro X Y;go_simp;(first|(refine ⟨_,gm,?_⟩)|skip);apply Y;clear Y X)
  apply oX (α:=St×List Sg) [3,6,8] (fun (x:St×List Sg)=>[(10,.osl 6),(14,I (cM r x.1))]) (fun (x:St×List Sg)=>([some (.box [br,br,I 0]),none,none,none,none,some (.box [gp x.1.q,.sl 3 (x.1.tk.map Tk.av),I x.1.time]),some (.arr 45 3 false (x.2.map Sg.av))] : Hp)) (fun (x:St×List Sg)=>Hid (Inv r x.1)∧x.2.length+2*cD 0 x.1.q≤1000000∧Hid (∃ n,cD 0 x.1.q≤n∧cE r n x.1 x.2=(S2,M2))) (fun (x:St×List Sg)=>cD 0 x.1.q) ((⟨Q0,dE,tm⟩,[(⟨1,(k:Int),car⟩ : Sg)])) ⟨HI,hB,HN⟩
  ·(go_simp<;>exact rfl)
  ·go_simp
  rintro ⟨⟨Q,TK,t⟩,m⟩ ⟨bF,ix,HE⟩ K hK;simp only at bF ix HE hK ⊢;obtain ⟨n3,dW,cR⟩:=HE.out;by_cases bV:cM r ⟨Q,TK,t⟩ < 0
  ·have e:(⟨Q,TK,t⟩,m)=(S2,M2):=by
    cases n3 with
    | zero=>exact cR
    | succ n=>rw [cE,if_pos bV] at cR;exact cR
   clear hK cR HE dW ix;injection e with e1 e2
   subst e1;subst e2;generalize cM r ⟨Q,TK,t⟩=R at *;have ko:¬0≤R:=by omega
   refine pr 10 6 rfl rfl ?_;repeat' with_reducible first|apply af|apply ae|apply bP|apply ax|apply bQ|apply bT|apply aa|refine ah [] ?_|(apply ar;·go_simp)|(apply ab;intro X Y;go_simp;apply Y;clear Y X)
   go_simp
  ·obtain ⟨j,ej,hj,hp⟩:=mS bV;have fF:j < Q.length:=by rw [bF.out.len];exact hj
   obtain ⟨f1,f2,f3⟩:=mR hp;obtain ⟨p1,p2,p3⟩:=HU.out.feedN hj f1;have de:feedN r j < Q.length:=by rw [bF.out.len];exact p3
   have hJ:=pP HU.out bF.out.len fF f1 f2;have bM:=bF.out.up HU.out fF f1 f2 f3;have kp:=ur r Q j (feedN r j) fF bF.out.len.symm p1 de (by omega) f2 (by rw [bF.out.len];have:=HU.out.n6;omega) fun i ju=>by
    have h1:=bF.out.fit i ju;have h2:=HU.out.pl i (by rw [←bF.out.len];exact ju);simp only at h1;omega
   rw [rV fF de (by omega)] at kp;have oE:=mZ r (upS r ⟨Q,TK,t⟩ j) hn (by rw [bM.len]) (by rw [bM.len];exact HU.out.feed);have gA:∃ n,cD 0 (upS r ⟨Q,TK,t⟩ j).q≤n∧cE r n (upS r ⟨Q,TK,t⟩ j) (m++upM Q j (feedN r j))=(S2,M2):=by
    cases n3 with
    | zero=>simp only at hJ dW;omega
    | succ n3=>
     rw [cE,if_neg bV,ej,Int.toNat_natCast] at cR;exact ⟨n3,by simp only at hJ dW;omega,cR⟩
   have HX:=Lib.hid gA;have mi:=Lib.hid bM;have oP:m.length+(upM Q j (feedN r j)).length=m.length+2:=by simp [upM]
   have k7:(m++upM Q j (feedN r j)).length=m.length+2:=by simp [upM]
   have oF:(upM Q j (feedN r j)).length=2:=by simp [upM]
   have oG:m.length+2≤1000000000:=by omega
   clear cR HE gA bM dW bV bF f1 f2 f3 hp;unfold upS at *;simp only at *;generalize upQ Q j (feedN r j)=Q2 at *;have lr:(m++upM Q j (feedN r j)).map Sg.av=m.map Sg.av++(upM Q j (feedN r j)).map Sg.av:=List.map_append;generalize upM Q j (feedN r j)=U at *;rw [ej];repeat' with_reducible first|apply af|apply ae|apply au|apply aB|apply bp|apply aa|refine ah [] ?_|(apply aw;·go_simp)|(apply ab;intro X Y;go_simp;(first|(refine ⟨_,kp,?_⟩)|(refine ⟨_,oE,?_⟩)|skip);apply Y;clear Y X)
   refine hK _ (⟨Q2,TK,t⟩,m++U) ⟨mi,by simp only;omega,HX⟩ (by simp only;omega) ?_;simp only [lr];go_simp
theorem PC (r:Ru) (s S2:St) (tm:Int) (k:Nat) (car:ByteArray) (M2:List Sg) (Q0:List (List ByteArray)) (dE:List Tk) (hn:r.ranks.length≤1000000) (hr:RuOK r) (dZ:SmallS s) (hk:k < s.q.length) (_hrl:r.ranks.length=s.q.length) (km:Q0=s.q.set k (woT (qat s.q k) car)) (kI:dE=s.tk) (hI:Inv r ⟨Q0,dE,tm⟩) (hB : [(⟨3,(k:Int),car⟩ : Sg)].length+2*cD 0 Q0≤1000000) (gE:∃ n,cD 0 Q0≤n∧cE r n ⟨Q0,dE,tm⟩ [(⟨3,(k:Int),car⟩ : Sg)]=(S2,M2)) :
  VC Tryz.prog 68 [cY r,cT s,.agg [I 3,I tm,I (k:Int),S car]] (.tup [cT S2,.sl 3 (M2.map Sg.av)]):=by
 have gC:=uu s dZ;have aq:¬bL s.q=[]:=fun h=>by
  have:=ql s.q;rw [h] at this;simp at this;omega
 rw [decide_eq_false aq] at gC;have HI:=Lib.hid hI;have HU:=Lib.hid hr;have HN:=Lib.hid gE;have gm:=mZ r ⟨Q0,dE,tm⟩ hn hI.len.symm (by rw [hI.len];exact hr.feed);have iX:(qat s.q k).length≤300:=by rw [ft hk];exact (dZ.q1 _ (List.getElem_mem hk)).1
 have kn:=dZ.nt;clear hI hr gE dZ aq;generalize decide (s.tk.map Tk.av=[])=nT at *;have g1:=CR (qat s.q k) car (by omega);have hb1:s.tk.length+1≤1000000000:=by omega
 have aR:(bL Q0).map (fun l=>[AV.sl 1 l])=((bL s.q).map fun l=>[AV.sl 1 l]).set k [.sl 1 ((woT (qat s.q k) car).map bK)]:=by
  rw [km,zG]
 have HR:=Lib.hid aR;have HT:Hid (dE.map Tk.av=s.tk.map Tk.av):=Lib.hid (by rw [kI]);clear km aR kI;refine aP Tryz.func68 rfl (by kernel_rfl) rfl fun M0 w0=>?_;simp only [Tryz.ntmps68,Tryz.results68,aF];repeat' with_reducible apply af
 refine ah [] ?_;repeat' with_reducible first|apply af|apply ae|apply aa|(apply ab;intro X Y;go_simp;apply Y;clear Y X)
 refine fB (ca [] 1 ⟨rfl,rfl⟩ ?_);simp only [az];repeat' with_reducible first|apply aa|(apply ab;intro X Y;go_simp;apply Y;clear Y X)
 refine fJ [] [] [] [none,none,some (.arr 148 3 nT (s.tk.map Tk.av)),some (.bag 62 1 false none (bL s.q))] (.agg [.osl 3,.osl 2,I s.time]) rfl (by go_simp) ?_ ?_
 ·unfold fk;go_simp;refine ⟨_,_,⟨_,gC⟩,?_⟩;go_simp;kernel_rfl
 go_simp;refine ca [] 2 ⟨rfl,rfl⟩ ?_;simp only [az];repeat' with_reducible first|apply aa|(apply ab;intro X Y;go_simp;apply Y;clear Y X)
 apply dA;repeat' with_reducible first|apply af|apply ae
 refine ah [] ?_;repeat' with_reducible first|apply af|apply ae|apply aa|(apply ab;intro X Y;go_simp;apply Y;clear Y X)
 refine ah [] ?_;repeat' with_reducible first|apply af|apply ae|apply aa|(apply ab;intro X Y;go_simp;apply Y;clear Y X)
 refine ah [10] ?_;repeat' with_reducible first|apply af|apply ae|apply aa|(apply ab;intro X Y;go_simp;apply Y;clear Y X)
 refine ah [] ?_;repeat ((with_reducible refine ab fun X Y=>?_);go_simp;refine Y _ ?_;clear Y X)
 apply aa;apply ae;refine tj ⟨[(3,.vp [.sl 4 (r.ranks.map Rk.av),I r.back,I r.ret]),(5,.vp [I 3,I tm,I (k:Int),S car]),(6,.ref 0 0),(8,.ref 5 0),(10,.osl 6)],[some (.box [br,br,I 0]),none,none,none,some (.arr 62 1 false ((bL Q0).map fun l=>[AV.sl 1 l])),some (.box [.osl 4,.sl 3 (dE.map Tk.av),I tm]),some (.arr 45 3 true [])]⟩ (fun K hK=>?_) ?_
 ·clear gm HN HI hB;refine jA (fun p a w R=>R.bagArr (id:=4) rfl (by kernel_rfl)) ?_;go_simp;refine g_ 5 1 3 rfl rfl rfl ?_;repeat' first|(with_reducible first|apply af|apply ae|apply aB|apply bp|apply aa|refine ah [] ?_|apply aT|(apply aw;·go_simp)|(apply ar;·go_simp)|((first|apply ab|apply aU);intro X Y;go_simp;(first|(refine ⟨_,g1,?_⟩)|skip);apply Y;clear Y X))|((refine bc 10 9 [] rfl (by kernel_rfl) ?_);simp only [az])
  rw [HR.out,HT.out] at hK;refine hK _ ?_;go_simp
 ·refine g_ 5 0 4 rfl rfl rfl ?_;repeat' first|(with_reducible first|apply af|apply ae|apply au|apply aB|apply aa|refine ah [] ?_|(apply aw;·go_simp)|(apply ar;·go_simp))|((with_reducible apply ab);intro X Y;go_simp;(first|(refine ⟨_,gm,?_⟩)|skip);apply Y;clear Y X)
  apply oX (α:=St×List Sg) [3,6,8] (fun (x:St×List Sg)=>[(10,.osl 6),(14,I (cM r x.1))]) (fun (x:St×List Sg)=>([some (.box [br,br,I 0]),none,none,none,none,some (.box [gp x.1.q,.sl 3 (x.1.tk.map Tk.av),I x.1.time]),some (.arr 45 3 false (x.2.map Sg.av))] : Hp)) (fun (x:St×List Sg)=>Hid (Inv r x.1)∧x.2.length+2*cD 0 x.1.q≤1000000∧Hid (∃ n,cD 0 x.1.q≤n∧cE r n x.1 x.2=(S2,M2))) (fun (x:St×List Sg)=>cD 0 x.1.q) ((⟨Q0,dE,tm⟩,[(⟨3,(k:Int),car⟩ : Sg)])) ⟨HI,hB,HN⟩
  ·(go_simp<;>exact rfl)
  ·go_simp
  rintro ⟨⟨Q,TK,t⟩,m⟩ ⟨bF,ix,HE⟩ K hK;simp only at bF ix HE hK ⊢;obtain ⟨n3,dW,cR⟩:=HE.out;by_cases bV:cM r ⟨Q,TK,t⟩ < 0
  ·have e:(⟨Q,TK,t⟩,m)=(S2,M2):=by
    cases n3 with
    | zero=>exact cR
    | succ n=>rw [cE,if_pos bV] at cR;exact cR
   clear hK cR HE dW ix;injection e with e1 e2
   subst e1;subst e2;generalize cM r ⟨Q,TK,t⟩=R at *;have ko:¬0≤R:=by omega
   refine pr 10 6 rfl rfl ?_;repeat' with_reducible first|apply af|apply ae|apply bP|apply ax|apply bQ|apply bT|apply aa|refine ah [] ?_|(apply ar;·go_simp)|(apply ab;intro X Y;go_simp;apply Y;clear Y X)
   go_simp
  ·obtain ⟨j,ej,hj,hp⟩:=mS bV;have fF:j < Q.length:=by rw [bF.out.len];exact hj
   obtain ⟨f1,f2,f3⟩:=mR hp;obtain ⟨p1,p2,p3⟩:=HU.out.feedN hj f1;have de:feedN r j < Q.length:=by rw [bF.out.len];exact p3
   have hJ:=pP HU.out bF.out.len fF f1 f2;have bM:=bF.out.up HU.out fF f1 f2 f3;have kp:=ur r Q j (feedN r j) fF bF.out.len.symm p1 de (by omega) f2 (by rw [bF.out.len];have:=HU.out.n6;omega) fun i ju=>by
    have h1:=bF.out.fit i ju;have h2:=HU.out.pl i (by rw [←bF.out.len];exact ju);simp only at h1;omega
   rw [rV fF de (by omega)] at kp;have oE:=mZ r (upS r ⟨Q,TK,t⟩ j) hn (by rw [bM.len]) (by rw [bM.len];exact HU.out.feed);have gA:∃ n,cD 0 (upS r ⟨Q,TK,t⟩ j).q≤n∧cE r n (upS r ⟨Q,TK,t⟩ j) (m++upM Q j (feedN r j))=(S2,M2):=by
    cases n3 with
    | zero=>simp only at hJ dW;omega
    | succ n3=>
     rw [cE,if_neg bV,ej,Int.toNat_natCast] at cR;exact ⟨n3,by simp only at hJ dW;omega,cR⟩
   have HX:=Lib.hid gA;have mi:=Lib.hid bM;have oP:m.length+(upM Q j (feedN r j)).length=m.length+2:=by simp [upM]
   have k7:(m++upM Q j (feedN r j)).length=m.length+2:=by simp [upM]
   have oF:(upM Q j (feedN r j)).length=2:=by simp [upM]
   have oG:m.length+2≤1000000000:=by omega
   clear cR HE gA bM dW bV bF f1 f2 f3 hp;unfold upS at *;simp only at *;generalize upQ Q j (feedN r j)=Q2 at *;have lr:(m++upM Q j (feedN r j)).map Sg.av=m.map Sg.av++(upM Q j (feedN r j)).map Sg.av:=List.map_append;generalize upM Q j (feedN r j)=U at *;rw [ej];repeat' with_reducible first|apply af|apply ae|apply au|apply aB|apply bp|apply aa|refine ah [] ?_|(apply aw;·go_simp)|(apply ab;intro X Y;go_simp;(first|(refine ⟨_,kp,?_⟩)|(refine ⟨_,oE,?_⟩)|skip);apply Y;clear Y X)
   refine hK _ (⟨Q2,TK,t⟩,m++U) ⟨mi,by simp only;omega,HX⟩ (by simp only;omega) ?_;simp only [lr];go_simp
theorem PD (r:Ru) (s S2:St) (tm:Int) (k:Nat) (car:ByteArray) (M2:List Sg) (Q0:List (List ByteArray)) (dE:List Tk) (hn:r.ranks.length≤1000000) (hr:RuOK r) (dZ:SmallS s) (hk:k < s.q.length) (_hrl:r.ranks.length=s.q.length) (b:Nat) (uo:b=tH r (woT (qat s.q k) car).length) (pR:r.back = -1∨0≤r.back∧r.back≤12) (km:Q0=s.q.set k ((woT (qat s.q k) car).take b++[car]++(woT (qat s.q k) car).drop b)) (kI:dE=s.tk) (hI:Inv r ⟨Q0,dE,tm⟩) (hB : [(⟨2,(k:Int),car⟩ : Sg)].length+2*cD 0 Q0≤1000000) (gE:∃ n,cD 0 Q0≤n∧cE r n ⟨Q0,dE,tm⟩ [(⟨2,(k:Int),car⟩ : Sg)]=(S2,M2)) :
  VC Tryz.prog 68 [cY r,cT s,.agg [I 2,I tm,I (k:Int),S car]] (.tup [cT S2,.sl 3 (M2.map Sg.av)]):=by
 have gC:=uu s dZ;have aq:¬bL s.q=[]:=fun h=>by
  have:=ql s.q;rw [h] at this;simp at this;omega
 rw [decide_eq_false aq] at gC;have HI:=Lib.hid hI;have HU:=Lib.hid hr;have HN:=Lib.hid gE;have gm:=mZ r ⟨Q0,dE,tm⟩ hn hI.len.symm (by rw [hI.len];exact hr.feed);have iX:(qat s.q k).length≤300:=by rw [ft hk];exact (dZ.q1 _ (List.getElem_mem hk)).1
 have kn:=dZ.nt;clear hI hr gE dZ aq;generalize decide (s.tk.map Tk.av=[])=nT at *;have g1:=CR (qat s.q k) car (by omega);have uw:(woT (qat s.q k) car).length≤300:=Nat.le_trans (List.length_filter_le _ _) iX;have aR:(bL Q0).map (fun l=>[AV.sl 1 l])=((bL s.q).map fun l=>[AV.sl 1 l]).set k [.sl 1 (((woT (qat s.q k) car).map bK).take b++[[S car]]++((woT (qat s.q k) car).map bK).drop b)]:=by
  rw [km,←zG,List.map_append,List.map_append,List.map_take,List.map_drop];rfl
 have hb0:b≤(woT (qat s.q k) car).length∧(r.back = -1∨r.back > (woT (qat s.q k) car).length→b=(woT (qat s.q k) car).length)∧(¬(r.back = -1∨r.back > (woT (qat s.q k) car).length)→r.back=b):=by
  rw [uo];unfold tH;by_cases h:r.back = -1∨r.back > (woT (qat s.q k) car).length
  ·rw [if_pos h];exact ⟨Nat.le_refl _,fun _=>rfl,fun hh=>absurd h hh⟩
  ·rw [if_neg h];exact ⟨by omega,fun hh=>absurd hh h,fun _=>by omega⟩
 generalize woT (qat s.q k) car=W at *;have g2:=zl (W.take b) (by rw [List.length_take];omega);unfold gG at g2;rw [List.map_take] at g2;have HR:=Lib.hid aR;have HT:Hid (dE.map Tk.av=s.tk.map Tk.av):=Lib.hid (by rw [kI]);obtain ⟨hb1,hb2,hb3⟩:=hb0;have na:b+1≤1000000000:=by omega
 have PE:(b:Int)≤W.length:=by omega
 have wx:b+1+(W.length - b)≤1000000000:=by omega
 have pL:min b W.length=b:=by omega
 clear km aR uo kI;refine aP Tryz.func68 rfl (by kernel_rfl) rfl fun M0 w0=>?_;simp only [Tryz.ntmps68,Tryz.results68,aF];repeat' with_reducible apply af
 refine ah [] ?_;repeat' with_reducible first|apply af|apply ae|apply aa|(apply ab;intro X Y;go_simp;apply Y;clear Y X)
 refine fB (ca [] 1 ⟨rfl,rfl⟩ ?_);simp only [az];repeat' with_reducible first|apply aa|(apply ab;intro X Y;go_simp;apply Y;clear Y X)
 refine fJ [] [] [] [none,none,some (.arr 148 3 nT (s.tk.map Tk.av)),some (.bag 62 1 false none (bL s.q))] (.agg [.osl 3,.osl 2,I s.time]) rfl (by go_simp) ?_ ?_
 ·unfold fk;go_simp;refine ⟨_,_,⟨_,gC⟩,?_⟩;go_simp;kernel_rfl
 go_simp;refine ca [] 2 ⟨rfl,rfl⟩ ?_;simp only [az];repeat' with_reducible first|apply aa|(apply ab;intro X Y;go_simp;apply Y;clear Y X)
 apply dA;repeat' with_reducible first|apply af|apply ae
 refine ah [] ?_;repeat' with_reducible first|apply af|apply ae|apply aa|(apply ab;intro X Y;go_simp;apply Y;clear Y X)
 refine ah [] ?_;repeat' with_reducible first|apply af|apply ae|apply aa|(apply ab;intro X Y;go_simp;apply Y;clear Y X)
 refine ah [10] ?_;repeat' with_reducible first|apply af|apply ae|apply aa|(apply ab;intro X Y;go_simp;apply Y;clear Y X)
 refine ah [] ?_;repeat ((with_reducible refine ab fun X Y=>?_);go_simp;refine Y _ ?_;clear Y X)
 apply aa;apply ae;refine tj ⟨[(3,.vp [.sl 4 (r.ranks.map Rk.av),I r.back,I r.ret]),(5,.vp [I 2,I tm,I (k:Int),S car]),(6,.ref 0 0),(8,.ref 5 0),(10,.osl 6)],[some (.box [br,br,I 0]),none,none,none,some (.arr 62 1 false ((bL Q0).map fun l=>[AV.sl 1 l])),some (.box [.osl 4,.sl 3 (dE.map Tk.av),I tm]),some (.arr 45 3 true [])]⟩ (fun K hK=>?_) ?_
 ·clear gm HN HI hB;refine jA (fun p a w R=>R.bagArr (id:=4) rfl (by kernel_rfl)) ?_;go_simp;refine g_ 5 1 3 rfl rfl rfl ?_;rw [HT.out] at hK;by_cases hx:r.back = -1∨r.back > W.length
  ·have zH:W.length=b:=(hb2 hx).symm;have me:List.take b (W.map bK)=W.map bK:=List.take_of_length_le (by simp [zH]);have PF:List.drop b (W.map bK)=[]:=List.drop_eq_nil_of_le (by simp [zH]);have rC:=HR.out;rw [me] at g2;rw [me,PF,List.append_nil] at rC;have HR:=Lib.hid rC;clear hb1 hb2 hb3 pR PE wx pL rC;rw [zH] at hx;by_cases qF:r.back = -1
   ·clear hx;repeat' with_reducible first|apply af|apply aB
    refine ah [] ?_;repeat' with_reducible first|apply af|apply ae|apply aa|(apply ar;·go_simp)|(apply ab;intro X Y;go_simp;apply Y;clear Y X)
    refine ah [] ?_;repeat' with_reducible first|apply af|apply ae|apply aa|(apply ar;·go_simp)|(apply ab;intro X Y;go_simp;apply Y;clear Y X)
    refine ah [] ?_;repeat' with_reducible first|apply af|apply ae|apply aa|(apply aw;·go_simp)|(apply ab;intro X Y;go_simp;apply Y;clear Y X)
    refine ah [] ?_;repeat' with_reducible first|apply af|apply ae|apply aa|(apply ab;intro X Y;go_simp;(first|(refine ⟨_,g1,?_⟩)|skip);apply Y;clear Y X)
    refine ah [] ?_;repeat' with_reducible first|apply af|apply ae|apply aa|(apply ab;intro X Y;go_simp;apply Y;clear Y X)
    refine ah [] ?_;repeat' with_reducible first|apply ae|apply aa|(apply aw;·go_simp)|(apply ab;intro X Y;go_simp;apply Y;clear Y X)
    refine ah [] ?_;repeat' with_reducible first|apply ae|apply aa|(apply ab;intro X Y;go_simp;apply Y;clear Y X)
    refine Da 16 [95] (fun i=>i == 7 || i == 11 || i == 15) (by kernel_rfl) (by kernel_rfl) (by kernel_rfl) (by go_simp) (by go_simp) ?_;simp only [az];repeat ((with_reducible refine lY rfl fun X Y=>?_);go_simp;refine Y _ (by go_simp) ?_;clear Y X)
    refine oH [some (.arr 9 1 false (W.map bK))] none (.osl 7) rfl ⟨rfl,fun _=>rfl,fun _ h=>by cases h⟩ ?_ ?_
    ·intro s2 cL;have q1:lkp s2 94 = .sl 1 (W.map bK):=(cL 94 (by simp [Op.operands,Call.operands]) (by go_simp)).trans (by go_simp);clear cL;go_simp;exact ⟨_,_,_,g2,rfl,rfl,rfl⟩
    repeat ((with_reducible refine lY rfl fun X Y=>?_);go_simp;refine Y _ (by go_simp) ?_;clear Y X)
    refine oH [some (.arr 9 1 false (W.map bK++[[S car]]))] (some 7) (.osl 7) rfl ⟨rfl,fun h=>(by cases h),fun _ h=>(by cases h;exact Nat.le_refl _)⟩ ?_ ?_
    ·intro s2 cL;have q1:lkp s2 95 = .osl 7:=(cL 95 (by simp [Op.operands,Call.operands]) (by go_simp)).trans (by go_simp);have q2:lkp s2 98 = .sl 1 [[S car]]:=(cL 98 (by simp [Op.operands,Call.operands]) (by go_simp)).trans (by go_simp);clear cL;go_simp
    repeat ((with_reducible refine lY rfl fun X Y=>?_);go_simp;refine Y _ (by go_simp) ?_;clear Y X)
    refine zI [none] (some 7) (.sl 1 (W.map bK++[[S car]])) rfl ⟨rfl,(fun h=>by cases h),fun _ h=>by cases h;exact Nat.le_refl _⟩ rfl ?_ ?_
    ·intro s2 cL;have q1:lkp s2 99 = .osl 7:=(cL 99 (by simp [Op.operands,Call.operands]) (by go_simp)).trans (by go_simp);have q2:lkp s2 102 = .sl 1 ([]):=(cL 102 (by simp [Op.operands,Call.operands]) (by go_simp)).trans (by go_simp);clear cL;go_simp;exact zJ (id:=7) rfl rfl
    repeat (first|(with_reducible first|apply ae|apply bp|apply aa|(apply ab;intro X Y;go_simp;apply Y;clear Y X))|((with_reducible refine ux ?_);simp only [List.nil_append,nf,oD,if_true]))
    skip
    rw [HR.out] at hK;refine hK _ ?_;go_simp
   ·have w_:(b:Int) < r.back:=by omega
    clear hx;repeat' with_reducible first|apply af|apply aB
    refine ah [] ?_;repeat' with_reducible first|apply af|apply ae|apply aa|(apply ar;·go_simp)|(apply ab;intro X Y;go_simp;apply Y;clear Y X)
    refine ah [] ?_;repeat' with_reducible first|apply af|apply ae|apply aa|(apply ar;·go_simp)|(apply ab;intro X Y;go_simp;apply Y;clear Y X)
    refine ah [] ?_;repeat' with_reducible first|apply af|apply ae|apply aa|(apply aw;·go_simp)|(apply ab;intro X Y;go_simp;apply Y;clear Y X)
    refine ah [] ?_;repeat' with_reducible first|apply af|apply ae|apply aa|(apply ab;intro X Y;go_simp;(first|(refine ⟨_,g1,?_⟩)|skip);apply Y;clear Y X)
    refine ah [] ?_;repeat' with_reducible first|apply af|apply ae|apply aa|(apply ab;intro X Y;go_simp;apply Y;clear Y X)
    refine ah [] ?_;repeat' with_reducible first|apply ae|apply aa|(apply aw;·go_simp)|(apply ab;intro X Y;go_simp;apply Y;clear Y X)
    refine ah [] ?_;repeat' with_reducible first|apply ae|apply aa|(apply ab;intro X Y;go_simp;apply Y;clear Y X)
    refine Da 16 [95] (fun i=>i == 7 || i == 11 || i == 15) (by kernel_rfl) (by kernel_rfl) (by kernel_rfl) (by go_simp) (by go_simp) ?_;simp only [az];repeat ((with_reducible refine lY rfl fun X Y=>?_);go_simp;refine Y _ (by go_simp) ?_;clear Y X)
    refine oH [some (.arr 9 1 false (W.map bK))] none (.osl 7) rfl ⟨rfl,fun _=>rfl,fun _ h=>by cases h⟩ ?_ ?_
    ·intro s2 cL;have q1:lkp s2 94 = .sl 1 (W.map bK):=(cL 94 (by simp [Op.operands,Call.operands]) (by go_simp)).trans (by go_simp);clear cL;go_simp;exact ⟨_,_,_,g2,rfl,rfl,rfl⟩
    repeat ((with_reducible refine lY rfl fun X Y=>?_);go_simp;refine Y _ (by go_simp) ?_;clear Y X)
    refine oH [some (.arr 9 1 false (W.map bK++[[S car]]))] (some 7) (.osl 7) rfl ⟨rfl,fun h=>(by cases h),fun _ h=>(by cases h;exact Nat.le_refl _)⟩ ?_ ?_
    ·intro s2 cL;have q1:lkp s2 95 = .osl 7:=(cL 95 (by simp [Op.operands,Call.operands]) (by go_simp)).trans (by go_simp);have q2:lkp s2 98 = .sl 1 [[S car]]:=(cL 98 (by simp [Op.operands,Call.operands]) (by go_simp)).trans (by go_simp);clear cL;go_simp
    repeat ((with_reducible refine lY rfl fun X Y=>?_);go_simp;refine Y _ (by go_simp) ?_;clear Y X)
    refine zI [none] (some 7) (.sl 1 (W.map bK++[[S car]])) rfl ⟨rfl,(fun h=>by cases h),fun _ h=>by cases h;exact Nat.le_refl _⟩ rfl ?_ ?_
    ·intro s2 cL;have q1:lkp s2 99 = .osl 7:=(cL 99 (by simp [Op.operands,Call.operands]) (by go_simp)).trans (by go_simp);have q2:lkp s2 102 = .sl 1 ([]):=(cL 102 (by simp [Op.operands,Call.operands]) (by go_simp)).trans (by go_simp);clear cL;go_simp;exact zJ (id:=7) rfl rfl
    repeat (first|(with_reducible first|apply ae|apply bp|apply aa|(apply ab;intro X Y;go_simp;apply Y;clear Y X))|((with_reducible refine ux ?_);simp only [List.nil_append,nf,oD,if_true]))
    skip
    rw [HR.out] at hK;refine hK _ ?_;go_simp
  ·have zH:r.back=b:=hb3 hx;have qF:¬(b:Int) = -1:=by omega
   have w_:¬(W.length:Int) < b:=by omega
   have me:List.take W.length (W.map bK)=W.map bK:=List.take_of_length_le (by simp);clear hx hb2 hb3 pR;repeat' with_reducible first|apply af|apply aB
   refine ah [] ?_;repeat' with_reducible first|apply af|apply ae|apply aa|(apply ar;·go_simp)|(apply ab;intro X Y;go_simp;apply Y;clear Y X)
   refine ah [] ?_;repeat' with_reducible first|apply af|apply ae|apply aa|(apply ar;·go_simp)|(apply ab;intro X Y;go_simp;apply Y;clear Y X)
   refine ah [] ?_;repeat' with_reducible first|apply af|apply ae|apply aa|(apply aw;·go_simp)|(apply ab;intro X Y;go_simp;apply Y;clear Y X)
   refine ah [] ?_;repeat' with_reducible first|apply af|apply ae|apply aa|(apply ab;intro X Y;go_simp;(first|(refine ⟨_,g1,?_⟩)|skip);apply Y;clear Y X)
   refine ah [] ?_;repeat' with_reducible first|apply af|apply ae|apply aa|(apply ab;intro X Y;go_simp;apply Y;clear Y X)
   refine ah [] ?_;repeat' with_reducible first|apply ae|apply au|apply aa|(apply ar;·go_simp)|(apply ab;intro X Y;go_simp;apply Y;clear Y X)
   refine Da 16 [95] (fun i=>i == 7 || i == 11 || i == 15) (by kernel_rfl) (by kernel_rfl) (by kernel_rfl) (by go_simp) (by go_simp) ?_;simp only [az];repeat ((with_reducible refine lY rfl fun X Y=>?_);go_simp;refine Y _ (by go_simp) ?_;clear Y X)
   refine oH [some (.arr 9 1 false ((W.map bK).take b))] none (.osl 7) rfl ⟨rfl,fun _=>rfl,fun _ h=>by cases h⟩ ?_ ?_
   ·intro s2 cL;have q1:lkp s2 94 = .sl 1 ((W.map bK).take b):=(cL 94 (by simp [Op.operands,Call.operands]) (by go_simp)).trans (by go_simp);clear cL;go_simp;exact ⟨_,_,_,g2,rfl,rfl,rfl⟩
   repeat ((with_reducible refine lY rfl fun X Y=>?_);go_simp;refine Y _ (by go_simp) ?_;clear Y X)
   refine oH [some (.arr 9 1 false ((W.map bK).take b++[[S car]]))] (some 7) (.osl 7) rfl ⟨rfl,fun h=>(by cases h),fun _ h=>(by cases h;exact Nat.le_refl _)⟩ ?_ ?_
   ·intro s2 cL;have q1:lkp s2 95 = .osl 7:=(cL 95 (by simp [Op.operands,Call.operands]) (by go_simp)).trans (by go_simp);have q2:lkp s2 98 = .sl 1 [[S car]]:=(cL 98 (by simp [Op.operands,Call.operands]) (by go_simp)).trans (by go_simp);clear cL;go_simp
   repeat ((with_reducible refine lY rfl fun X Y=>?_);go_simp;refine Y _ (by go_simp) ?_;clear Y X)
   refine zI [none] (some 7) (.sl 1 ((W.map bK).take b++[[S car]]++(W.map bK).drop b)) rfl ⟨rfl,(fun h=>by cases h),fun _ h=>by cases h;exact Nat.le_refl _⟩ rfl ?_ ?_
   ·intro s2 cL;have q1:lkp s2 99 = .osl 7:=(cL 99 (by simp [Op.operands,Call.operands]) (by go_simp)).trans (by go_simp);have q2:lkp s2 102 = .sl 1 ((W.map bK).drop b):=(cL 102 (by simp [Op.operands,Call.operands]) (by go_simp)).trans (by go_simp);clear cL;go_simp;exact zJ (id:=7) rfl rfl
   repeat (first|(with_reducible first|apply ae|apply bp|apply aa|(apply ab;intro X Y;go_simp;apply Y;clear Y X))|((with_reducible refine ux ?_);simp only [List.nil_append,nf,oD,if_true]))
   skip
   rw [HR.out] at hK;refine hK _ ?_;go_simp
 ·refine g_ 5 0 4 rfl rfl rfl ?_;repeat' first|(with_reducible first|apply af|apply ae|apply au|apply aB|apply aa|refine ah [] ?_|(apply aw;·go_simp)|(apply ar;·go_simp))|((with_reducible apply ab);intro X Y;go_simp;(first|(refine ⟨_,gm,?_⟩)|skip);apply Y;clear Y X)
  apply oX (α:=St×List Sg) [3,6,8] (fun (x:St×List Sg)=>[(10,.osl 6),(14,I (cM r x.1))]) (fun (x:St×List Sg)=>([some (.box [br,br,I 0]),none,none,none,none,some (.box [gp x.1.q,.sl 3 (x.1.tk.map Tk.av),I x.1.time]),some (.arr 45 3 false (x.2.map Sg.av))] : Hp)) (fun (x:St×List Sg)=>Hid (Inv r x.1)∧x.2.length+2*cD 0 x.1.q≤1000000∧Hid (∃ n,cD 0 x.1.q≤n∧cE r n x.1 x.2=(S2,M2))) (fun (x:St×List Sg)=>cD 0 x.1.q) ((⟨Q0,dE,tm⟩,[(⟨2,(k:Int),car⟩ : Sg)])) ⟨HI,hB,HN⟩
  ·(go_simp<;>exact rfl)
  ·go_simp
  rintro ⟨⟨Q,TK,t⟩,m⟩ ⟨bF,ix,HE⟩ K hK;simp only at bF ix HE hK ⊢;obtain ⟨n3,dW,cR⟩:=HE.out;by_cases bV:cM r ⟨Q,TK,t⟩ < 0
  ·have e:(⟨Q,TK,t⟩,m)=(S2,M2):=by
    cases n3 with
    | zero=>exact cR
    | succ n=>rw [cE,if_pos bV] at cR;exact cR
   clear hK cR HE dW ix;injection e with e1 e2
   subst e1;subst e2;generalize cM r ⟨Q,TK,t⟩=R at *;have ko:¬0≤R:=by omega
   refine pr 10 6 rfl rfl ?_;repeat' with_reducible first|apply af|apply ae|apply bP|apply ax|apply bQ|apply bT|apply aa|refine ah [] ?_|(apply ar;·go_simp)|(apply ab;intro X Y;go_simp;apply Y;clear Y X)
   go_simp
  ·obtain ⟨j,ej,hj,hp⟩:=mS bV;have fF:j < Q.length:=by rw [bF.out.len];exact hj
   obtain ⟨f1,f2,f3⟩:=mR hp;obtain ⟨p1,p2,p3⟩:=HU.out.feedN hj f1;have de:feedN r j < Q.length:=by rw [bF.out.len];exact p3
   have hJ:=pP HU.out bF.out.len fF f1 f2;have bM:=bF.out.up HU.out fF f1 f2 f3;have kp:=ur r Q j (feedN r j) fF bF.out.len.symm p1 de (by omega) f2 (by rw [bF.out.len];have:=HU.out.n6;omega) fun i ju=>by
    have h1:=bF.out.fit i ju;have h2:=HU.out.pl i (by rw [←bF.out.len];exact ju);simp only at h1;omega
   rw [rV fF de (by omega)] at kp;have oE:=mZ r (upS r ⟨Q,TK,t⟩ j) hn (by rw [bM.len]) (by rw [bM.len];exact HU.out.feed);have gA:∃ n,cD 0 (upS r ⟨Q,TK,t⟩ j).q≤n∧cE r n (upS r ⟨Q,TK,t⟩ j) (m++upM Q j (feedN r j))=(S2,M2):=by
    cases n3 with
    | zero=>simp only at hJ dW;omega
    | succ n3=>
     rw [cE,if_neg bV,ej,Int.toNat_natCast] at cR;exact ⟨n3,by simp only at hJ dW;omega,cR⟩
   have HX:=Lib.hid gA;have mi:=Lib.hid bM;have oP:m.length+(upM Q j (feedN r j)).length=m.length+2:=by simp [upM]
   have k7:(m++upM Q j (feedN r j)).length=m.length+2:=by simp [upM]
   have oF:(upM Q j (feedN r j)).length=2:=by simp [upM]
   have oG:m.length+2≤1000000000:=by omega
   clear cR HE gA bM dW bV bF f1 f2 f3 hp;unfold upS at *;simp only at *;generalize upQ Q j (feedN r j)=Q2 at *;have lr:(m++upM Q j (feedN r j)).map Sg.av=m.map Sg.av++(upM Q j (feedN r j)).map Sg.av:=List.map_append;generalize upM Q j (feedN r j)=U at *;rw [ej];repeat' with_reducible first|apply af|apply ae|apply au|apply aB|apply bp|apply aa|refine ah [] ?_|(apply aw;·go_simp)|(apply ab;intro X Y;go_simp;(first|(refine ⟨_,kp,?_⟩)|(refine ⟨_,oE,?_⟩)|skip);apply Y;clear Y X)
   refine hK _ (⟨Q2,TK,t⟩,m++U) ⟨mi,by simp only;omega,HX⟩ (by simp only;omega) ?_;simp only [lr];go_simp
theorem PG (r:Ru) (s S2:St) (tm:Int) (k:Nat) (car:ByteArray) (M2:List Sg) (Q0:List (List ByteArray)) (dE:List Tk) (hn:r.ranks.length≤1000000) (hr:RuOK r) (dZ:SmallS s) (hk:k < s.q.length) (_hrl:r.ranks.length=s.q.length) (km:Q0=s.q.set k ([car]++qat s.q k)) (kI:dE=woK s.tk car) (hI:Inv r ⟨Q0,dE,tm⟩) (hB : [(⟨0,(k:Int),car⟩ : Sg)].length+2*cD 0 Q0≤1000000) (gE:∃ n,cD 0 Q0≤n∧cE r n ⟨Q0,dE,tm⟩ [(⟨0,(k:Int),car⟩ : Sg)]=(S2,M2)) :
  VC Tryz.prog 68 [cY r,cT s,.agg [I 5,I tm,I (k:Int),S car]] (.tup [cT S2,.sl 3 (M2.map Sg.av)]):=by
 have gC:=uu s dZ;have aq:¬bL s.q=[]:=fun h=>by
  have:=ql s.q;rw [h] at this;simp at this;omega
 rw [decide_eq_false aq] at gC;have HI:=Lib.hid hI;have HU:=Lib.hid hr;have HN:=Lib.hid gE;have gm:=mZ r ⟨Q0,dE,tm⟩ hn hI.len.symm (by rw [hI.len];exact hr.feed);have iX:(qat s.q k).length≤300:=by rw [ft hk];exact (dZ.q1 _ (List.getElem_mem hk)).1
 have kn:=dZ.nt;clear hI hr gE dZ aq;generalize decide (s.tk.map Tk.av=[])=nT at *;have g1:=H8 s.tk car (by omega);have hb1:1+(qat s.q k).length≤1000000000:=by omega
 have hb2:(qat s.q k).length+1≤1000000000:=by omega
 have aR:(bL Q0).map (fun l=>[AV.sl 1 l])=((bL s.q).map fun l=>[AV.sl 1 l]).set k [.sl 1 ([[S car]]++(qat s.q k).map bK)]:=by
  rw [km,←zG];rfl
 have HR:=Lib.hid aR;rw [←kI] at g1;clear km aR kI;refine aP Tryz.func68 rfl (by kernel_rfl) rfl fun M0 w0=>?_;simp only [Tryz.ntmps68,Tryz.results68,aF];repeat' with_reducible apply af
 refine ah [] ?_;repeat' with_reducible first|apply af|apply ae|apply aa|(apply ab;intro X Y;go_simp;apply Y;clear Y X)
 refine fB (ca [] 1 ⟨rfl,rfl⟩ ?_);simp only [az];repeat' with_reducible first|apply aa|(apply ab;intro X Y;go_simp;apply Y;clear Y X)
 refine fJ [] [] [] [none,none,some (.arr 148 3 nT (s.tk.map Tk.av)),some (.bag 62 1 false none (bL s.q))] (.agg [.osl 3,.osl 2,I s.time]) rfl (by go_simp) ?_ ?_
 ·unfold fk;go_simp;refine ⟨_,_,⟨_,gC⟩,?_⟩;go_simp;kernel_rfl
 go_simp;refine ca [] 2 ⟨rfl,rfl⟩ ?_;simp only [az];repeat' with_reducible first|apply aa|(apply ab;intro X Y;go_simp;apply Y;clear Y X)
 apply dA;repeat' with_reducible first|apply af|apply ae
 refine ah [] ?_;repeat' with_reducible first|apply af|apply ae|apply aa|(apply ab;intro X Y;go_simp;apply Y;clear Y X)
 refine ah [] ?_;repeat' with_reducible first|apply af|apply ae|apply aa|(apply ab;intro X Y;go_simp;apply Y;clear Y X)
 refine ah [10] ?_;repeat' with_reducible first|apply af|apply ae|apply aa|(apply ab;intro X Y;go_simp;apply Y;clear Y X)
 refine ah [] ?_;repeat ((with_reducible refine ab fun X Y=>?_);go_simp;refine Y _ ?_;clear Y X)
 apply aa;apply ae;refine tj ⟨[(3,.vp [.sl 4 (r.ranks.map Rk.av),I r.back,I r.ret]),(5,.vp [I 5,I tm,I (k:Int),S car]),(6,.ref 0 0),(8,.ref 5 0),(10,.osl 6)],[some (.box [br,br,I 0]),none,none,none,some (.arr 62 1 false ((bL Q0).map fun l=>[AV.sl 1 l])),some (.box [.osl 4,.sl 3 (dE.map Tk.av),I tm]),some (.arr 45 3 true [])]⟩ (fun K hK=>?_) ?_
 ·clear gm HN HI hB;refine jA (fun p a w R=>R.bagArr (id:=4) rfl (by kernel_rfl)) ?_;go_simp;refine g_ 5 1 3 rfl rfl rfl ?_;repeat' with_reducible first|apply af|apply aB
  refine ah [] ?_;repeat' with_reducible first|apply af|apply ae|apply aa|(apply ar;·go_simp)|(apply ab;intro X Y;go_simp;apply Y;clear Y X)
  refine ah [] ?_;repeat' with_reducible first|apply af|apply ae|apply aa|(apply ar;·go_simp)|(apply ab;intro X Y;go_simp;apply Y;clear Y X)
  refine ah [] ?_;repeat' with_reducible first|apply af|apply ae|apply aa|(apply ar;·go_simp)|(apply ab;intro X Y;go_simp;apply Y;clear Y X)
  refine ah [] ?_;repeat' with_reducible first|apply af|apply ae|apply aa|(apply ar;·go_simp)|(apply ab;intro X Y;go_simp;apply Y;clear Y X)
  refine ah [] ?_;repeat' with_reducible first|apply af|apply ae|apply aa|(apply ar;·go_simp)|(apply ab;intro X Y;go_simp;apply Y;clear Y X)
  refine ah [] ?_;repeat' with_reducible first|apply af|apply ae|apply aa|(apply aw;·go_simp)|(apply ab;intro X Y;go_simp;apply Y;clear Y X)
  refine Dd 9 [136] (fun i=>i == 6 || i == 8) (by kernel_rfl) (by kernel_rfl) (by kernel_rfl) (by go_simp) (by go_simp) ?_;simp only [az];repeat ((with_reducible refine lY rfl fun X Y=>?_);go_simp;refine Y _ (by go_simp) ?_;clear Y X)
  refine oH [some (.arr 9 1 false [[S car]])] none (.osl 7) rfl ⟨rfl,fun _=>rfl,fun _ h=>by cases h⟩ ?_ ?_
  ·intro s2 cL;have q1:lkp s2 135=S car:=(cL 135 (by simp [Op.operands]) (by go_simp)).trans (by go_simp);clear cL;go_simp
  repeat ((with_reducible refine lY rfl fun X Y=>?_);go_simp;refine Y _ (by go_simp) ?_;clear Y X)
  refine zI [none] (some 7) (.sl 1 ([[S car]]++(qat s.q k).map bK)) rfl ⟨rfl,(fun h=>by cases h),fun _ h=>by cases h;exact Nat.le_refl _⟩ rfl ?_ ?_
  ·intro s2 cL;have q1:lkp s2 136 = .osl 7:=(cL 136 (by simp [Op.operands,Call.operands]) (by go_simp)).trans (by go_simp);have q2:lkp s2 137 = .sl 1 ((qat s.q k).map bK):=(cL 137 (by simp [Op.operands,Call.operands]) (by go_simp)).trans (by go_simp);clear cL;go_simp;exact zJ (id:=7) rfl rfl
  repeat (first|(with_reducible first|apply ae|apply aa|refine ah [] ?_|(apply ab;intro X Y;go_simp;apply Y;clear Y X))|((with_reducible refine ux ?_);simp only [List.cons_append,List.nil_append,nf,oD,if_true]))
  repeat' with_reducible first|apply ae|apply bp|apply aa|(apply ab;intro X Y;go_simp;(first|(refine ⟨_,g1,?_⟩)|skip);apply Y;clear Y X)
  rw [HR.out] at hK;refine hK _ ?_;go_simp
 ·refine g_ 5 0 4 rfl rfl rfl ?_;repeat' first|(with_reducible first|apply af|apply ae|apply aB|apply aa|refine ah [] ?_|(apply aw;·go_simp))|((with_reducible apply ab);intro X Y;go_simp;(first|(refine ⟨_,gm,?_⟩)|skip);apply Y;clear Y X)
  apply oX (α:=St×List Sg) [3,6,8] (fun (x:St×List Sg)=>[(10,.osl 6),(14,I (cM r x.1))]) (fun (x:St×List Sg)=>([some (.box [br,br,I 0]),none,none,none,none,some (.box [gp x.1.q,.sl 3 (x.1.tk.map Tk.av),I x.1.time]),some (.arr 45 3 false (x.2.map Sg.av))] : Hp)) (fun (x:St×List Sg)=>Hid (Inv r x.1)∧x.2.length+2*cD 0 x.1.q≤1000000∧Hid (∃ n,cD 0 x.1.q≤n∧cE r n x.1 x.2=(S2,M2))) (fun (x:St×List Sg)=>cD 0 x.1.q) ((⟨Q0,dE,tm⟩,[(⟨0,(k:Int),car⟩ : Sg)])) ⟨HI,hB,HN⟩
  ·(go_simp<;>exact rfl)
  ·go_simp
  rintro ⟨⟨Q,TK,t⟩,m⟩ ⟨bF,ix,HE⟩ K hK;simp only at bF ix HE hK ⊢;obtain ⟨n3,dW,cR⟩:=HE.out;by_cases bV:cM r ⟨Q,TK,t⟩ < 0
  ·have e:(⟨Q,TK,t⟩,m)=(S2,M2):=by
    cases n3 with
    | zero=>exact cR
    | succ n=>rw [cE,if_pos bV] at cR;exact cR
   clear hK cR HE dW ix;injection e with e1 e2
   subst e1;subst e2;generalize cM r ⟨Q,TK,t⟩=R at *;have ko:¬0≤R:=by omega
   refine pr 10 6 rfl rfl ?_;repeat' with_reducible first|apply af|apply ae|apply bP|apply ax|apply bQ|apply bT|apply aa|refine ah [] ?_|(apply ar;·go_simp)|(apply ab;intro X Y;go_simp;apply Y;clear Y X)
   go_simp
  ·obtain ⟨j,ej,hj,hp⟩:=mS bV;have fF:j < Q.length:=by rw [bF.out.len];exact hj
   obtain ⟨f1,f2,f3⟩:=mR hp;obtain ⟨p1,p2,p3⟩:=HU.out.feedN hj f1;have de:feedN r j < Q.length:=by rw [bF.out.len];exact p3
   have hJ:=pP HU.out bF.out.len fF f1 f2;have bM:=bF.out.up HU.out fF f1 f2 f3;have kp:=ur r Q j (feedN r j) fF bF.out.len.symm p1 de (by omega) f2 (by rw [bF.out.len];have:=HU.out.n6;omega) fun i ju=>by
    have h1:=bF.out.fit i ju;have h2:=HU.out.pl i (by rw [←bF.out.len];exact ju);simp only at h1;omega
   rw [rV fF de (by omega)] at kp;have oE:=mZ r (upS r ⟨Q,TK,t⟩ j) hn (by rw [bM.len]) (by rw [bM.len];exact HU.out.feed);have gA:∃ n,cD 0 (upS r ⟨Q,TK,t⟩ j).q≤n∧cE r n (upS r ⟨Q,TK,t⟩ j) (m++upM Q j (feedN r j))=(S2,M2):=by
    cases n3 with
    | zero=>simp only at hJ dW;omega
    | succ n3=>
     rw [cE,if_neg bV,ej,Int.toNat_natCast] at cR;exact ⟨n3,by simp only at hJ dW;omega,cR⟩
   have HX:=Lib.hid gA;have mi:=Lib.hid bM;have oP:m.length+(upM Q j (feedN r j)).length=m.length+2:=by simp [upM]
   have k7:(m++upM Q j (feedN r j)).length=m.length+2:=by simp [upM]
   have oF:(upM Q j (feedN r j)).length=2:=by simp [upM]
   have oG:m.length+2≤1000000000:=by omega
   clear cR HE gA bM dW bV bF f1 f2 f3 hp;unfold upS at *;simp only at *;generalize upQ Q j (feedN r j)=Q2 at *;have lr:(m++upM Q j (feedN r j)).map Sg.av=m.map Sg.av++(upM Q j (feedN r j)).map Sg.av:=List.map_append;generalize upM Q j (feedN r j)=U at *;rw [ej];repeat' with_reducible first|apply af|apply ae|apply au|apply aB|apply bp|apply aa|refine ah [] ?_|(apply aw;·go_simp)|(apply ab;intro X Y;go_simp;(first|(refine ⟨_,kp,?_⟩)|(refine ⟨_,oE,?_⟩)|skip);apply Y;clear Y X)
   refine hK _ (⟨Q2,TK,t⟩,m++U) ⟨mi,by simp only;omega,HX⟩ (by simp only;omega) ?_;simp only [lr];go_simp
end Go.Proofs.YtoibondihdhnoaaGreatDoor
