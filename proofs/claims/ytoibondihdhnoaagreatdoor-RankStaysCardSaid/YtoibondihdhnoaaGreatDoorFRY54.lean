/- Texts in one: Walks: an event is carried out, as the reference has it. Printed by genR39.py. -/
import Derived.Test.YtoibondihdhnoaaGreatDoorFRY8
import Derived.Test.YtoibondihdhnoaaGreatDoorFRY52
import Derived.Test.YtoibondihdhnoaaGreatDoorFRY27
import Derived.Test.YtoibondihdhnoaaGreatDoorFRY53
namespace Go.Proofs.YtoibondihdhnoaaGreatDoor
open Go.RowKit
set_option maxRecDepth 100000
set_option maxHeartbeats 4000000
theorem zH {q:List (List ByteArray)} {k:Nat} {l:List ByteArray} : ((bx q).map fun l=>[AV.sl 1 l]).set k [.sl 1 (l.map bL)]=(bx (q.set k l)).map fun l=>[AV.sl 1 l]:=by
 rw [←lR,List.map_set]
theorem C4 {c:ByteArray} (h:dj c=true) : c.size≤1000:=by
 unfold dj at h;simp only [Bool.and_eq_true,decide_eq_true_eq] at h;omega
theorem Inv.small {r:Ru} {s:St} (hr:RuOK r) (h:Inv r s) : SmallS s:=by
 have h6:=hr.n6;have hl:=h.len;have dJ:∀ l∈s.q,l.length≤300:=fun l gw=>by
  obtain ⟨i,hi,rfl⟩:=List.getElem_of_mem gw;have h1:=h.fit i hi;have h2:=hr.pl i (by omega);rw [gM hi] at h1;omega
 refine ⟨by omega,fun l gw=>⟨dJ l gw,fun c hc=>C4 (h.name c (List.mem_append_left _ (List.mem_flatten.2 ⟨l,gw,hc⟩)))⟩,by have:=h.tkl;omega,fun t ht=>?_,?_⟩
 ·have h1:=h.tkr t ht;have h2:=h.tkt t ht;have h3:=h.t0;exact ⟨C4 (h.name _ (List.mem_append_right _ (List.mem_map.2 ⟨t,ht,rfl⟩))),⟨by omega,by omega⟩,⟨by omega,by omega⟩⟩
 ·have h3:=h.t0;exact ⟨by omega,by omega⟩
theorem OF (r:Ru) (s S2:St) (tm:Int) (k:Nat) (car:ByteArray) (M2 SN:List Sg) (Q0:List (List ByteArray)) (dx:List Tk) (hn:r.ranks.length≤1000000) (hr:RuOK r) (cJ:SmallS s) (hk:k < s.q.length) (eb:r.ranks.length=s.q.length) (f:Nat) (hf:(rat r.ranks k).feeder=f) (cM:f < s.q.length) (ax:f≠k) (hp:0 < (qat s.q f).length) (dC:∀ i,i < s.q.length→(qat s.q i).length≤1000000) (j5:Q0=px s.q k f) (kv:dx=s.tk) (sP:SN=upM s.q k f) (hI:Inv r ⟨Q0,dx,tm⟩) (hB:SN.length+2*cl 0 Q0≤1000000) (gv:∃ n,cl 0 Q0≤n∧bZ r n ⟨Q0,dx,tm⟩ SN=(S2,M2)) :
  VC Tryz.prog 68 [bN r,dH s,.agg [I 4,I tm,I (k:Int),S car]] (.tup [dH S2,.sl 3 (M2.map Sg.av)]):=by
 have gC:=uF s cJ;have wV:¬bx s.q=[]:=fun h=>by
  have:=rh s.q;rw [h] at this;simp at this;omega
 rw [decide_eq_false wV] at gC;have HI:=Lib.hid hI;have HU:=Lib.hid hr;have HN:=Lib.hid gv;have gm:=mI r ⟨Q0,dx,tm⟩ hn hI.len.symm (by rw [hI.len];exact hr.feed);have iU:(qat s.q k).length≤300:=by rw [gM hk];exact (cJ.q1 _ (List.getElem_mem hk)).1
 have j6:=cJ.nt;clear hI hr gv cJ wV;generalize decide (s.tk.map Tk.av=[])=nT at *;have g4:=Hm r s.q k f hk eb hf cM ax hp (by have:=HU.out.n6;omega) dC;rw [←j5,←sP] at g4;clear hf cM ax hp dC j5 sP;refine aJ Tryz.func68 rfl (by kernel_rfl) rfl fun M0 w0=>?_;simp only [Tryz.ntmps68,Tryz.results68,aC];repeat' with_reducible apply af
 refine ah [] ?_;repeat' with_reducible first|apply af|apply ae|apply aa|(apply ab;intro X Y;go_simp;apply Y;clear Y X)
 refine eC (bM [] 1 ⟨rfl,rfl⟩ ?_);simp only [aA];repeat' with_reducible first|apply aa|(apply ab;intro X Y;go_simp;apply Y;clear Y X)
 refine eI [] [] [] [none,none,some (.arr 148 3 nT (s.tk.map Tk.av)),some (.bag 62 1 false none (bx s.q))] (.agg [.osl 3,.osl 2,I s.time]) rfl (by go_simp) ?_ ?_
 ·unfold dU;go_simp;refine ⟨_,_,⟨_,gC⟩,?_⟩;go_simp;kernel_rfl
 go_simp;refine bM [] 2 ⟨rfl,rfl⟩ ?_;simp only [aA];repeat' with_reducible first|apply aa|(apply ab;intro X Y;go_simp;apply Y;clear Y X)
 apply da;repeat' with_reducible first|apply af|apply ae
 refine ah [] ?_;repeat' with_reducible first|apply af|apply ae|apply aa|(apply ab;intro X Y;go_simp;apply Y;clear Y X)
 refine ah [] ?_;repeat' with_reducible first|apply af|apply ae|apply aa|(apply ab;intro X Y;go_simp;apply Y;clear Y X)
 refine ah [] ?_;repeat' with_reducible first|apply af|apply ae|apply aa|(apply ab;intro X Y;go_simp;apply Y;clear Y X)
 refine ib (fun p a w R=>R.bagArr (id:=4) rfl (by kernel_rfl)) ?_;go_simp;refine gN 5 0 4 rfl rfl rfl ?_;refine gN 5 1 3 rfl rfl rfl ?_;go_simp;refine ah [] ?_;repeat' with_reducible first|apply af|apply ae|apply az|apply aa|(apply ab;intro X Y;go_simp;apply Y;clear Y X)
 refine ah [] ?_;repeat' with_reducible first|apply af|apply ae|apply aa|(apply aj;·go_simp)|(apply ab;intro X Y;go_simp;apply Y;clear Y X)
 refine ah [] ?_;repeat' with_reducible first|apply af|apply ae|apply aa|(apply aj;·go_simp)|(apply ab;intro X Y;go_simp;apply Y;clear Y X)
 refine ah [] ?_;repeat' with_reducible first|apply af|apply ae|apply aa|(apply aj;·go_simp)|(apply ab;intro X Y;go_simp;apply Y;clear Y X)
 refine ah [] ?_;repeat' with_reducible first|apply af|apply ae|apply aa|(apply aj;·go_simp)|(apply ab;intro X Y;go_simp;apply Y;clear Y X)
 refine ah [] ?_;repeat' with_reducible first|apply ae|apply aa|(apply au;·go_simp)|(apply ab;intro X Y;go_simp;apply Y;clear Y X)
 refine eC (bM [] 5 ⟨rfl,rfl⟩ ?_);simp only [aA];repeat' with_reducible first|apply aa|(apply ab;intro X Y;go_simp;apply Y;clear Y X)
 refine eI [] [] [] [none,some (.arr 45 3 false (SN.map Sg.av))] (.tup [h_ Q0,.osl 1]) rfl (by go_simp) ?_ ?_
 ·unfold dU;go_simp;refine ⟨_,_,⟨_,g4⟩,?_⟩;go_simp;kernel_rfl
 go_simp;refine bM [] 6 ⟨rfl,rfl⟩ ?_;simp only [aA];repeat' with_reducible first|apply aa|(apply ab;intro X Y;go_simp;apply Y;clear Y X)
 apply da;subst kv;repeat' first|(with_reducible first|apply af|apply ae|apply ao|apply az|apply aY|apply aa|refine ah [] ?_|(apply aj;·go_simp))|((with_reducible apply ab);intro X Y;go_simp;(first|(refine ⟨_,gm,?_⟩)|skip);apply Y;clear Y X)
 apply lr (α:=St×List Sg) [3,6,8] (fun (x:St×List Sg)=>[(10,.osl 7),(14,I (di r x.1))]) (fun (x:St×List Sg)=>([some (.box [bz,bz,I 0]),none,none,none,none,some (.box [h_ x.1.q,.sl 3 (x.1.tk.map Tk.av),I x.1.time]),none,some (.arr 45 3 false (x.2.map Sg.av))] : Hp)) (fun (x:St×List Sg)=>Hid (Inv r x.1)∧x.2.length+2*cl 0 x.1.q≤1000000∧Hid (∃ n,cl 0 x.1.q≤n∧bZ r n x.1 x.2=(S2,M2))) (fun (x:St×List Sg)=>cl 0 x.1.q) ((⟨Q0,s.tk,tm⟩,SN)) ⟨HI,hB,HN⟩
 ·(go_simp<;>exact rfl)
 ·go_simp
 rintro ⟨⟨Q,TK,t⟩,m⟩ ⟨bh,ij,HE⟩ K hK;simp only at bh ij HE hK ⊢;obtain ⟨n3,dM,cN⟩:=HE.out;by_cases bQ:di r ⟨Q,TK,t⟩ < 0
 ·have e:(⟨Q,TK,t⟩,m)=(S2,M2):=by
   cases n3 with
   | zero=>exact cN
   | succ n=>rw [bZ,if_pos bQ] at cN;exact cN
  clear hK cN HE dM ij;injection e with e1 e2
  subst e1;subst e2;generalize di r ⟨Q,TK,t⟩=R at *;have j7:¬0≤R:=by omega
  refine nU 10 7 rfl rfl ?_;repeat' with_reducible first|apply af|apply ae|apply bE|apply aw|apply bF|apply bG|apply aa|refine ah [] ?_|(apply aj;·go_simp)|(apply ab;intro X Y;go_simp;apply Y;clear Y X)
  go_simp
 ·obtain ⟨j,ej,hj,hp⟩:=kH bQ;have fy:j < Q.length:=by rw [bh.out.len];exact hj
  obtain ⟨f1,f2,f3⟩:=kG hp;obtain ⟨p1,p2,p3⟩:=HU.out.feedN hj f1;have cM:feedN r j < Q.length:=by rw [bh.out.len];exact p3
  have fQ:=pv HU.out bh.out.len fy f1 f2;have bJ:=bh.out.up HU.out fy f1 f2 f3;have j8:=uE r Q j (feedN r j) fy bh.out.len.symm p1 cM (by omega) f2 (by rw [bh.out.len];have:=HU.out.n6;omega) fun i jm=>by
   have h1:=bh.out.fit i jm;have h2:=HU.out.pl i (by rw [←bh.out.len];exact jm);simp only at h1;omega
  rw [rV fy cM (by omega)] at j8;have n7:=mI r (upS r ⟨Q,TK,t⟩ j) hn (by rw [bJ.len]) (by rw [bJ.len];exact HU.out.feed);have gp:∃ n,cl 0 (upS r ⟨Q,TK,t⟩ j).q≤n∧bZ r n (upS r ⟨Q,TK,t⟩ j) (m++upM Q j (feedN r j))=(S2,M2):=by
   cases n3 with
   | zero=>simp only at fQ dM;omega
   | succ n3=>
    rw [bZ,if_neg bQ,ej,Int.toNat_natCast] at cN;exact ⟨n3,by simp only at fQ dM;omega,cN⟩
  have HX:=Lib.hid gp;have lU:=Lib.hid bJ;have pa:m.length+(upM Q j (feedN r j)).length=m.length+2:=by simp [upM]
  have kK:(m++upM Q j (feedN r j)).length=m.length+2:=by simp [upM]
  have n8:(upM Q j (feedN r j)).length=2:=by simp [upM]
  have n_:m.length+2≤1000000000:=by omega
  clear cN HE gp bJ dM bQ bh f1 f2 f3 hp;unfold upS at *;simp only at *;generalize upQ Q j (feedN r j)=Q2 at *;have kY:(m++upM Q j (feedN r j)).map Sg.av=m.map Sg.av++(upM Q j (feedN r j)).map Sg.av:=List.map_append;generalize upM Q j (feedN r j)=U at *;rw [ej];repeat' with_reducible first|apply af|apply ae|apply ao|apply az|apply aY|apply aa|refine ah [] ?_|(apply au;·go_simp)|(apply ab;intro X Y;go_simp;(first|(refine ⟨_,j8,?_⟩)|(refine ⟨_,n7,?_⟩)|skip);apply Y;clear Y X)
  refine hK _ (⟨Q2,TK,t⟩,m++U) ⟨lU,by simp only;omega,HX⟩ (by simp only;omega) ?_;simp only [kY];go_simp
theorem OG (r:Ru) (s S2:St) (tm:Int) (k:Nat) (car:ByteArray) (M2:List Sg) (Q0:List (List ByteArray)) (dx:List Tk) (hn:r.ranks.length≤1000000) (hr:RuOK r) (cJ:SmallS s) (hk:k < s.q.length) (_hrl:r.ranks.length=s.q.length) (j5:Q0=s.q.set k (qat s.q k++[car])) (kv:dx=woK s.tk car) (hI:Inv r ⟨Q0,dx,tm⟩) (hB : [(⟨0,(k:Int),car⟩ : Sg)].length+2*cl 0 Q0≤1000000) (gv:∃ n,cl 0 Q0≤n∧bZ r n ⟨Q0,dx,tm⟩ [(⟨0,(k:Int),car⟩ : Sg)]=(S2,M2)) :
  VC Tryz.prog 68 [bN r,dH s,.agg [I 0,I tm,I (k:Int),S car]] (.tup [dH S2,.sl 3 (M2.map Sg.av)]):=by
 have gC:=uF s cJ;have ax:¬bx s.q=[]:=fun h=>by
  have:=rh s.q;rw [h] at this;simp at this;omega
 rw [decide_eq_false ax] at gC;have HI:=Lib.hid hI;have HU:=Lib.hid hr;have HN:=Lib.hid gv;have gm:=mI r ⟨Q0,dx,tm⟩ hn hI.len.symm (by rw [hI.len];exact hr.feed);have iU:(qat s.q k).length≤300:=by rw [gM hk];exact (cJ.q1 _ (List.getElem_mem hk)).1
 have j6:=cJ.nt;clear hI hr gv cJ ax;generalize decide (s.tk.map Tk.av=[])=nT at *;have g1:=Hc s.tk car (by omega);have hb1:(qat s.q k).length+1≤1000000000:=by omega
 have aS:(bx Q0).map (fun l=>[AV.sl 1 l])=((bx s.q).set k ((qat s.q k).map bL++[[S car]])).map fun l=>[AV.sl 1 l]:=by
  rw [j5,rM,lR]
 have HR:=Lib.hid aS;rw [←kv] at g1;clear j5 aS kv;refine aJ Tryz.func68 rfl (by kernel_rfl) rfl fun M0 w0=>?_;simp only [Tryz.ntmps68,Tryz.results68,aC];repeat' with_reducible apply af
 refine ah [] ?_;repeat' with_reducible first|apply af|apply ae|apply aa|(apply ab;intro X Y;go_simp;apply Y;clear Y X)
 refine eC (bM [] 1 ⟨rfl,rfl⟩ ?_);simp only [aA];repeat' with_reducible first|apply aa|(apply ab;intro X Y;go_simp;apply Y;clear Y X)
 refine eI [] [] [] [none,none,some (.arr 148 3 nT (s.tk.map Tk.av)),some (.bag 62 1 false none (bx s.q))] (.agg [.osl 3,.osl 2,I s.time]) rfl (by go_simp) ?_ ?_
 ·unfold dU;go_simp;refine ⟨_,_,⟨_,gC⟩,?_⟩;go_simp;kernel_rfl
 go_simp;refine bM [] 2 ⟨rfl,rfl⟩ ?_;simp only [aA];repeat' with_reducible first|apply aa|(apply ab;intro X Y;go_simp;apply Y;clear Y X)
 apply da;repeat' with_reducible first|apply af|apply ae
 refine ah [] ?_;repeat' with_reducible first|apply af|apply ae|apply aa|(apply ab;intro X Y;go_simp;apply Y;clear Y X)
 refine ah [] ?_;repeat' with_reducible first|apply af|apply ae|apply aa|(apply ab;intro X Y;go_simp;apply Y;clear Y X)
 refine ah [10] ?_;repeat' with_reducible first|apply af|apply ae|apply aa|(apply ab;intro X Y;go_simp;apply Y;clear Y X)
 refine ah [] ?_;repeat ((with_reducible refine ab fun X Y=>?_);go_simp;refine Y _ ?_;clear Y X)
 apply aa;apply ae;refine tD ⟨[(3,.vp [.sl 4 (r.ranks.map Rk.av),I r.back,I r.ret]),(5,.vp [I 0,I tm,I (k:Int),S car]),(6,.ref 0 0),(8,.ref 5 0),(10,.osl 6)],[some (.box [bz,bz,I 0]),none,none,none,some (.arr 62 1 false ((bx Q0).map fun l=>[AV.sl 1 l])),some (.box [.osl 4,.sl 3 (dx.map Tk.av),I tm]),some (.arr 45 3 true [])]⟩ (fun K hK=>?_) ?_
 ·clear gm HN HI hB;refine gN 5 1 3 rfl rfl rfl ?_;repeat' with_reducible first|apply af|apply az
  refine ah [] ?_;repeat' with_reducible first|apply af|apply ae|apply aa|(apply au;·go_simp)|(apply ab;intro X Y;go_simp;apply Y;clear Y X)
  refine mQ 8 [8,31,31,32,5,33,33,34] (by kernel_rfl) (by kernel_rfl) (by kernel_rfl) (unW 4) (mZ 4) rfl ⟨rfl,rfl⟩ ?_;simp only [List.take];repeat' with_reducible first|apply aP|(apply aO;intro X Y;go_simp;apply Y;clear Y X)
  refine ⟨_,_,tC (id:=4) (k:=k) (es:=(qat s.q k).map bL) (c:=S car) (by exact rfl) (by exact rfl) (by go_simp) (by go_simp) rN ti9 (by exact rfl) (by go_simp),?_,?_,?_⟩
  ·simp only [List.forall_mem_cons];go_simp
  ·repeat' with_reducible first|apply aP|(apply aO;intro X Y;go_simp;apply Y;clear Y X)
   simp only [List.forall_mem_cons];go_simp
  go_simp;refine bM [] 2 ⟨rfl,rfl⟩ ?_;simp only [aA];repeat' with_reducible first|apply aa|(apply ab;intro X Y;go_simp;apply Y;clear Y X)
  apply da;repeat' with_reducible apply ae
  refine ib (fun p a w R=>R.bagArr (id:=4) rfl (by kernel_rfl)) ?_;go_simp;refine ah [] ?_;repeat' with_reducible first|apply ae|apply aY|apply aa|(apply ab;intro X Y;go_simp;(first|(refine ⟨_,g1,?_⟩)|skip);apply Y;clear Y X)
  rw [HR.out] at hK;refine hK _ ?_;go_simp
 ·refine gN 5 0 4 rfl rfl rfl ?_;repeat' first|(with_reducible first|apply af|apply ae|apply ao|apply az|apply aa|refine ah [] ?_|(apply au;·go_simp)|(apply aj;·go_simp))|((with_reducible apply ab);intro X Y;go_simp;(first|(refine ⟨_,gm,?_⟩)|skip);apply Y;clear Y X)
  apply lr (α:=St×List Sg) [3,6,8] (fun (x:St×List Sg)=>[(10,.osl 6),(14,I (di r x.1))]) (fun (x:St×List Sg)=>([some (.box [bz,bz,I 0]),none,none,none,none,some (.box [h_ x.1.q,.sl 3 (x.1.tk.map Tk.av),I x.1.time]),some (.arr 45 3 false (x.2.map Sg.av))] : Hp)) (fun (x:St×List Sg)=>Hid (Inv r x.1)∧x.2.length+2*cl 0 x.1.q≤1000000∧Hid (∃ n,cl 0 x.1.q≤n∧bZ r n x.1 x.2=(S2,M2))) (fun (x:St×List Sg)=>cl 0 x.1.q) ((⟨Q0,dx,tm⟩,[(⟨0,(k:Int),car⟩ : Sg)])) ⟨HI,hB,HN⟩
  ·(go_simp<;>exact rfl)
  ·go_simp
  rintro ⟨⟨Q,TK,t⟩,m⟩ ⟨bh,ij,HE⟩ K hK;simp only at bh ij HE hK ⊢;obtain ⟨n3,dM,cN⟩:=HE.out;by_cases bQ:di r ⟨Q,TK,t⟩ < 0
  ·have e:(⟨Q,TK,t⟩,m)=(S2,M2):=by
    cases n3 with
    | zero=>exact cN
    | succ n=>rw [bZ,if_pos bQ] at cN;exact cN
   clear hK cN HE dM ij;injection e with e1 e2
   subst e1;subst e2;generalize di r ⟨Q,TK,t⟩=R at *;have j7:¬0≤R:=by omega
   refine nU 10 6 rfl rfl ?_;repeat' with_reducible first|apply af|apply ae|apply bE|apply aw|apply bF|apply bG|apply aa|refine ah [] ?_|(apply aj;·go_simp)|(apply ab;intro X Y;go_simp;apply Y;clear Y X)
   go_simp
  ·obtain ⟨j,ej,hj,hp⟩:=kH bQ;have fy:j < Q.length:=by rw [bh.out.len];exact hj
   obtain ⟨f1,f2,f3⟩:=kG hp;obtain ⟨p1,p2,p3⟩:=HU.out.feedN hj f1;have cM:feedN r j < Q.length:=by rw [bh.out.len];exact p3
   have fQ:=pv HU.out bh.out.len fy f1 f2;have bJ:=bh.out.up HU.out fy f1 f2 f3;have j8:=uE r Q j (feedN r j) fy bh.out.len.symm p1 cM (by omega) f2 (by rw [bh.out.len];have:=HU.out.n6;omega) fun i jm=>by
    have h1:=bh.out.fit i jm;have h2:=HU.out.pl i (by rw [←bh.out.len];exact jm);simp only at h1;omega
   rw [rV fy cM (by omega)] at j8;have n7:=mI r (upS r ⟨Q,TK,t⟩ j) hn (by rw [bJ.len]) (by rw [bJ.len];exact HU.out.feed);have gp:∃ n,cl 0 (upS r ⟨Q,TK,t⟩ j).q≤n∧bZ r n (upS r ⟨Q,TK,t⟩ j) (m++upM Q j (feedN r j))=(S2,M2):=by
    cases n3 with
    | zero=>simp only at fQ dM;omega
    | succ n3=>
     rw [bZ,if_neg bQ,ej,Int.toNat_natCast] at cN;exact ⟨n3,by simp only at fQ dM;omega,cN⟩
   have HX:=Lib.hid gp;have lU:=Lib.hid bJ;have pa:m.length+(upM Q j (feedN r j)).length=m.length+2:=by simp [upM]
   have kK:(m++upM Q j (feedN r j)).length=m.length+2:=by simp [upM]
   have n8:(upM Q j (feedN r j)).length=2:=by simp [upM]
   have n_:m.length+2≤1000000000:=by omega
   clear cN HE gp bJ dM bQ bh f1 f2 f3 hp;unfold upS at *;simp only at *;generalize upQ Q j (feedN r j)=Q2 at *;have kY:(m++upM Q j (feedN r j)).map Sg.av=m.map Sg.av++(upM Q j (feedN r j)).map Sg.av:=List.map_append;generalize upM Q j (feedN r j)=U at *;rw [ej];repeat' with_reducible first|apply af|apply ae|apply ao|apply az|apply aY|apply aa|refine ah [] ?_|(apply au;·go_simp)|(apply ab;intro X Y;go_simp;(first|(refine ⟨_,j8,?_⟩)|(refine ⟨_,n7,?_⟩)|skip);apply Y;clear Y X)
   refine hK _ (⟨Q2,TK,t⟩,m++U) ⟨lU,by simp only;omega,HX⟩ (by simp only;omega) ?_;simp only [kY];go_simp
theorem OH (r:Ru) (s S2:St) (tm:Int) (k:Nat) (car:ByteArray) (M2:List Sg) (Q0:List (List ByteArray)) (dx:List Tk) (hn:r.ranks.length≤1000000) (hr:RuOK r) (cJ:SmallS s) (hk:k < s.q.length) (_hrl:r.ranks.length=s.q.length) (j5:Q0=s.q.set k (woT (qat s.q k) car)) (kv:dx=s.tk++[⟨car,(k:Int),tm⟩]) (hI:Inv r ⟨Q0,dx,tm⟩) (hB : [(⟨1,(k:Int),car⟩ : Sg)].length+2*cl 0 Q0≤1000000) (gv:∃ n,cl 0 Q0≤n∧bZ r n ⟨Q0,dx,tm⟩ [(⟨1,(k:Int),car⟩ : Sg)]=(S2,M2)) :
  VC Tryz.prog 68 [bN r,dH s,.agg [I 1,I tm,I (k:Int),S car]] (.tup [dH S2,.sl 3 (M2.map Sg.av)]):=by
 have gC:=uF s cJ;have ax:¬bx s.q=[]:=fun h=>by
  have:=rh s.q;rw [h] at this;simp at this;omega
 rw [decide_eq_false ax] at gC;have HI:=Lib.hid hI;have HU:=Lib.hid hr;have HN:=Lib.hid gv;have gm:=mI r ⟨Q0,dx,tm⟩ hn hI.len.symm (by rw [hI.len];exact hr.feed);have iU:(qat s.q k).length≤300:=by rw [gM hk];exact (cJ.q1 _ (List.getElem_mem hk)).1
 have j6:=cJ.nt;clear hI hr gv cJ ax;generalize decide (s.tk.map Tk.av=[])=nT at *;have g1:=CT (qat s.q k) car (by omega);have hb1:s.tk.length+1≤1000000000:=by omega
 have aS:(bx Q0).map (fun l=>[AV.sl 1 l])=((bx s.q).map fun l=>[AV.sl 1 l]).set k [.sl 1 ((woT (qat s.q k) car).map bL)]:=by
  rw [j5,zH]
 have HR:=Lib.hid aS;have HT:Hid (dx.map Tk.av=s.tk.map Tk.av++[[S car,I (k:Int),I tm]]):=Lib.hid (by rw [kv];simp [Tk.av]);clear j5 aS kv;refine aJ Tryz.func68 rfl (by kernel_rfl) rfl fun M0 w0=>?_;simp only [Tryz.ntmps68,Tryz.results68,aC];repeat' with_reducible apply af
 refine ah [] ?_;repeat' with_reducible first|apply af|apply ae|apply aa|(apply ab;intro X Y;go_simp;apply Y;clear Y X)
 refine eC (bM [] 1 ⟨rfl,rfl⟩ ?_);simp only [aA];repeat' with_reducible first|apply aa|(apply ab;intro X Y;go_simp;apply Y;clear Y X)
 refine eI [] [] [] [none,none,some (.arr 148 3 nT (s.tk.map Tk.av)),some (.bag 62 1 false none (bx s.q))] (.agg [.osl 3,.osl 2,I s.time]) rfl (by go_simp) ?_ ?_
 ·unfold dU;go_simp;refine ⟨_,_,⟨_,gC⟩,?_⟩;go_simp;kernel_rfl
 go_simp;refine bM [] 2 ⟨rfl,rfl⟩ ?_;simp only [aA];repeat' with_reducible first|apply aa|(apply ab;intro X Y;go_simp;apply Y;clear Y X)
 apply da;repeat' with_reducible first|apply af|apply ae
 refine ah [] ?_;repeat' with_reducible first|apply af|apply ae|apply aa|(apply ab;intro X Y;go_simp;apply Y;clear Y X)
 refine ah [] ?_;repeat' with_reducible first|apply af|apply ae|apply aa|(apply ab;intro X Y;go_simp;apply Y;clear Y X)
 refine ah [10] ?_;repeat' with_reducible first|apply af|apply ae|apply aa|(apply ab;intro X Y;go_simp;apply Y;clear Y X)
 refine ah [] ?_;repeat ((with_reducible refine ab fun X Y=>?_);go_simp;refine Y _ ?_;clear Y X)
 apply aa;apply ae;refine tD ⟨[(3,.vp [.sl 4 (r.ranks.map Rk.av),I r.back,I r.ret]),(5,.vp [I 1,I tm,I (k:Int),S car]),(6,.ref 0 0),(8,.ref 5 0),(10,.osl 6)],[some (.box [bz,bz,I 0]),none,none,none,some (.arr 62 1 false ((bx Q0).map fun l=>[AV.sl 1 l])),some (.box [.osl 4,.sl 3 (dx.map Tk.av),I tm]),some (.arr 45 3 true [])]⟩ (fun K hK=>?_) ?_
 ·clear gm HN HI hB;refine ib (fun p a w R=>R.bagArr (id:=4) rfl (by kernel_rfl)) ?_;go_simp;repeat' with_reducible first|apply af|apply az
  refine ah [] ?_;repeat' with_reducible first|apply af|apply ae|apply aa|(apply aj;·go_simp)|(apply ab;intro X Y;go_simp;apply Y;clear Y X)
  refine ah [] ?_;repeat' with_reducible first|apply af|apply ae|apply aa|(apply au;·go_simp)|(apply ab;intro X Y;go_simp;apply Y;clear Y X)
  refine bf 10 8 [] rfl (by kernel_rfl) ?_;simp only [aA];repeat' with_reducible first|apply ae|apply aa|apply aP|((first|apply ab|apply aO);intro X Y;go_simp;(first|(refine ⟨_,g1,?_⟩)|skip);apply Y;clear Y X)
  refine IS [] 11 ⟨rfl,rfl⟩ ?_;simp only [aA];repeat' with_reducible first|apply aa|(apply ab;intro X Y;go_simp;apply Y;clear Y X)
  refine ⟨_,fun p a w R=>⟨_,R.freeze (t:=68) (id:=3) rfl rfl⟩,?_⟩;go_simp;repeat' with_reducible first|apply ae|apply aY|apply aa|(apply ab;intro X Y;go_simp;apply Y;clear Y X)
  rw [HR.out,HT.out] at hK;refine hK _ ?_;go_simp
 ·refine gN 5 0 4 rfl rfl rfl ?_;repeat' first|(with_reducible first|apply af|apply ae|apply ao|apply az|apply aa|refine ah [] ?_|(apply au;·go_simp)|(apply aj;·go_simp))|((with_reducible apply ab);intro X Y;go_simp;(first|(refine ⟨_,gm,?_⟩)|skip);apply Y;clear Y X)
  apply lr (α:=St×List Sg) [3,6,8] (fun (x:St×List Sg)=>[(10,.osl 6),(14,I (di r x.1))]) (fun (x:St×List Sg)=>([some (.box [bz,bz,I 0]),none,none,none,none,some (.box [h_ x.1.q,.sl 3 (x.1.tk.map Tk.av),I x.1.time]),some (.arr 45 3 false (x.2.map Sg.av))] : Hp)) (fun (x:St×List Sg)=>Hid (Inv r x.1)∧x.2.length+2*cl 0 x.1.q≤1000000∧Hid (∃ n,cl 0 x.1.q≤n∧bZ r n x.1 x.2=(S2,M2))) (fun (x:St×List Sg)=>cl 0 x.1.q) ((⟨Q0,dx,tm⟩,[(⟨1,(k:Int),car⟩ : Sg)])) ⟨HI,hB,HN⟩
  ·(go_simp<;>exact rfl)
  ·go_simp
  rintro ⟨⟨Q,TK,t⟩,m⟩ ⟨bh,ij,HE⟩ K hK;simp only at bh ij HE hK ⊢;obtain ⟨n3,dM,cN⟩:=HE.out;by_cases bQ:di r ⟨Q,TK,t⟩ < 0
  ·have e:(⟨Q,TK,t⟩,m)=(S2,M2):=by
    cases n3 with
    | zero=>exact cN
    | succ n=>rw [bZ,if_pos bQ] at cN;exact cN
   clear hK cN HE dM ij;injection e with e1 e2
   subst e1;subst e2;generalize di r ⟨Q,TK,t⟩=R at *;have j7:¬0≤R:=by omega
   refine nU 10 6 rfl rfl ?_;repeat' with_reducible first|apply af|apply ae|apply bE|apply aw|apply bF|apply bG|apply aa|refine ah [] ?_|(apply aj;·go_simp)|(apply ab;intro X Y;go_simp;apply Y;clear Y X)
   go_simp
  ·obtain ⟨j,ej,hj,hp⟩:=kH bQ;have fy:j < Q.length:=by rw [bh.out.len];exact hj
   obtain ⟨f1,f2,f3⟩:=kG hp;obtain ⟨p1,p2,p3⟩:=HU.out.feedN hj f1;have cM:feedN r j < Q.length:=by rw [bh.out.len];exact p3
   have fQ:=pv HU.out bh.out.len fy f1 f2;have bJ:=bh.out.up HU.out fy f1 f2 f3;have j8:=uE r Q j (feedN r j) fy bh.out.len.symm p1 cM (by omega) f2 (by rw [bh.out.len];have:=HU.out.n6;omega) fun i jm=>by
    have h1:=bh.out.fit i jm;have h2:=HU.out.pl i (by rw [←bh.out.len];exact jm);simp only at h1;omega
   rw [rV fy cM (by omega)] at j8;have n7:=mI r (upS r ⟨Q,TK,t⟩ j) hn (by rw [bJ.len]) (by rw [bJ.len];exact HU.out.feed);have gp:∃ n,cl 0 (upS r ⟨Q,TK,t⟩ j).q≤n∧bZ r n (upS r ⟨Q,TK,t⟩ j) (m++upM Q j (feedN r j))=(S2,M2):=by
    cases n3 with
    | zero=>simp only at fQ dM;omega
    | succ n3=>
     rw [bZ,if_neg bQ,ej,Int.toNat_natCast] at cN;exact ⟨n3,by simp only at fQ dM;omega,cN⟩
   have HX:=Lib.hid gp;have lU:=Lib.hid bJ;have pa:m.length+(upM Q j (feedN r j)).length=m.length+2:=by simp [upM]
   have kK:(m++upM Q j (feedN r j)).length=m.length+2:=by simp [upM]
   have n8:(upM Q j (feedN r j)).length=2:=by simp [upM]
   have n_:m.length+2≤1000000000:=by omega
   clear cN HE gp bJ dM bQ bh f1 f2 f3 hp;unfold upS at *;simp only at *;generalize upQ Q j (feedN r j)=Q2 at *;have kY:(m++upM Q j (feedN r j)).map Sg.av=m.map Sg.av++(upM Q j (feedN r j)).map Sg.av:=List.map_append;generalize upM Q j (feedN r j)=U at *;rw [ej];repeat' with_reducible first|apply af|apply ae|apply ao|apply az|apply aY|apply aa|refine ah [] ?_|(apply au;·go_simp)|(apply ab;intro X Y;go_simp;(first|(refine ⟨_,j8,?_⟩)|(refine ⟨_,n7,?_⟩)|skip);apply Y;clear Y X)
   refine hK _ (⟨Q2,TK,t⟩,m++U) ⟨lU,by simp only;omega,HX⟩ (by simp only;omega) ?_;simp only [kY];go_simp
theorem OI (r:Ru) (s S2:St) (tm:Int) (k:Nat) (car:ByteArray) (M2:List Sg) (Q0:List (List ByteArray)) (dx:List Tk) (hn:r.ranks.length≤1000000) (hr:RuOK r) (cJ:SmallS s) (hk:k < s.q.length) (_hrl:r.ranks.length=s.q.length) (j5:Q0=s.q.set k (woT (qat s.q k) car)) (kv:dx=s.tk) (hI:Inv r ⟨Q0,dx,tm⟩) (hB : [(⟨3,(k:Int),car⟩ : Sg)].length+2*cl 0 Q0≤1000000) (gv:∃ n,cl 0 Q0≤n∧bZ r n ⟨Q0,dx,tm⟩ [(⟨3,(k:Int),car⟩ : Sg)]=(S2,M2)) :
  VC Tryz.prog 68 [bN r,dH s,.agg [I 3,I tm,I (k:Int),S car]] (.tup [dH S2,.sl 3 (M2.map Sg.av)]):=by
 have gC:=uF s cJ;have ax:¬bx s.q=[]:=fun h=>by
  have:=rh s.q;rw [h] at this;simp at this;omega
 rw [decide_eq_false ax] at gC;have HI:=Lib.hid hI;have HU:=Lib.hid hr;have HN:=Lib.hid gv;have gm:=mI r ⟨Q0,dx,tm⟩ hn hI.len.symm (by rw [hI.len];exact hr.feed);have iU:(qat s.q k).length≤300:=by rw [gM hk];exact (cJ.q1 _ (List.getElem_mem hk)).1
 have j6:=cJ.nt;clear hI hr gv cJ ax;generalize decide (s.tk.map Tk.av=[])=nT at *;have g1:=CT (qat s.q k) car (by omega);have hb1:s.tk.length+1≤1000000000:=by omega
 have aS:(bx Q0).map (fun l=>[AV.sl 1 l])=((bx s.q).map fun l=>[AV.sl 1 l]).set k [.sl 1 ((woT (qat s.q k) car).map bL)]:=by
  rw [j5,zH]
 have HR:=Lib.hid aS;have HT:Hid (dx.map Tk.av=s.tk.map Tk.av):=Lib.hid (by rw [kv]);clear j5 aS kv;refine aJ Tryz.func68 rfl (by kernel_rfl) rfl fun M0 w0=>?_;simp only [Tryz.ntmps68,Tryz.results68,aC];repeat' with_reducible apply af
 refine ah [] ?_;repeat' with_reducible first|apply af|apply ae|apply aa|(apply ab;intro X Y;go_simp;apply Y;clear Y X)
 refine eC (bM [] 1 ⟨rfl,rfl⟩ ?_);simp only [aA];repeat' with_reducible first|apply aa|(apply ab;intro X Y;go_simp;apply Y;clear Y X)
 refine eI [] [] [] [none,none,some (.arr 148 3 nT (s.tk.map Tk.av)),some (.bag 62 1 false none (bx s.q))] (.agg [.osl 3,.osl 2,I s.time]) rfl (by go_simp) ?_ ?_
 ·unfold dU;go_simp;refine ⟨_,_,⟨_,gC⟩,?_⟩;go_simp;kernel_rfl
 go_simp;refine bM [] 2 ⟨rfl,rfl⟩ ?_;simp only [aA];repeat' with_reducible first|apply aa|(apply ab;intro X Y;go_simp;apply Y;clear Y X)
 apply da;repeat' with_reducible first|apply af|apply ae
 refine ah [] ?_;repeat' with_reducible first|apply af|apply ae|apply aa|(apply ab;intro X Y;go_simp;apply Y;clear Y X)
 refine ah [] ?_;repeat' with_reducible first|apply af|apply ae|apply aa|(apply ab;intro X Y;go_simp;apply Y;clear Y X)
 refine ah [10] ?_;repeat' with_reducible first|apply af|apply ae|apply aa|(apply ab;intro X Y;go_simp;apply Y;clear Y X)
 refine ah [] ?_;repeat ((with_reducible refine ab fun X Y=>?_);go_simp;refine Y _ ?_;clear Y X)
 apply aa;apply ae;refine tD ⟨[(3,.vp [.sl 4 (r.ranks.map Rk.av),I r.back,I r.ret]),(5,.vp [I 3,I tm,I (k:Int),S car]),(6,.ref 0 0),(8,.ref 5 0),(10,.osl 6)],[some (.box [bz,bz,I 0]),none,none,none,some (.arr 62 1 false ((bx Q0).map fun l=>[AV.sl 1 l])),some (.box [.osl 4,.sl 3 (dx.map Tk.av),I tm]),some (.arr 45 3 true [])]⟩ (fun K hK=>?_) ?_
 ·clear gm HN HI hB;refine ib (fun p a w R=>R.bagArr (id:=4) rfl (by kernel_rfl)) ?_;go_simp;refine gN 5 1 3 rfl rfl rfl ?_;repeat' first|(with_reducible first|apply af|apply ae|apply az|apply aY|apply aa|refine ah [] ?_|apply aP|(apply au;·go_simp)|(apply aj;·go_simp)|((first|apply ab|apply aO);intro X Y;go_simp;(first|(refine ⟨_,g1,?_⟩)|skip);apply Y;clear Y X))|((refine bf 10 9 [] rfl (by kernel_rfl) ?_);simp only [aA])
  rw [HR.out,HT.out] at hK;refine hK _ ?_;go_simp
 ·refine gN 5 0 4 rfl rfl rfl ?_;repeat' first|(with_reducible first|apply af|apply ae|apply ao|apply az|apply aa|refine ah [] ?_|(apply au;·go_simp)|(apply aj;·go_simp))|((with_reducible apply ab);intro X Y;go_simp;(first|(refine ⟨_,gm,?_⟩)|skip);apply Y;clear Y X)
  apply lr (α:=St×List Sg) [3,6,8] (fun (x:St×List Sg)=>[(10,.osl 6),(14,I (di r x.1))]) (fun (x:St×List Sg)=>([some (.box [bz,bz,I 0]),none,none,none,none,some (.box [h_ x.1.q,.sl 3 (x.1.tk.map Tk.av),I x.1.time]),some (.arr 45 3 false (x.2.map Sg.av))] : Hp)) (fun (x:St×List Sg)=>Hid (Inv r x.1)∧x.2.length+2*cl 0 x.1.q≤1000000∧Hid (∃ n,cl 0 x.1.q≤n∧bZ r n x.1 x.2=(S2,M2))) (fun (x:St×List Sg)=>cl 0 x.1.q) ((⟨Q0,dx,tm⟩,[(⟨3,(k:Int),car⟩ : Sg)])) ⟨HI,hB,HN⟩
  ·(go_simp<;>exact rfl)
  ·go_simp
  rintro ⟨⟨Q,TK,t⟩,m⟩ ⟨bh,ij,HE⟩ K hK;simp only at bh ij HE hK ⊢;obtain ⟨n3,dM,cN⟩:=HE.out;by_cases bQ:di r ⟨Q,TK,t⟩ < 0
  ·have e:(⟨Q,TK,t⟩,m)=(S2,M2):=by
    cases n3 with
    | zero=>exact cN
    | succ n=>rw [bZ,if_pos bQ] at cN;exact cN
   clear hK cN HE dM ij;injection e with e1 e2
   subst e1;subst e2;generalize di r ⟨Q,TK,t⟩=R at *;have j7:¬0≤R:=by omega
   refine nU 10 6 rfl rfl ?_;repeat' with_reducible first|apply af|apply ae|apply bE|apply aw|apply bF|apply bG|apply aa|refine ah [] ?_|(apply aj;·go_simp)|(apply ab;intro X Y;go_simp;apply Y;clear Y X)
   go_simp
  ·obtain ⟨j,ej,hj,hp⟩:=kH bQ;have fy:j < Q.length:=by rw [bh.out.len];exact hj
   obtain ⟨f1,f2,f3⟩:=kG hp;obtain ⟨p1,p2,p3⟩:=HU.out.feedN hj f1;have cM:feedN r j < Q.length:=by rw [bh.out.len];exact p3
   have fQ:=pv HU.out bh.out.len fy f1 f2;have bJ:=bh.out.up HU.out fy f1 f2 f3;have j8:=uE r Q j (feedN r j) fy bh.out.len.symm p1 cM (by omega) f2 (by rw [bh.out.len];have:=HU.out.n6;omega) fun i jm=>by
    have h1:=bh.out.fit i jm;have h2:=HU.out.pl i (by rw [←bh.out.len];exact jm);simp only at h1;omega
   rw [rV fy cM (by omega)] at j8;have n7:=mI r (upS r ⟨Q,TK,t⟩ j) hn (by rw [bJ.len]) (by rw [bJ.len];exact HU.out.feed);have gp:∃ n,cl 0 (upS r ⟨Q,TK,t⟩ j).q≤n∧bZ r n (upS r ⟨Q,TK,t⟩ j) (m++upM Q j (feedN r j))=(S2,M2):=by
    cases n3 with
    | zero=>simp only at fQ dM;omega
    | succ n3=>
     rw [bZ,if_neg bQ,ej,Int.toNat_natCast] at cN;exact ⟨n3,by simp only at fQ dM;omega,cN⟩
   have HX:=Lib.hid gp;have lU:=Lib.hid bJ;have pa:m.length+(upM Q j (feedN r j)).length=m.length+2:=by simp [upM]
   have kK:(m++upM Q j (feedN r j)).length=m.length+2:=by simp [upM]
   have n8:(upM Q j (feedN r j)).length=2:=by simp [upM]
   have n_:m.length+2≤1000000000:=by omega
   clear cN HE gp bJ dM bQ bh f1 f2 f3 hp;unfold upS at *;simp only at *;generalize upQ Q j (feedN r j)=Q2 at *;have kY:(m++upM Q j (feedN r j)).map Sg.av=m.map Sg.av++(upM Q j (feedN r j)).map Sg.av:=List.map_append;generalize upM Q j (feedN r j)=U at *;rw [ej];repeat' with_reducible first|apply af|apply ae|apply ao|apply az|apply aY|apply aa|refine ah [] ?_|(apply au;·go_simp)|(apply ab;intro X Y;go_simp;(first|(refine ⟨_,j8,?_⟩)|(refine ⟨_,n7,?_⟩)|skip);apply Y;clear Y X)
   refine hK _ (⟨Q2,TK,t⟩,m++U) ⟨lU,by simp only;omega,HX⟩ (by simp only;omega) ?_;simp only [kY];go_simp
theorem OJ (r:Ru) (s S2:St) (tm:Int) (k:Nat) (car:ByteArray) (M2:List Sg) (Q0:List (List ByteArray)) (dx:List Tk) (hn:r.ranks.length≤1000000) (hr:RuOK r) (cJ:SmallS s) (hk:k < s.q.length) (_hrl:r.ranks.length=s.q.length) (b:Nat) (uA:b=tP r (woT (qat s.q k) car).length) (pB:r.back = -1∨0≤r.back∧r.back≤12) (j5:Q0=s.q.set k ((woT (qat s.q k) car).take b++[car]++(woT (qat s.q k) car).drop b)) (kv:dx=s.tk) (hI:Inv r ⟨Q0,dx,tm⟩) (hB : [(⟨2,(k:Int),car⟩ : Sg)].length+2*cl 0 Q0≤1000000) (gv:∃ n,cl 0 Q0≤n∧bZ r n ⟨Q0,dx,tm⟩ [(⟨2,(k:Int),car⟩ : Sg)]=(S2,M2)) :
  VC Tryz.prog 68 [bN r,dH s,.agg [I 2,I tm,I (k:Int),S car]] (.tup [dH S2,.sl 3 (M2.map Sg.av)]):=by
 have gC:=uF s cJ;have ax:¬bx s.q=[]:=fun h=>by
  have:=rh s.q;rw [h] at this;simp at this;omega
 rw [decide_eq_false ax] at gC;have HI:=Lib.hid hI;have HU:=Lib.hid hr;have HN:=Lib.hid gv;have gm:=mI r ⟨Q0,dx,tm⟩ hn hI.len.symm (by rw [hI.len];exact hr.feed);have iU:(qat s.q k).length≤300:=by rw [gM hk];exact (cJ.q1 _ (List.getElem_mem hk)).1
 have j6:=cJ.nt;clear hI hr gv cJ ax;generalize decide (s.tk.map Tk.av=[])=nT at *;have g1:=CT (qat s.q k) car (by omega);have C5:(woT (qat s.q k) car).length≤300:=Nat.le_trans (List.length_filter_le _ _) iU;have aS:(bx Q0).map (fun l=>[AV.sl 1 l])=((bx s.q).map fun l=>[AV.sl 1 l]).set k [.sl 1 (((woT (qat s.q k) car).map bL).take b++[[S car]]++((woT (qat s.q k) car).map bL).drop b)]:=by
  rw [j5,←zH,List.map_append,List.map_append,List.map_take,List.map_drop];rfl
 have hb0:b≤(woT (qat s.q k) car).length∧(r.back = -1∨r.back > (woT (qat s.q k) car).length→b=(woT (qat s.q k) car).length)∧(¬(r.back = -1∨r.back > (woT (qat s.q k) car).length)→r.back=b):=by
  rw [uA];unfold tP;by_cases h:r.back = -1∨r.back > (woT (qat s.q k) car).length
  ·rw [if_pos h];exact ⟨Nat.le_refl _,fun _=>rfl,fun hh=>absurd h hh⟩
  ·rw [if_neg h];exact ⟨by omega,fun hh=>absurd hh h,fun _=>by omega⟩
 generalize woT (qat s.q k) car=W at *;have g2:=zc (W.take b) (by rw [List.length_take];omega);unfold iT at g2;rw [List.map_take] at g2;have HR:=Lib.hid aS;have HT:Hid (dx.map Tk.av=s.tk.map Tk.av):=Lib.hid (by rw [kv]);obtain ⟨hb1,hb2,hb3⟩:=hb0;have oV:b+1≤1000000000:=by omega
 have OK:(b:Int)≤W.length:=by omega
 have wh:b+1+(W.length - b)≤1000000000:=by omega
 have oX:min b W.length=b:=by omega
 clear j5 aS uA kv;refine aJ Tryz.func68 rfl (by kernel_rfl) rfl fun M0 w0=>?_;simp only [Tryz.ntmps68,Tryz.results68,aC];repeat' with_reducible apply af
 refine ah [] ?_;repeat' with_reducible first|apply af|apply ae|apply aa|(apply ab;intro X Y;go_simp;apply Y;clear Y X)
 refine eC (bM [] 1 ⟨rfl,rfl⟩ ?_);simp only [aA];repeat' with_reducible first|apply aa|(apply ab;intro X Y;go_simp;apply Y;clear Y X)
 refine eI [] [] [] [none,none,some (.arr 148 3 nT (s.tk.map Tk.av)),some (.bag 62 1 false none (bx s.q))] (.agg [.osl 3,.osl 2,I s.time]) rfl (by go_simp) ?_ ?_
 ·unfold dU;go_simp;refine ⟨_,_,⟨_,gC⟩,?_⟩;go_simp;kernel_rfl
 go_simp;refine bM [] 2 ⟨rfl,rfl⟩ ?_;simp only [aA];repeat' with_reducible first|apply aa|(apply ab;intro X Y;go_simp;apply Y;clear Y X)
 apply da;repeat' with_reducible first|apply af|apply ae
 refine ah [] ?_;repeat' with_reducible first|apply af|apply ae|apply aa|(apply ab;intro X Y;go_simp;apply Y;clear Y X)
 refine ah [] ?_;repeat' with_reducible first|apply af|apply ae|apply aa|(apply ab;intro X Y;go_simp;apply Y;clear Y X)
 refine ah [10] ?_;repeat' with_reducible first|apply af|apply ae|apply aa|(apply ab;intro X Y;go_simp;apply Y;clear Y X)
 refine ah [] ?_;repeat ((with_reducible refine ab fun X Y=>?_);go_simp;refine Y _ ?_;clear Y X)
 apply aa;apply ae;refine tD ⟨[(3,.vp [.sl 4 (r.ranks.map Rk.av),I r.back,I r.ret]),(5,.vp [I 2,I tm,I (k:Int),S car]),(6,.ref 0 0),(8,.ref 5 0),(10,.osl 6)],[some (.box [bz,bz,I 0]),none,none,none,some (.arr 62 1 false ((bx Q0).map fun l=>[AV.sl 1 l])),some (.box [.osl 4,.sl 3 (dx.map Tk.av),I tm]),some (.arr 45 3 true [])]⟩ (fun K hK=>?_) ?_
 ·clear gm HN HI hB;refine ib (fun p a w R=>R.bagArr (id:=4) rfl (by kernel_rfl)) ?_;go_simp;refine gN 5 1 3 rfl rfl rfl ?_;rw [HT.out] at hK;by_cases hx:r.back = -1∨r.back > W.length
  ·have zI:W.length=b:=(hb2 hx).symm;have lS:List.take b (W.map bL)=W.map bL:=List.take_of_length_le (by simp [zI]);have OL:List.drop b (W.map bL)=[]:=List.drop_eq_nil_of_le (by simp [zI]);have rD:=HR.out;rw [lS] at g2;rw [lS,OL,List.append_nil] at rD;have HR:=Lib.hid rD;clear hb1 hb2 hb3 pB OK wh oX rD;rw [zI] at hx;by_cases qp:r.back = -1
   ·clear hx;repeat' with_reducible first|apply af|apply az
    refine ah [] ?_;repeat' with_reducible first|apply af|apply ae|apply aa|(apply aj;·go_simp)|(apply ab;intro X Y;go_simp;apply Y;clear Y X)
    refine ah [] ?_;repeat' with_reducible first|apply af|apply ae|apply aa|(apply aj;·go_simp)|(apply ab;intro X Y;go_simp;apply Y;clear Y X)
    refine ah [] ?_;repeat' with_reducible first|apply af|apply ae|apply aa|(apply au;·go_simp)|(apply ab;intro X Y;go_simp;apply Y;clear Y X)
    refine ah [] ?_;repeat' with_reducible first|apply af|apply ae|apply aa|(apply ab;intro X Y;go_simp;(first|(refine ⟨_,g1,?_⟩)|skip);apply Y;clear Y X)
    refine ah [] ?_;repeat' with_reducible first|apply af|apply ae|apply aa|(apply ab;intro X Y;go_simp;apply Y;clear Y X)
    refine ah [] ?_;repeat' with_reducible first|apply ae|apply aa|(apply au;·go_simp)|(apply ab;intro X Y;go_simp;apply Y;clear Y X)
    refine ah [] ?_;repeat' with_reducible first|apply ae|apply aa|(apply ab;intro X Y;go_simp;apply Y;clear Y X)
    refine C3 16 [95] (fun i=>i == 7 || i == 11 || i == 15) (by kernel_rfl) (by kernel_rfl) (by kernel_rfl) (by go_simp) (by go_simp) ?_;simp only [aA];repeat ((with_reducible refine mH rfl fun X Y=>?_);go_simp;refine Y _ (by go_simp) ?_;clear Y X)
    refine pY [some (.arr 9 1 false (W.map bL))] none (.osl 7) rfl ⟨rfl,fun _=>rfl,fun _ h=>by cases h⟩ ?_ ?_
    ·intro s2 cV;have q1:lkp s2 94 = .sl 1 (W.map bL):=(cV 94 (by simp [Op.operands,Call.operands]) (by go_simp)).trans (by go_simp);clear cV;go_simp;exact ⟨_,_,_,g2,rfl,rfl,rfl⟩
    repeat ((with_reducible refine mH rfl fun X Y=>?_);go_simp;refine Y _ (by go_simp) ?_;clear Y X)
    refine pY [some (.arr 9 1 false (W.map bL++[[S car]]))] (some 7) (.osl 7) rfl ⟨rfl,fun h=>(by cases h),fun _ h=>(by cases h;exact Nat.le_refl _)⟩ ?_ ?_
    ·intro s2 cV;have q1:lkp s2 95 = .osl 7:=(cV 95 (by simp [Op.operands,Call.operands]) (by go_simp)).trans (by go_simp);have q2:lkp s2 98 = .sl 1 [[S car]]:=(cV 98 (by simp [Op.operands,Call.operands]) (by go_simp)).trans (by go_simp);clear cV;go_simp
    repeat ((with_reducible refine mH rfl fun X Y=>?_);go_simp;refine Y _ (by go_simp) ?_;clear Y X)
    refine zx [none] (some 7) (.sl 1 (W.map bL++[[S car]])) rfl ⟨rfl,(fun h=>by cases h),fun _ h=>by cases h;exact Nat.le_refl _⟩ rfl ?_ ?_
    ·intro s2 cV;have q1:lkp s2 99 = .osl 7:=(cV 99 (by simp [Op.operands,Call.operands]) (by go_simp)).trans (by go_simp);have q2:lkp s2 102 = .sl 1 ([]):=(cV 102 (by simp [Op.operands,Call.operands]) (by go_simp)).trans (by go_simp);clear cV;go_simp;exact zy (id:=7) rfl rfl
    repeat (first|(with_reducible first|apply ae|apply aY|apply aa|(apply ab;intro X Y;go_simp;apply Y;clear Y X))|((with_reducible refine wQ ?_);simp only [List.nil_append,nQ,nR,if_true]))
    skip
    rw [HR.out] at hK;refine hK _ ?_;go_simp
   ·have OM:(b:Int) < r.back:=by omega
    clear hx;repeat' with_reducible first|apply af|apply az
    refine ah [] ?_;repeat' with_reducible first|apply af|apply ae|apply aa|(apply aj;·go_simp)|(apply ab;intro X Y;go_simp;apply Y;clear Y X)
    refine ah [] ?_;repeat' with_reducible first|apply af|apply ae|apply aa|(apply aj;·go_simp)|(apply ab;intro X Y;go_simp;apply Y;clear Y X)
    refine ah [] ?_;repeat' with_reducible first|apply af|apply ae|apply aa|(apply au;·go_simp)|(apply ab;intro X Y;go_simp;apply Y;clear Y X)
    refine ah [] ?_;repeat' with_reducible first|apply af|apply ae|apply aa|(apply ab;intro X Y;go_simp;(first|(refine ⟨_,g1,?_⟩)|skip);apply Y;clear Y X)
    refine ah [] ?_;repeat' with_reducible first|apply af|apply ae|apply aa|(apply ab;intro X Y;go_simp;apply Y;clear Y X)
    refine ah [] ?_;repeat' with_reducible first|apply ae|apply aa|(apply au;·go_simp)|(apply ab;intro X Y;go_simp;apply Y;clear Y X)
    refine ah [] ?_;repeat' with_reducible first|apply ae|apply aa|(apply ab;intro X Y;go_simp;apply Y;clear Y X)
    refine C3 16 [95] (fun i=>i == 7 || i == 11 || i == 15) (by kernel_rfl) (by kernel_rfl) (by kernel_rfl) (by go_simp) (by go_simp) ?_;simp only [aA];repeat ((with_reducible refine mH rfl fun X Y=>?_);go_simp;refine Y _ (by go_simp) ?_;clear Y X)
    refine pY [some (.arr 9 1 false (W.map bL))] none (.osl 7) rfl ⟨rfl,fun _=>rfl,fun _ h=>by cases h⟩ ?_ ?_
    ·intro s2 cV;have q1:lkp s2 94 = .sl 1 (W.map bL):=(cV 94 (by simp [Op.operands,Call.operands]) (by go_simp)).trans (by go_simp);clear cV;go_simp;exact ⟨_,_,_,g2,rfl,rfl,rfl⟩
    repeat ((with_reducible refine mH rfl fun X Y=>?_);go_simp;refine Y _ (by go_simp) ?_;clear Y X)
    refine pY [some (.arr 9 1 false (W.map bL++[[S car]]))] (some 7) (.osl 7) rfl ⟨rfl,fun h=>(by cases h),fun _ h=>(by cases h;exact Nat.le_refl _)⟩ ?_ ?_
    ·intro s2 cV;have q1:lkp s2 95 = .osl 7:=(cV 95 (by simp [Op.operands,Call.operands]) (by go_simp)).trans (by go_simp);have q2:lkp s2 98 = .sl 1 [[S car]]:=(cV 98 (by simp [Op.operands,Call.operands]) (by go_simp)).trans (by go_simp);clear cV;go_simp
    repeat ((with_reducible refine mH rfl fun X Y=>?_);go_simp;refine Y _ (by go_simp) ?_;clear Y X)
    refine zx [none] (some 7) (.sl 1 (W.map bL++[[S car]])) rfl ⟨rfl,(fun h=>by cases h),fun _ h=>by cases h;exact Nat.le_refl _⟩ rfl ?_ ?_
    ·intro s2 cV;have q1:lkp s2 99 = .osl 7:=(cV 99 (by simp [Op.operands,Call.operands]) (by go_simp)).trans (by go_simp);have q2:lkp s2 102 = .sl 1 ([]):=(cV 102 (by simp [Op.operands,Call.operands]) (by go_simp)).trans (by go_simp);clear cV;go_simp;exact zy (id:=7) rfl rfl
    repeat (first|(with_reducible first|apply ae|apply aY|apply aa|(apply ab;intro X Y;go_simp;apply Y;clear Y X))|((with_reducible refine wQ ?_);simp only [List.nil_append,nQ,nR,if_true]))
    skip
    rw [HR.out] at hK;refine hK _ ?_;go_simp
  ·have zI:r.back=b:=hb3 hx;have qp:¬(b:Int) = -1:=by omega
   have OM:¬(W.length:Int) < b:=by omega
   have lS:List.take W.length (W.map bL)=W.map bL:=List.take_of_length_le (by simp);clear hx hb2 hb3 pB;repeat' with_reducible first|apply af|apply az
   refine ah [] ?_;repeat' with_reducible first|apply af|apply ae|apply aa|(apply aj;·go_simp)|(apply ab;intro X Y;go_simp;apply Y;clear Y X)
   refine ah [] ?_;repeat' with_reducible first|apply af|apply ae|apply aa|(apply aj;·go_simp)|(apply ab;intro X Y;go_simp;apply Y;clear Y X)
   refine ah [] ?_;repeat' with_reducible first|apply af|apply ae|apply aa|(apply au;·go_simp)|(apply ab;intro X Y;go_simp;apply Y;clear Y X)
   refine ah [] ?_;repeat' with_reducible first|apply af|apply ae|apply aa|(apply ab;intro X Y;go_simp;(first|(refine ⟨_,g1,?_⟩)|skip);apply Y;clear Y X)
   refine ah [] ?_;repeat' with_reducible first|apply af|apply ae|apply aa|(apply ab;intro X Y;go_simp;apply Y;clear Y X)
   refine ah [] ?_;repeat' with_reducible first|apply ae|apply ao|apply aa|(apply aj;·go_simp)|(apply ab;intro X Y;go_simp;apply Y;clear Y X)
   refine C3 16 [95] (fun i=>i == 7 || i == 11 || i == 15) (by kernel_rfl) (by kernel_rfl) (by kernel_rfl) (by go_simp) (by go_simp) ?_;simp only [aA];repeat ((with_reducible refine mH rfl fun X Y=>?_);go_simp;refine Y _ (by go_simp) ?_;clear Y X)
   refine pY [some (.arr 9 1 false ((W.map bL).take b))] none (.osl 7) rfl ⟨rfl,fun _=>rfl,fun _ h=>by cases h⟩ ?_ ?_
   ·intro s2 cV;have q1:lkp s2 94 = .sl 1 ((W.map bL).take b):=(cV 94 (by simp [Op.operands,Call.operands]) (by go_simp)).trans (by go_simp);clear cV;go_simp;exact ⟨_,_,_,g2,rfl,rfl,rfl⟩
   repeat ((with_reducible refine mH rfl fun X Y=>?_);go_simp;refine Y _ (by go_simp) ?_;clear Y X)
   refine pY [some (.arr 9 1 false ((W.map bL).take b++[[S car]]))] (some 7) (.osl 7) rfl ⟨rfl,fun h=>(by cases h),fun _ h=>(by cases h;exact Nat.le_refl _)⟩ ?_ ?_
   ·intro s2 cV;have q1:lkp s2 95 = .osl 7:=(cV 95 (by simp [Op.operands,Call.operands]) (by go_simp)).trans (by go_simp);have q2:lkp s2 98 = .sl 1 [[S car]]:=(cV 98 (by simp [Op.operands,Call.operands]) (by go_simp)).trans (by go_simp);clear cV;go_simp
   repeat ((with_reducible refine mH rfl fun X Y=>?_);go_simp;refine Y _ (by go_simp) ?_;clear Y X)
   refine zx [none] (some 7) (.sl 1 ((W.map bL).take b++[[S car]]++(W.map bL).drop b)) rfl ⟨rfl,(fun h=>by cases h),fun _ h=>by cases h;exact Nat.le_refl _⟩ rfl ?_ ?_
   ·intro s2 cV;have q1:lkp s2 99 = .osl 7:=(cV 99 (by simp [Op.operands,Call.operands]) (by go_simp)).trans (by go_simp);have q2:lkp s2 102 = .sl 1 ((W.map bL).drop b):=(cV 102 (by simp [Op.operands,Call.operands]) (by go_simp)).trans (by go_simp);clear cV;go_simp;exact zy (id:=7) rfl rfl
   repeat (first|(with_reducible first|apply ae|apply aY|apply aa|(apply ab;intro X Y;go_simp;apply Y;clear Y X))|((with_reducible refine wQ ?_);simp only [List.nil_append,nQ,nR,if_true]))
   skip
   rw [HR.out] at hK;refine hK _ ?_;go_simp
 ·refine gN 5 0 4 rfl rfl rfl ?_;repeat' first|(with_reducible first|apply af|apply ae|apply ao|apply az|apply aa|refine ah [] ?_|(apply au;·go_simp)|(apply aj;·go_simp))|((with_reducible apply ab);intro X Y;go_simp;(first|(refine ⟨_,gm,?_⟩)|skip);apply Y;clear Y X)
  apply lr (α:=St×List Sg) [3,6,8] (fun (x:St×List Sg)=>[(10,.osl 6),(14,I (di r x.1))]) (fun (x:St×List Sg)=>([some (.box [bz,bz,I 0]),none,none,none,none,some (.box [h_ x.1.q,.sl 3 (x.1.tk.map Tk.av),I x.1.time]),some (.arr 45 3 false (x.2.map Sg.av))] : Hp)) (fun (x:St×List Sg)=>Hid (Inv r x.1)∧x.2.length+2*cl 0 x.1.q≤1000000∧Hid (∃ n,cl 0 x.1.q≤n∧bZ r n x.1 x.2=(S2,M2))) (fun (x:St×List Sg)=>cl 0 x.1.q) ((⟨Q0,dx,tm⟩,[(⟨2,(k:Int),car⟩ : Sg)])) ⟨HI,hB,HN⟩
  ·(go_simp<;>exact rfl)
  ·go_simp
  rintro ⟨⟨Q,TK,t⟩,m⟩ ⟨bh,ij,HE⟩ K hK;simp only at bh ij HE hK ⊢;obtain ⟨n3,dM,cN⟩:=HE.out;by_cases bQ:di r ⟨Q,TK,t⟩ < 0
  ·have e:(⟨Q,TK,t⟩,m)=(S2,M2):=by
    cases n3 with
    | zero=>exact cN
    | succ n=>rw [bZ,if_pos bQ] at cN;exact cN
   clear hK cN HE dM ij;injection e with e1 e2
   subst e1;subst e2;generalize di r ⟨Q,TK,t⟩=R at *;have j7:¬0≤R:=by omega
   refine nU 10 6 rfl rfl ?_;repeat' with_reducible first|apply af|apply ae|apply bE|apply aw|apply bF|apply bG|apply aa|refine ah [] ?_|(apply aj;·go_simp)|(apply ab;intro X Y;go_simp;apply Y;clear Y X)
   go_simp
  ·obtain ⟨j,ej,hj,hp⟩:=kH bQ;have fy:j < Q.length:=by rw [bh.out.len];exact hj
   obtain ⟨f1,f2,f3⟩:=kG hp;obtain ⟨p1,p2,p3⟩:=HU.out.feedN hj f1;have cM:feedN r j < Q.length:=by rw [bh.out.len];exact p3
   have fQ:=pv HU.out bh.out.len fy f1 f2;have bJ:=bh.out.up HU.out fy f1 f2 f3;have j8:=uE r Q j (feedN r j) fy bh.out.len.symm p1 cM (by omega) f2 (by rw [bh.out.len];have:=HU.out.n6;omega) fun i jm=>by
    have h1:=bh.out.fit i jm;have h2:=HU.out.pl i (by rw [←bh.out.len];exact jm);simp only at h1;omega
   rw [rV fy cM (by omega)] at j8;have n7:=mI r (upS r ⟨Q,TK,t⟩ j) hn (by rw [bJ.len]) (by rw [bJ.len];exact HU.out.feed);have gp:∃ n,cl 0 (upS r ⟨Q,TK,t⟩ j).q≤n∧bZ r n (upS r ⟨Q,TK,t⟩ j) (m++upM Q j (feedN r j))=(S2,M2):=by
    cases n3 with
    | zero=>simp only at fQ dM;omega
    | succ n3=>
     rw [bZ,if_neg bQ,ej,Int.toNat_natCast] at cN;exact ⟨n3,by simp only at fQ dM;omega,cN⟩
   have HX:=Lib.hid gp;have lU:=Lib.hid bJ;have pa:m.length+(upM Q j (feedN r j)).length=m.length+2:=by simp [upM]
   have kK:(m++upM Q j (feedN r j)).length=m.length+2:=by simp [upM]
   have n8:(upM Q j (feedN r j)).length=2:=by simp [upM]
   have n_:m.length+2≤1000000000:=by omega
   clear cN HE gp bJ dM bQ bh f1 f2 f3 hp;unfold upS at *;simp only at *;generalize upQ Q j (feedN r j)=Q2 at *;have kY:(m++upM Q j (feedN r j)).map Sg.av=m.map Sg.av++(upM Q j (feedN r j)).map Sg.av:=List.map_append;generalize upM Q j (feedN r j)=U at *;rw [ej];repeat' with_reducible first|apply af|apply ae|apply ao|apply az|apply aY|apply aa|refine ah [] ?_|(apply au;·go_simp)|(apply ab;intro X Y;go_simp;(first|(refine ⟨_,j8,?_⟩)|(refine ⟨_,n7,?_⟩)|skip);apply Y;clear Y X)
   refine hK _ (⟨Q2,TK,t⟩,m++U) ⟨lU,by simp only;omega,HX⟩ (by simp only;omega) ?_;simp only [kY];go_simp
theorem ON (r:Ru) (s S2:St) (tm:Int) (k:Nat) (car:ByteArray) (M2:List Sg) (Q0:List (List ByteArray)) (dx:List Tk) (hn:r.ranks.length≤1000000) (hr:RuOK r) (cJ:SmallS s) (hk:k < s.q.length) (_hrl:r.ranks.length=s.q.length) (j5:Q0=s.q.set k ([car]++qat s.q k)) (kv:dx=woK s.tk car) (hI:Inv r ⟨Q0,dx,tm⟩) (hB : [(⟨0,(k:Int),car⟩ : Sg)].length+2*cl 0 Q0≤1000000) (gv:∃ n,cl 0 Q0≤n∧bZ r n ⟨Q0,dx,tm⟩ [(⟨0,(k:Int),car⟩ : Sg)]=(S2,M2)) :
  VC Tryz.prog 68 [bN r,dH s,.agg [I 5,I tm,I (k:Int),S car]] (.tup [dH S2,.sl 3 (M2.map Sg.av)]):=by
 have gC:=uF s cJ;have ax:¬bx s.q=[]:=fun h=>by
  have:=rh s.q;rw [h] at this;simp at this;omega
 rw [decide_eq_false ax] at gC;have HI:=Lib.hid hI;have HU:=Lib.hid hr;have HN:=Lib.hid gv;have gm:=mI r ⟨Q0,dx,tm⟩ hn hI.len.symm (by rw [hI.len];exact hr.feed);have iU:(qat s.q k).length≤300:=by rw [gM hk];exact (cJ.q1 _ (List.getElem_mem hk)).1
 have j6:=cJ.nt;clear hI hr gv cJ ax;generalize decide (s.tk.map Tk.av=[])=nT at *;have g1:=Hc s.tk car (by omega);have hb1:1+(qat s.q k).length≤1000000000:=by omega
 have hb2:(qat s.q k).length+1≤1000000000:=by omega
 have aS:(bx Q0).map (fun l=>[AV.sl 1 l])=((bx s.q).map fun l=>[AV.sl 1 l]).set k [.sl 1 ([[S car]]++(qat s.q k).map bL)]:=by
  rw [j5,←zH];rfl
 have HR:=Lib.hid aS;rw [←kv] at g1;clear j5 aS kv;refine aJ Tryz.func68 rfl (by kernel_rfl) rfl fun M0 w0=>?_;simp only [Tryz.ntmps68,Tryz.results68,aC];repeat' with_reducible apply af
 refine ah [] ?_;repeat' with_reducible first|apply af|apply ae|apply aa|(apply ab;intro X Y;go_simp;apply Y;clear Y X)
 refine eC (bM [] 1 ⟨rfl,rfl⟩ ?_);simp only [aA];repeat' with_reducible first|apply aa|(apply ab;intro X Y;go_simp;apply Y;clear Y X)
 refine eI [] [] [] [none,none,some (.arr 148 3 nT (s.tk.map Tk.av)),some (.bag 62 1 false none (bx s.q))] (.agg [.osl 3,.osl 2,I s.time]) rfl (by go_simp) ?_ ?_
 ·unfold dU;go_simp;refine ⟨_,_,⟨_,gC⟩,?_⟩;go_simp;kernel_rfl
 go_simp;refine bM [] 2 ⟨rfl,rfl⟩ ?_;simp only [aA];repeat' with_reducible first|apply aa|(apply ab;intro X Y;go_simp;apply Y;clear Y X)
 apply da;repeat' with_reducible first|apply af|apply ae
 refine ah [] ?_;repeat' with_reducible first|apply af|apply ae|apply aa|(apply ab;intro X Y;go_simp;apply Y;clear Y X)
 refine ah [] ?_;repeat' with_reducible first|apply af|apply ae|apply aa|(apply ab;intro X Y;go_simp;apply Y;clear Y X)
 refine ah [10] ?_;repeat' with_reducible first|apply af|apply ae|apply aa|(apply ab;intro X Y;go_simp;apply Y;clear Y X)
 refine ah [] ?_;repeat ((with_reducible refine ab fun X Y=>?_);go_simp;refine Y _ ?_;clear Y X)
 apply aa;apply ae;refine tD ⟨[(3,.vp [.sl 4 (r.ranks.map Rk.av),I r.back,I r.ret]),(5,.vp [I 5,I tm,I (k:Int),S car]),(6,.ref 0 0),(8,.ref 5 0),(10,.osl 6)],[some (.box [bz,bz,I 0]),none,none,none,some (.arr 62 1 false ((bx Q0).map fun l=>[AV.sl 1 l])),some (.box [.osl 4,.sl 3 (dx.map Tk.av),I tm]),some (.arr 45 3 true [])]⟩ (fun K hK=>?_) ?_
 ·clear gm HN HI hB;refine ib (fun p a w R=>R.bagArr (id:=4) rfl (by kernel_rfl)) ?_;go_simp;refine gN 5 1 3 rfl rfl rfl ?_;repeat' with_reducible first|apply af|apply az
  refine ah [] ?_;repeat' with_reducible first|apply af|apply ae|apply aa|(apply aj;·go_simp)|(apply ab;intro X Y;go_simp;apply Y;clear Y X)
  refine ah [] ?_;repeat' with_reducible first|apply af|apply ae|apply aa|(apply aj;·go_simp)|(apply ab;intro X Y;go_simp;apply Y;clear Y X)
  refine ah [] ?_;repeat' with_reducible first|apply af|apply ae|apply aa|(apply aj;·go_simp)|(apply ab;intro X Y;go_simp;apply Y;clear Y X)
  refine ah [] ?_;repeat' with_reducible first|apply af|apply ae|apply aa|(apply aj;·go_simp)|(apply ab;intro X Y;go_simp;apply Y;clear Y X)
  refine ah [] ?_;repeat' with_reducible first|apply af|apply ae|apply aa|(apply aj;·go_simp)|(apply ab;intro X Y;go_simp;apply Y;clear Y X)
  refine ah [] ?_;repeat' with_reducible first|apply af|apply ae|apply aa|(apply au;·go_simp)|(apply ab;intro X Y;go_simp;apply Y;clear Y X)
  refine G4 9 [136] (fun i=>i == 6 || i == 8) (by kernel_rfl) (by kernel_rfl) (by kernel_rfl) (by go_simp) (by go_simp) ?_;simp only [aA];repeat ((with_reducible refine mH rfl fun X Y=>?_);go_simp;refine Y _ (by go_simp) ?_;clear Y X)
  refine pY [some (.arr 9 1 false [[S car]])] none (.osl 7) rfl ⟨rfl,fun _=>rfl,fun _ h=>by cases h⟩ ?_ ?_
  ·intro s2 cV;have q1:lkp s2 135=S car:=(cV 135 (by simp [Op.operands]) (by go_simp)).trans (by go_simp);clear cV;go_simp
  repeat ((with_reducible refine mH rfl fun X Y=>?_);go_simp;refine Y _ (by go_simp) ?_;clear Y X)
  refine zx [none] (some 7) (.sl 1 ([[S car]]++(qat s.q k).map bL)) rfl ⟨rfl,(fun h=>by cases h),fun _ h=>by cases h;exact Nat.le_refl _⟩ rfl ?_ ?_
  ·intro s2 cV;have q1:lkp s2 136 = .osl 7:=(cV 136 (by simp [Op.operands,Call.operands]) (by go_simp)).trans (by go_simp);have q2:lkp s2 137 = .sl 1 ((qat s.q k).map bL):=(cV 137 (by simp [Op.operands,Call.operands]) (by go_simp)).trans (by go_simp);clear cV;go_simp;exact zy (id:=7) rfl rfl
  repeat (first|(with_reducible first|apply ae|apply aa|refine ah [] ?_|(apply ab;intro X Y;go_simp;apply Y;clear Y X))|((with_reducible refine wQ ?_);simp only [List.cons_append,List.nil_append,nQ,nR,if_true]))
  repeat' with_reducible first|apply ae|apply aY|apply aa|(apply ab;intro X Y;go_simp;(first|(refine ⟨_,g1,?_⟩)|skip);apply Y;clear Y X)
  rw [HR.out] at hK;refine hK _ ?_;go_simp
 ·refine gN 5 0 4 rfl rfl rfl ?_;repeat' first|(with_reducible first|apply af|apply ae|apply az|apply aa|refine ah [] ?_|(apply au;·go_simp))|((with_reducible apply ab);intro X Y;go_simp;(first|(refine ⟨_,gm,?_⟩)|skip);apply Y;clear Y X)
  apply lr (α:=St×List Sg) [3,6,8] (fun (x:St×List Sg)=>[(10,.osl 6),(14,I (di r x.1))]) (fun (x:St×List Sg)=>([some (.box [bz,bz,I 0]),none,none,none,none,some (.box [h_ x.1.q,.sl 3 (x.1.tk.map Tk.av),I x.1.time]),some (.arr 45 3 false (x.2.map Sg.av))] : Hp)) (fun (x:St×List Sg)=>Hid (Inv r x.1)∧x.2.length+2*cl 0 x.1.q≤1000000∧Hid (∃ n,cl 0 x.1.q≤n∧bZ r n x.1 x.2=(S2,M2))) (fun (x:St×List Sg)=>cl 0 x.1.q) ((⟨Q0,dx,tm⟩,[(⟨0,(k:Int),car⟩ : Sg)])) ⟨HI,hB,HN⟩
  ·(go_simp<;>exact rfl)
  ·go_simp
  rintro ⟨⟨Q,TK,t⟩,m⟩ ⟨bh,ij,HE⟩ K hK;simp only at bh ij HE hK ⊢;obtain ⟨n3,dM,cN⟩:=HE.out;by_cases bQ:di r ⟨Q,TK,t⟩ < 0
  ·have e:(⟨Q,TK,t⟩,m)=(S2,M2):=by
    cases n3 with
    | zero=>exact cN
    | succ n=>rw [bZ,if_pos bQ] at cN;exact cN
   clear hK cN HE dM ij;injection e with e1 e2
   subst e1;subst e2;generalize di r ⟨Q,TK,t⟩=R at *;have j7:¬0≤R:=by omega
   refine nU 10 6 rfl rfl ?_;repeat' with_reducible first|apply af|apply ae|apply bE|apply aw|apply bF|apply bG|apply aa|refine ah [] ?_|(apply aj;·go_simp)|(apply ab;intro X Y;go_simp;apply Y;clear Y X)
   go_simp
  ·obtain ⟨j,ej,hj,hp⟩:=kH bQ;have fy:j < Q.length:=by rw [bh.out.len];exact hj
   obtain ⟨f1,f2,f3⟩:=kG hp;obtain ⟨p1,p2,p3⟩:=HU.out.feedN hj f1;have cM:feedN r j < Q.length:=by rw [bh.out.len];exact p3
   have fQ:=pv HU.out bh.out.len fy f1 f2;have bJ:=bh.out.up HU.out fy f1 f2 f3;have j8:=uE r Q j (feedN r j) fy bh.out.len.symm p1 cM (by omega) f2 (by rw [bh.out.len];have:=HU.out.n6;omega) fun i jm=>by
    have h1:=bh.out.fit i jm;have h2:=HU.out.pl i (by rw [←bh.out.len];exact jm);simp only at h1;omega
   rw [rV fy cM (by omega)] at j8;have n7:=mI r (upS r ⟨Q,TK,t⟩ j) hn (by rw [bJ.len]) (by rw [bJ.len];exact HU.out.feed);have gp:∃ n,cl 0 (upS r ⟨Q,TK,t⟩ j).q≤n∧bZ r n (upS r ⟨Q,TK,t⟩ j) (m++upM Q j (feedN r j))=(S2,M2):=by
    cases n3 with
    | zero=>simp only at fQ dM;omega
    | succ n3=>
     rw [bZ,if_neg bQ,ej,Int.toNat_natCast] at cN;exact ⟨n3,by simp only at fQ dM;omega,cN⟩
   have HX:=Lib.hid gp;have lU:=Lib.hid bJ;have pa:m.length+(upM Q j (feedN r j)).length=m.length+2:=by simp [upM]
   have kK:(m++upM Q j (feedN r j)).length=m.length+2:=by simp [upM]
   have n8:(upM Q j (feedN r j)).length=2:=by simp [upM]
   have n_:m.length+2≤1000000000:=by omega
   clear cN HE gp bJ dM bQ bh f1 f2 f3 hp;unfold upS at *;simp only at *;generalize upQ Q j (feedN r j)=Q2 at *;have kY:(m++upM Q j (feedN r j)).map Sg.av=m.map Sg.av++(upM Q j (feedN r j)).map Sg.av:=List.map_append;generalize upM Q j (feedN r j)=U at *;rw [ej];repeat' with_reducible first|apply af|apply ae|apply ao|apply az|apply aY|apply aa|refine ah [] ?_|(apply au;·go_simp)|(apply ab;intro X Y;go_simp;(first|(refine ⟨_,j8,?_⟩)|(refine ⟨_,n7,?_⟩)|skip);apply Y;clear Y X)
   refine hK _ (⟨Q2,TK,t⟩,m++U) ⟨lU,by simp only;omega,HX⟩ (by simp only;omega) ?_;simp only [kY];go_simp
end Go.Proofs.YtoibondihdhnoaaGreatDoor
