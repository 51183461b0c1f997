/- Texts in one: Walks: an event is carried out, as the reference has it. Printed by genR39.py. -/
import Derived.Test.YtoibondihdhnoaaDoorFRX55
import Derived.Test.YtoibondihdhnoaaDoorFRX30
import Derived.Test.YtoibondihdhnoaaDoorFRX56
namespace Go.Proofs.YtoibondihdhnoaaDoor
open Go.RowKit
set_option maxRecDepth 100000
set_option maxHeartbeats 4000000
theorem a2u {q:List (List ByteArray)} {k:Nat} {l:List ByteArray} : ((d3_ q).map fun l=>[AV.sl 1 l]).set k [.sl 1 (l.map l1_)]=(d3_ (q.set k l)).map fun l=>[AV.sl 1 l]:=by
 rw [←i4_,List.map_set]
theorem a3m {c:ByteArray} (h:c8_ c=true) : c.size≤1000:=by
 unfold c8_ at h;simp only [Bool.and_eq_true,decide_eq_true_eq] at h;omega
theorem Inv.small {r:Ru} {s:St} (hr:RuOK r) (h:Inv r s) : SmallS s:=by
 have h6:=hr.n6;have hl:=h.len;have hfit:∀ l∈s.q,l.length≤300:=fun l hl2=>by
  obtain ⟨i,hi,rfl⟩:=List.getElem_of_mem hl2;have h1:=h.fit i hi;have h2:=hr.pl i (by omega);rw [f3_ hi] at h1;omega
 refine ⟨by omega,fun l hl2=>⟨hfit l hl2,fun c hc=>a3m (h.name c (List.mem_append_left _ (List.mem_flatten.2 ⟨l,hl2,hc⟩)))⟩,by have:=h.tkl;omega,fun t ht=>?_,?_⟩
 ·have h1:=h.tkr t ht;have h2:=h.tkt t ht;have h3:=h.t0;exact ⟨a3m (h.name _ (List.mem_append_right _ (List.mem_map.2 ⟨t,ht,rfl⟩))),⟨by omega,by omega⟩,⟨by omega,by omega⟩⟩
 ·have h3:=h.t0;exact ⟨by omega,by omega⟩
theorem d3p (r:Ru) (s S2:St) (tm:Int) (k:Nat) (car:ByteArray) (M2 SN:List Sg) (Q0:List (List ByteArray)) (TK0:List Tk) (hn:r.ranks.length≤1000000) (hr:RuOK r) (hsm:SmallS s) (hk:k < s.q.length) (hrl:r.ranks.length=s.q.length) (f:Nat) (hf:(rat r.ranks k).feeder=f) (hfl:f < s.q.length) (hne:f≠k) (hp:0 < (qat s.q f).length) (hqs:∀ i,i < s.q.length→(qat s.q i).length≤1000000) (hQ0:Q0=a1v s.q k f) (hTK:TK0=s.tk) (hSN:SN=upM s.q k f) (hI:Inv r ⟨Q0,TK0,tm⟩) (hB:SN.length+2*f7_ 0 Q0≤1000000) (hnn:∃ n,f7_ 0 Q0≤n∧n2_ r n ⟨Q0,TK0,tm⟩ SN=(S2,M2)) :
  VC Tryd.prog 46 [c4_ r,c9_ s,.agg [I 4,I tm,I (k:Int),S car]] (.tup [c9_ S2,.sl 3 (M2.map Sg.av)]):=by
 have gC:=a7g s hsm;have hne2:¬d3_ s.q=[]:=fun h=>by
  have:=q6_ s.q;rw [h] at this;simp at this;omega
 rw [decide_eq_false hne2] at gC;have HI:=Lib.hid hI;have HU:=Lib.hid hr;have HN:=Lib.hid hnn;have gm:=p4_ r ⟨Q0,TK0,tm⟩ hn hI.len.symm (by rw [hI.len];exact hr.feed);have hq300:(qat s.q k).length≤300:=by rw [f3_ hk];exact (hsm.q1 _ (List.getElem_mem hk)).1
 have ht300:=hsm.nt;clear hI hr hnn hsm hne2;generalize decide (s.tk.map Tk.av=[])=nT at *;have g4:=c1o r s.q k f hk hrl hf hfl hne hp (by have:=HU.out.n6;omega) hqs;rw [←hQ0,←hSN] at g4;clear hf hfl hne hp hqs hQ0 hSN;refine c0_ Tryd.func46 rfl (by kernel_rfl) (by kernel_rfl) rfl fun M0 w0=>?_;simp only [Tryd.ntmps46,Tryd.results46,b5_];repeat' with_reducible apply a9_
 refine a2_ [] ?_;repeat' first|(with_reducible first|apply a9_|apply a3_|apply a1_)|((with_reducible refine a0_ fun X Y=>?_);go_simp;refine Y _ ?_;clear Y X)
 refine c6_ (b9_ [] 1 ⟨rfl,rfl⟩ ?_);simp only [List.take,List.drop];repeat' first|with_reducible apply a1_|((with_reducible refine a0_ fun X Y=>?_);go_simp;refine Y _ ?_;clear Y X)
 refine e5_ [] [] [] [none,none,some (.arr 85 3 nT (s.tk.map Tk.av)),some (.bag 81 1 false none (d3_ s.q))] (.agg [.osl 3,.osl 2,I s.time]) rfl (by go_simp) ?_ ?_
 ·unfold j7_;go_simp;refine ⟨_,_,⟨_,gC⟩,?_⟩;go_simp;kernel_rfl
 go_simp;refine b9_ [] 2 ⟨rfl,rfl⟩ ?_;simp only [List.take,List.drop];repeat' first|with_reducible apply a1_|((with_reducible refine a0_ fun X Y=>?_);go_simp;refine Y _ ?_;clear Y X)
 apply e3_;repeat' with_reducible first|apply a9_|apply a3_
 refine a2_ [] ?_;repeat' first|(with_reducible first|apply a9_|apply a3_|apply a1_)|((with_reducible refine a0_ fun X Y=>?_);go_simp;refine Y _ ?_;clear Y X)
 refine a2_ [] ?_;repeat' first|(with_reducible first|apply a9_|apply a3_|apply a1_)|((with_reducible refine a0_ fun X Y=>?_);go_simp;refine Y _ ?_;clear Y X)
 refine a2_ [] ?_;repeat' first|(with_reducible first|apply a9_|apply a3_|apply a1_)|((with_reducible refine a0_ fun X Y=>?_);go_simp;refine Y _ ?_;clear Y X)
 refine u0_ (fun p a w R=>R.bagArr (id:=4) rfl (by kernel_rfl)) ?_;go_simp;refine d7_ 5 0 4 rfl rfl rfl ?_;refine d7_ 5 1 3 rfl rfl rfl ?_;go_simp;refine a2_ [] ?_;repeat' first|(with_reducible first|apply a9_|apply a3_|apply a8_|apply a1_)|((with_reducible refine a0_ fun X Y=>?_);go_simp;refine Y _ ?_;clear Y X)
 refine a2_ [] ?_;repeat' first|(with_reducible first|apply a9_|apply a3_|apply a1_)|((with_reducible refine a6_ ?_ ?_);(focus (go_simp;done)))|((with_reducible refine a0_ fun X Y=>?_);go_simp;refine Y _ ?_;clear Y X)
 refine a2_ [] ?_;repeat' first|(with_reducible first|apply a9_|apply a3_|apply a1_)|((with_reducible refine a6_ ?_ ?_);(focus (go_simp;done)))|((with_reducible refine a0_ fun X Y=>?_);go_simp;refine Y _ ?_;clear Y X)
 refine a2_ [] ?_;repeat' first|(with_reducible first|apply a9_|apply a3_|apply a1_)|((with_reducible refine a6_ ?_ ?_);(focus (go_simp;done)))|((with_reducible refine a0_ fun X Y=>?_);go_simp;refine Y _ ?_;clear Y X)
 refine a2_ [] ?_;repeat' first|(with_reducible first|apply a9_|apply a3_|apply a1_)|((with_reducible refine a6_ ?_ ?_);(focus (go_simp;done)))|((with_reducible refine a0_ fun X Y=>?_);go_simp;refine Y _ ?_;clear Y X)
 refine a2_ [] ?_;repeat' first|(with_reducible first|apply a3_|apply a1_)|((with_reducible refine a7_ ?_ ?_);(focus (go_simp;done)))|((with_reducible refine a0_ fun X Y=>?_);go_simp;refine Y _ ?_;clear Y X)
 refine c6_ (b9_ [] 5 ⟨rfl,rfl⟩ ?_);simp only [List.take,List.drop];repeat' first|with_reducible apply a1_|((with_reducible refine a0_ fun X Y=>?_);go_simp;refine Y _ ?_;clear Y X)
 refine e5_ [] [] [] [none,some (.arr 60 3 false (SN.map Sg.av))] (.tup [g8_ Q0,.osl 1]) rfl (by go_simp) ?_ ?_
 ·unfold j7_;go_simp;refine ⟨_,_,⟨_,g4⟩,?_⟩;go_simp;kernel_rfl
 go_simp;refine b9_ [] 6 ⟨rfl,rfl⟩ ?_;simp only [List.take,List.drop];repeat' first|with_reducible apply a1_|((with_reducible refine a0_ fun X Y=>?_);go_simp;refine Y _ ?_;clear Y X)
 apply e3_;subst hTK;repeat' first|(with_reducible first|apply a9_|apply a3_|apply b0_|apply a8_|apply b1_|apply a1_|refine a2_ [] ?_)|((with_reducible refine a6_ ?_ ?_);(focus (go_simp;done)))|((with_reducible refine a0_ fun X Y=>?_);go_simp;(first|(refine ⟨_,gm,?_⟩)|skip);refine Y _ ?_;clear Y X)
 apply a0c (α:=St×List Sg) [3,6,8] (fun (x:St×List Sg)=>[(10,.osl 7),(14,I (f9_ r x.1))]) (fun (x:St×List Sg)=>([some (.box [f0_,f0_,I 0]),none,none,none,none,some (.box [g8_ x.1.q,.sl 3 (x.1.tk.map Tk.av),I x.1.time]),none,some (.arr 60 3 false (x.2.map Sg.av))] : Hp)) (fun (x:St×List Sg)=>Hid (Inv r x.1)∧x.2.length+2*f7_ 0 x.1.q≤1000000∧Hid (∃ n,f7_ 0 x.1.q≤n∧n2_ r n x.1 x.2=(S2,M2))) (fun (x:St×List Sg)=>f7_ 0 x.1.q) ((⟨Q0,s.tk,tm⟩,SN)) ⟨HI,hB,HN⟩
 ·(go_simp<;>exact rfl)
 ·go_simp
 rintro ⟨⟨Q,TK,t⟩,m⟩ ⟨HI2,hmb,HE⟩ K hK;simp only at HI2 hmb HE hK ⊢;obtain ⟨n3,hn3,hn4⟩:=HE.out;by_cases hneg:f9_ r ⟨Q,TK,t⟩ < 0
 ·have e:(⟨Q,TK,t⟩,m)=(S2,M2):=by
   cases n3 with
   | zero=>exact hn4
   | succ n=>rw [n2_,if_pos hneg] at hn4;exact hn4
  clear hK hn4 HE hn3 hmb;injection e with e1 e2
  subst e1;subst e2;generalize f9_ r ⟨Q,TK,t⟩=R at *;have hneg2:¬0≤R:=by omega
  refine x4_ 10 7 rfl rfl ?_;repeat' first|(with_reducible first|apply a9_|apply a3_|apply b8_|apply c5_|apply d4_|apply b7_|apply a1_|refine a2_ [] ?_)|((with_reducible refine a6_ ?_ ?_);(focus (go_simp;done)))|((with_reducible refine a0_ fun X Y=>?_);go_simp;refine Y _ ?_;clear Y X)
  go_simp
 ·obtain ⟨j,ej,hj,hp⟩:=l7_ hneg;have hjq:j < Q.length:=by rw [HI2.out.len];exact hj
  obtain ⟨f1,f2,f3⟩:=j1_ hp;obtain ⟨p1,p2,p3⟩:=HU.out.feedN hj f1;have hfl:feedN r j < Q.length:=by rw [HI2.out.len];exact p3
  have hup:=r5_ HU.out HI2.out.len hjq f1 f2;have hi2:=HI2.out.up HU.out hjq f1 f2 f3;have gmv:=a3k r Q j (feedN r j) hjq HI2.out.len.symm p1 hfl (by omega) f2 (by rw [HI2.out.len];have:=HU.out.n6;omega) fun i hiq=>by
   have h1:=HI2.out.fit i hiq;have h2:=HU.out.pl i (by rw [←HI2.out.len];exact hiq);simp only at h1;omega
  rw [s0_ hjq hfl (by omega)] at gmv;have gm2:=p4_ r (upS r ⟨Q,TK,t⟩ j) hn (by rw [hi2.len]) (by rw [hi2.len];exact HU.out.feed);have hnx:∃ n,f7_ 0 (upS r ⟨Q,TK,t⟩ j).q≤n∧n2_ r n (upS r ⟨Q,TK,t⟩ j) (m++upM Q j (feedN r j))=(S2,M2):=by
   cases n3 with
   | zero=>simp only at hup hn3;omega
   | succ n3=>
    rw [n2_,if_neg hneg,ej,Int.toNat_natCast] at hn4;exact ⟨n3,by simp only at hup hn3;omega,hn4⟩
  have HX:=Lib.hid hnx;have HI3:=Lib.hid hi2;have hml:m.length+(upM Q j (feedN r j)).length=m.length+2:=by simp [upM]
  have hml2:(m++upM Q j (feedN r j)).length=m.length+2:=by simp [upM]
  have hml3:(upM Q j (feedN r j)).length=2:=by simp [upM]
  have hml4:m.length+2≤1000000000:=by omega
  clear hn4 HE hnx hi2 hn3 hneg HI2 f1 f2 f3 hp;unfold upS at *;simp only at *;generalize upQ Q j (feedN r j)=Q2 at *;have hum:(m++upM Q j (feedN r j)).map Sg.av=m.map Sg.av++(upM Q j (feedN r j)).map Sg.av:=List.map_append;generalize upM Q j (feedN r j)=U at *;rw [ej];repeat' first|(with_reducible first|apply a9_|apply a3_|apply b0_|apply a8_|apply b1_|apply a1_|refine a2_ [] ?_)|((with_reducible refine a7_ ?_ ?_);(focus (go_simp;done)))|((with_reducible refine a0_ fun X Y=>?_);go_simp;(first|(with_reducible refine ⟨_,gmv,?_⟩)|(with_reducible refine ⟨_,gm2,?_⟩)|skip);refine Y _ ?_;clear Y X)
  refine hK _ (⟨Q2,TK,t⟩,m++U) ⟨HI3,by simp only;omega,HX⟩ (by simp only;omega) ?_;simp only [hum];go_simp
theorem d3q (r:Ru) (s S2:St) (tm:Int) (k:Nat) (car:ByteArray) (M2:List Sg) (Q0:List (List ByteArray)) (TK0:List Tk) (hn:r.ranks.length≤1000000) (hr:RuOK r) (hsm:SmallS s) (hk:k < s.q.length) (_hrl:r.ranks.length=s.q.length) (hQ0:Q0=s.q.set k (qat s.q k++[car])) (hTK:TK0=woK s.tk car) (hI:Inv r ⟨Q0,TK0,tm⟩) (hB : [(⟨0,(k:Int),car⟩ : Sg)].length+2*f7_ 0 Q0≤1000000) (hnn:∃ n,f7_ 0 Q0≤n∧n2_ r n ⟨Q0,TK0,tm⟩ [(⟨0,(k:Int),car⟩ : Sg)]=(S2,M2)) :
  VC Tryd.prog 46 [c4_ r,c9_ s,.agg [I 0,I tm,I (k:Int),S car]] (.tup [c9_ S2,.sl 3 (M2.map Sg.av)]):=by
 have gC:=a7g s hsm;have hne:¬d3_ s.q=[]:=fun h=>by
  have:=q6_ s.q;rw [h] at this;simp at this;omega
 rw [decide_eq_false hne] at gC;have HI:=Lib.hid hI;have HU:=Lib.hid hr;have HN:=Lib.hid hnn;have gm:=p4_ r ⟨Q0,TK0,tm⟩ hn hI.len.symm (by rw [hI.len];exact hr.feed);have hq300:(qat s.q k).length≤300:=by rw [f3_ hk];exact (hsm.q1 _ (List.getElem_mem hk)).1
 have ht300:=hsm.nt;clear hI hr hnn hsm hne;generalize decide (s.tk.map Tk.av=[])=nT at *;have g1:=b1g s.tk car (by omega);have hb1:(qat s.q k).length+1≤1000000000:=by omega
 have hrow:(d3_ Q0).map (fun l=>[AV.sl 1 l])=((d3_ s.q).set k ((qat s.q k).map l1_++[[S car]])).map fun l=>[AV.sl 1 l]:=by
  rw [hQ0,a1e,i4_]
 have HR:=Lib.hid hrow;rw [←hTK] at g1;clear hQ0 hrow hTK;refine c0_ Tryd.func46 rfl (by kernel_rfl) (by kernel_rfl) rfl fun M0 w0=>?_;simp only [Tryd.ntmps46,Tryd.results46,b5_];repeat' with_reducible apply a9_
 refine a2_ [] ?_;repeat' first|(with_reducible first|apply a9_|apply a3_|apply a1_)|((with_reducible refine a0_ fun X Y=>?_);go_simp;refine Y _ ?_;clear Y X)
 refine c6_ (b9_ [] 1 ⟨rfl,rfl⟩ ?_);simp only [List.take,List.drop];repeat' first|with_reducible apply a1_|((with_reducible refine a0_ fun X Y=>?_);go_simp;refine Y _ ?_;clear Y X)
 refine e5_ [] [] [] [none,none,some (.arr 85 3 nT (s.tk.map Tk.av)),some (.bag 81 1 false none (d3_ s.q))] (.agg [.osl 3,.osl 2,I s.time]) rfl (by go_simp) ?_ ?_
 ·unfold j7_;go_simp;refine ⟨_,_,⟨_,gC⟩,?_⟩;go_simp;kernel_rfl
 go_simp;refine b9_ [] 2 ⟨rfl,rfl⟩ ?_;simp only [List.take,List.drop];repeat' first|with_reducible apply a1_|((with_reducible refine a0_ fun X Y=>?_);go_simp;refine Y _ ?_;clear Y X)
 apply e3_;repeat' with_reducible first|apply a9_|apply a3_
 refine a2_ [] ?_;repeat' first|(with_reducible first|apply a9_|apply a3_|apply a1_)|((with_reducible refine a0_ fun X Y=>?_);go_simp;refine Y _ ?_;clear Y X)
 refine a2_ [] ?_;repeat' first|(with_reducible first|apply a9_|apply a3_|apply a1_)|((with_reducible refine a0_ fun X Y=>?_);go_simp;refine Y _ ?_;clear Y X)
 refine a2_ [10] ?_;repeat' first|(with_reducible first|apply a9_|apply a3_|apply a1_)|((with_reducible refine a0_ fun X Y=>?_);go_simp;refine Y _ ?_;clear Y X)
 refine a2_ [] ?_;repeat ((with_reducible refine a0_ fun X Y=>?_);go_simp;refine Y _ ?_;clear Y X)
 apply a1_;apply a3_;refine a3a ⟨[(3,.vp [.sl 4 (r.ranks.map Rk.av),I r.back,I r.ret]),(5,.vp [I 0,I tm,I (k:Int),S car]),(6,.ref 0 0),(8,.ref 5 0),(10,.osl 6)],[some (.box [f0_,f0_,I 0]),none,none,none,some (.arr 81 1 false ((d3_ Q0).map fun l=>[AV.sl 1 l])),some (.box [.osl 4,.sl 3 (TK0.map Tk.av),I tm]),some (.arr 60 3 true [])]⟩ (fun K hK=>?_) ?_
 ·clear gm HN HI hB;refine d7_ 5 1 3 rfl rfl rfl ?_;repeat' with_reducible first|apply a9_|apply a8_
  refine a2_ [] ?_;repeat' first|(with_reducible first|apply a9_|apply a3_|apply a1_)|((with_reducible refine a7_ ?_ ?_);(focus (go_simp;done)))|((with_reducible refine a0_ fun X Y=>?_);go_simp;refine Y _ ?_;clear Y X)
  refine x7_ 8 [8,31,31,32,5,33,33,34] (by kernel_rfl) (by kernel_rfl) (by kernel_rfl) (unW 4) (s5_ 4) rfl ⟨rfl,rfl⟩ ?_;simp only [List.take];repeat' first|with_reducible apply a5_|((with_reducible refine a4_ fun X Y=>?_);go_simp;refine Y _ ?_;clear Y X)
  refine ⟨_,_,a6n (id:=4) (k:=k) (es:=(qat s.q k).map l1_) (c:=S car) (by exact rfl) (by exact rfl) (by go_simp) (by go_simp) c8r ti9 (by exact rfl) (by go_simp),?_,?_,?_⟩
  ·simp only [List.forall_mem_cons];go_simp
  ·repeat' first|with_reducible apply a5_|((with_reducible refine a4_ fun X Y=>?_);go_simp;refine Y _ ?_;clear Y X)
   simp only [List.forall_mem_cons];go_simp
  go_simp;refine b9_ [] 2 ⟨rfl,rfl⟩ ?_;simp only [List.take,List.drop];repeat' first|with_reducible apply a1_|((with_reducible refine a0_ fun X Y=>?_);go_simp;refine Y _ ?_;clear Y X)
  apply e3_;repeat' with_reducible apply a3_
  refine u0_ (fun p a w R=>R.bagArr (id:=4) rfl (by kernel_rfl)) ?_;go_simp;refine a2_ [] ?_;repeat' first|(with_reducible first|apply a3_|apply b1_|apply a1_)|((with_reducible refine a0_ fun X Y=>?_);go_simp;(first|(with_reducible refine ⟨_,g1,?_⟩)|skip);refine Y _ ?_;clear Y X)
  rw [HR.out] at hK;refine hK _ ?_;go_simp
 ·refine d7_ 5 0 4 rfl rfl rfl ?_;repeat' first|(with_reducible first|apply a9_|apply a3_|apply b0_|apply a8_|apply a1_|refine a2_ [] ?_)|((with_reducible refine a7_ ?_ ?_);(focus (go_simp;done)))|((with_reducible refine a6_ ?_ ?_);(focus (go_simp;done)))|((with_reducible refine a0_ fun X Y=>?_);go_simp;(first|(refine ⟨_,gm,?_⟩)|skip);refine Y _ ?_;clear Y X)
  apply a0c (α:=St×List Sg) [3,6,8] (fun (x:St×List Sg)=>[(10,.osl 6),(14,I (f9_ r x.1))]) (fun (x:St×List Sg)=>([some (.box [f0_,f0_,I 0]),none,none,none,none,some (.box [g8_ x.1.q,.sl 3 (x.1.tk.map Tk.av),I x.1.time]),some (.arr 60 3 false (x.2.map Sg.av))] : Hp)) (fun (x:St×List Sg)=>Hid (Inv r x.1)∧x.2.length+2*f7_ 0 x.1.q≤1000000∧Hid (∃ n,f7_ 0 x.1.q≤n∧n2_ r n x.1 x.2=(S2,M2))) (fun (x:St×List Sg)=>f7_ 0 x.1.q) ((⟨Q0,TK0,tm⟩,[(⟨0,(k:Int),car⟩ : Sg)])) ⟨HI,hB,HN⟩
  ·(go_simp<;>exact rfl)
  ·go_simp
  rintro ⟨⟨Q,TK,t⟩,m⟩ ⟨HI2,hmb,HE⟩ K hK;simp only at HI2 hmb HE hK ⊢;obtain ⟨n3,hn3,hn4⟩:=HE.out;by_cases hneg:f9_ r ⟨Q,TK,t⟩ < 0
  ·have e:(⟨Q,TK,t⟩,m)=(S2,M2):=by
    cases n3 with
    | zero=>exact hn4
    | succ n=>rw [n2_,if_pos hneg] at hn4;exact hn4
   clear hK hn4 HE hn3 hmb;injection e with e1 e2
   subst e1;subst e2;generalize f9_ r ⟨Q,TK,t⟩=R at *;have hneg2:¬0≤R:=by omega
   refine x4_ 10 6 rfl rfl ?_;repeat' first|(with_reducible first|apply a9_|apply a3_|apply b8_|apply c5_|apply d4_|apply b7_|apply a1_|refine a2_ [] ?_)|((with_reducible refine a6_ ?_ ?_);(focus (go_simp;done)))|((with_reducible refine a0_ fun X Y=>?_);go_simp;refine Y _ ?_;clear Y X)
   go_simp
  ·obtain ⟨j,ej,hj,hp⟩:=l7_ hneg;have hjq:j < Q.length:=by rw [HI2.out.len];exact hj
   obtain ⟨f1,f2,f3⟩:=j1_ hp;obtain ⟨p1,p2,p3⟩:=HU.out.feedN hj f1;have hfl:feedN r j < Q.length:=by rw [HI2.out.len];exact p3
   have hup:=r5_ HU.out HI2.out.len hjq f1 f2;have hi2:=HI2.out.up HU.out hjq f1 f2 f3;have gmv:=a3k r Q j (feedN r j) hjq HI2.out.len.symm p1 hfl (by omega) f2 (by rw [HI2.out.len];have:=HU.out.n6;omega) fun i hiq=>by
    have h1:=HI2.out.fit i hiq;have h2:=HU.out.pl i (by rw [←HI2.out.len];exact hiq);simp only at h1;omega
   rw [s0_ hjq hfl (by omega)] at gmv;have gm2:=p4_ r (upS r ⟨Q,TK,t⟩ j) hn (by rw [hi2.len]) (by rw [hi2.len];exact HU.out.feed);have hnx:∃ n,f7_ 0 (upS r ⟨Q,TK,t⟩ j).q≤n∧n2_ r n (upS r ⟨Q,TK,t⟩ j) (m++upM Q j (feedN r j))=(S2,M2):=by
    cases n3 with
    | zero=>simp only at hup hn3;omega
    | succ n3=>
     rw [n2_,if_neg hneg,ej,Int.toNat_natCast] at hn4;exact ⟨n3,by simp only at hup hn3;omega,hn4⟩
   have HX:=Lib.hid hnx;have HI3:=Lib.hid hi2;have hml:m.length+(upM Q j (feedN r j)).length=m.length+2:=by simp [upM]
   have hml2:(m++upM Q j (feedN r j)).length=m.length+2:=by simp [upM]
   have hml3:(upM Q j (feedN r j)).length=2:=by simp [upM]
   have hml4:m.length+2≤1000000000:=by omega
   clear hn4 HE hnx hi2 hn3 hneg HI2 f1 f2 f3 hp;unfold upS at *;simp only at *;generalize upQ Q j (feedN r j)=Q2 at *;have hum:(m++upM Q j (feedN r j)).map Sg.av=m.map Sg.av++(upM Q j (feedN r j)).map Sg.av:=List.map_append;generalize upM Q j (feedN r j)=U at *;rw [ej];repeat' first|(with_reducible first|apply a9_|apply a3_|apply b0_|apply a8_|apply b1_|apply a1_|refine a2_ [] ?_)|((with_reducible refine a7_ ?_ ?_);(focus (go_simp;done)))|((with_reducible refine a0_ fun X Y=>?_);go_simp;(first|(with_reducible refine ⟨_,gmv,?_⟩)|(with_reducible refine ⟨_,gm2,?_⟩)|skip);refine Y _ ?_;clear Y X)
   refine hK _ (⟨Q2,TK,t⟩,m++U) ⟨HI3,by simp only;omega,HX⟩ (by simp only;omega) ?_;simp only [hum];go_simp
theorem d3r (r:Ru) (s S2:St) (tm:Int) (k:Nat) (car:ByteArray) (M2:List Sg) (Q0:List (List ByteArray)) (TK0:List Tk) (hn:r.ranks.length≤1000000) (hr:RuOK r) (hsm:SmallS s) (hk:k < s.q.length) (_hrl:r.ranks.length=s.q.length) (hQ0:Q0=s.q.set k (woT (qat s.q k) car)) (hTK:TK0=s.tk++[⟨car,(k:Int),tm⟩]) (hI:Inv r ⟨Q0,TK0,tm⟩) (hB : [(⟨1,(k:Int),car⟩ : Sg)].length+2*f7_ 0 Q0≤1000000) (hnn:∃ n,f7_ 0 Q0≤n∧n2_ r n ⟨Q0,TK0,tm⟩ [(⟨1,(k:Int),car⟩ : Sg)]=(S2,M2)) :
  VC Tryd.prog 46 [c4_ r,c9_ s,.agg [I 1,I tm,I (k:Int),S car]] (.tup [c9_ S2,.sl 3 (M2.map Sg.av)]):=by
 have gC:=a7g s hsm;have hne:¬d3_ s.q=[]:=fun h=>by
  have:=q6_ s.q;rw [h] at this;simp at this;omega
 rw [decide_eq_false hne] at gC;have HI:=Lib.hid hI;have HU:=Lib.hid hr;have HN:=Lib.hid hnn;have gm:=p4_ r ⟨Q0,TK0,tm⟩ hn hI.len.symm (by rw [hI.len];exact hr.feed);have hq300:(qat s.q k).length≤300:=by rw [f3_ hk];exact (hsm.q1 _ (List.getElem_mem hk)).1
 have ht300:=hsm.nt;clear hI hr hnn hsm hne;generalize decide (s.tk.map Tk.av=[])=nT at *;have g1:=a5v (qat s.q k) car (by omega);have hb1:s.tk.length+1≤1000000000:=by omega
 have hrow:(d3_ Q0).map (fun l=>[AV.sl 1 l])=((d3_ s.q).map fun l=>[AV.sl 1 l]).set k [.sl 1 ((woT (qat s.q k) car).map l1_)]:=by
  rw [hQ0,a2u]
 have HR:=Lib.hid hrow;have HT:Hid (TK0.map Tk.av=s.tk.map Tk.av++[[S car,I (k:Int),I tm]]):=Lib.hid (by rw [hTK];simp [Tk.av]);clear hQ0 hrow hTK;refine c0_ Tryd.func46 rfl (by kernel_rfl) (by kernel_rfl) rfl fun M0 w0=>?_;simp only [Tryd.ntmps46,Tryd.results46,b5_];repeat' with_reducible apply a9_
 refine a2_ [] ?_;repeat' first|(with_reducible first|apply a9_|apply a3_|apply a1_)|((with_reducible refine a0_ fun X Y=>?_);go_simp;refine Y _ ?_;clear Y X)
 refine c6_ (b9_ [] 1 ⟨rfl,rfl⟩ ?_);simp only [List.take,List.drop];repeat' first|with_reducible apply a1_|((with_reducible refine a0_ fun X Y=>?_);go_simp;refine Y _ ?_;clear Y X)
 refine e5_ [] [] [] [none,none,some (.arr 85 3 nT (s.tk.map Tk.av)),some (.bag 81 1 false none (d3_ s.q))] (.agg [.osl 3,.osl 2,I s.time]) rfl (by go_simp) ?_ ?_
 ·unfold j7_;go_simp;refine ⟨_,_,⟨_,gC⟩,?_⟩;go_simp;kernel_rfl
 go_simp;refine b9_ [] 2 ⟨rfl,rfl⟩ ?_;simp only [List.take,List.drop];repeat' first|with_reducible apply a1_|((with_reducible refine a0_ fun X Y=>?_);go_simp;refine Y _ ?_;clear Y X)
 apply e3_;repeat' with_reducible first|apply a9_|apply a3_
 refine a2_ [] ?_;repeat' first|(with_reducible first|apply a9_|apply a3_|apply a1_)|((with_reducible refine a0_ fun X Y=>?_);go_simp;refine Y _ ?_;clear Y X)
 refine a2_ [] ?_;repeat' first|(with_reducible first|apply a9_|apply a3_|apply a1_)|((with_reducible refine a0_ fun X Y=>?_);go_simp;refine Y _ ?_;clear Y X)
 refine a2_ [10] ?_;repeat' first|(with_reducible first|apply a9_|apply a3_|apply a1_)|((with_reducible refine a0_ fun X Y=>?_);go_simp;refine Y _ ?_;clear Y X)
 refine a2_ [] ?_;repeat ((with_reducible refine a0_ fun X Y=>?_);go_simp;refine Y _ ?_;clear Y X)
 apply a1_;apply a3_;refine a3a ⟨[(3,.vp [.sl 4 (r.ranks.map Rk.av),I r.back,I r.ret]),(5,.vp [I 1,I tm,I (k:Int),S car]),(6,.ref 0 0),(8,.ref 5 0),(10,.osl 6)],[some (.box [f0_,f0_,I 0]),none,none,none,some (.arr 81 1 false ((d3_ Q0).map fun l=>[AV.sl 1 l])),some (.box [.osl 4,.sl 3 (TK0.map Tk.av),I tm]),some (.arr 60 3 true [])]⟩ (fun K hK=>?_) ?_
 ·clear gm HN HI hB;refine u0_ (fun p a w R=>R.bagArr (id:=4) rfl (by kernel_rfl)) ?_;go_simp;repeat' with_reducible first|apply a9_|apply a8_
  refine a2_ [] ?_;repeat' first|(with_reducible first|apply a9_|apply a3_|apply a1_)|((with_reducible refine a6_ ?_ ?_);(focus (go_simp;done)))|((with_reducible refine a0_ fun X Y=>?_);go_simp;refine Y _ ?_;clear Y X)
  refine a2_ [] ?_;repeat' first|(with_reducible first|apply a9_|apply a3_|apply a1_)|((with_reducible refine a7_ ?_ ?_);(focus (go_simp;done)))|((with_reducible refine a0_ fun X Y=>?_);go_simp;refine Y _ ?_;clear Y X)
  refine b6_ 10 8 [] rfl (by kernel_rfl) (by kernel_rfl) ?_;simp only [List.take,List.drop];repeat' first|(with_reducible first|apply a3_|apply a1_|apply a5_)|((with_reducible first|refine a0_ fun X Y=>?_|refine a4_ fun X Y=>?_);go_simp;(first|(with_reducible refine ⟨_,g1,?_⟩)|skip);refine Y _ ?_;clear Y X)
  refine c2v [] 11 ⟨rfl,rfl⟩ ?_;simp only [List.take,List.drop];repeat' first|with_reducible apply a1_|((with_reducible refine a0_ fun X Y=>?_);go_simp;refine Y _ ?_;clear Y X)
  refine ⟨_,fun p a w R=>⟨_,R.freeze (t:=68) (id:=3) rfl rfl⟩,?_⟩;go_simp;repeat' first|(with_reducible first|apply a3_|apply b1_|apply a1_)|((with_reducible refine a0_ fun X Y=>?_);go_simp;refine Y _ ?_;clear Y X)
  rw [HR.out,HT.out] at hK;refine hK _ ?_;go_simp
 ·refine d7_ 5 0 4 rfl rfl rfl ?_;repeat' first|(with_reducible first|apply a9_|apply a3_|apply b0_|apply a8_|apply a1_|refine a2_ [] ?_)|((with_reducible refine a7_ ?_ ?_);(focus (go_simp;done)))|((with_reducible refine a6_ ?_ ?_);(focus (go_simp;done)))|((with_reducible refine a0_ fun X Y=>?_);go_simp;(first|(refine ⟨_,gm,?_⟩)|skip);refine Y _ ?_;clear Y X)
  apply a0c (α:=St×List Sg) [3,6,8] (fun (x:St×List Sg)=>[(10,.osl 6),(14,I (f9_ r x.1))]) (fun (x:St×List Sg)=>([some (.box [f0_,f0_,I 0]),none,none,none,none,some (.box [g8_ x.1.q,.sl 3 (x.1.tk.map Tk.av),I x.1.time]),some (.arr 60 3 false (x.2.map Sg.av))] : Hp)) (fun (x:St×List Sg)=>Hid (Inv r x.1)∧x.2.length+2*f7_ 0 x.1.q≤1000000∧Hid (∃ n,f7_ 0 x.1.q≤n∧n2_ r n x.1 x.2=(S2,M2))) (fun (x:St×List Sg)=>f7_ 0 x.1.q) ((⟨Q0,TK0,tm⟩,[(⟨1,(k:Int),car⟩ : Sg)])) ⟨HI,hB,HN⟩
  ·(go_simp<;>exact rfl)
  ·go_simp
  rintro ⟨⟨Q,TK,t⟩,m⟩ ⟨HI2,hmb,HE⟩ K hK;simp only at HI2 hmb HE hK ⊢;obtain ⟨n3,hn3,hn4⟩:=HE.out;by_cases hneg:f9_ r ⟨Q,TK,t⟩ < 0
  ·have e:(⟨Q,TK,t⟩,m)=(S2,M2):=by
    cases n3 with
    | zero=>exact hn4
    | succ n=>rw [n2_,if_pos hneg] at hn4;exact hn4
   clear hK hn4 HE hn3 hmb;injection e with e1 e2
   subst e1;subst e2;generalize f9_ r ⟨Q,TK,t⟩=R at *;have hneg2:¬0≤R:=by omega
   refine x4_ 10 6 rfl rfl ?_;repeat' first|(with_reducible first|apply a9_|apply a3_|apply b8_|apply c5_|apply d4_|apply b7_|apply a1_|refine a2_ [] ?_)|((with_reducible refine a6_ ?_ ?_);(focus (go_simp;done)))|((with_reducible refine a0_ fun X Y=>?_);go_simp;refine Y _ ?_;clear Y X)
   go_simp
  ·obtain ⟨j,ej,hj,hp⟩:=l7_ hneg;have hjq:j < Q.length:=by rw [HI2.out.len];exact hj
   obtain ⟨f1,f2,f3⟩:=j1_ hp;obtain ⟨p1,p2,p3⟩:=HU.out.feedN hj f1;have hfl:feedN r j < Q.length:=by rw [HI2.out.len];exact p3
   have hup:=r5_ HU.out HI2.out.len hjq f1 f2;have hi2:=HI2.out.up HU.out hjq f1 f2 f3;have gmv:=a3k r Q j (feedN r j) hjq HI2.out.len.symm p1 hfl (by omega) f2 (by rw [HI2.out.len];have:=HU.out.n6;omega) fun i hiq=>by
    have h1:=HI2.out.fit i hiq;have h2:=HU.out.pl i (by rw [←HI2.out.len];exact hiq);simp only at h1;omega
   rw [s0_ hjq hfl (by omega)] at gmv;have gm2:=p4_ r (upS r ⟨Q,TK,t⟩ j) hn (by rw [hi2.len]) (by rw [hi2.len];exact HU.out.feed);have hnx:∃ n,f7_ 0 (upS r ⟨Q,TK,t⟩ j).q≤n∧n2_ r n (upS r ⟨Q,TK,t⟩ j) (m++upM Q j (feedN r j))=(S2,M2):=by
    cases n3 with
    | zero=>simp only at hup hn3;omega
    | succ n3=>
     rw [n2_,if_neg hneg,ej,Int.toNat_natCast] at hn4;exact ⟨n3,by simp only at hup hn3;omega,hn4⟩
   have HX:=Lib.hid hnx;have HI3:=Lib.hid hi2;have hml:m.length+(upM Q j (feedN r j)).length=m.length+2:=by simp [upM]
   have hml2:(m++upM Q j (feedN r j)).length=m.length+2:=by simp [upM]
   have hml3:(upM Q j (feedN r j)).length=2:=by simp [upM]
   have hml4:m.length+2≤1000000000:=by omega
   clear hn4 HE hnx hi2 hn3 hneg HI2 f1 f2 f3 hp;unfold upS at *;simp only at *;generalize upQ Q j (feedN r j)=Q2 at *;have hum:(m++upM Q j (feedN r j)).map Sg.av=m.map Sg.av++(upM Q j (feedN r j)).map Sg.av:=List.map_append;generalize upM Q j (feedN r j)=U at *;rw [ej];repeat' first|(with_reducible first|apply a9_|apply a3_|apply b0_|apply a8_|apply b1_|apply a1_|refine a2_ [] ?_)|((with_reducible refine a7_ ?_ ?_);(focus (go_simp;done)))|((with_reducible refine a0_ fun X Y=>?_);go_simp;(first|(with_reducible refine ⟨_,gmv,?_⟩)|(with_reducible refine ⟨_,gm2,?_⟩)|skip);refine Y _ ?_;clear Y X)
   refine hK _ (⟨Q2,TK,t⟩,m++U) ⟨HI3,by simp only;omega,HX⟩ (by simp only;omega) ?_;simp only [hum];go_simp
theorem d3s (r:Ru) (s S2:St) (tm:Int) (k:Nat) (car:ByteArray) (M2:List Sg) (Q0:List (List ByteArray)) (TK0:List Tk) (hn:r.ranks.length≤1000000) (hr:RuOK r) (hsm:SmallS s) (hk:k < s.q.length) (_hrl:r.ranks.length=s.q.length) (hQ0:Q0=s.q.set k (woT (qat s.q k) car)) (hTK:TK0=s.tk) (hI:Inv r ⟨Q0,TK0,tm⟩) (hB : [(⟨3,(k:Int),car⟩ : Sg)].length+2*f7_ 0 Q0≤1000000) (hnn:∃ n,f7_ 0 Q0≤n∧n2_ r n ⟨Q0,TK0,tm⟩ [(⟨3,(k:Int),car⟩ : Sg)]=(S2,M2)) :
  VC Tryd.prog 46 [c4_ r,c9_ s,.agg [I 3,I tm,I (k:Int),S car]] (.tup [c9_ S2,.sl 3 (M2.map Sg.av)]):=by
 have gC:=a7g s hsm;have hne:¬d3_ s.q=[]:=fun h=>by
  have:=q6_ s.q;rw [h] at this;simp at this;omega
 rw [decide_eq_false hne] at gC;have HI:=Lib.hid hI;have HU:=Lib.hid hr;have HN:=Lib.hid hnn;have gm:=p4_ r ⟨Q0,TK0,tm⟩ hn hI.len.symm (by rw [hI.len];exact hr.feed);have hq300:(qat s.q k).length≤300:=by rw [f3_ hk];exact (hsm.q1 _ (List.getElem_mem hk)).1
 have ht300:=hsm.nt;clear hI hr hnn hsm hne;generalize decide (s.tk.map Tk.av=[])=nT at *;have g1:=a5v (qat s.q k) car (by omega);have hb1:s.tk.length+1≤1000000000:=by omega
 have hrow:(d3_ Q0).map (fun l=>[AV.sl 1 l])=((d3_ s.q).map fun l=>[AV.sl 1 l]).set k [.sl 1 ((woT (qat s.q k) car).map l1_)]:=by
  rw [hQ0,a2u]
 have HR:=Lib.hid hrow;have HT:Hid (TK0.map Tk.av=s.tk.map Tk.av):=Lib.hid (by rw [hTK]);clear hQ0 hrow hTK;refine c0_ Tryd.func46 rfl (by kernel_rfl) (by kernel_rfl) rfl fun M0 w0=>?_;simp only [Tryd.ntmps46,Tryd.results46,b5_];repeat' with_reducible apply a9_
 refine a2_ [] ?_;repeat' first|(with_reducible first|apply a9_|apply a3_|apply a1_)|((with_reducible refine a0_ fun X Y=>?_);go_simp;refine Y _ ?_;clear Y X)
 refine c6_ (b9_ [] 1 ⟨rfl,rfl⟩ ?_);simp only [List.take,List.drop];repeat' first|with_reducible apply a1_|((with_reducible refine a0_ fun X Y=>?_);go_simp;refine Y _ ?_;clear Y X)
 refine e5_ [] [] [] [none,none,some (.arr 85 3 nT (s.tk.map Tk.av)),some (.bag 81 1 false none (d3_ s.q))] (.agg [.osl 3,.osl 2,I s.time]) rfl (by go_simp) ?_ ?_
 ·unfold j7_;go_simp;refine ⟨_,_,⟨_,gC⟩,?_⟩;go_simp;kernel_rfl
 go_simp;refine b9_ [] 2 ⟨rfl,rfl⟩ ?_;simp only [List.take,List.drop];repeat' first|with_reducible apply a1_|((with_reducible refine a0_ fun X Y=>?_);go_simp;refine Y _ ?_;clear Y X)
 apply e3_;repeat' with_reducible first|apply a9_|apply a3_
 refine a2_ [] ?_;repeat' first|(with_reducible first|apply a9_|apply a3_|apply a1_)|((with_reducible refine a0_ fun X Y=>?_);go_simp;refine Y _ ?_;clear Y X)
 refine a2_ [] ?_;repeat' first|(with_reducible first|apply a9_|apply a3_|apply a1_)|((with_reducible refine a0_ fun X Y=>?_);go_simp;refine Y _ ?_;clear Y X)
 refine a2_ [10] ?_;repeat' first|(with_reducible first|apply a9_|apply a3_|apply a1_)|((with_reducible refine a0_ fun X Y=>?_);go_simp;refine Y _ ?_;clear Y X)
 refine a2_ [] ?_;repeat ((with_reducible refine a0_ fun X Y=>?_);go_simp;refine Y _ ?_;clear Y X)
 apply a1_;apply a3_;refine a3a ⟨[(3,.vp [.sl 4 (r.ranks.map Rk.av),I r.back,I r.ret]),(5,.vp [I 3,I tm,I (k:Int),S car]),(6,.ref 0 0),(8,.ref 5 0),(10,.osl 6)],[some (.box [f0_,f0_,I 0]),none,none,none,some (.arr 81 1 false ((d3_ Q0).map fun l=>[AV.sl 1 l])),some (.box [.osl 4,.sl 3 (TK0.map Tk.av),I tm]),some (.arr 60 3 true [])]⟩ (fun K hK=>?_) ?_
 ·clear gm HN HI hB;refine u0_ (fun p a w R=>R.bagArr (id:=4) rfl (by kernel_rfl)) ?_;go_simp;refine d7_ 5 1 3 rfl rfl rfl ?_;repeat' first|(with_reducible first|apply a9_|apply a3_|apply a8_|apply b1_|apply a1_|refine a2_ [] ?_|apply a5_)|((with_reducible refine a7_ ?_ ?_);(focus (go_simp;done)))|((with_reducible refine a6_ ?_ ?_);(focus (go_simp;done)))|((with_reducible first|refine a0_ fun X Y=>?_|refine a4_ fun X Y=>?_);go_simp;(first|(with_reducible refine ⟨_,g1,?_⟩)|skip);refine Y _ ?_;clear Y X)|((refine b6_ 10 9 [] rfl (by kernel_rfl) (by kernel_rfl) ?_);simp only [List.take,List.drop])
  rw [HR.out,HT.out] at hK;refine hK _ ?_;go_simp
 ·refine d7_ 5 0 4 rfl rfl rfl ?_;repeat' first|(with_reducible first|apply a9_|apply a3_|apply b0_|apply a8_|apply a1_|refine a2_ [] ?_)|((with_reducible refine a7_ ?_ ?_);(focus (go_simp;done)))|((with_reducible refine a6_ ?_ ?_);(focus (go_simp;done)))|((with_reducible refine a0_ fun X Y=>?_);go_simp;(first|(refine ⟨_,gm,?_⟩)|skip);refine Y _ ?_;clear Y X)
  apply a0c (α:=St×List Sg) [3,6,8] (fun (x:St×List Sg)=>[(10,.osl 6),(14,I (f9_ r x.1))]) (fun (x:St×List Sg)=>([some (.box [f0_,f0_,I 0]),none,none,none,none,some (.box [g8_ x.1.q,.sl 3 (x.1.tk.map Tk.av),I x.1.time]),some (.arr 60 3 false (x.2.map Sg.av))] : Hp)) (fun (x:St×List Sg)=>Hid (Inv r x.1)∧x.2.length+2*f7_ 0 x.1.q≤1000000∧Hid (∃ n,f7_ 0 x.1.q≤n∧n2_ r n x.1 x.2=(S2,M2))) (fun (x:St×List Sg)=>f7_ 0 x.1.q) ((⟨Q0,TK0,tm⟩,[(⟨3,(k:Int),car⟩ : Sg)])) ⟨HI,hB,HN⟩
  ·(go_simp<;>exact rfl)
  ·go_simp
  rintro ⟨⟨Q,TK,t⟩,m⟩ ⟨HI2,hmb,HE⟩ K hK;simp only at HI2 hmb HE hK ⊢;obtain ⟨n3,hn3,hn4⟩:=HE.out;by_cases hneg:f9_ r ⟨Q,TK,t⟩ < 0
  ·have e:(⟨Q,TK,t⟩,m)=(S2,M2):=by
    cases n3 with
    | zero=>exact hn4
    | succ n=>rw [n2_,if_pos hneg] at hn4;exact hn4
   clear hK hn4 HE hn3 hmb;injection e with e1 e2
   subst e1;subst e2;generalize f9_ r ⟨Q,TK,t⟩=R at *;have hneg2:¬0≤R:=by omega
   refine x4_ 10 6 rfl rfl ?_;repeat' first|(with_reducible first|apply a9_|apply a3_|apply b8_|apply c5_|apply d4_|apply b7_|apply a1_|refine a2_ [] ?_)|((with_reducible refine a6_ ?_ ?_);(focus (go_simp;done)))|((with_reducible refine a0_ fun X Y=>?_);go_simp;refine Y _ ?_;clear Y X)
   go_simp
  ·obtain ⟨j,ej,hj,hp⟩:=l7_ hneg;have hjq:j < Q.length:=by rw [HI2.out.len];exact hj
   obtain ⟨f1,f2,f3⟩:=j1_ hp;obtain ⟨p1,p2,p3⟩:=HU.out.feedN hj f1;have hfl:feedN r j < Q.length:=by rw [HI2.out.len];exact p3
   have hup:=r5_ HU.out HI2.out.len hjq f1 f2;have hi2:=HI2.out.up HU.out hjq f1 f2 f3;have gmv:=a3k r Q j (feedN r j) hjq HI2.out.len.symm p1 hfl (by omega) f2 (by rw [HI2.out.len];have:=HU.out.n6;omega) fun i hiq=>by
    have h1:=HI2.out.fit i hiq;have h2:=HU.out.pl i (by rw [←HI2.out.len];exact hiq);simp only at h1;omega
   rw [s0_ hjq hfl (by omega)] at gmv;have gm2:=p4_ r (upS r ⟨Q,TK,t⟩ j) hn (by rw [hi2.len]) (by rw [hi2.len];exact HU.out.feed);have hnx:∃ n,f7_ 0 (upS r ⟨Q,TK,t⟩ j).q≤n∧n2_ r n (upS r ⟨Q,TK,t⟩ j) (m++upM Q j (feedN r j))=(S2,M2):=by
    cases n3 with
    | zero=>simp only at hup hn3;omega
    | succ n3=>
     rw [n2_,if_neg hneg,ej,Int.toNat_natCast] at hn4;exact ⟨n3,by simp only at hup hn3;omega,hn4⟩
   have HX:=Lib.hid hnx;have HI3:=Lib.hid hi2;have hml:m.length+(upM Q j (feedN r j)).length=m.length+2:=by simp [upM]
   have hml2:(m++upM Q j (feedN r j)).length=m.length+2:=by simp [upM]
   have hml3:(upM Q j (feedN r j)).length=2:=by simp [upM]
   have hml4:m.length+2≤1000000000:=by omega
   clear hn4 HE hnx hi2 hn3 hneg HI2 f1 f2 f3 hp;unfold upS at *;simp only at *;generalize upQ Q j (feedN r j)=Q2 at *;have hum:(m++upM Q j (feedN r j)).map Sg.av=m.map Sg.av++(upM Q j (feedN r j)).map Sg.av:=List.map_append;generalize upM Q j (feedN r j)=U at *;rw [ej];repeat' first|(with_reducible first|apply a9_|apply a3_|apply b0_|apply a8_|apply b1_|apply a1_|refine a2_ [] ?_)|((with_reducible refine a7_ ?_ ?_);(focus (go_simp;done)))|((with_reducible refine a0_ fun X Y=>?_);go_simp;(first|(with_reducible refine ⟨_,gmv,?_⟩)|(with_reducible refine ⟨_,gm2,?_⟩)|skip);refine Y _ ?_;clear Y X)
   refine hK _ (⟨Q2,TK,t⟩,m++U) ⟨HI3,by simp only;omega,HX⟩ (by simp only;omega) ?_;simp only [hum];go_simp
theorem d3t (r:Ru) (s S2:St) (tm:Int) (k:Nat) (car:ByteArray) (M2:List Sg) (Q0:List (List ByteArray)) (TK0:List Tk) (hn:r.ranks.length≤1000000) (hr:RuOK r) (hsm:SmallS s) (hk:k < s.q.length) (_hrl:r.ranks.length=s.q.length) (b:Nat) (hbb:b=b5y r (woT (qat s.q k) car).length) (hbk:r.back = -1∨0≤r.back∧r.back≤12) (hQ0:Q0=s.q.set k ((woT (qat s.q k) car).take b++[car]++(woT (qat s.q k) car).drop b)) (hTK:TK0=s.tk) (hI:Inv r ⟨Q0,TK0,tm⟩) (hB : [(⟨2,(k:Int),car⟩ : Sg)].length+2*f7_ 0 Q0≤1000000) (hnn:∃ n,f7_ 0 Q0≤n∧n2_ r n ⟨Q0,TK0,tm⟩ [(⟨2,(k:Int),car⟩ : Sg)]=(S2,M2)) :
  VC Tryd.prog 46 [c4_ r,c9_ s,.agg [I 2,I tm,I (k:Int),S car]] (.tup [c9_ S2,.sl 3 (M2.map Sg.av)]):=by
 have gC:=a7g s hsm;have hne:¬d3_ s.q=[]:=fun h=>by
  have:=q6_ s.q;rw [h] at this;simp at this;omega
 rw [decide_eq_false hne] at gC;have HI:=Lib.hid hI;have HU:=Lib.hid hr;have HN:=Lib.hid hnn;have gm:=p4_ r ⟨Q0,TK0,tm⟩ hn hI.len.symm (by rw [hI.len];exact hr.feed);have hq300:(qat s.q k).length≤300:=by rw [f3_ hk];exact (hsm.q1 _ (List.getElem_mem hk)).1
 have ht300:=hsm.nt;clear hI hr hnn hsm hne;generalize decide (s.tk.map Tk.av=[])=nT at *;have g1:=a5v (qat s.q k) car (by omega);have hwl:(woT (qat s.q k) car).length≤300:=Nat.le_trans (List.length_filter_le _ _) hq300;have hrow:(d3_ Q0).map (fun l=>[AV.sl 1 l])=((d3_ s.q).map fun l=>[AV.sl 1 l]).set k [.sl 1 (((woT (qat s.q k) car).map l1_).take b++[[S car]]++((woT (qat s.q k) car).map l1_).drop b)]:=by
  rw [hQ0,←a2u,List.map_append,List.map_append,List.map_take,List.map_drop];rfl
 have hb0:b≤(woT (qat s.q k) car).length∧(r.back = -1∨r.back > (woT (qat s.q k) car).length→b=(woT (qat s.q k) car).length)∧(¬(r.back = -1∨r.back > (woT (qat s.q k) car).length)→r.back=b):=by
  rw [hbb];unfold b5y;by_cases h:r.back = -1∨r.back > (woT (qat s.q k) car).length
  ·rw [if_pos h];exact ⟨Nat.le_refl _,fun _=>rfl,fun hh=>absurd h hh⟩
  ·rw [if_neg h];exact ⟨by omega,fun hh=>absurd hh h,fun _=>by omega⟩
 generalize woT (qat s.q k) car=W at *;have g2:=x0_ (W.take b) (by rw [List.length_take];omega);unfold a3n at g2;rw [List.map_take] at g2;have HR:=Lib.hid hrow;have HT:Hid (TK0.map Tk.av=s.tk.map Tk.av):=Lib.hid (by rw [hTK]);obtain ⟨hb1,hb2,hb3⟩:=hb0;have hc3:b+1≤1000000000:=by omega
 have hc4:(b:Int)≤W.length:=by omega
 have hc5:b+1+(W.length - b)≤1000000000:=by omega
 have hmn:min b W.length=b:=by omega
 clear hQ0 hrow hbb hTK;refine c0_ Tryd.func46 rfl (by kernel_rfl) (by kernel_rfl) rfl fun M0 w0=>?_;simp only [Tryd.ntmps46,Tryd.results46,b5_];repeat' with_reducible apply a9_
 refine a2_ [] ?_;repeat' first|(with_reducible first|apply a9_|apply a3_|apply a1_)|((with_reducible refine a0_ fun X Y=>?_);go_simp;refine Y _ ?_;clear Y X)
 refine c6_ (b9_ [] 1 ⟨rfl,rfl⟩ ?_);simp only [List.take,List.drop];repeat' first|with_reducible apply a1_|((with_reducible refine a0_ fun X Y=>?_);go_simp;refine Y _ ?_;clear Y X)
 refine e5_ [] [] [] [none,none,some (.arr 85 3 nT (s.tk.map Tk.av)),some (.bag 81 1 false none (d3_ s.q))] (.agg [.osl 3,.osl 2,I s.time]) rfl (by go_simp) ?_ ?_
 ·unfold j7_;go_simp;refine ⟨_,_,⟨_,gC⟩,?_⟩;go_simp;kernel_rfl
 go_simp;refine b9_ [] 2 ⟨rfl,rfl⟩ ?_;simp only [List.take,List.drop];repeat' first|with_reducible apply a1_|((with_reducible refine a0_ fun X Y=>?_);go_simp;refine Y _ ?_;clear Y X)
 apply e3_;repeat' with_reducible first|apply a9_|apply a3_
 refine a2_ [] ?_;repeat' first|(with_reducible first|apply a9_|apply a3_|apply a1_)|((with_reducible refine a0_ fun X Y=>?_);go_simp;refine Y _ ?_;clear Y X)
 refine a2_ [] ?_;repeat' first|(with_reducible first|apply a9_|apply a3_|apply a1_)|((with_reducible refine a0_ fun X Y=>?_);go_simp;refine Y _ ?_;clear Y X)
 refine a2_ [10] ?_;repeat' first|(with_reducible first|apply a9_|apply a3_|apply a1_)|((with_reducible refine a0_ fun X Y=>?_);go_simp;refine Y _ ?_;clear Y X)
 refine a2_ [] ?_;repeat ((with_reducible refine a0_ fun X Y=>?_);go_simp;refine Y _ ?_;clear Y X)
 apply a1_;apply a3_;refine a3a ⟨[(3,.vp [.sl 4 (r.ranks.map Rk.av),I r.back,I r.ret]),(5,.vp [I 2,I tm,I (k:Int),S car]),(6,.ref 0 0),(8,.ref 5 0),(10,.osl 6)],[some (.box [f0_,f0_,I 0]),none,none,none,some (.arr 81 1 false ((d3_ Q0).map fun l=>[AV.sl 1 l])),some (.box [.osl 4,.sl 3 (TK0.map Tk.av),I tm]),some (.arr 60 3 true [])]⟩ (fun K hK=>?_) ?_
 ·clear gm HN HI hB;refine u0_ (fun p a w R=>R.bagArr (id:=4) rfl (by kernel_rfl)) ?_;go_simp;refine d7_ 5 1 3 rfl rfl rfl ?_;rw [HT.out] at hK;by_cases hx:r.back = -1∨r.back > W.length
  ·have hWL:W.length=b:=(hb2 hx).symm;have htk:List.take b (W.map l1_)=W.map l1_:=List.take_of_length_le (by simp [hWL]);have hdr:List.drop b (W.map l1_)=[]:=List.drop_eq_nil_of_le (by simp [hWL]);have hr2:=HR.out;rw [htk] at g2;rw [htk,hdr,List.append_nil] at hr2;have HR:=Lib.hid hr2;clear hb1 hb2 hb3 hbk hc4 hc5 hmn hr2;rw [hWL] at hx;by_cases hx1:r.back = -1
   ·clear hx;repeat' with_reducible first|apply a9_|apply a8_
    refine a2_ [] ?_;repeat' first|(with_reducible first|apply a9_|apply a3_|apply a1_)|((with_reducible refine a6_ ?_ ?_);(focus (go_simp;done)))|((with_reducible refine a0_ fun X Y=>?_);go_simp;refine Y _ ?_;clear Y X)
    refine a2_ [] ?_;repeat' first|(with_reducible first|apply a9_|apply a3_|apply a1_)|((with_reducible refine a6_ ?_ ?_);(focus (go_simp;done)))|((with_reducible refine a0_ fun X Y=>?_);go_simp;refine Y _ ?_;clear Y X)
    refine a2_ [] ?_;repeat' first|(with_reducible first|apply a9_|apply a3_|apply a1_)|((with_reducible refine a7_ ?_ ?_);(focus (go_simp;done)))|((with_reducible refine a0_ fun X Y=>?_);go_simp;refine Y _ ?_;clear Y X)
    refine a2_ [] ?_;repeat' first|(with_reducible first|apply a9_|apply a3_|apply a1_)|((with_reducible refine a0_ fun X Y=>?_);go_simp;(first|(with_reducible refine ⟨_,g1,?_⟩)|skip);refine Y _ ?_;clear Y X)
    refine a2_ [] ?_;repeat' first|(with_reducible first|apply a9_|apply a3_|apply a1_)|((with_reducible refine a0_ fun X Y=>?_);go_simp;refine Y _ ?_;clear Y X)
    refine a2_ [] ?_;repeat' first|(with_reducible first|apply a3_|apply a1_)|((with_reducible refine a7_ ?_ ?_);(focus (go_simp;done)))|((with_reducible refine a0_ fun X Y=>?_);go_simp;refine Y _ ?_;clear Y X)
    refine a2_ [] ?_;repeat' first|(with_reducible first|apply a3_|apply a1_)|((with_reducible refine a0_ fun X Y=>?_);go_simp;refine Y _ ?_;clear Y X)
    refine b3a 16 [95] (fun i=>i == 7 || i == 11 || i == 15) (by kernel_rfl) (by kernel_rfl) (by kernel_rfl) (by go_simp) (by go_simp) ?_;simp only [List.take,List.drop];repeat ((with_reducible refine k2_ rfl fun X Y=>?_);go_simp;refine Y _ (by go_simp) ?_;clear Y X)
    refine h6_ [some (.arr 9 1 false (W.map l1_))] none (.osl 7) rfl ⟨rfl,fun _=>rfl,fun _ h=>by cases h⟩ ?_ ?_
    ·intro s2 hs2;have q1:lkp s2 94 = .sl 1 (W.map l1_):=(hs2 94 (by simp [Op.operands,Call.operands]) (by go_simp)).trans (by go_simp);clear hs2;go_simp;exact ⟨_,_,_,g2,rfl,rfl,rfl⟩
    repeat ((with_reducible refine k2_ rfl fun X Y=>?_);go_simp;refine Y _ (by go_simp) ?_;clear Y X)
    refine h6_ [some (.arr 9 1 false (W.map l1_++[[S car]]))] (some 7) (.osl 7) rfl ⟨rfl,fun h=>(by cases h),fun _ h=>(by cases h;exact Nat.le_refl _)⟩ ?_ ?_
    ·intro s2 hs2;have q1:lkp s2 95 = .osl 7:=(hs2 95 (by simp [Op.operands,Call.operands]) (by go_simp)).trans (by go_simp);have q2:lkp s2 98 = .sl 1 [[S car]]:=(hs2 98 (by simp [Op.operands,Call.operands]) (by go_simp)).trans (by go_simp);clear hs2;go_simp
    repeat ((with_reducible refine k2_ rfl fun X Y=>?_);go_simp;refine Y _ (by go_simp) ?_;clear Y X)
    refine a0s [none] (some 7) (.sl 1 (W.map l1_++[[S car]])) rfl ⟨rfl,(fun h=>by cases h),fun _ h=>by cases h;exact Nat.le_refl _⟩ rfl ?_ ?_
    ·intro s2 hs2;have q1:lkp s2 99 = .osl 7:=(hs2 99 (by simp [Op.operands,Call.operands]) (by go_simp)).trans (by go_simp);have q2:lkp s2 102 = .sl 1 ([]):=(hs2 102 (by simp [Op.operands,Call.operands]) (by go_simp)).trans (by go_simp);clear hs2;go_simp;exact a0t (id:=7) rfl rfl
    repeat (first|(with_reducible first|apply a3_|apply b1_|apply a1_)|((with_reducible refine a0_ fun X Y=>?_);go_simp;refine Y _ ?_;clear Y X)|((with_reducible refine a0a ?_);simp only [List.nil_append,a2q,z7_,if_true]))
    skip
    rw [HR.out] at hK;refine hK _ ?_;go_simp
   ·have hx2:(b:Int) < r.back:=by omega
    clear hx;repeat' with_reducible first|apply a9_|apply a8_
    refine a2_ [] ?_;repeat' first|(with_reducible first|apply a9_|apply a3_|apply a1_)|((with_reducible refine a6_ ?_ ?_);(focus (go_simp;done)))|((with_reducible refine a0_ fun X Y=>?_);go_simp;refine Y _ ?_;clear Y X)
    refine a2_ [] ?_;repeat' first|(with_reducible first|apply a9_|apply a3_|apply a1_)|((with_reducible refine a6_ ?_ ?_);(focus (go_simp;done)))|((with_reducible refine a0_ fun X Y=>?_);go_simp;refine Y _ ?_;clear Y X)
    refine a2_ [] ?_;repeat' first|(with_reducible first|apply a9_|apply a3_|apply a1_)|((with_reducible refine a7_ ?_ ?_);(focus (go_simp;done)))|((with_reducible refine a0_ fun X Y=>?_);go_simp;refine Y _ ?_;clear Y X)
    refine a2_ [] ?_;repeat' first|(with_reducible first|apply a9_|apply a3_|apply a1_)|((with_reducible refine a0_ fun X Y=>?_);go_simp;(first|(with_reducible refine ⟨_,g1,?_⟩)|skip);refine Y _ ?_;clear Y X)
    refine a2_ [] ?_;repeat' first|(with_reducible first|apply a9_|apply a3_|apply a1_)|((with_reducible refine a0_ fun X Y=>?_);go_simp;refine Y _ ?_;clear Y X)
    refine a2_ [] ?_;repeat' first|(with_reducible first|apply a3_|apply a1_)|((with_reducible refine a7_ ?_ ?_);(focus (go_simp;done)))|((with_reducible refine a0_ fun X Y=>?_);go_simp;refine Y _ ?_;clear Y X)
    refine a2_ [] ?_;repeat' first|(with_reducible first|apply a3_|apply a1_)|((with_reducible refine a0_ fun X Y=>?_);go_simp;refine Y _ ?_;clear Y X)
    refine b3a 16 [95] (fun i=>i == 7 || i == 11 || i == 15) (by kernel_rfl) (by kernel_rfl) (by kernel_rfl) (by go_simp) (by go_simp) ?_;simp only [List.take,List.drop];repeat ((with_reducible refine k2_ rfl fun X Y=>?_);go_simp;refine Y _ (by go_simp) ?_;clear Y X)
    refine h6_ [some (.arr 9 1 false (W.map l1_))] none (.osl 7) rfl ⟨rfl,fun _=>rfl,fun _ h=>by cases h⟩ ?_ ?_
    ·intro s2 hs2;have q1:lkp s2 94 = .sl 1 (W.map l1_):=(hs2 94 (by simp [Op.operands,Call.operands]) (by go_simp)).trans (by go_simp);clear hs2;go_simp;exact ⟨_,_,_,g2,rfl,rfl,rfl⟩
    repeat ((with_reducible refine k2_ rfl fun X Y=>?_);go_simp;refine Y _ (by go_simp) ?_;clear Y X)
    refine h6_ [some (.arr 9 1 false (W.map l1_++[[S car]]))] (some 7) (.osl 7) rfl ⟨rfl,fun h=>(by cases h),fun _ h=>(by cases h;exact Nat.le_refl _)⟩ ?_ ?_
    ·intro s2 hs2;have q1:lkp s2 95 = .osl 7:=(hs2 95 (by simp [Op.operands,Call.operands]) (by go_simp)).trans (by go_simp);have q2:lkp s2 98 = .sl 1 [[S car]]:=(hs2 98 (by simp [Op.operands,Call.operands]) (by go_simp)).trans (by go_simp);clear hs2;go_simp
    repeat ((with_reducible refine k2_ rfl fun X Y=>?_);go_simp;refine Y _ (by go_simp) ?_;clear Y X)
    refine a0s [none] (some 7) (.sl 1 (W.map l1_++[[S car]])) rfl ⟨rfl,(fun h=>by cases h),fun _ h=>by cases h;exact Nat.le_refl _⟩ rfl ?_ ?_
    ·intro s2 hs2;have q1:lkp s2 99 = .osl 7:=(hs2 99 (by simp [Op.operands,Call.operands]) (by go_simp)).trans (by go_simp);have q2:lkp s2 102 = .sl 1 ([]):=(hs2 102 (by simp [Op.operands,Call.operands]) (by go_simp)).trans (by go_simp);clear hs2;go_simp;exact a0t (id:=7) rfl rfl
    repeat (first|(with_reducible first|apply a3_|apply b1_|apply a1_)|((with_reducible refine a0_ fun X Y=>?_);go_simp;refine Y _ ?_;clear Y X)|((with_reducible refine a0a ?_);simp only [List.nil_append,a2q,z7_,if_true]))
    skip
    rw [HR.out] at hK;refine hK _ ?_;go_simp
  ·have hWL:r.back=b:=hb3 hx;have hx1:¬(b:Int) = -1:=by omega
   have hx2:¬(W.length:Int) < b:=by omega
   have htk:List.take W.length (W.map l1_)=W.map l1_:=List.take_of_length_le (by simp);clear hx hb2 hb3 hbk;repeat' with_reducible first|apply a9_|apply a8_
   refine a2_ [] ?_;repeat' first|(with_reducible first|apply a9_|apply a3_|apply a1_)|((with_reducible refine a6_ ?_ ?_);(focus (go_simp;done)))|((with_reducible refine a0_ fun X Y=>?_);go_simp;refine Y _ ?_;clear Y X)
   refine a2_ [] ?_;repeat' first|(with_reducible first|apply a9_|apply a3_|apply a1_)|((with_reducible refine a6_ ?_ ?_);(focus (go_simp;done)))|((with_reducible refine a0_ fun X Y=>?_);go_simp;refine Y _ ?_;clear Y X)
   refine a2_ [] ?_;repeat' first|(with_reducible first|apply a9_|apply a3_|apply a1_)|((with_reducible refine a7_ ?_ ?_);(focus (go_simp;done)))|((with_reducible refine a0_ fun X Y=>?_);go_simp;refine Y _ ?_;clear Y X)
   refine a2_ [] ?_;repeat' first|(with_reducible first|apply a9_|apply a3_|apply a1_)|((with_reducible refine a0_ fun X Y=>?_);go_simp;(first|(with_reducible refine ⟨_,g1,?_⟩)|skip);refine Y _ ?_;clear Y X)
   refine a2_ [] ?_;repeat' first|(with_reducible first|apply a9_|apply a3_|apply a1_)|((with_reducible refine a0_ fun X Y=>?_);go_simp;refine Y _ ?_;clear Y X)
   refine a2_ [] ?_;repeat' first|(with_reducible first|apply a3_|apply b0_|apply a1_)|((with_reducible refine a6_ ?_ ?_);(focus (go_simp;done)))|((with_reducible refine a0_ fun X Y=>?_);go_simp;refine Y _ ?_;clear Y X)
   refine b3a 16 [95] (fun i=>i == 7 || i == 11 || i == 15) (by kernel_rfl) (by kernel_rfl) (by kernel_rfl) (by go_simp) (by go_simp) ?_;simp only [List.take,List.drop];repeat ((with_reducible refine k2_ rfl fun X Y=>?_);go_simp;refine Y _ (by go_simp) ?_;clear Y X)
   refine h6_ [some (.arr 9 1 false ((W.map l1_).take b))] none (.osl 7) rfl ⟨rfl,fun _=>rfl,fun _ h=>by cases h⟩ ?_ ?_
   ·intro s2 hs2;have q1:lkp s2 94 = .sl 1 ((W.map l1_).take b):=(hs2 94 (by simp [Op.operands,Call.operands]) (by go_simp)).trans (by go_simp);clear hs2;go_simp;exact ⟨_,_,_,g2,rfl,rfl,rfl⟩
   repeat ((with_reducible refine k2_ rfl fun X Y=>?_);go_simp;refine Y _ (by go_simp) ?_;clear Y X)
   refine h6_ [some (.arr 9 1 false ((W.map l1_).take b++[[S car]]))] (some 7) (.osl 7) rfl ⟨rfl,fun h=>(by cases h),fun _ h=>(by cases h;exact Nat.le_refl _)⟩ ?_ ?_
   ·intro s2 hs2;have q1:lkp s2 95 = .osl 7:=(hs2 95 (by simp [Op.operands,Call.operands]) (by go_simp)).trans (by go_simp);have q2:lkp s2 98 = .sl 1 [[S car]]:=(hs2 98 (by simp [Op.operands,Call.operands]) (by go_simp)).trans (by go_simp);clear hs2;go_simp
   repeat ((with_reducible refine k2_ rfl fun X Y=>?_);go_simp;refine Y _ (by go_simp) ?_;clear Y X)
   refine a0s [none] (some 7) (.sl 1 ((W.map l1_).take b++[[S car]]++(W.map l1_).drop b)) rfl ⟨rfl,(fun h=>by cases h),fun _ h=>by cases h;exact Nat.le_refl _⟩ rfl ?_ ?_
   ·intro s2 hs2;have q1:lkp s2 99 = .osl 7:=(hs2 99 (by simp [Op.operands,Call.operands]) (by go_simp)).trans (by go_simp);have q2:lkp s2 102 = .sl 1 ((W.map l1_).drop b):=(hs2 102 (by simp [Op.operands,Call.operands]) (by go_simp)).trans (by go_simp);clear hs2;go_simp;exact a0t (id:=7) rfl rfl
   repeat (first|(with_reducible first|apply a3_|apply b1_|apply a1_)|((with_reducible refine a0_ fun X Y=>?_);go_simp;refine Y _ ?_;clear Y X)|((with_reducible refine a0a ?_);simp only [List.nil_append,a2q,z7_,if_true]))
   skip
   rw [HR.out] at hK;refine hK _ ?_;go_simp
 ·refine d7_ 5 0 4 rfl rfl rfl ?_;repeat' first|(with_reducible first|apply a9_|apply a3_|apply b0_|apply a8_|apply a1_|refine a2_ [] ?_)|((with_reducible refine a7_ ?_ ?_);(focus (go_simp;done)))|((with_reducible refine a6_ ?_ ?_);(focus (go_simp;done)))|((with_reducible refine a0_ fun X Y=>?_);go_simp;(first|(refine ⟨_,gm,?_⟩)|skip);refine Y _ ?_;clear Y X)
  apply a0c (α:=St×List Sg) [3,6,8] (fun (x:St×List Sg)=>[(10,.osl 6),(14,I (f9_ r x.1))]) (fun (x:St×List Sg)=>([some (.box [f0_,f0_,I 0]),none,none,none,none,some (.box [g8_ x.1.q,.sl 3 (x.1.tk.map Tk.av),I x.1.time]),some (.arr 60 3 false (x.2.map Sg.av))] : Hp)) (fun (x:St×List Sg)=>Hid (Inv r x.1)∧x.2.length+2*f7_ 0 x.1.q≤1000000∧Hid (∃ n,f7_ 0 x.1.q≤n∧n2_ r n x.1 x.2=(S2,M2))) (fun (x:St×List Sg)=>f7_ 0 x.1.q) ((⟨Q0,TK0,tm⟩,[(⟨2,(k:Int),car⟩ : Sg)])) ⟨HI,hB,HN⟩
  ·(go_simp<;>exact rfl)
  ·go_simp
  rintro ⟨⟨Q,TK,t⟩,m⟩ ⟨HI2,hmb,HE⟩ K hK;simp only at HI2 hmb HE hK ⊢;obtain ⟨n3,hn3,hn4⟩:=HE.out;by_cases hneg:f9_ r ⟨Q,TK,t⟩ < 0
  ·have e:(⟨Q,TK,t⟩,m)=(S2,M2):=by
    cases n3 with
    | zero=>exact hn4
    | succ n=>rw [n2_,if_pos hneg] at hn4;exact hn4
   clear hK hn4 HE hn3 hmb;injection e with e1 e2
   subst e1;subst e2;generalize f9_ r ⟨Q,TK,t⟩=R at *;have hneg2:¬0≤R:=by omega
   refine x4_ 10 6 rfl rfl ?_;repeat' first|(with_reducible first|apply a9_|apply a3_|apply b8_|apply c5_|apply d4_|apply b7_|apply a1_|refine a2_ [] ?_)|((with_reducible refine a6_ ?_ ?_);(focus (go_simp;done)))|((with_reducible refine a0_ fun X Y=>?_);go_simp;refine Y _ ?_;clear Y X)
   go_simp
  ·obtain ⟨j,ej,hj,hp⟩:=l7_ hneg;have hjq:j < Q.length:=by rw [HI2.out.len];exact hj
   obtain ⟨f1,f2,f3⟩:=j1_ hp;obtain ⟨p1,p2,p3⟩:=HU.out.feedN hj f1;have hfl:feedN r j < Q.length:=by rw [HI2.out.len];exact p3
   have hup:=r5_ HU.out HI2.out.len hjq f1 f2;have hi2:=HI2.out.up HU.out hjq f1 f2 f3;have gmv:=a3k r Q j (feedN r j) hjq HI2.out.len.symm p1 hfl (by omega) f2 (by rw [HI2.out.len];have:=HU.out.n6;omega) fun i hiq=>by
    have h1:=HI2.out.fit i hiq;have h2:=HU.out.pl i (by rw [←HI2.out.len];exact hiq);simp only at h1;omega
   rw [s0_ hjq hfl (by omega)] at gmv;have gm2:=p4_ r (upS r ⟨Q,TK,t⟩ j) hn (by rw [hi2.len]) (by rw [hi2.len];exact HU.out.feed);have hnx:∃ n,f7_ 0 (upS r ⟨Q,TK,t⟩ j).q≤n∧n2_ r n (upS r ⟨Q,TK,t⟩ j) (m++upM Q j (feedN r j))=(S2,M2):=by
    cases n3 with
    | zero=>simp only at hup hn3;omega
    | succ n3=>
     rw [n2_,if_neg hneg,ej,Int.toNat_natCast] at hn4;exact ⟨n3,by simp only at hup hn3;omega,hn4⟩
   have HX:=Lib.hid hnx;have HI3:=Lib.hid hi2;have hml:m.length+(upM Q j (feedN r j)).length=m.length+2:=by simp [upM]
   have hml2:(m++upM Q j (feedN r j)).length=m.length+2:=by simp [upM]
   have hml3:(upM Q j (feedN r j)).length=2:=by simp [upM]
   have hml4:m.length+2≤1000000000:=by omega
   clear hn4 HE hnx hi2 hn3 hneg HI2 f1 f2 f3 hp;unfold upS at *;simp only at *;generalize upQ Q j (feedN r j)=Q2 at *;have hum:(m++upM Q j (feedN r j)).map Sg.av=m.map Sg.av++(upM Q j (feedN r j)).map Sg.av:=List.map_append;generalize upM Q j (feedN r j)=U at *;rw [ej];repeat' first|(with_reducible first|apply a9_|apply a3_|apply b0_|apply a8_|apply b1_|apply a1_|refine a2_ [] ?_)|((with_reducible refine a7_ ?_ ?_);(focus (go_simp;done)))|((with_reducible refine a0_ fun X Y=>?_);go_simp;(first|(with_reducible refine ⟨_,gmv,?_⟩)|(with_reducible refine ⟨_,gm2,?_⟩)|skip);refine Y _ ?_;clear Y X)
   refine hK _ (⟨Q2,TK,t⟩,m++U) ⟨HI3,by simp only;omega,HX⟩ (by simp only;omega) ?_;simp only [hum];go_simp
theorem d3u (r:Ru) (s S2:St) (tm:Int) (k:Nat) (car:ByteArray) (M2:List Sg) (Q0:List (List ByteArray)) (TK0:List Tk) (hn:r.ranks.length≤1000000) (hr:RuOK r) (hsm:SmallS s) (hk:k < s.q.length) (_hrl:r.ranks.length=s.q.length) (hQ0:Q0=s.q.set k ([car]++qat s.q k)) (hTK:TK0=woK s.tk car) (hI:Inv r ⟨Q0,TK0,tm⟩) (hB : [(⟨0,(k:Int),car⟩ : Sg)].length+2*f7_ 0 Q0≤1000000) (hnn:∃ n,f7_ 0 Q0≤n∧n2_ r n ⟨Q0,TK0,tm⟩ [(⟨0,(k:Int),car⟩ : Sg)]=(S2,M2)) :
  VC Tryd.prog 46 [c4_ r,c9_ s,.agg [I 5,I tm,I (k:Int),S car]] (.tup [c9_ S2,.sl 3 (M2.map Sg.av)]):=by
 have gC:=a7g s hsm;have hne:¬d3_ s.q=[]:=fun h=>by
  have:=q6_ s.q;rw [h] at this;simp at this;omega
 rw [decide_eq_false hne] at gC;have HI:=Lib.hid hI;have HU:=Lib.hid hr;have HN:=Lib.hid hnn;have gm:=p4_ r ⟨Q0,TK0,tm⟩ hn hI.len.symm (by rw [hI.len];exact hr.feed);have hq300:(qat s.q k).length≤300:=by rw [f3_ hk];exact (hsm.q1 _ (List.getElem_mem hk)).1
 have ht300:=hsm.nt;clear hI hr hnn hsm hne;generalize decide (s.tk.map Tk.av=[])=nT at *;have g1:=b1g s.tk car (by omega);have hb1:1+(qat s.q k).length≤1000000000:=by omega
 have hb2:(qat s.q k).length+1≤1000000000:=by omega
 have hrow:(d3_ Q0).map (fun l=>[AV.sl 1 l])=((d3_ s.q).map fun l=>[AV.sl 1 l]).set k [.sl 1 ([[S car]]++(qat s.q k).map l1_)]:=by
  rw [hQ0,←a2u];rfl
 have HR:=Lib.hid hrow;rw [←hTK] at g1;clear hQ0 hrow hTK;refine c0_ Tryd.func46 rfl (by kernel_rfl) (by kernel_rfl) rfl fun M0 w0=>?_;simp only [Tryd.ntmps46,Tryd.results46,b5_];repeat' with_reducible apply a9_
 refine a2_ [] ?_;repeat' first|(with_reducible first|apply a9_|apply a3_|apply a1_)|((with_reducible refine a0_ fun X Y=>?_);go_simp;refine Y _ ?_;clear Y X)
 refine c6_ (b9_ [] 1 ⟨rfl,rfl⟩ ?_);simp only [List.take,List.drop];repeat' first|with_reducible apply a1_|((with_reducible refine a0_ fun X Y=>?_);go_simp;refine Y _ ?_;clear Y X)
 refine e5_ [] [] [] [none,none,some (.arr 85 3 nT (s.tk.map Tk.av)),some (.bag 81 1 false none (d3_ s.q))] (.agg [.osl 3,.osl 2,I s.time]) rfl (by go_simp) ?_ ?_
 ·unfold j7_;go_simp;refine ⟨_,_,⟨_,gC⟩,?_⟩;go_simp;kernel_rfl
 go_simp;refine b9_ [] 2 ⟨rfl,rfl⟩ ?_;simp only [List.take,List.drop];repeat' first|with_reducible apply a1_|((with_reducible refine a0_ fun X Y=>?_);go_simp;refine Y _ ?_;clear Y X)
 apply e3_;repeat' with_reducible first|apply a9_|apply a3_
 refine a2_ [] ?_;repeat' first|(with_reducible first|apply a9_|apply a3_|apply a1_)|((with_reducible refine a0_ fun X Y=>?_);go_simp;refine Y _ ?_;clear Y X)
 refine a2_ [] ?_;repeat' first|(with_reducible first|apply a9_|apply a3_|apply a1_)|((with_reducible refine a0_ fun X Y=>?_);go_simp;refine Y _ ?_;clear Y X)
 refine a2_ [10] ?_;repeat' first|(with_reducible first|apply a9_|apply a3_|apply a1_)|((with_reducible refine a0_ fun X Y=>?_);go_simp;refine Y _ ?_;clear Y X)
 refine a2_ [] ?_;repeat ((with_reducible refine a0_ fun X Y=>?_);go_simp;refine Y _ ?_;clear Y X)
 apply a1_;apply a3_;refine a3a ⟨[(3,.vp [.sl 4 (r.ranks.map Rk.av),I r.back,I r.ret]),(5,.vp [I 5,I tm,I (k:Int),S car]),(6,.ref 0 0),(8,.ref 5 0),(10,.osl 6)],[some (.box [f0_,f0_,I 0]),none,none,none,some (.arr 81 1 false ((d3_ Q0).map fun l=>[AV.sl 1 l])),some (.box [.osl 4,.sl 3 (TK0.map Tk.av),I tm]),some (.arr 60 3 true [])]⟩ (fun K hK=>?_) ?_
 ·clear gm HN HI hB;refine u0_ (fun p a w R=>R.bagArr (id:=4) rfl (by kernel_rfl)) ?_;go_simp;refine d7_ 5 1 3 rfl rfl rfl ?_;repeat' with_reducible first|apply a9_|apply a8_
  refine a2_ [] ?_;repeat' first|(with_reducible first|apply a9_|apply a3_|apply a1_)|((with_reducible refine a6_ ?_ ?_);(focus (go_simp;done)))|((with_reducible refine a0_ fun X Y=>?_);go_simp;refine Y _ ?_;clear Y X)
  refine a2_ [] ?_;repeat' first|(with_reducible first|apply a9_|apply a3_|apply a1_)|((with_reducible refine a6_ ?_ ?_);(focus (go_simp;done)))|((with_reducible refine a0_ fun X Y=>?_);go_simp;refine Y _ ?_;clear Y X)
  refine a2_ [] ?_;repeat' first|(with_reducible first|apply a9_|apply a3_|apply a1_)|((with_reducible refine a6_ ?_ ?_);(focus (go_simp;done)))|((with_reducible refine a0_ fun X Y=>?_);go_simp;refine Y _ ?_;clear Y X)
  refine a2_ [] ?_;repeat' first|(with_reducible first|apply a9_|apply a3_|apply a1_)|((with_reducible refine a6_ ?_ ?_);(focus (go_simp;done)))|((with_reducible refine a0_ fun X Y=>?_);go_simp;refine Y _ ?_;clear Y X)
  refine a2_ [] ?_;repeat' first|(with_reducible first|apply a9_|apply a3_|apply a1_)|((with_reducible refine a6_ ?_ ?_);(focus (go_simp;done)))|((with_reducible refine a0_ fun X Y=>?_);go_simp;refine Y _ ?_;clear Y X)
  refine a2_ [] ?_;repeat' first|(with_reducible first|apply a9_|apply a3_|apply a1_)|((with_reducible refine a7_ ?_ ?_);(focus (go_simp;done)))|((with_reducible refine a0_ fun X Y=>?_);go_simp;refine Y _ ?_;clear Y X)
  refine b0x 9 [136] (fun i=>i == 6 || i == 8) (by kernel_rfl) (by kernel_rfl) (by kernel_rfl) (by go_simp) (by go_simp) ?_;simp only [List.take,List.drop];repeat ((with_reducible refine k2_ rfl fun X Y=>?_);go_simp;refine Y _ (by go_simp) ?_;clear Y X)
  refine h6_ [some (.arr 9 1 false [[S car]])] none (.osl 7) rfl ⟨rfl,fun _=>rfl,fun _ h=>by cases h⟩ ?_ ?_
  ·intro s2 hs2;have q1:lkp s2 135=S car:=(hs2 135 (by simp [Op.operands]) (by go_simp)).trans (by go_simp);clear hs2;go_simp
  repeat ((with_reducible refine k2_ rfl fun X Y=>?_);go_simp;refine Y _ (by go_simp) ?_;clear Y X)
  refine a0s [none] (some 7) (.sl 1 ([[S car]]++(qat s.q k).map l1_)) rfl ⟨rfl,(fun h=>by cases h),fun _ h=>by cases h;exact Nat.le_refl _⟩ rfl ?_ ?_
  ·intro s2 hs2;have q1:lkp s2 136 = .osl 7:=(hs2 136 (by simp [Op.operands,Call.operands]) (by go_simp)).trans (by go_simp);have q2:lkp s2 137 = .sl 1 ((qat s.q k).map l1_):=(hs2 137 (by simp [Op.operands,Call.operands]) (by go_simp)).trans (by go_simp);clear hs2;go_simp;exact a0t (id:=7) rfl rfl
  repeat (first|(with_reducible first|apply a3_|apply a1_|refine a2_ [] ?_)|((with_reducible refine a0_ fun X Y=>?_);go_simp;refine Y _ ?_;clear Y X)|((with_reducible refine a0a ?_);simp only [List.cons_append,List.nil_append,a2q,z7_,if_true]))
  repeat' first|(with_reducible first|apply a3_|apply b1_|apply a1_)|((with_reducible refine a0_ fun X Y=>?_);go_simp;(first|(with_reducible refine ⟨_,g1,?_⟩)|skip);refine Y _ ?_;clear Y X)
  rw [HR.out] at hK;refine hK _ ?_;go_simp
 ·refine d7_ 5 0 4 rfl rfl rfl ?_;repeat' first|(with_reducible first|apply a9_|apply a3_|apply a8_|apply a1_|refine a2_ [] ?_)|((with_reducible refine a7_ ?_ ?_);(focus (go_simp;done)))|((with_reducible refine a0_ fun X Y=>?_);go_simp;(first|(refine ⟨_,gm,?_⟩)|skip);refine Y _ ?_;clear Y X)
  apply a0c (α:=St×List Sg) [3,6,8] (fun (x:St×List Sg)=>[(10,.osl 6),(14,I (f9_ r x.1))]) (fun (x:St×List Sg)=>([some (.box [f0_,f0_,I 0]),none,none,none,none,some (.box [g8_ x.1.q,.sl 3 (x.1.tk.map Tk.av),I x.1.time]),some (.arr 60 3 false (x.2.map Sg.av))] : Hp)) (fun (x:St×List Sg)=>Hid (Inv r x.1)∧x.2.length+2*f7_ 0 x.1.q≤1000000∧Hid (∃ n,f7_ 0 x.1.q≤n∧n2_ r n x.1 x.2=(S2,M2))) (fun (x:St×List Sg)=>f7_ 0 x.1.q) ((⟨Q0,TK0,tm⟩,[(⟨0,(k:Int),car⟩ : Sg)])) ⟨HI,hB,HN⟩
  ·(go_simp<;>exact rfl)
  ·go_simp
  rintro ⟨⟨Q,TK,t⟩,m⟩ ⟨HI2,hmb,HE⟩ K hK;simp only at HI2 hmb HE hK ⊢;obtain ⟨n3,hn3,hn4⟩:=HE.out;by_cases hneg:f9_ r ⟨Q,TK,t⟩ < 0
  ·have e:(⟨Q,TK,t⟩,m)=(S2,M2):=by
    cases n3 with
    | zero=>exact hn4
    | succ n=>rw [n2_,if_pos hneg] at hn4;exact hn4
   clear hK hn4 HE hn3 hmb;injection e with e1 e2
   subst e1;subst e2;generalize f9_ r ⟨Q,TK,t⟩=R at *;have hneg2:¬0≤R:=by omega
   refine x4_ 10 6 rfl rfl ?_;repeat' first|(with_reducible first|apply a9_|apply a3_|apply b8_|apply c5_|apply d4_|apply b7_|apply a1_|refine a2_ [] ?_)|((with_reducible refine a6_ ?_ ?_);(focus (go_simp;done)))|((with_reducible refine a0_ fun X Y=>?_);go_simp;refine Y _ ?_;clear Y X)
   go_simp
  ·obtain ⟨j,ej,hj,hp⟩:=l7_ hneg;have hjq:j < Q.length:=by rw [HI2.out.len];exact hj
   obtain ⟨f1,f2,f3⟩:=j1_ hp;obtain ⟨p1,p2,p3⟩:=HU.out.feedN hj f1;have hfl:feedN r j < Q.length:=by rw [HI2.out.len];exact p3
   have hup:=r5_ HU.out HI2.out.len hjq f1 f2;have hi2:=HI2.out.up HU.out hjq f1 f2 f3;have gmv:=a3k r Q j (feedN r j) hjq HI2.out.len.symm p1 hfl (by omega) f2 (by rw [HI2.out.len];have:=HU.out.n6;omega) fun i hiq=>by
    have h1:=HI2.out.fit i hiq;have h2:=HU.out.pl i (by rw [←HI2.out.len];exact hiq);simp only at h1;omega
   rw [s0_ hjq hfl (by omega)] at gmv;have gm2:=p4_ r (upS r ⟨Q,TK,t⟩ j) hn (by rw [hi2.len]) (by rw [hi2.len];exact HU.out.feed);have hnx:∃ n,f7_ 0 (upS r ⟨Q,TK,t⟩ j).q≤n∧n2_ r n (upS r ⟨Q,TK,t⟩ j) (m++upM Q j (feedN r j))=(S2,M2):=by
    cases n3 with
    | zero=>simp only at hup hn3;omega
    | succ n3=>
     rw [n2_,if_neg hneg,ej,Int.toNat_natCast] at hn4;exact ⟨n3,by simp only at hup hn3;omega,hn4⟩
   have HX:=Lib.hid hnx;have HI3:=Lib.hid hi2;have hml:m.length+(upM Q j (feedN r j)).length=m.length+2:=by simp [upM]
   have hml2:(m++upM Q j (feedN r j)).length=m.length+2:=by simp [upM]
   have hml3:(upM Q j (feedN r j)).length=2:=by simp [upM]
   have hml4:m.length+2≤1000000000:=by omega
   clear hn4 HE hnx hi2 hn3 hneg HI2 f1 f2 f3 hp;unfold upS at *;simp only at *;generalize upQ Q j (feedN r j)=Q2 at *;have hum:(m++upM Q j (feedN r j)).map Sg.av=m.map Sg.av++(upM Q j (feedN r j)).map Sg.av:=List.map_append;generalize upM Q j (feedN r j)=U at *;rw [ej];repeat' first|(with_reducible first|apply a9_|apply a3_|apply b0_|apply a8_|apply b1_|apply a1_|refine a2_ [] ?_)|((with_reducible refine a7_ ?_ ?_);(focus (go_simp;done)))|((with_reducible refine a0_ fun X Y=>?_);go_simp;(first|(with_reducible refine ⟨_,gmv,?_⟩)|(with_reducible refine ⟨_,gm2,?_⟩)|skip);refine Y _ ?_;clear Y X)
   refine hK _ (⟨Q2,TK,t⟩,m++U) ⟨HI3,by simp only;omega,HX⟩ (by simp only;omega) ?_;simp only [hum];go_simp
end Go.Proofs.YtoibondihdhnoaaDoor
