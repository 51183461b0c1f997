/- Texts in one: Walks: whether a text holds a byte. -/
import Derived.Test.YtoibondihdhnoaaGreatDoorFRP9
import Derived.Test.YtoibondihdhnoaaGreatDoorFRP63
import Derived.Lib.Bytealg
import Derived.Lib.Strings
import Derived.Lib.Slices
import Derived.Lib.Walk
namespace Go.Proofs.YtoibondihdhnoaaGreatDoor
open Go.RowKit Go.Shelf
set_option maxRecDepth 100000
set_option maxHeartbeats 2000000
theorem Qa (s:ByteArray) (c:Int) (w:World) : Calls Tryz.prog 185 #[.string s,.int .u8 c] w fun e w'=>e = .returned (.int .i64 (Lib.indexByte s.data.toList c.toNat.toUInt8))∧w'=w:=by
 go_enter Tryz.func185,Tryz.ntmps185
 go_wp2
 rw [run_callFunc_extern Tryz.func198 (by kernel_rfl) (by kernel_rfl) (by kernel_rfl) (e:=Extern.BytealgIndexByte.indexByte) (by kernel_rfl),Lib.run_indexByteString];simp only [Result.andThen];rw [Oper.upon_value];go_wp2
 go_ret
 exact ⟨rfl,rfl⟩
theorem Qb (s:ByteArray) (c:UInt8) : VC Tryz.prog 185 [S s,.lit (.int .u8 c.toNat)] (I (Lib.indexByte s.data.toList c)):=
 BR (by kernel_rfl) fun w M v1 v2 hM h1 h2=>by
  obtain rfl:=V0.lit_inv h1;obtain rfl:=V0.lit_inv h2;refine (Qa s c.toNat w).mono fun e w' ⟨he,hw⟩=>⟨_,he,?_,?_⟩
  ·rw [hw];exact Below.refl _ w
  ·have:((c.toNat:Int).toNat.toUInt8)=c:=by simp
   rw [this];exact .lit _
theorem Qc (s:ByteArray) (c:UInt8) : VC Tryz.prog 169 [S s,S ⟨#[c]⟩] (I (Lib.indexByte s.data.toList c)):=by
 have g:=Qb s c;have e1:(⟨#[c]⟩ : ByteArray).size=1:=rfl;have e2:kq ⟨#[c]⟩ 0=c:=rfl;have hR:⟨#[c]⟩=s→Lib.indexByte s.data.toList c=0:=fun e=>by
  rw [←e];simp [Lib.indexByte]
 generalize Lib.indexByte s.data.toList c=R at *;generalize hC:(⟨#[c]⟩ : ByteArray)=C at *;by_cases h:C=s
 ·subst h;obtain rfl:=hR rfl;clear hR;refine aP Tryz.func169 rfl (by kernel_rfl) rfl fun M0 w0=>?_;simp only [Tryz.ntmps169,Tryz.results169,aF];repeat' with_reducible first|apply af|apply ae|apply aZ|apply ax|apply aB|apply cX|apply aa|refine ah [] ?_|(apply aw;·go_simp)|(apply ab;intro X Y;go_simp;apply Y;clear Y X)
  go_simp
 ·clear hR;refine aP Tryz.func169 rfl (by kernel_rfl) rfl fun M0 w0=>?_;simp only [Tryz.ntmps169,Tryz.results169,aF];repeat' with_reducible first|apply af|apply ae|apply aZ|apply ax|apply aB|apply cX|apply aa|refine ah [] ?_|(apply aw;·go_simp)|(apply ar;·go_simp)|(apply ab;intro X Y;go_simp;(first|(refine ⟨_,g,?_⟩)|skip);apply Y;clear Y X)
  go_simp
theorem Qd (s:ByteArray) (c:UInt8) : VC Tryz.prog 155 [S s,S ⟨#[c]⟩] (I (Lib.indexByte s.data.toList c)):=by
 have g:=Qc s c;generalize Lib.indexByte s.data.toList c=R at *;refine aP Tryz.func155 rfl (by kernel_rfl) rfl fun M0 w0=>?_;simp only [Tryz.ntmps155,Tryz.results155,aF];repeat' with_reducible first|apply af|apply ae|apply ax|apply aa|refine ah [] ?_|(apply ab;intro X Y;go_simp;(first|(refine ⟨_,g,?_⟩)|skip);apply Y;clear Y X)
 go_simp
theorem Qe (s:ByteArray) (c:UInt8) : VC Tryz.prog 124 [S s,S ⟨#[c]⟩] (B (decide (0≤Lib.indexByte s.data.toList c))):=by
 have g:=Qd s c;generalize Lib.indexByte s.data.toList c=R at *;refine aP Tryz.func124 rfl (by kernel_rfl) rfl fun M0 w0=>?_;simp only [Tryz.ntmps124,Tryz.results124,aF];repeat' with_reducible first|apply af|apply ae|apply ax|apply aa|refine ah [] ?_|(apply ab;intro X Y;go_simp;(first|(refine ⟨_,g,?_⟩)|skip);apply Y;clear Y X)
 go_simp
theorem IE (c:UInt8) : ∀ l:List UInt8,0≤Lib.indexByte l c↔c∈l
 | []=>by simp [Lib.indexByte]
 | x::r=>by
  have h:=IE c r;have hg:=Lib.indexByte_ge r c;unfold Lib.indexByte;by_cases hx:x=c
  ·subst hx;simp
  ·have w_:¬c=x:=fun e=>hx e.symm;simp only [List.mem_cons,w_,false_or,←h];simp only [beq_iff_eq,hx,if_false];split<;>omega
theorem Qf (x:List UInt8) {l:List (List UInt8)} (h:l≠[]) : (att x l).length=l.length:=by
 cases l with
 | nil=>exact absurd rfl h
 | cons a r=>rfl
theorem IF (c:UInt8) : ∀ l:List UInt8,1 < (fy c l).length↔c∈l
 | []=>by simp [fy]
 | x::r=>by
  have ih:=IF c r;have hn:=F7 c r;rw [fy];by_cases hx:x=c
  ·rw [if_pos hx];have:=List.length_pos_iff.2 hn;simp only [List.length_cons,hx,List.mem_cons,true_or,iff_true];omega
  ·rw [if_neg hx,Qf _ hn,ih];have w_:¬c=x:=fun e=>hx e.symm;simp [w_]
theorem Qg (c:UInt8) (s:ByteArray) : decide (0≤Lib.indexByte s.data.toList c)=decide (1 < (dh c s).length):=by
 unfold dh;rw [List.length_map];exact decide_eq_decide.2 ((IE c _).trans (IF c _).symm)
theorem IG (s:ByteArray) (hs:s.size≤1000000) : VC Tryz.prog 121 [S s] (gG (gD s)):=by
 have g:=vR s 32 hs;by_cases h:s=⟨#[]⟩
 ·subst h;refine (?_:VC Tryz.prog 121 [S ⟨#[]⟩] br).weak fun w M v hv=>by
   rw [hv.lit_inv];exact .slNil _ _ _
  refine aP Tryz.func121 rfl (by kernel_rfl) rfl fun M0 w0=>?_;simp only [Tryz.ntmps121,Tryz.results121,aF];repeat' with_reducible first|apply af|apply ae|apply aZ|apply ax|apply aa|refine ah [] ?_|(apply aw;·go_simp)|(apply ab;intro X Y;go_simp;apply Y;clear Y X)
  go_simp
 ·have h2:¬s=ByteArray.empty:=h;have e:gD s=dh 32 s:=by unfold gD;rw [if_neg h]
  rw [e];generalize dh 32 s=W at *;refine aP Tryz.func121 rfl (by kernel_rfl) rfl fun M0 w0=>?_;simp only [Tryz.ntmps121,Tryz.results121,aF];repeat' first|(with_reducible first|apply af|apply ae|apply ax|apply au|apply aa|refine ah [] ?_|(apply ar;·go_simp))|((with_reducible apply ab);intro X Y;go_simp;(first|(refine ⟨_,g,?_⟩)|skip);apply Y;clear Y X)
  go_simp
theorem IH (w:ByteArray) : VC Tryz.prog 123 [S w] (B (qV w)):=by
 have g:=Qe w 58;rw [Qg] at g;unfold qV;generalize decide (1 < (dh 58 w).length)=R at *;by_cases h:w=⟨#[]⟩
 ·subst h;refine aP Tryz.func123 rfl (by kernel_rfl) rfl fun M0 w0=>?_;simp only [Tryz.ntmps123,Tryz.results123,aF];repeat' with_reducible first|apply af|apply ae|apply ax|apply aa|refine ah [] ?_|(apply ab;intro X Y;go_simp;apply Y;clear Y X)
  go_simp
 ·have h2:¬w=ByteArray.empty:=h;refine aP Tryz.func123 rfl (by kernel_rfl) rfl fun M0 w0=>?_;simp only [Tryz.ntmps123,Tryz.results123,aF];repeat' with_reducible first|apply af|apply ae|apply ax|apply aa|refine ah [] ?_|(apply ab;intro X Y;go_simp;(first|(refine ⟨_,g,?_⟩)|skip);apply Y;clear Y X)
  go_simp
theorem Qh (l:List ByteArray) (hl:l.length≤1000000) : VC Tryz.prog 154 [gG l,.lit (.func (.func 123) #[] #[])] (I (ixP (fun j=>qV (tat l j)) 0 l.length)):=by
 obtain ⟨R,hR⟩ : ∃ R,ixP (fun j=>qV (tat l j)) 0 l.length=R:=⟨_,rfl⟩
 rw [hR];have HR:=Lib.hid hR;clear hR;refine aP Tryz.func154 rfl (by kernel_rfl) rfl fun M0 w0=>?_;simp only [Tryz.ntmps154,Tryz.results154,aF];repeat' with_reducible first|apply af|apply ae|apply aB|apply aa|refine ah [] ?_|(apply ab;intro X Y;go_simp;apply Y;clear Y X)
 apply eo [0,1,7] (fun k=>[(8,I k)]) (fun k=>([] : Hp)) (fun j=>qV (tat l j)) (l.length)
 ·go_simp<;>exact rfl
 ·go_simp
 ·intro k hk HB HP K hK;obtain ⟨w1,w2,w3,w4,w5,w6⟩:=ixs (m:=k) (by omega);have g:=IH (tat l k);have hp:=HP.out;rw [hp] at g;have qk:l[k]=tat l k:=(dp hk).symm;clear hp;repeat' with_reducible first|apply af|apply ae|apply au|apply aB|apply bp|apply aa|refine ah [] ?_|(apply aw;·go_simp)|(apply ar;·go_simp)|(apply ab;intro X Y;go_simp;(first|(refine ⟨_,g,?_⟩)|skip);apply Y;clear Y X)
  refine hK _ ?_;go_simp
 ·intro k hk HB HP K;have g:=IH (tat l k);have hp:=HP.out;rw [hp] at g;have qk:l[k]=tat l k:=(dp hk).symm;clear hp;have e:=HR.out;rw [jw hk HB.out HP.out] at e;subst e;repeat' with_reducible first|apply af|apply ae|apply aZ|apply ax|apply au|apply aB|apply cX|apply aa|refine ah [] ?_|(apply aw;·go_simp)|(apply ab;intro X Y;go_simp;(first|(refine ⟨_,g,?_⟩)|skip);apply Y;clear Y X)
  go_simp
 ·intro HB K;have e:=HR.out;rw [kr HB.out] at e;subst e;repeat' with_reducible first|apply af|apply ae|apply bP|apply ax|apply bQ|apply bT|apply aa|refine ah [] ?_|(apply ar;·go_simp)|(apply ab;intro X Y;go_simp;apply Y;clear Y X)
  go_simp
theorem Qi (p:ByteArray) (hl:(gD p).length≤1000000) : VC Tryz.prog 122 [gG (gD p),.lit (.func (.func 123) #[] #[])] (B (qW p)):=by
 have g:=Qh (gD p) hl;unfold qW;rw [←vC];generalize ixP (fun j=>qV (tat (gD p) j)) 0 (gD p).length=R at *;generalize gD p=W at *;refine aP Tryz.func122 rfl (by kernel_rfl) rfl fun M0 w0=>?_;simp only [Tryz.ntmps122,Tryz.results122,aF];repeat' first|(with_reducible first|apply af|apply ae|apply ax|apply aa|refine ah [] ?_)|((with_reducible apply ab);intro X Y;go_simp;(first|(refine ⟨_,g,?_⟩)|skip);apply Y;clear Y X)
 go_simp
set_option maxHeartbeats 4000000
theorem II {p:ByteArray} (h:p.size≤100000) : (gD p).length≤100001∧∀ c∈gD p,c.size≤100000:=by
 unfold gD;split
 ·simp
 ·have:=yD 32 p;exact ⟨by omega,fun c hc=>Nat.le_trans (yE hc) h⟩
theorem Qj (t:ByteArray) (ht:t.size≤100000) (hb:tZ (dh 124 t)=false) : VC Tryz.prog 62 [S t] (.tup [cT (lh (dh 124 t)),I 0]):=by
 have g1:=vR t 124 (by omega);have iF:=yD 124 t;have qU:∀ p∈dh 124 t,p.size≤100000:=fun p hp=>Nat.le_trans (yE hp) ht;generalize dh 124 t=w at *;unfold tZ at hb;simp only [Bool.or_eq_false_iff,Bool.not_eq_false',decide_eq_true_eq] at hb;obtain ⟨⟨⟨h3,hn⟩,hr⟩,hk⟩:=hb;have EL:(tat w 0).size≤100000:=qU _ (Hg (by omega));have g2:=vU (tat w 0) (by omega);rw [hn] at g2;obtain ⟨tm,Dr⟩ : ∃ tm,lO (tat w 0).data.toList=tm:=⟨_,rfl⟩
 rw [Dr] at g2;have ha:w[0]=tat w 0:=(dp (by omega)).symm;have fu:cT (lh w) = .agg [.sl 1 ((bL (lh w).q).map fun l=>[AV.sl 1 l]),.sl 3 ((tkK (lg w) (lg w).length).map Tk.av),I tm]:=by
  have e2:(lh w).tk=tkK (lg w) (lg w).length:=by
   unfold tkK;rw [List.take_length];rfl
  have e3:(lh w).time=tm:=Dr;rw [←e2,←e3]
 rw [fu];rw [←OI,ID];have HQ:Hid (∀ k,k < w.length - 2→kl (lh w) (k+1)=kl (lh w) k++[[.sl 1 ((gD (tat w (1+k))).map bK)]]∧(kl (lh w) k).length=k∧qW (tat w (1+k))=false):=Lib.hid fun k hk=>by
  have h1:k < (lh w).q.length:=by rw [ID];exact hk
  have hb1:qW (tat w (1+k))=false:=by
   cases hb:qW (tat w (1+k))
   ·rfl
   ·rw [ni hk hb] at hr;cases hr
  refine ⟨?_,OH (by omega),hb1⟩;rw [OG h1,P8 hk]
 have HK:Hid (∀ k,k < (lg w).length→sw (tat (lg w) k)=false):=Lib.hid fun k cA=>by
  cases hb:sw (tat (lg w) k)
  ·rfl
  ·rw [ni cA hb] at hk;cases hk
 have HZ:=Lib.hid qU;have oW:w.length≤200000:=by omega
 have TC:¬(w.length:Int) < 3:=by omega
 have l0:0 < w.length:=by omega
 have x6:=iu (x:=(w.length:Int) - 1) (by omega) (by omega);have x7:((w.length:Int) - 1).toNat=w.length - 1:=by omega
 have x8:(1:Int)≤(w.length:Int) - 1:=by omega
 have x9:1≤w.length - 1:=by omega
 clear fu hr hk Dr hn qU iF ht EL;generalize lh w=ST at *;have e0:kl ST 0=[]:=rfl;refine aP Tryz.func62 rfl (by kernel_rfl) rfl fun M0 w0=>?_;simp only [Tryz.ntmps62,Tryz.results62,aF];repeat' with_reducible first|apply af|apply ae|apply au|apply aB|apply aa|refine ah [] ?_|(apply ar;·go_simp)|(apply ab;intro X Y;go_simp;(first|(refine ⟨_,g1,?_⟩)|(refine ⟨_,g2,?_⟩)|skip);apply Y;clear Y X)
 have aR:(List.take (w.length - 1) (List.map bK w)).tail=((w.drop 1).take (w.length - 2)).map bK:=by
  rw [←List.drop_one,List.drop_take,List.map_take,List.map_drop];rfl
 have ie:((w.drop 1).take (w.length - 2)).length=w.length - 2:=by
  simp only [List.length_take,List.length_drop];omega
 have rO:∀ k (hk:k < ((w.drop 1).take (w.length - 2)).length),((w.drop 1).take (w.length - 2))[k]=tat w (1+k):=fun k hk=>by
  rw [List.getElem_take,List.getElem_drop,dp]
 rw [aR,show w.length - 1 - 1=w.length - 2 from rfl];have HA:=Lib.hid rO;clear aR rO;generalize (w.drop 1).take (w.length - 2)=Q at *;rw [←ie] at HQ ⊢;have zN:=Lib.hid ie;clear ie;refine jA (fun p a w R=>⟨_,R.nilCell (bi:=1) (j:=0) (e:=62) (sz:=1) rfl rfl (by decide)⟩) ?_;go_simp;refine jA (fun p a w R=>⟨_,R.nilCell (bi:=1) (j:=1) (e:=148) (sz:=3) rfl rfl (by decide)⟩) ?_;go_simp;apply kQ [2,4,7,43,44] (fun k=>[(45,I k)]) (fun k=>([some (.box [br,br,I 0]),some (.box [.osl 2,.osl 3,I tm]),some (.arr 62 1 (decide (kl ST k=[])) (kl ST k)),some (.arr 148 3 true [])] : Hp))  (Q.length)
 ·go_simp<;>exact rfl
 ·go_simp
 ·intro k hk K hK;obtain ⟨w1,w2,w3,w4,w5,w6⟩:=ixs (m:=k) (by have:=zN.out;omega);obtain ⟨hs,hl,IJ⟩:=HQ.out k hk;have jj:1+k < w.length:=by
   have:=zN.out;omega
  have TD:Q.length≤200000:=by
   have:=zN.out;omega
  have hz:=HZ.out w[1+k] (List.getElem_mem jj);rw [←dp jj] at hz;have gw:=IG (tat w (1+k)) (by omega);have uw:=II hz;have gh:=Qi (tat w (1+k)) (by omega);rw [IJ] at gh;have hb:(kl ST k).length+1≤1000000000:=by omega
  have qk:=HA.out k hk;have HS:=Lib.hid hs;rw [HS.out] at hK;clear hs hl hz uw HS IJ HQ HK HA;generalize kl ST k=RV at *;generalize gD (tat w (1+k))=W at *;repeat' first|(with_reducible first|apply af|apply ae|apply au|apply aB|apply bp|apply aa|refine ah [] ?_|(apply aw;·go_simp)|(apply ar;·go_simp))|((with_reducible apply ab);intro X Y;go_simp;(first|(refine ⟨_,gw,?_⟩)|(refine ⟨_,gh,?_⟩)|skip);apply Y;clear Y X)
  refine hK _ ?_;go_simp
 ·intro K;obtain ⟨m,hm⟩ : ∃ m,m=w.length - 1:=⟨_,rfl⟩
  have nh:m < w.length:=by omega
  have y1:(w.length:Int) - 1=(m:Int):=by omega
  have y2:=iu (x:=(m:Int)) (by omega) (by omega);have qk:w[m]=tat w m:=(dp nh).symm;have hz:=HZ.out w[m] (List.getElem_mem nh);rw [qk] at hz;have gw:=IG (tat w m) (by omega);have uw:=II hz;unfold lg at HK ⊢;rw [←hm] at HK ⊢;clear hm x6 x7 x8 x9 zN;have HW:=Lib.hid uw;clear hz HQ HA uw HZ;generalize gD (tat w m)=W at *;have uw:=HW.out.1;generalize kl ST Q.length=RV at *;have e1:tkK W 0=[]:=rfl;repeat' first|(with_reducible first|apply af|apply ae|apply bP|apply bQ|apply aB|apply bT|apply aa|refine ah [] ?_|(apply ar;·go_simp))|((with_reducible apply ab);intro X Y;go_simp;(first|(refine ⟨_,gw,?_⟩)|skip);apply Y;clear Y X)
  apply kQ [2,7,67,68] (fun k=>[(69,I k)]) (fun k=>([some (.box [br,br,I 0]),some (.box [.osl 2,.osl 3,I tm]),some (.arr 62 1 (decide (RV=[])) RV),some (.arr 148 3 (decide (tkK W k=[])) ((tkK W k).map Tk.av))] : Hp))  (W.length)
  ·go_simp<;>exact rfl
  ·go_simp
  ·intro j hj K2 iO;obtain ⟨v1,v2,v3,v4,v5,v6⟩:=ixs (m:=j) (by omega);have Ds:=HK.out j hj;have Dt:=HW.out.2 _ (List.getElem_mem hj);have qj:W[j]=tat W j:=(dp hj).symm;rw [qj] at Dt;have gs:=vR (tat W j) 58 (by omega);have hs:=P9 hj;have jh:=P_ (l:=W) (k:=j) (by omega);have hb:(tkK W j).length+1≤1000000000:=by omega
   have sT:∀ p∈dh 58 (tat W j),p.size≤100000:=fun p hp=>Nat.le_trans (yE hp) Dt;unfold sw at Ds;unfold tkW at hs;simp only [Bool.or_eq_false_iff,Bool.not_eq_false',decide_eq_false_iff_not,decide_eq_true_eq] at Ds;obtain ⟨⟨⟨b1,b2⟩,b3⟩,b4⟩:=Ds;generalize dh 58 (tat W j)=PP at *;have q0:PP[0]=tat PP 0:=(dp (by omega)).symm;have q1:PP[1]=tat PP 1:=(dp (by omega)).symm;have q2:PP[2]=tat PP 2:=(dp (by omega)).symm;have z1:(tat PP 1).size≤100000:=by rw [←q1];exact sT _ (List.getElem_mem _)
   have z2:(tat PP 2).size≤100000:=by rw [←q2];exact sT _ (List.getElem_mem _)
   have g3:=vU (tat PP 1) (by omega);have g4:=vU (tat PP 2) (by omega);rw [b3] at g3;rw [b4] at g4;have b5:(PP.length:Int)=3:=by omega
   have b6:¬tat PP 0=ByteArray.empty:=b2;have HS:=Lib.hid hs;clear hs jh b3 b4 z1 z2 sT Dt;generalize lO (tat PP 1).data.toList=N1 at *;generalize lO (tat PP 2).data.toList=N2 at *;repeat' first|(with_reducible first|apply af|apply ae|apply au|apply aB|apply bp|apply aa|refine ah [] ?_|apply aT|(apply aw;·go_simp)|(apply ar;·go_simp)|((first|apply ab|apply aU);intro X Y;go_simp;(first|(refine ⟨_,gs,?_⟩)|(refine ⟨_,g3,?_⟩)|(refine ⟨_,g4,?_⟩)|skip);apply Y;clear Y X))|((refine bc 12 9 [] rfl (by kernel_rfl) ?_);simp only [az])
   refine iO _ ?_;rw [HS.out];go_simp
  ·intro K2;repeat' with_reducible apply af
   refine g_ 1 0 2 rfl rfl rfl ?_;refine g_ 1 1 3 rfl rfl rfl ?_;repeat' with_reducible first|apply af|apply ae|apply bP|apply ax|apply bQ|apply bT|apply aa|refine ah [] ?_|(apply ar;·go_simp)|(apply ab;intro X Y;go_simp;apply Y;clear Y X)
   go_simp
end Go.Proofs.YtoibondihdhnoaaGreatDoor
