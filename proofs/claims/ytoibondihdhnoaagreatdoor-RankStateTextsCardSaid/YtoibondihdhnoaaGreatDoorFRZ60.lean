/- Texts in one: Walks: whether a text holds a byte. -/
import Derived.Test.YtoibondihdhnoaaGreatDoorFRZ8
import Derived.Test.YtoibondihdhnoaaGreatDoorFRZ59
import Derived.Lib.Bytealg
import Derived.Lib.Strings
import Derived.Lib.Slices
import Derived.Lib.Walk
namespace Go.Proofs.YtoibondihdhnoaaGreatDoor
open Go.RowKit Go.Shelf
set_option maxRecDepth 100000
set_option maxHeartbeats 2000000
theorem Qz (s:ByteArray) (c:Int) (w:World) : Calls Tryz.prog 185 #[.string s,.int .u8 c] w fun e w'=>e = .returned (.int .i64 (Lib.indexByte s.data.toList c.toNat.toUInt8))∧w'=w:=by
 go_enter Tryz.func185,Tryz.ntmps185
 go_wp2
 rw [run_callFunc_extern Tryz.func198 (by kernel_rfl) (by kernel_rfl) (by kernel_rfl) (e:=Extern.BytealgIndexByte.indexByte) (by kernel_rfl),Lib.run_indexByteString];simp only [Result.andThen];rw [Oper.upon_value];go_wp2
 go_ret
 exact ⟨rfl,rfl⟩
theorem QA (s:ByteArray) (c:UInt8) : VC Tryz.prog 185 [S s,.lit (.int .u8 c.toNat)] (I (Lib.indexByte s.data.toList c)):=
 Cw (by kernel_rfl) fun w M v1 v2 hM h1 h2=>by
  obtain rfl:=V0.lit_inv h1;obtain rfl:=V0.lit_inv h2;refine (Qz s c.toNat w).mono fun e w' ⟨he,hw⟩=>⟨_,he,?_,?_⟩
  ·rw [hw];exact Below.refl _ w
  ·have:((c.toNat:Int).toNat.toUInt8)=c:=by simp
   rw [this];exact .lit _
theorem QB (s:ByteArray) (c:UInt8) : VC Tryz.prog 169 [S s,S ⟨#[c]⟩] (I (Lib.indexByte s.data.toList c)):=by
 have g:=QA s c;have e1:(⟨#[c]⟩ : ByteArray).size=1:=rfl;have e2:cR ⟨#[c]⟩ 0=c:=rfl;have hR:⟨#[c]⟩=s→Lib.indexByte s.data.toList c=0:=fun e=>by
  rw [←e];simp [Lib.indexByte]
 generalize Lib.indexByte s.data.toList c=R at *;generalize hC:(⟨#[c]⟩ : ByteArray)=C at *;by_cases h:C=s
 ·subst h;obtain rfl:=hR rfl;clear hR;refine aK Tryz.func169 rfl (by kernel_rfl) rfl fun M0 w0=>?_;simp only [Tryz.ntmps169,Tryz.results169,az];repeat' with_reducible first|apply af|apply ae|apply aF|apply aq|apply ar|apply b_|apply aa|refine ah [] ?_|(apply ao;·go_simp)|(apply ab;intro X Y;go_simp;apply Y;clear Y X)
  go_simp
 ·clear hR;refine aK Tryz.func169 rfl (by kernel_rfl) rfl fun M0 w0=>?_;simp only [Tryz.ntmps169,Tryz.results169,az];repeat' with_reducible first|apply af|apply ae|apply aF|apply aq|apply ar|apply b_|apply aa|refine ah [] ?_|(apply ao;·go_simp)|(apply ak;·go_simp)|(apply ab;intro X Y;go_simp;(first|(refine ⟨_,g,?_⟩)|skip);apply Y;clear Y X)
  go_simp
theorem QC (s:ByteArray) (c:UInt8) : VC Tryz.prog 155 [S s,S ⟨#[c]⟩] (I (Lib.indexByte s.data.toList c)):=by
 have g:=QB s c;generalize Lib.indexByte s.data.toList c=R at *;refine aK Tryz.func155 rfl (by kernel_rfl) rfl fun M0 w0=>?_;simp only [Tryz.ntmps155,Tryz.results155,az];repeat' with_reducible first|apply af|apply ae|apply aq|apply aa|refine ah [] ?_|(apply ab;intro X Y;go_simp;(first|(refine ⟨_,g,?_⟩)|skip);apply Y;clear Y X)
 go_simp
theorem QD (s:ByteArray) (c:UInt8) : VC Tryz.prog 124 [S s,S ⟨#[c]⟩] (B (decide (0≤Lib.indexByte s.data.toList c))):=by
 have g:=QC s c;generalize Lib.indexByte s.data.toList c=R at *;refine aK Tryz.func124 rfl (by kernel_rfl) rfl fun M0 w0=>?_;simp only [Tryz.ntmps124,Tryz.results124,az];repeat' with_reducible first|apply af|apply ae|apply aq|apply aa|refine ah [] ?_|(apply ab;intro X Y;go_simp;(first|(refine ⟨_,g,?_⟩)|skip);apply Y;clear Y X)
 go_simp
theorem I7 (c:UInt8) : ∀ l:List UInt8,0≤Lib.indexByte l c↔c∈l
 | []=>by simp [Lib.indexByte]
 | x::r=>by
  have h:=I7 c r;have hg:=Lib.indexByte_ge r c;unfold Lib.indexByte;by_cases hx:x=c
  ·subst hx;simp
  ·have w_:¬c=x:=fun e=>hx e.symm;simp only [List.mem_cons,w_,false_or,←h];simp only [beq_iff_eq,hx,if_false];split<;>omega
theorem QE (x:List UInt8) {l:List (List UInt8)} (h:l≠[]) : (att x l).length=l.length:=by
 cases l with
 | nil=>exact absurd rfl h
 | cons a r=>rfl
theorem I8 (c:UInt8) : ∀ l:List UInt8,1 < (dK c l).length↔c∈l
 | []=>by simp [dK]
 | x::r=>by
  have ih:=I8 c r;have hn:=vP c r;rw [dK];by_cases hx:x=c
  ·rw [if_pos hx];have:=List.length_pos_iff.2 hn;simp only [List.length_cons,hx,List.mem_cons,true_or,iff_true];omega
  ·rw [if_neg hx,QE _ hn,ih];have w_:¬c=x:=fun e=>hx e.symm;simp [w_]
theorem QF (c:UInt8) (s:ByteArray) : decide (0≤Lib.indexByte s.data.toList c)=decide (1 < (aP c s).length):=by
 unfold aP;rw [List.length_map];exact decide_eq_decide.2 ((I7 c _).trans (I8 c _).symm)
theorem xi (s:ByteArray) (hs:s.size≤1000000) : VC Tryz.prog 121 [S s] (fr (bu s)):=by
 have g:=qI s 32 hs;by_cases h:s=⟨#[]⟩
 ·subst h;refine (?_:VC Tryz.prog 121 [S ⟨#[]⟩] aZ).weak fun w M v hv=>by
   rw [hv.lit_inv];exact .slNil _ _ _
  refine aK Tryz.func121 rfl (by kernel_rfl) rfl fun M0 w0=>?_;simp only [Tryz.ntmps121,Tryz.results121,az];repeat' with_reducible first|apply af|apply ae|apply aF|apply aq|apply aa|refine ah [] ?_|(apply ao;·go_simp)|(apply ab;intro X Y;go_simp;apply Y;clear Y X)
  go_simp
 ·have h2:¬s=ByteArray.empty:=h;have e:bu s=aP 32 s:=by unfold bu;rw [if_neg h]
  rw [e];generalize aP 32 s=W at *;refine aK Tryz.func121 rfl (by kernel_rfl) rfl fun M0 w0=>?_;simp only [Tryz.ntmps121,Tryz.results121,az];repeat' first|(with_reducible first|apply af|apply ae|apply aq|apply aj|apply aa|refine ah [] ?_|(apply ak;·go_simp))|((with_reducible apply ab);intro X Y;go_simp;(first|(refine ⟨_,g,?_⟩)|skip);apply Y;clear Y X)
  go_simp
theorem I9 (w:ByteArray) : VC Tryz.prog 123 [S w] (B (lR w)):=by
 have g:=QD w 58;rw [QF] at g;unfold lR;generalize decide (1 < (aP 58 w).length)=R at *;by_cases h:w=⟨#[]⟩
 ·subst h;refine aK Tryz.func123 rfl (by kernel_rfl) rfl fun M0 w0=>?_;simp only [Tryz.ntmps123,Tryz.results123,az];repeat' with_reducible first|apply af|apply ae|apply aq|apply aa|refine ah [] ?_|(apply ab;intro X Y;go_simp;apply Y;clear Y X)
  go_simp
 ·have h2:¬w=ByteArray.empty:=h;refine aK Tryz.func123 rfl (by kernel_rfl) rfl fun M0 w0=>?_;simp only [Tryz.ntmps123,Tryz.results123,az];repeat' with_reducible first|apply af|apply ae|apply aq|apply aa|refine ah [] ?_|(apply ab;intro X Y;go_simp;(first|(refine ⟨_,g,?_⟩)|skip);apply Y;clear Y X)
  go_simp
theorem QG (l:List ByteArray) (hl:l.length≤1000000) : VC Tryz.prog 154 [fr l,.lit (.func (.func 123) #[] #[])] (I (ixP (fun j=>lR (tat l j)) 0 l.length)):=by
 obtain ⟨R,hR⟩ : ∃ R,ixP (fun j=>lR (tat l j)) 0 l.length=R:=⟨_,rfl⟩
 rw [hR];have HR:=Lib.hid hR;clear hR;refine aK Tryz.func154 rfl (by kernel_rfl) rfl fun M0 w0=>?_;simp only [Tryz.ntmps154,Tryz.results154,az];repeat' with_reducible first|apply af|apply ae|apply ar|apply aa|refine ah [] ?_|(apply ab;intro X Y;go_simp;apply Y;clear Y X)
 apply ch [0,1,7] (fun k=>[(8,I k)]) (fun k=>([] : Hp)) (fun j=>lR (tat l j)) (l.length)
 ·go_simp<;>exact rfl
 ·go_simp
 ·intro k hk HB HP K hK;obtain ⟨w1,w2,w3,w4,w5,w6⟩:=ixs (m:=k) (by omega);have g:=I9 (tat l k);have hp:=HP.out;rw [hp] at g;have qk:l[k]=tat l k:=(bc hk).symm;clear hp;repeat' with_reducible first|apply af|apply ae|apply aj|apply ar|apply aT|apply aa|refine ah [] ?_|(apply ao;·go_simp)|(apply ak;·go_simp)|(apply ab;intro X Y;go_simp;(first|(refine ⟨_,g,?_⟩)|skip);apply Y;clear Y X)
  refine hK _ ?_;go_simp
 ·intro k hk HB HP K;have g:=I9 (tat l k);have hp:=HP.out;rw [hp] at g;have qk:l[k]=tat l k:=(bc hk).symm;clear hp;have e:=HR.out;rw [gU hk HB.out HP.out] at e;subst e;repeat' with_reducible first|apply af|apply ae|apply aF|apply aq|apply aj|apply ar|apply b_|apply aa|refine ah [] ?_|(apply ao;·go_simp)|(apply ab;intro X Y;go_simp;(first|(refine ⟨_,g,?_⟩)|skip);apply Y;clear Y X)
  go_simp
 ·intro HB K;have e:=HR.out;rw [jb HB.out] at e;subst e;repeat' with_reducible first|apply af|apply ae|apply aW|apply aq|apply aX|apply aY|apply aa|refine ah [] ?_|(apply ak;·go_simp)|(apply ab;intro X Y;go_simp;apply Y;clear Y X)
  go_simp
theorem DG (p:ByteArray) (hl:(bu p).length≤1000000) : VC Tryz.prog 122 [fr (bu p),.lit (.func (.func 123) #[] #[])] (B (iq p)):=by
 have g:=QG (bu p) hl;unfold iq;rw [←y7];generalize ixP (fun j=>lR (tat (bu p) j)) 0 (bu p).length=R at *;generalize bu p=W at *;refine aK Tryz.func122 rfl (by kernel_rfl) rfl fun M0 w0=>?_;simp only [Tryz.ntmps122,Tryz.results122,az];repeat' first|(with_reducible first|apply af|apply ae|apply aq|apply aa|refine ah [] ?_)|((with_reducible apply ab);intro X Y;go_simp;(first|(refine ⟨_,g,?_⟩)|skip);apply Y;clear Y X)
 go_simp
set_option maxHeartbeats 4000000
theorem I_ {p:ByteArray} (h:p.size≤100000) : (bu p).length≤100001∧∀ c∈bu p,c.size≤100000:=by
 unfold bu;split
 ·simp
 ·have:=mi 32 p;exact ⟨by omega,fun c hc=>Nat.le_trans (lM hc) h⟩
theorem Ja (t:ByteArray) (ht:t.size≤100000) (hb:k8 (aP 124 t)=false) : VC Tryz.prog 62 [S t] (.tup [ez (dO (aP 124 t)),I 0]):=by
 have g1:=qI t 124 (by omega);have cP:=mi 124 t;have dE:∀ p∈aP 124 t,p.size≤100000:=fun p hp=>Nat.le_trans (lM hp) ht;generalize aP 124 t=w at *;unfold k8 at hb;simp only [Bool.or_eq_false_iff,Bool.not_eq_false',decide_eq_true_eq] at hb;obtain ⟨⟨⟨h3,hn⟩,hr⟩,hk⟩:=hb;have tc:(tat w 0).size≤100000:=dE _ (tY (by omega));have g2:=og (tat w 0) (by omega);rw [hn] at g2;obtain ⟨tm,kk⟩ : ∃ tm,je (tat w 0).data.toList=tm:=⟨_,rfl⟩
 rw [kk] at g2;have ha:w[0]=tat w 0:=(bc (by omega)).symm;have cC:ez (dO w) = .agg [.sl 1 ((cA (dO w).q).map fun l=>[AV.sl 1 l]),.sl 3 ((tkK (eM w) (eM w).length).map Tk.av),I tm]:=by
  have e2:(dO w).tk=tkK (eM w) (eM w).length:=by
   unfold tkK;rw [List.take_length];rfl
  have e3:(dO w).time=tm:=kk;rw [←e2,←e3]
 rw [cC];rw [←DA,qV];have HQ:Hid (∀ k,k < w.length - 2→cF (dO w) (k+1)=cF (dO w) k++[[.sl 1 ((bu (tat w (1+k))).map cL)]]∧(cF (dO w) k).length=k∧iq (tat w (1+k))=false):=Lib.hid fun k hk=>by
  have h1:k < (dO w).q.length:=by rw [qV];exact hk
  have hb1:iq (tat w (1+k))=false:=by
   cases hb:iq (tat w (1+k))
   ·rfl
   ·rw [ig hk hb] at hr;cases hr
  refine ⟨?_,uf (by omega),hb1⟩;rw [xf h1,zS hk]
 have HK:Hid (∀ k,k < (eM w).length→fU (tat (eM w) k)=false):=Lib.hid fun k cp=>by
  cases hb:fU (tat (eM w) k)
  ·rfl
  ·rw [ig cp hb] at hk;cases hk
 have HZ:=Lib.hid dE;have lC:w.length≤200000:=by omega
 have xh:¬(w.length:Int) < 3:=by omega
 have l0:0 < w.length:=by omega
 have x6:=cj (x:=(w.length:Int) - 1) (by omega) (by omega);have x7:((w.length:Int) - 1).toNat=w.length - 1:=by omega
 have x8:(1:Int)≤(w.length:Int) - 1:=by omega
 have x9:1≤w.length - 1:=by omega
 clear cC hr hk kk hn dE cP ht tc;generalize dO w=ST at *;have e0:cF ST 0=[]:=rfl;refine aK Tryz.func62 rfl (by kernel_rfl) rfl fun M0 w0=>?_;simp only [Tryz.ntmps62,Tryz.results62,az];repeat' with_reducible first|apply af|apply ae|apply aj|apply ar|apply aa|refine ah [] ?_|(apply ak;·go_simp)|(apply ab;intro X Y;go_simp;(first|(refine ⟨_,g1,?_⟩)|(refine ⟨_,g2,?_⟩)|skip);apply Y;clear Y X)
 have ba:(List.take (w.length - 1) (List.map cL w)).tail=((w.drop 1).take (w.length - 2)).map cL:=by
  rw [←List.drop_one,List.drop_take,List.map_take,List.map_drop];rfl
 have fQ:((w.drop 1).take (w.length - 2)).length=w.length - 2:=by
  simp only [List.length_take,List.length_drop];omega
 have nQ:∀ k (hk:k < ((w.drop 1).take (w.length - 2)).length),((w.drop 1).take (w.length - 2))[k]=tat w (1+k):=fun k hk=>by
  rw [List.getElem_take,List.getElem_drop,bc]
 rw [ba,show w.length - 1 - 1=w.length - 2 from rfl];have HA:=Lib.hid nQ;clear ba nQ;generalize (w.drop 1).take (w.length - 2)=Q at *;rw [←fQ] at HQ ⊢;have kH:=Lib.hid fQ;clear fQ;refine fa (fun p a w R=>⟨_,R.nilCell (bi:=1) (j:=0) (e:=62) (sz:=1) rfl rfl (by decide)⟩) ?_;go_simp;refine fa (fun p a w R=>⟨_,R.nilCell (bi:=1) (j:=1) (e:=148) (sz:=3) rfl rfl (by decide)⟩) ?_;go_simp;apply iy [2,4,7,43,44] (fun k=>[(45,I k)]) (fun k=>([some (.box [aZ,aZ,I 0]),some (.box [.osl 2,.osl 3,I tm]),some (.arr 62 1 (decide (cF ST k=[])) (cF ST k)),some (.arr 148 3 true [])] : Hp))  (Q.length)
 ·go_simp<;>exact rfl
 ·go_simp
 ·intro k hk K hK;obtain ⟨w1,w2,w3,w4,w5,w6⟩:=ixs (m:=k) (by have:=kH.out;omega);obtain ⟨hs,hl,nC⟩:=HQ.out k hk;have dC:1+k < w.length:=by
   have:=kH.out;omega
  have Jb:Q.length≤200000:=by
   have:=kH.out;omega
  have hz:=HZ.out w[1+k] (List.getElem_mem dC);rw [←bc dC] at hz;have gw:=xi (tat w (1+k)) (by omega);have eg:=I_ hz;have gh:=DG (tat w (1+k)) (by omega);rw [nC] at gh;have hb:(cF ST k).length+1≤1000000000:=by omega
  have qk:=HA.out k hk;have HS:=Lib.hid hs;rw [HS.out] at hK;clear hs hl hz eg HS nC HQ HK HA;generalize cF ST k=RV at *;generalize bu (tat w (1+k))=W at *;repeat' first|(with_reducible first|apply af|apply ae|apply aj|apply ar|apply aT|apply aa|refine ah [] ?_|(apply ao;·go_simp)|(apply ak;·go_simp))|((with_reducible apply ab);intro X Y;go_simp;(first|(refine ⟨_,gw,?_⟩)|(refine ⟨_,gh,?_⟩)|skip);apply Y;clear Y X)
  refine hK _ ?_;go_simp
 ·intro K;obtain ⟨m,hm⟩ : ∃ m,m=w.length - 1:=⟨_,rfl⟩
  have kE:m < w.length:=by omega
  have y1:(w.length:Int) - 1=(m:Int):=by omega
  have y2:=cj (x:=(m:Int)) (by omega) (by omega);have qk:w[m]=tat w m:=(bc kE).symm;have hz:=HZ.out w[m] (List.getElem_mem kE);rw [qk] at hz;have gw:=xi (tat w m) (by omega);have eg:=I_ hz;unfold eM at HK ⊢;rw [←hm] at HK ⊢;clear hm x6 x7 x8 x9 kH;have HW:=Lib.hid eg;clear hz HQ HA eg HZ;generalize bu (tat w m)=W at *;have eg:=HW.out.1;generalize cF ST Q.length=RV at *;have e1:tkK W 0=[]:=rfl;repeat' first|(with_reducible first|apply af|apply ae|apply aW|apply aX|apply ar|apply aY|apply aa|refine ah [] ?_|(apply ak;·go_simp))|((with_reducible apply ab);intro X Y;go_simp;(first|(refine ⟨_,gw,?_⟩)|skip);apply Y;clear Y X)
  apply iy [2,7,67,68] (fun k=>[(69,I k)]) (fun k=>([some (.box [aZ,aZ,I 0]),some (.box [.osl 2,.osl 3,I tm]),some (.arr 62 1 (decide (RV=[])) RV),some (.arr 148 3 (decide (tkK W k=[])) ((tkK W k).map Tk.av))] : Hp))  (W.length)
  ·go_simp<;>exact rfl
  ·go_simp
  ·intro j hj K2 cB;obtain ⟨v1,v2,v3,v4,v5,v6⟩:=ixs (m:=j) (by omega);have fi:=HK.out j hj;have lX:=HW.out.2 _ (List.getElem_mem hj);have qj:W[j]=tat W j:=(bc hj).symm;rw [qj] at lX;have gs:=qI (tat W j) 58 (by omega);have hs:=zT hj;have iW:=zU (l:=W) (k:=j) (by omega);have hb:(tkK W j).length+1≤1000000000:=by omega
   have fy:∀ p∈aP 58 (tat W j),p.size≤100000:=fun p hp=>Nat.le_trans (lM hp) lX;unfold fU at fi;unfold tkW at hs;simp only [Bool.or_eq_false_iff,Bool.not_eq_false',decide_eq_false_iff_not,decide_eq_true_eq] at fi;obtain ⟨⟨⟨b1,b2⟩,b3⟩,b4⟩:=fi;generalize aP 58 (tat W j)=PP at *;have q0:PP[0]=tat PP 0:=(bc (by omega)).symm;have q1:PP[1]=tat PP 1:=(bc (by omega)).symm;have q2:PP[2]=tat PP 2:=(bc (by omega)).symm;have z1:(tat PP 1).size≤100000:=by rw [←q1];exact fy _ (List.getElem_mem _)
   have z2:(tat PP 2).size≤100000:=by rw [←q2];exact fy _ (List.getElem_mem _)
   have g3:=og (tat PP 1) (by omega);have g4:=og (tat PP 2) (by omega);rw [b3] at g3;rw [b4] at g4;have b5:(PP.length:Int)=3:=by omega
   have b6:¬tat PP 0=ByteArray.empty:=b2;have HS:=Lib.hid hs;clear hs iW b3 b4 z1 z2 fy lX;generalize je (tat PP 1).data.toList=N1 at *;generalize je (tat PP 2).data.toList=N2 at *;repeat' first|(with_reducible first|apply af|apply ae|apply aj|apply ar|apply aT|apply aa|refine ah [] ?_|apply aI|(apply ao;·go_simp)|(apply ak;·go_simp)|((first|apply ab|apply aJ);intro X Y;go_simp;(first|(refine ⟨_,gs,?_⟩)|(refine ⟨_,g3,?_⟩)|(refine ⟨_,g4,?_⟩)|skip);apply Y;clear Y X))|((refine aQ 12 9 [] rfl (by kernel_rfl) ?_);simp only [aA])
   refine cB _ ?_;rw [HS.out];go_simp
  ·intro K2;repeat' with_reducible apply af
   refine hZ 1 0 2 rfl rfl rfl ?_;refine hZ 1 1 3 rfl rfl rfl ?_;repeat' with_reducible first|apply af|apply ae|apply aW|apply aq|apply aX|apply aY|apply aa|refine ah [] ?_|(apply ak;·go_simp)|(apply ab;intro X Y;go_simp;apply Y;clear Y X)
   go_simp
theorem QH (t:ByteArray) (ht:t.size≤1000) (hb:k8 (aP 124 t)=true) : VC Tryz.prog 62 [S t] (.tup [.agg [aZ,aZ,I 0],I 7]):=by
 have g1:=qI t 124 (by omega);have cP:=mi 124 t;have dE:∀ p∈aP 124 t,p.size≤1000:=fun p hp=>Nat.le_trans (lM hp) ht;have l0:0 < (aP 124 t).length:=by
  unfold aP;rw [List.length_map];exact List.length_pos_iff.2 (vP _ _)
 generalize aP 124 t=w at *;have ha:w[0]=tat w 0:=(bc (by omega)).symm;have tc:(tat w 0).size≤1000:=dE _ (tY (by omega));have g2:=og (tat w 0) (by omega);obtain ⟨tm,kk⟩ : ∃ tm,je (tat w 0).data.toList=tm:=⟨_,rfl⟩
 rw [kk] at g2;unfold k8 at hb;cases iu:jd (tat w 0).data.toList
 ·rw [iu] at g2;clear hb dE cP ht kk tc iu;refine aK Tryz.func62 rfl (by kernel_rfl) rfl fun M0 w0=>?_;simp only [Tryz.ntmps62,Tryz.results62,az];repeat' with_reducible first|apply af|apply ae|apply aF|apply aq|apply aa|refine ah [] ?_|(apply ao;·go_simp)|(apply ab;intro X Y;go_simp;(first|(refine ⟨_,g1,?_⟩)|(refine ⟨_,g2,?_⟩)|skip);apply Y;clear Y X)
  go_simp
 rw [iu] at g2 hb;by_cases h3:3≤w.length
 rotate_left
 ·have xh:(w.length:Int) < 3:=by omega
  clear hb dE cP ht kk tc iu;refine aK Tryz.func62 rfl (by kernel_rfl) rfl fun M0 w0=>?_;simp only [Tryz.ntmps62,Tryz.results62,az];repeat' with_reducible first|apply af|apply ae|apply aF|apply aq|apply aa|refine ah [] ?_|(apply ao;·go_simp)|(apply ab;intro X Y;go_simp;(first|(refine ⟨_,g1,?_⟩)|(refine ⟨_,g2,?_⟩)|skip);apply Y;clear Y X)
  go_simp
 rw [decide_eq_true h3] at hb;simp only [Bool.not_true,Bool.false_or] at hb;have xh:¬(w.length:Int) < 3:=by omega
 have py:=Lib.hid hb;have HQ:Hid (∀ k,k < w.length - 2→cF (dO w) (k+1)=cF (dO w) k++[[.sl 1 ((bu (tat w (1+k))).map cL)]]∧(cF (dO w) k).length=k):=Lib.hid fun k hk=>by
  have h1:k < (dO w).q.length:=by rw [qV];exact hk
  refine ⟨?_,uf (by omega)⟩;rw [xf h1,zS hk]
 have HZ:=Lib.hid dE;have lC:w.length≤2000:=by omega
 have x6:=cj (x:=(w.length:Int) - 1) (by omega) (by omega);have x7:((w.length:Int) - 1).toNat=w.length - 1:=by omega
 have x8:(1:Int)≤(w.length:Int) - 1:=by omega
 have x9:1≤w.length - 1:=by omega
 clear hb kk iu dE cP ht tc;generalize dO w=ST at *;have e0:cF ST 0=[]:=rfl;refine aK Tryz.func62 rfl (by kernel_rfl) rfl fun M0 w0=>?_;simp only [Tryz.ntmps62,Tryz.results62,az];repeat' with_reducible first|apply af|apply ae|apply aj|apply ar|apply aa|refine ah [] ?_|(apply ak;·go_simp)|(apply ab;intro X Y;go_simp;(first|(refine ⟨_,g1,?_⟩)|(refine ⟨_,g2,?_⟩)|skip);apply Y;clear Y X)
 have ba:(List.take (w.length - 1) (List.map cL w)).tail=((w.drop 1).take (w.length - 2)).map cL:=by
  rw [←List.drop_one,List.drop_take,List.map_take,List.map_drop];rfl
 have fQ:((w.drop 1).take (w.length - 2)).length=w.length - 2:=by
  simp only [List.length_take,List.length_drop];omega
 have nQ:∀ k (hk:k < ((w.drop 1).take (w.length - 2)).length),((w.drop 1).take (w.length - 2))[k]=tat w (1+k):=fun k hk=>by
  rw [List.getElem_take,List.getElem_drop,bc]
 rw [ba,show w.length - 1 - 1=w.length - 2 from rfl];have HA:=Lib.hid nQ;clear ba nQ;generalize (w.drop 1).take (w.length - 2)=Q at *;rw [←fQ] at HQ py ⊢;have kH:=Lib.hid fQ;clear fQ;refine fa (fun p a w R=>⟨_,R.nilCell (bi:=1) (j:=0) (e:=62) (sz:=1) rfl rfl (by decide)⟩) ?_;go_simp;refine fa (fun p a w R=>⟨_,R.nilCell (bi:=1) (j:=1) (e:=148) (sz:=3) rfl rfl (by decide)⟩) ?_;go_simp;apply ch [2,4,7,43,44] (fun k=>[(45,I k)]) (fun k=>([some (.box [aZ,aZ,I 0]),some (.box [.osl 2,.osl 3,I tm]),some (.arr 62 1 (decide (cF ST k=[])) (cF ST k)),some (.arr 148 3 true [])] : Hp)) (fun k=>iq (tat w (1+k))) (Q.length)
 ·go_simp<;>exact rfl
 ·go_simp
 ·intro k hk HB HP K hK;obtain ⟨w1,w2,w3,w4,w5,w6⟩:=ixs (m:=k) (by have:=kH.out;omega);obtain ⟨hs,hl⟩:=HQ.out k hk;have nC:iq (tat w (1+k))=false:=HP.out;have dC:1+k < w.length:=by
   have:=kH.out;omega
  have Jb:Q.length≤2000:=by
   have:=kH.out;omega
  have hz:=HZ.out w[1+k] (List.getElem_mem dC);rw [←bc dC] at hz;have gw:=xi (tat w (1+k)) (by omega);have eg:=oz hz;have gh:=DG (tat w (1+k)) (by omega);rw [nC] at gh;have hb:(cF ST k).length+1≤1000000000:=by omega
  have qk:=HA.out k hk;have HS:=Lib.hid hs;rw [HS.out] at hK;clear hs hl hz eg HS nC HQ py HA HB HP;generalize cF ST k=RV at *;generalize bu (tat w (1+k))=W at *;repeat' first|(with_reducible first|apply af|apply ae|apply aj|apply ar|apply aT|apply aa|refine ah [] ?_|(apply ao;·go_simp)|(apply ak;·go_simp))|((with_reducible apply ab);intro X Y;go_simp;(first|(refine ⟨_,gw,?_⟩)|(refine ⟨_,gh,?_⟩)|skip);apply Y;clear Y X)
  refine hK _ ?_;go_simp
 ·intro k hk HB HP K;obtain ⟨w1,w2,w3,w4,w5,w6⟩:=ixs (m:=k) (by have:=kH.out;omega);obtain ⟨hs,hl⟩:=HQ.out k hk;have nC:iq (tat w (1+k))=true:=HP.out;have dC:1+k < w.length:=by
   have:=kH.out;omega
  have Jb:Q.length≤2000:=by
   have:=kH.out;omega
  have hz:=HZ.out w[1+k] (List.getElem_mem dC);rw [←bc dC] at hz;have gw:=xi (tat w (1+k)) (by omega);have eg:=oz hz;have gh:=DG (tat w (1+k)) (by omega);rw [nC] at gh;have hb:(cF ST k).length+1≤1000000000:=by omega
  have qk:=HA.out k hk;have HS:=Lib.hid hs;clear hs hl hz eg HS nC HQ py HA HB HP;generalize cF ST k=RV at *;generalize bu (tat w (1+k))=W at *;repeat' first|(with_reducible first|apply af|apply ae|apply aF|apply aq|apply aj|apply ar|apply b_|apply aa|refine ah [] ?_|(apply ao;·go_simp))|((with_reducible apply ab);intro X Y;go_simp;(first|(refine ⟨_,gw,?_⟩)|(refine ⟨_,gh,?_⟩)|skip);apply Y;clear Y X)
  go_simp
 ·intro HB K;have HK:Hid (cQ (fun j=>fU (tat (eM w) j)) 0 (eM w).length=true):=Lib.hid (by
   have:=py.out;rw [gI (p:=fun k=>iq (tat w (1+k))) HB.out,Bool.false_or] at this;exact this)
  clear py HB;obtain ⟨m,hm⟩ : ∃ m,m=w.length - 1:=⟨_,rfl⟩
  have kE:m < w.length:=by omega
  have y1:(w.length:Int) - 1=(m:Int):=by omega
  have y2:=cj (x:=(m:Int)) (by omega) (by omega);have qk:w[m]=tat w m:=(bc kE).symm;have hz:=HZ.out w[m] (List.getElem_mem kE);rw [qk] at hz;have gw:=xi (tat w m) (by omega);have eg:=oz hz;unfold eM at HK;rw [←hm] at HK;clear hm x6 x7 x8 x9 kH;have HW:=Lib.hid eg;clear hz HQ HA eg HZ;generalize bu (tat w m)=W at *;have eg:=HW.out.1;generalize cF ST Q.length=RV at *;have e1:tkK W 0=[]:=rfl;repeat' first|(with_reducible first|apply af|apply ae|apply aW|apply aX|apply ar|apply aY|apply aa|refine ah [] ?_|(apply ak;·go_simp))|((with_reducible apply ab);intro X Y;go_simp;(first|(refine ⟨_,gw,?_⟩)|skip);apply Y;clear Y X)
  apply ch [2,7,67,68] (fun k=>[(69,I k)]) (fun k=>([some (.box [aZ,aZ,I 0]),some (.box [.osl 2,.osl 3,I tm]),some (.arr 62 1 (decide (RV=[])) RV),some (.arr 148 3 (decide (tkK W k=[])) ((tkK W k).map Tk.av))] : Hp)) (fun j=>fU (tat W j)) (W.length)
  ·go_simp<;>exact rfl
  ·go_simp
  ·intro j hj cb cx K2 cB;obtain ⟨v1,v2,v3,v4,v5,v6⟩:=ixs (m:=j) (by omega);have fi:fU (tat W j)=false:=cx.out;have lX:=HW.out.2 _ (List.getElem_mem hj);have qj:W[j]=tat W j:=(bc hj).symm;rw [qj] at lX;have gs:=qI (tat W j) 58 (by omega);have hs:=zT hj;have iW:=zU (l:=W) (k:=j) (by omega);have hb:(tkK W j).length+1≤1000000000:=by omega
   have fy:∀ p∈aP 58 (tat W j),p.size≤1000:=fun p hp=>Nat.le_trans (lM hp) lX;unfold fU at fi;unfold tkW at hs;simp only [Bool.or_eq_false_iff,Bool.not_eq_false',decide_eq_false_iff_not,decide_eq_true_eq] at fi;obtain ⟨⟨⟨b1,b2⟩,b3⟩,b4⟩:=fi;generalize aP 58 (tat W j)=PP at *;have q0:PP[0]=tat PP 0:=(bc (by omega)).symm;have q1:PP[1]=tat PP 1:=(bc (by omega)).symm;have q2:PP[2]=tat PP 2:=(bc (by omega)).symm;have z1:(tat PP 1).size≤1000:=by rw [←q1];exact fy _ (List.getElem_mem _)
   have z2:(tat PP 2).size≤1000:=by rw [←q2];exact fy _ (List.getElem_mem _)
   have g3:=og (tat PP 1) (by omega);have g4:=og (tat PP 2) (by omega);rw [b3] at g3;rw [b4] at g4;have b5:(PP.length:Int)=3:=by omega
   have b6:¬tat PP 0=ByteArray.empty:=b2;have HS:=Lib.hid hs;clear cb cx HK HW hs iW b3 b4 z1 z2 fy lX;generalize je (tat PP 1).data.toList=N1 at *;generalize je (tat PP 2).data.toList=N2 at *;repeat' first|(with_reducible first|apply af|apply ae|apply aj|apply ar|apply aT|apply aa|refine ah [] ?_|apply aI|(apply ao;·go_simp)|(apply ak;·go_simp)|((first|apply ab|apply aJ);intro X Y;go_simp;(first|(refine ⟨_,gs,?_⟩)|(refine ⟨_,g3,?_⟩)|(refine ⟨_,g4,?_⟩)|skip);apply Y;clear Y X))|((refine aQ 12 9 [] rfl (by kernel_rfl) ?_);simp only [aA])
   refine cB _ ?_;rw [HS.out];go_simp
  ·intro j hj cb cx K2;have fi:fU (tat W j)=true:=cx.out;have lX:=HW.out.2 _ (List.getElem_mem hj);have qj:W[j]=tat W j:=(bc hj).symm;rw [qj] at lX;have gs:=qI (tat W j) 58 (by omega);have fy:∀ p∈aP 58 (tat W j),p.size≤1000:=fun p hp=>Nat.le_trans (lM hp) lX;unfold fU at fi;clear cb cx HK HW;generalize tkK W j=TK at *;generalize aP 58 (tat W j)=PP at *;by_cases b1:PP.length=3
   ·rw [decide_eq_true b1,Bool.not_true,Bool.false_or] at fi;have b5:(PP.length:Int)=3:=by omega
    have q0:PP[0]=tat PP 0:=(bc (by omega)).symm;have q1:PP[1]=tat PP 1:=(bc (by omega)).symm;have q2:PP[2]=tat PP 2:=(bc (by omega)).symm;have z1:(tat PP 1).size≤1000:=by rw [←q1];exact fy _ (List.getElem_mem _)
    have z2:(tat PP 2).size≤1000:=by rw [←q2];exact fy _ (List.getElem_mem _)
    have g3:=og (tat PP 1) (by omega);have g4:=og (tat PP 2) (by omega);by_cases b2:tat PP 0=⟨#[]⟩
    ·have b6:tat PP 0=ByteArray.empty:=b2;clear z1 z2 fy lX fi;repeat' with_reducible first|apply af|apply ae|apply aF|apply aq|apply aj|apply ar|apply b_|apply aa|refine ah [] ?_|(apply ao;·go_simp)|(apply ab;intro X Y;go_simp;(first|(refine ⟨_,gs,?_⟩)|skip);apply Y;clear Y X)
     go_simp
    ·have b6:¬tat PP 0=ByteArray.empty:=b2;rw [decide_eq_false b2,Bool.false_or] at fi;clear z1 z2 fy lX;generalize je (tat PP 1).data.toList=N1 at *;generalize je (tat PP 2).data.toList=N2 at *;cases o1:jd (tat PP 1).data.toList
     ·rw [o1] at g3;clear o1 fi;repeat' with_reducible first|apply af|apply ae|apply aF|apply aq|apply aj|apply ar|apply b_|apply aa|refine ah [] ?_|(apply ao;·go_simp)|(apply ak;·go_simp)|(apply ab;intro X Y;go_simp;(first|(refine ⟨_,gs,?_⟩)|(refine ⟨_,g3,?_⟩)|(refine ⟨_,g4,?_⟩)|skip);apply Y;clear Y X)
      go_simp
     ·rw [o1,Bool.not_true,Bool.false_or,Bool.not_eq_true'] at fi;rw [o1] at g3;rw [fi] at g4;clear o1 fi;repeat' with_reducible first|apply af|apply ae|apply aF|apply aq|apply aj|apply ar|apply b_|apply aa|refine ah [] ?_|(apply ao;·go_simp)|(apply ak;·go_simp)|(apply ab;intro X Y;go_simp;(first|(refine ⟨_,gs,?_⟩)|(refine ⟨_,g3,?_⟩)|(refine ⟨_,g4,?_⟩)|skip);apply Y;clear Y X)
      go_simp
   ·have b5:¬(PP.length:Int)=3:=by omega
    clear fy lX fi;repeat' with_reducible first|apply af|apply ae|apply aF|apply aq|apply aj|apply ar|apply b_|apply aa|refine ah [] ?_|(apply ao;·go_simp)|(apply ab;intro X Y;go_simp;(first|(refine ⟨_,gs,?_⟩)|skip);apply Y;clear Y X)
    go_simp
  ·intro cb K2;have:=HK.out;rw [gI cb.out] at this;cases this
end Go.Proofs.YtoibondihdhnoaaGreatDoor
