/- Texts in one: Walks on plain values: texts that are cut, decimal numerals, numbers that are read; texts of at most 1000 bytes. -/
import Derived.Test.YtoibondihdhnoaaGreatDoorFRZ34
import Derived.Test.YtoibondihdhnoaaGreatDoorFRZ35
namespace Go.Proofs.YtoibondihdhnoaaGreatDoor
open Go.RowKit
set_option maxRecDepth 100000
set_option maxHeartbeats 1000000
def txL (l:List UInt8) : List AV:=[S (mkB l)]
attribute [go_sem] txL
theorem kZ (s:ByteArray) : s.data.toList.length=s.size:=(Lib.size_eq s).symm
theorem Gt {s:ByteArray} {k:Nat} (h:k < s.size) : s.data.toList[k]? = some (cR s k):=by
 have h':k < s.data.toList.length:=by rw [kZ];exact h
 rw [List.getElem?_eq_getElem h'];simp only [cR,List.getD,List.getElem?_eq_getElem h',Option.getD_some]
@[go_sem] theorem R6:dY 0 []=0:=pf 0
@[go_sem] theorem R7 (c:UInt8) (l:List UInt8) : fh c l 0=0:=rfl
@[go_sem] theorem R8 (c:UInt8) (l:List UInt8) : jc c l 0=[]:=rfl
theorem Mx {a b:UInt8} : ((a.toNat:Int)=(b.toNat:Int))↔a=b:=by
 rw [Int.ofNat_inj,UInt8.toNat_inj]
theorem Gu {s:ByteArray} {i j:Nat} : s.extract i j=mkB ((s.data.toList.drop i).take (j - i)):=Cl s i j
theorem My (s:ByteArray) (c:UInt8) (hs:s.size≤1000000) : VC Tryz.prog 110 [S s,.lit (.int .u8 c.toNat)] (.sl 1 ((dK c s.data.toList).map txL)):=by
 have ax:=Ms c s.data.toList;rw [kZ] at ax;have vZ:=Lib.hid ax;clear ax;refine il Tryz.func110 rfl (by kernel_rfl) (by kernel_rfl) rfl fun M0 w0=>?_;simp only [Tryz.ntmps110,Tryz.results110,az];repeat' first|(with_reducible first|apply af|apply ae|apply ar|apply aa|refine ah [5] ?_)|((with_reducible refine ab fun Y Z=>?_);go_simp;refine Z _ ?_;clear Z Y)
 apply iy [0,1] (fun k=>[(7,I (k:Int)),(6,I (fh c s.data.toList k:Nat)),(5,.osl 0)]) (fun k=>([some (.arr 9 1 (decide (jc c s.data.toList k=[])) ((jc c s.data.toList k).map txL))] : Hp))  (s.size)
 ·go_simp<;>exact rfl
 ·go_simp
 ·intro k hk K hK;obtain ⟨w1,w2,w3,w4,w5,w6⟩:=ixs (m:=k) (by omega);have hf:=vQ c s.data.toList k;have ho:=Ck c s.data.toList k;have n1:fh c s.data.toList (k+1)=if cR s k=c then k+1 else fh c s.data.toList k:=by rw [fh,Gt hk];simp
  have n2:jc c s.data.toList (k+1)=if cR s k=c then jc c s.data.toList k++[(s.data.toList.drop (fh c s.data.toList k)).take (k - fh c s.data.toList k)] else jc c s.data.toList k:=by rw [jc,Gt hk];simp
  have hb:(jc c s.data.toList k).length+1≤1000000000:=by omega
  have he:s.extract (fh c s.data.toList k) k=mkB ((s.data.toList.drop (fh c s.data.toList k)).take (k - fh c s.data.toList k)):=Gu;have fO:(k:Int) < s.size:=by omega
  have kM:k≤s.size:=by omega
  generalize jc c s.data.toList k=O at *;generalize fh c s.data.toList k=F at *;generalize (s.data.toList.drop F).take (k - F)=X at *;have zj:(F:Int)≤k:=by omega
  by_cases hc:cR s k=c
  ·rw [if_pos hc] at n1 n2;have gZ:((cR s k).toNat:Int)=c.toNat:=by rw [hc]
   have N1:=Lib.hid n1;have N2:=Lib.hid n2;clear n1 n2 ho hc;repeat' first|(with_reducible first|apply af|apply ae|apply aj|apply ar|apply aT|apply aa|refine ah [] ?_)|((with_reducible refine ao ?_ ?_);(focus (go_simp;done)))|((with_reducible refine ab fun Y Z=>?_);go_simp;refine Z _ ?_;clear Z Y)
   refine hK _ ?_;rw [N1.out,N2.out];go_simp
  ·rw [if_neg hc] at n1 n2;have gZ:¬((cR s k).toNat:Int)=c.toNat:=fun e=>hc (Mx.1 e);have N1:=Lib.hid n1;have N2:=Lib.hid n2;clear n1 n2 ho hc;repeat' first|(with_reducible first|apply af|apply ae|apply aj|apply ar|apply aT|apply aa|refine ah [] ?_)|((with_reducible refine ao ?_ ?_);(focus (go_simp;done)))|((with_reducible refine ak ?_ ?_);(focus (go_simp;done)))|((with_reducible refine ab fun Y Z=>?_);go_simp;refine Z _ ?_;clear Z Y)
   refine hK _ ?_;rw [N1.out,N2.out];go_simp
 ·intro K;have hf:=vQ c s.data.toList s.size;have ho:=Ck c s.data.toList s.size;have hb:(jc c s.data.toList s.size).length+1≤1000000000:=by omega
  have he:s.extract (fh c s.data.toList s.size) s.size=mkB (s.data.toList.drop (fh c s.data.toList s.size)):=by
   rw [Gu,List.take_of_length_le (by rw [List.length_drop,kZ];exact Nat.le_refl _)]
  rw [vZ.out];generalize jc c s.data.toList s.size=O at *;generalize fh c s.data.toList s.size=F at *;have zj:(F:Int)≤s.size:=by omega
  clear vZ ho;repeat' first|(with_reducible first|apply af|apply ae|apply aW|apply aq|apply aX|apply aY|apply aa|refine ah [] ?_)|((with_reducible refine ak ?_ ?_);(focus (go_simp;done)))|((with_reducible refine ab fun Y Z=>?_);go_simp;refine Z _ ?_;clear Z Y)
  go_simp
theorem Gv (n:Int) (h : -1000000000≤n∧n≤1000000000) : VC Tryz.prog 152 [I n] (I (n.natAbs:Int)):=by
 have w1:=cj (x:=-n) (by omega) (by omega);refine il Tryz.func152 rfl (by kernel_rfl) (by kernel_rfl) rfl fun M0 w0=>?_;simp only [Tryz.ntmps152,Tryz.results152,az];by_cases hn:n < 0
 ·have e:(n.natAbs:Int) = -n:=by omega
  have e2:max n (-n) = -n:=by omega
  repeat' first|(with_reducible first|apply af|apply ae|apply aq|apply aa|refine ah [] ?_)|((with_reducible refine ab fun Y Z=>?_);go_simp;refine Z _ ?_;clear Z Y)
  all_goals (go_simp;first|done|(simp_all [];done)|(simp only [];(try intros);(repeat' split)<;>(first|rfl|omega|(simp_all;done)|(simp_all;omega)))|((try intros);(repeat' split)<;>(first|rfl|omega|(simp_all;done)|(simp_all;omega))))
 ·have e:(n.natAbs:Int)=n:=by omega
  have e2:max n (-n)=n:=by omega
  repeat' first|(with_reducible first|apply af|apply ae|apply aq|apply aa|refine ah [] ?_)|((with_reducible refine ab fun Y Z=>?_);go_simp;refine Z _ ?_;clear Z Y)
  all_goals (go_simp;first|done|(simp_all [];done)|(simp only [];(try intros);(repeat' split)<;>(first|rfl|omega|(simp_all;done)|(simp_all;omega)))|((try intros);(repeat' split)<;>(first|rfl|omega|(simp_all;done)|(simp_all;omega))))
@[go_sem] theorem R9:mkB []=⟨#[]⟩:=rfl
theorem v_ (x:UInt8) (l:List UInt8) : (⟨#[x]⟩ : ByteArray)++mkB l=mkB (x::l):=by
 apply ByteArray.ext;simp [mkB,ByteArray.data_append]
def ca (n:Int) : ByteArray:=mkB (Lib.itoa n)
theorem wc (n:Int) (h : -9223372036854775808≤n∧n≤9223372036854775807) : VC Tryz.prog 113 [I n] (S (ca n)):=by
 by_cases h0:n=0
 ·subst h0;have e:ca 0=⟨#[48]⟩:=by unfold ca Lib.itoa;rw [if_neg (by decide)];show mkB (Lib.decDigits 0)=_;rw [zg];rfl
  rw [e];refine il Tryz.func113 rfl (by kernel_rfl) (by kernel_rfl) rfl fun M0 w0=>?_;simp only [Tryz.ntmps113,Tryz.results113,az];repeat' first|(with_reducible first|apply af|apply ae|apply aF|apply aq|apply aa|refine ah [] ?_)|((with_reducible refine ao ?_ ?_);(focus (go_simp;done)))|((with_reducible refine ab fun Y Z=>?_);go_simp;refine Z _ ?_;clear Z Y)
  go_simp
 ·obtain ⟨T,hT⟩ : ∃ T,pg n.natAbs=T:=⟨_,rfl⟩
  have HT:=Lib.hid hT;have hd:ca n=(if n < 0 then (⟨#[45]⟩ : ByteArray) else ⟨#[]⟩)++mkB T:=by
   rw [←hT,zi (by omega)];unfold ca Lib.itoa;split
   ·rw [v_]
   ·have:n.toNat=n.natAbs:=by omega
    rw [this];apply ByteArray.ext;simp [mkB,ByteArray.data_append]
  rw [hd];have Gw:T.length≤20:=by
   rw [←hT,zi (by omega)];exact zh 19 _ (by omega)
  have ng:=Lib.hid Gw;clear hd hT Gw;refine il Tryz.func113 rfl (by kernel_rfl) (by kernel_rfl) rfl fun M0 w0=>?_;simp only [Tryz.ntmps113,Tryz.results113,az];by_cases hn:n < 0
  ·rw [if_pos hn];repeat' first|(with_reducible first|apply af|apply ae|apply aj|apply ar|apply aa|refine ah [] ?_)|((with_reducible refine ao ?_ ?_);(focus (go_simp;done)))|((with_reducible refine ak ?_ ?_);(focus (go_simp;done)))|((with_reducible refine ab fun Y Z=>?_);go_simp;refine Z _ ?_;clear Z Y)
   apply rU (α:=Int×List UInt8) [4] (fun (q:Int×List UInt8)=>[(0,I q.1),(3,S (mkB q.2))]) (fun (q:Int×List UInt8)=>([] : Hp)) (fun (q:Int×List UInt8)=>Hid (pg q.1.natAbs++q.2=T)∧-9223372036854775808≤q.1∧q.1≤9223372036854775807) (fun (q:Int×List UInt8)=>q.1.natAbs) ((n,[])) ⟨Lib.hid (by rw [List.append_nil];exact HT.out),h.1,h.2⟩
   ·(go_simp<;>exact rfl)
   ·go_simp
   rintro ⟨m,acc⟩ ⟨hf,b1,b2⟩ K hK;simp only at hf b1 b2;by_cases hm:m=0
   ·subst hm;have e:T=acc:=by rw [←hf.out];rfl
    have aM:=ng.out;rw [e] at aM ⊢;rw [←tK] at aM;have z1:1+(mkB acc).size≤9223372036854775807:=by omega
    have z2:(mkB acc).size≤9223372036854775806:=by omega
    have z3:(mkB acc).size≤9223372036854775807:=by omega
    clear hf HT ng e aM;repeat' first|(with_reducible first|apply af|apply ae|apply aW|apply aq|apply aX|apply aY|apply aa|refine ah [] ?_)|((with_reducible refine ak ?_ ?_);(focus (go_simp;done)))|((with_reducible refine ab fun Y Z=>?_);go_simp;refine Z _ ?_;clear Z Y)
    go_simp
   ·have cC:=Gm (m:=m.natAbs) (by omega);have hr:(m.tmod 10).natAbs=m.natAbs % 10:=by rw [Int.natAbs_tmod];rfl
    have hq:(m.tdiv 10).natAbs=m.natAbs / 10:=by rw [Int.natAbs_tdiv];rfl
    have Ct : -9≤m.tmod 10∧m.tmod 10≤9:=by omega
    have ph : -9223372036854775808≤m.tdiv 10∧m.tdiv 10≤9223372036854775807:=by omega
    have g:=Gv (m.tmod 10) (by omega);rw [hr] at g;have Cu:m.natAbs % 10 < 10:=Nat.mod_lt _ (by decide);have r9:=qB Cu;rw [←hq] at cC;have HF:=Lib.hid (show pg (m.tdiv 10).natAbs++(UInt8.ofNat (48+m.natAbs % 10)::acc)=T by rw [←hf.out,cC,List.append_assoc];rfl);have aw:(m.tdiv 10).natAbs < m.natAbs:=by omega
    have u1:=cj (x:=m.tmod 10) (by omega) (by omega);have u2:=cj (x:=m.tdiv 10) (by omega) (by omega);have we:=Lib.hid aw;have aM:acc.length≤20:=by
     have h1:=ng.out;rw [←hf.out,List.length_append] at h1;omega
    rw [←tK] at aM;have z1:1+(mkB acc).size≤9223372036854775807:=by omega
    have z2:(mkB acc).size≤9223372036854775806:=by omega
    clear cC hr hq hf HT aw aM ng;obtain ⟨r,er⟩ : ∃ r,m.tmod 10=r:=⟨_,rfl⟩
    obtain ⟨q,eq⟩ : ∃ q,m.tdiv 10=q:=⟨_,rfl⟩
    rw [er] at g u1 Ct;rw [eq] at HF we ph u2;generalize m.natAbs % 10=d at *;have u3:=cj (x:=48+(d:Int)) (by omega) (by omega);have u4:IntKind.u8.wrap (48+(d:Int))=48+d:=by simp [IntKind.wrap,IntKind.bits,IntKind.signed];omega
    have u5:(48+(d:Int)).toNat=48+d:=by omega
    have u6:(0:Int)≤48+(d:Int):=by omega
    have u7:48+(d:Int) < 256:=by omega
    have Cv:=v_ (UInt8.ofNat (48+d)) acc;clear r9;repeat' first|(with_reducible first|apply af|apply ae|apply aj|apply ar|apply aT|apply aa|refine ah [] ?_)|((with_reducible refine ao ?_ ?_);(focus (go_simp;done)))|((with_reducible refine ab fun Y Z=>?_);go_simp;(first|(with_reducible refine ⟨_,g,?_⟩)|skip);refine Z _ ?_;clear Z Y)
    refine hK _ (q,UInt8.ofNat (48+d)::acc) ⟨HF,ph.1,ph.2⟩ we.out ?_;go_simp;exact v_ _ _
  ·rw [if_neg hn];repeat' first|(with_reducible first|apply af|apply ae|apply aj|apply ar|apply aa|refine ah [] ?_)|((with_reducible refine ak ?_ ?_);(focus (go_simp;done)))|((with_reducible refine ab fun Y Z=>?_);go_simp;refine Z _ ?_;clear Z Y)
   apply rU (α:=Int×List UInt8) [4] (fun (q:Int×List UInt8)=>[(0,I q.1),(3,S (mkB q.2))]) (fun (q:Int×List UInt8)=>([] : Hp)) (fun (q:Int×List UInt8)=>Hid (pg q.1.natAbs++q.2=T)∧-9223372036854775808≤q.1∧q.1≤9223372036854775807) (fun (q:Int×List UInt8)=>q.1.natAbs) ((n,[])) ⟨Lib.hid (by rw [List.append_nil];exact HT.out),h.1,h.2⟩
   ·(go_simp<;>exact rfl)
   ·go_simp
   rintro ⟨m,acc⟩ ⟨hf,b1,b2⟩ K hK;simp only at hf b1 b2;by_cases hm:m=0
   ·subst hm;have e:T=acc:=by rw [←hf.out];rfl
    have aM:=ng.out;rw [e] at aM ⊢;rw [←tK] at aM;have z1:1+(mkB acc).size≤9223372036854775807:=by omega
    have z2:(mkB acc).size≤9223372036854775806:=by omega
    have z3:(mkB acc).size≤9223372036854775807:=by omega
    clear hf HT ng e aM;repeat' first|(with_reducible first|apply af|apply ae|apply aW|apply aq|apply aX|apply aY|apply aa|refine ah [] ?_)|((with_reducible refine ak ?_ ?_);(focus (go_simp;done)))|((with_reducible refine ab fun Y Z=>?_);go_simp;refine Z _ ?_;clear Z Y)
    go_simp
   ·have cC:=Gm (m:=m.natAbs) (by omega);have hr:(m.tmod 10).natAbs=m.natAbs % 10:=by rw [Int.natAbs_tmod];rfl
    have hq:(m.tdiv 10).natAbs=m.natAbs / 10:=by rw [Int.natAbs_tdiv];rfl
    have Ct : -9≤m.tmod 10∧m.tmod 10≤9:=by omega
    have ph : -9223372036854775808≤m.tdiv 10∧m.tdiv 10≤9223372036854775807:=by omega
    have g:=Gv (m.tmod 10) (by omega);rw [hr] at g;have Cu:m.natAbs % 10 < 10:=Nat.mod_lt _ (by decide);have r9:=qB Cu;rw [←hq] at cC;have HF:=Lib.hid (show pg (m.tdiv 10).natAbs++(UInt8.ofNat (48+m.natAbs % 10)::acc)=T by rw [←hf.out,cC,List.append_assoc];rfl);have aw:(m.tdiv 10).natAbs < m.natAbs:=by omega
    have u1:=cj (x:=m.tmod 10) (by omega) (by omega);have u2:=cj (x:=m.tdiv 10) (by omega) (by omega);have we:=Lib.hid aw;have aM:acc.length≤20:=by
     have h1:=ng.out;rw [←hf.out,List.length_append] at h1;omega
    rw [←tK] at aM;have z1:1+(mkB acc).size≤9223372036854775807:=by omega
    have z2:(mkB acc).size≤9223372036854775806:=by omega
    clear cC hr hq hf HT aw aM ng;obtain ⟨r,er⟩ : ∃ r,m.tmod 10=r:=⟨_,rfl⟩
    obtain ⟨q,eq⟩ : ∃ q,m.tdiv 10=q:=⟨_,rfl⟩
    rw [er] at g u1 Ct;rw [eq] at HF we ph u2;generalize m.natAbs % 10=d at *;have u3:=cj (x:=48+(d:Int)) (by omega) (by omega);have u4:IntKind.u8.wrap (48+(d:Int))=48+d:=by simp [IntKind.wrap,IntKind.bits,IntKind.signed];omega
    have u5:(48+(d:Int)).toNat=48+d:=by omega
    have u6:(0:Int)≤48+(d:Int):=by omega
    have u7:48+(d:Int) < 256:=by omega
    have Cv:=v_ (UInt8.ofNat (48+d)) acc;clear r9;repeat' first|(with_reducible first|apply af|apply ae|apply aj|apply ar|apply aT|apply aa|refine ah [] ?_)|((with_reducible refine ao ?_ ?_);(focus (go_simp;done)))|((with_reducible refine ab fun Y Z=>?_);go_simp;(first|(with_reducible refine ⟨_,g,?_⟩)|skip);refine Z _ ?_;clear Z Y)
    refine hK _ (q,UInt8.ofNat (48+d)::acc) ⟨HF,ph.1,ph.2⟩ we.out ?_;go_simp;exact v_ _ _
@[go_sem] def kh:Option Int→Int×Bool
 | some v=>(v,true)
 | none=>(0,false)
theorem tL (s:ByteArray) (hs:s.size≤1000) : VC Tryz.prog 112 [S s,I 9] (.tup [I (kh (dv s.data.toList)).1,B (kh (dv s.data.toList)).2]):=by
 obtain ⟨R,hR⟩ : ∃ R,dv s.data.toList=R:=⟨_,rfl⟩
 rw [hR];cases hL:s.data.toList with
 | nil=>
  have h0:s.size=0:=by rw [←kZ,hL];rfl
  rw [hL] at hR;have e:R=none:=hR.symm;subst e;have hb:¬(0:Int) < s.size:=by omega
  refine il Tryz.func112 rfl (by kernel_rfl) (by kernel_rfl) rfl fun M0 w0=>?_;simp only [Tryz.ntmps112,Tryz.results112,az];repeat' first|(with_reducible first|apply af|apply ae|apply aF|apply aq|apply aj|apply aa|refine ah [] ?_)|((with_reducible refine ao ?_ ?_);(focus (go_simp;done)))|((with_reducible refine ak ?_ ?_);(focus (go_simp;done)))|((with_reducible refine ab fun Y Z=>?_);go_simp;refine Z _ ?_;clear Z Y)
  go_simp
 | cons c r=>
  have aM:s.size=r.length+1:=by rw [←kZ,hL];rfl
  have kX:cR s 0=c:=by simp [cR,hL]
  have bZ:(0:Int) < s.size:=by omega
  have qD:0 < s.size:=by omega
  have r_:Hid (∀ k,cR s (k+1)=r.getD k 0):=Lib.hid fun k=>by simp [cR,hL]
  rw [hL,dv] at hR;by_cases hc:c=45
  ·rw [if_pos hc] at hR;have HR:=Lib.hid hR;clear hR;have tM:((cR s 0).toNat:Int)=45:=by rw [kX,hc];rfl
   have dL:Hid (∀ k,(hk:k < r.length)→r[k]=cR s (k+1)):=Lib.hid fun k hk=>by rw [r_.out k];simp [List.getD,hk]
   clear kX hL;by_cases tN:r=[]
   ·have h1:s.size=1:=by rw [aM,tN];rfl
    have e:=HR.out;rw [tN] at e;have fT:R=none:=e.symm;subst fT;clear e HR dL r_;refine il Tryz.func112 rfl (by kernel_rfl) (by kernel_rfl) rfl fun M0 w0=>?_;simp only [Tryz.ntmps112,Tryz.results112,az];repeat' first|(with_reducible first|apply af|apply ae|apply aF|apply aq|apply aa|refine ah [] ?_)|((with_reducible refine ao ?_ ?_);(focus (go_simp;done)))|((with_reducible refine ab fun Y Z=>?_);go_simp;refine Z _ ?_;clear Z Y)
    go_simp
   have fB:0 < r.length:=List.length_pos_iff.2 tN;have R_:¬(s.size:Int)=1:=by omega
   have v1:=cj (x:=(s.size:Int) - 1) (by omega) (by omega);have wg:(1:Int) < s.size:=by omega
   have Gx:1 < s.size:=by omega
   have cg:=Lib.hid aM;clear aM;by_cases hlen:r.length≤9
   ·have h9:¬(9:Int) < (s.size:Int) - 1:=by have:=cg.out;omega
    by_cases hh:r.head? = some 48
    ·have lL:((cR s 1).toNat:Int)=48:=by
      rw [r_.out 0];cases r with
      | nil=>exact absurd rfl tN
      | cons b t=>simp at hh;subst hh;rfl
     have e:=HR.out;rw [r8 (.inr (.inr (.inl ⟨hh,rfl⟩)))] at e;have fT:R=none:=e.symm;subst fT;clear e HR dL r_;refine il Tryz.func112 rfl (by kernel_rfl) (by kernel_rfl) rfl fun M0 w0=>?_;simp only [Tryz.ntmps112,Tryz.results112,az];repeat' first|(with_reducible first|apply af|apply ae|apply aF|apply aq|apply aa|refine ah [] ?_)|((with_reducible refine ao ?_ ?_);(focus (go_simp;done)))|((with_reducible refine ab fun Y Z=>?_);go_simp;refine Z _ ?_;clear Z Y)
     go_simp
    ·have lL:¬((cR s 1).toNat:Int)=48:=by
      rw [r_.out 0];cases r with
      | nil=>exact absurd rfl tN
      | cons b t=>
       intro h;have h2:(b.toNat:Int)=48:=by simpa using h
       have:b=48:=UInt8.toNat_inj.1 (show b.toNat=48 by omega);exact hh (by rw [this];rfl)
     refine il Tryz.func112 rfl (by kernel_rfl) (by kernel_rfl) rfl fun M0 w0=>?_;simp only [Tryz.ntmps112,Tryz.results112,az];repeat' first|(with_reducible first|apply af|apply ae|apply aj|apply ar|apply aa|refine ah [] ?_)|((with_reducible refine ao ?_ ?_);(focus (go_simp;done)))|((with_reducible refine ak ?_ ?_);(focus (go_simp;done)))|((with_reducible refine ab fun Y Z=>?_);go_simp;refine Z _ ?_;clear Z Y)
     apply ch [0,6] (fun k=>[(8,I ((k:Int)+1)),(7,I (dY 0 ((r).take k) : Nat))]) (fun k=>([] : Hp)) ((fun k=>!isD (cR s (k+1)))) ((r).length)
     ·go_simp<;>exact rfl
     ·go_simp
     ·intro k hk HB HP K hK;obtain ⟨w1,w2,w3,w4,w5,w6⟩:=ixs (m:=k) (by omega);have lp:k+1 < s.size:=by have:=cg.out;omega
      have hp:=HP.out;simp only [Bool.not_eq_false'] at hp;have hd:=vT hp;have ju:=dL.out k hk;have cC:=Cq hk;rw [ju] at cC;have ax:((r).take k).all isD=true:=List.all_eq_true.2 fun x hx=>by
       obtain ⟨j,hj,rfl⟩:=List.getElem_of_mem hx;rw [List.length_take] at hj;rw [List.getElem_take,dL.out j (by omega)];have:=HB.out j (by omega);simpa using this
      have hv:=qC ax (by rw [List.length_take];omega);have qE:=Lib.hid cC;have fO:((k:Int)+1) < s.size:=by have:=cg.out;omega
      clear ax hp cC;generalize dY 0 ((r).take k)=V at *;generalize qF:cR s (k+1)=b at *;obtain ⟨n,hn⟩ : ∃ n,b.toNat=n:=⟨_,rfl⟩
      rw [hn] at hd qE;have c1:¬(n:Int) < 48:=by omega
      have c2:¬(57:Int) < n:=by omega
      have u1:=cj (x:=10*(V:Int)) (by omega) (by omega);have u2:IntKind.u8.wrap ((n:Int) - 48)=(n:Int) - 48:=by simp [IntKind.wrap,IntKind.bits,IntKind.signed];omega
      have u3:=cj (x:=(n:Int) - 48) (by omega) (by omega);have u4:=cj (x:=10*(V:Int)+((n:Int) - 48)) (by omega) (by omega);clear hd;repeat' first|(with_reducible first|apply af|apply ae|apply aj|apply ar|apply aT|apply aa|refine ah [] ?_)|((with_reducible refine ao ?_ ?_);(focus (go_simp;done)))|((with_reducible refine ak ?_ ?_);(focus (go_simp;done)))|((with_reducible refine ab fun Y Z=>?_);go_simp;refine Z _ ?_;clear Z Y)
      refine hK _ ?_;rw [qE.out];go_simp;omega
     ·intro k hk HB HP K;have lp:k+1 < s.size:=by have:=cg.out;omega
      have hp:=HP.out;simp only [Bool.not_eq_true'] at hp;have fO:((k:Int)+1) < s.size:=by have:=cg.out;omega
      have bw:oe (r) false=none:=r8 (.inr (.inr (.inr (by
       rw [List.all_eq_false];exact ⟨(r)[k],List.getElem_mem hk,by rw [dL.out k hk,hp];decide⟩))))
      have e:=HR.out;rw [bw] at e;have fT:R=none:=by rw [←e];rfl
      subst fT;clear bw e HR;generalize qF:cR s (k+1)=b at *;obtain ⟨n,hn⟩ : ∃ n,b.toNat=n:=⟨_,rfl⟩
      simp only [isD,hn,Bool.and_eq_false_iff,decide_eq_false_iff_not] at hp;obtain ⟨w1,w2,w3,w4,w5,w6⟩:=ixs (m:=k) (by omega);by_cases c1:(n:Int) < 48
      ·clear hp;repeat' first|(with_reducible first|apply af|apply ae|apply aF|apply aq|apply aj|apply ar|apply b_|apply aa|refine ah [] ?_)|((with_reducible refine ao ?_ ?_);(focus (go_simp;done)))|((with_reducible refine ab fun Y Z=>?_);go_simp;refine Z _ ?_;clear Z Y)
       go_simp
      ·have c2:(57:Int) < n:=by omega
       clear hp;repeat' first|(with_reducible first|apply af|apply ae|apply aF|apply aq|apply aj|apply ar|apply b_|apply aa|refine ah [] ?_)|((with_reducible refine ao ?_ ?_);(focus (go_simp;done)))|((with_reducible refine ab fun Y Z=>?_);go_simp;refine Z _ ?_;clear Z Y)
       go_simp
     ·intro HB K;have ax:(r).all isD=true:=List.all_eq_true.2 fun x hx=>by
       obtain ⟨j,hj,rfl⟩:=List.getElem_of_mem hx;rw [dL.out j hj];have:=HB.out j hj;simpa using this
      have hv:=qC ax (by omega);have e:=HR.out;rw [vS tN hlen (fun h=>absurd h hh) ax] at e;rw [List.take_length];have fT:R=some (-(dY 0 (r) : Int)):=e.symm;subst fT;clear e ax HR;generalize dY 0 (r)=V at *;have u1:=cj (x:=-(V:Int)) (by omega) (by omega);have u2:=cj (x:=0 - (V:Int)) (by omega) (by omega);have u3:(0:Int) - V = -V:=by omega
      have fO:¬((((r).length:Nat) : Int)+1) < s.size:=by have:=cg.out;omega
      repeat' first|(with_reducible first|apply af|apply ae|apply aW|apply aq|apply aX|apply aY|apply aa|refine ah [] ?_)|((with_reducible refine ao ?_ ?_);(focus (go_simp;done)))|((with_reducible refine ak ?_ ?_);(focus (go_simp;done)))|((with_reducible refine ab fun Y Z=>?_);go_simp;refine Z _ ?_;clear Z Y)
      go_simp
   ·have h9:(9:Int) < (s.size:Int) - 1:=by have:=cg.out;omega
    have e:=HR.out;rw [r8 (.inr (.inl (by omega)))] at e;have fT:R=none:=e.symm;subst fT;clear e HR dL r_;refine il Tryz.func112 rfl (by kernel_rfl) (by kernel_rfl) rfl fun M0 w0=>?_;simp only [Tryz.ntmps112,Tryz.results112,az];repeat' first|(with_reducible first|apply af|apply ae|apply aF|apply aq|apply aa|refine ah [] ?_)|((with_reducible refine ao ?_ ?_);(focus (go_simp;done)))|((with_reducible refine ab fun Y Z=>?_);go_simp;refine Z _ ?_;clear Z Y)
    go_simp
  ·rw [if_neg hc] at hR;have tM:¬((cR s 0).toNat:Int)=45:=by
    rw [kX];intro h;exact hc (UInt8.toNat_inj.1 (show c.toNat=45 by omega))
   have qG:r.isEmpty=decide (s.size=1):=by
    rw [aM];cases r<;>simp
   have dL:Hid (∀ k,(hk:k < (c::r).length)→(c::r)[k]=cR s k):=Lib.hid fun k hk=>by
    have:cR s k=(c::r).getD k 0:=by simp [cR,hL]
    rw [this];simp only [List.getD,List.getElem?_eq_getElem hk,Option.getD_some]
   have nh:s.size=(c::r).length:=aM;have y4:(c::r).head? = some 48↔((cR s 0).toNat:Int)=48:=by
    rw [kX];simp only [List.head?_cons,Option.some.injEq];exact ⟨fun h=>by rw [h];rfl,fun h=>UInt8.toNat_inj.1 (show c.toNat=48 by omega)⟩
   have Gy:c::r≠[]:=by simp
   rw [qG] at hR;clear qG aM kX r_ hL;generalize c::r=D at *;have HR:=Lib.hid hR;have cg:=Lib.hid nh;have eD:=Lib.hid nh;have Gz:=Lib.hid y4;clear hR nh y4;have Sa:¬(s.size:Int)=0:=by omega
   have Mz:¬s=ByteArray.empty:=fun h=>by rw [h] at qD;exact absurd qD (by decide)
   have Sb:¬s = { data:=#[] }:=Mz;have v1:=cj (x:=(s.size:Int) - 0) (by omega) (by omega);have v2:=cj (x:=(s.size:Int)) (by omega) (by omega);by_cases hlen:D.length≤9
   ·have h9:¬(9:Int) < (s.size:Int):=by have:=cg.out;omega
    by_cases hh:D.head? = some 48∧¬s.size=1
    ·have lL:((cR s 0).toNat:Int)=48:=Gz.out.1 hh.1;have wg:(1:Int) < s.size:=by omega
     have e:=HR.out;rw [r8 (.inr (.inr (.inl ⟨hh.1,by simp [hh.2]⟩)))] at e;have fT:R=none:=e.symm;subst fT;clear e HR dL hh;refine il Tryz.func112 rfl (by kernel_rfl) (by kernel_rfl) rfl fun M0 w0=>?_;simp only [Tryz.ntmps112,Tryz.results112,az];repeat' first|(with_reducible first|apply af|apply ae|apply aF|apply aq|apply aj|apply aa|refine ah [] ?_)|((with_reducible refine ao ?_ ?_);(focus (go_simp;done)))|((with_reducible refine ak ?_ ?_);(focus (go_simp;done)))|((with_reducible refine ab fun Y Z=>?_);go_simp;refine Z _ ?_;clear Z Y)
     go_simp
    ·have bx:D.head? = some 48→decide (s.size=1)=true:=fun h=>by
      rw [decide_eq_true_eq];exact Classical.byContradiction fun hn=>hh ⟨h,hn⟩
     by_cases lL:((cR s 0).toNat:Int)=48
     ·have wg:¬(1:Int) < s.size:=by
       have:=bx (Gz.out.2 lL);rw [decide_eq_true_eq] at this;omega
      have sc:=Lib.hid bx;clear bx hh;refine il Tryz.func112 rfl (by kernel_rfl) (by kernel_rfl) rfl fun M0 w0=>?_;simp only [Tryz.ntmps112,Tryz.results112,az];repeat' first|(with_reducible first|apply af|apply ae|apply aj|apply ar|apply aa|refine ah [] ?_)|((with_reducible refine ak ?_ ?_);(focus (go_simp;done)))|((with_reducible refine ab fun Y Z=>?_);go_simp;refine Z _ ?_;clear Z Y)
      apply ch [0,6] (fun k=>[(8,I (k:Int)),(7,I (dY 0 (D.take k) : Nat))]) (fun k=>([] : Hp)) ((fun k=>!isD (cR s (k)))) (D.length)
      ·go_simp<;>exact rfl
      ·go_simp
      ·intro k hk HB HP K hK;obtain ⟨w1,w2,w3,w4,w5,w6⟩:=ixs (m:=k) (by omega);have lp:k < s.size:=by have:=cg.out;have:=eD.out;omega
       have hp:=HP.out;simp only [Bool.not_eq_false'] at hp;have hd:=vT hp;have ju:=dL.out k hk;have cC:=Cq hk;rw [ju] at cC;have ax:(D.take k).all isD=true:=List.all_eq_true.2 fun x hx=>by
        obtain ⟨j,hj,rfl⟩:=List.getElem_of_mem hx;rw [List.length_take] at hj;rw [List.getElem_take,dL.out j (by omega)];have:=HB.out j (by omega);simpa using this
       have hv:=qC ax (by rw [List.length_take];omega);have qE:=Lib.hid cC;have fO:((k:Int)) < s.size:=by have:=cg.out;have:=eD.out;omega
       clear ax hp cC;generalize dY 0 (D.take k)=V at *;generalize qF:cR s (k)=b at *;obtain ⟨n,hn⟩ : ∃ n,b.toNat=n:=⟨_,rfl⟩
       rw [hn] at hd qE;have c1:¬(n:Int) < 48:=by omega
       have c2:¬(57:Int) < n:=by omega
       have u1:=cj (x:=10*(V:Int)) (by omega) (by omega);have u2:IntKind.u8.wrap ((n:Int) - 48)=(n:Int) - 48:=by simp [IntKind.wrap,IntKind.bits,IntKind.signed];omega
       have u3:=cj (x:=(n:Int) - 48) (by omega) (by omega);have u4:=cj (x:=10*(V:Int)+((n:Int) - 48)) (by omega) (by omega);clear hd;repeat' first|(with_reducible first|apply af|apply ae|apply aj|apply ar|apply aT|apply aa|refine ah [] ?_)|((with_reducible refine ao ?_ ?_);(focus (go_simp;done)))|((with_reducible refine ak ?_ ?_);(focus (go_simp;done)))|((with_reducible refine ab fun Y Z=>?_);go_simp;refine Z _ ?_;clear Z Y)
       refine hK _ ?_;rw [qE.out];go_simp;omega
      ·intro k hk HB HP K;have lp:k < s.size:=by have:=cg.out;have:=eD.out;omega
       have hp:=HP.out;simp only [Bool.not_eq_true'] at hp;have fO:((k:Int)) < s.size:=by have:=cg.out;have:=eD.out;omega
       have bw:oe D (decide (s.size=1))=none:=r8 (.inr (.inr (.inr (by
        rw [List.all_eq_false];exact ⟨D[k],List.getElem_mem hk,by rw [dL.out k hk,hp];decide⟩))))
       have e:=HR.out;rw [bw] at e;have fT:R=none:=by rw [←e];rfl
       subst fT;clear bw e HR;generalize qF:cR s (k)=b at *;obtain ⟨n,hn⟩ : ∃ n,b.toNat=n:=⟨_,rfl⟩
       simp only [isD,hn,Bool.and_eq_false_iff,decide_eq_false_iff_not] at hp;obtain ⟨w1,w2,w3,w4,w5,w6⟩:=ixs (m:=k) (by omega);by_cases c1:(n:Int) < 48
       ·clear hp;repeat' first|(with_reducible first|apply af|apply ae|apply aF|apply aq|apply aj|apply ar|apply b_|apply aa|refine ah [] ?_)|((with_reducible refine ao ?_ ?_);(focus (go_simp;done)))|((with_reducible refine ab fun Y Z=>?_);go_simp;refine Z _ ?_;clear Z Y)
        go_simp
       ·have c2:(57:Int) < n:=by omega
        clear hp;repeat' first|(with_reducible first|apply af|apply ae|apply aF|apply aq|apply aj|apply ar|apply b_|apply aa|refine ah [] ?_)|((with_reducible refine ao ?_ ?_);(focus (go_simp;done)))|((with_reducible refine ab fun Y Z=>?_);go_simp;refine Z _ ?_;clear Z Y)
        go_simp
      ·intro HB K;have ax:D.all isD=true:=List.all_eq_true.2 fun x hx=>by
        obtain ⟨j,hj,rfl⟩:=List.getElem_of_mem hx;rw [dL.out j hj];have:=HB.out j hj;simpa using this
       have hv:=qC ax (by omega);have e:=HR.out;rw [vS Gy hlen sc.out ax] at e;rw [List.take_length];have fT:R=some ((dY 0 D:Int)):=e.symm;subst fT;clear e ax HR;generalize dY 0 D=V at *;have u1:=cj (x:=-(V:Int)) (by omega) (by omega);have u2:=cj (x:=0 - (V:Int)) (by omega) (by omega);have u3:(0:Int) - V = -V:=by omega
       have fO:¬(((D.length:Nat) : Int)) < s.size:=by have:=cg.out;have:=eD.out;omega
       repeat' first|(with_reducible first|apply af|apply ae|apply aW|apply aq|apply aj|apply aX|apply aY|apply aa|refine ah [] ?_)|((with_reducible refine ak ?_ ?_);(focus (go_simp;done)))|((with_reducible refine ab fun Y Z=>?_);go_simp;refine Z _ ?_;clear Z Y)
       go_simp
     ·have sc:=Lib.hid bx;clear bx hh;refine il Tryz.func112 rfl (by kernel_rfl) (by kernel_rfl) rfl fun M0 w0=>?_;simp only [Tryz.ntmps112,Tryz.results112,az];repeat' first|(with_reducible first|apply af|apply ae|apply aj|apply ar|apply aa|refine ah [] ?_)|((with_reducible refine ak ?_ ?_);(focus (go_simp;done)))|((with_reducible refine ab fun Y Z=>?_);go_simp;refine Z _ ?_;clear Z Y)
      apply ch [0,6] (fun k=>[(8,I (k:Int)),(7,I (dY 0 (D.take k) : Nat))]) (fun k=>([] : Hp)) ((fun k=>!isD (cR s (k)))) (D.length)
      ·go_simp<;>exact rfl
      ·go_simp
      ·intro k hk HB HP K hK;obtain ⟨w1,w2,w3,w4,w5,w6⟩:=ixs (m:=k) (by omega);have lp:k < s.size:=by have:=cg.out;have:=eD.out;omega
       have hp:=HP.out;simp only [Bool.not_eq_false'] at hp;have hd:=vT hp;have ju:=dL.out k hk;have cC:=Cq hk;rw [ju] at cC;have ax:(D.take k).all isD=true:=List.all_eq_true.2 fun x hx=>by
        obtain ⟨j,hj,rfl⟩:=List.getElem_of_mem hx;rw [List.length_take] at hj;rw [List.getElem_take,dL.out j (by omega)];have:=HB.out j (by omega);simpa using this
       have hv:=qC ax (by rw [List.length_take];omega);have qE:=Lib.hid cC;have fO:((k:Int)) < s.size:=by have:=cg.out;have:=eD.out;omega
       clear ax hp cC;generalize dY 0 (D.take k)=V at *;generalize qF:cR s (k)=b at *;obtain ⟨n,hn⟩ : ∃ n,b.toNat=n:=⟨_,rfl⟩
       rw [hn] at hd qE;have c1:¬(n:Int) < 48:=by omega
       have c2:¬(57:Int) < n:=by omega
       have u1:=cj (x:=10*(V:Int)) (by omega) (by omega);have u2:IntKind.u8.wrap ((n:Int) - 48)=(n:Int) - 48:=by simp [IntKind.wrap,IntKind.bits,IntKind.signed];omega
       have u3:=cj (x:=(n:Int) - 48) (by omega) (by omega);have u4:=cj (x:=10*(V:Int)+((n:Int) - 48)) (by omega) (by omega);clear hd;repeat' first|(with_reducible first|apply af|apply ae|apply aj|apply ar|apply aT|apply aa|refine ah [] ?_)|((with_reducible refine ao ?_ ?_);(focus (go_simp;done)))|((with_reducible refine ak ?_ ?_);(focus (go_simp;done)))|((with_reducible refine ab fun Y Z=>?_);go_simp;refine Z _ ?_;clear Z Y)
       refine hK _ ?_;rw [qE.out];go_simp;omega
      ·intro k hk HB HP K;have lp:k < s.size:=by have:=cg.out;have:=eD.out;omega
       have hp:=HP.out;simp only [Bool.not_eq_true'] at hp;have fO:((k:Int)) < s.size:=by have:=cg.out;have:=eD.out;omega
       have bw:oe D (decide (s.size=1))=none:=r8 (.inr (.inr (.inr (by
        rw [List.all_eq_false];exact ⟨D[k],List.getElem_mem hk,by rw [dL.out k hk,hp];decide⟩))))
       have e:=HR.out;rw [bw] at e;have fT:R=none:=by rw [←e];rfl
       subst fT;clear bw e HR;generalize qF:cR s (k)=b at *;obtain ⟨n,hn⟩ : ∃ n,b.toNat=n:=⟨_,rfl⟩
       simp only [isD,hn,Bool.and_eq_false_iff,decide_eq_false_iff_not] at hp;obtain ⟨w1,w2,w3,w4,w5,w6⟩:=ixs (m:=k) (by omega);by_cases c1:(n:Int) < 48
       ·clear hp;repeat' first|(with_reducible first|apply af|apply ae|apply aF|apply aq|apply aj|apply ar|apply b_|apply aa|refine ah [] ?_)|((with_reducible refine ao ?_ ?_);(focus (go_simp;done)))|((with_reducible refine ab fun Y Z=>?_);go_simp;refine Z _ ?_;clear Z Y)
        go_simp
       ·have c2:(57:Int) < n:=by omega
        clear hp;repeat' first|(with_reducible first|apply af|apply ae|apply aF|apply aq|apply aj|apply ar|apply b_|apply aa|refine ah [] ?_)|((with_reducible refine ao ?_ ?_);(focus (go_simp;done)))|((with_reducible refine ab fun Y Z=>?_);go_simp;refine Z _ ?_;clear Z Y)
        go_simp
      ·intro HB K;have ax:D.all isD=true:=List.all_eq_true.2 fun x hx=>by
        obtain ⟨j,hj,rfl⟩:=List.getElem_of_mem hx;rw [dL.out j hj];have:=HB.out j hj;simpa using this
       have hv:=qC ax (by omega);have e:=HR.out;rw [vS Gy hlen sc.out ax] at e;rw [List.take_length];have fT:R=some ((dY 0 D:Int)):=e.symm;subst fT;clear e ax HR;generalize dY 0 D=V at *;have u1:=cj (x:=-(V:Int)) (by omega) (by omega);have u2:=cj (x:=0 - (V:Int)) (by omega) (by omega);have u3:(0:Int) - V = -V:=by omega
       have fO:¬(((D.length:Nat) : Int)) < s.size:=by have:=cg.out;have:=eD.out;omega
       repeat' first|(with_reducible first|apply af|apply ae|apply aW|apply aq|apply aj|apply aX|apply aY|apply aa|refine ah [] ?_)|((with_reducible refine ak ?_ ?_);(focus (go_simp;done)))|((with_reducible refine ab fun Y Z=>?_);go_simp;refine Z _ ?_;clear Z Y)
       go_simp
   ·have h9:(9:Int) < (s.size:Int):=by have:=cg.out;omega
    have e:=HR.out;rw [r8 (.inr (.inl (by omega)))] at e;have fT:R=none:=e.symm;subst fT;clear e HR dL;refine il Tryz.func112 rfl (by kernel_rfl) (by kernel_rfl) rfl fun M0 w0=>?_;simp only [Tryz.ntmps112,Tryz.results112,az];repeat' first|(with_reducible first|apply af|apply ae|apply aF|apply aq|apply aj|apply aa|refine ah [] ?_)|((with_reducible refine ao ?_ ?_);(focus (go_simp;done)))|((with_reducible refine ak ?_ ?_);(focus (go_simp;done)))|((with_reducible refine ab fun Y Z=>?_);go_simp;refine Z _ ?_;clear Z Y)
    go_simp
end Go.Proofs.YtoibondihdhnoaaGreatDoor
