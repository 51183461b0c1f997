/- Texts in one: The law of those that are served first: true whatever the input is. -/
import Derived.Test.YtoibondihdhnoaaGreatDoorFRY8
import Derived.Test.YtoibondihdhnoaaGreatDoorFRY65
import Derived.Test.YtoibondihdhnoaaGreatDoorFRY63
namespace Go.Proofs.YtoibondihdhnoaaGreatDoor
open Go.RowKit
set_option maxRecDepth 100000
set_option maxHeartbeats 4000000
def wZ (r:Ru) (n:Int) (k:Nat) : Bool:=decide ((rat r.ranks k).feeder=n)
def sZ (r:Ru) (n:Int) : Bool:=gz (wZ r n) 0 r.ranks.length
theorem PS (r:Ru) (n:Int) (hn:r.ranks.length≤1000000) : VC Tryz.prog 34 [bN r,I n] (B (sZ r n)):=by
 obtain ⟨R,hR⟩ : ∃ R,sZ r n=R:=⟨_,rfl⟩
 rw [hR];unfold sZ at hR;have HR:=Lib.hid hR;clear hR;refine aJ Tryz.func34 rfl (by kernel_rfl) rfl fun M0 w0=>?_;simp only [Tryz.ntmps34,Tryz.results34,aC];repeat' with_reducible first|apply af|apply ae|apply az|apply aa|refine ah [] ?_|(apply ab;intro X Y;go_simp;apply Y;clear Y X)
 apply ef [1,2] (fun k=>[(5,I k)]) (fun k=>([] : Hp)) (wZ r n) (r.ranks.length)
 ·go_simp<;>exact rfl
 ·go_simp
 ·intro k hk HB HP K hK;obtain ⟨w1,w2,w3,w4,w5,w6⟩:=ixs (m:=k) (by omega);have hp:=HP.out;rw [wZ,decide_eq_false_iff_not] at hp;repeat' with_reducible first|apply af|apply ae|apply ao|apply az|apply aY|apply aa|refine ah [] ?_|(apply au;·go_simp)|(apply aj;·go_simp)|(apply ab;intro X Y;go_simp;apply Y;clear Y X)
  refine hK _ ?_;go_simp
 ·intro k hk HB HP K;have hp:=HP.out;have e:=HR.out;rw [nB hk HP.out] at e;subst e;rw [wZ,decide_eq_true_eq] at hp;repeat' with_reducible first|apply af|apply ae|apply aR|apply aw|apply ao|apply az|apply cB|apply aa|refine ah [] ?_|(apply au;·go_simp)|(apply ab;intro X Y;go_simp;apply Y;clear Y X)
  go_simp
 ·intro HB K;have e:=HR.out;rw [Ng HB.out] at e;subst e;repeat' with_reducible first|apply af|apply ae|apply bE|apply aw|apply bF|apply bG|apply aa|refine ah [] ?_|(apply aj;·go_simp)|(apply ab;intro X Y;go_simp;apply Y;clear Y X)
  go_simp
theorem Ih {n:Nat} : ∀ {l:List Ev} {k:Nat},k < l.length→eV n (l.take (k+1))=eV n (l.take k)++if (aB l k).kind=0∧(aB l k).rank=n then [(aB l k).car] else []
 | [],k,h=>by simp at h
 | x::l,0,_=>by
  simp only [List.take_succ_cons,List.take_zero,eV];rfl
 | x::l,k+1,h=>by
  have ih:=Ih (n:=n) (l:=l) (k:=k) (by simpa using h);have e:aB (x::l) (k+1)=aB l k:=rfl;rw [e,List.take_succ_cons,List.take_succ_cons,eV,eV,ih];split<;>rfl
theorem Ii {n:Nat} : ∀ (l:List Ev),(eV n l).length≤l.length
 | []=>Nat.le_refl _
 | x::l=>by
  have:=Ii (n:=n) l;rw [eV];split
  ·simp only [List.length_cons];omega
  ·simp only [List.length_cons];omega
def rm (l:List Wt) (k:Nat) : Wt:=l.getD k default
theorem zU {l:List Wt} {k:Nat} (h:k < l.length) : rm l k=l[k]:=by simp [rm,h]
def ofN (n:Nat) (w:Wt) : Bool:=decide (w.rank=(n:Int))
def kZ (W:List Wt) (n k:Nat) : Nat:=((W.take k).filter (ofN n)).length
theorem PT {W:List Wt} {n k:Nat} (h:k < W.length) : kZ W n (k+1)=if ofN n (rm W k)=true then kZ W n k+1 else kZ W n k:=by
 unfold kZ;rw [ub h,List.filter_append,List.length_append,zU h];cases hp:ofN n W[k]<;>simp [hp]
theorem PU {W:List Wt} {n k:Nat} (h:k < W.length) (hp:ofN n (rm W k)=true) : (W.filter (ofN n))[kZ W n k]? = some (rm W k):=by
 have e:W.take k++W[k]::W.drop (k+1)=W:=by rw [←List.drop_eq_getElem_cons h,List.take_append_drop]
 have oG:ofN n W[k]=true:=by rw [←zU h];exact hp
 have e2:W.filter (ofN n)=(W.take k).filter (ofN n)++W[k]::(W.drop (k+1)).filter (ofN n):=by
  rw [←List.filter_cons_of_pos oG,←List.filter_append,e]
 rw [zU h,e2];unfold kZ;rw [List.getElem?_append_right (Nat.le_refl _)];simp
theorem PV (W:List Wt) (n k:Nat) : kZ W n k≤k:=Nat.le_trans (List.length_filter_le _ _) (by simp;omega)
theorem PW {l:List Ev} {n k:Nat} (h:lH n l <+: eV n l) (hk:k < (fI l 0 l).length) (hp:ofN n (rm (fI l 0 l) k)=true) : ∃ hc:kZ (fI l 0 l) n k < (eV n l).length,(eV n l)[kZ (fI l 0 l) n k]=(rm (fI l 0 l) k).car:=by
 have h1:=PU hk hp;have h2:(lH n l)[kZ (fI l 0 l) n k]? = some (rm (fI l 0 l) k).car:=by
  rw [←H7 l n l 0];show (((fI l 0 l).filter (ofN n)).map (·.car))[kZ (fI l 0 l) n k]? = _;rw [List.getElem?_map,h1];rfl
 obtain ⟨t,ht⟩:=h;obtain ⟨h3,h4⟩:=List.getElem?_eq_some_iff.1 h2;rw [←ht];exact ⟨by rw [List.length_append];omega,by rw [List.getElem_append_left h3];exact h4⟩
def p6 (l:List Ev) (fd:Bool) (k:Nat) : Bool:=!(decide ((aB l k).kind=0) || decide ((aB l k).kind=1)) || fd
theorem PX (r:Ru) (l:List Ev) (number:Int) (hl:r.ranks.length≤9223372036854775807) (hL:l.length≤9223372036854775807) : VC Tryz.prog 6 [bN r,cF l,I number] (B true):=by
 have ha:=zh;have gF:=zi r hl;have gS:=zk l hL;clear hl hL;cases hF:qW r
 ·rw [hF] at gF;clear hF gS;refine aJ Tryz.func6 rfl (by kernel_rfl) rfl fun M0 w0=>?_;simp only [Tryz.ntmps6,Tryz.results6,aC];repeat' first|(with_reducible first|apply af|apply ae|apply aR|apply aw|apply ao|apply aa|refine ah [] ?_|(apply au;·go_simp)|(apply aj;·go_simp))|((with_reducible apply ab);intro X Y;go_simp;(first|(with_reducible refine ⟨_,ha,?_⟩)|(refine ⟨_,gF,?_⟩)|skip);apply Y;clear Y X)
  go_simp
 rw [hF] at gF;obtain ⟨h8,cf⟩:=zj hF;by_cases zl:(20:Int) < l.length
 ·clear hF h8 cf gS;refine aJ Tryz.func6 rfl (by kernel_rfl) rfl fun M0 w0=>?_;simp only [Tryz.ntmps6,Tryz.results6,aC];repeat' first|(with_reducible first|apply af|apply ae|apply aR|apply aw|apply ao|apply aa|refine ah [] ?_|(apply au;·go_simp)|(apply aj;·go_simp))|((with_reducible apply ab);intro X Y;go_simp;(first|(with_reducible refine ⟨_,ha,?_⟩)|(refine ⟨_,gF,?_⟩)|skip);apply Y;clear Y X)
  go_simp
 cases hS:qX l
 ·rw [hS] at gS;clear hF hS h8 cf;refine aJ Tryz.func6 rfl (by kernel_rfl) rfl fun M0 w0=>?_;simp only [Tryz.ntmps6,Tryz.results6,aC];repeat' first|(with_reducible first|apply af|apply ae|apply aR|apply aw|apply ao|apply aa|refine ah [] ?_|(apply au;·go_simp)|(apply aj;·go_simp))|((with_reducible apply ab);intro X Y;go_simp;(first|(with_reducible refine ⟨_,ha,?_⟩)|(refine ⟨_,gF,?_⟩)|(refine ⟨_,gS,?_⟩)|skip);apply Y;clear Y X)
  go_simp
 rw [hS] at gS;obtain ⟨fA,hc⟩:=zm hS;have cJ:SmallL r l:=⟨by omega,cf,hc⟩
 have g5:=Da r l (by omega) cf (by omega) hc;by_cases h:gE r l=0
 rotate_left
 ·clear hF hS h8 cf fA hc cJ;generalize gE r l=E at *;refine aJ Tryz.func6 rfl (by kernel_rfl) rfl fun M0 w0=>?_;simp only [Tryz.ntmps6,Tryz.results6,aC];repeat' first|(with_reducible first|apply af|apply ae|apply aR|apply aw|apply ao|apply aa|refine ah [] ?_|(apply au;·go_simp)|(apply aj;·go_simp))|((with_reducible apply ab);intro X Y;go_simp;(first|(with_reducible refine ⟨_,ha,?_⟩)|(refine ⟨_,gF,?_⟩)|(refine ⟨_,gS,?_⟩)|(refine ⟨_,g5,?_⟩)|skip);apply Y;clear Y X)
  go_simp
 rw [h] at g5;have gH:=Cz r number (by omega);cases hR:inR number 0 ((r.ranks.length:Int) - 1)
 ·rw [hR] at gH;clear hF hS h8 cf fA hc cJ h hR;refine aJ Tryz.func6 rfl (by kernel_rfl) rfl fun M0 w0=>?_;simp only [Tryz.ntmps6,Tryz.results6,aC];repeat' first|(with_reducible first|apply af|apply ae|apply aR|apply aw|apply ao|apply aa|refine ah [] ?_|(apply au;·go_simp)|(apply aj;·go_simp))|((with_reducible apply ab);intro X Y;go_simp;(first|(with_reducible refine ⟨_,ha,?_⟩)|(refine ⟨_,gF,?_⟩)|(refine ⟨_,gS,?_⟩)|(refine ⟨_,g5,?_⟩)|(refine ⟨_,gH,?_⟩)|skip);apply Y;clear Y X)
  go_simp
 rw [hR] at gH;obtain ⟨n,rfl,hn⟩ : ∃ n:Nat,number=n∧n < r.ranks.length:=by
  simp only [inR,Bool.and_eq_true,decide_eq_true_eq] at hR;exact ⟨number.toNat,by omega,by omega⟩
 by_cases hf:(rat r.ranks n).feeder = -1
 rotate_left
 ·clear hF hS h8 cf fA hc cJ h hR;refine aJ Tryz.func6 rfl (by kernel_rfl) rfl fun M0 w0=>?_;simp only [Tryz.ntmps6,Tryz.results6,aC];repeat' first|(with_reducible first|apply af|apply ae|apply aR|apply aw|apply ao|apply aa|refine ah [] ?_|(apply au;·go_simp)|(apply aj;·go_simp))|((with_reducible apply ab);intro X Y;go_simp;(first|(with_reducible refine ⟨_,ha,?_⟩)|(refine ⟨_,gF,?_⟩)|(refine ⟨_,gS,?_⟩)|(refine ⟨_,g5,?_⟩)|(refine ⟨_,gH,?_⟩)|skip);apply Y;clear Y X)
  go_simp
 have g1:=zf r (by omega);have g2:=zd l (by omega);have g4:=Cw r l cJ;have g6:=PS r n (by omega);rw [if_pos h,h] at g4;have C5:=Ig l;have PY:l.length≤20:=by omega
 have iO:∀ k,k < l.length→0≤(aB l k).kind∧(aB l k).kind≤5:=fun k hk=>by
  have:=qo (vY l 0 (st0 r) (uG h).2.2.2 _ (List.getElem_mem hk));rwa [←kq hk] at this
 have Ij:=Lib.hid iO;have s0:Hid ((∀ k,k < l.length→p6 l (sZ r n) k=false)→l≠[]→lH n l <+: eV n l):=Lib.hid fun hs ax=>by
  have h0:0 < l.length:=List.length_pos_iff.2 ax;have nv:sZ r n=false:=by
   have:=hs 0 h0;unfold p6 at this;simp only [Bool.or_eq_false_iff] at this;exact this.2
  refine PH (uc (uG h).1).1 hn ⟨hf,fun k hk he=>?_⟩ (fun x hx=>?_) (uG h).2.2.2
  ·have:sZ r n=true:=nB hk (by rw [wZ,he];simp);rw [nv] at this;cases this
  ·obtain ⟨k,hk,rfl⟩:=List.getElem_of_mem hx;have:=hs k hk;unfold p6 at this;simp only [Bool.or_eq_false_iff,Bool.not_eq_false',Bool.or_eq_true,decide_eq_true_eq] at this;rw [←kq hk];exact this.1
 have ec:eV n (l.take l.length)=eV n l:=by rw [List.take_length]
 have EC:=Lib.hid ec;have rn:=fun k=>Ii (n:=n) (l.take k);have Ik:=Lib.hid rn;have PZ:Hid (l=[]→fI l 0 l=[]):=Lib.hid fun h=>by rw [h];rfl
 have Dm:=Lib.hid C5;have Il:=Lib.hid (fun (h:lH n l <+: eV n l) (k:Nat)=>PW (k:=k) h);have hz:eV n []=[]:=rfl;clear hF hS h8 cf fA hc cJ h hR iO ec rn C5;generalize fI l 0 l=W at *;cases nv:sZ r n;all_goals rw [nv] at g6 s0
 ·clear nv;refine aJ Tryz.func6 rfl (by kernel_rfl) rfl fun M0 w0=>?_;simp only [Tryz.ntmps6,Tryz.results6,aC];repeat' first|(with_reducible first|apply af|apply ae|apply ao|apply az|apply aa|refine ah [7] ?_|(apply aj;·go_simp))|((with_reducible apply ab);intro X Y;go_simp;(first|(with_reducible refine ⟨_,ha,?_⟩)|(refine ⟨_,gF,?_⟩)|(refine ⟨_,gS,?_⟩)|(refine ⟨_,g5,?_⟩)|(refine ⟨_,gH,?_⟩)|skip);apply Y;clear Y X)
  apply ef [1,2,3] (fun k=>[(8,I k),(7,.osl 0)]) (fun k=>([some (.arr 9 1 (decide (eV n (l.take k)=[])) ((eV n (l.take k)).map bL))] : Hp)) (p6 l false) (l.length)
  ·go_simp<;>exact rfl
  ·go_simp
  ·intro k hk HB HP K hK;obtain ⟨w1,w2,w3,w4,w5,w6⟩:=ixs (m:=k) (by omega);have hp:=HP.out;unfold p6 at hp;simp only [Bool.or_false,Bool.not_eq_false',Bool.or_eq_true,decide_eq_true_eq] at hp;have hs:=Ih (n:=n) hk;have hb:(eV n (l.take k)).length+1≤1000000000:=by
    have:=Ik.out k;rw [List.length_take] at this;omega
   clear hz;rcases hp with h0|h1
   ·by_cases oF:(aB l k).rank=n
    ·rw [if_pos ⟨h0,oF⟩] at hs;have HS:=Lib.hid hs;clear hs;repeat' first|(with_reducible first|apply af|apply ae|apply ao|apply az|apply aY|apply aa|refine ah [] ?_|(apply au;·go_simp)|(apply aj;·go_simp))|((with_reducible apply ab);intro X Y;go_simp;(first|(refine ⟨_,g6,?_⟩)|skip);apply Y;clear Y X)
     refine hK _ ?_;rw [HS.out];go_simp
    ·rw [if_neg (fun hh=>oF hh.2),List.append_nil] at hs;have HS:=Lib.hid hs;clear hs;repeat' first|(with_reducible first|apply af|apply ae|apply ao|apply az|apply aY|apply aa|refine ah [] ?_|(apply au;·go_simp)|(apply aj;·go_simp))|((with_reducible apply ab);intro X Y;go_simp;(first|(refine ⟨_,g6,?_⟩)|skip);apply Y;clear Y X)
     refine hK _ ?_;rw [HS.out];go_simp
   ·rw [if_neg (fun hh=>by omega),List.append_nil] at hs;have HS:=Lib.hid hs;clear hs;repeat' first|(with_reducible first|apply af|apply ae|apply ao|apply az|apply aY|apply aa|refine ah [] ?_|(apply au;·go_simp)|(apply aj;·go_simp))|((with_reducible apply ab);intro X Y;go_simp;(first|(refine ⟨_,g6,?_⟩)|skip);apply Y;clear Y X)
    refine hK _ ?_;rw [HS.out];go_simp
  ·intro k hk HB HP K;obtain ⟨w1,w2,w3,w4,w5,w6⟩:=ixs (m:=k) (by omega);have hp:=HP.out;unfold p6 at hp;simp only [Bool.or_false,Bool.not_eq_true',Bool.or_eq_false_iff,decide_eq_false_iff_not] at hp;obtain ⟨k1,k2⟩:=Ij.out k hk;clear hz;have mw:(aB l k).kind=2∨(aB l k).kind=3∨(aB l k).kind=5∨(aB l k).kind=4:=by omega
   clear hp k1 k2;rcases mw with h2|h2|h2|h2
   ·repeat' with_reducible first|apply af|apply ae|apply aR|apply aw|apply ao|apply az|apply cB|apply aa|refine ah [] ?_|(apply au;·go_simp)|(apply ab;intro X Y;go_simp;apply Y;clear Y X)
    go_simp
   ·repeat' with_reducible first|apply af|apply ae|apply aR|apply aw|apply ao|apply az|apply cB|apply aa|refine ah [] ?_|(apply au;·go_simp)|(apply ab;intro X Y;go_simp;apply Y;clear Y X)
    go_simp
   ·repeat' with_reducible first|apply af|apply ae|apply aR|apply aw|apply ao|apply az|apply cB|apply aa|refine ah [] ?_|(apply au;·go_simp)|(apply ab;intro X Y;go_simp;apply Y;clear Y X)
    go_simp
   ·repeat' with_reducible first|apply af|apply ae|apply aR|apply aw|apply ao|apply az|apply cB|apply aa|refine ah [] ?_|(apply au;·go_simp)|(apply aj;·go_simp)|(apply ab;intro X Y;go_simp;apply Y;clear Y X)
    go_simp
  ·intro HB K;rw [EC.out];have jj:Hid (l≠[]→lH n l <+: eV n l):=Lib.hid (s0.out HB.out);have e0:kZ W n 0=0:=rfl;clear hz;repeat' first|(with_reducible first|apply af|apply ae|apply bE|apply ao|apply bF|apply az|apply bG|apply aa|refine ah [] ?_|(apply aj;·go_simp))|((with_reducible apply ab);intro X Y;go_simp;(first|(refine ⟨_,g1,?_⟩)|(refine ⟨_,g2,?_⟩)|(refine ⟨_,g4,?_⟩)|skip);apply Y;clear Y X)
   apply k8 [2,7,9] (fun k=>[(12,I k),(11,I (kZ W n k))]) (fun k=>([some (.arr 9 1 (decide (eV n l=[])) ((eV n l).map bL))] : Hp))  (W.length)
   ·go_simp<;>exact rfl
   ·go_simp
   ·intro k hk K hK;obtain ⟨w1,w2,w3,w4,w5,w6⟩:=ixs (m:=k) (by have:=Dm.out;omega);have hs:=PT (n:=n) hk;have hb:=PV W n k;have Sm:=Dm.out;obtain ⟨v1,v2,v3,v4,v5,v6⟩:=ixs (m:=kZ W n k) (by omega);have ax:l≠[]:=fun h=>by
     have:=Dm.out;rw [h] at this;simp only [List.length_nil] at this;omega
    have zV:=Il.out (jj.out ax) k hk;rw [zU hk] at hs zV;clear e0;by_cases hr:W[k].rank=n
    ·have ho:ofN n W[k]=true:=by rw [ofN,hr];simp
     rw [if_pos ho] at hs;obtain ⟨re,gr⟩:=zV ho;have HS:=Lib.hid hs;clear hs zV ho;generalize kZ W n k=J at *;repeat' first|(with_reducible first|apply af|apply ae|apply ao|apply az|apply aY|apply aa|refine ah [] ?_|apply aP|(apply au;·go_simp)|(apply aj;·go_simp)|((first|apply ab|apply aO);intro X Y;go_simp;apply Y;clear Y X))|((refine bf 16 16 [] rfl (by kernel_rfl) ?_);simp only [aA])
     refine hK _ ?_;rw [HS.out];go_simp
    ·have ho:ofN n W[k]=false:=by rw [ofN];simpa using hr
     rw [ho] at hs;simp only [Bool.false_eq_true,if_false] at hs;have HS:=Lib.hid hs;clear hs zV ho;repeat' with_reducible first|apply af|apply ae|apply bE|apply ao|apply bF|apply az|apply bG|apply aa|refine ah [] ?_|(apply au;·go_simp)|(apply ab;intro X Y;go_simp;apply Y;clear Y X)
     refine hK _ ?_;rw [HS.out];go_simp
   ·intro K;repeat' with_reducible first|apply af|apply ae|apply bE|apply aw|apply bF|apply bG|apply aa|refine ah [] ?_|(apply aj;·go_simp)|(apply ab;intro X Y;go_simp;apply Y;clear Y X)
    go_simp
 ·clear nv s0 Il;refine aJ Tryz.func6 rfl (by kernel_rfl) rfl fun M0 w0=>?_;simp only [Tryz.ntmps6,Tryz.results6,aC];repeat' first|(with_reducible first|apply af|apply ae|apply ao|apply az|apply aa|refine ah [7] ?_|(apply aj;·go_simp))|((with_reducible apply ab);intro X Y;go_simp;(first|(with_reducible refine ⟨_,ha,?_⟩)|(refine ⟨_,gF,?_⟩)|(refine ⟨_,gS,?_⟩)|(refine ⟨_,g5,?_⟩)|(refine ⟨_,gH,?_⟩)|skip);apply Y;clear Y X)
  apply ef [1,2,3] (fun k=>[(8,I k),(7,.osl 0)]) (fun k=>([some (.arr 9 1 (decide (eV n (l.take k)=[])) ((eV n (l.take k)).map bL))] : Hp)) (p6 l true) (l.length)
  ·go_simp<;>exact rfl
  ·go_simp
  ·intro k hk HB HP K hK;have hp:=HP.out;unfold p6 at hp;simp only [Bool.or_true,Bool.true_eq_false] at hp
  ·intro k hk HB HP K;obtain ⟨w1,w2,w3,w4,w5,w6⟩:=ixs (m:=k) (by omega);obtain ⟨k1,k2⟩:=Ij.out k hk;have hb:(eV n (l.take k)).length+1≤1000000000:=by
    have:=Ik.out k;rw [List.length_take] at this;omega
   clear hz;have mw:(aB l k).kind=0∨(aB l k).kind=1∨(aB l k).kind=2∨(aB l k).kind=3∨(aB l k).kind=5∨(aB l k).kind=4:=by omega
   clear k1 k2;rcases mw with h2|h2|h2|h2|h2|h2
   ·by_cases oF:(aB l k).rank=n
    ·repeat' first|(with_reducible first|apply af|apply ae|apply aR|apply aw|apply ao|apply az|apply cB|apply aa|refine ah [] ?_|(apply au;·go_simp)|(apply aj;·go_simp))|((with_reducible apply ab);intro X Y;go_simp;(first|(refine ⟨_,g6,?_⟩)|skip);apply Y;clear Y X)
     go_simp
    ·repeat' first|(with_reducible first|apply af|apply ae|apply aR|apply aw|apply ao|apply az|apply cB|apply aa|refine ah [] ?_|(apply au;·go_simp)|(apply aj;·go_simp))|((with_reducible apply ab);intro X Y;go_simp;(first|(refine ⟨_,g6,?_⟩)|skip);apply Y;clear Y X)
     go_simp
   ·repeat' first|(with_reducible first|apply af|apply ae|apply aR|apply aw|apply ao|apply az|apply cB|apply aa|refine ah [] ?_|(apply au;·go_simp)|(apply aj;·go_simp))|((with_reducible apply ab);intro X Y;go_simp;(first|(refine ⟨_,g6,?_⟩)|skip);apply Y;clear Y X)
    go_simp
   ·repeat' with_reducible first|apply af|apply ae|apply aR|apply aw|apply ao|apply az|apply cB|apply aa|refine ah [] ?_|(apply au;·go_simp)|(apply ab;intro X Y;go_simp;apply Y;clear Y X)
    go_simp
   ·repeat' with_reducible first|apply af|apply ae|apply aR|apply aw|apply ao|apply az|apply cB|apply aa|refine ah [] ?_|(apply au;·go_simp)|(apply ab;intro X Y;go_simp;apply Y;clear Y X)
    go_simp
   ·repeat' with_reducible first|apply af|apply ae|apply aR|apply aw|apply ao|apply az|apply cB|apply aa|refine ah [] ?_|(apply au;·go_simp)|(apply ab;intro X Y;go_simp;apply Y;clear Y X)
    go_simp
   ·repeat' with_reducible first|apply af|apply ae|apply aR|apply aw|apply ao|apply az|apply cB|apply aa|refine ah [] ?_|(apply au;·go_simp)|(apply aj;·go_simp)|(apply ab;intro X Y;go_simp;apply Y;clear Y X)
    go_simp
  ·intro HB K;have oJ:l=[]:=by
    cases l with
    | nil=>rfl
    | cons x t=>
     have:=HB.out 0 (by simp);unfold p6 at this;simp only [Bool.or_true,Bool.true_eq_false] at this
   have AM:=PZ.out oJ;subst oJ;subst AM;clear hz;repeat' first|(with_reducible first|apply af|apply ae|apply bE|apply ao|apply bF|apply az|apply bG|apply aa|refine ah [] ?_|(apply aj;·go_simp))|((with_reducible apply ab);intro X Y;go_simp;(first|(refine ⟨_,g1,?_⟩)|(refine ⟨_,g2,?_⟩)|(refine ⟨_,g4,?_⟩)|skip);apply Y;clear Y X)
   apply k8 [2,7,9] (fun k=>[(12,I k),(11,I 0)]) (fun k=>([some (.arr 9 1 (decide (eV n []=[])) ((eV n []).map bL))] : Hp))  ((0:Nat))
   ·go_simp<;>exact rfl
   ·go_simp
   ·intro k hk K hK;omega
   ·intro K;repeat' with_reducible first|apply af|apply ae|apply bE|apply aw|apply bF|apply bG|apply aa|refine ah [] ?_|(apply aj;·go_simp)|(apply ab;intro X Y;go_simp;apply Y;clear Y X)
    go_simp
end Go.Proofs.YtoibondihdhnoaaGreatDoor
