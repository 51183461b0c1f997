/- Texts in one: The law of what is seen of a log: true whatever the input is. -/
import Derived.Test.YtoibondihdhnoaaGreatDoorFRY39
import Derived.Test.YtoibondihdhnoaaGreatDoorFRY31
import Derived.Test.YtoibondihdhnoaaGreatDoorFRY56
import Derived.Test.YtoibondihdhnoaaGreatDoorFRY8
namespace Go.Proofs.YtoibondihdhnoaaGreatDoor
open Go.RowKit
def rj (g:Sg) : Prop:=inR g.kind 0 3=true∧inR g.rank 0 5=true∧dj g.car=true
theorem rl {n a b:Int} (h1:a≤n) (h2:n≤b) : inR n a b=true:=by simp [inR,h1,h2]
theorem H0 {r:Ru} {s:St} (hr:RuOK r) (hi:Inv r s) {k:Nat} (hk:k < s.q.length) (hf:(rat r.ranks k).feeder≠-1) (hp:0 < (qat s.q (feedN r k)).length) : ∀ g∈upM s.q k (feedN r k),rj g:=by
 have mA:k < r.ranks.length:=by rw [←hi.len];exact hk
 obtain ⟨p1,p2,p3⟩:=hr.feedN mA hf;have h6:=hr.n6;have cM:feedN r k < s.q.length:=by rw [hi.len];exact p3
 have hm:tat (qat s.q (feedN r k)) 0∈s.q.flatten:=by
  rw [KP];exact ⟨feedN r k,cM,0,hp,rfl⟩
 have hn:=hi.name _ (List.mem_append_left _ hm);intro g hg;simp only [upM,List.mem_cons,List.not_mem_nil,or_false] at hg;rcases hg with rfl|rfl
 ·exact ⟨rl (by simp only;omega) (by simp only;omega),rl (by simp only;omega) (by simp only;omega),hn⟩
 ·exact ⟨rl (by simp only;omega) (by simp only;omega),rl (by simp only;omega) (by simp only;omega),hn⟩
theorem H3 {r:Ru} (hr:RuOK r) : ∀ (n:Nat) (s:St) (m:List Sg),Inv r s→(∀ g∈m,rj g)→∀ g∈(bZ r n s m).2,rj g
 | 0,_,_,_,hm=>hm
 | n+1,s,m,hi,hm=>by
  rw [bZ];split
  ·exact hm
  ·rename_i h;obtain ⟨k,ek,hk,hp⟩:=kH h;rw [ek,Int.toNat_natCast];obtain ⟨f1,f2,f3⟩:=kG hp;have r_:k < s.q.length:=by rw [hi.len];exact hk
   refine H3 hr n _ _ (hi.up hr r_ f1 f2 f3) fun g hg=>?_;rcases List.mem_append.1 hg with h|h
   ·exact hm g h
   ·exact H0 hr hi r_ f1 f2 g h
theorem Pw {r:Ru} (hr:RuOK r) {x:Ev} (h:evE r x=0) : ∀ g∈fw x,rj g:=by
 have hk:=qo h;have hR:=rW h;have h6:=hr.n6;obtain ⟨_,hn⟩:=B1 h;unfold fw;intro g hg;by_cases h4:x.kind=4
 ·rw [if_pos h4] at hg;cases hg
 rw [if_neg h4] at hg;have cf:=hn h4;by_cases h5:x.kind=5
 ·rw [if_pos h5] at hg;obtain rfl:=List.mem_singleton.1 hg;exact ⟨rl (by simp only;omega) (by simp only;omega),rl (by simp only;omega) (by simp only;omega),cf⟩
 ·rw [if_neg h5] at hg;obtain rfl:=List.mem_singleton.1 hg;exact ⟨rl (by simp only;omega) (by simp only;omega),rl (by simp only;omega) (by simp only;omega),cf⟩
theorem Px {r:Ru} {s:St} (hr:RuOK r) (hi:Inv r s) {x:Ev} (h:apE r s x=0) : ∀ g∈fw x++(apU r s x).2,rj g:=by
 obtain ⟨h1,h2,h3,h5,h6⟩:=parts h;intro g hg;rcases List.mem_append.1 hg with hg|hg
 ·exact Pw hr h1 g hg
 ·refine H3 hr _ _ _ (hi.doS hr h1 h2 h5 h3) (fun g hg=>?_) g hg;unfold doM at hg;by_cases h4:x.kind=4
  ·rw [if_pos h4] at hg;have hk:x.rank.toNat < s.q.length:=by rw [hi.len];exact h6
   unfold doE at h3;rw [if_neg (by omega),if_neg (by omega),if_neg (by omega),if_neg (by omega),if_pos h4] at h3;have wW:(rat r.ranks x.rank.toNat).feeder≠-1:=fun h=>by
    unfold iB at h3;rw [if_pos h] at h3;exact absurd h3 (by decide)
   have hp:0 < (qat s.q (feedN r x.rank.toNat)).length:=by
    unfold iB at h3;rw [if_neg wW,cm,cm] at h3;exact of_decide_eq_true (eQ (by decide) h3.2.1)
   exact H0 hr hi hk wW hp g hg
  ·rw [if_neg h4] at hg;cases hg
theorem H4 {r:Ru} (hr:RuOK r) : ∀ (l:List Ev) (s:St),Inv r s→∀ g∈fk r l s,rj g
 | [],_,_,g,hg=>by cases hg
 | x::l,s,hi,g,hg=>by
  by_cases h:apE r s x=0
  ·rw [Hr h] at hg;rcases List.mem_append.1 hg with hg|hg
   ·exact Px hr hi h g hg
   ·exact H4 hr l _ (Inv.ap hr hi h).1 g hg
  ·rw [fk,if_pos h] at hg;cases hg
theorem Py {L:List Sg} (h:∀ g∈L,rj g) (hl:L.length≤200) (hn:∀ i j k,¬OverP L i j k) : ovE L=12∧ovT L = .agg [I 0,I 0,I 0]:=by
 have h0:qL L=0:=by
  unfold qL;rw [if_neg (by omega),BP];intro k _ hk;rw [Nat.zero_add] at hk;obtain ⟨h1,h2,h3⟩:=h _ (List.getElem_mem hk);rw [←y8 hk] at h1 h2 h3;simp [sgE,fst,unl,h1,h2,h3]
 have Pz:=La hn;have e:ovE L=12:=by
  unfold ovE;rw [h0,if_neg (by simp),Pz,if_pos (by decide)]
 exact ⟨e,by unfold ovT;rw [e,if_pos (by decide)]⟩
theorem PA {L:List Sg} (h:∀ g∈L,rj g) : ∀ k,k < L.length→(aI L k).car.size≤1000:=fun k hk=>by
 have:=(h _ (List.getElem_mem hk)).2.2;rw [←y8 hk] at this;exact C4 this
set_option maxRecDepth 100000
set_option maxHeartbeats 2000000
def zT (l:List Ev) (k:Nat) : Bool:=decide ((aB l k).kind=5)
theorem PB {r:Ru} {l:List Ev} (h:gE r l≠0) : oR r l=([],gE r l):=by
 unfold gE at h ⊢;unfold oR;by_cases h1:dR r l≠0
 ·rw [if_pos h1,if_pos h1]
 ·rw [if_neg h1] at h ⊢;rw [if_neg h1,if_pos h]
theorem uG {r:Ru} {l:List Ev} (h:gE r l=0) : (dm r).2=0∧dR r l=0∧l.length≤200∧(goP r 0 l (st0 r)).2.2=0:=by
 unfold gE at h;by_cases h1:dR r l=0
 ·rw [if_neg (by simpa using h1)] at h;obtain ⟨_,h2,h3⟩:=yT h1;exact ⟨h2,h1,h3,h⟩
 ·rw [if_pos h1] at h;exact absurd h h1
theorem PC {r:Ru} {l:List Ev} (h:gE r l=0) : gQ r l=((goP r 0 l (st0 r)).1,fk r l (st0 r),0,0):=by
 obtain ⟨_,_,h2,h3⟩:=uG h;unfold gQ;rw [if_neg (by omega),if_neg (by simpa using h3)]
theorem PD (r:Ru) (l:List Ev) (hl:r.ranks.length≤9223372036854775807) (hL:l.length≤9223372036854775807) : VC Tryz.prog 5 [bN r,cF l] (B true):=by
 have ha:=zh;have gF:=zi r hl;have gS:=zk l hL;clear hl hL;cases hF:qW r
 ·rw [hF] at gF;clear hF gS;refine aJ Tryz.func5 rfl (by kernel_rfl) rfl fun M0 w0=>?_;simp only [Tryz.ntmps5,Tryz.results5,aC];repeat' first|(with_reducible first|apply af|apply ae|apply aR|apply aw|apply ao|apply aa|refine ah [] ?_|(apply au;·go_simp)|(apply aj;·go_simp))|((with_reducible apply ab);intro X Y;go_simp;(first|(with_reducible refine ⟨_,ha,?_⟩)|(refine ⟨_,gF,?_⟩)|skip);apply Y;clear Y X)
  go_simp
 rw [hF] at gF;cases hS:qX l
 ·rw [hS] at gS;clear hF hS;refine aJ Tryz.func5 rfl (by kernel_rfl) rfl fun M0 w0=>?_;simp only [Tryz.ntmps5,Tryz.results5,aC];repeat' first|(with_reducible first|apply af|apply ae|apply aR|apply aw|apply ao|apply aa|refine ah [] ?_|(apply au;·go_simp)|(apply aj;·go_simp))|((with_reducible apply ab);intro X Y;go_simp;(first|(with_reducible refine ⟨_,ha,?_⟩)|(refine ⟨_,gF,?_⟩)|(refine ⟨_,gS,?_⟩)|skip);apply Y;clear Y X)
  go_simp
 rw [hS] at gS;obtain ⟨h8,cf⟩:=zj hF;obtain ⟨fA,hc⟩:=zm hS;have cJ:SmallL r l:=⟨by omega,cf,hc⟩
 have g1:=zf r (by omega);have g2:=zd l (by omega);have g3:=GB r l cJ;have g4:=Da r l (by omega) cf (by omega) hc;by_cases h:gE r l=0
 ·obtain ⟨h1,h2,h3,h4⟩:=uG h;have hr:=(uc h1).1;have g5:=C_ r l (by omega) hr (by omega) hc;rw [PC h] at g5;have oW:=H4 hr l _ (Inv.st0 hr);have sY:=fun h5=>JH hr l h4 h5;have es:oR r l=if (fk r l (st0 r)).length≤200 then (fk r l (st0 r),0) else ([],8):=by
   unfold oR;rw [if_neg (by simpa using h2),if_neg (by simpa using h4)]
  rw [h] at g4;generalize fk r l (st0 r)=G at *;generalize (goP r 0 l (st0 r)).1=S1 at *;simp only at g5;by_cases hZ:G.length≤200
  ·rw [es,if_pos hZ] at g3;simp only at g3;have g6:=MX G (by omega);have hb:¬(200:Int) < G.length:=by omega
   have qZ:G.length≤1000000000:=by omega
   have HL:=Lib.hid (fun h5=>Py oW hZ (sY h5));have HC:=Lib.hid (PA oW);clear hF hS h8 cf fA hc cJ h h1 h2 h4 hr oW sY es hZ;refine aJ Tryz.func5 rfl (by kernel_rfl) rfl fun M0 w0=>?_;simp only [Tryz.ntmps5,Tryz.results5,aC];repeat' first|(with_reducible first|apply af|apply ae|apply ao|apply az|apply aa|refine ah [] ?_|(apply aj;·go_simp))|((with_reducible apply ab);intro X Y;go_simp;(first|(with_reducible refine ⟨_,ha,?_⟩)|(refine ⟨_,gF,?_⟩)|(refine ⟨_,gS,?_⟩)|(refine ⟨_,g1,?_⟩)|(refine ⟨_,g2,?_⟩)|(refine ⟨_,g3,?_⟩)|(refine ⟨_,g4,?_⟩)|(refine ⟨_,g5,?_⟩)|(refine ⟨_,g6,?_⟩)|skip);apply Y;clear Y X)
   apply ef [1,9] (fun k=>[(12,I k)]) (fun k=>([some (.box [h_ S1.q,.sl 3 (S1.tk.map Tk.av),I S1.time])] : Hp)) (zT l) (l.length)
   ·go_simp<;>exact rfl
   ·go_simp
   ·intro k hk HB HP K hK;obtain ⟨w1,w2,w3,w4,w5,w6⟩:=ixs (m:=k) (by omega);have hp:=HP.out;rw [zT,decide_eq_false_iff_not] at hp;repeat' with_reducible first|apply af|apply ae|apply ao|apply az|apply aY|apply aa|refine ah [] ?_|(apply au;·go_simp)|(apply aj;·go_simp)|(apply ab;intro X Y;go_simp;apply Y;clear Y X)
    refine hK _ ?_;go_simp
   ·intro k hk HB HP K;have hp:=HP.out;rw [zT,decide_eq_true_eq] at hp;repeat' with_reducible first|apply af|apply ae|apply aR|apply aw|apply ao|apply az|apply cB|apply aa|refine ah [] ?_|(apply au;·go_simp)|(apply ab;intro X Y;go_simp;apply Y;clear Y X)
    go_simp
   ·intro HB K;obtain ⟨e1,e2⟩:=HL.out fun x hx=>by
     obtain ⟨k,hk,rfl⟩:=List.getElem_of_mem hx;have:=HB.out k hk;rw [zT,decide_eq_false_iff_not,kq hk] at this;exact this
    have g7:=Gd G (by omega) HC.out;rw [e1,e2] at g7;repeat' first|(with_reducible first|apply af|apply ae|apply bE|apply aw|apply bF|apply bG|apply aa|refine ah [85] ?_|(apply aj;·go_simp))|((with_reducible apply ab);intro X Y;go_simp;(first|(refine ⟨_,⟨g7,rfl⟩,?_⟩)|skip);apply Y;clear Y X)
    go_simp
  ·rw [es,if_neg hZ] at g3;simp only at g3;have hb:(200:Int) < G.length:=by omega
   clear hF hS h8 cf fA hc cJ h h1 h2 h3 h4 hr oW sY es hZ;refine aJ Tryz.func5 rfl (by kernel_rfl) rfl fun M0 w0=>?_;simp only [Tryz.ntmps5,Tryz.results5,aC];repeat' first|(with_reducible first|apply af|apply ae|apply aR|apply aw|apply ao|apply aa|refine ah [] ?_|(apply au;·go_simp)|(apply aj;·go_simp))|((with_reducible apply ab);intro X Y;go_simp;(first|(with_reducible refine ⟨_,ha,?_⟩)|(refine ⟨_,gF,?_⟩)|(refine ⟨_,gS,?_⟩)|(refine ⟨_,g1,?_⟩)|(refine ⟨_,g2,?_⟩)|(refine ⟨_,g3,?_⟩)|(refine ⟨_,g4,?_⟩)|(refine ⟨_,g5,?_⟩)|skip);apply Y;clear Y X)
   go_simp
 ·rw [PB h] at g3;simp only at g3;clear hF hS h8 cf fA hc cJ;generalize gE r l=E at *;refine aJ Tryz.func5 rfl (by kernel_rfl) rfl fun M0 w0=>?_;simp only [Tryz.ntmps5,Tryz.results5,aC];repeat' first|(with_reducible first|apply af|apply ae|apply aR|apply aw|apply ao|apply aa|refine ah [] ?_|(apply au;·go_simp)|(apply aj;·go_simp))|((with_reducible apply ab);intro X Y;go_simp;(first|(with_reducible refine ⟨_,ha,?_⟩)|(refine ⟨_,gF,?_⟩)|(refine ⟨_,gS,?_⟩)|(refine ⟨_,g1,?_⟩)|(refine ⟨_,g2,?_⟩)|(refine ⟨_,g3,?_⟩)|(refine ⟨_,g4,?_⟩)|skip);apply Y;clear Y X)
  go_simp
end Go.Proofs.YtoibondihdhnoaaGreatDoor
