/- Texts in one: Walks: the first car of a feeder moves up, as the reference has it. -/
import Derived.Test.YtoibondihdhnoaaGreatDoorFRY50
import Derived.Test.YtoibondihdhnoaaGreatDoorFRY51
import Derived.Test.YtoibondihdhnoaaGreatDoorFRY8
namespace Go.Proofs.YtoibondihdhnoaaGreatDoor
open Go.RowKit
set_option maxRecDepth 100000
set_option maxHeartbeats 4000000
def rf (q:List (List ByteArray)) (k f i:Nat) : List ByteArray:=(if i=f then (qat q i).tail else qat q i)++if i=k then [tat (qat q f) 0] else []
def mvK (q:List (List ByteArray)) (k f n:Nat) : List (List AV):=((List.range n).map fun i=>(rf q k f i).map bL).map fun l=>[AV.sl 1 l]
theorem Ou (q:List (List ByteArray)) (k f n:Nat) : mvK q k f (n+1)=mvK q k f n++[[.sl 1 ((rf q k f n).map bL)]]:=by simp [mvK,List.range_succ]
theorem Ov (q:List (List ByteArray)) (k f n:Nat) : (mvK q k f n).length=n:=by simp [mvK]
theorem Ow (q:List (List ByteArray)) (k f:Nat) : AV.sl 1 (mvK q k f q.length)=h_ (px q k f):=by
 unfold h_ mvK px bx;simp only [List.map_map];rfl
theorem Hm (r:Ru) (q:List (List ByteArray)) (c f:Nat) (hk:c < q.length) (hr:r.ranks.length=q.length) (hf:(rat r.ranks c).feeder=f) (cM:f < q.length) (ax:f≠c) (hp:0 < (qat q f).length) (hl:q.length≤1000000) (hq:∀ i,i < q.length→(qat q i).length≤1000000) :
  VH Tryz.prog 133 [] [bN r,h_ q,I (c:Int)] [] [none,some (.arr 45 3 false ((upM q c f).map Sg.av))] (.tup [h_ (px q c f),.osl 1]):=by
 rw [←Ow];have cw:c < r.ranks.length:=by omega
 have e0:mvK q c f 0=[]:=rfl;have vj:(qat q f)[0]=tat (qat q f) 0:=(ie hp).symm;have HQ:=Lib.hid hq;clear hq;unfold upM;refine dk Tryz.func133 rfl (by kernel_rfl) rfl (fun _=>by kernel_rfl) fun M0 w0 vs=>?_;simp only [Tryz.ntmps133,Tryz.results133,aC];repeat' with_reducible first|apply af|apply ae|apply az|apply aa|refine ah [10] ?_|(apply ab;intro X Y;go_simp;apply Y;clear Y X)
 apply k8 [1,2,8,9] (fun k=>[(11,I k),(10,.osl 0)]) (fun k=>([some (.arr 62 1 (decide (mvK q c f k=[])) (mvK q c f k))] : Hp))  (q.length)
 ·go_simp<;>exact rfl
 ·go_simp
 ·intro i hi K hK;obtain ⟨w1,w2,w3,w4,w5,w6⟩:=ixs (m:=i) (by omega);have hs:=Ou q c f i;have hb:(mvK q c f i).length+1≤1000000000:=by have:=Ov q c f i;omega
  have kD:=HQ.out i hi;have HS:=Lib.hid hs;clear e0 hs;generalize mvK q c f i=RV at *;by_cases h1:i=f
  ·subst h1;have hm:rf q c i i=(qat q i).tail:=by unfold rf;rw [if_pos rfl,if_neg ax,List.append_nil]
   have HM:=Lib.hid hm;have g:=GK (qat q i) kD;clear hm;have rG:¬(i:Int)=c:=by omega
   have oG:(1:Int)≤(qat q i).length:=by omega
   have JJ:List.take (qat q i).length ((qat q i).map bL)=(qat q i).map bL:=List.take_of_length_le (by simp);repeat' with_reducible first|apply af|apply ae|apply ao|apply az|apply aY|apply aa|refine ah [] ?_|(apply au;·go_simp)|(apply aj;·go_simp)|(apply ab;intro X Y;go_simp;(first|(refine ⟨_,g,?_⟩)|skip);apply Y;clear Y X)
   refine hK _ ?_;rw [HS.out,HM.out,vi];go_simp
  by_cases h2:i=c
  ·subst h2;have hm:rf q i f i=qat q i++[tat (qat q f) 0]:=by unfold rf;rw [if_neg h1,if_pos rfl]
   have HM:=Lib.hid hm;have g:=zc (qat q i) kD;have hb2:(qat q i).length+1≤1000000000:=by omega
   clear hm;have BB:¬(i:Int)=f:=by omega
   repeat' with_reducible apply af
   refine ah [] ?_;repeat' with_reducible first|apply af|apply ae|apply ao|apply az|apply aa|(apply au;·go_simp)|(apply ab;intro X Y;go_simp;apply Y;clear Y X)
   refine ah [35] ?_;repeat' first|(with_reducible first|apply af|apply ae|apply aa)|((with_reducible apply ab);intro X Y;go_simp;(first|(refine ⟨_,_,.inl ⟨_,g,?_⟩⟩)|skip);apply Y;clear Y X)
   refine ah [] ?_;repeat' with_reducible first|apply af|apply ae|apply ao|apply aa|(apply aj;·go_simp)|(apply ab;intro X Y;go_simp;apply Y;clear Y X)
   refine ah [] ?_;repeat' with_reducible first|apply ae|apply aa|(apply au;·go_simp)|(apply ab;intro X Y;go_simp;apply Y;clear Y X)
   refine ah [] ?_;repeat' with_reducible first|apply ae|apply aa|(apply ab;intro X Y;go_simp;apply Y;clear Y X)
   refine nU 12 1 rfl rfl ?_;skip
   refine ah [] ?_;repeat' with_reducible first|apply ae|apply aY|apply aa|(apply ab;intro X Y;go_simp;apply Y;clear Y X)
   refine ah [] ?_;repeat' with_reducible first|apply ae|apply aa|(apply ab;intro X Y;go_simp;apply Y;clear Y X)
   refine hK _ ?_;rw [HS.out,HM.out,←rM];go_simp
  ·have hm:rf q c f i=qat q i:=by unfold rf;rw [if_neg h1,if_neg h2,List.append_nil]
   have HM:=Lib.hid hm;have g:=GK (qat q i) kD;clear hm;have BB:¬(i:Int)=f:=by omega
   have rG:¬(i:Int)=c:=by omega
   repeat' with_reducible first|apply af|apply ae|apply ao|apply az|apply aY|apply aa|refine ah [] ?_|(apply au;·go_simp)|(apply aj;·go_simp)|(apply ab;intro X Y;go_simp;(first|(refine ⟨_,g,?_⟩)|skip);apply Y;clear Y X)
   refine hK _ ?_;rw [HS.out,HM.out];go_simp
 ·intro K;clear e0;refine nU 10 0 rfl rfl ?_;repeat' with_reducible apply af
  refine ah [] ?_;repeat' with_reducible first|apply af|apply ae|apply bE|apply bF|apply bG|apply aa|(apply aj;·go_simp)|(apply ab;intro X Y;go_simp;apply Y;clear Y X)
  refine ah [59] ?_;repeat' with_reducible first|apply ae|apply aw|apply aa|(apply ab;intro X Y;go_simp;apply Y;clear Y X)
  go_simp
theorem uE (r:Ru) (q:List (List ByteArray)) (c f:Nat) (hk:c < q.length) (hr:r.ranks.length=q.length) (hf:(rat r.ranks c).feeder=f) (cM:f < q.length) (ax:f≠c) (hp:0 < (qat q f).length) (hl:q.length≤1000000) (hq:∀ i,i < q.length→(qat q i).length≤1000000) :
  VC Tryz.prog 133 [bN r,h_ q,I (c:Int)] (.tup [h_ (px q c f),.sl 3 ((upM q c f).map Sg.av)]):=Ot (Hm r q c f hk hr hf cM ax hp hl hq)
def mf (s:St) (k:Nat) : List (List (List AV)):=bx (s.q.take k)
theorem Ox {s:St} {k:Nat} (h:k < s.q.length) : mf s (k+1)=mf s k++[(qat s.q k).map bL]:=by
 unfold mf bx;rw [ub h,List.map_append,gM h];rfl
theorem Oy {s:St} {k:Nat} (h:k≤s.q.length) : (mf s k).length=k:=by
 unfold mf bx;rw [List.length_map,List.length_take];omega
@[go_sem] theorem Sf (s:St) : mf s 0=[]:=rfl
theorem Oz (s:St) : mf s s.q.length=bx s.q:=by
 unfold mf;rw [List.take_length]
theorem uF (s:St) (h:SmallS s) : VH Tryz.prog 53 [] [dH s] [] [none,none,some (.arr 148 3 (decide (s.tk.map Tk.av=[])) (s.tk.map Tk.av)),some (.bag 62 1 (decide (bx s.q=[])) none (bx s.q))] (.agg [.osl 3,.osl 2,I s.time]):=by
 refine dk Tryz.func53 rfl (by kernel_rfl) rfl (fun _=>by kernel_rfl) fun M0 w0 vs=>?_;simp only [Tryz.ntmps53,Tryz.results53,aC];repeat' with_reducible apply af
 refine ah [] ?_;repeat' with_reducible first|apply af|apply ae|apply aa|(apply ab;intro X Y;go_simp;apply Y;clear Y X)
 refine No 8 [] (fun i=>i == 2 || i == 5 || i == 6 || i == 7) ⟨[(11,.agg [bz,.osl 2,I s.time]),(3,.ref 1 0),(2,.ref 0 0),(1,.vp [h_ s.q,.sl 3 (s.tk.map Tk.av),I s.time]),(0,dH s)],[some (.box [bz,bz,I 0]),some (.box [bz,bz,I 0]),some (.arr 148 3 (decide (s.tk.map Tk.av=[])) (s.tk.map Tk.av))]⟩ (fun p a w i v w'=>cpT (s.tk.map Tk.av) s.time (Mof M0 [some (.box [bz,bz,I 0])] p) w i v w') (by kernel_rfl) (by kernel_rfl) (fun p a w i v w1 w2 hv hb=>NP _ _ _ _ _ _ _ _ hv hb) ?_;simp only [aA];repeat (first|(refine fb rfl ?_)|((with_reducible refine fc rfl fun X Y=>?_);go_simp;refine Y _ (by go_simp) ?_;clear Y X)|(with_reducible apply fe))
 refine ⟨?_,?_,?_⟩
 ·intro p a w R i o hi hc ho;have Fj:i=2∨i=5∨i=6∨i=7:=by simpa [or_assoc] using hc
  rcases Fj with rfl|rfl|rfl|rfl
  all_goals
   simp only [List.getElem?_cons_zero,List.getElem?_cons_succ,Option.some.injEq] at ho;subst ho;refine ⟨rfl,fun a' w' hb cC hold nZ=>?_⟩
  ·obtain ⟨us,aD,_⟩:=yE (P:=Tryz.prog) (w:=w') (M:=fun _ _=>False) (h:=[]) (p:=p) (t:=30) (n:=0) (parts:=[]) (vals:=#[]) (cs:=[]) (ti:=⟨1,1,24,148,3,0,.i64,[],[.slice none 0 0]⟩) rfl (fun i a v h=>by simp at h) (by kernel_rfl);unfold gives;simp only [execOp,Sem.run_bind,List.map_toArray,List.map_nil,aD,Result.andThen_ok,Sem.run_pure];exact ⟨⟨_,rfl⟩,mo _ _⟩
  ·have h7:=nZ 2 _ 7 (by decide) rfl rfl rfl (by kernel_rfl);unfold cpT at h7;rw [if_pos rfl] at h7;obtain ⟨b7,e7⟩:=h7;have hy:V1 w' (Mof M0 [some (.box [bz,bz,I 0])] p) [some (.box [bz,bz,I 0])] p (.sl 3 (s.tk.map Tk.av)) (a'.eval (.tmp 9)):=cC 9 (by simp [Oper.looksAt,Op.operands,Call.operands]);have ex:a'.eval (.tmp 7) = .slice (some b7) 0 0:=e7;obtain ⟨d,i0,z,hd,hi,hz,fE,aV⟩:=e_ EM;injection aV with q1 q2 q3 q4 q5 q6 q7 q8 q9
   have fX:z.cells.size=3:=by
    rw [←Array.length_toList,←q9];rfl
   obtain ⟨v',w2,hr,dq,ho⟩:=Np (P:=Tryz.prog) (ty:=30) (a0:=b7) Tryz.underlying30 hi hz q2.symm fX (by rw [←q3];decide) (by decide) hy.sl_inv (by have:=h.nt;rw [List.length_map];omega);rw [←ex] at hr;unfold gives;simp only [execOp,resolve,invoke,builtin,Sem.run_bind,Sem.run_pure,Result.andThen_ok,List.map_toArray,List.map_cons,List.map_nil,hr];refine ⟨?_,dq⟩;unfold cpT;rw [if_neg (by decide),if_pos rfl];exact ho.base hb.size
  ·have h5:=nZ 5 _ 10 (by decide) rfl rfl rfl (by kernel_rfl);unfold cpT at h5;rw [if_neg (by decide),if_pos rfl] at h5;have hy:V1 w' (Mof M0 [some (.box [bz,bz,I 0])] p) [some (.box [bz,bz,I 0])] p (I s.time) (a'.eval (.tmp 6)):=cC 6 (by simp [Oper.looksAt,Op.operands]);have e6:a'.eval (.tmp 6) = .int .i64 s.time:=hy.lit_inv;obtain ⟨A,m,c,wS⟩ : ∃ A m c,a'.eval (.tmp 10) = .slice A m c:=by
    unfold OwnRow at h5;split at h5
    ·obtain ⟨⟨A,h5⟩,_⟩:=h5;exact ⟨A,0,0,h5⟩
    ·obtain ⟨g,cap,cur,h5,_⟩:=h5;exact ⟨_,_,_,h5⟩
   have OA:OwnRow w w' (Mof M0 [some (.box [bz,bz,I 0])] p) 148 3 (decide (s.tk.map Tk.av=[])) (s.tk.map Tk.av) (.slice A m c):=by
    rw [←wS];exact h5
   obtain ⟨u,aD,hu⟩:=Fc (P:=Tryz.prog) (w:=w') (M:=fun _ _=>False) (h:=[]) (p:=p) (t:=32) (parts:=[(2,I s.time),(1,.lit (.slice A m c))]) (vals:=#[(2,.int .i64 s.time),(1,.slice A m c)]) (r:=.agg [bz,.lit (.slice A m c),I s.time]) rfl (fun i a v h1 h2=>by
    rcases i with _|_|i
    ·simp at h1 h2;subst h1;subst h2;exact .base _ _ (.lit _)
    ·simp at h1 h2;subst h1;subst h2;exact .base _ _ (.lit _)
    ·simp at h1) (by go_simp)
   have Bz:u = .agg #[.slice none 0 0,.slice A m c,.int .i64 s.time]:=by
    have h0:=hu;cases h0 with
    | base _ _ h0=>
     cases h0 with
     | agg _ us hl h1 h2=>
      rcases us with _|⟨u0,_|⟨u1,_|⟨u2,_|⟨_,_⟩⟩⟩⟩
      ·simp at hl
      ·simp at hl
      ·simp at hl
      ·have k0:=(h2 0 _ u0 rfl rfl).lit_inv;have k1:=(h2 1 _ u1 rfl rfl).lit_inv;have k2:=(h2 2 _ u2 rfl rfl).lit_inv;subst k0;subst k1;subst k2;rfl
      ·simp at hl
    | agg _ us hl h1 h2=>
     rcases us with _|⟨u0,_|⟨u1,_|⟨u2,_|⟨_,_⟩⟩⟩⟩
     ·simp at hl
     ·simp at hl
     ·simp at hl
     ·have k0:=(h2 0 _ u0 rfl rfl).lit_inv;have k1:=(h2 1 _ u1 rfl rfl).lit_inv;have k2:=(h2 2 _ u2 rfl rfl).lit_inv;subst k0;subst k1;subst k2;rfl
     ·simp at hl
   unfold gives;simp only [execOp,Sem.run_bind,List.map_toArray,List.map_cons,List.map_nil,e6,wS,aD,Result.andThen_ok,Sem.run_pure];refine ⟨?_,Below.refl _ _⟩;unfold cpT;rw [if_neg (by decide),if_neg (by decide),if_pos rfl,Bz];exact ⟨_,rfl,OA⟩
  ·obtain ⟨z,hz,iM,km⟩:=pr NG;have OB:z.cells=#[.slice none 0 0,.slice none 0 0,.int .i64 0]:=by
    apply Array.toList_inj.1;exact hz
   unfold gives;simp only [execOp,Instr.alloc,Sem.run_bind,km,Result.andThen_ok];simp only [newVar,newRow];refine ⟨?_,mo w' _⟩;unfold cpT;rw [if_neg (by decide),if_neg (by decide),if_neg (by decide)];exact ⟨_,rfl,hb.size,by simp [OB,-World.alloc_eq]⟩
 ·intro p a w a' w' R hb R' hold hT;have h6:=hT 6 _ 11 (by decide) rfl rfl rfl;have h7:=hT 7 _ 3 (by decide) rfl rfl rfl;unfold cpT at h6 h7;rw [if_neg (by decide),if_neg (by decide),if_pos rfl] at h6;rw [if_neg (by decide),if_neg (by decide),if_neg (by decide)] at h7;obtain ⟨v5,e6,ho⟩:=h6;obtain ⟨b,e7,OC,vm⟩:=h7;obtain ⟨p',q0,q1,q2,q3⟩ : ∃ p':Pl,(p' 0=p 0∧p'.S 0=p.S 0)∧(p' 1=b∧∀ b j,¬p'.S 1 b j)∧(∀ g n c,v5 = .slice (some ⟨g,0,none⟩) n c→p' 2=g)∧∀ b j,¬p'.S 2 b j:=
   ⟨⟨fun i=>if i=0 then p 0 else if i=1 then b else match v5 with | .slice (some x) _ _=>x.block|_=>0,fun i=>if i=0 then p.S 0 else fun _ _=>False⟩,⟨rfl,rfl⟩,⟨rfl,fun _ _ h=>h⟩,fun g n c e=>by subst e;rfl,fun _ _ h=>h⟩
  have de:w'.heap[b]? = some (.cells #[.slice none 0 0,.slice none 0 0,.int .i64 0] 32 (0,0)):=vm;have k6:decide (s.tk.map Tk.av=[])=false→∃ g n c cur,v5 = .slice (some ⟨g,0,none⟩) n c∧w.heap.size≤g∧w'.heap[g]? = some (.cells cur 148 (0,0)):=fun hn=>by
   have aT:=ho;unfold OwnRow at aT;rw [if_neg (by rw [hn];simp)] at aT;obtain ⟨g,cap,cur,z1,z2,z3,_⟩:=aT;exact ⟨g,_,_,cur,z1,z2,z3⟩
  have nK:∀ x j,p'.O 1 x j→x=b:=fun x j hO=>hO.elim (fun h=>h.symm.trans q1.1) fun h=>absurd h (q1.2 x j);have ky:∀ x j,p'.O 2 x j→p' 2=x:=fun x j hO=>hO.elim (fun h=>h) fun h=>absurd h (q3 x j);have R1:=R.grows (p':=p') (obs:=[some (.box [bz,bz,I 0]),some (.arr 148 3 (decide (s.tk.map Tk.av=[])) (s.tk.map Tk.av))]) hb (fun i hi=>by
   obtain rfl:i=0:=by simp only [List.length_cons,List.length_nil] at hi;omega
   exact q0) (fun i ob hi hl x j hO=>by
   rcases i with _|_|i
   ·have:=nK x j hO;omega
   ·simp only [List.getElem?_cons_succ,List.getElem?_cons_zero,Option.some.injEq] at hi;subst hi;have aL:decide (s.tk.map Tk.av=[])=false:=by
     cases hd:decide (s.tk.map Tk.av=[])
     ·rfl
     ·rw [hd] at hl;cases hl
    obtain ⟨g,n,c,cur,z1,z2,z3⟩:=k6 aL;have:=ky x j hO;have:=q2 g n c z1;omega
   ·simp at hi) (fun i i' ob ob' hi br hl bj x j j' hO ct=>by
   have key:∀ ob2,[some (.box [bz,bz,I 0]),some (.arr 148 3 (decide (s.tk.map Tk.av=[])) (s.tk.map Tk.av))][1]? = some (some ob2)→cn ob2=true→p'.O 2 x j'∨p'.O 2 x j→x≠b:=fun ob2 bJ gw C2 Sh=>by
    simp only [List.getElem?_cons_succ,List.getElem?_cons_zero,Option.some.injEq] at bJ;subst bJ;have aL:decide (s.tk.map Tk.av=[])=false:=by
     cases hd:decide (s.tk.map Tk.av=[])
     ·rfl
     ·rw [hd] at gw;cases gw
    obtain ⟨g,n,c,cur,z1,z2,z3⟩:=k6 aL;have e1:p' 2=x:=C2.elim (ky x j') (ky x j);have e2:=q2 g n c z1;have e3:g=b:=by omega
    rw [e3,de] at z3;injection z3 with z3
    injection z3 with z4 z5 z6
    exact absurd z5 (by decide)
   rcases i with _|_|i<;>rcases i' with _|_|i'
   ·rfl
   ·exact absurd (nK x j hO) (key ob' br bj (.inl ct))
   ·simp at br
   ·exact absurd (nK x j' ct) (key ob hi hl (.inr hO))
   ·rfl
   ·simp at br
   ·simp at hi
   ·simp at hi
   ·simp at hi) fun i ob hi=>by
   rcases i with _|_|i
   ·simp only [List.getElem?_cons_zero,Option.some.injEq] at hi;subst hi;refine ⟨⟨fun j=>.inl (by show w0.w.heap.size≤p' 1;rw [q1.1];exact Nat.le_trans R.below.size OC),q1.2⟩,_,32,by show w'.heap[p' 1]? = _;rw [q1.1];exact vm,rfl,fun c hc=>by
     simp only [List.mem_cons,List.not_mem_nil,or_false] at hc;rcases hc with rfl|rfl|rfl<;>rfl,fun j c hj=>?_⟩
    rcases j with _|_|_|j
    ·simp only [List.getElem?_cons_zero,Option.some.injEq] at hj;subst hj;exact ⟨_,rfl,.base _ _ (.lit _)⟩
    ·simp only [List.getElem?_cons_zero,List.getElem?_cons_succ,Option.some.injEq] at hj;subst hj;exact ⟨_,rfl,.base _ _ (.lit _)⟩
    ·simp only [List.getElem?_cons_zero,List.getElem?_cons_succ,Option.some.injEq] at hj;subst hj;exact ⟨_,rfl,.base _ _ (.lit _)⟩
    ·simp at hj
   ·simp only [List.getElem?_cons_succ,List.getElem?_cons_zero,Option.some.injEq] at hi;subst hi;exact ho.obL R.below.size (by decide) (fun k x hx=>by
     obtain ⟨y,hy,rfl⟩:=ea hx;exact NQ y) (fun _ g n c e=>q2 g n c e) q3
   ·simp at hi
  have R2:=R1.reframe (a':=a') R'.defers R'.size fun i hi=>by
   have bJ:i=2∨i=1∨i=0:=by
    apply Classical.byContradiction;intro hn;apply hi;simp only [lkp];rw [if_neg (by omega),if_neg (by omega),if_neg (by omega)]
   refine hold i fun j q hj hq he=>?_;have OD:j=0∨j=1∨j=2∨j=3∨j=4∨j=5∨j=6∨j=7:=by omega
   rcases OD with rfl|rfl|rfl|rfl|rfl|rfl|rfl|rfl
   all_goals
    simp only [List.getElem?_cons_zero,List.getElem?_cons_succ,Option.some.injEq] at hq;subst hq;simp only [Option.some.injEq] at he;omega
  have R3:=R2.know (d:=3) (r:=.ref 1 0) (by
   rw [e7];have:=V1.ref (w:=w') (M:=Mof M0 [some (.box [bz,bz,I 0]),some (.box [bz,bz,I 0]),some (.arr 148 3 (decide (s.tk.map Tk.av=[])) (s.tk.map Tk.av))] p') (h:=[some (.box [bz,bz,I 0]),some (.box [bz,bz,I 0]),some (.arr 148 3 (decide (s.tk.map Tk.av=[])) (s.tk.map Tk.av))]) (p:=p') 1 0 (by simp);rwa [q1.1] at this)
  refine ⟨_,R3.know (d:=11) (r:=.agg [bz,.osl 2,I s.time]) ?_⟩;rw [e6];refine .agg _ [.slice none 0 0,v5,.int .i64 s.time] rfl (fun c hc=>?_) fun j c u hc hu=>?_
  ·simp only [List.mem_cons,List.not_mem_nil,or_false] at hc;rcases hc with rfl|rfl|rfl<;>rfl
  ·rcases j with _|_|_|j
   ·simp only [List.getElem?_cons_zero,Option.some.injEq] at hc hu;subst hc;subst hu;exact .base _ _ (.lit _)
   ·simp only [List.getElem?_cons_zero,List.getElem?_cons_succ,Option.some.injEq] at hc hu;subst hc;subst hu;obtain ⟨A,m,c,e5⟩ : ∃ A m c,v5 = .slice A m c:=by
     have aT:=ho;unfold OwnRow at aT;split at aT
     ·obtain ⟨⟨A,h5⟩,_⟩:=aT;exact ⟨A,0,0,h5⟩
     ·obtain ⟨g,cap,cur,h5,_⟩:=aT;exact ⟨_,_,_,h5⟩
    rw [e5];refine .osl 2 A m c (by simp) (fun e sz nl es he=>?_) fun e sz nl pe qs he=>?_
    ·simp only [List.cons_append,List.nil_append,List.getElem?_cons_succ,List.getElem?_cons_zero,Option.some.injEq,Ob.arr.injEq] at he;obtain ⟨rfl,rfl,rfl,rfl⟩:=he;rw [←e5];have aT:=ho;unfold OwnRow at aT;unfold Osl;split at aT
     ·rename_i hn;rw [if_pos hn];refine ⟨aT.1,?_⟩;rw [aT.2];rfl
     ·rename_i hn;rw [if_neg hn];obtain ⟨g,cap,cur,z1,z2,z3,z4,z5,z6,_⟩:=aT;have:=q2 g _ _ z1;exact ⟨cap,cur,by rw [this];exact z1,by rw [this];exact z3,z4,z5,z6⟩
    ·simp at he
   ·simp only [List.getElem?_cons_zero,List.getElem?_cons_succ,Option.some.injEq] at hc hu;subst hc;subst hu;exact .base _ _ (.lit _)
   ·simp at hc
 ·have hq:=h.q1;have F5:=h.nq;have HQ:=Lib.hid hq;clear hq h;repeat' with_reducible first|apply af|apply ae|apply aa|(apply ab;intro X Y;go_simp;apply Y;clear Y X)
  refine ah [] ?_;repeat' with_reducible first|apply ae|apply az|apply aa|(apply ab;intro X Y;go_simp;apply Y;clear Y X)
  refine ib (fun p a w R=>⟨_,R.nilBag (bi:=1) (j:=0) (e:=62) (sz:=1) rfl rfl (by decide)⟩) ?_;go_simp;apply k8 [1,2,3] (fun k=>[(4,I k)]) (fun k=>([some (.box [bz,bz,I 0]),some (.box [.osl 3,.osl 2,I s.time]),some (.arr 148 3 (decide (s.tk.map Tk.av=[])) (s.tk.map Tk.av)),some (.bag 62 1 (decide (mf s k=[])) none (mf s k))] : Hp))  (s.q.length)
  ·go_simp<;>exact rfl
  ·go_simp
  ·intro k hk K hK;obtain ⟨w1,w2,w3,w4,w5,w6⟩:=ixs (m:=k) (by omega);have g:=zc (qat s.q k) (by rw [gM hk];have:=(HQ.out _ (List.getElem_mem hk)).1;omega);have hs:=Ox hk;have hl:=Oy (s:=s) (k:=k) (by omega);have hb:(mf s k).length+1≤1000000000:=by omega
   have ax:¬mf s k++[(qat s.q k).map bL]=[]:=by simp
   rw [hs,decide_eq_false ax] at hK;clear hs hl ax;generalize mf s k=RV at *;generalize s.tk.map Tk.av=Si at *;repeat' with_reducible apply af
   refine ah [] ?_;repeat' with_reducible first|apply af|apply ae|apply ao|apply az|apply aa|(apply au;·go_simp)|(apply ab;intro X Y;go_simp;apply Y;clear Y X)
   refine Oh (idb:=3) (ti1:=⟨1,1,24,62,1,0,.i64,[],[.slice none 0 0]⟩) 9 7 8 [] [] g (by kernel_rfl) (by kernel_rfl) (by decide) rfl rfl rfl ⟨rfl,rfl,rfl⟩ ⟨rfl,rfl,rfl⟩ ⟨rfl,rfl,rfl⟩ (by kernel_rfl) NF ⟨rfl,rfl⟩ rN ⟨rfl,rfl,by decide⟩ (fun _ _ _=>by go_simp) rfl hb ?_;simp only [aA];repeat (first|(refine fb rfl ?_)|((with_reducible refine fc rfl fun X Y=>?_);go_simp;refine Y _ (by go_simp) ?_;clear Y X)|(with_reducible apply fe))
   refine ⟨rfl,by go_simp,by go_simp,by go_simp,by simp,?_⟩;go_simp;repeat' with_reducible first|apply ae|apply aY|apply aa|(apply ab;intro X Y;go_simp;apply Y;clear Y X)
   refine ah [] ?_;repeat' with_reducible first|apply ae|apply aa|(apply ab;intro X Y;go_simp;apply Y;clear Y X)
   refine hK _ ?_;go_simp
  ·intro K;rw [Oz];repeat' with_reducible apply af
   refine ah [] ?_;repeat' with_reducible first|apply af|apply ae|apply bE|apply bF|apply bG|apply aa|(apply aj;·go_simp)|(apply ab;intro X Y;go_simp;apply Y;clear Y X)
   refine ah [] ?_;repeat' with_reducible first|apply ae|apply aw|apply aa|(apply ab;intro X Y;go_simp;apply Y;clear Y X)
   go_simp
end Go.Proofs.YtoibondihdhnoaaGreatDoor
