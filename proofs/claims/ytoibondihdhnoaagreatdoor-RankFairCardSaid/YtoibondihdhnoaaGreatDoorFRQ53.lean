/- Texts in one: Walks: the first car of a feeder moves up, as the reference has it. -/
import Derived.Test.YtoibondihdhnoaaGreatDoorFRQ51
import Derived.Test.YtoibondihdhnoaaGreatDoorFRQ52
import Derived.Test.YtoibondihdhnoaaGreatDoorFRQ9
namespace Go.Proofs.YtoibondihdhnoaaGreatDoor
open Go.RowKit
set_option maxRecDepth 100000
set_option maxHeartbeats 4000000
def qR (q:List (List ByteArray)) (k f i:Nat) : List ByteArray:=(if i=f then (qat q i).tail else qat q i)++if i=k then [tat (qat q f) 0] else []
def mvK (q:List (List ByteArray)) (k f n:Nat) : List (List AV):=((List.range n).map fun i=>(qR q k f i).map bY).map fun l=>[AV.sl 1 l]
theorem Oh (q:List (List ByteArray)) (k f n:Nat) : mvK q k f (n+1)=mvK q k f n++[[.sl 1 ((qR q k f n).map bY)]]:=by simp [mvK,List.range_succ]
theorem Oi (q:List (List ByteArray)) (k f n:Nat) : (mvK q k f n).length=n:=by simp [mvK]
theorem Oj (q:List (List ByteArray)) (k f:Nat) : AV.sl 1 (mvK q k f q.length)=hQ (pw q k f):=by
 unfold hQ mvK pw bA;simp only [List.map_map];rfl
theorem GY (r:Ru) (q:List (List ByteArray)) (c f:Nat) (hk:c < q.length) (hr:r.ranks.length=q.length) (hf:(rat r.ranks c).feeder=f) (cX:f < q.length) (aq:f≠c) (hp:0 < (qat q f).length) (hl:q.length≤1000000) (hq:∀ i,i < q.length→(qat q i).length≤1000000) :
  VH Tryz.prog 133 [] [bJ r,hQ q,I (c:Int)] [] [none,some (.arr 45 3 false ((upM q c f).map Sg.av))] (.tup [hQ (pw q c f),.osl 1]):=by
 rw [←Oj];have cI:c < r.ranks.length:=by omega
 have e0:mvK q c f 0=[]:=rfl;have uO:(qat q f)[0]=tat (qat q f) 0:=(iK hp).symm;have HQ:=Lib.hid hq;clear hq;unfold upM;refine dn Tryz.func133 rfl (by kernel_rfl) rfl (fun _=>by kernel_rfl) fun M0 w0 vs=>?_;simp only [Tryz.ntmps133,Tryz.results133,aC];repeat' with_reducible first|apply af|apply ae|apply aE|apply aa|refine ah [10] ?_|(apply ab;intro X Y;go_simp;apply Y;clear Y X)
 apply jQ [1,2,8,9] (fun k=>[(11,I k),(10,.osl 0)]) (fun k=>([some (.arr 62 1 (decide (mvK q c f k=[])) (mvK q c f k))] : Hp))  (q.length)
 ·go_simp<;>exact rfl
 ·go_simp
 ·intro i hi K hK;obtain ⟨w1,w2,w3,w4,w5,w6⟩:=ixs (m:=i) (by omega);have hs:=Oh q c f i;have hb:(mvK q c f i).length+1≤1000000000:=by have:=Oi q c f i;omega
  have kT:=HQ.out i hi;have HS:=Lib.hid hs;clear e0 hs;generalize mvK q c f i=RV at *;by_cases h1:i=f
  ·subst h1;have hm:qR q c i i=(qat q i).tail:=by unfold qR;rw [if_pos rfl,if_neg aq,List.append_nil]
   have HM:=Lib.hid hm;have g:=Gq (qat q i) kT;clear hm;have rn:¬(i:Int)=c:=by omega
   have qm:(1:Int)≤(qat q i).length:=by omega
   have JM:List.take (qat q i).length ((qat q i).map bY)=(qat q i).map bY:=List.take_of_length_le (by simp);repeat' with_reducible first|apply af|apply ae|apply aw|apply aE|apply bc|apply aa|refine ah [] ?_|(apply ax;·go_simp)|(apply ar;·go_simp)|(apply ab;intro X Y;go_simp;(first|(refine ⟨_,g,?_⟩)|skip);apply Y;clear Y X)
   refine hK _ ?_;rw [HS.out,HM.out,uN];go_simp
  by_cases h2:i=c
  ·subst h2;have hm:qR q i f i=qat q i++[tat (qat q f) 0]:=by unfold qR;rw [if_neg h1,if_pos rfl]
   have HM:=Lib.hid hm;have g:=yX (qat q i) kT;have hb2:(qat q i).length+1≤1000000000:=by omega
   clear hm;have BB:¬(i:Int)=f:=by omega
   repeat' with_reducible apply af
   refine ah [] ?_;repeat' with_reducible first|apply af|apply ae|apply aw|apply aE|apply aa|(apply ax;·go_simp)|(apply ab;intro X Y;go_simp;apply Y;clear Y X)
   refine ah [35] ?_;repeat' first|(with_reducible first|apply af|apply ae|apply aa)|((with_reducible apply ab);intro X Y;go_simp;(first|(refine ⟨_,_,.inl ⟨_,g,?_⟩⟩)|skip);apply Y;clear Y X)
   refine ah [] ?_;repeat' with_reducible first|apply af|apply ae|apply aw|apply aa|(apply ar;·go_simp)|(apply ab;intro X Y;go_simp;apply Y;clear Y X)
   refine ah [] ?_;repeat' with_reducible first|apply ae|apply aa|(apply ax;·go_simp)|(apply ab;intro X Y;go_simp;apply Y;clear Y X)
   refine ah [] ?_;repeat' with_reducible first|apply ae|apply aa|(apply ab;intro X Y;go_simp;apply Y;clear Y X)
   refine oU 12 1 rfl rfl ?_;skip
   refine ah [] ?_;repeat' with_reducible first|apply ae|apply bc|apply aa|(apply ab;intro X Y;go_simp;apply Y;clear Y X)
   refine ah [] ?_;repeat' with_reducible first|apply ae|apply aa|(apply ab;intro X Y;go_simp;apply Y;clear Y X)
   refine hK _ ?_;rw [HS.out,HM.out,←ry];go_simp
  ·have hm:qR q c f i=qat q i:=by unfold qR;rw [if_neg h1,if_neg h2,List.append_nil]
   have HM:=Lib.hid hm;have g:=Gq (qat q i) kT;clear hm;have BB:¬(i:Int)=f:=by omega
   have rn:¬(i:Int)=c:=by omega
   repeat' with_reducible first|apply af|apply ae|apply aw|apply aE|apply bc|apply aa|refine ah [] ?_|(apply ax;·go_simp)|(apply ar;·go_simp)|(apply ab;intro X Y;go_simp;(first|(refine ⟨_,g,?_⟩)|skip);apply Y;clear Y X)
   refine hK _ ?_;rw [HS.out,HM.out];go_simp
 ·intro K;clear e0;refine oU 10 0 rfl rfl ?_;repeat' with_reducible apply af
  refine ah [] ?_;repeat' with_reducible first|apply af|apply ae|apply bU|apply bV|apply bW|apply aa|(apply ar;·go_simp)|(apply ab;intro X Y;go_simp;apply Y;clear Y X)
  refine ah [59] ?_;repeat' with_reducible first|apply ae|apply az|apply aa|(apply ab;intro X Y;go_simp;apply Y;clear Y X)
  go_simp
theorem ub (r:Ru) (q:List (List ByteArray)) (c f:Nat) (hk:c < q.length) (hr:r.ranks.length=q.length) (hf:(rat r.ranks c).feeder=f) (cX:f < q.length) (aq:f≠c) (hp:0 < (qat q f).length) (hl:q.length≤1000000) (hq:∀ i,i < q.length→(qat q i).length≤1000000) :
  VC Tryz.prog 133 [bJ r,hQ q,I (c:Int)] (.tup [hQ (pw q c f),.sl 3 ((upM q c f).map Sg.av)]):=Og (GY r q c f hk hr hf cX aq hp hl hq)
def mc (s:St) (k:Nat) : List (List (List AV)):=bA (s.q.take k)
theorem Ok {s:St} {k:Nat} (h:k < s.q.length) : mc s (k+1)=mc s k++[(qat s.q k).map bY]:=by
 unfold mc bA;rw [tB h,List.map_append,iJ h];rfl
theorem Ol {s:St} {k:Nat} (h:k≤s.q.length) : (mc s k).length=k:=by
 unfold mc bA;rw [List.length_map,List.length_take];omega
@[go_sem] theorem Rp (s:St) : mc s 0=[]:=rfl
theorem Om (s:St) : mc s s.q.length=bA s.q:=by
 unfold mc;rw [List.take_length]
theorem uc (s:St) (h:SmallS s) : VH Tryz.prog 53 [] [dX s] [] [none,none,some (.arr 148 3 (decide (s.tk.map Tk.av=[])) (s.tk.map Tk.av)),some (.bag 62 1 (decide (bA s.q=[])) none (bA s.q))] (.agg [.osl 3,.osl 2,I s.time]):=by
 refine dn Tryz.func53 rfl (by kernel_rfl) rfl (fun _=>by kernel_rfl) fun M0 w0 vs=>?_;simp only [Tryz.ntmps53,Tryz.results53,aC];repeat' with_reducible apply af
 refine ah [] ?_;repeat' with_reducible first|apply af|apply ae|apply aa|(apply ab;intro X Y;go_simp;apply Y;clear Y X)
 refine Nw 8 [] (fun i=>i == 2 || i == 5 || i == 6 || i == 7) ⟨[(11,.agg [bG,.osl 2,I s.time]),(3,.ref 1 0),(2,.ref 0 0),(1,.vp [hQ s.q,.sl 3 (s.tk.map Tk.av),I s.time]),(0,dX s)],[some (.box [bG,bG,I 0]),some (.box [bG,bG,I 0]),some (.arr 148 3 (decide (s.tk.map Tk.av=[])) (s.tk.map Tk.av))]⟩ (fun p a w i v w'=>cpT (s.tk.map Tk.av) s.time (Mof M0 [some (.box [bG,bG,I 0])] p) w i v w') (by kernel_rfl) (by kernel_rfl) (fun p a w i v w1 w2 hv hb=>ND _ _ _ _ _ _ _ _ hv hb) ?_;simp only [au];repeat (first|(refine fi rfl ?_)|((with_reducible refine fj rfl fun X Y=>?_);go_simp;refine Y _ (by go_simp) ?_;clear Y X)|(with_reducible apply fk))
 refine ⟨?_,?_,?_⟩
 ·intro p a w R i o hi hc ho;have EO:i=2∨i=5∨i=6∨i=7:=by simpa [or_assoc] using hc
  rcases EO with rfl|rfl|rfl|rfl
  all_goals
   simp only [List.getElem?_cons_zero,List.getElem?_cons_succ,Option.some.injEq] at ho;subst ho;refine ⟨rfl,fun a' w' hb cG hold nR=>?_⟩
  ·obtain ⟨us,aB,_⟩:=yL (P:=Tryz.prog) (w:=w') (M:=fun _ _=>False) (h:=[]) (p:=p) (t:=30) (n:=0) (parts:=[]) (vals:=#[]) (cs:=[]) (ti:=⟨1,1,24,148,3,0,.i64,[],[.slice none 0 0]⟩) rfl (fun i a v h=>by simp at h) (by kernel_rfl);unfold gives;simp only [execOp,Sem.run_bind,List.map_toArray,List.map_nil,aB,Result.andThen_ok,Sem.run_pure];exact ⟨⟨_,rfl⟩,mm _ _⟩
  ·have h7:=nR 2 _ 7 (by decide) rfl rfl rfl (by kernel_rfl);unfold cpT at h7;rw [if_pos rfl] at h7;obtain ⟨b7,e7⟩:=h7;have hy:V1 w' (Mof M0 [some (.box [bG,bG,I 0])] p) [some (.box [bG,bG,I 0])] p (.sl 3 (s.tk.map Tk.av)) (a'.eval (.tmp 9)):=cG 9 (by simp [Oper.looksAt,Op.operands,Call.operands]);have ex:a'.eval (.tmp 7) = .slice (some b7) 0 0:=e7;obtain ⟨d,i0,z,hd,hi,hz,fK,aV⟩:=ff EJ;injection aV with q1 q2 q3 q4 q5 q6 q7 q8 q9
   have gp:z.cells.size=3:=by
    rw [←Array.length_toList,←q9];rfl
   obtain ⟨v',w2,hr,dk,ho⟩:=Nx (P:=Tryz.prog) (ty:=30) (a0:=b7) Tryz.underlying30 hi hz q2.symm gp (by rw [←q3];decide) (by decide) hy.sl_inv (by have:=h.nt;rw [List.length_map];omega);rw [←ex] at hr;unfold gives;simp only [execOp,resolve,invoke,builtin,Sem.run_bind,Sem.run_pure,Result.andThen_ok,List.map_toArray,List.map_cons,List.map_nil,hr];refine ⟨?_,dk⟩;unfold cpT;rw [if_neg (by decide),if_pos rfl];exact ho.base hb.size
  ·have h5:=nR 5 _ 10 (by decide) rfl rfl rfl (by kernel_rfl);unfold cpT at h5;rw [if_neg (by decide),if_pos rfl] at h5;have hy:V1 w' (Mof M0 [some (.box [bG,bG,I 0])] p) [some (.box [bG,bG,I 0])] p (I s.time) (a'.eval (.tmp 6)):=cG 6 (by simp [Oper.looksAt,Op.operands]);have e6:a'.eval (.tmp 6) = .int .i64 s.time:=hy.lit_inv;obtain ⟨A,m,c,wA⟩ : ∃ A m c,a'.eval (.tmp 10) = .slice A m c:=by
    unfold OwnRow at h5;split at h5
    ·obtain ⟨⟨A,h5⟩,_⟩:=h5;exact ⟨A,0,0,h5⟩
    ·obtain ⟨g,cap,cur,h5,_⟩:=h5;exact ⟨_,_,_,h5⟩
   have On:OwnRow w w' (Mof M0 [some (.box [bG,bG,I 0])] p) 148 3 (decide (s.tk.map Tk.av=[])) (s.tk.map Tk.av) (.slice A m c):=by
    rw [←wA];exact h5
   obtain ⟨u,aB,hu⟩:=F0 (P:=Tryz.prog) (w:=w') (M:=fun _ _=>False) (h:=[]) (p:=p) (t:=32) (parts:=[(2,I s.time),(1,.lit (.slice A m c))]) (vals:=#[(2,.int .i64 s.time),(1,.slice A m c)]) (r:=.agg [bG,.lit (.slice A m c),I s.time]) rfl (fun i a v h1 h2=>by
    rcases i with _|_|i
    ·simp at h1 h2;subst h1;subst h2;exact .base _ _ (.lit _)
    ·simp at h1 h2;subst h1;subst h2;exact .base _ _ (.lit _)
    ·simp at h1) (by go_simp)
   have Bz:u = .agg #[.slice none 0 0,.slice A m c,.int .i64 s.time]:=by
    have h0:=hu;cases h0 with
    | base _ _ h0=>
     cases h0 with
     | agg _ us hl h1 h2=>
      rcases us with _|⟨u0,_|⟨u1,_|⟨u2,_|⟨_,_⟩⟩⟩⟩
      ·simp at hl
      ·simp at hl
      ·simp at hl
      ·have k0:=(h2 0 _ u0 rfl rfl).lit_inv;have k1:=(h2 1 _ u1 rfl rfl).lit_inv;have k2:=(h2 2 _ u2 rfl rfl).lit_inv;subst k0;subst k1;subst k2;rfl
      ·simp at hl
    | agg _ us hl h1 h2=>
     rcases us with _|⟨u0,_|⟨u1,_|⟨u2,_|⟨_,_⟩⟩⟩⟩
     ·simp at hl
     ·simp at hl
     ·simp at hl
     ·have k0:=(h2 0 _ u0 rfl rfl).lit_inv;have k1:=(h2 1 _ u1 rfl rfl).lit_inv;have k2:=(h2 2 _ u2 rfl rfl).lit_inv;subst k0;subst k1;subst k2;rfl
     ·simp at hl
   unfold gives;simp only [execOp,Sem.run_bind,List.map_toArray,List.map_cons,List.map_nil,e6,wA,aB,Result.andThen_ok,Sem.run_pure];refine ⟨?_,Below.refl _ _⟩;unfold cpT;rw [if_neg (by decide),if_neg (by decide),if_pos rfl,Bz];exact ⟨_,rfl,On⟩
  ·obtain ⟨z,hz,iO,kD⟩:=pq Oo;have Oq:z.cells=#[.slice none 0 0,.slice none 0 0,.int .i64 0]:=by
    apply Array.toList_inj.1;exact hz
   unfold gives;simp only [execOp,Instr.alloc,Sem.run_bind,kD,Result.andThen_ok];simp only [newVar,newRow];refine ⟨?_,mm w' _⟩;unfold cpT;rw [if_neg (by decide),if_neg (by decide),if_neg (by decide)];exact ⟨_,rfl,hb.size,by simp [Oq,-World.alloc_eq]⟩
 ·intro p a w a' w' R hb R' hold hT;have h6:=hT 6 _ 11 (by decide) rfl rfl rfl;have h7:=hT 7 _ 3 (by decide) rfl rfl rfl;unfold cpT at h6 h7;rw [if_neg (by decide),if_neg (by decide),if_pos rfl] at h6;rw [if_neg (by decide),if_neg (by decide),if_neg (by decide)] at h7;obtain ⟨v5,e6,ho⟩:=h6;obtain ⟨b,e7,Ot,lT⟩:=h7;obtain ⟨p',q0,q1,q2,q3⟩ : ∃ p':Pl,(p' 0=p 0∧p'.S 0=p.S 0)∧(p' 1=b∧∀ b j,¬p'.S 1 b j)∧(∀ g n c,v5 = .slice (some ⟨g,0,none⟩) n c→p' 2=g)∧∀ b j,¬p'.S 2 b j:=
   ⟨⟨fun i=>if i=0 then p 0 else if i=1 then b else match v5 with | .slice (some x) _ _=>x.block|_=>0,fun i=>if i=0 then p.S 0 else fun _ _=>False⟩,⟨rfl,rfl⟩,⟨rfl,fun _ _ h=>h⟩,fun g n c e=>by subst e;rfl,fun _ _ h=>h⟩
  have da:w'.heap[b]? = some (.cells #[.slice none 0 0,.slice none 0 0,.int .i64 0] 32 (0,0)):=lT;have lj:decide (s.tk.map Tk.av=[])=false→∃ g n c cur,v5 = .slice (some ⟨g,0,none⟩) n c∧w.heap.size≤g∧w'.heap[g]? = some (.cells cur 148 (0,0)):=fun hn=>by
   have aT:=ho;unfold OwnRow at aT;rw [if_neg (by rw [hn];simp)] at aT;obtain ⟨g,cap,cur,z1,z2,z3,_⟩:=aT;exact ⟨g,_,_,cur,z1,z2,z3⟩
  have kJ:∀ x j,p'.O 1 x j→x=b:=fun x j hO=>hO.elim (fun h=>h.symm.trans q1.1) fun h=>absurd h (q1.2 x j);have kM:∀ x j,p'.O 2 x j→p' 2=x:=fun x j hO=>hO.elim (fun h=>h) fun h=>absurd h (q3 x j);have R1:=R.grows (p':=p') (obs:=[some (.box [bG,bG,I 0]),some (.arr 148 3 (decide (s.tk.map Tk.av=[])) (s.tk.map Tk.av))]) hb (fun i hi=>by
   obtain rfl:i=0:=by simp only [List.length_cons,List.length_nil] at hi;omega
   exact q0) (fun i ob hi hl x j hO=>by
   rcases i with _|_|i
   ·have:=kJ x j hO;omega
   ·simp only [List.getElem?_cons_succ,List.getElem?_cons_zero,Option.some.injEq] at hi;subst hi;have aK:decide (s.tk.map Tk.av=[])=false:=by
     cases hd:decide (s.tk.map Tk.av=[])
     ·rfl
     ·rw [hd] at hl;cases hl
    obtain ⟨g,n,c,cur,z1,z2,z3⟩:=lj aK;have:=kM x j hO;have:=q2 g n c z1;omega
   ·simp at hi) (fun i i' ob ob' hi bo hl bn x j j' hO cw=>by
   have key:∀ ob2,[some (.box [bG,bG,I 0]),some (.arr 148 3 (decide (s.tk.map Tk.av=[])) (s.tk.map Tk.av))][1]? = some (some ob2)→b_ ob2=true→p'.O 2 x j'∨p'.O 2 x j→x≠b:=fun ob2 bD fu Ct Rq=>by
    simp only [List.getElem?_cons_succ,List.getElem?_cons_zero,Option.some.injEq] at bD;subst bD;have aK:decide (s.tk.map Tk.av=[])=false:=by
     cases hd:decide (s.tk.map Tk.av=[])
     ·rfl
     ·rw [hd] at fu;cases fu
    obtain ⟨g,n,c,cur,z1,z2,z3⟩:=lj aK;have e1:p' 2=x:=Ct.elim (kM x j') (kM x j);have e2:=q2 g n c z1;have e3:g=b:=by omega
    rw [e3,da] at z3;injection z3 with z3
    injection z3 with z4 z5 z6
    exact absurd z5 (by decide)
   rcases i with _|_|i<;>rcases i' with _|_|i'
   ·rfl
   ·exact absurd (kJ x j hO) (key ob' bo bn (.inl cw))
   ·simp at bo
   ·exact absurd (kJ x j' cw) (key ob hi hl (.inr hO))
   ·rfl
   ·simp at bo
   ·simp at hi
   ·simp at hi
   ·simp at hi) fun i ob hi=>by
   rcases i with _|_|i
   ·simp only [List.getElem?_cons_zero,Option.some.injEq] at hi;subst hi;refine ⟨⟨fun j=>.inl (by show w0.w.heap.size≤p' 1;rw [q1.1];exact Nat.le_trans R.below.size Ot),q1.2⟩,_,32,by show w'.heap[p' 1]? = _;rw [q1.1];exact lT,rfl,fun c hc=>by
     simp only [List.mem_cons,List.not_mem_nil,or_false] at hc;rcases hc with rfl|rfl|rfl<;>rfl,fun j c hj=>?_⟩
    rcases j with _|_|_|j
    ·simp only [List.getElem?_cons_zero,Option.some.injEq] at hj;subst hj;exact ⟨_,rfl,.base _ _ (.lit _)⟩
    ·simp only [List.getElem?_cons_zero,List.getElem?_cons_succ,Option.some.injEq] at hj;subst hj;exact ⟨_,rfl,.base _ _ (.lit _)⟩
    ·simp only [List.getElem?_cons_zero,List.getElem?_cons_succ,Option.some.injEq] at hj;subst hj;exact ⟨_,rfl,.base _ _ (.lit _)⟩
    ·simp at hj
   ·simp only [List.getElem?_cons_succ,List.getElem?_cons_zero,Option.some.injEq] at hi;subst hi;exact ho.obL R.below.size (by decide) (fun k x hx=>by
     obtain ⟨y,hy,rfl⟩:=eo hx;exact NF y) (fun _ g n c e=>q2 g n c e) q3
   ·simp at hi
  have R2:=R1.reframe (a':=a') R'.defers R'.size fun i hi=>by
   have bD:i=2∨i=1∨i=0:=by
    apply Classical.byContradiction;intro hn;apply hi;simp only [lkp];rw [if_neg (by omega),if_neg (by omega),if_neg (by omega)]
   refine hold i fun j q hj hq he=>?_;have Ou:j=0∨j=1∨j=2∨j=3∨j=4∨j=5∨j=6∨j=7:=by omega
   rcases Ou with rfl|rfl|rfl|rfl|rfl|rfl|rfl|rfl
   all_goals
    simp only [List.getElem?_cons_zero,List.getElem?_cons_succ,Option.some.injEq] at hq;subst hq;simp only [Option.some.injEq] at he;omega
  have R3:=R2.know (d:=3) (r:=.ref 1 0) (by
   rw [e7];have:=V1.ref (w:=w') (M:=Mof M0 [some (.box [bG,bG,I 0]),some (.box [bG,bG,I 0]),some (.arr 148 3 (decide (s.tk.map Tk.av=[])) (s.tk.map Tk.av))] p') (h:=[some (.box [bG,bG,I 0]),some (.box [bG,bG,I 0]),some (.arr 148 3 (decide (s.tk.map Tk.av=[])) (s.tk.map Tk.av))]) (p:=p') 1 0 (by simp);rwa [q1.1] at this)
  refine ⟨_,R3.know (d:=11) (r:=.agg [bG,.osl 2,I s.time]) ?_⟩;rw [e6];refine .agg _ [.slice none 0 0,v5,.int .i64 s.time] rfl (fun c hc=>?_) fun j c u hc hu=>?_
  ·simp only [List.mem_cons,List.not_mem_nil,or_false] at hc;rcases hc with rfl|rfl|rfl<;>rfl
  ·rcases j with _|_|_|j
   ·simp only [List.getElem?_cons_zero,Option.some.injEq] at hc hu;subst hc;subst hu;exact .base _ _ (.lit _)
   ·simp only [List.getElem?_cons_zero,List.getElem?_cons_succ,Option.some.injEq] at hc hu;subst hc;subst hu;obtain ⟨A,m,c,e5⟩ : ∃ A m c,v5 = .slice A m c:=by
     have aT:=ho;unfold OwnRow at aT;split at aT
     ·obtain ⟨⟨A,h5⟩,_⟩:=aT;exact ⟨A,0,0,h5⟩
     ·obtain ⟨g,cap,cur,h5,_⟩:=aT;exact ⟨_,_,_,h5⟩
    rw [e5];refine .osl 2 A m c (by simp) (fun e sz nl es he=>?_) fun e sz nl pe qs he=>?_
    ·simp only [List.cons_append,List.nil_append,List.getElem?_cons_succ,List.getElem?_cons_zero,Option.some.injEq,Ob.arr.injEq] at he;obtain ⟨rfl,rfl,rfl,rfl⟩:=he;rw [←e5];have aT:=ho;unfold OwnRow at aT;unfold Osl;split at aT
     ·rename_i hn;rw [if_pos hn];refine ⟨aT.1,?_⟩;rw [aT.2];rfl
     ·rename_i hn;rw [if_neg hn];obtain ⟨g,cap,cur,z1,z2,z3,z4,z5,z6,_⟩:=aT;have:=q2 g _ _ z1;exact ⟨cap,cur,by rw [this];exact z1,by rw [this];exact z3,z4,z5,z6⟩
    ·simp at he
   ·simp only [List.getElem?_cons_zero,List.getElem?_cons_succ,Option.some.injEq] at hc hu;subst hc;subst hu;exact .base _ _ (.lit _)
   ·simp at hc
 ·have hq:=h.q1;have K6:=h.nq;have HQ:=Lib.hid hq;clear hq h;repeat' with_reducible first|apply af|apply ae|apply aa|(apply ab;intro X Y;go_simp;apply Y;clear Y X)
  refine ah [] ?_;repeat' with_reducible first|apply ae|apply aE|apply aa|(apply ab;intro X Y;go_simp;apply Y;clear Y X)
  refine hZ (fun p a w R=>⟨_,R.nilBag (bi:=1) (j:=0) (e:=62) (sz:=1) rfl rfl (by decide)⟩) ?_;go_simp;apply jQ [1,2,3] (fun k=>[(4,I k)]) (fun k=>([some (.box [bG,bG,I 0]),some (.box [.osl 3,.osl 2,I s.time]),some (.arr 148 3 (decide (s.tk.map Tk.av=[])) (s.tk.map Tk.av)),some (.bag 62 1 (decide (mc s k=[])) none (mc s k))] : Hp))  (s.q.length)
  ·go_simp<;>exact rfl
  ·go_simp
  ·intro k hk K hK;obtain ⟨w1,w2,w3,w4,w5,w6⟩:=ixs (m:=k) (by omega);have g:=yX (qat s.q k) (by rw [iJ hk];have:=(HQ.out _ (List.getElem_mem hk)).1;omega);have hs:=Ok hk;have hl:=Ol (s:=s) (k:=k) (by omega);have hb:(mc s k).length+1≤1000000000:=by omega
   have aq:¬mc s k++[(qat s.q k).map bY]=[]:=by simp
   rw [hs,decide_eq_false aq] at hK;clear hs hl aq;generalize mc s k=RV at *;generalize s.tk.map Tk.av=Rr at *;repeat' with_reducible apply af
   refine ah [] ?_;repeat' with_reducible first|apply af|apply ae|apply aw|apply aE|apply aa|(apply ax;·go_simp)|(apply ab;intro X Y;go_simp;apply Y;clear Y X)
   refine N8 (idb:=3) (ti1:=⟨1,1,24,62,1,0,.i64,[],[.slice none 0 0]⟩) 9 7 8 [] [] g (by kernel_rfl) (by kernel_rfl) (by decide) rfl rfl rfl ⟨rfl,rfl,rfl⟩ ⟨rfl,rfl,rfl⟩ ⟨rfl,rfl,rfl⟩ (by kernel_rfl) Ov ⟨rfl,rfl⟩ rz ⟨rfl,rfl,by decide⟩ (fun _ _ _=>by go_simp) rfl hb ?_;simp only [au];repeat (first|(refine fi rfl ?_)|((with_reducible refine fj rfl fun X Y=>?_);go_simp;refine Y _ (by go_simp) ?_;clear Y X)|(with_reducible apply fk))
   refine ⟨rfl,by go_simp,by go_simp,by go_simp,by simp,?_⟩;go_simp;repeat' with_reducible first|apply ae|apply bc|apply aa|(apply ab;intro X Y;go_simp;apply Y;clear Y X)
   refine ah [] ?_;repeat' with_reducible first|apply ae|apply aa|(apply ab;intro X Y;go_simp;apply Y;clear Y X)
   refine hK _ ?_;go_simp
  ·intro K;rw [Om];repeat' with_reducible apply af
   refine ah [] ?_;repeat' with_reducible first|apply af|apply ae|apply bU|apply bV|apply bW|apply aa|(apply ar;·go_simp)|(apply ab;intro X Y;go_simp;apply Y;clear Y X)
   refine ah [] ?_;repeat' with_reducible first|apply ae|apply az|apply aa|(apply ab;intro X Y;go_simp;apply Y;clear Y X)
   go_simp
end Go.Proofs.YtoibondihdhnoaaGreatDoor
