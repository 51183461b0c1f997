/- Texts in one: Walks on a town that changes: a car returns. -/
import Derived.Test.YtoibondihdhnoaaGreatDoorFRP18
import Derived.Test.YtoibondihdhnoaaGreatDoorFRP13
import Derived.Test.YtoibondihdhnoaaGreatDoorFRP6
import Derived.Deep.RegionLaw
import Derived.Lib.SliceRun
import Derived.Test.YtoibondihdhnoaaGreatDoorFRP9
import Derived.Test.YtoibondihdhnoaaGreatDoorFRP22
import Derived.Test.YtoibondihdhnoaaGreatDoorFRP21
import Derived.Test.YtoibondihdhnoaaGreatDoorFRP15
namespace Go.Proofs.YtoibondihdhnoaaGreatDoor
open Go.RowKit Go.Lib
set_option maxRecDepth 100000
set_option maxHeartbeats 2000000
def kC (cur:Array Value) : Nat→List Value→Array Value
 | _,[]=>cur
 | o,v::r=>kC (cur.setIfInBounds o v) (o+1) r
theorem ye:∀ (l:List Value) (o:Nat) (cur:Array Value),(kC cur o l).size=cur.size
 | [],_,_=>rfl
 | v::r,o,cur=>by rw [kC,ye r,Array.size_setIfInBounds]
theorem yf:∀ (l:List Value) (o j:Nat) (cur:Array Value),(j < o∨o+l.length≤j)→(kC cur o l)[j]? = cur[j]?
 | [],_,_,_,_=>rfl
 | v::r,o,j,cur,h=>by
  rw [kC,yf r (o+1) j _ (by simp at h;omega),Array.getElem?_setIfInBounds_ne (by simp at h;omega)]
theorem Ft:∀ (l:List Value) (o j:Nat) (cur:Array Value),o≤j→j < o+l.length→o+l.length≤cur.size→(kC cur o l)[j]? = l[j - o]?
 | [],_,_,_,h1,h2,_=>by simp at h2;omega
 | v::r,o,j,cur,h1,h2,h3=>by
  simp at h2 h3;rw [kC];by_cases he:j=o
  ·subst he;rw [yf r (j+1) j _ (by omega),Array.getElem?_setIfInBounds_self_of_lt (by omega)];simp
  ·rw [Ft r (o+1) j _ (by omega) (by omega) (by simp;omega),show j - o=(j - (o+1))+1 by omega,List.getElem?_cons_succ]
theorem tI (w:World) (b o:Nat) (v:Value) (r:List Value) : w.setCells b o (v::r)=(w.setCells b o [v]).setCells b (o+1) r:=rfl
theorem yg:∀ (l:List Value) (w:World) (b o:Nat) (cur:Array Value) (t:TypeId),Bk w b t cur→Bk (w.setCells b o l) b t (kC cur o l)
 | [],_,_,_,_,_,h=>h
 | v::r,w,b,o,cur,t,h=>by
  rw [tI,kC];exact yg r _ b (o+1) _ t (yh v h)
theorem Bi:∀ (l:List Value) (w:World) (b o b':Nat),b'≠b→(w.setCells b o l).heap[b']? = w.heap[b']?
 | [],_,_,_,_,_=>rfl
 | v::r,w,b,o,b',h=>by rw [tI,Bi r _ b (o+1) b' h,yi v h]
theorem Bj:∀ (l:List Value) (w:World) (b o:Nat),(w.setCells b o l).heap.size=w.heap.size
 | [],_,_,_=>rfl
 | v::r,w,b,o=>by rw [tI,Bj r,vr]
theorem Bl:∀ (l:List Value) (w:World) (b o:Nat),(w.setCells b o l).tape=w.tape
 | [],_,_,_=>rfl
 | v::r,w,b,o=>by rw [tI,Bl r];rfl
theorem KO (cs:Array Value) : (Builtin.zeroCells cs 1).toList=cs.toList:=by
 apply List.ext_getElem
 ·simp [Builtin.zeroCells]
 ·intro i h1 h2;simp at h2;simp [Builtin.zeroCells,Nat.mod_eq_of_lt h2,h2]
theorem KP {P:Program} (w:World) (t e ty:TypeId) (z:Value) (ht:P.underlying t=some (.slice e)) (hv:∀ w,(zeroValue e).run P w = .ok z w) (h1:∀ v∈z.cells.toList,v.oneCell'=true) (b o c:Nat)
  (hc:∀ j,j < z.cells.size→(w.cell? ⟨b,o+j,none⟩).isSome=true) (hf:∀ j,w.frozen? ⟨b,j,none⟩=false) :
  (Builtin.clear_ #[t] ty #[.slice (some ⟨b,o,none⟩) 1 c]).run P w = .ok (.tuple #[]) (w.setCells b o z.cells.toList):=by
 have fu:=run_storeCells_cells (P:=P) b o z.cells.toList 0 w (by simpa using hc) (fun j _=>hf _) h1;simp only [Nat.add_zero] at fu;simp [Builtin.clear_,run_underlying ht,hv,KO,fu]
def rX:List Value:=[.string ⟨#[]⟩,.int .i64 0,.int .i64 0]
theorem KQ (w:World) (g n cap i:Nat) (cur:Array Value) (hg:Bk w g 148 cur) (aM:cur.size=cap*3) (hn:n≤cap) (_hcap:cap≤maxLen) (hi:i < n) (h1:∀ j u,j < n*3→cur[j]? = some u→u.oneCell'=true) :
  Calls Tryz.prog 231 #[.slice (some ⟨g,0,none⟩) n cap,.int .i64 i,.int .i64 ((i:Int)+1)] w fun e w'=>e = .returned (.slice (some ⟨g,0,none⟩) (n - 1) cap) ∧
   w'=(w.drew.setCells g (i*3) ((cur.toList.drop ((i+1)*3)).take ((n - (i+1))*3))).setCells g ((n - 1)*3) rX:=by
 have mixed:Tryz.prog.follows .mixedOrders=true:=by kernel_rfl
 have t0:=Tryz.underlying0;have a0:=Tryz.isAgg0;have z0:=Tryz.sizeOf0;have v0:=Tryz.zeroValue0;have t3:=Tryz.underlying3;have a3:=Tryz.isAgg3;have z3:=Tryz.sizeOf3;have v3:=Tryz.zeroValue3;have t4:=Tryz.underlying4;have a4:=Tryz.isAgg4;have z4:=Tryz.sizeOf4;have v4:=Tryz.zeroValue4;have t22:Tryz.prog.underlying 30=some (.slice 148):=Tryz.underlying30;have a22:=Tryz.isAgg30;have z22:=Tryz.sizeOf30;have v22:=Tryz.zeroValue30;have t23:=Tryz.underlying148;have RQ:=Tryz.isAgg148;have RR:=Tryz.sizeOf148;have RS:=Tryz.zeroValue148;obtain ⟨d,i0,z,hd,rY,hz,fw,aX⟩:=eS AH;injection aX with q1 q2 q3 q4 q5 q6 q7 q8 q9
 have KR:i0.size=3:=q2.symm;have vt:z.cells.toList=rX:=q9.symm;have fa:z.cells.size=3:=by
  rw [←Array.length_toList,vt];rfl
 have hv:∀ w,(zeroValue 148).run Tryz.prog w = .ok z w:=fun w=>by simp [zeroValue,typeInfo,rY,hz]
 unfold maxLen at _hcap;obtain ⟨news,fb⟩ : ∃ news,news=(cur.toList.drop ((i+1)*3)).take ((n - (i+1))*3):=⟨_,rfl⟩
 rw [←fb];have hlen:news.length=(n - (i+1))*3:=by
  rw [fb,List.length_take,List.length_drop,Array.length_toList,aM];omega
 have di:∀ t,t < news.length→news[t]? = cur[(i+1)*3+t]?:=fun t ht=>by
  rw [fb,List.getElem?_take_of_lt (by omega),List.getElem?_drop,Array.getElem?_toList]
 obtain ⟨A,hA,Bm⟩ : ∃ A:Addr,(if cap=i+1 then some (⟨g,0,none⟩ : Addr) else some ⟨g,(i+1)*3,none⟩)=some A∧Hid (∀ t u,news[t]? = some u→w.drew.cell? (A.add t)=some u):=by
  by_cases h:cap=i+1
  ·refine ⟨⟨g,0,none⟩,by simp [h],fun t u hu=>?_⟩;have h0:news.length=0:=by rw [hlen];omega
   rw [List.length_eq_zero_iff.1 h0] at hu;simp at hu
  ·refine ⟨⟨g,(i+1)*3,none⟩,by simp [h],fun t u hu=>?_⟩;have ht:t < news.length:=(List.getElem?_eq_some_iff.1 hu).1;rw [di t ht] at hu;rw [Addr.add_lit];exact (hg.cell _).trans hu
 have s1:Hid (news.length=(n - (i+1))*3):=hlen;have s2:Hid (∀ u∈news,u.oneCell'=true):=fun u hu=>by
  obtain ⟨t,ht,rfl⟩:=List.getElem_of_mem hu;refine h1 ((i+1)*3+t) _ (by omega) ?_;rw [←di t ht,List.getElem?_eq_getElem ht]
 have s3:Hid (∀ t,t < news.length→(w.drew.cell? ⟨g,0+i*3+t,none⟩).isSome=true∧w.drew.frozen? ⟨g,0+i*3+t,none⟩=false):=fun t ht=>by
  refine ⟨?_,hg.drew.frozen _⟩;rw [hg.drew.cell,Array.getElem?_eq_getElem (by omega)];rfl
 obtain ⟨W1,yj⟩ : ∃ W1,W1=w.drew.setCells g (0+i*3) news:=⟨_,rfl⟩
 have hB:Bk W1 g 148 (kC cur (0+i*3) news):=by
  rw [yj];exact yg news _ g _ cur _ hg.drew
 have jE:∀ ty,(Builtin.clear_ #[30] ty #[.slice (some ⟨g,(n - 1)*3,none⟩) 1 (cap - (n - 1))]).run Tryz.prog W1 = .ok (.tuple #[]) (W1.setCells g ((n - 1)*3) rX):=fun ty=>by
  rw [←vt];refine KP W1 _ _ ty z t22 hv (fun v hv=>?_) g _ _ (fun j hj=>?_) hB.frozen
  ·exact List.all_eq_true.1 fw v hv
  ·rw [hB.cell,Array.getElem?_eq_getElem (by rw [ye];omega)];rfl
 have hW:Hid (W1=w.drew.setCells g (0+i*3) news):=yj;have mV:i≤cap:=by omega
 have jG:i+1≤cap:=by omega
 have e1:i+(n - (i+1))=n - 1:=by omega
 have e2:n - (n - 1)=1:=by omega
 have e3:((i:Int)+1)=((i+1:Nat) : Int):=rfl;rw [e3];have hf:w.drew.setCells g (i*3) news=W1:=by rw [yj,Nat.zero_add]
 have HF:=Lib.hid hf;generalize hj:i+1=j at *;have yk:i≤j:=by omega
 have ao:i < j:=by omega
 have aq:¬i=j:=by omega
 have eH:j≤n:=by omega
 clear hj;clear yj hB di hlen fb h1 hg aM hd q1 q2 q3 q4 q5 q6 q7 q8 q9 hf hz vt fa fw hv;go_enter Tryz.func231,Tryz.ntmps231
 go_wp2_with fail
 go_region_law_o (refine step_append_room rfl (.tmp 22) (.tmp 25) 30 rfl 148 i0 3 t22 rY KR g 0 i cap (by simp [Act.eval,Act.put]) A (n - j) (cap - j) news (by simp [Act.eval,Act.put]) s1.out Bm.out s2.out (by omega) s3.out ?_;rw [←hW.out])
 go_wp2
 go_ret
 exact ⟨rfl,by rw [HF.out]⟩
theorem KT {cur:Array Value} {n cap i:Nat} (aM:cur.size=cap*3) (hn:n≤cap) (hi:i < n) (k r:Nat) (hk:k < n - 1) (hr:r < 3) :
  (kC (kC cur (i*3) ((cur.toList.drop ((i+1)*3)).take ((n - (i+1))*3))) ((n - 1)*3) rX)[k*3+r]? = if k < i then cur[k*3+r]? else cur[(k+1)*3+r]?:=by
 have hlen:((cur.toList.drop ((i+1)*3)).take ((n - (i+1))*3)).length=(n - (i+1))*3:=by
  rw [List.length_take,List.length_drop,Array.length_toList,aM];omega
 rw [yf _ _ _ _ (.inl (by omega))];by_cases h:k < i
 ·rw [if_pos h,yf _ _ _ _ (.inl (by omega))]
 ·rw [if_neg h,Ft _ _ _ _ (by omega) (by omega) (by omega),List.getElem?_take_of_lt (by omega),List.getElem?_drop,Array.getElem?_toList];congr 1;omega
theorem Bn:∀ (l:List Value) (w:World) (b o:Nat),(w.setCells b o l).os=w.os
 | [],_,_,_=>rfl
 | v::r,w,b,o=>by rw [tI,Bn r];rfl
theorem Bo:∀ (l:List Value) (w:World) (b o:Nat),(w.setCells b o l).output=w.output
 | [],_,_,_=>rfl
 | v::r,w,b,o=>by rw [tI,Bo r];rfl
theorem Bp (es:List (List AV)) (nl:Bool) (i:Nat) (hi:i < es.length) : VH Tryz.prog 231 [some (.arr 148 3 nl es)] [.osl 0,I (i:Int),I ((i:Int)+1)] [] [some (.arr 148 3 false (es.eraseIdx i))] (.osl 0):=by
 refine ⟨by kernel_rfl,fun w M X p vs hM hX RT fW hv hO RU=>?_⟩;obtain ⟨v1,v2,v3,rfl⟩ : ∃ v1 v2 v3,vs=[v1,v2,v3]:=by
  rcases vs with _|⟨a,_|⟨b,_|⟨c,_|⟨_,_⟩⟩⟩⟩
  all_goals first|exact ⟨a,b,c,rfl⟩|(simp at fW)
 have g0:=hv 0 _ _ rfl rfl;have g1:=hv 1 _ _ rfl rfl;have g2:=hv 2 _ _ rfl rfl;obtain ⟨iM,j6,bu⟩:=hO 0 _ rfl;have aK:nl=false:=by
  cases nl
  ·rfl
  ·rw [if_pos rfl] at bu;subst bu;simp at hi
 subst aK;rw [if_neg (by simp)] at bu;obtain ⟨cF,cur,hg,hlen,aD⟩:=bu;have e2:v2 = .int .i64 (i:Int):=by
  cases g1 with
  | base _ _ h0=>cases h0;rfl
 have e3:v3 = .int .i64 ((i:Int)+1):=by
  cases g2 with
  | base _ _ h0=>cases h0;rfl
 subst e2;subst e3;obtain ⟨cap,rfl,bI,kB,fN⟩ : ∃ cap,v1 = .slice (some ⟨p 0,0,none⟩) es.length cap∧cur.size=cap*3∧es.length≤cap∧cap≤maxLen:=by
  cases g0 with
  | base _ _ h0=>cases h0
  | osl id A n c hid iv hb=>
   have:=iv _ _ _ _ rfl;unfold Osl at this;rw [if_neg (by simp)] at this;obtain ⟨cap,cur',e1,fj,bI,kB,fN⟩:=this;have bJ:cur'=cur:=by
    rw [hg] at fj;injection fj with fj
    injection fj with fj
    exact fj.symm
   subst bJ;exact ⟨cap,e1,bI,kB,fN⟩
 have h1:∀ j u,j < es.length*3→cur[j]? = some u→u.oneCell'=true:=fun j u hj hu=>by
  have hk:j / 3 < es.length:=by omega
  obtain ⟨xQ,qF⟩:=j6 (j / 3) es[j / 3] (List.getElem?_eq_getElem hk);have hr:j % 3 < es[j / 3].length:=by rw [xQ];omega
  obtain ⟨u',mh,bE⟩:=aD (j / 3) es[j / 3] (j % 3) _ (List.getElem?_eq_getElem hk) (List.getElem?_eq_getElem hr);rw [show j / 3*3+j % 3=j by omega,hu] at mh;injection mh with mh
  subst mh;exact bE.one (qF _ (List.getElem_mem hr))
 refine (KQ w (p 0) es.length cap i cur hg bI kB fN hi h1).mono ?_;rintro e w' ⟨rfl,rfl⟩;obtain ⟨news,fb⟩ : ∃ news,news=(cur.toList.drop ((i+1)*3)).take ((es.length - (i+1))*3):=⟨_,rfl⟩
 obtain ⟨w2,oW⟩ : ∃ w2,(w.drew.setCells (p 0) (i*3) news).setCells (p 0) ((es.length - 1)*3) rX=w2:=⟨_,rfl⟩
 rw [←fb,oW];have hB:Bk w2 (p 0) 148 (kC (kC cur (i*3) news) ((es.length - 1)*3) rX):=by
  rw [←oW];exact yg _ _ _ _ _ _ (yg news _ _ _ cur _ hg)
 have b8:∀ b,b≠p 0→w2.heap[b]? = w.heap[b]?:=fun b hb=>by
  rw [←oW,Bi _ _ _ _ _ hb,Bi _ _ _ _ _ hb];rfl
 have aM:w2.heap.size=w.heap.size:=by
  rw [←oW,Bj,Bj];rfl
 have d_:∀ (F:Nat→Nat→Prop),(∀ j,F (p 0) j)→Keeps F w w2:=fun F hF=>by
  have aq:∀ b j,¬F b j→b≠p 0:=fun b j hn he=>hn (by rw [he];exact hF j);refine ⟨by rw [aM];exact Nat.le_refl _,fun b _ hn=>b8 b (aq b 0 (hn 0)),fun {b o v} _ hn hc=>tr (b8 b (aq b o hn)) hc⟩
 have vu:∀ b j,b < w.heap.size→¬Mof M [some (.arr 148 3 false es)] p b j→¬Mof M [some (.arr 148 3 false (es.eraseIdx i))] p b j:=fun b j _ hn hm=>by
  rcases hm with hm|⟨id,ob,hid,hl,cw⟩
  ·exact hn (.inl hm)
  ·rcases id with _|id
   ·exact hn (.inr ⟨0,_,rfl,rfl,cw⟩)
   ·simp at hid
 have hK:=d_ (Mof M [some (.arr 148 3 false es)] p) fun j=>.inr ⟨0,_,rfl,rfl,.inl rfl⟩;have pS:(es.eraseIdx i).length=es.length - 1:=List.length_eraseIdx_of_lt hi;have vv:(kC (kC cur (i*3) news) ((es.length - 1)*3) rX).size=cap*3:=by rw [ye,ye,bI]
 refine ⟨_,p,rfl,?_,?_,?_,?_,fun i a v h=>by cases h⟩
 ·refine (Bel.start ⟨w,X⟩).keepF ?_ ?_ ?_ (d_ _ fun j=>cF.1 j)
  ·rw [←oW,Bn,Bn];rfl
  ·rw [←oW,Bl,Bl];rfl
  ·rw [←oW,Bo,Bo];rfl
 ·refine .osl 0 _ _ _ (by simp) (fun e sz nl es' he=>?_) fun e sz nl ak qs he=>by simp at he
  simp only [List.getElem?_cons_zero,Option.some.injEq,Ob.arr.injEq] at he;obtain ⟨rfl,rfl,rfl,rfl⟩:=he;unfold Osl;rw [if_neg (by simp),pS];exact ⟨cap,_,rfl,hB,vv,by omega,fN⟩
 ·intro k ob hk;rcases k with _|k
  ·simp only [List.getElem?_cons_zero,Option.some.injEq] at hk;subst hk;refine ⟨by decide,fun k x hx=>?_,?_⟩
   ·obtain ⟨k',dN⟩:=List.getElem?_of_mem (List.mem_of_mem_eraseIdx (List.mem_of_getElem? hx));exact j6 k' x dN
   ·rw [if_neg (by simp)];refine ⟨cF,_,hB,?_,fun k x j c hx hj=>?_⟩
    ·rw [vv,pS];omega
    ·have hk:k < es.length - 1:=by rw [←pS];exact (List.getElem?_eq_some_iff.1 hx).1
     rw [List.getElem?_eraseIdx] at hx;have Bq:j < 3:=by
      have b_:=(List.getElem?_eq_some_iff.1 hj).1;split at hx
      ·rw [(j6 _ _ hx).1] at b_;exact b_
      ·rw [(j6 _ _ hx).1] at b_;exact b_
     rw [fb,KT bI kB hi k j hk Bq];split at hx
     ·rename_i h;rw [if_pos h];obtain ⟨u,hu,bE⟩:=aD k x j c hx hj;exact ⟨u,hu,bE.keep hK vu⟩
     ·rename_i h;rw [if_neg h];obtain ⟨u,hu,bE⟩:=aD (k+1) x j c hx hj;exact ⟨u,hu,bE.keep hK vu⟩
  ·simp at hk
 ·intro k k' ob ob' hk dN _ _ b j j' _ _;rcases k with _|k
  ·rcases k' with _|k'
   ·rfl
   ·simp at dN
  ·simp at hk
end Go.Proofs.YtoibondihdhnoaaGreatDoor
namespace Go.Proofs.YtoibondihdhnoaaGreatDoor
open Go.RowKit
set_option maxRecDepth 100000
set_option maxHeartbeats 2000000
theorem KU (r:Ru) (s:St) (mv:List Sg) (n1 n2:Bool) (x:Ev) (k:Nat) (hx:x.rank=k) (hk:k < s.q.length) (hr:r.ranks.length=s.q.length) (hf:kt r s.q.length) (h0:¬jI r s k=0) :
  VH Tryz.prog 228 (ct r s mv n1 n2) [.ref 0 0,evA x] [0] (ct r s mv n1 n2) (I (jI r s k)):=by
 have cA:k < r.ranks.length:=by omega
 have fV:=hf k hk;obtain ⟨kd,tm,rk,car⟩:=x;simp only at hx;subst hx;unfold jI at h0 ⊢;by_cases h1:(rat r.ranks k).feeder = -1
 ·rw [if_pos h1];clear fV hf h0;simp only [evA];refine fi Tryz.func228 rfl (by kernel_rfl) rfl (fun _=>by kernel_rfl) fun M0 w0 vs=>?_;simp only [Tryz.ntmps228,Tryz.results228,aF];unfold ct;repeat' with_reducible first|apply af|apply ae|apply aa|refine ah [] ?_|(apply ab;intro Y Z;go_simp;apply Z;clear Z Y)
  refine fR 10 [] [⟨9,5,[.string ⟨#[]⟩,.int .i64 0,.int .i64 0,.bool false],none,[]⟩] (by kernel_rfl) (by go_simp) ?_;simp only [az];repeat (first|(refine fc rfl ?_)|((with_reducible refine fe rfl fun Y Z=>?_);go_simp;refine Z _ (by go_simp) ?_;clear Z Y)|(with_reducible apply ff))
  refine ⟨by go_simp,?_⟩;simp only [dV,eh,Slot.end_,List.cons_append,List.nil_append];repeat' with_reducible first|apply af|apply ae|apply aZ|apply ax|apply aa|refine ah [] ?_|(apply aw;·go_simp)|(apply ab;intro Y Z;go_simp;apply Z;clear Z Y)
  go_simp
 ·rw [if_neg h1] at h0 ⊢;obtain ⟨f0,fl⟩:=fV h1;unfold feedN at h0 ⊢;obtain ⟨f,iz⟩ : ∃ f:Nat,(rat r.ranks k).feeder=f:=⟨(rat r.ranks k).feeder.toNat,by omega⟩
  have g3:=oL r s mv k hk hr;rw [iz] at fl h1 h0 ⊢;simp only [Int.toNat_natCast] at fl h0 ⊢;clear fV hf f0;have g1:=bN (rat r.ranks k).called 22;have g2:=bN (decide (0 < (qat s.q f).length)) 12;have g4:=bN (ch r s k) 16;have g5:VC Tryz.prog 88 [.sl 1 ([unl (rat r.ranks k).called 22,unl (decide (0 < (qat s.q f).length)) 12,unl (ch r s k) 16].map eJ)] (I (fst [unl (rat r.ranks k).called 22,unl (decide (0 < (qat s.q f).length)) 12,unl (ch r s k) 16])):=fP _ rfl rfl;generalize fst [unl (rat r.ranks k).called 22,unl (decide (0 < (qat s.q f).length)) 12,unl (ch r s k) 16]=E at *;generalize unl (rat r.ranks k).called 22=A1 at *;generalize unl (decide (0 < (qat s.q f).length)) 12=A2 at *;generalize unl (ch r s k) 16=A3 at *;generalize ch r s k=F at *;simp only [evA];refine fi Tryz.func228 rfl (by kernel_rfl) rfl (fun _=>by kernel_rfl) fun M0 w0 vs=>?_;simp only [Tryz.ntmps228,Tryz.results228,aF];unfold ct;repeat' with_reducible first|apply af|apply ae|apply aa|refine ah [] ?_|(apply ab;intro Y Z;go_simp;apply Z;clear Z Y)
  refine fR 10 [] [⟨9,5,[.string ⟨#[]⟩,.int .i64 0,.int .i64 0,.bool false],none,[]⟩] (by kernel_rfl) (by go_simp) ?_;simp only [az];repeat (first|(refine fc rfl ?_)|((with_reducible refine fe rfl fun Y Z=>?_);go_simp;refine Z _ (by go_simp) ?_;clear Z Y)|(with_reducible apply ff))
  refine ⟨by go_simp,?_⟩;simp only [dV,eh,Slot.end_,List.cons_append,List.nil_append];repeat' first|(with_reducible first|apply af|apply ae|apply ax|apply au|apply aa|refine ah [] ?_|apply aT|(apply ar;·go_simp))|((with_reducible first|apply ab|apply aU);intro Y Z;go_simp;(first|(with_reducible refine ⟨_,g1,?_⟩)|(with_reducible refine ⟨_,g2,?_⟩)|(refine ⟨_,⟨g3,rfl⟩,?_⟩)|(with_reducible refine ⟨_,g4,?_⟩)|(refine ⟨_,g5,?_⟩)|skip);apply Z;clear Z Y)|((refine bc 23 23 [] rfl (by kernel_rfl) ?_);simp only [az])
  go_simp
theorem KW (r:Ru) (s:St) (mv:List Sg) (n1 n2:Bool) (x:Ev) (k f:Nat) (hx:x.rank=k) (hk:k < s.q.length) (hr:r.ranks.length=s.q.length) (hf:(rat r.ranks k).feeder=f) (de:f < s.q.length) (aq:f≠k) (hq:(qat s.q k).length+1≤1000000000) (hm:mv.length+2≤1000000000) (h0:jI r s k=0) :
  VH Tryz.prog 228 (ct r s mv n1 n2) [.ref 0 0,evA x] [0] (ct r ⟨upQ s.q k f,s.tk,s.time⟩ (mv++upM s.q k f) n1 false) (I 0):=by
 have cA:k < r.ranks.length:=by omega
 obtain ⟨kd,tm,rk,car⟩:=x;simp only at hx;subst hx;have h1:¬(f:Int) = -1:=by omega
 unfold jI feedN at h0;rw [hf,if_neg h1,Int.toNat_natCast] at h0;have hp:0 < (qat s.q f).length:=by
  rw [cg,cg] at h0;exact of_decide_eq_true (fx (by decide) h0.2.1)
 have gu:=EG r s mv n1 n2 k f hk hr hf de aq hp hq hm;have g3:=oL r s mv k hk hr;have g1:=bN (rat r.ranks k).called 22;have g2:=bN (decide (0 < (qat s.q f).length)) 12;have g4:=bN (ch r s k) 16;have g5:VC Tryz.prog 88 [.sl 1 ([unl (rat r.ranks k).called 22,unl (decide (0 < (qat s.q f).length)) 12,unl (ch r s k) 16].map eJ)] (I (fst [unl (rat r.ranks k).called 22,unl (decide (0 < (qat s.q f).length)) 12,unl (ch r s k) 16])):=fP _ rfl rfl;rw [h0] at g5;have hd:decide (0 < (qat s.q f).length)=true:=decide_eq_true hp;clear h0;generalize unl (rat r.ranks k).called 22=A1 at *;rw [hd] at g2 g5;generalize unl true 12=A2 at *;generalize unl (ch r s k) 16=A3 at *;generalize ch r s k=F at *;generalize upQ s.q k f=Q2 at *;generalize mv++upM s.q k f=M2 at *;clear hd hq hm;simp only [evA];refine fi Tryz.func228 rfl (by kernel_rfl) rfl (fun _=>by kernel_rfl) fun M0 w0 vs=>?_;simp only [Tryz.ntmps228,Tryz.results228,aF];unfold ct at gu ⊢;repeat' with_reducible first|apply af|apply ae|apply aa|refine ah [] ?_|(apply ab;intro Y Z;go_simp;apply Z;clear Z Y)
 refine fR 10 [] [⟨9,5,[.string ⟨#[]⟩,.int .i64 0,.int .i64 0,.bool false],none,[]⟩] (by kernel_rfl) (by go_simp) ?_;simp only [az];repeat (first|(refine fc rfl ?_)|((with_reducible refine fe rfl fun Y Z=>?_);go_simp;refine Z _ (by go_simp) ?_;clear Z Y)|(with_reducible apply ff))
 refine ⟨by go_simp,?_⟩;simp only [dV,eh,Slot.end_,List.cons_append,List.nil_append];repeat' with_reducible first|apply af|apply ae|apply aa|(apply ab;intro Y Z;go_simp;apply Z;clear Z Y)
 refine ah [] ?_;repeat' with_reducible first|apply af|apply ae|apply au|apply aa|(apply ar;·go_simp)|(apply ab;intro Y Z;go_simp;apply Z;clear Z Y)
 refine bc 23 23 [] rfl (by kernel_rfl) ?_;simp only [az];repeat' first|(with_reducible first|apply af|apply ae|apply aa|apply aT)|((with_reducible apply aU);intro Y Z;go_simp;(first|(with_reducible refine ⟨_,g1,?_⟩)|(with_reducible refine ⟨_,g2,?_⟩)|(refine ⟨_,⟨g3,rfl⟩,?_⟩)|(with_reducible refine ⟨_,g4,?_⟩)|(refine ⟨_,g5,?_⟩)|skip);apply Z;clear Z Y)
 refine ah [] ?_;repeat' with_reducible first|apply ae|apply aa|(apply aw;·go_simp)|(apply ab;intro Y Z;go_simp;apply Z;clear Z Y)
 refine fB (ca [] 3 ⟨rfl,rfl⟩ ?_);simp only [az];repeat' with_reducible first|apply aa|(apply ab;intro Y Z;go_simp;apply Z;clear Z Y)
 refine fJ [0,1,2,3] [0] [] [some (.box [.osl 1,.osl 2,I s.time,.sl 4 (r.ranks.map Rk.av),I r.back,I r.ret,.osl 3]),some (.bag 62 1 false none (bL Q2)),some (.arr 148 3 n1 (s.tk.map Tk.av)),some (.arr 45 3 false (M2.map Sg.av))] (.tup []) rfl (by go_simp) ?_ ?_
 ·unfold fk;go_simp;refine ⟨_,_,_,gu,?_⟩;go_simp;kernel_rfl
 go_simp;apply dA;repeat' with_reducible first|apply af|apply ae
 refine ah [] ?_;repeat' with_reducible first|apply ae|apply ax|apply aa|(apply ab;intro Y Z;go_simp;apply Z;clear Z Y)
 go_simp
theorem KX (r:Ru) (s:St) (mv:List Sg) (n1 n2:Bool) (x:Ev) (k:Nat) (hx:x.rank=k) (hl:s.tk.length≤1000000) (h0:eK s.tk x.car < 0) :
  VH Tryz.prog 229 (ct r s mv n1 n2) [.ref 0 0,evA x] [0] (ct r s mv n1 n2) (I 6):=by
 have g1:=qm r s mv x.car hl;generalize eK s.tk x.car=A at *;obtain ⟨kd,tm,rk,car⟩:=x;simp only at hx;subst hx;simp only [evA];refine fi Tryz.func229 rfl (by kernel_rfl) rfl (fun _=>by kernel_rfl) fun M0 w0 vs=>?_;simp only [Tryz.ntmps229,Tryz.results229,aF];unfold ct;repeat' first|(with_reducible first|apply af|apply ae|apply aZ|apply ax|apply aa|refine ah [] ?_|apply aT|(apply aw;·go_simp))|((with_reducible first|apply ab|apply aU);intro Y Z;go_simp;(first|(refine ⟨_,⟨g1,rfl⟩,?_⟩)|skip);apply Z;clear Z Y)|((refine bc 16 16 [] rfl (by kernel_rfl) ?_);simp only [az])
 go_simp
theorem KY (r:Ru) (s:St) (mv:List Sg) (n1 n2:Bool) (x:Ev) (k i:Nat) (hx:x.rank=k) (hl:s.tk.length≤1000000) (hi:eK s.tk x.car=i) (cz:i < s.tk.length) (h0:(aS s.tk i).rank≠k) :
  VH Tryz.prog 229 (ct r s mv n1 n2) [.ref 0 0,evA x] [0] (ct r s mv n1 n2) (I 6):=by
 have g1:=qm r s mv x.car hl;rw [hi] at g1;clear hi;obtain ⟨kd,tm,rk,car⟩:=x;simp only at hx;subst hx;simp only [evA];refine fi Tryz.func229 rfl (by kernel_rfl) rfl (fun _=>by kernel_rfl) fun M0 w0 vs=>?_;simp only [Tryz.ntmps229,Tryz.results229,aF];unfold ct;repeat' first|(with_reducible first|apply af|apply ae|apply aZ|apply ax|apply aa|refine ah [] ?_|apply aT|(apply aw;·go_simp))|((with_reducible first|apply ab|apply aU);intro Y Z;go_simp;(first|(refine ⟨_,⟨g1,rfl⟩,?_⟩)|skip);apply Z;clear Z Y)|((refine bc 16 16 [] rfl (by kernel_rfl) ?_);simp only [az])
 go_simp
theorem KZ (r:Ru) (s:St) (mv:List Sg) (n1 n2:Bool) (x:Ev) (k i:Nat) (hx:x.rank=k) (hk:k < s.q.length) (hr:r.ranks.length=s.q.length) (hl:s.tk.length≤1000000) (hi:eK s.tk x.car=i) (cz:i < s.tk.length) (h0:(aS s.tk i).rank=k)
  (ht:0≤x.time∧x.time≤604800) (jl:0≤(aS s.tk i).time∧(aS s.tk i).time≤604800) (h1:¬fst [unl (decide (x.time - (aS s.tk i).time≤r.ret)) 25,unl (ch r s k) 16]=0) :
  VH Tryz.prog 229 (ct r s mv n1 n2) [.ref 0 0,evA x] [0] (ct r s mv n1 n2) (I (fst [unl (decide (x.time - (aS s.tk i).time≤r.ret)) 25,unl (ch r s k) 16])):=by
 have g1:=qm r s mv x.car hl;rw [hi] at g1;clear hi;have g2:=oL r s mv k hk hr;have g3:=bN (decide (x.time - (aS s.tk i).time≤r.ret)) 25;have g4:=bN (ch r s k) 16;have g5:VC Tryz.prog 88 [.sl 1 ([unl (decide (x.time - (aS s.tk i).time≤r.ret)) 25,unl (ch r s k) 16].map eJ)] (I (fst [unl (decide (x.time - (aS s.tk i).time≤r.ret)) 25,unl (ch r s k) 16])):=fP _ rfl rfl;have hw:IntKind.i64.wrap (x.time - (aS s.tk i).time)=x.time - (aS s.tk i).time:=iu (by omega) (by omega);generalize fst [unl (decide (x.time - (aS s.tk i).time≤r.ret)) 25,unl (ch r s k) 16]=E at *;generalize unl (decide (x.time - (aS s.tk i).time≤r.ret)) 25=A1 at *;generalize unl (ch r s k) 16=A2 at *;generalize ch r s k=F at *;clear ht jl;obtain ⟨kd,tm,rk,car⟩:=x;simp only at hx hw g3;subst hx;simp only [evA];refine fi Tryz.func229 rfl (by kernel_rfl) rfl (fun _=>by kernel_rfl) fun M0 w0 vs=>?_;simp only [Tryz.ntmps229,Tryz.results229,aF];unfold ct;repeat' first|(with_reducible first|apply af|apply ae|apply aZ|apply ax|apply au|apply aa|refine ah [] ?_|apply aT|(apply aw;·go_simp)|(apply ar;·go_simp))|((with_reducible first|apply ab|apply aU);intro Y Z;go_simp;(first|(refine ⟨_,⟨g1,rfl⟩,?_⟩)|(refine ⟨_,⟨g2,rfl⟩,?_⟩)|(with_reducible refine ⟨_,g3,?_⟩)|(with_reducible refine ⟨_,g4,?_⟩)|(refine ⟨_,g5,?_⟩)|skip);apply Z;clear Z Y)|((refine bc 16 16 [] rfl (by kernel_rfl) ?_);simp only [az])|((refine bc 27 27 [] rfl (by kernel_rfl) ?_);simp only [az])
 go_simp
theorem yl {α β:Type} (f:α→β) : ∀ (l:List α) (i:Nat),(l.map f).eraseIdx i=(l.eraseIdx i).map f
 | [],_=>rfl
 | _::_,0=>rfl
 | x::l,i+1=>by
  rw [List.map_cons,List.eraseIdx_cons_succ,List.eraseIdx_cons_succ,List.map_cons,yl f l i]
theorem K1 (r:Ru) (s:St) (mv:List Sg) (n1 n2:Bool) (x:Ev) (k i:Nat) (hx:x.rank=k) (hk:k < s.q.length) (hr:r.ranks.length=s.q.length) (hl:s.tk.length≤1000000) (hi:eK s.tk x.car=i) (cz:i < s.tk.length) (h0:(aS s.tk i).rank=k)
  (ht:0≤x.time∧x.time≤604800) (jl:0≤(aS s.tk i).time∧(aS s.tk i).time≤604800) (hq:(qat s.q k).length+1≤10000) (h1:fst [unl (decide (x.time - (aS s.tk i).time≤r.ret)) 25,unl (ch r s k) 16]=0) :
  VH Tryz.prog 229 (ct r s mv n1 n2) [.ref 0 0,evA x] [0] (ct r ⟨s.q.set k ([x.car]++qat s.q k),s.tk.eraseIdx i,s.time⟩ mv false n2) (I 0):=by
 have g1:=qm r s mv x.car hl;rw [hi] at g1;clear hi;have g2:=oL r s mv k hk hr;have g3:=bN (decide (x.time - (aS s.tk i).time≤r.ret)) 25;have g4:=bN (ch r s k) 16;have g5:VC Tryz.prog 88 [.sl 1 ([unl (decide (x.time - (aS s.tk i).time≤r.ret)) 25,unl (ch r s k) 16].map eJ)] (I (fst [unl (decide (x.time - (aS s.tk i).time≤r.ret)) 25,unl (ch r s k) 16])):=fP _ rfl rfl;have hw:IntKind.i64.wrap (x.time - (aS s.tk i).time)=x.time - (aS s.tk i).time:=iu (by omega) (by omega);have gd:=Bp (s.tk.map Tk.av) n1 i (by simpa using cz);rw [yl] at gd;rw [h1] at g5;clear h1;generalize unl (decide (x.time - (aS s.tk i).time≤r.ret)) 25=A1 at *;generalize unl (ch r s k) 16=A2 at *;generalize ch r s k=F at *;generalize s.tk.eraseIdx i=TK at *;clear ht jl;obtain ⟨kd,tm,rk,car⟩:=x;simp only at hx hw g3;subst hx;simp only [evA];obtain ⟨w1,w2,w3,w4,w5,w6⟩:=ixs (m:=i) (by omega);refine fi Tryz.func229 rfl (by kernel_rfl) rfl (fun _=>by kernel_rfl) fun M0 w0 vs=>?_;simp only [Tryz.ntmps229,Tryz.results229,aF];unfold ct;repeat' first|(with_reducible first|apply af|apply ae|apply aa|refine ah [] ?_)|((with_reducible apply ab);intro Y Z;go_simp;(first|(refine ⟨_,⟨g1,rfl⟩,?_⟩)|skip);apply Z;clear Z Y)
 refine bc 16 16 [] rfl (by kernel_rfl) ?_;simp only [az];repeat' with_reducible first|apply af|apply ae|apply au|apply aa|apply aT|(apply ar;·go_simp)|(apply aU;intro Y Z;go_simp;apply Z;clear Z Y)
 refine bc 27 27 [] rfl (by kernel_rfl) ?_;simp only [az];repeat' first|(with_reducible first|apply af|apply ae|apply aa|apply aT)|((with_reducible apply aU);intro Y Z;go_simp;(first|(refine ⟨_,⟨g2,rfl⟩,?_⟩)|(with_reducible refine ⟨_,g3,?_⟩)|(with_reducible refine ⟨_,g4,?_⟩)|(refine ⟨_,g5,?_⟩)|skip);apply Z;clear Z Y)
 refine ah [] ?_;repeat' with_reducible first|apply af|apply ae|apply au|apply aa|(apply ar;·go_simp)|(apply ab;intro Y Z;go_simp;apply Z;clear Z Y)
 refine fB (ca [] 9 ⟨rfl,rfl⟩ ?_);simp only [az];repeat' with_reducible first|apply aa|(apply ab;intro Y Z;go_simp;apply Z;clear Z Y)
 refine Au (fun p a w R=>⟨_,Rel.deadCell R (bi:=0) (j:=1) (r:=2) rfl rfl⟩) ?_;simp only [List.set];refine fJ [2] [] [] [some (.arr 148 3 false (TK.map Tk.av))] (.osl 0) rfl (by go_simp) ?_ ?_
 ·unfold fk;go_simp;refine ⟨_,_,⟨_,gd⟩,?_⟩;go_simp;kernel_rfl
 go_simp;refine ca [] 4 ⟨rfl,rfl⟩ ?_;simp only [az];repeat' with_reducible first|apply aa|(apply ab;intro Y Z;go_simp;apply Z;clear Z Y)
 apply dA;repeat' with_reducible first|apply af|apply ae
 refine mJ 20 [0,69,69,70,70,71,71,72,72,73,3,74,74,75] (by kernel_rfl) (by kernel_rfl) (by kernel_rfl) (fun v=>v) uV rfl ⟨rfl,rfl⟩ ?_;simp only [List.take];repeat' with_reducible first|apply aT|(apply aU;intro Y Z;go_simp;apply Z;clear Z Y)
 refine ⟨_,_,th (by exact rfl) (by exact rfl) (by go_simp;exact Kz _ _ (by repeat' (first|exact TxO.one _|exact TxO.map _|apply TxO.take|apply TxO.drop|apply TxO.tail)) (by simp;omega)) (by go_simp),?_,?_,?_⟩
 ·simp only [List.forall_mem_cons];go_simp
 ·repeat' with_reducible first|apply aT|(apply aU;intro Y Z;go_simp;apply Z;clear Z Y)
  simp only [List.forall_mem_cons];go_simp
 go_simp;refine ca [] 2 ⟨rfl,rfl⟩ ?_;simp only [az];repeat' with_reducible first|apply aa|(apply ab;intro Y Z;go_simp;apply Z;clear Z Y)
 apply dA;repeat' with_reducible first|apply af|apply ae|apply ax|apply aa|refine ah [] ?_|(apply ab;intro Y Z;go_simp;apply Z;clear Z Y)
 go_simp;rw [←lu];rfl
theorem vw (q:List (List ByteArray)) (c:ByteArray) : ∃ a b:Int,s8 q c = .tup [.agg [I a,I b],B (decide (0≤eb q c))]:=by
 unfold s8;by_cases h:0≤eb q c
 ·rw [if_pos h,decide_eq_true h];exact ⟨_,_,rfl⟩
 ·rw [if_neg h,decide_eq_false h];exact ⟨_,_,rfl⟩
theorem K3 (r:Ru) (s:St) (mv:List Sg) (n1 n2:Bool) (x:Ev) (k:Nat) (hx:x.rank=k) (hk:k < s.q.length) (hr:r.ranks.length=s.q.length) (hf:kt r s.q.length) (ie:s.q.length≤1000000) (dJ:∀ k,k < s.q.length→(qat s.q k).length≤1000000) (h0:¬iT r s x k=0) :
  VH Tryz.prog 224 (ct r s mv n1 n2) [.ref 0 0,evA x] [0] (ct r s mv n1 n2) (I (iT r s x k)):=by
 have cA:k < r.ranks.length:=by omega
 have fV:=hf k hk;clear hf;have g1:=uD r s mv x.car ie dJ;clear dJ;obtain ⟨sa,sb,es⟩:=vw s.q x.car;rw [es] at g1;clear es;have g2:=oL r s mv k hk hr;have q1:=bN (!decide (0≤eb s.q x.car)) 5;have q2:=bN (!iL r s k) 13;have q3:=bN (ch r s k) 16;have g5:VC Tryz.prog 88 [.sl 1 ([unl (!decide (0≤eb s.q x.car)) 5,unl (!iL r s k) 13,unl (ch r s k) 16].map eJ)] (I (iT r s x k)):=fP _ rfl rfl;unfold iL feedN at *;generalize iT r s x k=E at *;generalize decide (0≤eb s.q x.car)=D at *;generalize unl (!D) 5=A1 at *;generalize unl (ch r s k) 16=A3 at *;generalize ch r s k=F at *;obtain ⟨kd,tm,rk,car⟩:=x;simp only at hx g1;subst hx;simp only [evA];by_cases h1:(rat r.ranks k).feeder = -1
 ·have e:(decide ((rat r.ranks k).feeder≠-1)&&decide (0 < (qat s.q (rat r.ranks k).feeder.toNat).length))=false:=by simp [h1]
  rw [e,Bool.not_false] at q2 g5;generalize unl true 13=A2 at *;clear fV e;refine fi Tryz.func224 rfl (by kernel_rfl) rfl (fun _=>by kernel_rfl) fun M0 w0 vs=>?_;simp only [Tryz.ntmps224,Tryz.results224,aF];unfold ct;repeat' first|(with_reducible first|apply af|apply ae|apply aZ|apply ax|apply aa|refine ah [] ?_|apply aT|(apply aw;·go_simp))|((with_reducible first|apply ab|apply aU);intro Y Z;go_simp;(first|(refine ⟨_,⟨g1,rfl⟩,?_⟩)|(refine ⟨_,⟨g2,rfl⟩,?_⟩)|(with_reducible refine ⟨_,q1,?_⟩)|(with_reducible refine ⟨_,q2,?_⟩)|(with_reducible refine ⟨_,q3,?_⟩)|(refine ⟨_,g5,?_⟩)|skip);apply Z;clear Z Y)|((refine bc 11 11 [] rfl (by kernel_rfl) ?_);simp only [az])|((refine bc 14 14 [] rfl (by kernel_rfl) ?_);simp only [az])
  go_simp
 ·obtain ⟨f0,fl⟩:=fV h1;clear fV;obtain ⟨f,iz⟩ : ∃ f:Nat,(rat r.ranks k).feeder=f:=⟨(rat r.ranks k).feeder.toNat,by omega⟩
  rw [iz] at fl h1 q2 g5;have e:(decide ((f:Int)≠-1)&&decide (0 < (qat s.q (f:Int).toNat).length))=decide (0 < (qat s.q f).length):=by
   rw [decide_eq_true h1,Bool.true_and,Int.toNat_natCast]
  rw [e] at q2 g5;simp only [Int.toNat_natCast] at fl;generalize unl (!decide (0 < (qat s.q f).length)) 13=A2 at *;clear f0 e;have tJ:(if (f:Int) < 0 then 0 else (f:Int))=f:=if_neg (by omega);refine fi Tryz.func224 rfl (by kernel_rfl) rfl (fun _=>by kernel_rfl) fun M0 w0 vs=>?_;simp only [Tryz.ntmps224,Tryz.results224,aF];unfold ct;repeat' first|(with_reducible first|apply af|apply ae|apply aZ|apply ax|apply aa|refine ah [] ?_|apply aT|(apply aw;·go_simp))|((with_reducible first|apply ab|apply aU);intro Y Z;go_simp;(first|(refine ⟨_,⟨g1,rfl⟩,?_⟩)|(refine ⟨_,⟨g2,rfl⟩,?_⟩)|(with_reducible refine ⟨_,q1,?_⟩)|(with_reducible refine ⟨_,q2,?_⟩)|(with_reducible refine ⟨_,q3,?_⟩)|(refine ⟨_,g5,?_⟩)|skip);apply Z;clear Z Y)|((refine bc 11 11 [] rfl (by kernel_rfl) ?_);simp only [az])|((refine bc 14 14 [] rfl (by kernel_rfl) ?_);simp only [az])
  go_simp
theorem K4 (r:Ru) (s:St) (mv:List Sg) (n1 n2:Bool) (x:Ev) (k:Nat) (hx:x.rank=k) (hk:k < s.q.length) (hr:r.ranks.length=s.q.length) (ie:s.q.length≤1000000) (dJ:∀ k,k < s.q.length→(qat s.q k).length≤1000000) (hl:s.tk.length≤1000000) (iz:(rat r.ranks k).feeder = -1) (ht:eK s.tk x.car < 0) (h0:iT r s x k=0) :
  VH Tryz.prog 224 (ct r s mv n1 n2) [.ref 0 0,evA x] [0] (ct r ⟨s.q.set k (qat s.q k++[x.car]),s.tk,s.time⟩ mv n1 n2) (I 0):=by
 have cA:k < r.ranks.length:=by omega
 have tK:=dJ k hk;have rZ:(qat s.q k).length≤999999999:=by omega
 have g1:=uD r s mv x.car ie dJ;clear dJ;obtain ⟨sa,sb,es⟩:=vw s.q x.car;rw [es] at g1;clear es;have g2:=oL r s mv k hk hr;have q1:=bN (!decide (0≤eb s.q x.car)) 5;have q2:=bN (!iL r s k) 13;have q3:=bN (ch r s k) 16;have g5:VC Tryz.prog 88 [.sl 1 ([unl (!decide (0≤eb s.q x.car)) 5,unl (!iL r s k) 13,unl (ch r s k) 16].map eJ)] (I (iT r s x k)):=fP _ rfl rfl;rw [h0] at g5;clear h0;unfold iL feedN at *;generalize decide (0≤eb s.q x.car)=D at *;generalize unl (!D) 5=A1 at *;generalize unl (ch r s k) 16=A3 at *;generalize ch r s k=F at *;have g6:=qm r ⟨s.q.set k (qat s.q k++[x.car]),s.tk,s.time⟩ mv x.car hl;simp only at g6;have e:(decide ((rat r.ranks k).feeder≠-1)&&decide (0 < (qat s.q (rat r.ranks k).feeder.toNat).length))=false:=by simp [iz]
 rw [e,Bool.not_false] at q2 g5;generalize unl true 13=A2 at *;clear e;generalize eK s.tk x.car=A at *;obtain ⟨kd,tm,rk,car⟩:=x;simp only at hx g1 g6;subst hx;simp only [evA];refine fi Tryz.func224 rfl (by kernel_rfl) rfl (fun _=>by kernel_rfl) fun M0 w0 vs=>?_;simp only [Tryz.ntmps224,Tryz.results224,aF];unfold ct;repeat' first|(with_reducible first|apply af|apply ae|apply aa|refine ah [] ?_)|((with_reducible apply ab);intro Y Z;go_simp;(first|(refine ⟨_,⟨g1,rfl⟩,?_⟩)|skip);apply Z;clear Z Y)
 refine bc 11 11 [] rfl (by kernel_rfl) ?_;simp only [az];repeat' with_reducible first|apply af|apply ae|apply aa|apply aT|(apply aU;intro Y Z;go_simp;apply Z;clear Z Y)
 refine ah [] ?_;repeat' with_reducible first|apply af|apply ae|apply aa|(apply ab;intro Y Z;go_simp;apply Z;clear Z Y)
 refine bc 14 14 [] rfl (by kernel_rfl) ?_;simp only [az];repeat' first|(with_reducible first|apply af|apply ae|apply aa|apply aT)|((with_reducible apply aU);intro Y Z;go_simp;(first|(refine ⟨_,⟨g2,rfl⟩,?_⟩)|(with_reducible refine ⟨_,q1,?_⟩)|(with_reducible refine ⟨_,q2,?_⟩)|(with_reducible refine ⟨_,q3,?_⟩)|(refine ⟨_,g5,?_⟩)|skip);apply Z;clear Z Y)
 refine ah [] ?_;repeat' with_reducible first|apply af|apply ae|apply au|apply aa|(apply ar;·go_simp)|(apply ab;intro Y Z;go_simp;apply Z;clear Z Y)
 refine mJ 19 [0,59,59,60,60,61,61,62,62,63,3,64,64,65] (by kernel_rfl) (by kernel_rfl) (by kernel_rfl) (unW 1) (nE 1) rfl ⟨rfl,rfl⟩ ?_;simp only [List.take];repeat' with_reducible first|apply aT|(apply aU;intro Y Z;go_simp;apply Z;clear Z Y)
 refine ⟨_,_,tg (id:=1) (k:=k) (es:=(qat s.q k).map bK) (c:=S car) (by exact rfl) (by exact rfl) (by go_simp) (by go_simp) rM ti9 (by exact rfl) (by go_simp),?_,?_,?_⟩
 ·simp only [List.forall_mem_cons];go_simp
 ·repeat' with_reducible first|apply aT|(apply aU;intro Y Z;go_simp;apply Z;clear Z Y)
  simp only [List.forall_mem_cons];go_simp
 go_simp;refine ca [] 2 ⟨rfl,rfl⟩ ?_;simp only [az];repeat' with_reducible first|apply aa|(apply ab;intro Y Z;go_simp;apply Z;clear Z Y)
 apply dA;repeat' with_reducible first|apply af|apply ae
 rw [rL,lu];refine ah [] ?_;repeat' first|(with_reducible first|apply af|apply ae|apply aa)|((with_reducible apply ab);intro Y Z;go_simp;(first|(refine ⟨_,⟨g6,rfl⟩,?_⟩)|skip);apply Z;clear Z Y)
 refine ah [] ?_;repeat' with_reducible first|apply af|apply ae|apply au|apply aa|(apply ar;·go_simp)|(apply ab;intro Y Z;go_simp;apply Z;clear Z Y)
 refine ah [] ?_;repeat' with_reducible first|apply ae|apply ax|apply aa|(apply ab;intro Y Z;go_simp;apply Z;clear Z Y)
 go_simp
theorem K5 (r:Ru) (s:St) (mv:List Sg) (n1 n2:Bool) (x:Ev) (k:Nat) (hx:x.rank=k) (hk:k < s.q.length) (hr:r.ranks.length=s.q.length) (ie:s.q.length≤1000000) (dJ:∀ k,k < s.q.length→(qat s.q k).length≤1000000) (hl:s.tk.length≤1000000) (iz:(rat r.ranks k).feeder = -1) (i:Nat) (ht:eK s.tk x.car=i) (cz:i < s.tk.length) (h0:iT r s x k=0) :
  VH Tryz.prog 224 (ct r s mv n1 n2) [.ref 0 0,evA x] [0] (ct r ⟨s.q.set k (qat s.q k++[x.car]),s.tk.eraseIdx i,s.time⟩ mv false n2) (I 0):=by
 have cA:k < r.ranks.length:=by omega
 have tK:=dJ k hk;have rZ:(qat s.q k).length≤999999999:=by omega
 have g1:=uD r s mv x.car ie dJ;clear dJ;obtain ⟨sa,sb,es⟩:=vw s.q x.car;rw [es] at g1;clear es;have g2:=oL r s mv k hk hr;have q1:=bN (!decide (0≤eb s.q x.car)) 5;have q2:=bN (!iL r s k) 13;have q3:=bN (ch r s k) 16;have g5:VC Tryz.prog 88 [.sl 1 ([unl (!decide (0≤eb s.q x.car)) 5,unl (!iL r s k) 13,unl (ch r s k) 16].map eJ)] (I (iT r s x k)):=fP _ rfl rfl;rw [h0] at g5;clear h0;unfold iL feedN at *;generalize decide (0≤eb s.q x.car)=D at *;generalize unl (!D) 5=A1 at *;generalize unl (ch r s k) 16=A3 at *;generalize ch r s k=F at *;have g6:=qm r ⟨s.q.set k (qat s.q k++[x.car]),s.tk,s.time⟩ mv x.car hl;simp only at g6;have e:(decide ((rat r.ranks k).feeder≠-1)&&decide (0 < (qat s.q (rat r.ranks k).feeder.toNat).length))=false:=by simp [iz]
 rw [e,Bool.not_false] at q2 g5;generalize unl true 13=A2 at *;clear e;rw [ht] at g6;clear ht;have gd:=Bp (s.tk.map Tk.av) n1 i (by simpa using cz);rw [yl] at gd;generalize s.tk.eraseIdx i=TK at *;obtain ⟨w1,w2,w3,w4,w5,w6⟩:=ixs (m:=i) (by omega);obtain ⟨kd,tm,rk,car⟩:=x;simp only at hx g1 g6;subst hx;simp only [evA];refine fi Tryz.func224 rfl (by kernel_rfl) rfl (fun _=>by kernel_rfl) fun M0 w0 vs=>?_;simp only [Tryz.ntmps224,Tryz.results224,aF];unfold ct;repeat' first|(with_reducible first|apply af|apply ae|apply aa|refine ah [] ?_)|((with_reducible apply ab);intro Y Z;go_simp;(first|(refine ⟨_,⟨g1,rfl⟩,?_⟩)|skip);apply Z;clear Z Y)
 refine bc 11 11 [] rfl (by kernel_rfl) ?_;simp only [az];repeat' with_reducible first|apply af|apply ae|apply aa|apply aT|(apply aU;intro Y Z;go_simp;apply Z;clear Z Y)
 refine ah [] ?_;repeat' with_reducible first|apply af|apply ae|apply aa|(apply ab;intro Y Z;go_simp;apply Z;clear Z Y)
 refine bc 14 14 [] rfl (by kernel_rfl) ?_;simp only [az];repeat' first|(with_reducible first|apply af|apply ae|apply aa|apply aT)|((with_reducible apply aU);intro Y Z;go_simp;(first|(refine ⟨_,⟨g2,rfl⟩,?_⟩)|(with_reducible refine ⟨_,q1,?_⟩)|(with_reducible refine ⟨_,q2,?_⟩)|(with_reducible refine ⟨_,q3,?_⟩)|(refine ⟨_,g5,?_⟩)|skip);apply Z;clear Z Y)
 refine ah [] ?_;repeat' with_reducible first|apply af|apply ae|apply au|apply aa|(apply ar;·go_simp)|(apply ab;intro Y Z;go_simp;apply Z;clear Z Y)
 refine mJ 19 [0,59,59,60,60,61,61,62,62,63,3,64,64,65] (by kernel_rfl) (by kernel_rfl) (by kernel_rfl) (unW 1) (nE 1) rfl ⟨rfl,rfl⟩ ?_;simp only [List.take];repeat' with_reducible first|apply aT|(apply aU;intro Y Z;go_simp;apply Z;clear Z Y)
 refine ⟨_,_,tg (id:=1) (k:=k) (es:=(qat s.q k).map bK) (c:=S car) (by exact rfl) (by exact rfl) (by go_simp) (by go_simp) rM ti9 (by exact rfl) (by go_simp),?_,?_,?_⟩
 ·simp only [List.forall_mem_cons];go_simp
 ·repeat' with_reducible first|apply aT|(apply aU;intro Y Z;go_simp;apply Z;clear Z Y)
  simp only [List.forall_mem_cons];go_simp
 go_simp;refine ca [] 2 ⟨rfl,rfl⟩ ?_;simp only [az];repeat' with_reducible first|apply aa|(apply ab;intro Y Z;go_simp;apply Z;clear Z Y)
 apply dA;repeat' with_reducible first|apply af|apply ae
 rw [rL,lu];refine ah [] ?_;repeat' first|(with_reducible first|apply af|apply ae|apply aa)|((with_reducible apply ab);intro Y Z;go_simp;(first|(refine ⟨_,⟨g6,rfl⟩,?_⟩)|skip);apply Z;clear Z Y)
 refine ah [] ?_;repeat' with_reducible first|apply ae|apply aa|(apply aw;·go_simp)|(apply ab;intro Y Z;go_simp;apply Z;clear Z Y)
 refine fB (ca [] 9 ⟨rfl,rfl⟩ ?_);simp only [az];repeat' with_reducible first|apply aa|(apply ab;intro Y Z;go_simp;apply Z;clear Z Y)
 refine Au (fun p a w R=>⟨_,Rel.deadCell R (bi:=0) (j:=1) (r:=2) rfl rfl⟩) ?_;simp only [List.set];refine fJ [2] [] [] [some (.arr 148 3 false (TK.map Tk.av))] (.osl 0) rfl (by go_simp) ?_ ?_
 ·unfold fk;go_simp;refine ⟨_,_,⟨_,gd⟩,?_⟩;go_simp;kernel_rfl
 go_simp;refine ca [] 4 ⟨rfl,rfl⟩ ?_;simp only [az];repeat' with_reducible first|apply aa|(apply ab;intro Y Z;go_simp;apply Z;clear Z Y)
 apply dA;repeat' with_reducible first|apply af|apply ae
 refine ah [] ?_;repeat' with_reducible first|apply ae|apply ax|apply aa|(apply ab;intro Y Z;go_simp;apply Z;clear Z Y)
 go_simp
theorem K6 (r:Ru) (s:St) (mv:List Sg) (n1 n2:Bool) (x:Ev) (k:Nat) (hx:x.rank=k) (hk:k < s.q.length) (hr:r.ranks.length=s.q.length) (ie:s.q.length≤1000000) (dJ:∀ k,k < s.q.length→(qat s.q k).length≤1000000) (hl:s.tk.length≤1000000) (f:Nat) (iz:(rat r.ranks k).feeder=f) (fl:f < s.q.length) (ht:eK s.tk x.car < 0) (h0:iT r s x k=0) :
  VH Tryz.prog 224 (ct r s mv n1 n2) [.ref 0 0,evA x] [0] (ct r ⟨s.q.set k (qat s.q k++[x.car]),s.tk,s.time⟩ mv n1 n2) (I 0):=by
 have cA:k < r.ranks.length:=by omega
 have tK:=dJ k hk;have rZ:(qat s.q k).length≤999999999:=by omega
 have g1:=uD r s mv x.car ie dJ;clear dJ;obtain ⟨sa,sb,es⟩:=vw s.q x.car;rw [es] at g1;clear es;have g2:=oL r s mv k hk hr;have q1:=bN (!decide (0≤eb s.q x.car)) 5;have q2:=bN (!iL r s k) 13;have q3:=bN (ch r s k) 16;have g5:VC Tryz.prog 88 [.sl 1 ([unl (!decide (0≤eb s.q x.car)) 5,unl (!iL r s k) 13,unl (ch r s k) 16].map eJ)] (I (iT r s x k)):=fP _ rfl rfl;rw [h0] at g5;clear h0;unfold iL feedN at *;generalize decide (0≤eb s.q x.car)=D at *;generalize unl (!D) 5=A1 at *;generalize unl (ch r s k) 16=A3 at *;generalize ch r s k=F at *;have g6:=qm r ⟨s.q.set k (qat s.q k++[x.car]),s.tk,s.time⟩ mv x.car hl;simp only at g6;have h1:(f:Int)≠-1:=by omega
 have e:(decide ((rat r.ranks k).feeder≠-1)&&decide (0 < (qat s.q (rat r.ranks k).feeder.toNat).length))=decide (0 < (qat s.q f).length):=by
  rw [iz,decide_eq_true h1,Bool.true_and,Int.toNat_natCast]
 rw [e] at q2 g5;generalize unl (!decide (0 < (qat s.q f).length)) 13=A2 at *;clear e;have tJ:(if (f:Int) < 0 then 0 else (f:Int))=f:=if_neg (by omega);generalize eK s.tk x.car=A at *;obtain ⟨kd,tm,rk,car⟩:=x;simp only at hx g1 g6;subst hx;simp only [evA];refine fi Tryz.func224 rfl (by kernel_rfl) rfl (fun _=>by kernel_rfl) fun M0 w0 vs=>?_;simp only [Tryz.ntmps224,Tryz.results224,aF];unfold ct;repeat' first|(with_reducible first|apply af|apply ae|apply aa|refine ah [] ?_)|((with_reducible apply ab);intro Y Z;go_simp;(first|(refine ⟨_,⟨g1,rfl⟩,?_⟩)|skip);apply Z;clear Z Y)
 refine bc 11 11 [] rfl (by kernel_rfl) ?_;simp only [az];repeat' with_reducible first|apply af|apply ae|apply aa|apply aT|(apply aU;intro Y Z;go_simp;apply Z;clear Z Y)
 refine ah [] ?_;repeat' with_reducible first|apply af|apply ae|apply aa|(apply ab;intro Y Z;go_simp;apply Z;clear Z Y)
 refine bc 14 14 [] rfl (by kernel_rfl) ?_;simp only [az];repeat' first|(with_reducible first|apply af|apply ae|apply aa|apply aT)|((with_reducible apply aU);intro Y Z;go_simp;(first|(refine ⟨_,⟨g2,rfl⟩,?_⟩)|(with_reducible refine ⟨_,q1,?_⟩)|(with_reducible refine ⟨_,q2,?_⟩)|(with_reducible refine ⟨_,q3,?_⟩)|(refine ⟨_,g5,?_⟩)|skip);apply Z;clear Z Y)
 refine ah [] ?_;repeat' with_reducible first|apply af|apply ae|apply au|apply aa|(apply ar;·go_simp)|(apply ab;intro Y Z;go_simp;apply Z;clear Z Y)
 refine mJ 19 [0,59,59,60,60,61,61,62,62,63,3,64,64,65] (by kernel_rfl) (by kernel_rfl) (by kernel_rfl) (unW 1) (nE 1) rfl ⟨rfl,rfl⟩ ?_;simp only [List.take];repeat' with_reducible first|apply aT|(apply aU;intro Y Z;go_simp;apply Z;clear Z Y)
 refine ⟨_,_,tg (id:=1) (k:=k) (es:=(qat s.q k).map bK) (c:=S car) (by exact rfl) (by exact rfl) (by go_simp) (by go_simp) rM ti9 (by exact rfl) (by go_simp),?_,?_,?_⟩
 ·simp only [List.forall_mem_cons];go_simp
 ·repeat' with_reducible first|apply aT|(apply aU;intro Y Z;go_simp;apply Z;clear Z Y)
  simp only [List.forall_mem_cons];go_simp
 go_simp;refine ca [] 2 ⟨rfl,rfl⟩ ?_;simp only [az];repeat' with_reducible first|apply aa|(apply ab;intro Y Z;go_simp;apply Z;clear Z Y)
 apply dA;repeat' with_reducible first|apply af|apply ae
 rw [rL,lu];refine ah [] ?_;repeat' first|(with_reducible first|apply af|apply ae|apply aa)|((with_reducible apply ab);intro Y Z;go_simp;(first|(refine ⟨_,⟨g6,rfl⟩,?_⟩)|skip);apply Z;clear Z Y)
 refine ah [] ?_;repeat' with_reducible first|apply af|apply ae|apply au|apply aa|(apply ar;·go_simp)|(apply ab;intro Y Z;go_simp;apply Z;clear Z Y)
 refine ah [] ?_;repeat' with_reducible first|apply ae|apply ax|apply aa|(apply ab;intro Y Z;go_simp;apply Z;clear Z Y)
 go_simp
theorem K7 (r:Ru) (s:St) (mv:List Sg) (n1 n2:Bool) (x:Ev) (k:Nat) (hx:x.rank=k) (hk:k < s.q.length) (hr:r.ranks.length=s.q.length) (ie:s.q.length≤1000000) (dJ:∀ k,k < s.q.length→(qat s.q k).length≤1000000) (hl:s.tk.length≤1000000) (f:Nat) (iz:(rat r.ranks k).feeder=f) (fl:f < s.q.length) (i:Nat) (ht:eK s.tk x.car=i) (cz:i < s.tk.length) (h0:iT r s x k=0) :
  VH Tryz.prog 224 (ct r s mv n1 n2) [.ref 0 0,evA x] [0] (ct r ⟨s.q.set k (qat s.q k++[x.car]),s.tk.eraseIdx i,s.time⟩ mv false n2) (I 0):=by
 have cA:k < r.ranks.length:=by omega
 have tK:=dJ k hk;have rZ:(qat s.q k).length≤999999999:=by omega
 have g1:=uD r s mv x.car ie dJ;clear dJ;obtain ⟨sa,sb,es⟩:=vw s.q x.car;rw [es] at g1;clear es;have g2:=oL r s mv k hk hr;have q1:=bN (!decide (0≤eb s.q x.car)) 5;have q2:=bN (!iL r s k) 13;have q3:=bN (ch r s k) 16;have g5:VC Tryz.prog 88 [.sl 1 ([unl (!decide (0≤eb s.q x.car)) 5,unl (!iL r s k) 13,unl (ch r s k) 16].map eJ)] (I (iT r s x k)):=fP _ rfl rfl;rw [h0] at g5;clear h0;unfold iL feedN at *;generalize decide (0≤eb s.q x.car)=D at *;generalize unl (!D) 5=A1 at *;generalize unl (ch r s k) 16=A3 at *;generalize ch r s k=F at *;have g6:=qm r ⟨s.q.set k (qat s.q k++[x.car]),s.tk,s.time⟩ mv x.car hl;simp only at g6;have h1:(f:Int)≠-1:=by omega
 have e:(decide ((rat r.ranks k).feeder≠-1)&&decide (0 < (qat s.q (rat r.ranks k).feeder.toNat).length))=decide (0 < (qat s.q f).length):=by
  rw [iz,decide_eq_true h1,Bool.true_and,Int.toNat_natCast]
 rw [e] at q2 g5;generalize unl (!decide (0 < (qat s.q f).length)) 13=A2 at *;clear e;have tJ:(if (f:Int) < 0 then 0 else (f:Int))=f:=if_neg (by omega);rw [ht] at g6;clear ht;have gd:=Bp (s.tk.map Tk.av) n1 i (by simpa using cz);rw [yl] at gd;generalize s.tk.eraseIdx i=TK at *;obtain ⟨w1,w2,w3,w4,w5,w6⟩:=ixs (m:=i) (by omega);obtain ⟨kd,tm,rk,car⟩:=x;simp only at hx g1 g6;subst hx;simp only [evA];refine fi Tryz.func224 rfl (by kernel_rfl) rfl (fun _=>by kernel_rfl) fun M0 w0 vs=>?_;simp only [Tryz.ntmps224,Tryz.results224,aF];unfold ct;repeat' first|(with_reducible first|apply af|apply ae|apply aa|refine ah [] ?_)|((with_reducible apply ab);intro Y Z;go_simp;(first|(refine ⟨_,⟨g1,rfl⟩,?_⟩)|skip);apply Z;clear Z Y)
 refine bc 11 11 [] rfl (by kernel_rfl) ?_;simp only [az];repeat' with_reducible first|apply af|apply ae|apply aa|apply aT|(apply aU;intro Y Z;go_simp;apply Z;clear Z Y)
 refine ah [] ?_;repeat' with_reducible first|apply af|apply ae|apply aa|(apply ab;intro Y Z;go_simp;apply Z;clear Z Y)
 refine bc 14 14 [] rfl (by kernel_rfl) ?_;simp only [az];repeat' first|(with_reducible first|apply af|apply ae|apply aa|apply aT)|((with_reducible apply aU);intro Y Z;go_simp;(first|(refine ⟨_,⟨g2,rfl⟩,?_⟩)|(with_reducible refine ⟨_,q1,?_⟩)|(with_reducible refine ⟨_,q2,?_⟩)|(with_reducible refine ⟨_,q3,?_⟩)|(refine ⟨_,g5,?_⟩)|skip);apply Z;clear Z Y)
 refine ah [] ?_;repeat' with_reducible first|apply af|apply ae|apply au|apply aa|(apply ar;·go_simp)|(apply ab;intro Y Z;go_simp;apply Z;clear Z Y)
 refine mJ 19 [0,59,59,60,60,61,61,62,62,63,3,64,64,65] (by kernel_rfl) (by kernel_rfl) (by kernel_rfl) (unW 1) (nE 1) rfl ⟨rfl,rfl⟩ ?_;simp only [List.take];repeat' with_reducible first|apply aT|(apply aU;intro Y Z;go_simp;apply Z;clear Z Y)
 refine ⟨_,_,tg (id:=1) (k:=k) (es:=(qat s.q k).map bK) (c:=S car) (by exact rfl) (by exact rfl) (by go_simp) (by go_simp) rM ti9 (by exact rfl) (by go_simp),?_,?_,?_⟩
 ·simp only [List.forall_mem_cons];go_simp
 ·repeat' with_reducible first|apply aT|(apply aU;intro Y Z;go_simp;apply Z;clear Z Y)
  simp only [List.forall_mem_cons];go_simp
 go_simp;refine ca [] 2 ⟨rfl,rfl⟩ ?_;simp only [az];repeat' with_reducible first|apply aa|(apply ab;intro Y Z;go_simp;apply Z;clear Z Y)
 apply dA;repeat' with_reducible first|apply af|apply ae
 rw [rL,lu];refine ah [] ?_;repeat' first|(with_reducible first|apply af|apply ae|apply aa)|((with_reducible apply ab);intro Y Z;go_simp;(first|(refine ⟨_,⟨g6,rfl⟩,?_⟩)|skip);apply Z;clear Z Y)
 refine ah [] ?_;repeat' with_reducible first|apply ae|apply aa|(apply aw;·go_simp)|(apply ab;intro Y Z;go_simp;apply Z;clear Z Y)
 refine fB (ca [] 9 ⟨rfl,rfl⟩ ?_);simp only [az];repeat' with_reducible first|apply aa|(apply ab;intro Y Z;go_simp;apply Z;clear Z Y)
 refine Au (fun p a w R=>⟨_,Rel.deadCell R (bi:=0) (j:=1) (r:=2) rfl rfl⟩) ?_;simp only [List.set];refine fJ [2] [] [] [some (.arr 148 3 false (TK.map Tk.av))] (.osl 0) rfl (by go_simp) ?_ ?_
 ·unfold fk;go_simp;refine ⟨_,_,⟨_,gd⟩,?_⟩;go_simp;kernel_rfl
 go_simp;refine ca [] 4 ⟨rfl,rfl⟩ ?_;simp only [az];repeat' with_reducible first|apply aa|(apply ab;intro Y Z;go_simp;apply Z;clear Z Y)
 apply dA;repeat' with_reducible first|apply af|apply ae
 refine ah [] ?_;repeat' with_reducible first|apply ae|apply ax|apply aa|(apply ab;intro Y Z;go_simp;apply Z;clear Z Y)
 go_simp
theorem Fu (r:Ru) (x:Ev) (hn:r.ranks.length≤1000000) (hc:x.car.size≤1000) : VC Tryz.prog 117 [cY r,evA x] (I (evE r x)):=by
 have i1:=jS x.kind 0 5;have i2:=jS x.time 0 604800;have i3:=jS x.rank 0 ((r.ranks.length:Int) - 1);have i4:=rp x.car hc;have u1:=bN (inR x.kind 0 5) 15;have u2:=bN (inR x.time 0 604800) 2;have u3:=bN (inR x.rank 0 ((r.ranks.length:Int) - 1)) 6;have u4:=bN (!decide (x.kind=4) || decide (x.car=ByteArray.empty)) 3;have u5:=bN (decide (x.kind=4) || cu x.car) 4;have g5:VC Tryz.prog 88 [.sl 1 ([unl (inR x.kind 0 5) 15,unl (inR x.time 0 604800) 2,unl (inR x.rank 0 ((r.ranks.length:Int) - 1)) 6,unl (!decide (x.kind=4) || decide (x.car=ByteArray.empty)) 3,unl (decide (x.kind=4) || cu x.car) 4].map eJ)] (I (evE r x)):=fP _ rfl rfl;have hw:IntKind.i64.wrap ((r.ranks.length:Int) - 1)=(r.ranks.length:Int) - 1:=iu (by omega) (by omega);generalize evE r x=E at *;generalize inR x.kind 0 5=D1 at *;generalize inR x.time 0 604800=D2 at *;generalize inR x.rank 0 ((r.ranks.length:Int) - 1)=D3 at *;generalize cu x.car=D5 at *;generalize unl D1 15=A1 at *;generalize unl D2 2=A2 at *;generalize unl D3 6=A3 at *;by_cases h4:x.kind=4
 ·rw [h4] at i1;rw [decide_eq_true h4,Bool.not_true,Bool.false_or] at u4;rw [decide_eq_true h4,Bool.true_or] at u5;rw [decide_eq_true h4,Bool.not_true,Bool.false_or,Bool.true_or] at g5;generalize unl true 4=A5 at *;have he:(ByteArray.empty:ByteArray)=⟨#[]⟩:=rfl;rw [he] at u4 g5;generalize unl (decide (x.car=⟨#[]⟩)) 3=A4 at *;clear he;refine aP Tryz.func117 rfl (by kernel_rfl) rfl fun M0 w0=>?_;simp only [Tryz.ntmps117,Tryz.results117,aF];repeat' first|(with_reducible first|apply af|apply ae|apply ax|apply aa|refine ah [] ?_|apply aT)|((with_reducible first|apply ab|apply aU);intro Y Z;go_simp;(first|(with_reducible refine ⟨_,i1,?_⟩)|(with_reducible refine ⟨_,i2,?_⟩)|(with_reducible refine ⟨_,i3,?_⟩)|(with_reducible refine ⟨_,u1,?_⟩)|(with_reducible refine ⟨_,u2,?_⟩)|(with_reducible refine ⟨_,u3,?_⟩)|(with_reducible refine ⟨_,u4,?_⟩)|(with_reducible refine ⟨_,u5,?_⟩)|(refine ⟨_,g5,?_⟩)|skip);apply Z;clear Z Y)|((refine bc 34 34 [] rfl (by kernel_rfl) ?_);simp only [az])
  go_simp
 ·rw [decide_eq_false h4,Bool.not_false,Bool.true_or] at u4;rw [decide_eq_false h4,Bool.false_or] at u5;rw [decide_eq_false h4,Bool.not_false,Bool.true_or,Bool.false_or] at g5;generalize unl true 3=A4 at *;generalize unl D5 4=A5 at *;refine aP Tryz.func117 rfl (by kernel_rfl) rfl fun M0 w0=>?_;simp only [Tryz.ntmps117,Tryz.results117,aF];repeat' first|(with_reducible first|apply af|apply ae|apply ax|apply aa|refine ah [] ?_|apply aT)|((with_reducible first|apply ab|apply aU);intro Y Z;go_simp;(first|(with_reducible refine ⟨_,i1,?_⟩)|(with_reducible refine ⟨_,i2,?_⟩)|(with_reducible refine ⟨_,i3,?_⟩)|(with_reducible refine ⟨_,i4,?_⟩)|(with_reducible refine ⟨_,u1,?_⟩)|(with_reducible refine ⟨_,u2,?_⟩)|(with_reducible refine ⟨_,u3,?_⟩)|(with_reducible refine ⟨_,u4,?_⟩)|(with_reducible refine ⟨_,u5,?_⟩)|(refine ⟨_,g5,?_⟩)|skip);apply Z;clear Z Y)|((refine bc 34 34 [] rfl (by kernel_rfl) ?_);simp only [az])
  go_simp
end Go.Proofs.YtoibondihdhnoaaGreatDoor
