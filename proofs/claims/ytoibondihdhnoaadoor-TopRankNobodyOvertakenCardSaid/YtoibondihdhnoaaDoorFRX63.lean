/- Texts in one: Chapter 4: first come, first served; no condition. -/
import Derived.Test.YtoibondihdhnoaaDoorFRX34
namespace Go.Proofs.YtoibondihdhnoaaDoor
open Go.RowKit
def b7f (r:Ru) (n:Nat) : Prop:=(rat r.ranks n).feeder = -1∧∀ k,k < r.ranks.length→(rat r.ranks k).feeder≠n
theorem b5h {r:Ru} {s:St} (hr:RuOK r) (hl:s.q.length=r.ranks.length) {n k:Nat} (ha:b7f r n) (hk:k < r.ranks.length) (hf:(rat r.ranks k).feeder≠-1) : qat (upS r s k).q n=qat s.q n:=by
 obtain ⟨g1,g2,g3⟩:=hr.feedN hk hf;have h1:n≠k:=fun h=>hf (h▸ha.1);have h2:n≠feedN r k:=fun h=>ha.2 k hk (by rw [g1,h]);show qat (upQ s.q k (feedN r k)) n=_;unfold upQ;rw [j8_ (by simp;omega),if_neg h1,j8_ (by omega),if_neg h2]
theorem a7i {r:Ru} (hr:RuOK r) {n:Nat} (ha:b7f r n) : ∀ (m:Nat) (s:St) (g:List Sg),s.q.length=r.ranks.length→qat (n2_ r m s g).1.q n=qat s.q n
 | 0,_,_,_=>rfl
 | m+1,s,g,hl=>by
  rw [n2_];split
  ·rfl
  ·rename_i hn;obtain ⟨k,e,hk,hp⟩:=l7_ hn;rw [e,Int.toNat_natCast];obtain ⟨h1,h2,h3⟩:=j1_ hp;rw [a7i hr ha m _ _ (by show (upQ _ _ _).length=_;rw [a7x,hl]),b5h hr hl ha hk h1]
theorem c9o (r:Ru) (s:St) (x:Ev) (k:Nat) : (doS r s x k).q.length=s.q.length:=by
 unfold doS a3b a3r a0j a3t upS b5x;split
 ·simp
 ·split
  ·simp
  ·split
   ·simp
   ·split
    ·simp
    ·split
     ·exact a7x _ _ _
     ·simp
theorem c5d {r:Ru} {s:St} (hr:RuOK r) (hl:s.q.length=r.ranks.length) {n:Nat} (ha:b7f r n) (x:Ev) : qat (apU r s x).1.q n=qat (doS r s x x.rank.toNat).q n:=
 a7i hr ha _ _ _ (by show (doS r s x x.rank.toNat).q.length=_;rw [c9o,hl])
def d2_ (a:List Sy) (p:Nat) : Sy:=a.getD p default
theorem a4k {a:List Sy} {p:Nat} (h:p < a.length) : d2_ a p=a[p]:=by simp [d2_,h]
def a7j (log:List Ev) (y:Sy) : Int:=(e6_ log y.came.toNat).rank
def BefS (log:List Ev) (a:List Sy) (n:Nat) (c d:ByteArray) : Prop:=
 ∀ p p',p < a.length→p' < a.length→(d2_ a p).car=c→(d2_ a p).went = -1→(d2_ a p).decl=0→a7j log (d2_ a p)=n→(d2_ a p').car=d→(d2_ a p').went = -1→(d2_ a p').decl=0→a7j log (d2_ a p')=n→p < p'
structure X (log:List Ev) (n i:Nat) (q:List (List ByteArray)) (a:List Sy) : Prop where
 opn:∀ p,p < a.length→(d2_ a p).went = -1→a4f (d2_ a p).car 0 a=p∧(d2_ a p).car∈q.flatten
 lst:∀ c∈q.flatten,∃ p,p < a.length∧(d2_ a p).car=c∧(d2_ a p).went = -1
 here:∀ p,p < a.length→(d2_ a p).went = -1→a7j log (d2_ a p)=n→(d2_ a p).car∈qat q n
 ord:(qat q n).Pairwise (BefS log a n)
 bnd:∀ p,p < a.length→0≤(d2_ a p).came∧(d2_ a p).came < i∧-1≤(d2_ a p).went∧(d2_ a p).went < i∧0≤(d2_ a p).decl
 srv:∀ p p',p < p'→p' < a.length→a7j log (d2_ a p)=n→a7j log (d2_ a p')=n→(d2_ a p).decl=0→(d2_ a p').decl=0→0≤(d2_ a p').went→(e6_ log (d2_ a p').went.toNat).kind=1→0≤(d2_ a p).went∧(d2_ a p).went < (d2_ a p').went
theorem r6_ {a:List Sy} {z:Sy} {p:Nat} (h:p < a.length) : d2_ (a++[z]) p=d2_ a p:=by
 unfold d2_;rw [List.getD_eq_getElem?_getD,List.getElem?_append_left h,List.getD_eq_getElem?_getD]
theorem s8_ {a:List Sy} {z:Sy} : d2_ (a++[z]) a.length=z:=by simp [d2_]
theorem m6_ {a:List Sy} {z:Sy} {j p:Nat} (hj:j < a.length) : d2_ (a.set j z) p=if p=j then z else d2_ a p:=by
 unfold d2_;rw [List.getD_eq_getElem?_getD,List.getElem?_set];split
 ·rename_i h;subst h;simp
 ·rename_i h;rw [if_neg (Ne.symm h),List.getD_eq_getElem?_getD]
theorem X.queues {log:List Ev} {n i i':Nat} {q q':List (List ByteArray)} {a:List Sy} (K:X log n i q a) (hi:i≤i') (hc:∀ c,c∈q'.flatten↔c∈q.flatten) (hn:qat q' n=qat q n) : X log n i' q' a:=
 ⟨fun p hp hw=>⟨(K.opn p hp hw).1,(hc _).2 (K.opn p hp hw).2⟩,fun c h=>K.lst c ((hc c).1 h),fun p hp hw hr=>by rw [hn];exact K.here p hp hw hr,by rw [hn];exact K.ord,fun p hp=>by
  have:=K.bnd p hp;omega,K.srv⟩
theorem X.arrive {log:List Ev} {n i k:Nat} {q:List (List ByteArray)} {a:List Sy} (K:X log n i q a) (hk:k < q.length) {c:ByteArray} (hc:c∉q.flatten) (hx:(e6_ log i).rank=k) : X log n (i+1) (q.set k (qat q k++[c])) (a++[⟨c,i,-1,0⟩]):=by
 have hfl:∀ d,d∈(q.set k (qat q k++[c])).flatten↔d∈q.flatten∨d=c:=fun d=>by
  have g:=e0_ hk (qat q k++[c]) d;rw [h1_,e4_,j0_] at g;rw [←e9_,←e9_];by_cases he:c=d
  ·rw [if_pos he] at g;exact ⟨fun _=>.inr he.symm,fun _=>by omega⟩
  ·rw [if_neg he] at g;refine ⟨fun h=>.inl (by omega),fun h=>?_⟩;rcases h with h|h
   ·omega
   ·exact absurd h.symm he
 have hopen:∀ p,p < a.length→(d2_ a p).went = -1→(d2_ a p).car≠c:=fun p hp hw he=>hc (he▸(K.opn p hp hw).2);have hpl:∀ p,p < (a++[(⟨c,i,-1,0⟩ : Sy)]).length→p < a.length∨p=a.length:=fun p hp=>by
  rw [List.length_append,List.length_singleton] at hp;omega
 have hnew:a7j log ⟨c,i,-1,0⟩=k:=by
  unfold a7j;simpa using hx
 have hmem:∀ d∈qat q n,d≠c:=fun d hd he=>hc (by
  by_cases hn:n < q.length
  ·exact e9_.1 (u4_ hn (he▸hd))
  ·unfold qat at hd;rw [List.getD_eq_getElem?_getD,List.getElem?_eq_none (by omega)] at hd;simp at hd)
 have hbef:∀ d e,d≠c→(e=c∨BefS log a n d e)→BefS log (a++[⟨c,i,-1,0⟩]) n d e:=fun d e hd hb p p' hp hp' h1 h2 h3 h4 h5 h6 h7 h8=>by
  have hpa:p < a.length:=by
   rcases hpl p hp with h|h
   ·exact h
   ·rw [h,s8_] at h1;exact absurd h1.symm hd
  rcases hpl p' hp' with h|h
  ·rw [r6_ hpa] at h1 h2 h3 h4;rw [r6_ h] at h5 h6 h7 h8;rcases hb with hb|hb
   ·exact absurd (h5.trans hb) (hopen p' h h6)
   ·exact hb p p' hpa h h1 h2 h3 h4 h5 h6 h7 h8
  ·omega
 refine ⟨fun p hp hw=>?_,fun d hd=>?_,fun p hp hw hr=>?_,?_,fun p hp=>?_,fun p p' hlt hp' h1 h2 h3 h4 h5 h6=>?_⟩
 ·rcases hpl p hp with h|h
  ·rw [r6_ h] at hw ⊢;rw [a2j rfl,if_neg (Ne.symm (hopen p h hw))];exact ⟨(K.opn p h hw).1,(hfl _).2 (.inl (K.opn p h hw).2)⟩
  ·subst h;rw [s8_,a2j rfl,if_pos rfl,Nat.zero_add];exact ⟨rfl,(hfl _).2 (.inr rfl)⟩
 ·rw [List.length_append,List.length_singleton];rcases (hfl d).1 hd with h|h
  ·obtain ⟨p,hp,h1,h2⟩:=K.lst d h;exact ⟨p,by omega,by rw [r6_ hp];exact h1,by rw [r6_ hp];exact h2⟩
  ·exact ⟨a.length,by omega,by rw [s8_];exact h.symm,by rw [s8_]⟩
 ·rw [j8_ hk];rcases hpl p hp with h|h
  ·rw [r6_ h] at hw hr ⊢;have:=K.here p h hw hr;split
   ·rename_i he;exact List.mem_append_left _ (he▸this)
   ·exact this
  ·subst h;rw [s8_] at hr ⊢;rw [hnew] at hr;rw [if_pos (by omega)];exact List.mem_append_right _ (by simp)
 ·rw [j8_ hk];split
  ·rename_i he;subst he;rw [List.pairwise_append];refine ⟨List.Pairwise.imp_of_mem (fun {d e} hd _ hb=>hbef d e (hmem d hd) (.inr hb)) K.ord,by simp,fun d hd e he=>?_⟩;simp at he;exact hbef d e (hmem d hd) (.inl he)
  ·exact List.Pairwise.imp_of_mem (fun {d e} hd _ hb=>hbef d e (hmem d hd) (.inr hb)) K.ord
 ·rcases hpl p hp with h|h
  ·rw [r6_ h];have:=K.bnd p h;omega
  ·subst h;rw [s8_];simp only;omega
 ·rcases hpl p' hp' with h|h
  ·rw [r6_ h] at h2 h4 h5 h6 ⊢;rw [r6_ (by omega)] at h1 h3 ⊢;exact K.srv p p' hlt h h1 h2 h3 h4 h5 h6
  ·subst h;rw [s8_] at h5;simp at h5
theorem X.upd {log:List Ev} {n i j:Nat} {q q':List (List ByteArray)} {a:List Sy} {z:Sy} {c:ByteArray} (K:X log n i q a) (hj:j < a.length) (hjc:(d2_ a j).car=c) (hjw:(d2_ a j).went = -1)
  (hz1:z.car=c) (hz2:z.came=(d2_ a j).came) (hz3:z.went = -1∨z.went=i) (hz4:0≤z.decl) (hz5:z.decl=0→(d2_ a j).decl=0)
  (hfl:∀ d,d≠c→(d∈q'.flatten↔d∈q.flatten)) (hq:∀ d,d≠c→d∈qat q n→d∈qat q' n) (hin:z.went = -1→c∈q'.flatten∧(c∈qat q n→c∈qat q' n)) (hout:z.went≠-1→c∉q'.flatten)
  (hix:∀ d,a4f d 0 (a.set j z)=a4f d 0 a) (hord:(qat q' n).Pairwise (BefS log (a.set j z) n))
  (hsrv:z.went=i→(e6_ log i).kind=1→z.decl=0→a7j log z=n→∀ p,p < j→a7j log (d2_ a p)=n→(d2_ a p).decl=0→(d2_ a p).went≠-1) : X log n (i+1) q' (a.set j z):=by
 have hlen:(a.set j z).length=a.length:=by simp
 have hne:∀ p,p < a.length→p≠j→(d2_ a p).went = -1→(d2_ a p).car≠c:=fun p hp hpj hw he=>by
  have h1:=(K.opn p hp hw).1;have h2:=(K.opn j hj hjw).1;rw [he,←hjc,h2] at h1;omega
 have hrk:a7j log z=a7j log (d2_ a j):=by
  unfold a7j;rw [hz2]
 refine ⟨fun p hp hw=>?_,fun d hd=>?_,fun p hp hw hr=>?_,hord,fun p hp=>?_,fun p p' hlt hp' h1 h2 h3 h4 h5 h6=>?_⟩
 ·rw [hlen] at hp;rw [m6_ hj] at hw ⊢;rw [hix];split
  ·rename_i he;subst he;rw [if_pos rfl] at hw;rw [hz1,←hjc];exact ⟨(K.opn p hp hjw).1,by rw [hjc];exact (hin hw).1⟩
  ·rename_i he;rw [if_neg he] at hw;exact ⟨(K.opn p hp hw).1,(hfl _ (hne p hp he hw)).2 (K.opn p hp hw).2⟩
 ·by_cases he:d=c
  ·subst he;refine ⟨j,by rw [hlen];exact hj,?_,?_⟩
   ·rw [m6_ hj,if_pos rfl,hz1]
   ·rw [m6_ hj,if_pos rfl];exact Classical.byContradiction fun hh=>hout hh hd
  ·obtain ⟨p,hp,h1,h2⟩:=K.lst d ((hfl d he).1 hd);have hpj:p≠j:=fun hh=>he (by rw [←h1,hh,hjc]);exact ⟨p,by rw [hlen];exact hp,by rw [m6_ hj,if_neg hpj];exact h1,by rw [m6_ hj,if_neg hpj];exact h2⟩
 ·rw [hlen] at hp;rw [m6_ hj] at hw hr ⊢;split
  ·rename_i he;subst he;rw [if_pos rfl] at hw hr;rw [hz1];rw [hrk] at hr;have:=K.here p hp hjw hr;rw [hjc] at this;exact (hin hw).2 this
  ·rename_i he;rw [if_neg he] at hw hr;exact hq _ (hne p hp he hw) (K.here p hp hw hr)
 ·rw [hlen] at hp;rw [m6_ hj];have hb:=K.bnd p hp;have hbj:=K.bnd j hj;split
  ·rw [hz2];omega
  ·omega
 ·rw [hlen] at hp';rw [m6_ hj] at h1 h2 h3 h4 h5 h6;rw [m6_ hj,m6_ hj];by_cases e':p'=j
  ·have e:p≠j:=by omega
   rw [if_neg e] at h1 h3 ⊢;rw [if_pos e'] at h2 h4 h5 h6 ⊢;have hzi:z.went=i:=hz3.resolve_left (by omega);rw [hzi,Int.toNat_natCast] at h6;have:=hsrv hzi h6 h4 h2 p (by omega) h1 h3;have hb:=K.bnd p (by omega);omega
  ·rw [if_neg e'] at h2 h4 h5 h6 ⊢;by_cases e:p=j
   ·rw [if_pos e] at h1 h3;rw [hrk] at h1;have:=K.srv j p' (by omega) hp' h1 h2 (hz5 h3) h4 h5 h6;omega
   ·rw [if_neg e] at h1 h3 ⊢;exact K.srv p p' hlt hp' h1 h2 h3 h4 h5 h6
theorem b7g {a:List Sy} {j:Nat} (hj:j < a.length) (h:a4f (d2_ a j).car 0 a=j) (f:Sy→Sy) : h4_ (d2_ a j).car f a=a.set j (f (d2_ a j)):=by
 have hh:h2_ (d2_ a j).car a=true:=b9s.2 ⟨a[j],List.getElem_mem hj,by rw [a4k hj]⟩;obtain ⟨m,e,hm,_,h3⟩:=o3_ a 0 hh;have:m=j:=by omega
 subst this;rw [h3 f,a4k hj]
theorem BefS.set {log:List Ev} {a:List Sy} {n j:Nat} {z:Sy} (hj:j < a.length) (hz1:z.car=(d2_ a j).car) (hz2:z.came=(d2_ a j).came) (hz3:z.went = -1→(d2_ a j).went = -1) (hz5:z.decl=0→(d2_ a j).decl=0) {c d:ByteArray} (h:BefS log a n c d) : BefS log (a.set j z) n c d:=by
 have key:∀ p,(d2_ (a.set j z) p).car=(d2_ a p).car∧a7j log (d2_ (a.set j z) p)=a7j log (d2_ a p)∧((d2_ (a.set j z) p).went = -1→(d2_ a p).went = -1)∧((d2_ (a.set j z) p).decl=0→(d2_ a p).decl=0):=fun p=>by
  rw [m6_ hj];by_cases e:p=j
  ·rw [if_pos e,e];exact ⟨hz1,by unfold a7j;rw [hz2],hz3,hz5⟩
  ·rw [if_neg e];exact ⟨rfl,rfl,id,id⟩
 intro p p' hp hp' h1 h2 h3 h4 h5 h6 h7 h8;rw [List.length_set] at hp hp';obtain ⟨a1,a2,a3,a4⟩:=key p;obtain ⟨b1,b2,b3,b4⟩:=key p';exact h p p' hp hp' (a1▸h1) (a3 h2) (a4 h3) (a2▸h4) (b1▸h5) (b3 h6) (b4 h7) (b2▸h8)
theorem b5i {q:List (List ByteArray)} (h:Once q.flatten) {k n:Nat} (hk:k < q.length) (hn:n < q.length) {c:ByteArray} (h1:c∈qat q k) (h2:c∈qat q n) : n=k:=Classical.byContradiction fun hne=>by
 have g:=e0_ hk [] c;have g2:=u4_ (q:=q.set k []) (k:=n) (by simpa using hn) (c:=c) (by rw [j8_ hk,if_neg hne];exact h2);have g3:=e9_.2 h1;have g4:=h c;rw [j0_] at g;omega
theorem c1u (l:List ByteArray) {c d:ByteArray} (h:d≠c) : d∈woT l c↔d∈l:=by
 unfold woT;rw [List.mem_filter];simp [h]
theorem X.ev {log:List Ev} {r:Ru} {s:St} {n i:Nat} {a:List Sy} (hr:RuOK r) (hi:Inv r s) (ha:b7f r n) (hn:n < r.ranks.length) (K:X log n i s.q a) {x:Ev} (h:apE r s x=0) (h5:x.kind≠5) (hx:e6_ log i=x) :
  X log n (i+1) (apU r s x).1.q (u3_ a i x):=by
 obtain ⟨h1,h2,h3,hxr,hkr⟩:=parts h;have hd:=hi.doS hr h1 h2 hxr h3;have hkd:=b5z h1;have hnl:n < s.q.length:=by rw [hi.len];exact hn
 have hk:x.rank.toNat < s.q.length:=by rw [hi.len];exact hkr
 have hup:∀ c,c∈(apU r s x).1.q.flatten↔c∈(doS r s x x.rank.toNat).q.flatten:=fun c=>by
  have g:=a8l hr c (f7_ 0 (doS r s x x.rank.toNat).q) (atS (doS r s x x.rank.toNat) x.time) (doM r s x x.rank.toNat) hd;have g2:=(a4w (r:=r) (f7_ 0 (doS r s x x.rank.toNat).q) (atS (doS r s x x.rank.toNat) x.time) (doM r s x x.rank.toNat)).2;rw [h9_,h9_,g2] at g;rw [←e9_,←e9_];unfold apU;change cnt c _+_=cnt c (doS r s x x.rank.toNat).q.flatten+cnt c (List.map (·.car) (doS r s x x.rank.toNat).tk) at g;change cnt c _+cnt c (List.map (·.car) (doS r s x x.rank.toNat).tk)=_ at g;omega
 refine X.queues (q:=(doS r s x x.rank.toNat).q) ?_ (Nat.le_refl _) hup (c5d hr hi.len ha x);clear hup hd h;generalize x.rank.toNat=k at *;have hrank:(e6_ log i).rank=k:=by rw [hx];exact hxr
 unfold doE at h3;unfold doS;by_cases k0:x.kind=0
 ·have hnote:u3_ a i x=a++[⟨x.car,i,-1,0⟩]:=by
   unfold u3_;rw [if_neg (by omega),if_pos k0]
  rw [hnote];rw [if_pos k0] at h3 ⊢;unfold i5_ at h3;rw [b2_] at h3;have f1:=c7_ (by decide) h3.1;exact K.arrive hk (a9k.1 (by simpa using f1)) hrank
 rw [if_neg k0] at h3 ⊢;by_cases k4:x.kind=4
 ·have hnote:u3_ a i x=a:=by
   unfold u3_;rw [if_pos k4]
  rw [hnote];rw [if_neg (by omega),if_neg (by omega),if_neg (by omega),if_pos k4] at h3 ⊢;unfold w4_ at h3;by_cases hf:(rat r.ranks k).feeder = -1
  ·rw [if_pos hf] at h3;cases h3
  ·rw [if_neg hf,b2_,b2_] at h3;have f2:=of_decide_eq_true (c7_ (by decide) h3.2.1);obtain ⟨g1,g2,g3⟩:=hr.feedN hkr hf;refine K.queues (by omega) (fun c=>?_) (b5h hr hi.len ha hkr hf);rw [←e9_,←e9_];show 0 < cnt c (upQ s.q k (feedN r k)).flatten↔_;rw [a7y hk (by rw [hi.len];exact g3) (by omega) f2]
 have hnote:u3_ a i x=h4_ x.car (k4_ x i) a:=by
  unfold u3_;rw [if_neg k4,if_neg k0]
 rw [hnote];have hstay:x.car∈qat s.q k→∃ j,j < a.length∧(d2_ a j).car=x.car∧(d2_ a j).went = -1∧h4_ x.car (k4_ x i) a=a.set j (k4_ x i (d2_ a j)):=fun hm=>by
  obtain ⟨j,hj,e1,e2⟩:=K.lst x.car (e9_.1 (u4_ hk hm));refine ⟨j,hj,e1,e2,?_⟩;have:=b7g hj (K.opn j hj e2).1 (k4_ x i);rwa [e1] at this
 have hixu:∀ j,h4_ x.car (k4_ x i) a=a.set j (k4_ x i (d2_ a j))→∀ d,a4f d 0 (a.set j (k4_ x i (d2_ a j)))=a4f d 0 a:=fun j e d=>by
  rw [←e,a4g (o2_ x i)]
 have hsame:∀ l,k≠n→qat (s.q.set k l) n=qat s.q n:=fun l hne=>by rw [j8_ hk,if_neg (Ne.symm hne)]
 have hflat:∀ (l:List ByteArray),(∀ d,d≠x.car→(d∈l↔d∈qat s.q k))→∀ d,d≠x.car→(d∈(s.q.set k l).flatten↔d∈s.q.flatten):=fun l hl d hne=>by
  have g:=e0_ hk l d;have g2:=hl d hne;have g3:=Once.row hk hi.once.q d;have g4:=hi.once.q d;rw [←e9_,←e9_] at *;by_cases hp:0 < cnt d (qat s.q k)
  ·have:=u4_ hk (e9_.1 hp);have:=g2.2 hp;omega
  ·have:¬0 < cnt d l:=fun hh=>hp (g2.1 hh);omega
 have hqn:∀ (l:List ByteArray),(∀ d,d≠x.car→(d∈l↔d∈qat s.q k))→∀ d,d≠x.car→d∈qat s.q n→d∈qat (s.q.set k l) n:=fun l hl d hne hd=>by
  rw [j8_ hk];split
  ·rename_i he;subst he;exact (hl d hne).2 hd
  ·exact hd
 have hgone:∀ (l:List ByteArray),x.car∈qat s.q k→x.car∉l→x.car∉(s.q.set k l).flatten:=fun l hm hl hh=>by
  have g:=e0_ hk l x.car;have g2:=e9_.2 hm;have g3:=e9_.2 hh;have g4:=hi.once.q x.car;have g5:cnt x.car l=0:=Nat.eq_zero_of_not_pos fun h=>hl (e9_.1 h);omega
 by_cases k1:x.kind=1
 ·rw [if_pos k1] at h3 ⊢;unfold o0_ at h3;rw [b2_] at h3;obtain ⟨t,et⟩:=l6_ h3.1;have hm:x.car∈qat s.q k:=by rw [et];simp
  have hon:=Once.row hk hi.once.q;rw [et] at hon;have hl:∀ d,d≠x.car→(d∈(qat s.q k).tail↔d∈qat s.q k):=fun d hne=>by
   rw [et,List.tail_cons];exact ⟨fun h=>List.mem_cons_of_mem _ h,fun h=>(List.mem_cons.1 h).resolve_left hne⟩
  obtain ⟨j,hj,e1,e2,e3⟩:=hstay hm;have ez:k4_ x i (d2_ a j)=⟨(d2_ a j).car,(d2_ a j).came,i,(d2_ a j).decl⟩:=by
   unfold k4_;rw [if_pos k1]
  have hix:=hixu j e3;rw [e3];rw [ez] at hix ⊢;have hb:=K.bnd j hj;unfold a3r;refine K.upd (z:=⟨(d2_ a j).car,(d2_ a j).came,i,(d2_ a j).decl⟩) hj e1 e2 e1 rfl (.inr rfl) hb.2.2.2.2 id (hflat _ hl) (hqn _ hl) (fun hw=>by simp only at hw;omega) (fun _=>hgone _ hm (by rw [et,List.tail_cons];exact hon.not)) hix ?_ ?_
  ·by_cases he:k=n
   ·subst he;rw [j8_ hk,if_pos rfl];have:=K.ord;rw [et] at this ⊢;exact (List.pairwise_cons.1 this).2.imp fun {c d} hb=>BefS.set (z:=⟨(d2_ a j).car,(d2_ a j).came,i,(d2_ a j).decl⟩) hj rfl rfl (fun hw=>by simp only at hw;omega) id hb
   ·rw [hsame _ he];exact K.ord.imp fun {c d} hb=>BefS.set (z:=⟨(d2_ a j).car,(d2_ a j).came,i,(d2_ a j).decl⟩) hj rfl rfl (fun hw=>by simp only at hw;omega) id hb
  ·intro _ _ hz hrz p hp hrp hdp hw;have hpa:p < a.length:=by omega
   have hjn:=K.here j hj e2 hrz;rw [e1] at hjn;have hnk:=b5i hi.once.q hk hnl hm hjn;subst hnk;have hpn:=K.here p hpa hw hrp;have hne:(d2_ a p).car≠x.car:=fun he=>by
    have g1:=(K.opn p hpa hw).1;have g2:=(K.opn j hj e2).1;rw [he,←e1,g2] at g1;omega
   have ho:=K.ord;rw [et] at hpn ho;have ht:=(List.mem_cons.1 hpn).resolve_left hne;have:=(List.pairwise_cons.1 ho).1 _ ht j p hj hpa e1 e2 hz hrz rfl hw hdp hrp;omega
 rw [if_neg k1] at h3 ⊢;by_cases k2:x.kind=2
 ·rw [if_pos k2] at h3 ⊢;obtain ⟨t,et⟩:=l6_ h3;have hm:x.car∈qat s.q k:=by rw [et];simp
  have hmD:∀ d,d∈l5_ r (qat s.q k) x.car↔d∈qat s.q k:=fun d=>by
   unfold l5_;rw [et,List.tail_cons];have:=List.take_append_drop (a1f r t.length) t;constructor
   ·intro h;rcases List.mem_append.1 h with h|h
    ·rcases List.mem_append.1 h with h|h
     ·exact List.mem_cons_of_mem _ (List.mem_of_mem_take h)
     ·simp at h;rw [h];simp
    ·exact List.mem_cons_of_mem _ (List.mem_of_mem_drop h)
   ·intro h;rcases List.mem_cons.1 h with h|h
    ·rw [h];simp
    ·rw [←this] at h;rcases List.mem_append.1 h with h|h
     ·exact List.mem_append_left _ (List.mem_append_left _ h)
     ·exact List.mem_append_right _ h
  have hl:∀ d,d≠x.car→(d∈l5_ r (qat s.q k) x.car↔d∈qat s.q k):=fun d _=>hmD d;obtain ⟨j,hj,e1,e2,e3⟩:=hstay hm;have ez:k4_ x i (d2_ a j)=⟨(d2_ a j).car,(d2_ a j).came,(d2_ a j).went,(d2_ a j).decl+1⟩:=by
   unfold k4_;rw [if_neg k1,if_pos k2]
  have hix:=hixu j e3;rw [e3];rw [ez] at hix ⊢;have hb:=K.bnd j hj;unfold a0j;have hbs:∀ {c d},BefS log a n c d→BefS log (a.set j ⟨(d2_ a j).car,(d2_ a j).came,(d2_ a j).went,(d2_ a j).decl+1⟩) n c d:=fun hb2=>BefS.set (z:=⟨(d2_ a j).car,(d2_ a j).came,(d2_ a j).went,(d2_ a j).decl+1⟩) hj rfl rfl id (fun hw=>by simp only at hw;omega) hb2;have hvac:∀ p,p < a.length→(d2_ (a.set j ⟨(d2_ a j).car,(d2_ a j).came,(d2_ a j).went,(d2_ a j).decl+1⟩) p).car=x.car→(d2_ (a.set j ⟨(d2_ a j).car,(d2_ a j).came,(d2_ a j).went,(d2_ a j).decl+1⟩) p).went = -1→(d2_ (a.set j ⟨(d2_ a j).car,(d2_ a j).came,(d2_ a j).went,(d2_ a j).decl+1⟩) p).decl≠0:=fun p hp hc hw=>by
   rw [m6_ hj] at hc hw ⊢;by_cases e:p=j
   ·rw [if_pos e];simp only;omega
   ·rw [if_neg e] at hc hw;have g1:=(K.opn p hp hw).1;have g2:=(K.opn j hj e2).1;rw [hc,←e1,g2] at g1;omega
  refine K.upd (z:=⟨(d2_ a j).car,(d2_ a j).came,(d2_ a j).went,(d2_ a j).decl+1⟩) hj e1 e2 e1 rfl (.inl e2) (by simp only;omega) (fun hw=>by simp only at hw;omega) (hflat _ hl) (hqn _ hl) (fun _=>⟨?_,fun hmn=>?_⟩) (fun hw=>absurd e2 hw) hix ?_ (fun hw=>by simp only at hw;omega)
  ·exact e9_.1 (u4_ (by simpa using hk) (by rw [j8_ hk,if_pos rfl];exact (hmD _).2 hm))
  ·have:=b5i hi.once.q hk hnl hm hmn;rw [this,j8_ hk,if_pos rfl];exact (hmD _).2 hm
  ·by_cases he:k=n
   ·subst he;rw [j8_ hk,if_pos rfl];have:=K.ord;unfold l5_;rw [et] at this ⊢;rw [List.tail_cons];refine a9n _ ((List.pairwise_cons.1 this).2.imp fun {c d} hb=>hbs hb) fun d _=>⟨?_,?_⟩
    ·intro p p' hp hp' _ _ _ _ h5' h6 h7;rw [List.length_set] at hp';exact absurd h7 (hvac p' hp' h5' h6)
    ·intro p p' hp hp' h1' h2' h3';rw [List.length_set] at hp;exact absurd h3' (hvac p hp h1' h2')
   ·rw [hsame _ he];exact K.ord.imp fun {c d} hb=>hbs hb
 rw [if_neg k2] at h3 ⊢;have k3:x.kind=3:=by omega
 rw [if_pos k3] at h3 ⊢;unfold a3s at h3;have hnx:¬a1q (qat s.q k) x.car < 0:=fun hh=>by
  rw [if_pos hh] at h3;cases h3
 have hm:x.car∈qat s.q k:=Classical.byContradiction fun hc=>hnx (a0k.2 hc);obtain ⟨j,hj,e1,e2,e3⟩:=hstay hm;have ez:k4_ x i (d2_ a j)=⟨(d2_ a j).car,(d2_ a j).came,i,(d2_ a j).decl⟩:=by
  unfold k4_;rw [if_neg k1,if_neg k2,if_pos k3]
 have hix:=hixu j e3;rw [e3];rw [ez] at hix ⊢;have hb:=K.bnd j hj;unfold a3t;rw [a3u hi.once hk x hnx];have hl:∀ d,d≠x.car→(d∈(qat s.q k).filter (fun c=>decide (c≠x.car))↔d∈qat s.q k):=fun d hne=>c1u _ hne;have hbs:∀ {c d},BefS log a n c d→BefS log (a.set j ⟨(d2_ a j).car,(d2_ a j).came,i,(d2_ a j).decl⟩) n c d:=fun hb2=>BefS.set (z:=⟨(d2_ a j).car,(d2_ a j).came,i,(d2_ a j).decl⟩) hj rfl rfl (fun hw=>by simp only at hw;omega) id hb2;refine K.upd (z:=⟨(d2_ a j).car,(d2_ a j).came,i,(d2_ a j).decl⟩) hj e1 e2 e1 rfl (.inr rfl) hb.2.2.2.2 id (hflat _ hl) (hqn _ hl) (fun hw=>by simp only at hw;omega) (fun _=>hgone _ hm fun hh=>by simp at hh) hix ?_ ?_
 ·by_cases he:k=n
  ·subst he;rw [j8_ hk,if_pos rfl];exact (K.ord.sublist List.filter_sublist).imp fun {c d} hb=>hbs hb
  ·rw [hsame _ he];exact K.ord.imp fun {c d} hb=>hbs hb
 ·intro _ hk1;rw [hx,k3] at hk1;cases hk1
theorem X.run {r:Ru} {n:Nat} (hr:RuOK r) (ha:b7f r n) (hn:n < r.ranks.length) : ∀ (l:List Ev) (pre:List Ev) (s:St) (a:List Sy),Inv r s→(goP r pre.length l s).2.2=0→(∀ x∈l,x.kind≠5)→X (pre++l) n pre.length s.q a→∃ q,X (pre++l) n (pre.length+l.length) q (a1a pre.length l a)
 | [],_,s,_,_,_,_,K=>⟨s.q,K⟩
 | x::l,pre,s,a,hi,h,h5,K=>by
  obtain ⟨h1,h2⟩:=a4h h;have e:pre++x::l=(pre++[x])++l:=by simp
  have el:(pre++[x]).length=pre.length+1:=by simp
  have K2:=K.ev hr hi ha hn h1 (h5 x (by simp)) b4n;obtain ⟨q,K3⟩:=X.run hr ha hn l (pre++[x]) (apU r s x).1 (u3_ a pre.length x) (hi.ap hr h1).1 (by rw [el];exact h2) (fun y hy=>h5 y (by simp [hy])) (by rw [←e,el];exact K2);rw [←e,el] at K3;refine ⟨q,?_⟩;rw [List.length_cons,show pre.length+(l.length+1)=pre.length+1+l.length by omega];exact K3
theorem b7h {r:Ru} {n:Nat} (hr:RuOK r) (ha:b7f r n) (hn:n < r.ranks.length) {l:List Ev} (h:(goP r 0 l (st0 r)).2.2=0) (h5:∀ x∈l,x.kind≠5) : ∃ q,X l n l.length q (f2_ 0 l):=by
 have e0:(st0 r).q.flatten=[]:=a1w _;have K0:X ([]++l) n ([] : List Ev).length (st0 r).q []:=by
  refine ⟨fun p hp=>by simp at hp,fun c hc=>?_,fun p hp=>by simp at hp,?_,fun p hp=>by simp at hp,fun p p' _ hp=>by simp at hp⟩
  ·rw [e0] at hc;simp at hc
  ·show (qat (List.replicate _ []) n).Pairwise _;rw [b2b];exact .nil
 obtain ⟨q,K⟩:=X.run hr ha hn l [] (st0 r) [] (Inv.st0 hr) h h5 K0;simp only [List.nil_append,List.length_nil,Nat.zero_add] at K;rw [a5h (s:=st0 r) h] at K;exact ⟨q,K⟩
theorem b1j:∀ (l:List Ev) (i:Nat),(f2_ i l).length≤l.length
 | [],_=>Nat.le_refl _
 | x::l,i=>by
  rw [f2_];have:=b1j l (i+1);split
  ·rw [List.length_cons];omega
  ·rw [List.length_cons,List.length_cons];omega
end Go.Proofs.YtoibondihdhnoaaDoor
