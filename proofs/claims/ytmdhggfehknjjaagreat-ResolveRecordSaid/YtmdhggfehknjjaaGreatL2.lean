/- Stable sorting, seen as a change of places. Plain Lean. -/
import Derived.Test.YtmdhggfehknjjaaGreatL1
import Derived.WideShapes
import Derived.Laws.Strings
import Derived.Laws.Small
import Derived.Lib.AppendZeros
set_option linter.unusedVariables false
set_option linter.unusedSimpArgs false
set_option linter.unusedSectionVars false
namespace Go.K
open aY
section
variable {α:Type} {ys zs us:List α} {σ dz:Nat->Nat} {a b i j n:Nat}
structure eA (ys:List α) (σ:Nat->Nat) (zs:List α):Prop where
 len:zs.length=ys.length
 at_:∀i,i<ys.length->σ i<ys.length/\zs[i]?=ys[σ i]?
theorem eA.id (ys:List α):eA ys (λi=>i) ys:=⟨rfl,λi h=>⟨h,rfl⟩⟩
theorem eA.get (h:eA ys σ zs) (hi:i<ys.length):zs[i]'(by rw[h.len];exact hi)=ys[σ i]'(h.at_ i hi).1:=by
 have:=(h.at_ i hi).2;rw[List.getElem?_eq_getElem (by rw[h.len];exact hi),List.getElem?_eq_getElem (h.at_ i hi).1] at this;exact Option.some.inj this
def jV (σ:Nat->Nat) (i j:Nat):Nat->Nat:=λk=>if k=i then σ j else if k=j then σ i else σ k
theorem eA.swap (h:eA ys σ zs) (hi:i<ys.length) (hj:j<ys.length) {x y:α} (hx:x=zs[j]'(by rw[h.len];exact hj)) (hy:y=zs[i]'(by rw[h.len];exact hi)):eA ys (jV σ i j) ((zs.set i x).set j y):=by
 subst hx hy;have hl:=h.len;refine⟨by simp[h.len],λk hk=>?_⟩;have hki:=h.at_ i hi;have hkj:=h.at_ j hj;have hkk:=h.at_ k hk;unfold jV;rw[List.getElem?_set,List.getElem?_set];by_cases e1:k=i
 ·subst e1;rw[if_pos rfl];refine⟨hkj.1,?_⟩;by_cases e2:j=k
  ·subst e2;simp[hl,hk,<-hkk.2,List.getElem?_eq_getElem (show j<zs.length by omega)]
  ·rw[if_neg e2];simp[hl,hk,<-hkj.2,List.getElem?_eq_getElem (show j<zs.length by omega)]
 ·rw[if_neg e1];by_cases e2:k=j
  ·subst e2;rw[if_pos rfl];refine⟨hki.1,?_⟩;simp[hl,hk,<-hki.2,List.getElem?_eq_getElem (show i<zs.length by omega)]
  ·rw[if_neg e2];refine⟨hkk.1,?_⟩;simp[Ne.symm e1,Ne.symm e2,hkk.2]
structure eR (σ:Nat->Nat) (a b:Nat):Prop where
 out:∀i,¬(a<=i/\i<b)->σ i=i
 j5:∀i,a<=i->i<b->a<=σ i/\σ i<b
 inj:∀i j,σ i=σ j->i=j
theorem eR.id (a b:Nat):eR (λi=>i) a b:=⟨λ_ _=>rfl,λ_ h1 h2=>⟨h1,h2⟩,λ_ _ h=>h⟩
theorem eR.swap (h:eR σ a b) (hi:a<=i/\i<b) (hj:a<=j/\j<b):eR (jV σ i j) a b:=by
 refine⟨λk hk=>?_,λk h1 h2=>?_,λk k' e=>?_⟩
 ·unfold jV;rw[if_neg (by intro e;subst e;exact hk hi),if_neg (by intro e;subst e;exact hk hj)];exact h.out k hk
 ·unfold jV;split
  ·exact h.j5 j hj.1 hj.2
  ·split
   ·exact h.j5 i hi.1 hi.2
   ·exact h.j5 k h1 h2
 ·unfold jV at e;by_cases e1:k=i
  ·by_cases e2:k'=i
   ·omega
   ·rw[if_pos e1,if_neg e2] at e;by_cases eU:k'=j
    ·rw[if_pos eU] at e;have:=h.inj _ _ e;omega
    ·rw[if_neg eU] at e;have:=h.inj _ _ e;omega
  ·rw[if_neg e1] at e;by_cases jr:k=j
   ·rw[if_pos jr] at e;by_cases e2:k'=i
    ·rw[if_pos e2] at e;have:=h.inj _ _ e;omega
    ·rw[if_neg e2] at e;by_cases eU:k'=j
     ·omega
     ·rw[if_neg eU] at e;have:=h.inj _ _ e;omega
   ·rw[if_neg jr] at e;by_cases e2:k'=i
    ·rw[if_pos e2] at e;have:=h.inj _ _ e;omega
    ·rw[if_neg e2] at e;by_cases eU:k'=j
     ·rw[if_pos eU] at e;have:=h.inj _ _ e;omega
     ·rw[if_neg eU] at e;exact h.inj _ _ e
theorem eR.mono {a' b':Nat} (h:eR σ a b) (ha:a'<=a) (hb:b<=b'):eR σ a' b':=⟨λi hi=>h.out i (λe=>hi ⟨by omega,by omega⟩),λi h1 h2=>by
 by_cases e:a<=i/\i<b
 ·have:=h.j5 i e.1 e.2;omega
 ·rw[h.out i e];exact⟨h1,h2⟩,h.inj⟩
theorem eR.comp {dz:Nat->Nat} (h:eR σ a b) (h':eR dz a b):eR (λi=>σ (dz i)) a b:=⟨λi hi=>by show σ (dz i)=i;rw[h'.out i hi,h.out i hi],λi h1 h2=>by
 have:=h'.j5 i h1 h2;exact h.j5 _ this.1 this.2,λi j e=>h'.inj _ _ (h.inj _ _ e)⟩
def gV (T:Nat->Nat->Prop) (σ:Nat->Nat) (a b:Nat):Prop:=∀i j,a<=i->i<j->j<b->T (σ i) (σ j)
def dQ (c:α->α->Int) (ys:List α) (i j:Nat):Prop:=∃(hi:i<ys.length) (hj:j<ys.length),c ys[i] ys[j]<0\/c ys[i] ys[j]=0/\i<j
structure kT (c:α->α->Int) (P:α->Prop):Prop where
 anti:∀x y,P x->P y->(c x y<0↔0<c y x)
 trans:∀x y z,P x->P y->P z->c x y<=0->c y z<=0->c x z<=0
theorem kT.eq {c:α->α->Int} {P:α->Prop} (h:kT c P) {x y:α} (hx:P x) (hy:P y):c x y=0↔c y x=0:=by
 have h1:=h.anti x y hx hy;have h2:=h.anti y x hy hx;omega
theorem kT.Ue {c:α->α->Int} {P:α->Prop} (h:kT c P) {x y z:α} (hx:P x) (hy:P y) (hz:P z) (h1:c x y<0) (h2:c y z<=0):c x z<0:=by
 have h3:=h.trans x y z hx hy hz (by omega) h2;have h4:=h.anti x y hx hy;apply Classical.byContradiction;intro hn;have e:c x z=0:=by omega
 have e2:=(h.eq hx hz).1 e;have:=h.trans y z x hy hz hx h2 (by omega);omega
theorem kT.Uf {c:α->α->Int} {P:α->Prop} (h:kT c P) {x y z:α} (hx:P x) (hy:P y) (hz:P z) (h1:c x y<=0) (h2:c y z<0):c x z<0:=by
 have h3:=h.trans x y z hx hy hz h1 (by omega);have h4:=h.anti y z hy hz;apply Classical.byContradiction;intro hn;have e:c x z=0:=by omega
 have e2:=(h.eq hx hz).1 e;have:=h.trans z x y hz hx hy (by omega) h1;omega
theorem GA {c:α->α->Int} {P:α->Prop} (h:kT c P) (hP:∀x∈ys,P x) {i j k:Nat} (h1:dQ c ys i j) (h2:dQ c ys j k):dQ c ys i k:=by
 obtain⟨hi,hj,h1⟩:=h1;obtain⟨_,hk,h2⟩:=h2;have p1:=hP _ (List.getElem_mem hi);have p2:=hP _ (List.getElem_mem hj);have p3:=hP _ (List.getElem_mem hk);refine⟨hi,hk,?_⟩;rcases h1 with h1|⟨h1,e1⟩
 ·exact .inl (h.Ue p1 p2 p3 h1 (by rcases h2 with h2|h2<;>omega))
 ·rcases h2 with h2|⟨h2,e2⟩
  ·exact .inl (h.Uf p1 p2 p3 (by omega) h2)
  ·refine .inr ⟨?_,by omega⟩;have a:=h.trans _ _ _ p1 p2 p3 (by omega) (by omega);have b:=h.trans _ _ _ p3 p2 p1 (by rw[(h.eq p3 p2).2 h2];omega) (by rw[(h.eq p2 p1).2 h1];omega);have:=h.anti _ _ p1 p3;have:=h.anti _ _ p3 p1;omega
theorem GB {c:α->α->Int} {P:α->Prop} (h:kT c P) (hP:∀x∈ys,P x) {i j:Nat} (hi:i<ys.length) (hj:j<ys.length) (hne:i≠j):dQ c ys i j\/dQ c ys j i:=by
 have p1:=hP _ (List.getElem_mem hi);have p2:=hP _ (List.getElem_mem hj);have h1:=h.anti _ _ p1 p2;have h2:=h.anti _ _ p2 p1;by_cases e1:c ys[i] ys[j]<0
 ·exact .inl ⟨hi,hj,.inl e1⟩
 ·by_cases e2:c ys[j] ys[i]<0
  ·exact .inr ⟨hj,hi,.inl e2⟩
  ·have eU:c ys[i] ys[j]=0:=by omega
   have jr:c ys[j] ys[i]=0:=by omega
   rcases Nat.lt_or_gt_of_ne hne with h|h
   ·exact .inl ⟨hi,hj,.inr ⟨eU,h⟩⟩
   ·exact .inr ⟨hj,hi,.inr ⟨jr,h⟩⟩
theorem LI {c:α->α->Int} {P:α->Prop} (h:kT c P) (hP:∀x∈ys,P x) {i j:Nat} (h1:dQ c ys i j) (h2:dQ c ys j i):False:=by
 obtain⟨hi,hj,h1⟩:=h1;obtain⟨_,_,h2⟩:=h2;have p1:=hP _ (List.getElem_mem hi);have p2:=hP _ (List.getElem_mem hj);have:=h.anti _ _ p1 p2;have:=h.anti _ _ p2 p1;rcases h1 with h1|h1<;>rcases h2 with h2|h2<;>omega
theorem Ug {c:α->α->Int} {P:α->Prop} (h:kT c P) (hP:∀x∈ys,P x) {i j:Nat} (hi:i<ys.length) (hj:j<ys.length) (hij:i<j):dQ c ys j i↔c ys[j] ys[i]<0:=by
 constructor
 ·rintro⟨_,_,h1|h1⟩
  ·exact h1
  ·omega
 ·intro h1;exact⟨hj,hi,.inl h1⟩
structure mS (c:α->α->Int) (ys:List α) (σ:Nat->Nat) (a i j:Nat):Prop where
 within:eR σ a (i+1)
 le:a<=j/\j<=i
 y4:σ j=i
 jj:∀p q,a<=p->p<q->q<=i->p≠j->q≠j->dQ c ys (σ p) (σ q)
 LJ:∀q,j<q->q<=i->dQ c ys i (σ q)
theorem mS.start {c:α->α->Int} (h:eR σ a i) (ha:a<=i) (hs:gV (dQ c ys) σ a i):mS c ys σ a i i:=
 ⟨h.mono (Nat.le_refl _) (by omega),⟨ha,Nat.le_refl _⟩,h.out i (by omega),λp q h1 h2 h3 h4 h5=>hs p q h1 h2 (by omega),λq h1 h2=>by omega⟩
theorem mS.step {c:α->α->Int} (h:mS c ys σ a i j) (hj:a<j) (hlt:dQ c ys i (σ (j-1))):mS c ys (jV σ j (j-1)) a i (j-1):=by
 have e0:jV σ j (j-1) (j-1)=i:=by unfold jV;rw[if_neg (by omega),if_pos rfl];exact h.y4
 have e1:jV σ j (j-1) j=σ (j-1):=by unfold jV;rw[if_pos rfl]
 have e2:∀k,k≠j->k≠j-1->jV σ j (j-1) k=σ k:=λk h1 h2=>by unfold jV;rw[if_neg h1,if_neg h2]
 have hle:=h.le;refine⟨h.within.swap ⟨by omega,by omega⟩ ⟨by omega,by omega⟩,⟨by omega,by omega⟩,e0,λp q h1 h2 h3 h4 h5=>?_,λq h1 h2=>?_⟩
 ·by_cases y5:p=j
  ·subst y5;rw[e1,e2 q (by omega) (by omega)];exact h.jj (p-1) q (by omega) (by omega) h3 (by omega) (by omega)
  ·by_cases eq:q=j
   ·subst eq;rw[e1,e2 p (by omega) (by omega)];exact h.jj p (q-1) h1 (by omega) (by omega) (by omega) (by omega)
   ·rw[e2 p y5 h4,e2 q eq h5];exact h.jj p q h1 h2 h3 y5 eq
 ·by_cases eq:q=j
  ·subst eq;rw[e1];exact hlt
  ·rw[e2 q eq (by omega)];exact h.LJ q (by omega) h2
theorem mS.done {c:α->α->Int} {P:α->Prop} (hc:kT c P) (hP:∀x∈ys,P x) (h:mS c ys σ a i j) (hi:i<ys.length) (hj:j=a\/¬dQ c ys i (σ (j-1))):eR σ a (i+1)/\gV (dQ c ys) σ a (i+1):=by
 have hle:=h.le;refine⟨h.within,λp q h1 h2 h3=>?_⟩;by_cases y5:p=j
 ·subst y5;rw[h.y4];exact h.LJ q h2 (by omega)
 ·by_cases eq:q=j
  ·subst eq;rw[h.y4];rcases hj with hj|hj
   ·omega
   ·have hw:=h.within.j5 (q-1) (by omega) (by omega);have hne:σ (q-1)≠i:=λe=>by have:=h.within.inj (q-1) q (by rw[e,h.y4]);omega
    have hl:dQ c ys (σ (q-1)) i:=(GB hc hP (by omega) hi hne).resolve_right hj;by_cases e:p=q-1
    ·rw[e];exact hl
    ·exact GA hc hP (h.jj p (q-1) h1 (by omega) (by omega) (by omega) (by omega)) hl
  ·exact h.jj p q h1 h2 (by omega) y5 eq
end
inductive qE where
 |run (L:List (Nat×Bool))
 |one (A:List Nat) (i:Nat) (t:qE)
 |fork (A:List Nat) (i:Nat) (t:qE) (i':Nat) (t':qE)
 |GD (A:List Nat) (i:Nat) (t:qE) (i':Nat) (t':qE) (i2:Nat) (t2:qE)
def mA (Q:Exit->Act->World->Prop) (K:Act->World->Prop):Exit->Act->World->Prop
 | .normal,a,w=>K a w
 |e,a,w=>Q e a w
def mT (P:Program) (ops:Array Oper) (S:World->Prop) (Q:Exit->Act->World->Prop):qE->Act->World->Prop
 | .run L,a,w=>jg P ops S Q L a w
 | .one A i t,a,w=>jg P ops S (mA Q λa w=>wpOp P ops Q i (λa' w'=>S w'/\mT P ops S Q t a' w') a w) (A.map λj=>(j,true)) a w
 | .fork A i t i' t',a,w=>jg P ops S (mA Q λa w=>wpOp P ops Q i (λa' w'=>S w'/\mT P ops S Q t a' w') a w/\wpOp P ops Q i' (λa' w'=>S w'/\mT P ops S Q t' a' w') a w) (A.map λj=>(j,true)) a w
 | .GD A i t i' t' i2 t2,a,w=>jg P ops S (mA Q λa w=>wpOp P ops Q i (λa' w'=>S w'/\mT P ops S Q t a' w') a w/\wpOp P ops Q i' (λa' w'=>S w'/\mT P ops S Q t' a' w') a w/\wpOp P ops Q i2 (λa' w'=>S w'/\mT P ops S Q t2 a' w') a w) (A.map λj=>(j,true)) a w
def vw (ops:Array Oper) (cZ:Nat) (k:Nat->Array Bool->Bool):Nat->Array Bool->List Nat->Bool
 |n,listed,[]=>k n listed
 |0,_,_::_=>false
 |n+1,listed,j::A=>!Nat.beq j cZ&&(Nat.ble ops.size cZ||needs ops 8 cZ j)&&Region.free .any ops listed j&&(Region.ready .any ops listed).contains j&&vw ops cZ k n (listed.setIfInBounds j true) A
def vA (ops:Array Oper) (cZ:Nat):qE->Nat->Array Bool->Bool
 | .run L,n,listed=>rB ops cZ n listed L
 | .one A i t,n,listed=>vw ops cZ (λn l=>match n with|0=>false|n+1=>(Region.ready .any ops l==[i])&&vA ops cZ t n (l.setIfInBounds i true)) n listed A
 | .fork A i t i' t',n,listed=>vw ops cZ (λn l=>match n with
  |0=>false
  |n+1=>((Region.ready .any ops l==[i,i'])||(Region.ready .any ops l==[i',i]))&&vA ops cZ t n (l.setIfInBounds i true)&&vA ops cZ t' n (l.setIfInBounds i' true)) n listed A
 | .GD A i t i' t' i2 t2,n,listed=>vw ops cZ (λn l=>match n with
  |0=>false
  |n+1=>(Region.ready .any ops l).all (λj=>Nat.beq j i||Nat.beq j i'||Nat.beq j i2)&&(Region.ready .any ops l).contains i&&(Region.ready .any ops l).contains i'&&(Region.ready .any ops l).contains i2&&vA ops cZ t n (l.setIfInBounds i true)&&vA ops cZ t' n (l.setIfInBounds i' true)&&vA ops cZ t2 n (l.setIfInBounds i2 true)) n listed A
section
variable {P:Program} {ops:Array Oper} {S:World->Prop} {Q:Exit->Act->World->Prop}
theorem D4 (hs:Region.noSelect ops=true) (hQ:∀c a d v w,Q (.panic c) (Act.put a d v) w->Q (.panic c) a w) {cZ:Nat} {k:Nat->Array Bool->Bool} {K:Act->World->Prop}
  (hk:∀n listed a w,k n listed=true->mP ops listed->S w->K a w->o_ P ops Q S cZ n listed a w):
  ∀(n:Nat) (listed:Array Bool) (A:List Nat) (a:Act) (w:World),vw ops cZ k n listed A=true->mP ops listed->S w->
   jg P ops S (mA Q K) (A.map λj=>(j,true)) a w->o_ P ops Q S cZ n listed a w
 |n,listed,[],a,w,hc,dN,hS,h=>by
  unfold vw at hc;exact hk n listed a w hc dN hS h
 |0,listed,_::_,a,w,hc,_,_,_=>by simp[vw] at hc
 |n+1,listed,j::A,a,w,hc,dN,hS,h=>by
  simp only[vw,Bool.and_eq_true] at hc;obtain⟨⟨⟨⟨h1,h2⟩,h3⟩,h4⟩,h5⟩:=hc;obtain⟨o,v,hi,hy,h⟩:=h;have hr:j∈Region.ready .any ops listed:=by simpa using h4
  exact AW hi (Region.noSelect_spec hs) (λc a w hq=>hQ c a _ _ w hq) (λe=>by subst e;simp at h1) (Dz h2) n listed a w dN (Region.free_spec hi h3) hr hy hS (D4 hs hQ hk n _ A _ w h5 (mo dN hr) hS h)
theorem xd (hs:Region.noSelect ops=true) (hQ:∀c a d v w,Q (.panic c) (Act.put a d v) w->Q (.panic c) a w) {cZ:Nat}:
  ∀(t:qE) (n:Nat) (listed:Array Bool) (a:Act) (w:World),vA ops cZ t n listed=true->mP ops listed->S w->mT P ops S Q t a w->o_ P ops Q S cZ n listed a w
 | .run L,n,listed,a,w,hc,dN,hS,h=>wL hs hQ n listed L a w hc dN (λ_=>hS) h
 | .one A i t,n,listed,a,w,hc,dN,hS,h=>by
  refine D4 hs hQ (λn listed a w hk dN hS h=>?_) n listed A a w hc dN hS h;cases n with
  |zero=>cases hk
  |succ n=>
   simp only[Bool.and_eq_true,beq_iff_eq] at hk;obtain⟨h0,h1⟩:=hk;have hr:i∈Region.ready .any ops listed:=by rw[h0];simp
   refine⟨λwM=>(by rw[wM] at h0;cases h0),λj hj=>?_⟩;rw[h0,List.mem_singleton] at hj;subst hj;exact wpOp_mono (λa' w' g=>⟨λ_=>g.1,xd hs hQ t n _ a' w' h1 (mo dN hr) g.1 g.2⟩) h
 | .fork A i t i' t',n,listed,a,w,hc,dN,hS,h=>by
  refine D4 hs hQ (λn listed a w hk dN hS h=>?_) n listed A a w hc dN hS h;cases n with
  |zero=>cases hk
  |succ n=>
   simp only[Bool.and_eq_true,Bool.or_eq_true,beq_iff_eq] at hk;obtain⟨⟨h0,h1⟩,h2⟩:=hk;have hm:∀j,j∈Region.ready .any ops listed↔j=i\/j=i':=λj=>by
    rcases h0 with e|e<;>rw[e]<;>simp[or_comm]
   have hr:i∈Region.ready .any ops listed:=(hm i).2 (.inl rfl);have hr':i'∈Region.ready .any ops listed:=(hm i').2 (.inr rfl);refine⟨λwM=>(by rw[wM] at hr;cases hr),λj hj=>?_⟩;rcases(hm j).1 hj with rfl|rfl
   ·exact wpOp_mono (λa' w' g=>⟨λ_=>g.1,xd hs hQ t n _ a' w' h1 (mo dN hr) g.1 g.2⟩) h.1
   ·exact wpOp_mono (λa' w' g=>⟨λ_=>g.1,xd hs hQ t' n _ a' w' h2 (mo dN hr') g.1 g.2⟩) h.2
 | .GD A i t i' t' i2 t2,n,listed,a,w,hc,dN,hS,h=>by
  refine D4 hs hQ (λn listed a w hk dN hS h=>?_) n listed A a w hc dN hS h;cases n with
  |zero=>cases hk
  |succ n=>
   simp only[Bool.and_eq_true] at hk;obtain⟨⟨⟨⟨⟨⟨h0,r1⟩,r2⟩,r3⟩,h1⟩,h2⟩,h3⟩:=hk;have hr:i∈Region.ready .any ops listed:=by simpa using r1
   have hr':i'∈Region.ready .any ops listed:=by simpa using r2
   have mB:i2∈Region.ready .any ops listed:=by simpa using r3
   refine⟨λwM=>(by rw[wM] at hr;cases hr),λj hj=>?_⟩;have hj2:=List.all_eq_true.1 h0 j hj;simp only[Bool.or_eq_true] at hj2;rcases hj2 with(e|e)|e<;>have e:=Nat.eq_of_beq_eq_true e<;>subst e
   ·exact wpOp_mono (λa' w' g=>⟨λ_=>g.1,xd hs hQ t n _ a' w' h1 (mo dN hr) g.1 g.2⟩) h.1
   ·exact wpOp_mono (λa' w' g=>⟨λ_=>g.1,xd hs hQ t' n _ a' w' h2 (mo dN hr') g.1 g.2⟩) h.2.1
   ·exact wpOp_mono (λa' w' g=>⟨λ_=>g.1,xd hs hQ t2 n _ a' w' h3 (mo dN mB) g.1 g.2⟩) h.2.2
theorem LK {K:Act->World->Prop} (h:LetsOut (mA Q K)):LetsOut Q:=h
theorem D5 {i:Nat} {a:Act} {w:World} {K X:Act->World->Prop} (h:wpOp P ops (mA Q K) i X a w):wpOp P ops Q i X a w:=by
 unfold wpOp at*;cases ho:ops[i]? with
 |none=>rw[ho] at h;exact h
 |some o=>
  rw[ho] at h;simp only at h⊢;split at h
  ·rename_i hw;rw[if_pos hw];refine h.imp (λh=>?_) (λh=>⟨h.1,LK h.2⟩);unfold Oper.wp at*;generalize (execOp a.eval o).run P w=r at*;cases r with
   |ok n w'=>
    cases n<;>simp only[Oper.upon] at h⊢<;>first|exact h|exact Calls.mono h (λe w'' he=>by cases e<;>first|exact he|exact LK he)
   |halt x w'=>cases x<;>simp only[Oper.upon] at h⊢<;>exact h
  ·rename_i hw;rw[if_neg hw];exact h
end
def D6 (P:Program) (N:Nat) (Q:Exit->Act->World->Prop) (ops:Array Oper) (S:World->Prop) (t:qE) (env:Env) (w:World):Prop:=∀a,gY N env a->mT P ops S Q t a w
section
variable {P:Program} {N:Nat} {Q:Exit->Act->World->Prop} {ops:Array Oper} {S S':World->Prop} {A:List Nat} {i i' i2:Nat} {t t' t2:qE} {L:List (Nat×Bool)} {env:Env} {w:World}
theorem pF (h:bK P N Q ops S L env w):D6 P N Q ops S (.run L) env w:=h
theorem xe (h:bK P N (mA Q λa w=>wpOp P ops Q i (λa' w'=>S w'/\mT P ops S Q t a' w') a w/\wpOp P ops Q i' (λa' w'=>S w'/\mT P ops S Q t' a' w') a w) ops S (A.map λj=>(j,true)) env w):D6 P N Q ops S (.fork A i t i' t') env w:=h
theorem xg (h:bK P N (mA Q λa w=>S w/\mT P ops S Q t a w) ops S [(i,false)] env w) (h':bK P N (mA Q λa w=>S w/\mT P ops S Q t' a w) ops S [(i',false)] env w):
  bK P N (mA Q λa w=>wpOp P ops Q i (λa' w'=>S w'/\mT P ops S Q t a' w') a w/\wpOp P ops Q i' (λa' w'=>S w'/\mT P ops S Q t' a' w') a w) ops S [] env w:=λa ha=>by
 show wpOp P ops Q i (λa' w'=>S w'/\mT P ops S Q t a' w') a w/\wpOp P ops Q i' (λa' w'=>S w'/\mT P ops S Q t' a' w') a w;exact⟨wpOp_mono (λa' w' g=>g.2) (D5 (h a ha)),wpOp_mono (λa' w' g=>g.2) (D5 (h' a ha))⟩
theorem pG (hS:S w) (h:D6 P N Q ops S t env w):bK P N (mA Q λa w=>S w/\mT P ops S Q t a w) ops S' [] env w:=λa ha=>⟨hS,h a ha⟩
variable {f:FuncId} {k:List Item} {R:Value->World->Prop}
theorem xh {c:Code} {id:Nat} (I:List Nat) (C:Nat->Nat) (cZ:Nat) (t:qE) (hm:P.follows .mixedOrders=true) (hc:c=.region id ops true)
  (hn:Region.noSelect ops=true) (hk:vA ops cZ t ops.size (Array.replicate ops.size false)=true)
  (h:∀w₁,aA [] w C w₁ C->D6 P N (pY P f k R) ops (λw'=>Ext (λb=>C b∈I) w₁ w') t env w₁):Run P f N (.code c::k) env w R:=λa ha=>by
 subst hc;exact wI (wp_region_any hm (wK _ _ _ _ (xd hn (λc a d v w h=>h.elim) t _ _ a _ hk (AY ops) (Ext.refl _ _) (h _ (aA.drew [] w C) a ha))))
end
def xk (ops:Array Oper) (cZ:Nat) (kU:List (Nat×Bool)):Nat->Array Bool->List (Nat×Bool)->Bool
 |0,_,[]=>false
 |n+1,listed,[]=>(Region.ready .any ops listed==[cZ])&&(listed.setIfInBounds cZ true).getD cZ false&&rB ops (Dy ops.size kU) n (listed.setIfInBounds cZ true) kU
 |0,_,_::_=>false
 |n+1,listed,(i,true)::L=>!Nat.beq i cZ&&needs ops 8 cZ i&&Region.free .any ops listed i&&(Region.ready .any ops listed).contains i&&xk ops cZ kU n (listed.setIfInBounds i true) L
 |n+1,listed,(i,false)::L=>(Region.ready .any ops listed==[i])&&!Nat.beq i cZ&&xk ops cZ kU n (listed.setIfInBounds i true) L
section
variable {P:Program} {ops:Array Oper} {S:World->Prop} {Q:Exit->Act->World->Prop}
theorem LL {cZ:Nat}:∀(fuel:Nat) (listed:Array Bool) (a:Act) (w:World),listed.getD cZ false=true->wpAny P .any ops Q fuel listed a w->o_ P ops Q S cZ fuel listed a w
 |0,listed,a,w,_,h=>h
 |fuel+1,listed,a,w,hj,h=>⟨h.1,λi hi=>wpOp_mono (λa' w' h'=>⟨λe=>(by rw[getD_set_true hj] at e;cases e),LL fuel _ a' w' (getD_set_true hj) h'⟩) (h.2 i hi)⟩
theorem GF (hs:Region.noSelect ops=true) (hQ:∀c a d v w,Q (.panic c) (Act.put a d v) w->Q (.panic c) a w) {cZ:Nat} {kU:List (Nat×Bool)}:
  ∀(n:Nat) (listed:Array Bool) (L:List (Nat×Bool)) (a:Act) (w:World),xk ops cZ kU n listed L=true->mP ops listed->S w->
   jg P ops S (mA Q λa w=>S w/\wpOp P ops Q cZ (λa' w'=>jg P ops (λ_=>True) Q kU a' w') a w) L a w->o_ P ops Q S cZ n listed a w
 |0,_,[],a,w,hc,_,_,_=>by cases hc
 |0,_,_::_,a,w,hc,_,_,_=>by cases hc
 |n+1,listed,[],a,w,hc,dN,hS,h=>by
  simp only[xk,Bool.and_eq_true,beq_iff_eq] at hc;obtain⟨⟨h1,h2⟩,h3⟩:=hc;have h:S w/\wpOp P ops Q cZ (λa' w'=>jg P ops (λ_=>True) Q kU a' w') a w:=h;have hr:cZ∈Region.ready .any ops listed:=by rw[h1];simp
  refine⟨λh0=>(by rw[h0] at h1;cases h1),λj hj=>?_⟩;rw[h1,List.mem_singleton] at hj;subst hj;exact wpOp_mono (λa' w' h'=>⟨λe=>(by rw[h2] at e;cases e),LL n _ a' w' h2 (wK _ _ _ _ (wL hs hQ n _ kU a' w' h3 (mo dN hr) (λ_=>trivial) h'))⟩) h.2
 |n+1,listed,(i,true)::L,a,w,hc,dN,hS,h=>by
  simp only[xk,Bool.and_eq_true] at hc;obtain⟨⟨⟨⟨h1,h2⟩,h3⟩,h4⟩,h5⟩:=hc;obtain⟨o,v,hi,hy,h⟩:=h;have hr:i∈Region.ready .any ops listed:=by simpa using h4
  exact AW hi (Region.noSelect_spec hs) (λc a w hq=>hQ c a _ _ w hq) (λe=>by subst e;simp at h1) (Dz (by rw[h2,Bool.or_true])) n listed a w dN (Region.free_spec hi h3) hr hy hS (GF hs hQ n _ L _ w h5 (mo dN hr) hS h)
 |n+1,listed,(i,false)::L,a,w,hc,dN,hS,h=>by
  simp only[xk,Bool.and_eq_true,beq_iff_eq] at hc;obtain⟨⟨h1,h2⟩,h3⟩:=hc;have hr:i∈Region.ready .any ops listed:=by rw[h1];simp
  have h:=D5 (h:wpOp P ops (mA Q λa w=>S w/\wpOp P ops Q cZ (λa' w'=>jg P ops (λ_=>True) Q kU a' w') a w) i (λa' w'=>(yJ L=true->S w')/\jg P ops S (mA Q λa w=>S w/\wpOp P ops Q cZ (λa' w'=>jg P ops (λ_=>True) Q kU a' w') a w) L a' w') a w);refine⟨λh0=>(by rw[h0] at h1;cases h1),λj hj=>?_⟩;rw[h1,List.mem_singleton] at hj;subst hj;refine wpOp_mono (λa' w' h'=>?_) h;have LM:S w':=by
   cases L with
   |nil=>have:S w'/\wpOp P ops Q cZ (λa' w'=>jg P ops (λ_=>True) Q kU a' w') a' w':=h'.2;exact this.1
   |cons x L=>exact h'.1 rfl
  exact⟨λ_=>LM,GF hs hQ n _ L a' w' h3 (mo dN hr) LM h'.2⟩
end
section
variable {P:Program} {N:Nat} {Q:Exit->Act->World->Prop} {ops:Array Oper} {S S':World->Prop} {cZ:Nat} {kU:List (Nat×Bool)} {env:Env} {w:World}
theorem Uh (hS:S w) (h:bK P N (mA Q λa w=>jg P ops (λ_=>True) Q kU a w) ops (λ_=>True) [(cZ,false)] env w):
  bK P N (mA Q λa w=>S w/\wpOp P ops Q cZ (λa' w'=>jg P ops (λ_=>True) Q kU a' w') a w) ops S [] env w:=λa ha=>by
 show S w/\wpOp P ops Q cZ (λa' w'=>jg P ops (λ_=>True) Q kU a' w') a w;exact⟨hS,wpOp_mono (λa' w' g=>g.2) (D5 (h a ha))⟩
theorem Ui (h:bK P N Q ops (λ_=>True) kU env w):bK P N (mA Q λa w=>jg P ops (λ_=>True) Q kU a w) ops (λ_=>True) [] env w:=λa ha=>h a ha
variable {f:FuncId} {k:List Item} {R:Value->World->Prop}
theorem Uj {c:Code} {id:Nat} (I:List Nat) (C:Nat->Nat) (cZ:Nat) (L kU:List (Nat×Bool)) (hm:P.follows .mixedOrders=true) (hc:c=.region id ops true)
  (hn:Region.noSelect ops=true) (hk:xk ops cZ kU ops.size (Array.replicate ops.size false) L=true)
  (h:∀w₁,aA [] w C w₁ C->bK P N (mA (pY P f k R) λa w=>Ext (λb=>C b∈I) w₁ w/\wpOp P ops (pY P f k R) cZ (λa' w'=>jg P ops (λ_=>True) (pY P f k R) kU a' w') a w) ops (λw'=>Ext (λb=>C b∈I) w₁ w') L env w₁):Run P f N (.code c::k) env w R:=λa ha=>by
 subst hc;exact wI (wp_region_any hm (wK _ _ _ _ (GF hn (λc a d v w h=>h.elim) _ _ L a _ hk (AY ops) (Ext.refl _ _) (h _ (aA.drew [] w C) a ha))))
end
structure LN where
 pr:Int
 bL:List Int
 df:List Int
instance:aY LN:=aY.via (λx:LN=>(x.pr,(x.bL,x.df)))
section
variable {P:Program} {N:Nat} {env:Env} {y z:Operand} {t e:TypeId} {b o o' n len:Nat} {k:IntKind} {i:Int} {w:World} {v:Value} {M:Nat->Prop}
theorem GG {cs:List Value} (hu:P.underlying t=some (.array len e)) (hn:gN P e=some 1) (ha:iw P e=some false) (hy:ev env y=some (.agg cs.toArray)) (hz:ev env z=some (.int k i))
  (h0:0<=i) (h1:i<len) (hv:cs[i.toNat]?=some v):cH P N env (.index t y z) w v:=mk' λρ hρ eD ho=>by
 unfold execOp;rw[ho];simp[hρ _ _ hy,hρ _ _ hz,go_sem,Instr.index,asIntOf,run_underlying hu,j0 hn,h0,h1,part,qz ha,hv]
theorem LO {parts:Array (Nat×Operand)} {zs cs:List Value} {ei:List (Nat×List Value)} (hu:P.underlying t=some (.array len e)) (hn:gN P e=some n) (hz:sD P t=some zs)
  (hq:rH env parts.toList ei) (hf:tD (λi=>some (i*n,n)) zs ei=some cs):cH P N env (.build t parts) w (.agg cs.toArray):=mk' λρ hρ o ho=>by
 obtain⟨z,h1,h2⟩:=A4 hz w;have hmap:=rH.map hρ hq;have lQ:=fill_eq (λi=>some (i*n,n)) (parts.toList.map λp=>(p.1,ρ p.2)) ei zs cs (by rw[<-hmap]) hf;have FZ:Instr.fill (λi=>some (i*n,n)) z.cells (parts.map λx=>(x.1,ρ x.2)).toList=some cs.toArray:=by
  rw[h2];have: (parts.map λx=>(x.1,ρ x.2)).toList=parts.toList.map λp=>(p.1,ρ p.2):=by simp
  rw[this,<-lQ]
 unfold execOp;rw[ho];simp only[Instr.build,Sem.run_bind,h1,Result.andThen_ok,run_underlying hu,j0 hn];rw[show(parts.map λx=>match x with|(i,x)=>(i,ρ x)).toList=(parts.map λx=>(x.1,ρ x.2)).toList from rfl,FZ];rfl
end
def rN (x:Int):Prop:=-65536<=x/\x<=65536
instance (x:Int):Decidable (rN x):=by unfold rN;infer_instance
structure lV (pr:Int) (bL df:List Int):Prop where
 l1:1<=bL.length
 tL:bL.length<=5
 ld:df.length=bL.length
 fp:rN pr
 fa:∀i (h:i<bL.length),rN bL[i]
 fd:∀i (h:i<df.length),rN df[i]
def sL (p i:Nat):Nat:=p/3^i%3
def rO (p n:Nat):List Nat:=(List.range n).map (sL p)
theorem LP (p i:Nat):sL p i<3:=Nat.mod_lt _ (by decide)
theorem GH (p n:Nat): (rO p n).length=n:=by simp[rO]
theorem Uk {p n i:Nat} (h:i<(rO p n).length): (rO p n)[i]=sL p i:=by simp[rO]
theorem Ul (p n:Nat):rO p (n+1)=rO p n++[sL p n]:=by simp[rO,List.range_succ]
def LQ (bL df:List Int) (f:Nat):List Int:=[0,df.getD f 0,bL.getD f 0]
def Bs (bL df:List Int) (p f:Nat):Int:=(LQ bL df f).getD (sL p f) 0
def qi (pr:Int) (bL df:List Int) (p:Nat):Nat->Int
 |0=>pr
 |k+1=>qi pr bL df p k+Bs bL df p k
theorem lV.a {pr:Int} {bL df:List Int} (h:lV pr bL df) {i:Nat} (hi:i<bL.length):-65536<=bL.getD i 0/\bL.getD i 0<=65536:=by rw[rM hi];exact h.fa i hi
theorem lV.d {pr:Int} {bL df:List Int} (h:lV pr bL df) {i:Nat} (hi:i<bL.length):-65536<=df.getD i 0/\df.getD i 0<=65536:=by rw[rM (by rw[h.ld];exact hi)];exact h.fd i (by rw[h.ld];exact hi)
theorem lV.LR {pr:Int} {bL df:List Int} (h:lV pr bL df) {i:Nat} (hi:i<bL.length) (p:Nat):-65536<=Bs bL df p i/\Bs bL df p i<=65536:=by
 have h1:=h.a hi;have h2:=h.d hi;have h3:=LP p i;unfold Bs LQ
 match e:sL p i,h3 with
 |0,_=>simp
 |1,_=>simpa using h2
 |2,_=>simpa using h1
theorem lV.LS {pr:Int} {bL df:List Int} (h:lV pr bL df) (p:Nat):∀k,k<=bL.length->-65536*((k:Int)+1)<=qi pr bL df p k/\qi pr bL df p k<=65536*((k:Int)+1)
 |0,_=>by have:=h.fp;unfold rN at this;unfold qi;constructor<;>omega
 |k+1,hk=>by
  have h1:=h.LS p k (by omega);have h2:=h.LR (i:=k) (by omega) p;unfold qi;constructor<;>omega
theorem lV.sc {pr:Int} {bL df:List Int} (h:lV pr bL df) (p:Nat) {k:Nat} (hk:k<=bL.length):-393216<=qi pr bL df p k/\qi pr bL df p k<=393216:=by
 have:=h.LS p k hk;have:=h.tL;omega
theorem LU {n:Nat} (h:n<=5):3^n<=243:=Nat.le_trans (Nat.pow_le_pow_right (by decide) h) (by decide)
theorem GJ {n:Nat} (h:n<=5): ([.int .i64 1,.int .i64 3,.int .i64 9,.int .i64 27,.int .i64 81,.int .i64 243]:List Value)[((n:Nat):Int).toNat]?=some (.int .i64 ((3^n:Nat):Int)):=by
 rw[Int.toNat_natCast]
 match n,h with
 |0,_=>rfl
 |1,_=>rfl
 |2,_=>rfl
 |3,_=>rfl
 |4,_=>rfl
 |5,_=>rfl
section
variable {P:Program} {f:FuncId} {N:Nat} {k:List Item} {env:Env} {w:World} {R:Value->World->Prop}
end
structure Bt (lo hi:Int):Prop where
 h1:1<=hi
 h2:hi<=65536
 l1:-65536<=lo
 l2:lo<=hi
structure rP (n:Nat) (bL df:List Int):Prop where
 la:bL.length=n
 ld:df.length=n
 ba:∀x∈bL,-3<=x/\x<=60
 bd:∀x∈df,-60<=x/\x<=3
theorem rP.nil:rP 0 [] []:=⟨rfl,rfl,by simp,by simp⟩
theorem rP.snoc {n:Nat} {bL df:List Int} {p q:Int} (h:rP n bL df) (h1:-3<=p) (h2:p<=60) (h3:-60<=q) (h4:q<=3):rP (n+1) (bL++[p]) (df++[q]):=
 ⟨by simp[h.la],by simp[h.ld],λx hx=>by
  rcases List.mem_append.1 hx with hx|hx
  ·exact h.ba x hx
  ·rw[List.mem_singleton.1 hx];exact⟨h1,h2⟩,λx hx=>by
  rcases List.mem_append.1 hx with hx|hx
  ·exact h.bd x hx
  ·rw[List.mem_singleton.1 hx];exact⟨h3,h4⟩⟩
theorem rP.ok {n:Nat} {pr:Int} {bL df:List Int} (h:rP n bL df) (h1:1<=n) (h5:n<=5) (h2:-40<=pr) (h3:pr<=10):lV pr bL df:=
 ⟨by rw[h.la];exact h1,by rw[h.la];exact h5,by rw[h.la,h.ld],by unfold rN;omega,λi hi=>by have:=h.ba _ (List.getElem_mem hi);unfold rN;omega,λi hi=>by have:=h.bd _ (List.getElem_mem hi);unfold rN;omega⟩
theorem y6 {α:Type} {l:List α} {i:Nat} {d:α} (h:i<l.length):l.getD i d=l[i]:=by rw[List.getD_eq_getElem?_getD,List.getElem?_eq_getElem h];rfl
theorem uQ.Um {k:IntKind} {a b:uQ k} (h:a.n=b.n):a=b:=by cases a;cases b;simp only at h;subst h;rfl
instance {k:IntKind}:DecidableEq (uQ k):=λa b=>decidable_of_iff (a.n=b.n) ⟨uQ.Um,λh=>by rw[h]⟩
instance {k:IntKind}:Inhabited (uQ k):=⟨⟨0⟩⟩
structure Bits where
 len:Int
 words:List iM
 deriving DecidableEq
instance:aY Bits:=aY.via (λx:Bits=>(x.len,x.words))
instance:Inhabited Bits:=⟨⟨0,[]⟩⟩
structure GK where
 arr:Bits
 mem:List Int
instance:aY GK:=aY.via (λx:GK=>(x.arr,x.mem))
instance:Inhabited GK:=⟨⟨⟨0,[]⟩,[]⟩⟩
structure GL where
 val:ByteArray
 cnt:Int
instance:aY GL:=aY.via (λx:GL=>(x.val,x.cnt))
structure LV where
 Un:Int
 val:ByteArray
instance:aY LV:=aY.via (λx:LV=>(x.Un,x.val))
section
variable {w:World} {M:Nat->Prop} {b o:Nat} {v u:Value}
theorem D7 {x:Bits}:aB w M x v↔∃u,v=.agg #[.int .i64 x.len,u]/\aB w M x.words u:=by
 constructor
 ·rintro⟨vs,⟨us,ws,rfl,h1,h2⟩,hv⟩;have hl:=aY.len h2;obtain⟨u,rfl⟩:=List.length_eq_one_iff.1 hl;have sE:us=[.int .i64 x.len]:=h1;subst sE;exact⟨u,hv,qy h2 rfl⟩
 ·rintro⟨u,rfl,h⟩;exact⟨[.int .i64 x.len,u],⟨[.int .i64 x.len],[u],rfl,rfl,h.rE rfl⟩,rfl⟩
end
def tM (n:Int):Bool:=decide (64<=n)&&decide (n<=512)&&decide (n%64=0)
def ko (b:Bits):Bool:=tM b.len&&decide ((b.words.length:Int)=b.len/64)
theorem LW {n:Int}:tM n=true↔64<=n/\n<=512/\n%64=0:=by unfold tM;simp[and_assoc]
theorem xl {b:Bits}:ko b=true↔(64<=b.len/\b.len<=512/\b.len%64=0)/\(b.words.length:Int)=b.len/64:=by unfold ko;rw[Bool.and_eq_true,LW];simp
section
variable {cl:List Bits} {k n:Nat}
def GN (cl:List Bits) (i:Nat):Bits:=cl.getD i default
def LX (cl:List Bits) (k:Nat):List Nat:=(List.range k).filter λi=>ko (GN cl i)
abbrev LY (cl:List Bits) (k:Nat):List Nat:=dJ (GN cl) (LX cl k)
abbrev Uo (cl:List Bits) (k:Nat):List (List Nat):=gI (GN cl) (LX cl k)
end
def Up (l:List Int) (i:Nat):Int:=l.getD i 0
section
variable {sz:List Int} {es:List GL} {u:List (Int×ByteArray)} {i j k:Nat}
end
section
variable {cl:List Bits} {n g g2 i j K:Nat} {D8:List Int}
abbrev LZ (cl:List Bits) (n g:Nat):List Nat:=(Uo cl n).getD g []
structure Uq (cl:List Bits) (n K j:Nat) (D8:List Int):Prop where
 len:D8.length=n
 bw:∀i,i<n->∀g:Nat,Up D8 i=g↔g<(LY cl n).length/\(g<K/\i∈LZ cl n g\/g=K/\i∈(LZ cl n g).take j)
section
variable (h:Uq cl n (LY cl n).length 0 D8)
include h
end
end
section
variable {α:Type} [aY α] {w w':World} {C bu D D':Nat->Nat} {I:List Nat} {e:TypeId} {v:Value} {ys:List α} {x:α} {j j1 i b:Nat} {t:TypeId}
theorem aX.nL (h:aX w' bu j1 e v ys) (hs:aA I w D w' bu) (hF:aL w C) (hD:ax D=ax C) (hj:∀b,b<w.heap.size->D b≠j1) (h1:j1≠0) (j:Nat) (hjj:j≠0):
  ∃aP,(∀b,b<w.heap.size->aP b=C b)/\aL w' aP/\(∀b,ax aP b->ax bu b)/\aX w' aP j e v ys:=by
 have old:∀b,ax C b->ax bu b:=λb hb=>by
  have hlt:=hF b hb;unfold ax;rw[hs.col b hlt];have:ax D b:=by rw[hD];exact hb
  exact this
 have fresh:∀b,c4 v b->¬b<w.heap.size:=λb hb hlt=>hj b hlt (by rw[<-hs.col b hlt];exact h.col b hb);refine⟨gT C v j,λb hb=>?_,λb hb=>?_,λb hb=>?_,⟨h.own.sub (λb _ hb=>?_) (λb hb=>?_),λb hb=>?_⟩⟩
 ·unfold gT;rw[if_neg (show¬v.ownBlock=some b from λe=>fresh b e hb)]
 ·by_cases ho:c4 v b
  ·exact(h.own.ga b ho).2
  ·unfold gT at hb;rw[if_neg (show¬v.ownBlock=some b from ho)] at hb;exact Nat.lt_of_lt_of_le (hF b hb) hs.size
 ·by_cases ho:c4 v b
  ·unfold ax;rw[h.col b ho];exact h1
  ·unfold ax gT at hb;rw[if_neg (show¬v.ownBlock=some b from ho)] at hb;exact old b hb
 ·by_cases ho:c4 v b
  ·unfold ax;rw[h.col b ho];exact h1
  ·unfold ax gT at hb;rw[if_neg (show¬v.ownBlock=some b from ho)] at hb;exact old b hb
 ·unfold ax gT;rw[if_pos (show v.ownBlock=some b from hb)];exact hjj
 ·unfold gT;rw[if_pos (show v.ownBlock=some b from hb)]
theorem aA.nL {aP:Nat->Nat} (h:aA I w C w' D') (hc:∀b,b<w.heap.size->aP b=C b):aA I w C w' aP:=⟨h.ext,hc⟩
theorem aB.nL {aP:Nat->Nat} (h:aB w' (ax bu) x v) (fA:∀b,ax aP b->ax bu b):aB w' (ax aP) x v:=h.sub (λb _ hb=>fA b hb)
end
section
variable {α:Type} [aY α] {P:Program} {N:Nat} {env:Env} {w:World} {M:Nat->Prop} {t e e':TypeId} {v s:Value} {x y z q:Operand} {xs ys zs:List α}
theorem L1 {zs:List α} {sb so:Nat} {p8:Array Value} {A6:TypeId} {A7:Nat×Nat} (hsc:w.heap[sb]?=some (.cells p8 A6 A7)) (hsl:so+zs.length*sz α<=p8.size)
  (A8:∀k (hk:k<zs.length),rep w.heap M zs[k] (cL p8 (so+k*sz α) (sz α))):
  ∃news:List Value,news.length=zs.length*sz α/\(∀j v,news[j]?=some v->w.cell? ((⟨sb,so,none⟩:Addr).add j)=some v)/\∀k (hk:k<zs.length),rep w.heap M zs[k] (cL news.toArray (k*sz α) (sz α)):=by
 obtain⟨news,A9⟩:∃news,news=cL p8 so (zs.length*sz α):=⟨_,rfl⟩
 have hnl:news.length=zs.length*sz α:=by
  rw[A9];simp only[cL,List.length_take,List.length_drop,Array.length_toList];omega
 have kS:∀j,j<zs.length*sz α->news[j]?=p8[so+j]?:=λj hj=>by
  rw[A9];simp only[cL,List.getElem?_take,if_pos hj,List.getElem?_drop];simp
 refine⟨news,hnl,λj v hv=>?_,λk hk=>?_⟩
 ·have hj:j<zs.length*sz α:=by rw[<-hnl];exact(List.getElem?_eq_some_iff.1 hv).1
  rw[mq,cell_of_row w sb (so+j) p8 A6 A7 hsc,<-kS j hj,hv]
 ·have:=A8 k hk;rwa [show cL p8 (so+k*sz α) (sz α)=cL news.toArray (k*sz α) (sz α) from nB (λj hj=>by
   have hb:k*sz α+j<zs.length*sz α:=by
    have:=Nat.mul_le_mul_right (sz α) (show k+1<=zs.length from hk);rw[Nat.succ_mul] at this;omega
   rw[show∀m,news.toArray[m]?=news[m]? from λm=>by simp,kS _ hb,Nat.add_assoc])] at this
theorem Ur {bytes:Nat} {a:Option Addr} (hx:ev env x=some (.slice a ys.length ys.length)) (hy:ev env y=some s) (hrow:om P t e (sz α) bytes=true) (hsz:0<sz α)
  (hown:aB w M ys (.slice a ys.length ys.length)) (hsrc:aB w M zs s) (y7:zs≠[]) (hlen: (ys.length+zs.length)*bytes<=140737488355328) (h63:ys.length+zs.length<=140737488355328):
  gM P N env (.call {callee:=.builtin .append,args:=#[x,y],argTypes:=#[t,t]}) w (λv' w'=>
   jH w' (λb=>c4 v' b\/M b) e v' (ys++zs)/\Ext (λ_=>False) w w'/\(∀b,c4 v' b->w.heap.size<=b)):=oh λρ hρ eD f_=>by
 obtain⟨i,z,hu,hi,lp,hby,hz,hzs⟩:=tC hrow;obtain⟨a2,c,rfl,hcap,hl0,DF⟩:=jP.1 hsrc;have key:∃v' w',(Builtin.append_ #[t,t] eD.type #[.slice a ys.length ys.length,.slice a2 zs.length c]).run P w=.ok v' w'/\
   jH w' (λb=>c4 v' b\/M b) e v' (ys++zs)/\Ext (λ_=>False) w w'/\(∀b,c4 v' b->w.heap.size<=b):=by
  rcases DF with h|⟨sb,so,rfl,DG,p8,A6,A7,hsc,hsl,A8⟩
  ·exact absurd h y7
  ·have hm0:0<zs.length:=List.length_pos_iff.2 y7;obtain⟨news,hnl,hnews,uS⟩:=L1 (w:=w) (M:=M) hsc hsl A8;have pq:news.length=zs.length*i.size:=by rw[hnl,lp]
   have fresh:∀(olds:List Value) (cap:Nat) (o:Obj),olds.length=ys.length*sz α->(∀k (hk:k<ys.length),rep w.heap M ys[k] (cL olds.toArray (k*sz α) (sz α)))->
     o=.cells (olds.toArray++news.toArray++Builtin.zeroCells z.cells (cap-(ys.length+zs.length))) e (0,0)->ys.length+zs.length<=cap->
     jH (w.drew.alloc o) (λb=>c4 (.slice (some ⟨w.heap.size,0,none⟩) (ys.length+zs.length) cap) b\/M b) e (.slice (some ⟨w.heap.size,0,none⟩) (ys.length+zs.length) cap) (ys++zs):=by
    intro olds cap o holds wS ho FV;subst ho;have hnew:=uR w (.cells (olds.toArray++news.toArray++Builtin.zeroCells z.cells (cap-(ys.length+zs.length))) e (0,0));refine .inr ⟨w.heap.size,cap,_,by rw[List.length_append],.inl rfl,hnew.at_,by rw[List.length_append];exact FV,?_,?_⟩
    ·simp only[Array.size_append,List.size_toArray,size_zeroCells,hzs,holds,hnl,<-Nat.add_mul];congr 1;omega
    ·intro k hk;rw[List.length_append] at hk;have hkeep:∀(x:α) (vs:List Value),rep w.heap M x vs->rep (w.drew.alloc (.cells (olds.toArray++news.toArray++Builtin.zeroCells z.cells (cap-(ys.length+zs.length))) e (0,0))).heap
       (λb=>c4 (.slice (some ⟨w.heap.size,0,none⟩) (ys.length+zs.length) cap) b\/M b) x vs:=λx vs hr=>
      aY.keep (aY.sub hr (λb hb h=>h.elim (λe=>by simp only[c4,Value.ownBlock,Option.some.injEq] at e;omega) id)) (λb hb _=>hnew.ext.block b hb (λh=>h))
     by_cases rG:k<ys.length
     ·rw[List.getElem_append_left rG];have:=wS k rG;rw[show cL olds.toArray (k*sz α) (sz α)=cL (olds.toArray++news.toArray++Builtin.zeroCells z.cells (cap-(ys.length+zs.length))) (k*sz α) (sz α) from nB (λj hj=>by
       have hb:k*sz α+j<ys.length*sz α:=by
        have:=Nat.mul_le_mul_right (sz α) (show k+1<=ys.length from rG);rw[Nat.succ_mul] at this;omega
       rw[Array.append_assoc,Array.getElem?_append_left (by simpa[holds] using hb)])] at this
      exact hkeep _ _ this
     ·rw[List.getElem_append_right (by omega)];have uT:k-ys.length<zs.length:=by omega
      have:=uS (k-ys.length) uT;rw[show cL news.toArray ((k-ys.length)*sz α) (sz α)=cL (olds.toArray++news.toArray++Builtin.zeroCells z.cells (cap-(ys.length+zs.length))) (k*sz α) (sz α) from nB (λj hj=>by
       have hb: (k-ys.length)*sz α+j<zs.length*sz α:=by
        have:=Nat.mul_le_mul_right (sz α) (show k-ys.length+1<=zs.length from uT);rw[Nat.succ_mul] at this;omega
       have he:k*sz α=ys.length*sz α+(k-ys.length)*sz α:=by rw[<-Nat.add_mul];congr 1;omega
       rw[Array.getElem?_append_left (by simp only[Array.size_append,List.size_toArray,holds,hnl];omega),Array.getElem?_append_right (by simp only[List.size_toArray,holds];omega)];congr 1;simp only[List.size_toArray,holds];omega)] at this
      exact hkeep _ _ this
   by_cases hys:ys=[]
   ·subst hys;rcases a with _|ab
    case' some=>
     have hr:=run_append_grow (P:=P) w t eD.type e i z hu hi hz ab 0 0 [] (by simp) (λj v hv=>by simp at hv) ⟨sb,so,none⟩ zs.length c news pq hnews (by omega) (by omega)
      (growslice_fits (by omega) (by rw[hby];exact hlen))
     have hfr:=fresh [] (grownCap w (0+zs.length) 0 e) _ (by simp) (λk hk=>by simp at hk) rfl (grownCap_ge w _ _ e);refine⟨_,_,hr,hfr,?_,?_⟩
     ·exact(uR w _).ext.mono (λb hb h=>h.elim)
     ·intro b hb;simp only[c4,Value.ownBlock,Option.some.injEq] at hb;omega
    have hr:=run_append_nil (P:=P) w t eD.type e i z hu hi hz ⟨sb,so,none⟩ zs.length c news pq hnews hm0 (by omega)
     (by rw[hby];simp only[List.length_nil,Nat.zero_add] at hlen;omega)
    have hfr:=fresh [] (grownCap w zs.length 0 e) _ (by simp) (λk hk=>by simp at hk) rfl (by simpa using grownCap_ge w zs.length 0 e);simp only[List.length_nil,Nat.zero_add,List.nil_append] at hfr;refine⟨_,_,hr,?_,?_,?_⟩
    ·simpa using hfr
    ·exact(uR w _).ext.mono (λb hb h=>h.elim)
    ·intro b hb;simp only[c4,Value.ownBlock,Option.some.injEq] at hb;omega
   ·obtain⟨a3,c3,Us,_,_,Ut⟩:=jP.1 hown;injection Us with h1 h2 h3;subst h1;rcases Ut with h|⟨ga,Uu,L3,y8,cw,ct,cU,Uv,y9,Uw⟩
    ·exact absurd h hys
    ·subst L3;obtain⟨olds,kI,holds,wS⟩:=L1 (w:=w) (M:=M) Uv y9 Uw;have hr:=run_append_grow (P:=P) w t eD.type e i z hu hi hz ⟨ga,Uu,none⟩ ys.length ys.length olds (by rw[lp];exact kI) holds ⟨sb,so,none⟩ zs.length c news pq hnews (by omega) (by omega)
      (growslice_fits (by omega) (by rw[hby];exact hlen))
     have hfr:=fresh _ (grownCap w (ys.length+zs.length) ys.length e) _ kI wS rfl (grownCap_ge w _ _ e);refine⟨_,_,hr,hfr,?_,?_⟩
     ·exact(uR w _).ext.mono (λb hb h=>h.elim)
     ·intro b hb;simp only[c4,Value.ownBlock,Option.some.injEq] at hb;omega
 obtain⟨v',w',hrun,hpost⟩:=key;refine⟨v',w',.inl ?_,hpost⟩;unfold execOp;rw[f_];simp[hρ _ _ hx,hρ _ _ hy,resolve,invoke,builtin,hrun]
end
section
variable {α:Type} [aY α] {P:Program} {N:Nat} {env:Env} {w w':World} {C aP:Nat->Nat} {I:List Nat} {t e e':TypeId} {v s:Value} {y z:Operand} {xs ys zs:List α} {j b n ty:Nat} {ga dr:Obj}
theorem Bu {bytes:Nat} {a:Option Addr} (hF:aL w C) (hj:j≠0) (hx:ev env y=some (.slice a ys.length ys.length)) (hy:ev env z=some s) (hrow:om P t e (sz α) bytes=true) (hsz:0<sz α)
  (hown:aB w (ax C) ys (.slice a ys.length ys.length)) (hsrc:aB w (ax C) zs s) (y7:zs≠[]) (hlen: (ys.length+zs.length)*bytes<=140737488355328) (h63:ys.length+zs.length<=140737488355328):
  gM P N env (.call {callee:=.builtin .append,args:=#[y,z],argTypes:=#[t,t]}) w (λv' w'=>∃aP,aA [] w C w' aP/\aX w' aP j e v' (ys++zs)/\aL w' aP):=λa' jS eD f_=>by
 obtain⟨v',w',h1,h2,h3,h4⟩:=Ur (P:=P) (N:=N) hx hy hrow hsz hown hsrc y7 hlen h63 a' jS eD f_;have ki:∀b,b<w.heap.size->gT C v' j b=C b:=λb hb=>by
  unfold gT;split
  ·rename_i e;have:=h4 b e;omega
  ·rfl
 refine⟨v',w',h1,gT C v' j,⟨h3.mono (λb _ hb=>hb.elim),ki⟩,⟨h2.sub (λb hb hc=>?_) (λb hb=>?_),λb hb=>?_⟩,λb hb=>?_⟩
 ·by_cases ho:c4 v' b
  ·exact .inl ho
  ·right;unfold ax gT at hc;rw[if_neg (show¬v'.ownBlock=some b from ho)] at hc;exact hc
 ·unfold ax gT;rw[if_pos (show v'.ownBlock=some b from hb)];exact hj
 ·unfold gT;rw[if_pos (show v'.ownBlock=some b from hb)]
 ·by_cases ho:c4 v' b
  ·exact(h2.ga b ho).2
  ·unfold gT at hb;rw[if_neg (show¬v'.ownBlock=some b from ho)] at hb;exact Nat.lt_of_lt_of_le (hF b hb) h3.size
end
end Go.K
namespace Go.K
open aY
section
variable {α:Type} [aY α] {w:World} {C:Nat->Nat} {P:Program} {f:FuncId} {N:Nat} {k:List Item} {R:Value->World->Prop} {Q:Exit->Act->World->Prop} {env:Env} {ops:Array Oper} {S:World->Prop} {i t:Nat} {L:List (Nat×Bool)} {v:Value} {y z q:Operand} {jm:Option (Nat×Bool)} {ty e e':TypeId} {xs:List α} {kd Bv:IntKind}
end
structure L4 where
 ln:Int
 L5:Value
 mv:Value
instance:Inhabited L4:=⟨⟨0,.slice none 0 0,.slice none 0 0⟩⟩
instance:aY L4 where
 sz:=3
 agg:=true
 flat h:=by cases h
 rep _ _ x vs:=vs=[.int .i64 x.ln,x.L5,x.mv]/\x.L5.oneCell'=true/\x.mv.oneCell'=true
 len h:=by obtain⟨rfl,_⟩:=h;rfl
 one h:=by
  obtain⟨rfl,h1,h2⟩:=h;intro v hv;simp only[List.mem_cons,List.not_mem_nil,or_false] at hv;rcases hv with rfl|rfl|rfl
  ·rfl
  ·exact h1
  ·exact h2
 keep h _:=h
 sub h _:=h
section
variable {cl:List Bits} {k g i0 n:Nat} {wf mf:Nat->Value} {w:World} {M:Nat->Prop} {C:Nat->Nat} {j:Nat} {e:TypeId} {v u m:Value}
end
end Go.K
namespace Go.K
open aY
section
variable {P:Program} {N:Nat} {env:Env} {w:World} {x:Operand} {t u e:TypeId} {b:Addr} {l c:Nat}
end
end Go.K
namespace Go.K
open aY
section
variable {P:Program} {N:Nat} {env:Env} {w:World} {C:Nat->Nat} {t e:TypeId}
end
end Go.K
namespace Go.K
end Go.K
namespace Go.K
section
variable {P:Program} {N:Nat} {env:Env} {w:World} {x y:Operand} {t u:TypeId} {a b:ByteArray}
end
end Go.K
namespace Go.K
open aY
def jJ (a b:iM):iM:=⟨bitsOf .and .u64 a.n b.n⟩
def pH (a b:Bits):Bits:=⟨a.len,List.zipWith jJ a.words b.words⟩
def sM (x:Int):Int:=
 let x1:=IntKind.u64.wrap (bitsOf .and .u64 (x.fdiv (2^min (1:Int).toNat IntKind.u64.bits)) 6148914691236517205+bitsOf .and .u64 x 6148914691236517205)
 let vC:=IntKind.u64.wrap (bitsOf .and .u64 (x1.fdiv (2^min (2:Int).toNat IntKind.u64.bits)) 3689348814741910323+bitsOf .and .u64 x1 3689348814741910323)
 let Bw:=bitsOf .and .u64 (IntKind.u64.wrap (vC.fdiv (2^min (4:Int).toNat IntKind.u64.bits)+vC)) 1085102592571150095
 let Bx:=IntKind.u64.wrap (Bw+Bw.fdiv (2^min (8:Int).toNat IntKind.u64.bits))
 let Bz:=IntKind.u64.wrap (Bx+Bx.fdiv (2^min (16:Int).toNat IntKind.u64.bits))
 let L6:=IntKind.u64.wrap (Bz+Bz.fdiv (2^min (32:Int).toNat IntKind.u64.bits))
 bitsOf .and .i64 (IntKind.i64.wrap L6) 127
theorem Ux (m:Int):0<=bitsOf .and .i64 m 127/\bitsOf .and .i64 m 127<=127:=by
 have h1: ((BitVec.ofInt 64 m&&&BitVec.ofInt 64 127:BitVec 64)).toNat<=127:=by
  rw[BitVec.toNat_and];exact Nat.le_trans Nat.and_le_right (by decide)
 have:bitsOf .and .i64 m 127=(((BitVec.ofInt 64 m&&&BitVec.ofInt 64 127:BitVec 64)).toNat:Int):=by
  show IntKind.i64.wrap (((BitVec.ofInt 64 m&&&BitVec.ofInt 64 127:BitVec 64)).toNat:Int)=_;apply wrap_i64<;>omega
 rw[this];omega
theorem L7 (x:Int):0<=sM x/\sM x<=127:=Ux _
def rQ (l:List iM) (k:Nat):Int:=match k with|0=>0|k+1=>rQ l k+sM (l.getD k default).n
theorem D9 (l:List iM):∀k:Nat,0<=rQ l k/\rQ l k<=k*127
 |0=>⟨Int.le_refl _,Int.le_refl _⟩
 |k+1=>by
  have ih:=D9 l k;have:=L7 (l.getD k default).n;show 0<=rQ l k+sM (l.getD k default).n/\rQ l k+sM (l.getD k default).n<=_;omega
def gJ (b:Bits):Int:=if ko b then rQ b.words b.words.length else 0
theorem GO {b:Bits} (h:ko b=true):b.words.length<=8/\1<=b.words.length:=by have:=xl.1 h;omega
def mU (a b:Bits):Prop:=ko a=true/\ko b=true/\a.len=b.len
instance (a b:Bits):Decidable (mU a b):=by unfold mU;exact inferInstance
theorem GQ {a b:Bits} (h:mU a b):ko (pH a b)=true:=by
 obtain⟨h1,h2,h3⟩:=h;have v1:=xl.1 h1;have v2:=xl.1 h2;refine xl.2 ⟨v1.1,?_⟩;show((List.zipWith jJ a.words b.words).length:Int)=a.len/64;rw[List.length_zipWith];omega
theorem Uy {a b:Bits} (h:mU a b):a.words.length=b.words.length:=by
 obtain⟨h1,h2,h3⟩:=h;have v1:=xl.1 h1;have v2:=xl.1 h2;omega
theorem Uz {a b:List iM} {k:Nat} (h1:k<a.length) (h2:k<b.length): (List.zipWith jJ a b).take (k+1)=(List.zipWith jJ a b).take k++[jJ a[k] b[k]]:=by
 rw[List.take_succ_eq_append_getElem (by rw[List.length_zipWith];omega),List.getElem_zipWith]
end Go.K
theorem Go.K.L8 {a b:List iM} {k:Nat} {z:iM} (h1:k<a.length) (h2:k<b.length):
  ((List.zipWith jJ a b).take k++List.replicate (a.length-k) z).set k (jJ a[k] b[k])=(List.zipWith jJ a b).take (k+1)++List.replicate (a.length-(k+1)) z:=by
 have hl: ((List.zipWith jJ a b).take k).length=k:=by rw[List.length_take,List.length_zipWith];omega
 rw[List.set_append,if_neg (by omega),hl,Nat.sub_self,show a.length-k=(a.length-(k+1))+1 from by omega,List.replicate_succ,List.set_cons_zero,Uz h1 h2,List.append_assoc];rfl
namespace Go.K
open aY
section
variable {P:Program} {N:Nat} {env:Env} {w:World} {C:Nat->Nat} {t e:TypeId}
end
def oz (x:Int):Prop:=0<=x/\x<18446744073709551616
theorem UA (x y:Int):oz (bitsOf .and .u64 x y):=K5 _
def vD (n:Int) (b:Bits):Prop:=b.len=n/\(b.words.length:Int)=n/64/\∀x∈b.words,oz x.n
def pop:Nat->Nat->Nat
 |0,_=>0
 |n+1,x=>x%2+pop n (x/2)
theorem UB (m n x:Nat):pop (m+n) x=pop m x+pop n (x/2^m):=by
 induction m generalizing x with
 |zero=>simp[pop]
 |succ m ih=>
  rw[show m+1+n=(m+n)+1 from by omega];show x%2+pop (m+n) (x/2)=x%2+pop m (x/2)+_;rw[ih,Nat.div_div_eq_div_mul,show 2*2^m=2^(m+1) from by rw[Nat.pow_succ,Nat.mul_comm],Nat.add_assoc]
theorem L9 (m x:Nat):pop m x=pop m (x%2^m):=by
 induction m generalizing x with
 |zero=>rfl
 |succ m ih=>
  show x%2+pop m (x/2)=x%2^(m+1)%2+pop m (x%2^(m+1)/2);rw[ih (x/2),ih (x%2^(m+1)/2),Nat.mod_mod_of_dvd x ⟨2^m,by rw[Nat.pow_succ,Nat.mul_comm]⟩];congr 2;rw[show 2^(m+1)=2*2^m from by rw[Nat.pow_succ,Nat.mul_comm],Nat.mod_mul_right_div_self,Nat.mod_mod]
theorem vE (m x:Nat):pop m x<=m:=by
 induction m generalizing x with
 |zero=>exact Nat.le_refl _
 |succ m ih=>show x%2+_<=_;have:=ih (x/2);omega
theorem UC (m x y:Nat):pop m (x&&&y)<=pop m x:=by
 induction m generalizing x y with
 |zero=>exact Nat.le_refl _
 |succ m ih=>
  show(x&&&y)%2+pop m ((x&&&y)/2)<=x%2+pop m (x/2);have h1:=ih (x/2) (y/2);have h2: (x&&&y)/2=x/2&&&y/2:=Nat.and_div_two_pow (n:=1);have h3: (x&&&y)%2=x%2&&&y%2:=Nat.and_mod_two_pow (n:=1);rw[h2,h3];have h4:x%2&&&y%2<=x%2:=Nat.and_le_left;omega
def lane (b:Nat):Nat->Nat
 |0=>0
 |n+1=>256*lane b n+b
def a1 (m v:Nat):Nat:=(v/2&&&m)+(v&&&m)
def a2 (m v:Nat):Nat:=(v/4&&&m)+(v&&&m)
def a3 (m v:Nat):Nat:=(v/16+v)&&&m
theorem BA (a b c d:Nat) (hb:b<256) (hd:d<256): (256*a+b)&&&(256*c+d)=256*(a&&&c)+(b&&&d):=by
 have h1: ((256*a+b)&&&(256*c+d))/2^8=(256*a+b)/2^8&&&(256*c+d)/2^8:=Nat.and_div_two_pow;have h2: ((256*a+b)&&&(256*c+d))%2^8=(256*a+b)%2^8&&&(256*c+d)%2^8:=Nat.and_mod_two_pow;have e1: (256*a+b)/2^8=a:=by omega
 have e2: (256*c+d)/2^8=c:=by omega
 have eU: (256*a+b)%2^8=b:=by omega
 have jr: (256*c+d)%2^8=d:=by omega
 rw[e1,e2] at h1;rw[eU,jr] at h2;omega
theorem UD:∀q,q<2->∀k,k<128->(q*128+k)&&&0x55=k&&&0x55:=by decide+kernel
theorem UE:∀q,q<4->∀k,k<64->(q*64+k)&&&0x33=k&&&0x33:=by decide+kernel
theorem UF (n h l:Nat) (hl:l<256):a1 (lane 0x55 (n+1)) (256*h+l)=256*a1 (lane 0x55 n) h+a1 0x55 l:=by
 unfold a1;show((256*h+l)/2&&&(256*lane 0x55 n+0x55))+((256*h+l)&&&(256*lane 0x55 n+0x55))=_;rw[show(256*h+l)/2=256*(h/2)+(h%2*128+l/2) from by omega,BA _ _ _ _ (by omega) (by decide),BA _ _ _ _ hl (by decide),UD _ (by omega) _ (by omega)];omega
theorem UG (n h l:Nat) (hl:l<256):a2 (lane 0x33 (n+1)) (256*h+l)=256*a2 (lane 0x33 n) h+a2 0x33 l:=by
 unfold a2;show((256*h+l)/4&&&(256*lane 0x33 n+0x33))+((256*h+l)&&&(256*lane 0x33 n+0x33))=_;rw[show(256*h+l)/4=256*(h/4)+(h%4*64+l/4) from by omega,BA _ _ _ _ (by omega) (by decide),BA _ _ _ _ hl (by decide),UE _ (by omega) _ (by omega)];omega
theorem UH (n h l:Nat) (hh:h%16<=4) (h1:l/16<=4) (h2:l%16<=4):a3 (lane 0x0f (n+1)) (256*h+l)=256*a3 (lane 0x0f n) h+a3 0x0f l:=by
 unfold a3;show((256*h+l)/16+(256*h+l))&&&(256*lane 0x0f n+0x0f)=_;rw[show(256*h+l)/16+(256*h+l)=256*(h/16+h)+(h%16*16+(l/16+l)) from by omega,BA _ _ _ _ (by omega) (by decide)];have e1:h%16*16+(l/16+l)&&&0x0f=(h%16*16+(l/16+l))%16:=Nat.and_two_pow_sub_one_eq_mod _ 4;have e2: (l/16+l)&&&0x0f=(l/16+l)%16:=Nat.and_two_pow_sub_one_eq_mod _ 4;rw[e1,e2];omega
theorem GR:∀l,l<256->a1 0x55 l<256/\a2 0x33 (a1 0x55 l)/16<=4/\a2 0x33 (a1 0x55 l)%16<=4/\a3 0x0f (a2 0x33 (a1 0x55 l))=pop 8 l:=by decide+kernel
def xm (n v:Nat):Nat:=a2 (lane 0x33 n) (a1 (lane 0x55 n) v)
def tN (n v:Nat):Nat:=a3 (lane 0x0f n) (xm n v)
theorem L_ (n h l:Nat) (hl:l<256):xm (n+1) (256*h+l)=256*xm n h+a2 0x33 (a1 0x55 l):=by
 unfold xm;rw[UF _ _ _ hl,UG _ _ _ (GR l hl).1]
theorem UI (n h:Nat):xm n h%16<=4:=by
 cases n with
 |zero=>unfold xm a2;simp[lane]
 |succ n=>
  have e:h=256*(h/256)+h%256:=by omega
  rw[e,L_ _ _ _ (by omega)];have:=(GR (h%256) (by omega)).2.2.1;omega
theorem UJ (n h l:Nat) (hl:l<256):tN (n+1) (256*h+l)=256*tN n h+pop 8 l:=by
 unfold tN;obtain⟨b1,b2,b3,b4⟩:=GR l hl;rw[L_ _ _ _ hl,UH _ _ _ (UI n h) b2 b3,b4]
theorem vG (n v:Nat):tN (n+1) v=256*tN n (v/256)+pop 8 (v%256):=by
 have e:v=256*(v/256)+v%256:=by omega
 have:=UJ n (v/256) (v%256) (by omega);rwa [<-e] at this
theorem UK (v:Nat):tN 0 v=0:=by unfold tN a3;simp[lane]
theorem y_ (a b:Nat) (ha:a<18446744073709551616) (hb:b<18446744073709551616):bitsOf .and .u64 (a:Int) (b:Int)=((a&&&b:Nat):Int):=by
 have h1: ((BitVec.ofInt 64 (a:Int)&&&BitVec.ofInt 64 (b:Int):BitVec 64)).toNat=a&&&b:=by
  rw[BitVec.toNat_and,BitVec.toNat_ofInt,BitVec.toNat_ofInt];congr 1<;>omega
 have h2:a&&&b<=a:=Nat.and_le_left;show IntKind.u64.wrap (((BitVec.ofInt 64 (a:Int)&&&BitVec.ofInt 64 (b:Int):BitVec 64)).toNat:Int)=_;rw[h1];apply wrap_u64<;>omega
theorem UL (a b:Nat) (ha:a<9223372036854775808) (hb:b<9223372036854775808):bitsOf .and .i64 (a:Int) (b:Int)=((a&&&b:Nat):Int):=by
 have h1: ((BitVec.ofInt 64 (a:Int)&&&BitVec.ofInt 64 (b:Int):BitVec 64)).toNat=a&&&b:=by
  rw[BitVec.toNat_and,BitVec.toNat_ofInt,BitVec.toNat_ofInt];congr 1<;>omega
 have h2:a&&&b<=a:=Nat.and_le_left;show IntKind.i64.wrap (((BitVec.ofInt 64 (a:Int)&&&BitVec.ofInt 64 (b:Int):BitVec 64)).toNat:Int)=_;rw[h1];apply wrap_i64<;>omega
theorem za (a k:Nat) (hk:k<=64): (a:Int).fdiv (2^min (k:Int).toNat IntKind.u64.bits)=((a/2^k:Nat):Int):=by
 rw[show min (k:Int).toNat IntKind.u64.bits=k from by simp[IntKind.bits];omega];rw[Int.fdiv_eq_ediv_of_nonneg _ (by exact Int.pow_nonneg (by decide))]
 norm_cast
theorem UM {y t p:Nat} (q:p<=8) (h:y=256*t+p):y/256=t:=by omega
theorem UN {y t1 t2 t3 iA p1 p2:Nat} (q0:iA<=8) (q1:p1<=8) (q2:p2<=8) (h:y=256*t1+iA) (h1:t1=256*t2+p1) (h2:t2=256*t3+p2): (y+t1)/65536=t2+t3:=by
 have:y+t1=65536*(t2+t3)+(256*(p1+p2)+(iA+p1)):=by omega
 rw[this];have h3:256*(p1+p2)+(iA+p1)<65536:=by omega
 clear this h h1 h2;generalize 256*(p1+p2)+(iA+p1)=z at*;omega
theorem UO {T D_ Ea Eb Ec:Nat} (h0:D_<=32) (h1:Ea<=32) (h2:Eb<=32) (h3:Ec<=32): (4294967296*T+(D_+256*Ea+65536*Eb+16777216*Ec))/4294967296=T:=by
 have h:D_+256*Ea+65536*Eb+16777216*Ec<4294967296:=by omega
 generalize D_+256*Ea+65536*Eb+16777216*Ec=z at*;clear h0 h1 h2 h3;omega
theorem UQ {P K:Nat} (h:P<=64): (P+128*K)%128=P:=by omega
theorem UR {iA p1 p2 p3 vH xo zb rS qF:Nat} (q0:iA<=8) (q1:p1<=8) (q2:p2<=8) (Ma:p3<=8) (Mb:vH<=8) (Md:xo<=8) (Me:zb<=8) (Mf:rS<=8)
  (h:qF=256*(256*(256*(256*(256*(256*(256*(256*0+rS)+zb)+xo)+vH)+p3)+p2)+p1)+iA):
  (qF+qF/256+(qF+qF/256)/65536+(qF+qF/256+(qF+qF/256)/65536)/4294967296)%128=iA+(p1+(p2+(p3+(vH+(xo+(zb+rS)))))):=by
 rw[show 256*0+rS=rS from Nat.zero_add _] at h;obtain⟨t6,h6⟩:∃t,t=256*rS+zb:=⟨_,rfl⟩
 rw[<-h6] at h;obtain⟨t5,h5⟩:∃t,t=256*t6+xo:=⟨_,rfl⟩
 rw[<-h5] at h;obtain⟨t4,h4⟩:∃t,t=256*t5+vH:=⟨_,rfl⟩
 rw[<-h4] at h;obtain⟨t3,h3⟩:∃t,t=256*t4+p3:=⟨_,rfl⟩
 rw[<-h3] at h;obtain⟨t2,h2⟩:∃t,t=256*t3+p2:=⟨_,rfl⟩
 rw[<-h2] at h;obtain⟨t1,h1⟩:∃t,t=256*t2+p1:=⟨_,rfl⟩
 rw[<-h1] at h;rw[UM q0 h,UN q0 q1 q2 h h1 h2];have eU:qF+t1+(t2+t3)=4294967296*(t4+t5+t6+rS)+((iA+p1+p2+p3)+256*(p1+p2+p3+vH)+65536*(p2+p3+vH+xo)+16777216*(p3+vH+xo+zb)):=by
  clear q0 q1 q2 Ma Mb Md Me Mf;subst h;subst h1;subst h2;subst h3;subst h4;subst h5;subst h6;omega
 have jr: (qF+t1+(t2+t3))/4294967296=t4+t5+t6+rS:=by
  rw[eU];exact UO (by omega) (by omega) (by omega) (by omega)
 rw[jr];have ze:qF+t1+(t2+t3)+(t4+t5+t6+rS)=(iA+(p1+(p2+(p3+(vH+(xo+(zb+rS)))))))+128*(2*(t1+t2+t3+t4+t5+t6+rS)):=by
  clear q0 q1 q2 Ma Mb Md Me Mf eU jr;omega
 rw[ze];exact UQ (by clear eU jr ze h h1 h2 h3 h4 h5 h6;omega)
theorem zf (a:Nat) (ha:a<18446744073709551616):IntKind.u64.wrap (a:Int)=a:=by apply wrap_u64<;>omega
theorem st1 (v:Nat) (hv:v<18446744073709551616):IntKind.u64.wrap (bitsOf .and .u64 ((v:Int).fdiv (2^min (1:Int).toNat IntKind.u64.bits)) 6148914691236517205+bitsOf .and .u64 (v:Int) 6148914691236517205)=((a1 6148914691236517205 v:Nat):Int)/\a1 6148914691236517205 v<18446744073709551616:=by
 have l1:v/2&&&6148914691236517205<=6148914691236517205:=Nat.and_le_right;have l2:v&&&6148914691236517205<=6148914691236517205:=Nat.and_le_right;have s1: (v:Int).fdiv (2^min (1:Int).toNat IntKind.u64.bits)=((v/2:Nat):Int):=za v 1 (by decide);rw[s1,show(6148914691236517205:Int)=((6148914691236517205:Nat):Int) from rfl,y_ _ _ (by omega) (by decide),y_ _ _ hv (by decide),<-Int.natCast_add,zf _ (by omega)];unfold a1;exact⟨rfl,by omega⟩
theorem st2 (v:Nat) (hv:v<18446744073709551616):IntKind.u64.wrap (bitsOf .and .u64 ((v:Int).fdiv (2^min (2:Int).toNat IntKind.u64.bits)) 3689348814741910323+bitsOf .and .u64 (v:Int) 3689348814741910323)=((a2 3689348814741910323 v:Nat):Int)/\a2 3689348814741910323 v<=7378697629483820646:=by
 have l1:v/4&&&3689348814741910323<=3689348814741910323:=Nat.and_le_right;have l2:v&&&3689348814741910323<=3689348814741910323:=Nat.and_le_right;have s1: (v:Int).fdiv (2^min (2:Int).toNat IntKind.u64.bits)=((v/4:Nat):Int):=za v 2 (by decide);rw[s1,show(3689348814741910323:Int)=((3689348814741910323:Nat):Int) from rfl,y_ _ _ (by omega) (by decide),y_ _ _ hv (by decide),<-Int.natCast_add,zf _ (by omega)];unfold a2;exact⟨rfl,by omega⟩
theorem US (v:Nat) (hv:v<=7378697629483820646):bitsOf .and .u64 (IntKind.u64.wrap ((v:Int).fdiv (2^min (4:Int).toNat IntKind.u64.bits)+(v:Int))) 1085102592571150095=((a3 1085102592571150095 v:Nat):Int)/\a3 1085102592571150095 v<=1085102592571150095:=by
 have s1: (v:Int).fdiv (2^min (4:Int).toNat IntKind.u64.bits)=((v/16:Nat):Int):=za v 4 (by decide);rw[s1,<-Int.natCast_add,zf _ (by omega),show(1085102592571150095:Int)=((1085102592571150095:Nat):Int) from rfl,y_ _ _ (by omega) (by decide)];unfold a3;exact⟨rfl,Nat.and_le_right⟩
theorem UT (v:Nat) (hv:v<=1085102592571150095):IntKind.u64.wrap ((v:Int)+(v:Int).fdiv (2^min (8:Int).toNat IntKind.u64.bits))=((v+v/256:Nat):Int)/\v+v/256<=2170205185142300190:=by
 have s1: (v:Int).fdiv (2^min (8:Int).toNat IntKind.u64.bits)=((v/256:Nat):Int):=za v 8 (by decide);rw[s1,<-Int.natCast_add,zf _ (by omega)];exact⟨rfl,by omega⟩
theorem UU (v:Nat) (hv:v<=2170205185142300190):IntKind.u64.wrap ((v:Int)+(v:Int).fdiv (2^min (16:Int).toNat IntKind.u64.bits))=((v+v/65536:Nat):Int)/\v+v/65536<=4340410370284600380:=by
 have s1: (v:Int).fdiv (2^min (16:Int).toNat IntKind.u64.bits)=((v/65536:Nat):Int):=za v 16 (by decide);rw[s1,<-Int.natCast_add,zf _ (by omega)];exact⟨rfl,by omega⟩
theorem UW (v:Nat) (hv:v<=4340410370284600380):IntKind.u64.wrap ((v:Int)+(v:Int).fdiv (2^min (32:Int).toNat IntKind.u64.bits))=((v+v/4294967296:Nat):Int)/\v+v/4294967296<=9000000000000000000:=by
 have s1: (v:Int).fdiv (2^min (32:Int).toNat IntKind.u64.bits)=((v/4294967296:Nat):Int):=za v 32 (by decide);rw[s1,<-Int.natCast_add,zf _ (by omega)];exact⟨rfl,by omega⟩
theorem UX (v:Nat) (hv:v<=9000000000000000000):bitsOf .and .i64 (IntKind.i64.wrap (v:Int)) 127=((v%128:Nat):Int):=by
 rw[show IntKind.i64.wrap (v:Int)=(v:Int) from by apply wrap_i64<;>omega,show(127:Int)=((127:Nat):Int) from rfl,UL _ _ (by omega) (by decide)];rw[show v&&&127=v%128 from Nat.and_two_pow_sub_one_eq_mod _ 7]
theorem UY:lane 0x55 8=6148914691236517205:=by decide+kernel
theorem UZ:lane 0x33 8=3689348814741910323:=by decide+kernel
theorem U0:lane 0x0f 8=1085102592571150095:=by decide+kernel
theorem U1 (v:Nat):pop 64 v=pop 8 (v%256)+(pop 8 (v/256%256)+(pop 8 (v/256/256%256)+(pop 8 (v/256/256/256%256)+(pop 8 (v/256/256/256/256%256)+(pop 8 (v/256/256/256/256/256%256)+(pop 8 (v/256/256/256/256/256/256%256)+pop 8 (v/256/256/256/256/256/256/256%256))))))):=by
 have st:∀n x,pop (8+n) x=pop 8 (x%256)+pop n (x/256):=λn x=>by rw[UB,L9 8 x]
 have z:∀x,pop 0 x=0:=λ_=>rfl;rw[show(64:Nat)=8+56 from rfl,st,show(56:Nat)=8+48 from rfl,st,show(48:Nat)=8+40 from rfl,st,show(40:Nat)=8+32 from rfl,st,show(32:Nat)=8+24 from rfl,st,show(24:Nat)=8+16 from rfl,st,show pop 16=pop (8+8) from rfl,st,show pop 8 (v/256/256/256/256/256/256/256)=pop 8 (v/256/256/256/256/256/256/256%256) from L9 8 _]
theorem U2 (v:Nat):tN 8 v=256*(256*(256*(256*(256*(256*(256*(256*0+pop 8 (v/256/256/256/256/256/256/256%256))+pop 8 (v/256/256/256/256/256/256%256))+pop 8 (v/256/256/256/256/256%256))+pop 8 (v/256/256/256/256%256))+pop 8 (v/256/256/256%256))+pop 8 (v/256/256%256))+pop 8 (v/256%256))+pop 8 (v%256):=by
 rw[vG,vG,vG,vG,vG,vG,vG,vG,UK]
theorem U3 (v:Nat) (hv:v<18446744073709551616):sM (v:Int)=((pop 64 v:Nat):Int):=by
 obtain⟨e1,b1⟩:=st1 v hv;obtain⟨e2,b2⟩:=st2 _ b1;obtain⟨eU,b3⟩:=US _ b2;obtain⟨jr,b4⟩:=UT _ b3;obtain⟨ze,U4⟩:=UU _ b4;obtain⟨GU,GV⟩:=UW _ U4;have Mg:=UX _ GV;have hs:=UR (vE 8 _) (vE 8 _) (vE 8 _) (vE 8 _) (vE 8 _) (vE 8 _) (vE 8 _) (vE 8 _) (U2 v);rw[<-U1] at hs;unfold tN xm at hs;rw[UY,UZ,U0] at hs;rw[hs] at Mg;rw[<-Mg,<-GU,<-ze,<-jr,<-eU,<-e2,<-e1];rfl
theorem U5 (x:Int) (h:oz x):sM x=pop 64 x.toNat:=by
 obtain⟨h1,h2⟩:=h;have:=U3 x.toNat (by omega);rwa [Int.toNat_of_nonneg h1] at this
def pw (x:iM):Nat:=pop 64 x.n.toNat
def qG (l:List iM):Nat:=(l.map pw).sum
theorem vD.valid {n:Int} {b:Bits} (h:vD n b) (hn:n=64\/n=128):ko b=true:=xl.2 ⟨by rw[h.1];omega,by rw[h.2.1,h.1]⟩
theorem Mh {l:List iM} (hu:∀x∈l,oz x.n):∀k,k<=l.length->rQ l k=(qG (l.take k):Nat)
 |0,_=>rfl
 |k+1,hk=>by
  have ih:=Mh hu k (by omega);have hx:=U5 _ (hu _ (List.getElem_mem (show k<l.length by omega)));show rQ l k+sM (l.getD k default).n=_;rw[y6 (by omega),ih,hx,List.take_succ_eq_append_getElem (by omega)];unfold qG;rw[List.map_append,List.sum_append];simp[pw]
theorem BD {b:Bits} (hv:ko b=true) (hu:∀x∈b.words,oz x.n):gJ b=(qG b.words:Nat):=by
 unfold gJ;rw[hv,Mh hu _ (Nat.le_refl _),List.take_length];rfl
theorem U6 {a b:iM} (ha:oz a.n) (hb:oz b.n):pw (jJ a b)<=pw a:=by
 unfold pw jJ;have e:bitsOf .and .u64 a.n b.n=((a.n.toNat&&&b.n.toNat:Nat):Int):=by
  obtain⟨h1,h2⟩:=ha;obtain⟨h3,h4⟩:=hb;have:=y_ a.n.toNat b.n.toNat (by omega) (by omega);rwa [Int.toNat_of_nonneg h1,Int.toNat_of_nonneg h3] at this
 show pop 64 (bitsOf .and .u64 a.n b.n).toNat<=_;rw[e,Int.toNat_natCast];exact UC _ _ _
theorem GX:∀{l m:List iM},(∀x∈l,oz x.n)->(∀x∈m,oz x.n)->qG (List.zipWith jJ l m)<=qG l
 |[],_,_,_=>by simp[qG]
 |_::_,[],_,_=>by simp[qG]
 |a::l,b::m,h1,h2=>by
  have ih:=GX (l:=l) (m:=m) (λx hx=>h1 x (by simp[hx])) (λx hx=>h2 x (by simp[hx]));have:=U6 (h1 a (by simp)) (h2 b (by simp));simp only[qG,List.zipWith_cons_cons,List.map_cons,List.sum_cons] at ih⊢;omega
theorem U7 {l m:List iM}:∀x∈List.zipWith jJ l m,oz x.n:=λx hx=>by
 obtain⟨i,hi,rfl⟩:=List.getElem_of_mem hx;rw[List.getElem_zipWith];exact UA _ _
section
variable {a x c:Bits} {l:List Bits}
end
section
variable {α:Type} {ys zs:List α} {σ:Nat->Nat} {a b i j:Nat} {c:α->α->Int} {P:α->Prop}
theorem eR.thin (h:eR σ a (a+1)) (hb:a<=b):eR σ a b:=by
 have hid:∀i,σ i=i:=λi=>by
  by_cases e:a<=i/\i<a+1
  ·have:=h.j5 i e.1 e.2;omega
  ·exact h.out i e
 exact⟨λi _=>hid i,λi h1 h2=>by rw[hid i];exact⟨h1,h2⟩,h.inj⟩
theorem mS.lt (h:mS c ys σ a i j) (hj:a<j):σ (j-1)<i:=by
 have hl:=h.le;have h1:=h.within.j5 (j-1) (by omega) (by omega);have h2:σ (j-1)≠i:=λe=>by have:=h.within.inj (j-1) j (by rw[e,h.y4]);omega
 omega
theorem mS.ord (hc:kT c P) (hP:∀x∈ys,P x) (hL:eA ys σ zs) (h:mS c ys σ a i j) (hj:a<j) (hi:i<ys.length) (h1:j<zs.length) (h2:j-1<zs.length):dQ c ys i (σ (j-1))↔c zs[j] zs[j-1]<0:=by
 have hl:=h.le;have e1:=hL.get (show j<ys.length by omega);have e2:=hL.get (show j-1<ys.length by omega);have hlt:=h.lt hj;rw[e1,e2,Ug hc hP (by omega) hi hlt];simp only[h.y4]
end
theorem Mi {x y:Int}:kj x y<0↔x<y:=by unfold kj;split<;>(try split)<;>omega
theorem U8 {n:Nat} (h:n<=12):IntKind.u8.wrap ((n:Nat):Int)=n:=by
 unfold IntKind.wrap;simp[IntKind.signed,IntKind.bits];omega
theorem Mj {n:Nat} (h:n<=12):IntKind.u64.wrap ((n:Nat):Int)=n:=by
 unfold IntKind.wrap;simp[IntKind.signed,IntKind.bits];omega
theorem U9 {s:ByteArray} {n:Nat} (h:n<s.size):∃b:UInt8,s[((n:Nat):Int).toNat]?=some b:=⟨_,by rw[Int.toNat_natCast];exact getElem?_pos s n h⟩
section
variable {P:Program} {N:Nat} {env:Env} {y z:Operand} {t:TypeId} {k:IntKind} {n:Nat} {s:ByteArray} {b:UInt8} {w:World}
theorem U_ (hy:ev env y=some (.string s)) (hz:ev env z=some (.int k n)) (hu:P.underlying t=some .string) (hb:s[((n:Nat):Int).toNat]?=some b):cH P N env (.index t y z) w (.int .u8 (b.toNat:Nat)):=mk' λρ hρ eD ho=>by
 rw[Int.toNat_natCast] at hb;unfold execOp;rw[ho];simp[hρ _ _ hy,hρ _ _ hz,go_sem,Instr.index,asIntOf,run_underlying hu,hb]
end
def GY (c:Code) (b:Bool):Bool:=match c with| .cond (.const (.bool b')) _ _=>b==b'|_=>false
theorem Va {c:Code} {b:Bool} (h:GY c b=true):c=.cond (.const (.bool b)) (cl c) (aH c):=by
 unfold GY at h;split at h
 ·rw[beq_iff_eq] at h;subst h;rfl
 ·cases h
section
variable {P:Program} {f:FuncId} {N:Nat} {k:List Item} {env:Env} {w:World} {R:Value->World->Prop}
theorem Vb {c:Code} (hc:GY c false=true) (h:Run P f N (.code (aH c)::k) env w R):Run P f N (.code c::k) env w R:=
 AZ (Va hc) rfl (λh=>by cases h) (λ_=>h)
end
section
variable {α:Type} {ys zs us:List α} {σ dz:Nat->Nat} {c:α->α->Int} {P:α->Prop}
def eB (c:α->α->Int) (ys zs:List α):Prop:=∃σ,eA ys σ zs/\eR σ 0 ys.length/\gV (dQ c ys) σ 0 ys.length
theorem Vc {n:Nat} (hc:kT c P) (hP:∀x∈ys,P x) (hn:n=ys.length) (h1:eR σ 0 n) (h2:gV (dQ c ys) σ 0 n) (t1:eR dz 0 n) (t2:gV (dQ c ys) dz 0 n):∀i,i<n->σ i=dz i:=by
 intro i
 induction i using Nat.strongRecOn with
 |ind i ih=>
  intro hi;apply Classical.byContradiction;intro hne;have key:∀(ρ sN:Nat->Nat),eR ρ 0 n->gV (dQ c ys) ρ 0 n->eR sN 0 n->(∀k,k<i->ρ k=sN k)->ρ i≠sN i->dQ c ys (ρ i) (sN i):=by
   intro ρ sN r1 r2 p1 hk hne;have Vd:∃m,m<n/\ρ m=sN i:=by
    apply Classical.byContradiction;intro hno;have h1:=p1.j5 i (by omega) hi;have:=LD n (n-1) (λm=>if ρ m<sN i then ρ m else ρ m-1) (λm hm=>by
     have h2:=r1.j5 m (by omega) hm;have h3:ρ m≠sN i:=λe=>hno ⟨m,hm,e⟩;split<;>omega) (λm m' hm hm' e=>by
     have h3:ρ m≠sN i:=λe=>hno ⟨m,hm,e⟩;have h4:ρ m'≠sN i:=λe=>hno ⟨m',hm',e⟩;refine r1.inj _ _ ?_;split at e<;>split at e<;>omega)
    omega
   obtain⟨m,hm,e⟩:=Vd;have Ve:i<m:=by
    rcases Nat.lt_trichotomy m i with h|h|h
    ·have:=hk m h;rw[e] at this;have:=p1.inj _ _ this;omega
    ·subst h;exact absurd e hne
    ·exact h
   rw[<-e];exact r2 i m (by omega) Ve hm
  have a:=key σ dz h1 h2 t1 (λk hk=>ih k hk (by omega)) hne;have b:=key dz σ t1 t2 h1 (λk hk=>(ih k hk (by omega)).symm) (Ne.symm hne);exact LI hc hP a b
theorem eB.uniq (hc:kT c P) (hP:∀x∈ys,P x) (h:eB c ys zs) (h':eB c ys us):zs=us:=by
 obtain⟨σ,a1,a2,a3⟩:=h;obtain⟨dz,b1,b2,b3⟩:=h';have he:=Vc hc hP rfl a2 a3 b2 b3;apply List.ext_getElem?;intro i;by_cases hi:i<ys.length
 ·rw[(a1.at_ i hi).2,(b1.at_ i hi).2,he i hi]
 ·rw[List.getElem?_eq_none (by rw[a1.len];omega),List.getElem?_eq_none (by rw[b1.len];omega)]
noncomputable def BF (c:α->α->Int) (ys:List α):List α:=open Classical in if h:∃zs,eB c ys zs then h.choose else ys
theorem eB.eq (hc:kT c P) (hP:∀x∈ys,P x) (h:eB c ys zs):zs=BF c ys:=by
 have he:∃zs,eB c ys zs:=⟨zs,h⟩
 unfold BF;rw[dif_pos he];exact h.uniq hc hP he.choose_spec
end
section
variable {α:Type} {ys zs:List α} {c:α->α->Int}
theorem eB.len (h:eB c ys zs):zs.length=ys.length:=by obtain⟨σ,h1,_⟩:=h;exact h1.len
theorem eB.sub (h:eB c ys zs):∀x∈zs,x∈ys:=λx hx=>by
 obtain⟨σ,h1,_⟩:=h;obtain⟨i,hi,rfl⟩:=List.getElem_of_mem hx;rw[h1.get (by rw[<-h1.len];exact hi)];exact List.getElem_mem _
end
def vI (lo hi s:Int):Int:=if hi<=s then 2 else if lo<=s then 1 else 0
structure zg where
 r:av
 ver:Int
 Vg:Int
 ch:Int
 deriving DecidableEq
instance:aY zg:=aY.via (λx:zg=>(x.r,(x.ver,(x.Vg,x.ch))))
instance:Inhabited zg:=⟨⟨⟨0,0⟩,0,0,0⟩⟩
structure cC where
 A:av
 B:av
 bX:Int
 bN:Int
 same:Bool
 deriving DecidableEq
instance:aY cC:=aY.via (λx:cC=>(x.A,(x.B,(x.bX,(x.bN,x.same)))))
instance:Inhabited cC:=⟨⟨⟨0,0⟩,⟨0,0⟩,0,0,false⟩⟩
abbrev pI (x:cC):List Value:=[.int .i64 x.A.a,.int .i64 x.A.b,.int .i64 x.B.a,.int .i64 x.B.b,.int .i64 x.bX,.int .i64 x.bN,.bool x.same]
section
variable {w:World} {M:Nat->Prop} {b o:Nat} {v:Value}
theorem Mk {h:Array Obj} {x:cC} {vs:List Value}:rep h M x vs↔vs=pI x:=
 ⟨λhr=>by
   obtain⟨us,ws,rfl,h1,wW,Bk,rfl,h2,BG,Ml,rfl,h3,Vh,Vi,rfl,h4,h5⟩:=hr;have e1:=(lz (M:=M) (h:=h) (x:=x.A)).1 h1;have e2:=(lz (M:=M) (h:=h) (x:=x.B)).1 h2;have eU:BG=[.int .i64 x.bX]:=h3;have jr:Vh=[.int .i64 x.bN]:=h4;have ze:Vi=[.bool x.same]:=h5;subst e1 e2 eU jr ze;rfl,
  λhr=>by
   subst hr;exact⟨bJ x.A,bJ x.B++[.int .i64 x.bX,.int .i64 x.bN,.bool x.same],rfl,(lz (M:=M)).2 rfl,bJ x.B,[_,_,_],rfl,(lz (M:=M)).2 rfl,[_],[_,_],rfl,rfl,[_],[_],rfl,rfl,rfl⟩⟩
theorem Ed {x:cC}:aB w M x v↔v=.agg (pI x).toArray:=
 ⟨λh=>by obtain⟨vs,h1,h2⟩:=h;rw[Mk.1 h1] at h2;exact h2,λh=>⟨_,Mk.2 rfl,h⟩⟩
end
def qj (x y:cC):Int:=iT [u9 x.A x.B y.A y.B,kj x.bX y.bX,kj x.bN y.bN]
def BH (n:Int):Bool:=decide (1<=n/\n<=1048576)
def qH (x:cC):Prop:=ow x.A x.B=true/\BH x.bX=true/\BH x.bN=true
structure pJ where
 id:Int
 ver:Int
 eL:List Bits
instance:aY pJ:=aY.via (λx:pJ=>(x.id,(x.ver,x.eL)))
structure ej where
 rc:pJ
 hs:List iM
 has:List Bool
instance:aY ej:=aY.via (λx:ej=>(x.rc,(x.hs,x.has)))
instance:Inhabited pJ:=⟨⟨0,0,[]⟩⟩
instance:Inhabited ej:=⟨⟨default,[],[]⟩⟩
structure jt where
 A:av
 B:av
 pat:Int
 wt:Int
 deriving DecidableEq
instance:aY jt:=aY.via (λx:jt=>(x.A,(x.B,(x.pat,x.wt))))
instance:Inhabited jt:=⟨⟨⟨0,0⟩,⟨0,0⟩,0,0⟩⟩
abbrev xq (x:jt):List Value:=[.int .i64 x.A.a,.int .i64 x.A.b,.int .i64 x.B.a,.int .i64 x.B.b,.int .i64 x.pat,.int .i64 x.wt]
section
variable {w:World} {M:Nat->Prop} {b o:Nat} {v u:Value}
theorem dB.Vj {x:pJ} (h:dB w M x b o):dB w M x.id b o:=dB.fst (p:=(x.id,(x.ver,x.eL))) h
theorem dB.src {x:ej} (h:dB w M x b o):dB w M x.rc b o:=dB.fst (p:=(x.rc,(x.hs,x.has))) h
theorem dB.Vk {x:ej} (h:dB w M x b o):dB w M x.hs b (o+3):=dB.fst (p:=(x.hs,x.has)) (dB.snd (p:=(x.rc,(x.hs,x.has))) h)
theorem dB.Mm {x:ej} (h:dB w M x b o):dB w M x.has b (o+4):=dB.snd (p:=(x.hs,x.has)) (dB.snd (p:=(x.rc,(x.hs,x.has))) h)
theorem dB.Vl {x:jt} (h:dB w M x b o):dB w M x.A b o:=dB.fst (p:=(x.A,(x.B,(x.pat,x.wt)))) h
theorem dB.Vm {x:jt} (h:dB w M x b o):dB w M x.B b (o+2):=dB.fst (p:=(x.B,(x.pat,x.wt))) (dB.snd (p:=(x.A,(x.B,(x.pat,x.wt)))) h)
theorem Mn {h:Array Obj} {x:pJ} {vs:List Value}:rep h M x vs↔∃u,vs=[.int .i64 x.id,.int .i64 x.ver,u]/\rep h M x.eL [u]:=by
 constructor
 ·rintro⟨us,ws,rfl,h1,wW,Bk,rfl,h2,h3⟩;obtain⟨u,rfl⟩:=List.length_eq_one_iff.1 (aY.len h3);have e1:us=[.int .i64 x.id]:=h1;have e2:wW=[.int .i64 x.ver]:=h2;subst e1 e2;exact⟨u,rfl,h3⟩
 ·rintro⟨u,rfl,h⟩;exact⟨[_],[_,u],rfl,rfl,[_],[u],rfl,rfl,h⟩
theorem zh {h:Array Obj} {x:ej} {vs:List Value}:rep h M x vs↔∃u p q,vs=[.int .i64 x.rc.id,.int .i64 x.rc.ver,u,p,q]/\rep h M x.rc.eL [u]/\rep h M x.hs [p]/\rep h M x.has [q]:=by
 constructor
 ·rintro⟨us,ws,rfl,h1,wW,Bk,rfl,h2,h3⟩;obtain⟨u,rfl,h4⟩:=Mn.1 h1;obtain⟨p,rfl⟩:=List.length_eq_one_iff.1 (aY.len h2);obtain⟨q,rfl⟩:=List.length_eq_one_iff.1 (aY.len h3);exact⟨u,p,q,rfl,h4,h2,h3⟩
 ·rintro⟨u,p,q,rfl,h1,h2,h3⟩;exact⟨[_,_,u],[p,q],rfl,Mn.2 ⟨u,rfl,h1⟩,[p],[q],rfl,h2,h3⟩
theorem zi {x:ej}:aB w M x v↔∃u p q,v=.agg #[.int .i64 x.rc.id,.int .i64 x.rc.ver,u,p,q]/\aB w M x.rc.eL u/\aB w M x.hs p/\aB w M x.has q:=by
 constructor
 ·rintro⟨vs,h,hv⟩;obtain⟨u,p,q,rfl,h1,h2,h3⟩:=zh.1 h;exact⟨u,p,q,hv,qy h1 rfl,qy h2 rfl,qy h3 rfl⟩
 ·rintro⟨u,p,q,rfl,h1,h2,h3⟩;exact⟨_,zh.2 ⟨u,p,q,rfl,h1.rE rfl,h2.rE rfl,h3.rE rfl⟩,rfl⟩
theorem Mp {h:Array Obj} {x:jt} {vs:List Value}:rep h M x vs↔vs=xq x:=
 ⟨λhr=>by
   obtain⟨us,ws,rfl,h1,wW,Bk,rfl,h2,BG,Ml,rfl,h3,h4⟩:=hr;have e1:=(lz (M:=M) (h:=h) (x:=x.A)).1 h1;have e2:=(lz (M:=M) (h:=h) (x:=x.B)).1 h2;have eU:BG=[.int .i64 x.pat]:=h3;have jr:Ml=[.int .i64 x.wt]:=h4;subst e1 e2 eU jr;rfl,
  λhr=>by
   subst hr;exact⟨bJ x.A,bJ x.B++[.int .i64 x.pat,.int .i64 x.wt],rfl,(lz (M:=M)).2 rfl,bJ x.B,[_,_],rfl,(lz (M:=M)).2 rfl,[_],[_],rfl,rfl,rfl⟩⟩
theorem GZ {x:jt}:aB w M x v↔v=.agg (xq x).toArray:=
 ⟨λh=>by obtain⟨vs,h1,h2⟩:=h;rw[Mp.1 h1] at h2;exact h2,λh=>⟨_,Mp.2 rfl,h⟩⟩
end
theorem Vn {P:Program} {N:Nat} {env:Env} {w:World} {x y z q:Operand} {t:TypeId} {a b c d n:Int} (hx:ev env x=some (.int .i64 a)) (hy:ev env y=some (.int .i64 b)) (hz:ev env z=some (.int .i64 c)) (hq:ev env q=some (.int .i64 d)) (h1:a=n) (h2:b=n) (h3:c=n) (h4:d=n) (ht:P.underlying t=some (.int .i64)):
  cH P N env (.call {callee:=.builtin .min,args:=#[x,y,z,q],argTypes:=#[t,t,t,t]}) w (.int .i64 n):=mk' λρ hρ o ho=>by
 subst h1 h2 h3 h4;unfold execOp;rw[ho];simp[hρ _ _ hx,hρ _ _ hy,hρ _ _ hz,hρ _ _ hq,go_sem,resolve,invoke,builtin,Builtin.min_,Builtin.min2]
def BI (n:Int):Prop:=1<=n/\n<=1048576
def sO (b:Bits):Bool:=decide (b.len=0)&&decide ((b.words.length:Int)=0)
def qI (b:Bits):Prop:=b=⟨0,[]⟩\/vD 64 b
theorem qI.ok {b:Bits} (h:qI b):sO b=true\/ko b=true:=by
 rcases h with rfl|h
 ·exact .inl (by decide)
 ·exact .inr (h.valid (.inl rfl))
structure rT (n k:Nat) (x:ej):Prop where
 id:BI x.rc.id
 ver:BI x.rc.ver
 fl:x.rc.eL.length=n
 fo:∀b∈x.rc.eL,qI b
 hl:x.hs.length=k
 ha:x.has.length=k
structure qk (n k:Nat) (l:List ej):Prop where
 len:l.length<=4
 all:∀x∈l,rT n k x
 jj:l.Pairwise λx y=>x.rc.id<y.rc.id
def sP (a b:Bits):Int:=if mU a b then(if gJ a+gJ b=0 then 0 else(4000*gJ (pH a b)+(gJ a+gJ b))/(2*(gJ a+gJ b))) else-1
theorem Vo {a b:Bits} (ha:vD 64 a) (hb:vD 64 b):gJ (pH a b)<=gJ a/\gJ (pH a b)<=gJ b/\0<=gJ (pH a b)/\gJ a<=127/\gJ b<=127:=by
 have bX:=ha.valid (.inl rfl);have bN:=hb.valid (.inl rfl);have hok:mU a b:=⟨bX,bN,by rw[ha.1,hb.1]⟩
 have hz:∀x∈(pH a b).words,oz x.n:=U7;have h1:qG (List.zipWith jJ a.words b.words)<=qG a.words:=GX ha.2.2 hb.2.2;have h2:qG (List.zipWith jJ a.words b.words)<=qG b.words:=by
  have e:List.zipWith jJ a.words b.words=List.zipWith jJ b.words a.words:=by
   rw[List.zipWith_comm];congr 1;funext x y;unfold jJ;congr 1;unfold bitsOf;simp only[BitVec.and_comm]
  rw[e];exact GX hb.2.2 ha.2.2
 have h3:∀c:Bits,vD 64 c->gJ c<=127:=λc hc=>by
  unfold gJ;rw[if_pos (hc.valid (.inl rfl))];have:=(D9 c.words c.words.length).2;have hl: (c.words.length:Int)=1:=by rw[hc.2.1];rfl
  omega
 refine⟨?_,?_,?_,h3 a ha,h3 b hb⟩
 ·rw[BD (GQ hok) hz,BD bX ha.2.2];exact Int.ofNat_le.2 h1
 ·rw[BD (GQ hok) hz,BD bN hb.2.2];exact Int.ofNat_le.2 h2
 ·rw[BD (GQ hok) hz];omega
theorem Vp {a b:Bits} (ha:qI a) (hb:qI b):-1<=sP a b/\sP a b<=1000:=by
 unfold sP;by_cases hok:mU a b
 ·rw[if_pos hok];have ha2:vD 64 a:=ha.resolve_left λe=>by subst e;exact absurd hok.1 (by decide)
  have eE:vD 64 b:=hb.resolve_left λe=>by subst e;exact absurd hok.2.1 (by decide)
  obtain⟨h1,h2,h3,h4,h5⟩:=Vo ha2 eE;by_cases h0:gJ a+gJ b=0
  ·rw[if_pos h0];omega
  ·rw[if_neg h0];have hp:0<2*(gJ a+gJ b):=by omega
   constructor
   ·have:=Int.ediv_nonneg (a:=4000*gJ (pH a b)+(gJ a+gJ b)) (b:=2*(gJ a+gJ b)) (by omega) (by omega);omega
   ·have: (4000*gJ (pH a b)+(gJ a+gJ b))/(2*(gJ a+gJ b))<1001:=Int.ediv_lt_of_lt_mul hp (by omega);omega
 ·rw[if_neg hok];omega
theorem G0 (b:Bits):0<=gJ b/\gJ b<=1016:=by
 unfold gJ;split
 ·rename_i h;have:=D9 b.words b.words.length;have:=(GO h).1;omega
 ·omega
def pK (x y:pJ):List Int:=List.zipWith sP x.eL y.eL
def xu (t s:Int):Nat:=if s<0 then 0 else if s<t then 1 else 2
theorem Vq (t s:Int):xu t s<3:=by unfold xu;split<;>(try split)<;>omega
def oA (dX G1:List Int):List Nat:=List.zipWith xu dX G1
theorem Mq {x y:pJ} (h:x.eL.length=y.eL.length): (pK x y).length=x.eL.length:=by unfold pK;rw[List.length_zipWith];omega
theorem Vr {x y:pJ} {k:Nat} (h1:k<x.eL.length) (h2:k<y.eL.length): (pK x y).take (k+1)=(pK x y).take k++[sP x.eL[k] y.eL[k]]:=by
 have h:k<(pK x y).length:=by unfold pK;rw[List.length_zipWith];omega
 rw[List.take_succ_eq_append_getElem h];simp[pK]
theorem Vs {x y:pJ} (h1:∀b∈x.eL,qI b) (h2:∀b∈y.eL,qI b):∀z∈pK x y,-1<=z/\z<=1000:=λz hz=>by
 unfold pK at hz;obtain⟨i,hi,rfl⟩:=List.getElem_of_mem hz;rw[List.getElem_zipWith];exact Vp (h1 _ (List.getElem_mem _)) (h2 _ (List.getElem_mem _))
theorem G4 {t s:List Int} {k d:Nat} (h1:k<t.length) (h2:k<s.length) (he:xu t[k] s[k]=d): ((oA t s).take k++List.replicate (t.length-k) 0).set k d=(oA t s).take (k+1)++List.replicate (t.length-(k+1)) 0:=by
 have h:k<(oA t s).length:=by unfold oA;rw[List.length_zipWith];omega
 have hl: ((oA t s).take k).length=k:=by rw[List.length_take];omega
 rw[List.set_append_right _ _ (by omega),hl,Nat.sub_self,show t.length-k=(t.length-(k+1))+1 from by omega,List.replicate_succ,List.set_cons_zero,List.take_succ_eq_append_getElem h,List.append_assoc];simp[oA,he]
def qJ (l:List Nat):Nat->Nat
 |0=>0
 |k+1=>qJ l k+l.getD k 0*3^k
theorem G5 {l:List Nat} (h:∀x∈l,x<3):∀k,qJ l k<3^k
 |0=>by simp[qJ]
 |k+1=>by
  have h1:=G5 h k;have h2:l.getD k 0<3:=by
   rw[List.getD_eq_getElem?_getD];cases e:l[k]? with
   |none=>simp
   |some y=>exact h y (List.mem_of_getElem? e)
  unfold qJ;have h3:l.getD k 0*3^k<=2*3^k:=Nat.mul_le_mul_right _ (by omega);rw[Nat.pow_succ];omega
def BJ (dX:List Int) (x y:pJ):Nat:=qJ (oA dX (pK x y)) dX.length
theorem Mr {dX G1:List Int}:∀x∈oA dX G1,x<3:=λx hx=>by
 unfold oA at hx;obtain⟨i,hi,rfl⟩:=List.getElem_of_mem hx;rw[List.getElem_zipWith];exact Vq _ _
theorem Vt (dX:List Int) (x y:pJ):BJ dX x y<3^dX.length:=G5 Mr _
def pL (x y:ej) (h:Nat):Bool:=x.has.getD h false&&y.has.getD h false&&decide ((x.hs.getD h default).n=(y.hs.getD h default).n)
def G6 (x y:ej):Nat:=min (min x.hs.length x.has.length) (min y.hs.length y.has.length)
def nM (x y:ej):Bool:=(List.range (G6 x y)).any (pL x y)
theorem Ee {x y:ej} {i:Nat} (i1:i<x.hs.length) (i2:i<x.has.length) (i3:i<y.hs.length) (i4:i<y.has.length):pL x y i=(x.has[i]&&y.has[i]&&decide (x.hs[i].n=y.hs[i].n)):=by
 unfold pL;rw[y6 i1,y6 i2,y6 i3,y6 i4]
theorem G7 {x y:ej} {k:Nat} (h1:x.hs.length=k) (h2:x.has.length=k) (h3:y.hs.length=k) (h4:y.has.length=k):G6 x y=k:=by unfold G6;omega
theorem Vu {x y:ej} {k i:Nat} (h1:x.hs.length=k) (h2:x.has.length=k) (h3:y.hs.length=k) (h4:y.has.length=k) (hi:i<k) (h:pL x y i=true):nM x y=true:=by
 unfold nM;rw[G7 h1 h2 h3 h4,List.any_eq_true];exact⟨i,List.mem_range.2 hi,h⟩
theorem Vv {x y:ej} {k:Nat} (h1:x.hs.length=k) (h2:x.has.length=k) (h3:y.hs.length=k) (h4:y.has.length=k) (h:∀j,j<k->pL x y j=false):nM x y=false:=by
 unfold nM;rw[G7 h1 h2 h3 h4,List.any_eq_false];exact λj hj=>by rw[h j (List.mem_range.1 hj)];decide
structure tO where
 pr:Int
 bL:List Int
 df:List Int
 dX:List Int
def rU (m:tO) (a b:av) (x y:ej):jt:=⟨a,b,BJ m.dX x.rc y.rc,qi m.pr m.bL m.df (BJ m.dX x.rc y.rc) m.bL.length⟩
def nN (m:tO) (r s:Nat) (x:ej) (l:List ej):List jt:=(l.filter (nM x)).map λy=>rU m ⟨r,x.rc.id⟩ ⟨s,y.rc.id⟩ x y
def lW (sh:List (List ej)) (s:Nat):List ej:=sh.getD s []
def oB (m:tO) (sh:List (List ej)) (r:Nat) (x:ej) (n:Nat):List jt:=(List.range' (r+1) n).flatMap λs=>nN m r s x (lW sh s)
def nP (m:tO) (sh:List (List ej)) (r:Nat) (l:List ej):List jt:=l.flatMap λx=>oB m sh r x (sh.length-(r+1))
def jD (m:tO) (sh:List (List ej)) (n:Nat):List jt:=(List.range n).flatMap λr=>nP m sh r (lW sh r)
theorem BK {α β:Type} {f:α->List β} {b:Nat}:∀{l:List α},(∀x∈l,(f x).length<=b)->(l.flatMap f).length<=l.length*b
 |[],_=>by simp
 |a::l,h=>by
  rw[List.flatMap_cons,List.length_append,List.length_cons,Nat.succ_mul];have:=h a (by simp);have:=BK (f:=f) (b:=b) (l:=l) λx hx=>h x (by simp[hx]);omega
structure kJ (n k:Nat) (sh:List (List ej)):Prop where
 len:sh.length<=3
 all:∀l∈sh,qk n k l
section
variable {m:tO} {sh:List (List ej)} {n k r s i j:Nat} {x y:ej} {l:List ej}
theorem kJ.at_ (h:kJ n k sh) (s:Nat):qk n k (lW sh s):=by
 unfold lW;rw[List.getD_eq_getElem?_getD];cases e:sh[s]? with
 |none=>exact⟨by simp,by simp,List.Pairwise.nil⟩
 |some l=>exact h.all l (List.mem_of_getElem? e)
theorem Ms: (nN m r s x l).length<=l.length:=by unfold nN;rw[List.length_map];exact List.length_filter_le _ _
theorem Mt (h:kJ n k sh) (q:Nat): (oB m sh r x q).length<=q*4:=by
 have:=BK (l:=List.range' (r+1) q) (f:=λs=>nN m r s x (lW sh s)) (b:=4) λs _=>Nat.le_trans Ms (h.at_ s).len;rw[List.length_range'] at this;exact this
theorem Mu (h:kJ n k sh): (nP m sh r l).length<=l.length*12:=
 BK λx _=>Nat.le_trans (Mt h _) (by have:=h.len;omega)
theorem G8 (h:kJ n k sh) (q:Nat): (jD m sh q).length<=q*48:=by
 have:=BK (l:=List.range q) (f:=λr=>nP m sh r (lW sh r)) (b:=48) λr _=>Nat.le_trans (Mu h) (by have:=(h.at_ r).len;omega);rw[List.length_range] at this;exact this
theorem Vw (hj:j<l.length):nN m r s x (l.take (j+1))=nN m r s x (l.take j)++(if nM x l[j] then[rU m ⟨r,x.rc.id⟩ ⟨s,l[j].rc.id⟩ x l[j]] else[]):=by
 unfold nN;rw[List.take_succ_eq_append_getElem hj,List.filter_append,List.map_append];congr 1;by_cases h:nM x l[j]=true
 ·rw[if_pos h,List.filter_cons_of_pos h];rfl
 ·rw[if_neg h,List.filter_cons_of_neg h];rfl
theorem Vx {q:Nat}:oB m sh r x (q+1)=oB m sh r x q++nN m r (r+1+q) x (lW sh (r+1+q)):=by
 unfold oB;rw[List.range'_concat,List.flatMap_append];simp
theorem Vy (hi:i<l.length):nP m sh r (l.take (i+1))=nP m sh r (l.take i)++oB m sh r l[i] (sh.length-(r+1)):=by
 unfold nP;rw[List.take_succ_eq_append_getElem hi,List.flatMap_append];simp
theorem Vz:jD m sh (r+1)=jD m sh r++nP m sh r (lW sh r):=by
 unfold jD;rw[List.range_succ,List.flatMap_append];simp
theorem BL {c:jt} {q:Nat}:c∈jD m sh q↔∃r s x y,r<q/\r<s/\s<sh.length/\x∈lW sh r/\y∈lW sh s/\nM x y=true/\c=rU m ⟨r,x.rc.id⟩ ⟨s,y.rc.id⟩ x y:=by
 unfold jD nP oB nN;simp only[List.mem_flatMap,List.mem_range,List.mem_range'_1,List.mem_map,List.mem_filter];constructor
 ·rintro⟨r,hr,x,hx,s,hs,y,⟨hy,ha⟩,rfl⟩;have:r+1<sh.length:=by omega
  exact⟨r,s,x,y,hr,by omega,by omega,hx,hy,ha,rfl⟩
 ·rintro⟨r,s,x,y,hr,h1,h2,hx,hy,ha,rfl⟩;exact⟨r,hr,x,hx,s,⟨by omega,by omega⟩,y,⟨hy,ha⟩,rfl⟩
end
structure Key where
 comps:List av
instance:aY Key where
 sz:=1
 agg:=true
 flat h:=by cases h
 rep h M x vs:=rep h M x.comps vs
 len h:=aY.len (α:=List av) h
 one h:=aY.one (α:=List av) h
 keep h hk:=aY.keep (α:=List av) h hk
 sub h hk:=aY.sub (α:=List av) h hk
structure VA where
 val:Value
 one:val.oneCell'=true
instance:aY VA where
 sz:=1
 agg:=false
 flat _:=rfl
 rep _ _ x vs:=vs=[x.val]
 len h:=by subst h;rfl
 one h:=by subst h;rename_i x;intro v hv;simp at hv;subst hv;exact x.one
 keep h _:=h
 sub h _:=h
section
variable {w:World} {M:Nat->Prop} {b o:Nat} {v:Value}
end
def idxOf {α:Type} (p:α->Bool) (l:List α):Int:=if l.any p then(l.findIdx p:Int) else-1
theorem G9 {α:Type} {p:α->Bool} {l:List α} {k:Nat} (h:k<l.length) (h0:∀i (hi:i<k),p (l[i]'(by omega))=false) (hp:p l[k]=true):idxOf p l=k:=by
 unfold idxOf;rw[if_pos (List.any_eq_true.2 ⟨l[k],List.getElem_mem h,hp⟩)];have:l.findIdx p=k:=(List.findIdx_eq h).2 ⟨hp,λj hj=>by simpa using h0 j hj⟩;rw[this]
theorem G_ {α:Type} {p:α->Bool} {l:List α} (h0:∀i (hi:i<l.length),p l[i]=false):idxOf p l= -1:=by
 unfold idxOf;rw[if_neg];intro h;obtain⟨x,hx,hp⟩:=List.any_eq_true.1 h;obtain⟨i,hi,rfl⟩:=List.mem_iff_getElem.1 hx;rw[h0 i hi] at hp;cases hp
theorem He {α:Type} {p:α->Bool} {l:List α}:decide (0<=idxOf p l)=l.any p:=by
 unfold idxOf;cases h:l.any p
 ·rfl
 ·simp only[if_true];exact decide_eq_true (by omega)
theorem tP {α:Type} {l:List (List α)} {i:Nat} (h:i<l.length):l.getD i []=l[i]:=by rw[List.getD_eq_getElem?_getD,List.getElem?_eq_getElem h];rfl
theorem VB {α:Type} {l:List (List α)} {i:Nat} {r:α} (h:r∈l.getD i []):i<l.length:=by
 rcases Nat.lt_or_ge i l.length with h1|h1
 ·exact h1
 ·rw[List.getD_eq_getElem?_getD,List.getElem?_eq_none h1] at h;simp at h
theorem VC {l:List av} {c:av}: (l.any λx=>decide (c=x))=true↔c∈l:=by
 rw[List.any_eq_true];exact⟨λ⟨x,hx,e⟩=>by rw[of_decide_eq_true e];exact hx,λh=>⟨c,h,by simp⟩⟩
theorem Mv (l:List bk): (dP l).length<=(bg l).length:=by unfold dP;rw[mu];exact(yZ _ _).length_le
theorem BM {l:List bk} {i:Nat} (h:i<(a_ l).length): (a_ l)[i]=l.filter λx=>decide (cv l x.A=cv l ((dJ (cv l) (bg l))[i]'(by simpa[a_] using h))):=by simp[a_]
theorem Mw {l:List bk} {i:Nat} (h:i<(dP l).length): (dP l)[i]=(bg l).filter λr=>decide (cv l r=cv l ((dJ (cv l) (bg l))[i]'(by unfold dP at h;rwa [mu] at h))):=Bp h
theorem Hf {l:List bk} {i:Nat} (h:i<(a_ l).length) (h':i<(dP l).length):bg (a_ l)[i]=(dP l)[i]:=by
 rw[BM,Mw];refine Ls (wZ _) ((wZ l).filter _) λr=>?_;rw[ji,List.mem_filter,ji,decide_eq_true_eq];constructor
 ·rintro⟨x,hx,e⟩;obtain⟨hx,h2⟩:=List.mem_filter.1 hx;refine⟨⟨x,hx,e⟩,?_⟩;have h2:=of_decide_eq_true h2;rcases e with rfl|rfl
  ·exact h2
  ·rw[<-w_ hx];exact h2
 ·rintro⟨⟨x,hx,e⟩,h2⟩;refine⟨x,List.mem_filter.2 ⟨hx,decide_eq_true ?_⟩,e⟩;rcases e with rfl|rfl
  ·exact h2
  ·rw[w_ hx];exact h2
theorem Hg {l:List bk} (hv:mR l) {i:Nat} (h:i<(a_ l).length):mR (a_ l)[i]:=by
 rw[BM];exact hv.sub List.filter_sublist
def iU (ds:List cC) (a b:av):Bool:=ds.any λd=>!d.same&&decide (d.A=a/\d.B=b)
def fJ (ds:List cC) (a b:av):Bool:=decide (a.a=b.a)||iU ds a b||iU ds b a
theorem VD (ds:List cC) (a b:av):fJ ds a b=fJ ds b a:=by
 unfold fJ;rw[show decide (a.a=b.a)=decide (b.a=a.a) from decide_eq_decide.2 ⟨Eq.symm,Eq.symm⟩,Bool.or_assoc,Bool.or_assoc,Bool.or_comm (iU ds a b)]
theorem VE (ds:List cC) (a:av):fJ ds a a=true:=by unfold fJ;simp
def iq (l:List bk) (s:List av):List bk:=l.filter λx=>decide (x.A∈s/\x.B∈s)
theorem VF {l:List bk} {s s':List av} (h:∀r,r∈s↔r∈s'):iq l s=iq l s':=by
 unfold iq;refine List.filter_congr λx _=>?_;rw[decide_eq_decide,h,h]
def qK (l:List bk) (s:List av):Prop:=∀x∈s,∀y∈s,cv (iq l s) x=cv (iq l s) y
theorem qK.congr {l:List bk} {s s':List av} (h:∀r,r∈s↔r∈s') (hj:qK l s):qK l s':=λx hx y hy=>by
 rw[<-VF (l:=l) h];exact hj x ((h x).2 hx) y ((h y).2 hy)
def qm (l:List bk) (s:List av):Bool:=s.all λx=>decide (cv (iq l s) x=cv (iq l s) (s.headD ⟨0,0⟩))
theorem Mx {l:List bk} {s:List av}:qm l s=true↔qK l s:=by
 unfold qm qK;rw[List.all_eq_true];constructor
 ·intro h x hx y hy;have h1:=of_decide_eq_true (h x hx);have h2:=of_decide_eq_true (h y hy);rw[h1,h2]
 ·intro h x hx;rw[decide_eq_true_eq];refine h x hx _ ?_;cases s with
  |nil=>simp at hx
  |cons a s=>simp
def rV (x:bk) (p:List av):Bool:=decide (x.A∈p/\x.B∈p)
def fh (l:List bk) (ps:List (List av)):Int:=((l.filter λx=>ps.any (rV x)).map (·.w)).sum
def iD (sets:List (List av)):List (List av):=sets.filter λs=>decide (2<=s.length)
def oC (ds:List cC) (s:List av) (r:av):Bool:=!(s.any λb=>fJ ds b r)
def mC (ds:List cC):List av->List (List av)->List (List (List av))
 |[],sets=>[sets]
 |r::rs,sets=>((List.range sets.length).flatMap λk=>if oC ds (sets.getD k []) r then mC ds rs (sets.set k (sets.getD k []++[r])) else[])++mC ds rs (sets++[[r]])
structure kV where
 found:Bool
 best:List (List av)
 val:Int
def nQ (l:List bk) (sets:List (List av)):Bool:=(iD sets).all (qm l)
def mV (l:List bk) (st:kV) (sets:List (List av)):kV:=
 if nQ l sets=true/\(st.found=false\/st.val<fh l (iD sets)) then⟨true,iD sets,fh l (iD sets)⟩ else st
def qn (l:List bk) (ds:List cC) (rs:List av) (sets:List (List av)) (st:kV):kV:=(mC ds rs sets).foldl (mV l) st
def xw:kV:=⟨false,[],0⟩
def oD (l:List bk) (ds:List cC):List (List av):=(qn l ds (bg l) [] xw).best
def pM (l:List bk) (ds:List cC) (r:av) (rs:List av) (sets:List (List av)) (st:kV):Nat->kV
 |0=>st
 |k+1=>if oC ds (sets.getD k []) r then qn l ds rs (sets.set k (sets.getD k []++[r])) (pM l ds r rs sets st k) else pM l ds r rs sets st k
theorem My (l:List bk) (ds:List cC) (r:av) (rs:List av) (sets:List (List av)) (st:kV):∀k,pM l ds r rs sets st k=((List.range k).flatMap λk=>if oC ds (sets.getD k []) r then mC ds rs (sets.set k (sets.getD k []++[r])) else[]).foldl (mV l) st
 |0=>rfl
 |k+1=>by
  rw[List.range_succ,List.flatMap_append,List.foldl_append,<-My l ds r rs sets st k,pM];simp only[List.flatMap_cons,List.flatMap_nil,List.append_nil];split
  ·rfl
  ·rfl
theorem VG (l:List bk) (ds:List cC) (r:av) (rs:List av) (sets:List (List av)) (st:kV):qn l ds (r::rs) sets st=qn l ds rs (sets++[[r]]) (pM l ds r rs sets st sets.length):=by
 unfold qn;rw[mC,List.foldl_append,<-My]
theorem VH (l:List bk) (ds:List cC) (sets:List (List av)) (st:kV):qn l ds [] sets st=mV l st sets:=rfl
section
variable {l:List bk} {ds:List cC} {rs xs:List av} {sets out:List (List av)} {st:kV}
structure kK (ds:List cC) (xs:List av) (sets:List (List av)):Prop where
 perm:sets.flatten.Perm xs
 ne:∀s∈sets,s≠[]
 sub:∀s∈sets,s.Sublist xs
 bar:∀s∈sets,s.Pairwise λa b=>fJ ds a b=false
 heads: (sets.map λs=>s.headD ⟨0,0⟩).Sublist xs
theorem kK.nil:kK ds [] []:=⟨List.Perm.refl _,by simp,by simp,by simp,by simp⟩
theorem Mz:∀{sets:List (List av)} {k:Nat} {r:av},k<sets.length->(sets.set k (sets.getD k []++[r])).flatten.Perm (sets.flatten++[r])
 |[],k,r,h=>by simp at h
 |s::ss,0,r,_=>by
  simp only[List.set_cons_zero,List.getD_cons_zero,List.flatten_cons,List.append_assoc];exact List.Perm.append_left s (List.perm_append_comm)
 |s::ss,k+1,r,h=>by
  simp only[List.set_cons_succ,List.getD_cons_succ,List.flatten_cons,List.append_assoc];exact List.Perm.append_left s (Mz (by simpa using h))
theorem MA {s:List av} {r:av}:oC ds s r=true↔∀b∈s,fJ ds b r=false:=by
 unfold oC;rw[Bool.not_eq_true',List.any_eq_false];exact⟨λh b hb=>by simpa using h b hb,λh b hb=>by rw[h b hb];decide⟩
theorem kK.put (h:kK ds xs sets) {k:Nat} {r:av} (hk:k<sets.length) (hok:oC ds (sets.getD k []) r=true):kK ds (xs++[r]) (sets.set k (sets.getD k []++[r])):=by
 have hm:sets.getD k []∈sets:=by rw[tP hk];exact List.getElem_mem _
 have hin:∀s∈sets.set k (sets.getD k []++[r]),s∈sets\/s=sets.getD k []++[r]:=λs hs=>by
  rcases List.mem_or_eq_of_mem_set hs with h|h
  ·exact .inl h
  ·exact .inr h
 refine⟨(Mz hk).trans (h.perm.append_right _),λs hs=>?_,λs hs=>?_,λs hs=>?_,?_⟩
 ·rcases hin s hs with h1|rfl
  ·exact h.ne s h1
  ·simp
 ·rcases hin s hs with h1|rfl
  ·exact(h.sub s h1).trans (List.sublist_append_left _ _)
  ·exact(h.sub _ hm).append (List.Sublist.refl _)
 ·rcases hin s hs with h1|rfl
  ·exact h.bar s h1
  ·refine List.pairwise_append.2 ⟨h.bar _ hm,List.pairwise_singleton _ _,λa ha b hb=>?_⟩;rw[List.mem_singleton] at hb;subst hb;exact MA.1 hok a ha
 ·have e: ((sets.set k (sets.getD k []++[r])).map λs=>s.headD ⟨0,0⟩)=sets.map λs=>s.headD ⟨0,0⟩:=by
   apply List.ext_getElem?;intro i;rw[List.getElem?_map,List.getElem?_map,List.getElem?_set];by_cases e:k=i
   ·subst e;rw[if_pos rfl,if_pos hk,List.getElem?_eq_getElem hk];have hne:=h.ne _ hm;rw[tP hk] at hne⊢;cases e2:sets[k] with
    |nil=>exact absurd e2 hne
    |cons a t=>simp
   ·rw[if_neg e]
  rw[e];exact h.heads.trans (List.sublist_append_left _ _)
theorem kK.new (h:kK ds xs sets) (r:av):kK ds (xs++[r]) (sets++[[r]]):=by
 have hin:∀s∈sets++[[r]],s∈sets\/s=[r]:=λs hs=>by
  rcases List.mem_append.1 hs with h|h
  ·exact .inl h
  ·exact .inr (List.mem_singleton.1 h)
 refine⟨by rw[List.flatten_append];simpa using h.perm.append_right [r],λs hs=>?_,λs hs=>?_,λs hs=>?_,?_⟩
 ·rcases hin s hs with h1|rfl
  ·exact h.ne s h1
  ·simp
 ·rcases hin s hs with h1|rfl
  ·exact(h.sub s h1).trans (List.sublist_append_left _ _)
  ·exact List.sublist_append_right _ _
 ·rcases hin s hs with h1|rfl
  ·exact h.bar s h1
  ·exact List.pairwise_singleton _ _
 ·rw[List.map_append];exact h.heads.append (List.Sublist.refl _)
theorem Hh:∀{rs xs:List av} {sets:List (List av)},kK ds xs sets->∀out∈mC ds rs sets,kK ds (xs++rs) out
 |[],xs,sets,h,out,ho=>by
  rw[mC,List.mem_singleton] at ho;subst ho;rw[List.append_nil];exact h
 |r::rs,xs,sets,h,out,ho=>by
  rw[mC,List.mem_append,List.mem_flatMap] at ho;have e:xs++r::rs=(xs++[r])++rs:=by simp
  rw[e];rcases ho with⟨k,hk,ho⟩|ho
  ·split at ho
   ·rename_i hok;exact Hh (h.put (List.mem_range.1 hk) hok) out ho
   ·simp at ho
  ·exact Hh (h.new r) out ho
theorem VI {sets:List (List av)} {i:Nat} {r:av} (h:i<sets.length):sets.modify i (·++[r])=sets.set i (sets.getD i []++[r]):=by
 apply List.ext_getElem?;intro j;rw[List.getElem?_modify,List.getElem?_set,tP h];by_cases e:i=j
 ·subst e;simp[h]
 ·simp[e]
theorem Hi {di:Type} [DecidableEq di] (f:av->di):∀(rs xs:List av),(∀a∈xs++rs,∀b∈xs++rs,a≠b->f a=f b->fJ ds a b=false)->(xs++rs).Nodup->gI f (xs++rs)∈mC ds rs (gI f xs)
 |[],xs,_,_=>by rw[List.append_nil,mC,List.mem_singleton]
 |r::rs,xs,hb,hn=>by
  have e:xs++r::rs=(xs++[r])++rs:=by simp
  rw[e] at hb hn⊢;have ih:=Hi f rs (xs++[r]) hb hn;rw[mC,List.mem_append,List.mem_flatMap];by_cases hq:∃q∈dJ f xs,f q=f r
  ·obtain⟨q,hq,MB⟩:=hq;obtain⟨i,hi,rfl⟩:=List.getElem_of_mem hq;left;refine⟨i,List.mem_range.2 (by rw[mu];exact hi),?_⟩;have hlt:i<(gI f xs).length:=by rw[mu];exact hi
   rw[if_pos]
   ·have h2:=Lx (xs:=xs) (r:=r) hi MB;rw[h2.2,VI hlt] at ih;exact ih
   ·rw[MA];intro b Ef;rw[tP hlt,Bp hlt,List.mem_filter,decide_eq_true_eq] at Ef;refine hb b (by simp[Ef.1]) r (by simp) (λe=>?_) (by rw[Ef.2,MB]);subst e;have:=(List.nodup_append.1 (List.nodup_append.1 hn).1).2.2 b Ef.1 b (by simp);exact this rfl
  ·right;have h2:=Ly (xs:=xs) (r:=r) (f:=f) (λq Eg e=>hq ⟨q,Eg,e⟩);rw[h2.2] at ih;exact ih
end
section
variable {l:List bk} {ds:List cC} {rs xs:List av} {sets out ps:List (List av)} {st:kV}
structure Good (l:List bk) (L:List (List (List av))) (st:kV):Prop where
 no:st.found=false->∀s∈L,nQ l s=false
 yes:st.found=true->(∃s∈L,nQ l s=true/\st.best=iD s/\st.val=fh l (iD s))/\∀s∈L,nQ l s=true->fh l (iD s)<=st.val
theorem Good.step {L:List (List (List av))} (h:Good l L st) (s:List (List av)):Good l (L++[s]) (mV l st s):=by
 unfold mV;by_cases hc:nQ l s=true/\(st.found=false\/st.val<fh l (iD s))
 ·rw[if_pos hc];refine⟨λe=>(by cases e),λ_=>⟨⟨s,by simp,hc.1,rfl,rfl⟩,λs' hs' hf=>?_⟩⟩;rcases List.mem_append.1 hs' with h1|h1
  ·show fh l (iD s')<=fh l (iD s);cases e:st.found with
   |false=>rw[h.no e s' h1] at hf;cases hf
   |true=>
    have h2:=(h.yes e).2 s' h1 hf;have h3:=hc.2.resolve_left (by rw[e];decide);omega
  ·rw[List.mem_singleton] at h1;subst h1;exact Int.le_refl _
 ·rw[if_neg hc];refine⟨λe s' hs'=>?_,λe=>⟨?_,λs' hs' hf=>?_⟩⟩
  ·rcases List.mem_append.1 hs' with h1|h1
   ·exact h.no e s' h1
   ·rw[List.mem_singleton] at h1;subst h1;rw[Bool.eq_false_iff];intro hf;exact hc ⟨hf,.inl e⟩
  ·obtain⟨⟨q,h1,h2⟩,_⟩:=h.yes e;exact⟨q,by simp[h1],h2⟩
  ·rcases List.mem_append.1 hs' with h1|h1
   ·exact(h.yes e).2 s' h1 hf
   ·rw[List.mem_singleton] at h1;subst h1;apply Classical.byContradiction;intro hn;exact hc ⟨hf,.inr (by omega)⟩
theorem Good.fold {vJ:List (List (List av))}:∀(L:List (List (List av))) {st:kV} {vJ:List (List (List av))},Good l vJ st->Good l (vJ++L) (L.foldl (mV l) st)
 |[],st,vJ,h=>by rw[List.append_nil];exact h
 |s::L,st,vJ,h=>by
  have:=Good.fold (vJ:=vJ) L (h.step s);rw[List.append_assoc] at this;exact this
theorem Good.start:Good l [] xw:=⟨λ_ s h=>by simp at h,λe=>by cases e⟩
theorem VJ (f:av->av) (hf:∀a b,f a=f b->a=b) (hn:xs.Nodup):iD (gI f xs)=[]:=by
 unfold iD;rw[List.filter_eq_nil_iff];intro s hs;obtain⟨i,hi,rfl⟩:=List.getElem_of_mem hs;rw[Bp hi];simp only[decide_eq_true_eq];intro h2;have gW:=hn.sublist (List.filter_sublist (p:=λr=>decide (f r=f ((dJ f xs)[i]'(by rwa [mu] at hi)))));generalize hL:List.filter (λr=>decide (f r=f ((dJ f xs)[i]'(by rwa [mu] at hi)))) xs=L at*;have h0:L[0]∈L:=List.getElem_mem _;have h1:L[1]∈L:=List.getElem_mem _;have e0:f L[0]=f L[1]:=by
  have a:∀z∈L,f z=f ((dJ f xs)[i]'(by rwa [mu] at hi)):=λz hz=>by
   rw[<-hL,List.mem_filter] at hz;exact of_decide_eq_true hz.2
  rw[a _ h0,a _ h1]
 have:=List.pairwise_iff_getElem.1 (List.nodup_iff_pairwise_ne.1 gW) 0 1 (by omega) (by omega) (by omega);exact this (hf _ _ e0)
theorem VK (l:List bk) (ds:List cC):∃s,kK ds (bg l) s/\nQ l s=true/\oD l ds=iD s/\
  (qn l ds (bg l) [] xw).val=fh l (oD l ds)/\
  ∀{di:Type} [DecidableEq di] (f:av->di),(∀a∈bg l,∀b∈bg l,a≠b->f a=f b->fJ ds a b=false)->nQ l (gI f (bg l))=true->fh l (iD (gI f (bg l)))<=fh l (oD l ds):=by
 have MC:Good l (mC ds (bg l) []) (qn l ds (bg l) [] xw):=by
  have:=Good.fold (vJ:=[]) (mC ds (bg l) []) (Good.start (l:=l));exact this
 have hn:=Bn l;have hid:gI (id:av->av) (bg l)∈mC ds (bg l) []:=by
  have:=Hi (ds:=ds) (id:av->av) (bg l) [] (λa _ b _ hne e=>absurd e hne) (by simpa using hn);exact this
 have Gw:nQ l (gI (id:av->av) (bg l))=true:=by
  unfold nQ;rw[VJ id (λa b e=>e) hn];rfl
 have hfound: (qn l ds (bg l) [] xw).found=true:=by
  cases e: (qn l ds (bg l) [] xw).found with
  |true=>rfl
  |false=>have:=MC.no e _ hid;rw[Gw] at this;cases this
 obtain⟨⟨s,h1,h2,h3,h4⟩,h5⟩:=MC.yes hfound;refine⟨s,by have:=Hh kK.nil s h1;simpa using this,h2,h3,by rw[h4];unfold oD;rw[h3],λf hb tQ=>?_⟩;have:=Hi (ds:=ds) f (bg l) [] (by simpa using hb) (by simpa using hn);have h6:=h5 _ this tQ;rw[h4] at h6;unfold oD;rw[h3];exact h6
structure iE (l:List bk) (ds:List cC) (ps:List (List av)):Prop where
 jj:∀p∈ps,p.Pairwise gH
 len:∀p∈ps,2<=p.length
 bar:∀p∈ps,p.Pairwise λa b=>fJ ds a b=false
 join:∀p∈ps,qK l p
 Hj:ps.flatten.Nodup
 heads:ps.Pairwise λp q=>gH (p.headD ⟨0,0⟩) (q.headD ⟨0,0⟩)
theorem MD {s:List av} (h:qK l s) (h2:2<=s.length) (hn:s.Nodup) {r:av} (hr:r∈s):r∈bg l:=by
 apply Classical.byContradiction;intro hno;have BN:r∉bg (iq l s):=λhm=>by
  obtain⟨x,hx,e⟩:=ji.1 hm;exact hno (ji.2 ⟨x,(List.mem_filter.1 hx).1,e⟩)
 obtain⟨q,hq,hne⟩:∃q∈s,q≠r:=by
  have h0:=List.getElem_mem (l:=s) (n:=0) (by omega);have h1:=List.getElem_mem (l:=s) (n:=1) (by omega);have hne:=List.pairwise_iff_getElem.1 (List.nodup_iff_pairwise_ne.1 hn) 0 1 (by omega) (by omega) (by omega);by_cases e:s[0]=r
  ·exact⟨_,h1,λe2=>hne (by rw[e,e2])⟩
  ·exact⟨_,h0,e⟩
 have e1:=h q hq r hr;rw[D0 BN] at e1;by_cases iF:q∈bg (iq l s)
 ·have:=Gl.2 iF;rw[e1] at this;exact BN this
 ·rw[D0 iF] at e1;exact hne e1
theorem iE.nodup (h:iE l ds ps) {p:List av} (hp:p∈ps):p.Nodup:=Bm (h.jj p hp)
theorem iE.refs (h:iE l ds ps) {p:List av} (hp:p∈ps) {r:av} (hr:r∈p):r∈bg l:=MD (h.join p hp) (h.len p hp) (h.nodup hp) hr
end
def vK (c d:jt):Prop:=gH c.A d.A\/c.A=d.A/\gH c.B d.B
section
variable {m:tO} {sh VL:List (List ej)} {n k r s q i j:Nat} {x y:ej} {l:List ej}
theorem VM (h:l.Pairwise λx y=>x.rc.id<y.rc.id): (nN m r s x l).Pairwise vK:=by
 unfold nN;rw[List.pairwise_map];exact(h.filter _).imp λ{a b} hab=> .inr ⟨rfl,.inr ⟨rfl,hab⟩⟩
theorem Hl {c:jt}:c∈nN m r s x l↔∃y∈l,nM x y=true/\c=rU m ⟨r,x.rc.id⟩ ⟨s,y.rc.id⟩ x y:=by
 unfold nN;simp only[List.mem_map,List.mem_filter];exact⟨λ⟨y,⟨h1,h2⟩,e⟩=>⟨y,h1,h2,e.symm⟩,λ⟨y,h1,h2,e⟩=>⟨y,⟨h1,h2⟩,e.symm⟩⟩
theorem Ho {c:jt}:c∈oB m sh r x q->c.A=⟨r,x.rc.id⟩:=λh=>by
 unfold oB at h;obtain⟨s,_,h⟩:=List.mem_flatMap.1 h;obtain⟨y,_,_,rfl⟩:=Hl.1 h;rfl
theorem VN (h:kJ n k sh): (oB m sh r x q).Pairwise vK:=by
 unfold oB;rw[List.pairwise_flatMap];refine⟨λs _=>VM (h.at_ s).jj,(List.pairwise_lt_range' (s:=r+1) (n:=q) (step:=1)).imp λ{a b} hab c hc d hd=>?_⟩;obtain⟨y,_,_,rfl⟩:=Hl.1 hc;obtain⟨z,_,_,rfl⟩:=Hl.1 hd;exact .inr ⟨rfl,.inl (by show(a:Int)<b;omega)⟩
theorem ME {c:jt}:c∈nP m sh r l->c.A.a=r:=λh=>by
 obtain⟨x,_,h⟩:=List.mem_flatMap.1 h;rw[Ho h]
theorem VO (h:kJ n k sh) (hl:l.Pairwise λx y=>x.rc.id<y.rc.id): (nP m sh r l).Pairwise vK:=by
 unfold nP;rw[List.pairwise_flatMap];refine⟨λx _=>VN h,hl.imp λ{a b} hab c hc d hd=>?_⟩;have h1:=Ho hc;have h2:=Ho hd;refine .inl ?_;rw[h1,h2];exact .inr ⟨rfl,hab⟩
theorem MF (h:kJ n k sh): (jD m sh q).Pairwise vK:=by
 unfold jD;rw[List.pairwise_flatMap];refine⟨λr _=>VO h (h.at_ r).jj,List.pairwise_lt_range.imp λ{a b} hab c hc d hd=>?_⟩;have h1:=ME hc;have h2:=ME hd;refine .inl (.inl ?_);rw[h1,h2];omega
theorem VP {c d:jt} (h:vK c d):u9 c.A c.B d.A d.B<0:=by
 have h1:= @Gj ⟨c.A,c.B,0⟩ ⟨d.A,d.B,0⟩;have h2:rJ ⟨c.A,c.B,0⟩ ⟨d.A,d.B,0⟩:=h;have h3:¬0<=u9 c.A c.B d.A d.B:=λe=>h1.1 e h2;omega
theorem Hp {lo hi s:Int}:vI lo hi s=2↔hi<=s:=by unfold vI;split<;>(try split)<;>omega
def kW (hi:Int) (cs:List jt):List bk:=(cs.filter λc=>decide (hi<=c.wt)).map λc=>⟨c.A,c.B,max c.wt hi⟩
theorem VQ {hi:Int} {cs:List jt} (hj:j<cs.length):kW hi (cs.take (j+1))=kW hi (cs.take j)++(if hi<=cs[j].wt then[⟨cs[j].A,cs[j].B,max cs[j].wt hi⟩] else[]):=by
 unfold kW;rw[List.take_succ_eq_append_getElem hj,List.filter_append,List.map_append];congr 1;by_cases h:hi<=cs[j].wt
 ·rw[if_pos h,List.filter_cons_of_pos (by simpa using h)];rfl
 ·rw[if_neg h,List.filter_cons_of_neg (by simpa using h)];rfl
theorem MG {hi:Int} {cs:List jt}: (kW hi cs).length<=cs.length:=by unfold kW;rw[List.length_map];exact List.length_filter_le _ _
theorem Hq {hi:Int} {cs:List jt} {b:bk}:b∈kW hi cs↔∃c∈cs,hi<=c.wt/\b=⟨c.A,c.B,max c.wt hi⟩:=by
 unfold kW;simp only[List.mem_map,List.mem_filter,decide_eq_true_eq];exact⟨λ⟨y,⟨h1,h2⟩,e⟩=>⟨y,h1,h2,e.symm⟩,λ⟨y,h1,h2,e⟩=>⟨y,⟨h1,h2⟩,e.symm⟩⟩
structure BO (m:tO):Prop where
 w:lV m.pr m.bL m.df
 t:m.dX.length=m.bL.length
theorem BO.wt (h:BO m) (a b:av) (x y:ej):-393216<=(rU m a b x y).wt/\(rU m a b x y).wt<=393216:=h.w.sc _ (Nat.le_refl _)
theorem MH (h:kJ n k sh) {c:jt} (hc:c∈jD m sh q):ow c.A c.B=true:=by
 obtain⟨r,s,x,y,_,h1,h2,hx,hy,_,rfl⟩:=BL.1 hc;have hl:=h.len;have e1:=((h.at_ r).all x hx).id;have e2:=((h.at_ s).all y hy).id;unfold BI at e1 e2;unfold ow rK rU;simp only[Bool.and_eq_true,decide_eq_true_eq];omega
theorem VR {hi:Int} (h:kJ n k sh) (hm:BO m) (h1:1<=hi) (h2:hi<=65536):mR (kW hi (jD m sh sh.length)):=by
 have hl:=h.len;refine⟨Nat.le_trans MG (Nat.le_trans (G8 h _) (by omega)),λb hb=>?_,?_⟩
 ·obtain⟨c,hc,h3,rfl⟩:=Hq.1 hb;have e:=MH h hc;obtain⟨r,s,x,y,_,_,_,_,_,_,rfl⟩:=BL.1 hc;have:=hm.wt ⟨r,x.rc.id⟩ ⟨s,y.rc.id⟩ x y;exact⟨e,by show 1<=max _ _;omega,by show max _ _<=_;omega⟩
 ·unfold kW;rw[List.pairwise_map];exact((MF h).filter _).imp λ{a b} hab=>hab
theorem VT {hi:Int} {c:av} (hc:c∈bg (kW hi (jD m sh q))):∃r x,r<sh.length/\x∈lW sh r/\c=⟨r,x.rc.id⟩:=by
 obtain⟨b,hb,e⟩:=ji.1 hc;obtain⟨d,hd,_,rfl⟩:=Hq.1 hb;obtain⟨r,s,x,y,_,h1,h2,hx,hy,_,rfl⟩:=BL.1 hd;rcases e with rfl|rfl
 ·exact⟨r,x,by omega,hx,rfl⟩
 ·exact⟨s,y,h2,hy,rfl⟩
theorem iE.VU {l:List bk} {ds:List cC} {ps:List (List av)} (h:iE l ds ps) {p:List av} (hp:p∈ps) {c:av} (hc:c∈p):∃b∈l,b.A∈p/\b.B∈p/\(c=b.A\/c=b.B):=by
 apply Classical.byContradiction;intro hno;have BN:c∉bg (iq l p):=λhm=>by
  obtain⟨x,hx,e⟩:=ji.1 hm;unfold iq at hx;rw[List.mem_filter,decide_eq_true_eq] at hx;exact hno ⟨x,hx.1,hx.2.1,hx.2.2,e⟩
 obtain⟨d,hd,hne⟩:∃q∈p,q≠c:=by
  have h2:=h.len p hp;have h0:=List.getElem_mem (l:=p) (n:=0) (by omega);have h1:=List.getElem_mem (l:=p) (n:=1) (by omega);have hne:=List.pairwise_iff_getElem.1 (List.nodup_iff_pairwise_ne.1 (h.nodup hp)) 0 1 (by omega) (by omega) (by omega);by_cases e:p[0]=c
  ·exact⟨_,h1,λe2=>hne (by rw[e,e2])⟩
  ·exact⟨_,h0,e⟩
 have e1:=h.join p hp d hd c hc;rw[D0 BN] at e1;by_cases iF:d∈bg (iq l p)
 ·have:=Gl.2 iF;rw[e1] at this;exact BN this
 ·rw[D0 iF] at e1;exact hne e1
theorem VW {hi:Int} {ds:List cC} {ps:List (List av)} (h:iE (kW hi (jD m sh sh.length)) ds ps) {p:List av} (hp:p∈ps) {c:av} (hc:c∈p):
  ∃d∈p,d≠c/\∃r s x y,r<sh.length/\s<sh.length/\x∈lW sh r/\y∈lW sh s/\c=⟨r,x.rc.id⟩/\d=⟨s,y.rc.id⟩/\r≠s/\(nM x y=true\/nM y x=true):=by
 obtain⟨b,hb,hA,hB,e⟩:=h.VU hp hc;obtain⟨d,hd,_,rfl⟩:=Hq.1 hb;obtain⟨r,s,x,y,_,h1,h2,hx,hy,ha,rfl⟩:=BL.1 hd;have hne: (⟨(s:Int),y.rc.id⟩:av)≠⟨(r:Int),x.rc.id⟩:=λe=>by simp only[av.mk.injEq] at e;omega
 rcases e with rfl|rfl
 ·exact⟨_,hB,hne,r,s,x,y,by omega,h2,hx,hy,rfl,rfl,by omega,.inl ha⟩
 ·exact⟨_,hA,hne.symm,s,r,y,x,h2,by omega,hy,hx,rfl,rfl,by omega,.inr ha⟩
theorem VX (h:kJ n k sh) (hm:BO m):∀c∈jD m sh q,ow c.A c.B=true/\-1048576<=c.wt/\c.wt<=1048576:=λc hc=>by
 have e:=MH h hc;obtain⟨r,s,x,y,_,_,_,_,_,_,rfl⟩:=BL.1 hc;have:=hm.wt ⟨r,x.rc.id⟩ ⟨s,y.rc.id⟩ x y;exact⟨e,by omega,by omega⟩
theorem VY {hi:Int} (h:kJ n k sh): (bg (kW hi (jD m sh sh.length))).length<=12:=by
 have h1: (bg (kW hi (jD m sh sh.length))).length<=((List.range sh.length).flatMap λr=>(lW sh r).map λx=>(⟨(r:Int),x.rc.id⟩:av)).length:=
  (Bn _).length_le_of_subset λc hc=>by
   obtain⟨r,x,hr,hx,rfl⟩:=VT hc;exact List.mem_flatMap.2 ⟨r,List.mem_range.2 hr,List.mem_map.2 ⟨x,hx,rfl⟩⟩
 have h2:=BK (l:=List.range sh.length) (f:=λr=>(lW sh r).map λx=>(⟨(r:Int),x.rc.id⟩:av)) (b:=4) λr _=>by rw[List.length_map];exact(h.at_ r).len
 rw[List.length_range] at h2;have:=h.len;omega
structure tR (n k:Nat) (l:List ej) (id:Int):Prop where
 all:∀x∈l,rT n k x
 jj:l.Pairwise λx y=>x.rc.id<y.rc.id
 top:∀x∈l,x.rc.id<=id
 MI:0<=id
 MJ:id<=2*l.length
 cA:∀x∈l,x.rc.ver<=2
def Eh (n k:Nat) (l:List ej):Prop:=qk n k l/\∀x∈l,x.rc.ver<=2
theorem tR.nil:tR n k [] 0:=⟨by simp,List.Pairwise.nil,by simp,by omega,by simp,by simp⟩
theorem tR.snoc {l:List ej} {id id' ver:Int} {fl:List Bits} {hl:List iM} {sQ:List Bool} (h:tR n k l id) (h1:id<id') (h2:id'<=id+2) (v1:1<=ver) (v2:ver<=2) (hm:l.length<=100) (hf:fl.length=n) (hg:∀b∈fl,qI b) (hh:hl.length=k) (hb:sQ.length=k):
  tR n k (l++[⟨⟨id',ver,fl⟩,hl,sQ⟩]) id':=by
 have h0:=h.MI;have h3:=h.MJ;refine⟨λx hx=>?_,?_,λx hx=>?_,by omega,by simp only[List.length_append,List.length_cons,List.length_nil];omega,λx hx=>?_⟩
 ·rcases List.mem_append.1 hx with hx|hx
  ·exact h.all x hx
  ·rw[List.mem_singleton.1 hx];exact⟨⟨by show 1<=id';omega,by show id'<=1048576;omega⟩,⟨v1,by show ver<=1048576;omega⟩,hf,hg,hh,hb⟩
 ·rw[List.pairwise_append];refine⟨h.jj,List.pairwise_singleton _ _,λx hx y hy=>?_⟩;rw[List.mem_singleton.1 hy];have:=h.top x hx;show x.rc.id<id';omega
 ·rcases List.mem_append.1 hx with hx|hx
  ·have:=h.top x hx;omega
  ·rw[List.mem_singleton.1 hx];exact Int.le_refl _
 ·rcases List.mem_append.1 hx with hx|hx
  ·exact h.cA x hx
  ·rw[List.mem_singleton.1 hx];exact v2
theorem tR.ok {l:List ej} {id:Int} (h:tR n k l id) (hl:l.length<=4):Eh n k l:=⟨⟨hl,h.all,h.jj⟩,h.cA⟩
def sR:List iM:=[⟨255⟩,⟨254⟩,⟨61680⟩,⟨1⟩,⟨4294901760⟩,⟨0⟩]
theorem VZ {k:Nat} (h:k<sR.length):oz (sR[k]).n:=by
 have h1:∀x∈sR,oz x.n:=by simp[sR,oz]
 exact h1 _ (List.getElem_mem h)
end
structure vL where
 i:Nat
 t:Option Nat
 sup:List (Nat×Nat)
 W:List Nat
 bad:List Nat
 kill:List Nat
 dep:List Nat
 use:List Nat
 xx:List Nat
 F:Value->List Value->World->(Nat->Nat)->Prop
structure Hr where
 bad:List Nat
 F:World->(Nat->Nat)->Prop
def tS (V:List Hr) (u:Nat) (w:World) (C:Nat->Nat):Prop:=match V[u]? with|some v=>v.F w C|none=>True
def Ei (V:List Hr) (u:Nat):List Nat:=match V[u]? with|some v=>v.bad|none=>[]
def qo (val:Nat->Value):List (Nat×Nat)->Env->Env
 |[],e=>e
 |(i,t)::l,e=>(t,val i)::qo val l e
def vals (val:Nat->Value) (l:List (Nat×Nat)):List Value:=l.map λp=>val p.1
def BP (val:Nat->Value):List vL->Env->Env
 |[],e=>e
 |m::ms,e=>match m.t with|some t=>(t,val m.i)::BP val ms e|none=>BP val ms e
def Hs (val:Nat->Value) (w:World) (C:Nat->Nat) (ks:List Nat):List vL->Prop
 |[]=>True
 |m::ms=>(bif ks.contains m.i then True else m.F (val m.i) (vals val m.sup) w C)/\Hs val w C ks ms
theorem MK {val:Nat->Value} {w:World} {C:Nat->Nat} {ks:List Nat}:∀{ms:List vL},(∀m∈ms,m.i∉ks->m.F (val m.i) (vals val m.sup) w C)->Hs val w C ks ms
 |[],_=>trivial
 |m::ms,h=>by
  refine⟨?_,MK λn hn=>h n (List.mem_cons_of_mem _ hn)⟩;cases hc:ks.contains m.i with
  |true=>trivial
  |false=>exact h m (by simp) λhm=>(by rw[List.contains_iff_mem.2 hm] at hc;cases hc)
def iu (P:Program) (N:Nat) (ops:Array Oper) (i:Nat) (env:Env) (w:World) (T:Value->World->Prop):Prop:=
 ∀(Q:Exit->Act->World->Prop) a,gY N env a->wpOp P ops Q i (λa' w'=>∃v,a'=a.put ((ops[i]?).bind (·.dst)) v/\T v w') a w
section
variable {P:Program} {N:Nat} {ops:Array Oper} {i:Nat} {env:Env} {w:World} {T ML:Value->World->Prop} {d:Option Nat} {op:Op}
theorem iu.act (hop:cq ops i=some (d,op,none)) (hy:gM P N env op w T):iu P N ops i env w T:=λQ a ha=>by
 obtain⟨o,ho,rfl,rfl,hg⟩:=rC hop;have hw:Region.wanted o (yielded ops a.tmps)=true:=by unfold Region.wanted;rw[hg]
 simp only[wpOp,ho,hw,if_true,Option.bind_some];obtain⟨v,w',hrun,hT⟩:=hy a ha o rfl;left;unfold Oper.wp;rcases hrun with hrun|⟨hrun,rfl⟩
 ·rw[hrun];exact⟨v,rfl,hT⟩
 ·rw[hrun];exact⟨undef,rfl,hT⟩
theorem iu.val {v:Value} (hop:cq ops i=some (d,op,none)) (hy:cH P N env op w v):iu P N ops i env w (λx w'=>x=v/\w'=w):=iu.act hop hy.acts
theorem iu.call {g:FuncId} {args:Array Value} (hop:cq ops i=some (d,op,none)) (hy:Enters P N env op w g args) (hc:Calls P g args w (bI T)):iu P N ops i env w T:=λQ a ha=>by
 obtain⟨o,ho,rfl,rfl,hg⟩:=rC hop;have hw:Region.wanted o (yielded ops a.tmps)=true:=by unfold Region.wanted;rw[hg]
 simp only[wpOp,ho,hw,if_true,Option.bind_some];left;unfold Oper.wp;rw[hy a ha o rfl];simp only[Oper.upon];refine hc.mono λe w' he=>?_;obtain⟨v,rfl,hT⟩:=he;exact⟨v,rfl,hT⟩
theorem iu.to {α:Type} [aY α] {xs:List α} {M:Nat->Prop} {ty e':TypeId} {y z:Operand} {v:Value} {kd:IntKind} {n:Int} (hop:cq ops i=some (d,.slice ty y none (some z) none,none)) (hl:aB w M xs v) (hy:ev env y=some v)
  (hf:h_ P ty=some (e',sz α)) (hz:ev env z=some (.int kd n)) (h0:0<=n) (h1:n<=xs.length):iu P N ops i env w (λv2 w'=>aB w M (xs.take n.toNat) v2/\w'=w):=by
 obtain⟨v2,h2,h3⟩:=hl.DN (P:=P) (N:=N) hy hf hz h0 h1;exact λQ a ha=>wpOp_mono (λa' w' ⟨v,e,h⟩=>⟨v,e,by obtain⟨rfl,rfl⟩:=h;exact⟨h2,rfl⟩⟩) ((iu.val hop (h3 w)) Q a ha)
theorem iu.mono (h:iu P N ops i env w T) (hT:∀v w',T v w'->ML v w'):iu P N ops i env w ML:=λQ a ha=>wpOp_mono (λa' w' ⟨v,e,h⟩=>⟨v,e,hT v w' h⟩) (h Q a ha)
end
def qL (ops:Array Oper) (i j:Nat):Bool:=match ops[i]? with|some o=>o.after.any (λe=>Region.binds .any e&&Nat.beq e.on j)|none=>false
def MN (ops:Array Oper) (I:List Nat) (A:List Nat) (ms:List vL) (V:List (List Nat)):Bool:=
 sK ops ops.size (Array.replicate ops.size false) A&&
 (List.range ops.size).all (λu=>A.contains u||ms.any (λm=>Nat.beq m.i u))&&
 ms.all (λm=>Nat.blt m.i ops.size&&!(A.contains m.i)&&m.W.all (λc=>I.contains c)&&
  m.sup.all (λp=>ms.any (λn=>Nat.beq n.i p.1&&n.t==some p.2))&&(m.sup.map (·.1)++m.dep).all (λj=>qL ops m.i j&&Nat.blt j m.i&&ms.all (λk=>!(k.kill.contains j)||Nat.beq k.i m.i||qL ops k.i m.i))&&
  ms.all (λn=>Nat.beq n.i m.i||qL ops n.i m.i||(m.kill.contains n.i||m.W.all (λc=>!(n.bad.contains c)))))&&
 (List.range ops.size).all (λu=>match ops[u]? with|some o=>o.after.all (λe=>Nat.blt e.on u)|none=>true)&&
 ms.all (λm=>m.use.all (λu=>Nat.blt u V.length&&ms.all (λk=>!(k.xx.contains u)||Nat.beq k.i m.i||qL ops k.i m.i))&&(List.range V.length).all (λu=>m.xx.contains u||m.W.all (λc=>!((V.getD u []).contains c))))
theorem Ej {ops:Array Oper} {l:Array Bool} (hc:mP ops l) {i j:Nat} (h:qL ops i j=true) (hi:l.getD i false=true):l.getD j false=true:=by
 unfold qL at h;cases ho:ops[i]? with
 |none=>rw[ho] at h;cases h
 |some o=>
  rw[ho] at h;obtain⟨e,he,hb⟩:=Array.any_eq_true'.1 h;rw[Bool.and_eq_true] at hb;rw[<-Nat.eq_of_beq_eq_true hb.2];exact hc.2 i o ho hi e he hb.1
theorem V0 {ops:Array Oper} {l:Array Bool} {i j:Nat} (h:qL ops i j=true) (hr:i∈Region.ready .any ops l):l.getD j false=true:=by
 obtain⟨_,o,ho,hall⟩:=mem_ready.1 hr;unfold qL at h;rw[ho] at h;obtain⟨e,he,hb⟩:=Array.any_eq_true'.1 h;rw[Bool.and_eq_true] at hb;rw[<-Nat.eq_of_beq_eq_true hb.2];exact hall e he hb.1
theorem MO {N:Nat} {val:Nat->Value} {env:Env} {a:Act} (ha:gY N env a):∀(l:List (Nat×Nat)),(∀p∈l,a.tmps[p.2]?=some (val p.1))->gY N (qo val l env) a
 |[],_=>ha
 |(i,t)::l,h=>by
  have ih:=MO ha l λp hp=>h p (by simp[hp]);refine⟨ih.size,ih.defers,λu v hl=>?_⟩;simp only[qo,look] at hl;cases hb:Nat.beq t u with
  |true=>
   rw[hb] at hl;simp only[cond_true,Option.some.injEq] at hl;rw[<-Nat.eq_of_beq_eq_true hb,<-hl];exact h (i,t) (by simp)
  |false=>rw[hb] at hl;exact ih.slot u v hl
theorem Ht {l:Array Bool} {i:Nat} (h:i<l.size):l.getD i true=l.getD i false:=by simp[Array.getD,h]
theorem MP {ops:Array Oper}:∀(A:List Nat) (n:Nat) (l:Array Bool),sK ops n l A=true->∀j∈A,j<ops.size
 |[],_,_,_,j,hj=>by simp at hj
 |a::A,0,_,h,_,_=>by cases h
 |a::A,n+1,l,h,j,hj=>by
  simp only[sK,Bool.and_eq_true] at h;rcases List.mem_cons.1 hj with rfl|hj
  ·obtain⟨_,o,ho,_⟩:=mem_ready.1 (show j∈Region.ready .any ops l by simpa using h.1.1.2);exact(Array.getElem?_eq_some_iff.1 ho).1
  ·exact MP A n _ h.2 j hj
theorem MQ {ops:Array Oper}:∀(A:List Nat) (n:Nat) (l:Array Bool),sK ops n l A=true->∀j∈A,l.getD j true=false
 |[],_,_,_,j,hj=>by simp at hj
 |a::A,0,_,h,_,_=>by cases h
 |a::A,n+1,l,h,j,hj=>by
  simp only[sK,Bool.and_eq_true] at h;have ha:=(mem_ready.1 (show a∈Region.ready .any ops l by simpa using h.1.1.2)).1;rcases List.mem_cons.1 hj with rfl|hj
  ·exact ha
  ·have:=MQ A n _ h.2 j hj;by_cases e:a=j
   ·subst e;exact ha
   ·rw[getD_set_ne true e] at this;exact this
theorem MR {ops:Array Oper}:∀(A:List Nat) (n:Nat) (l:Array Bool),sK ops n l A=true->A.Nodup
 |[],_,_,_=>List.nodup_nil
 |a::A,0,_,h=>by cases h
 |a::A,n+1,l,h=>by
  have h0:=h;simp only[sK,Bool.and_eq_true] at h;refine List.nodup_cons.2 ⟨λhm=>?_,MR A n _ h.2⟩;have h1:=MQ A n _ h.2 a hm;have ha:=(mem_ready.1 (show a∈Region.ready .any ops l by simpa using h.1.1.2)).1;have hs:a<l.size:=by
   rcases Nat.lt_or_ge a l.size with h|h
   ·exact h
   ·simp[Array.getElem?_eq_none h] at ha
  simp[Array.getD,hs] at h1
theorem MS {P:Program} {f:FuncId} {N:Nat} {k:List Item} {env:Env} {w:World} {R:Value->World->Prop} {c:Code} {id:Nat} {ops:Array Oper} {C:Nat->Nat} (I:List Nat) (J:World->(Nat->Nat)->Prop) (V:List Hr) (A:List Nat) (ms:List vL) (hm:P.follows .mixedOrders=true) (hc:c=.region id ops true)
  (hn:Region.noSelect ops=true) (hk:MN ops I A ms (V.map (·.bad))=true) (hF:aL w C) (hJ:J {w with drawn:=w.drawn+1} C)
  (hV:∀v∈V,v.F w C/\∀w1 bu w2 ey W,(∀c∈W,c∉v.bad)->v.F w1 bu->aA W w1 bu w2 ey->v.F w2 ey)
  (h:Gx P N ops A env λtT=>
   (∀m∈ms,DJ ops m.i=some (m.t,none)/\qw N m.t=true/\(∀t,m.t=some t->look tT t=none)/\
    (∀v vs w1 bu w2 ey W,(∀c∈W,c∉m.bad)->m.F v vs w1 bu->aA W w1 bu w2 ey->m.F v vs w2 ey)/\
    (∀val w1 bu,aA I w C w1 bu->aL w1 bu->J w1 bu->(∀n∈ms,n.i∈m.sup.map (·.1)++m.dep->n.F (val n.i) (vals val n.sup) w1 bu)->(∀u∈m.use,tS V u w1 bu)->
     iu P N ops m.i (qo val m.sup tT) w1 (λv w'=>∃aP,aA m.W w1 bu w' aP/\aL w' aP/\J w' aP/\m.F v (vals val m.sup) w' aP)))/\
   (ms.map (·.i)).Nodup/\(ms.filterMap (·.t)).Nodup/\
   ∀val w' aP,aA I w C w' aP->aL w' aP->J w' aP->Hs val w' aP (ms.flatMap (·.kill)) ms->(∀u,u<V.length->u∉ms.flatMap (·.xx)->tS V u w' aP)->ak P f N k R ops (λ_=>True) [] (BP val ms tT) w'):
  Run P f N (.code c::k) env w R:=λa ha=>by
 subst hc;unfold MN at hk;rw[Bool.and_eq_true,Bool.and_eq_true,Bool.and_eq_true,Bool.and_eq_true] at hk;obtain⟨⟨⟨⟨nR,hk2⟩,xy⟩,BQ⟩,MT⟩:=hk;rw[List.all_eq_true] at hk2 xy BQ MT;have MU:∀u w1 bu w2 ey W,(∀c∈W,c∉Ei V u)->tS V u w1 bu->aA W w1 bu w2 ey->tS V u w2 ey:=λu w1 bu w2 ey W hW h1 hs=>by
  unfold tS Ei at*;cases e:V[u]? with
  |none=>trivial
  |some v=>rw[e] at h1 hW;exact(hV v (List.mem_of_getElem? e)).2 _ _ _ _ _ hW h1 hs
 have MV:∀m∈ms,(∀u∈m.use,u<V.length/\∀q∈ms,u∈q.xx->q.i=m.i\/qL ops q.i m.i=true)/\∀u,u<V.length->u∈m.xx\/∀c∈m.W,c∉Ei V u:=λm ja=>by
  have h0:=MT m ja;simp only[Bool.and_eq_true,Bool.not_eq_true',List.all_eq_true,List.contains_iff_mem,Bool.or_eq_true,Bool.eq_false_iff,ne_eq,List.length_map,List.mem_range] at h0;refine⟨λu hu=>⟨by
           have:u+1<=V.length:=by simpa[Nat.blt] using(h0.1 u hu).1
           omega,λq hq tU=>?_⟩,λu hu=>?_⟩
  ·rcases(h0.1 u hu).2 q hq with(b|b)|b
   ·exact absurd tU b
   ·exact .inl (Nat.eq_of_beq_eq_true b)
   ·exact .inr b
  ·rcases h0.2 u hu with b|b
   ·exact .inl b
   ·right;intro c hc hcb;refine b c hc ?_;unfold Ei at hcb;rw[List.getD_eq_getElem?_getD,List.getElem?_map];rw[List.getElem?_eq_getElem hu] at hcb⊢;exact hcb
 refine wI (wp_region_any hm (wK (S:=λ_=>True) (cZ:=ops.size) _ _ _ _ ?_));have hQ:∀c (a:Act) d v w,pY P f k R (.panic c) (Act.put a d v) w->pY P f k R (.panic c) a w:=λc a d v w h=>h.elim;have BR:aA I w C {w with drawn:=w.drawn+1} C:=aA.drew I w C;refine LG (N:=N) (w:={w with drawn:=w.drawn+1}) hn hQ A ops.size _ env a nR (AY ops) h ha (λtT a2 hK ha2 dN=>?_);obtain⟨pN,hni,hnt,tQ⟩:=hK;have V1:∀(l:List vL),(l.map (·.i)).Nodup->∀m∈l,∀m'∈l,m.i=m'.i->m=m':=by
  intro l
  induction l with
  |nil=>intro _ m hm;simp at hm
  |cons x l ih=>
   intro gW m hm m' hm' e;rw[List.map_cons,List.nodup_cons] at gW;rcases List.mem_cons.1 hm with e1|h1
   ·rcases List.mem_cons.1 hm' with e2|h2
    ·rw[e1,e2]
    ·subst e1;exact absurd (List.mem_map.2 ⟨m',h2,e.symm⟩) gW.1
   ·rcases List.mem_cons.1 hm' with e2|h2
    ·subst e2;exact absurd (List.mem_map.2 ⟨m,h1,e⟩) gW.1
    ·exact ih gW.2 m h1 m' h2 e
 have V2:∀(l:List vL),(l.filterMap (·.t)).Nodup->∀m∈l,∀m'∈l,∀t,m.t=some t->m'.t=some t->m=m':=by
  intro l
  induction l with
  |nil=>intro _ m hm;simp at hm
  |cons x l ih=>
   intro gW m hm m' hm' t e1 e2;have hx:∀t,x.t=some t->∀y∈l,y.t≠some t:=λt Ek y hy V3=>by
    rw[List.filterMap_cons_some Ek,List.nodup_cons] at gW;exact gW.1 (List.mem_filterMap.2 ⟨y,hy,V3⟩)
   have V4: (l.filterMap (·.t)).Nodup:=by
    cases Ek:x.t with
    |none=>rwa [List.filterMap_cons_none Ek] at gW
    |some u=>rw[List.filterMap_cons_some Ek,List.nodup_cons] at gW;exact gW.2
   rcases List.mem_cons.1 hm with q1|h1
   ·rcases List.mem_cons.1 hm' with q2|h2
    ·rw[q1,q2]
    ·subst q1;exact absurd e2 (hx t e1 m' h2)
   ·rcases List.mem_cons.1 hm' with q2|h2
    ·subst q2;exact absurd e1 (hx t e2 m h1)
    ·exact ih V4 m h1 m' h2 t e1 e2
 have spec:∀m∈ms,m.i<ops.size/\m.i∉A/\(∀c∈m.W,c∈I)/\
   (∀p∈m.sup,∃n∈ms,n.i=p.1/\n.t=some p.2)/\(∀j∈m.sup.map (·.1)++m.dep,qL ops m.i j=true/\j<m.i/\∀q∈ms,j∈q.kill->q.i=m.i\/qL ops q.i m.i=true)/\
   ∀n∈ms,n.i≠m.i->qL ops n.i m.i=true\/n.i∈m.kill\/∀c∈m.W,c∉n.bad:=λm ja=>by
  have h0:=xy m ja;simp only[Bool.and_eq_true,Bool.not_eq_true',List.all_eq_true,List.contains_iff_mem,List.any_eq_true,Bool.or_eq_true,beq_iff_eq,Bool.eq_false_iff,ne_eq] at h0;obtain⟨⟨⟨⟨⟨h1,h2⟩,h3⟩,h6⟩,h4⟩,h5⟩:=h0;refine⟨by
        have:m.i+1<=ops.size:=by simpa[Nat.blt] using h1
        omega,h2,h3,λp hp=>?_,λp hp=>?_,λn hn' hne=>?_⟩
  ·obtain⟨n,V5,hn2,El⟩:=h6 p hp;exact⟨n,V5,Nat.eq_of_beq_eq_true hn2,El⟩
  ·obtain⟨⟨a1,a2⟩,a4⟩:=h4 p hp;refine⟨a1,by
          have:p+1<=m.i:=by simpa[Nat.blt] using a2
          omega,λq hq tU=>?_⟩
   rcases a4 q hq with(b|b)|b
   ·exact absurd tU b
   ·exact .inl (Nat.eq_of_beq_eq_true b)
   ·exact .inr b
  ·rcases h5 n hn' with(b|b)|b|b
   ·exact absurd (Nat.eq_of_beq_eq_true b) hne
   ·exact .inl b
   ·exact .inr (.inl b)
   ·exact .inr (.inr b)
 have jk:∀u (o:Oper),ops[u]?=some o->∀e∈o.after,e.on<u:=λu o ho e he=>by
  have hu:=(Array.getElem?_eq_some_iff.1 ho).1;have:=BQ u (List.mem_range.2 hu);rw[ho] at this;have h2:=(Array.all_eq_true'.1 this) e he;have:e.on+1<=u:=by simpa[Nat.blt] using h2
  omega
 have MW:∀u,u<ops.size->u∈A\/∃m∈ms,m.i=u:=λu hu=>by
  have:=hk2 u (List.mem_range.2 hu);simp only[Bool.or_eq_true,List.contains_iff_mem,List.any_eq_true] at this;rcases this with h1|⟨m,h1,h2⟩
  ·exact .inl h1
  ·exact .inr ⟨m,h1,Nat.eq_of_beq_eq_true h2⟩
 have main:∀(n:Nat) (l:Array Bool) (a:Act) (w':World),l.size=ops.size->mP ops l->(∀j∈A,l.getD j false=true)->(ms.filter λm=>!(l.getD m.i false)).length<=n->
   (∃(aP:Nat->Nat) (val:Nat->Value),gY N tT a/\aA I {w with drawn:=w.drawn+1} C w' aP/\aL w' aP/\J w' aP/\
    (∀u,u<V.length->(∀q∈ms,l.getD q.i false=true->u∉q.xx)->tS V u w' aP)/\∀m∈ms,l.getD m.i false=true->(∀t,m.t=some t->a.tmps[t]?=some (val m.i))/\((∀q∈ms,l.getD q.i false=true->m.i∉q.kill)->m.F (val m.i) (vals val m.sup) w' aP))->
   o_ P ops (pY P f k R) (λ_=>True) ops.size n l a w':=by
  intro n;have stop:∀(l:Array Bool) (a:Act) (w':World),l.size=ops.size->(∀j∈A,l.getD j false=true)->Region.ready .any ops l=[]->
    (∃(aP:Nat->Nat) (val:Nat->Value),gY N tT a/\aA I {w with drawn:=w.drawn+1} C w' aP/\aL w' aP/\J w' aP/\
    (∀u,u<V.length->(∀q∈ms,l.getD q.i false=true->u∉q.xx)->tS V u w' aP)/\∀m∈ms,l.getD m.i false=true->(∀t,m.t=some t->a.tmps[t]?=some (val m.i))/\((∀q∈ms,l.getD q.i false=true->m.i∉q.kill)->m.F (val m.i) (vals val m.sup) w' aP))->pY P f k R .normal a w':=by
   intro l a w' hl hA hr ⟨aP,val,hst,tI,hlim,hj,Em,hall⟩;have full:∀u,u<ops.size->l.getD u false=true:=by
    intro u
    induction u using Nat.strongRecOn with
    |ind u ih=>
     intro hu;apply Classical.byContradiction;intro hno;have:u∈Region.ready .any ops l:=mem_ready.2 ⟨by rw[Ht (by omega)];simpa using hno,ops[u],Array.getElem?_eq_getElem hu,λe he _=>ih e.on (jk u _ (Array.getElem?_eq_getElem hu) e he) (by have:=jk u _ (Array.getElem?_eq_getElem hu) e he;omega)⟩;rw[hr] at this;cases this
   have En:=λm ja=>hall m ja (full m.i (spec m ja).1);have V6:∀(q:List vL),(∀m∈q,m∈ms)->∀t v,look (BP val q tT) t=some v->a.tmps[t]?=some v:=by
    intro q
    induction q with
    |nil=>intro _ t v h;exact hst.slot t v h
    |cons m q ih=>
     intro hq t v h;simp only[BP] at h;cases tV:m.t with
     |none=>rw[tV] at h;exact ih (λx hx=>hq x (by simp[hx])) t v h
     |some u=>
      rw[tV] at h;simp only[look] at h;cases hb:Nat.beq u t with
      |true=>
       rw[hb] at h;simp only[cond_true,Option.some.injEq] at h;rw[<-Nat.eq_of_beq_eq_true hb,<-h];exact(En m (hq m (by simp))).1 u tV
      |false=>rw[hb] at h;exact ih (λx hx=>hq x (by simp[hx])) t v h
   exact tQ val w' aP (BR.trans tI (λc hc=>hc)) hlim hj (MK λm ja aC=>(En m ja).2 (λq hq _ tU=>aC (List.mem_flatMap.2 ⟨q,hq,tU⟩))) (λu hu hno=>Em u hu λq hq _ tU=>hno (List.mem_flatMap.2 ⟨q,hq,tU⟩)) a ⟨hst.size,hst.defers,V6 ms (λm h=>h)⟩
  induction n with
  |zero=>
   intro l a w' hl dN hA MX hinv;have hr:Region.ready .any ops l=[]:=by
    rw[List.eq_nil_iff_forall_not_mem];intro i hi;obtain⟨hun,o,ho,_⟩:=mem_ready.1 hi;have Hu:=(Array.getElem?_eq_some_iff.1 ho).1;rw[Ht (by omega)] at hun;rcases MW i Hu with Hv|⟨m,ja,rfl⟩
    ·rw[hA i Hv] at hun;cases hun
    ·have:m∈ms.filter λm=>!(l.getD m.i false):=List.mem_filter.2 ⟨ja,by rw[hun];rfl⟩
     rw[List.eq_nil_of_length_eq_zero (Nat.le_zero.1 MX)] at this;cases this
   exact⟨hr,stop l a w' hl hA hr hinv⟩
  |succ n ih=>
   intro l a w' hl dN hA MX hinv;refine⟨λhr=>stop l a w' hl hA hr hinv,λi hi=>?_⟩;obtain⟨bu,val,hst,tI,hlim,hj,Em,hall⟩:=hinv;obtain⟨hun,o,ho,_⟩:=mem_ready.1 hi;have Hu:=(Array.getElem?_eq_some_iff.1 ho).1;rw[Ht (by omega)] at hun;rcases MW i Hu with Hv|⟨m,ja,rfl⟩
   ·rw[hA i Hv] at hun;cases hun
   obtain⟨s1,s2,s3,V7,Hw,V8⟩:=spec m ja;have MY:∀p∈m.sup,p.1∈m.sup.map (·.1)++m.dep:=λp hp=>List.mem_append_left _ (List.mem_map.2 ⟨p,hp,rfl⟩);obtain⟨hop,hdk,hlk,W2,hact⟩:=pN m ja;obtain⟨op,hop⟩:=K1 hop;obtain⟨eD,f_,hd,_,hg⟩:=rC hop;rw[ho] at f_;cases f_;have MZ:∀j∈m.sup.map (·.1)++m.dep,l.getD j false=true:=λj hj=>V0 (Hw j hj).1 hi;have V9:∀q∈ms,q.i∈m.sup.map (·.1)++m.dep->q.F (val q.i) (vals val q.sup) w' bu:=λq hq hp=>by
    obtain⟨a1,a2,a4⟩:=Hw q.i hp;refine(hall q hq (MZ q.i hp)).2 λz hz hzl Hx=>?_;rcases a4 z hz Hx with b|b
    ·rw[b,hun] at hzl;cases hzl
    ·have:=Ej dN b hzl;rw[hun] at this;cases this
   have V_:∀u∈m.use,tS V u w' bu:=λu hu=>by
    obtain⟨a1,a2⟩:=(MV m ja).1 u hu;refine Em u a1 λz hz hzl Hx=>?_;rcases a2 z hz Hx with b|b
    ·rw[b,hun] at hzl;cases hzl
    ·have:=Ej dN b hzl;rw[hun] at this;cases this
   have Wa:gY N (qo val m.sup tT) a:=MO hst m.sup λp hp=>by
    obtain⟨q,hq,e1,e2⟩:=V7 p hp;have:=(hall q hq (by rw[e1];exact MZ _ (MY p hp))).1 p.2 e2;rw[this,e1]
   refine wpOp_mono (λa' w2 hdone=>⟨λ_=>trivial,?_⟩) (hact val w' bu (BR.trans tI (λc hc=>hc)) hlim hj V9 V_ (pY P f k R) a Wa);obtain⟨v,rfl,ey,hs2,sS,hj2,oE⟩:=hdone;rw[ho,Option.bind_some,hd];have hput:=hst.put hdk v;have hne:gY N tT (a.put m.t v):=by
    cases tV:m.t with
    |none=>rw[tV] at hput;exact hput
    |some t=>
     rw[tV] at hput;refine⟨hput.size,hput.defers,λt' v' hlt=>hput.slot t' v' ?_⟩;have:t≠t':=λe=>by subst e;rw[hlk t tV] at hlt;cases hlt
     simp only[pZ,look];cases hb:Nat.beq t t' with
     |true=>exact absurd (Nat.eq_of_beq_eq_true hb) this
     |false=>exact hlt
   have Wb:=mo dN hi;have Wc:∀j,(l.setIfInBounds m.i true).getD j false=true->j=m.i\/l.getD j false=true:=λj hj=>by
    by_cases e:m.i=j
    ·exact .inl e.symm
    ·rw[getD_set_ne false e] at hj;exact .inr hj
   have Hy:∀j,l.getD j false=true->(l.setIfInBounds m.i true).getD j false=true:=λj hj=>getD_set_true hj;have Hz: (l.setIfInBounds m.i true).getD m.i false=true:=by simp[Array.getD,hl,s1]
   refine ih _ _ _ (by simp[hl]) Wb (λj hj=>Hy j (hA j hj)) ?_ ?_
   ·have hlt: (ms.filter λq=>!((l.setIfInBounds m.i true).getD q.i false)).length<(ms.filter λq=>!(l.getD q.i false)).length:=by
     have hsub: (ms.filter λq=>!((l.setIfInBounds m.i true).getD q.i false))=(ms.filter λq=>!(l.getD q.i false)).filter λq=>!(Nat.beq q.i m.i):=by
      rw[List.filter_filter];refine List.filter_congr λq _=>?_;by_cases e:m.i=q.i
      ·rw[<-e,Hz];simp
      ·rw[getD_set_ne false e];have:Nat.beq q.i m.i=false:=by
         cases hb:Nat.beq q.i m.i with
         |false=>rfl
         |true=>exact absurd (Nat.eq_of_beq_eq_true hb).symm e
       rw[this];simp
     rw[hsub];have hmem:m∈ms.filter λq=>!(l.getD q.i false):=List.mem_filter.2 ⟨ja,by rw[hun];rfl⟩
     refine Nat.lt_of_le_of_ne (List.length_filter_le _ _) λe=>?_;have:=List.length_filter_eq_length_iff.1 e m hmem;simp at this
    omega
   ·refine⟨ey,λj=>if j=m.i then v else val j,hne,tI.trans hs2 s3,sS,hj2,λu hu hno=>?_,λq hq er=>?_⟩
    ·have hold:=Em u hu λz hz hzl=>hno z hz (Hy z.i hzl);rcases(MV m ja).2 u hu with b|b
     ·exact absurd b (hno m ja Hz)
     ·exact MU u _ _ _ _ m.W b hold hs2
    have Wd:∀z∈ms,l.getD z.i false=true->vals (λj=>if j=m.i then v else val j) z.sup=vals val z.sup:=λz hz hzl=>by
     unfold vals;refine List.map_congr_left λp hp=>?_;show(if p.1=m.i then v else val p.1)=val p.1;rw[if_neg];intro e;have:=Ej dN ((spec z hz).2.2.2.2.1 p.1 (List.mem_append_left _ (List.mem_map.2 ⟨p,hp,rfl⟩))).1 hzl;rw[e,hun] at this;cases this
    by_cases e:q.i=m.i
    ·have:=V1 ms hni q hq m ja e;subst this;refine⟨λt ht=>?_,λ_=>?_⟩
     ·show _=some (if q.i=q.i then v else val q.i);rw[if_pos rfl];rw[ht] at hput⊢;exact hput.slot t v (by simp[pZ,look])
     ·show q.F (if q.i=q.i then v else val q.i) _ _ _;rw[if_pos rfl];have:vals (λj=>if j=q.i then v else val j) q.sup=vals val q.sup:=by
       unfold vals;refine List.map_congr_left λp hp=>?_;show(if p.1=q.i then v else val p.1)=val p.1;rw[if_neg (by have:=(Hw p.1 (MY p hp)).2.1;omega)]
      rw[this];exact oE
    ·rcases Wc q.i er with h1|h1
     ·exact absurd h1 e
     obtain⟨q1,q2⟩:=hall q hq h1;refine⟨λt ht=>?_,λhno=>?_⟩
     ·show _=some (if q.i=m.i then v else val q.i);rw[if_neg e,<-q1 t ht];cases tV:m.t with
      |none=>rfl
      |some u=>
       have Wf:u≠t:=λe2=>by subst e2;exact e (by rw[V2 ms hnt q hq m ja u ht tV])
       simp only[Act.put,Array.getElem?_setIfInBounds,if_neg Wf]
     ·show q.F (if q.i=m.i then v else val q.i) _ _ _;rw[if_neg e,Wd q hq h1];have hold:=q2 λz hz hzl=>hno z hz (Hy z.i hzl);rcases V8 q hq e with b|b|b
      ·have:=Ej dN b h1;rw[hun] at this;cases this
      ·exact absurd b (hno m ja Hz)
      ·exact(pN q hq).2.2.2.1 _ _ _ _ _ _ m.W b hold hs2
 have mD:∀j∈A,j<ops.size:=MP A _ _ nR;have Wg: (ms.filter λm=>!((sJ (Array.replicate ops.size false) A).getD m.i false)).length<=ops.size-A.length:=by
  refine Nat.le_trans (List.length_filter_le _ _) ?_;have gW: (A++ms.map (·.i)).Nodup:=by
   rw[List.nodup_append];refine⟨MR A _ _ nR,hni,λa ha b hb e=>?_⟩;obtain⟨m,ja,rfl⟩:=List.mem_map.1 hb;exact(spec m ja).2.1 (e▸ha)
  have hle:=gW.length_le_of_subset (l₂:=List.range ops.size) λj hj=>by
   rcases List.mem_append.1 hj with h|h
   ·exact List.mem_range.2 (mD j h)
   ·obtain⟨m,ja,rfl⟩:=List.mem_map.1 h;exact List.mem_range.2 (spec m ja).1
  rw[List.length_append,List.length_map,List.length_range] at hle;omega
 have:=main (ops.size-A.length) (sJ (Array.replicate ops.size false) A) a2 {w with drawn:=w.drawn+1} (by rw[LH];simp) dN (λj hj=>by
  have Wh:j<ops.size:=mD j hj;rw[Gy A _ j (by simpa using Wh),if_pos hj]) ?_ ⟨C,λ_=>undef,ha2,aA.refl I _ C,hF.st BR,hJ,λu hu _=>?_,λm ja hl=>?_⟩
 ·exact this
 ·exact Wg
 ·have Wi:aA [] w C {w with drawn:=w.drawn+1} C:=aA.drew [] w C;refine MU u w C _ _ [] (by simp) ?_ Wi;unfold tS;rw[List.getElem?_eq_getElem hu];exact(hV _ (List.getElem_mem hu)).1
 ·rw[Gy A _ m.i (by simpa using(spec m ja).1),if_neg (spec m ja).2.1] at hl;simp[Array.getD,(spec m ja).1] at hl
section
variable {α:Type} [aY α] {w:World} {C:Nat->Nat} {P:Program} {N:Nat} {env:Env} {y z:Operand} {t e:TypeId} {v v1 v2:Value} {xs:List α} {j k n e':Nat}
def HA (v v1:Value) (k:Nat):Prop:=∃g l c,v=.slice (some ⟨g,0,none⟩) l c/\v1=.slice (some ⟨g,0,none⟩) k c
def HB (n:Nat) (v v2:Value) (i:Nat):Prop:=∃g l c a c',v=.slice (some ⟨g,0,none⟩) l c/\v2=.slice (some a) (l-i) c'/\(i<l->a=⟨g,i*n,none⟩)
theorem aX.Wj (h:aX w C j e v xs) (hy:ev env y=some v) {kd:IntKind} (hf:h_ P t=some (e',sz α)) (hz:ev env z=some (.int kd k)) (h1:k<xs.length):
  ∃v1,HA v v1 k/\∀w',cH P N env (.slice t y none (some z) none) w' v1:=by
 obtain⟨g,cap,cs,rfl,ki,fA,hc,hle,hsz,hr⟩:=h.p_ (by omega);refine⟨.slice (some ⟨g,0,none⟩) k cap,⟨_,_,_,rfl,rfl⟩,λw'=>mk' λρ hρ eD ho=>?_⟩;unfold h_ at hf;split at hf
 ·rename_i e1 hu;split at hf
  ·rename_i n' hn;simp only[Option.some.injEq,Prod.mk.injEq] at hf;obtain⟨rfl,rfl⟩:=hf;have hb:=uX (P:=P) (kd:=kd) (i:=(k:Int)) (y:=cap) (code:=.sliceAcap) (w:=w') (by omega) (by omega);unfold execOp;rw[ho];simp[hρ _ _ hy,hρ _ _ hz,Instr.sliceAt,Instr.slice,Instr.sliceBounds,run_underlying hu,j0 hn,hb,mq]
  ·cases hf
 ·cases hf
theorem aX.Wk (h:aX w C j e v xs) (hy:ev env y=some v) {kd:IntKind} {i:Int} (hf:h_ P t=some (e',sz α)) (hz:ev env z=some (.int kd i)) (h0:0<=i) (h1:i<=xs.length) (hne:0<xs.length):
  ∃v2,HB (sz α) v v2 i.toNat/\∀w',cH P N env (.slice t y (some z) none none) w' v2:=by
 obtain⟨g,cap,cs,rfl,ki,fA,hc,hle,hsz,hr⟩:=h.p_ hne;have hval:∀w',cH P N env (.slice t y (some z) none none) w' (.slice (if cap=i.toNat then some ⟨g,0,none⟩ else(some (⟨g,0,none⟩:Addr)).map (·.add (i.toNat*sz α))) (xs.length-i.toNat) (cap-i.toNat)):=λw'=>mk' λρ hρ eD ho=>by
  unfold h_ at hf;split at hf
  ·rename_i e1 hu;split at hf
   ·rename_i n' hn;simp only[Option.some.injEq,Prod.mk.injEq] at hf;obtain⟨rfl,rfl⟩:=hf;have hb:=uX (P:=P) (kd:=kd) (y:=xs.length) (code:=.sliceB) (w:=w') h0 h1;by_cases qp:cap=i.toNat
    ·unfold execOp;rw[ho];simp[hρ _ _ hy,hρ _ _ hz,Instr.sliceAt,Instr.slice,Instr.sliceBounds,run_underlying hu,j0 hn,hb,qp,mq]
    ·unfold execOp;rw[ho];simp[hρ _ _ hy,hρ _ _ hz,Instr.sliceAt,Instr.slice,Instr.sliceBounds,run_underlying hu,j0 hn,hb,qp,mq,show¬i.toNat=cap from λe=>qp e.symm]
   ·cases hf
  ·cases hf
 by_cases qp:cap=i.toNat
 ·rw[if_pos qp] at hval;exact⟨_,⟨_,_,_,_,_,rfl,rfl,λh=>by omega⟩,hval⟩
 ·rw[if_neg qp,Option.map_some,mq,Nat.zero_add] at hval;exact⟨_,⟨_,_,_,_,_,rfl,rfl,λ_=>rfl⟩,hval⟩
theorem Wm {bytes:Nat} (hx:ev env y=some v1) (hy:ev env z=some v2) (hrow:om P t e (sz α) bytes=true) (hsz:0<sz α) (h:aX w C j e v xs) (hk:k<xs.length) (hc1:HA v v1 k) (lB:HB (sz α) v v2 (k+1)):
  gM P N env (.call {callee:=.builtin .append,args:=#[y,z],argTypes:=#[t,t]}) w (λv' w'=>aA [j] w C w' C/\aX w' C j e v' (xs.take k++xs.drop (k+1))):=oh λρ hρ eD f_=>by
 obtain⟨i,z0,hu,hi,lp,hby,hz,hzs⟩:=tC hrow;obtain⟨g,cap,cs,rfl,ki,fA,hc,h1,h2,h3⟩:=h.p_ (by omega);obtain⟨g1,l1,c1,e1,rfl⟩:=hc1;obtain⟨g2,l2,c2,a,c3,e2,rfl,ha⟩:=lB;simp only[Value.slice.injEq,Option.some.injEq,Addr.mk.injEq,and_true] at e1 e2;obtain⟨rfl,rfl,rfl⟩:=e1;obtain⟨rfl,rfl,rfl⟩:=e2;obtain⟨m,hm⟩:∃m,m=xs.length-(k+1):=⟨_,rfl⟩
 rw[<-hm] at hy;obtain⟨news,gW⟩:∃news,news=cL cs ((k+1)*sz α) (m*sz α):=⟨_,rfl⟩
 have hbd: (k+1)*sz α+m*sz α<=cs.size:=by rw[h2,<-Nat.add_mul];exact Nat.mul_le_mul_right _ (by omega)
 have pq:news.length=m*sz α:=by rw[gW];simp only[cL,List.length_take,List.length_drop,Array.length_toList];omega
 have hnl:news.length=m*i.size:=by rw[pq,lp]
 have kS:∀q,q<m*sz α->news[q]?=cs[(k+1)*sz α+q]?:=λq hq=>by
  rw[gW];simp only[cL,List.getElem?_take,if_pos hq,List.getElem?_drop];simp
 have hnews:∀q u,news[q]?=some u->w.cell? (a.add q)=some u:=λq u hq=>by
  have hj:q<m*sz α:=by rw[<-pq];exact(List.getElem?_eq_some_iff.1 hq).1
  have hm0:0<m:=Nat.pos_of_ne_zero λe=>by rw[e,Nat.zero_mul] at hj;omega
  rw[ha (by omega),mq,cell_of_row w g ((k+1)*sz α+q) cs e (0,0) hc,<-kS q hj,hq]
 have uS:∀q (hq:q<m),rep w.heap (ax C) (xs[k+1+q]'(by omega)) (cL news.toArray (q*sz α) (sz α)):=λq hq=>by
  have:=h3 (k+1+q) (by omega);rwa [show cL cs ((k+1+q)*sz α) (sz α)=cL news.toArray (q*sz α) (sz α) from nB (λr hr=>by
   have hb:q*sz α+r<m*sz α:=by
    have:=Nat.mul_le_mul_right (sz α) (show q+1<=m from hq);rw[Nat.succ_mul] at this;omega
   rw[show∀s,news.toArray[s]?=news[s]? from λs=>by simp,kS _ hb,Nat.add_mul (k+1) q,Nat.add_assoc])] at this
 have h1c:∀u∈news,u.oneCell'=true:=λu A_=>by
  obtain⟨q,hq,rfl⟩:=List.mem_iff_getElem.1 A_;have er:q<m*sz α:=by rw[<-pq];exact hq
  have hk:q/sz α<m:=(Nat.div_lt_iff_lt_mul hsz).2 er;refine aY.one (uS (q/sz α) hk) _ ?_;apply List.mem_iff_getElem?.2;refine⟨q%sz α,?_⟩;have hmod:=Nat.mod_lt q hsz;simp only[cL,List.getElem?_take,if_pos hmod,List.getElem?_drop];rw[Nat.mul_comm,Nat.div_add_mod];simp[hq]
 have hkb:k*sz α+sz α+m*sz α<=cs.size:=by rw[Nat.succ_mul] at hbd;exact hbd
 have hr:=run_append_room (P:=P) w t eD.type e i hu hi g k cap cs hc a m c3 news hnl hnews h1c (by omega) (by rw[pq,lp];omega);have wT:=DE (w:=w) (cs:=(cs.toList.take (k*i.size)++news++cs.toList.drop (k*i.size+news.length)).toArray) hc;have kI: (xs.take k++xs.drop (k+1)).length=k+m:=by rw[List.length_append,List.length_take,List.length_drop];omega
 refine⟨_,_,.inl ?_,⟨wT.ext.mono (λb hb h=>by rw[show b=g from h,ki];simp),λ_ _=>rfl⟩,⟨.inr ⟨g,cap,_,by rw[kI],fA,wT.at_,by omega,?_,?_⟩,λb hb=>by simp only[c4,Value.ownBlock,Option.some.injEq] at hb;rw[<-hb];exact ki⟩⟩
 ·unfold execOp;rw[f_];simp[hρ _ _ hx,hρ _ _ hy,resolve,invoke,builtin,hr]
 ·simp only[List.size_toArray,List.length_append,List.length_take,List.length_drop,Array.length_toList,pq,lp];omega
 ·intro q hq;rw[kI] at hq;have hkeep:∀(x:α) (vs:List Value),rep w.heap (ax C) x vs->rep (w.setRow g (cs.toList.take (k*i.size)++news++cs.toList.drop (k*i.size+news.length)).toArray).heap (ax C) x vs:=λx vs hr'=>
   aY.keep hr' (λb hb hn=>wT.ext.block b hb (λh=>hn (by rw[show b=g from h];exact fA)))
  by_cases tU:q<k
  ·rw[List.getElem_append_left (by rw[List.length_take];omega),List.getElem_take];have:=h3 q (by omega);rw[show cL cs (q*sz α) (sz α)=cL (cs.toList.take (k*i.size)++news++cs.toList.drop (k*i.size+news.length)).toArray (q*sz α) (sz α) from nB (λr hr=>by
    have hb:q*sz α+r<k*sz α:=by
     have:=Nat.mul_le_mul_right (sz α) (show q+1<=k from tU);rw[Nat.succ_mul] at this;omega
    conv=>rhs;rw[List.getElem?_toArray,List.append_assoc,List.getElem?_append_left (by simp only[List.length_take,Array.length_toList,lp];omega),List.getElem?_take,if_pos (by rw[lp];exact hb)]
    simp)] at this
   exact hkeep _ _ this
  ·have Wn: (xs.take k).length=k:=by rw[List.length_take];omega
   rw[List.getElem_append_right (by omega),List.getElem_drop];have Eg:q-k<m:=by omega
   have:=uS (q-k) Eg;rw[show cL news.toArray ((q-k)*sz α) (sz α)=cL (cs.toList.take (k*i.size)++news++cs.toList.drop (k*i.size+news.length)).toArray (q*sz α) (sz α) from nB (λr hr=>by
    have hb: (q-k)*sz α+r<m*sz α:=by
     have:=Nat.mul_le_mul_right (sz α) (show q-k+1<=m from Eg);rw[Nat.succ_mul] at this;omega
    have he:q*sz α=k*sz α+(q-k)*sz α:=by rw[<-Nat.add_mul];congr 1;omega
    have kf: (cs.toList.take (k*i.size)).length=k*sz α:=by simp only[List.length_take,Array.length_toList,lp];omega
    rw[show∀s,news.toArray[s]?=news[s]? from λs=>by simp,show∀(l:List Value) s,l.toArray[s]?=l[s]? from λl s=>by simp,List.getElem?_append_left (by rw[List.length_append,kf];omega),List.getElem?_append_right (by rw[kf];omega),kf];congr 1;omega)] at this
   refine hkeep _ _ ?_;simpa only[Wn] using this
end
section
variable {α:Type} [aY α] {w w':World} {C aP:Nat->Nat} {I:List Nat} {P:Program} {N:Nat} {env:Env} {y z:Operand} {t e:TypeId} {v tW:Value} {xs:List α} {vs:List Value} {j k q e':Nat} {x0:α}
structure Wo (w:World) (C:Nat->Nat) (j:Nat) (e:TypeId) (v:Value) (xs:List α) (k:Nat) (vs:List Value) (g cap:Nat) (cs:Array Value):Prop where
 v_:v=.slice (some ⟨g,0,none⟩) xs.length cap
 col:C g=j
 BS:ax C g
 hp:w.heap[g]?=some (.cells cs e (0,0))
 le:xs.length<=cap
 sz:cs.size=cap*sz α
 Eo:∀i (hi:i<xs.length),i≠k->rep w.heap (ax C) xs[i] (cL cs (i*aY.sz α) (aY.sz α))
 at_:cL cs (k*aY.sz α) (aY.sz α)=vs
 lt:k<xs.length
def j6 (w:World) (C:Nat->Nat) (j:Nat) (e:TypeId) (v:Value) (xs:List α) (k:Nat) (vs:List Value) (g:Nat):Prop:=∃cap cs,Wo w C j e v xs k vs g cap cs
theorem aX.open_ (h:aX w C j e v xs) (hk:k<xs.length):∃g vs,rep w.heap (ax C) xs[k] vs/\j6 w C j e v xs k vs g:=by
 obtain⟨g,cap,cs,hv,ki,fA,hc,h1,h2,h3⟩:=h.p_ (by omega);exact⟨g,_,h3 k hk,cap,cs,hv,ki,fA,hc,h1,h2,λi hi _=>h3 i hi,rfl,hk⟩
theorem j6.close {g:Nat} (h:j6 w C j e v xs k vs g) (hr:rep w.heap (ax C) x0 vs):aX w C j e v (xs.set k x0):=by
 obtain⟨cap,cs,h⟩:=h;refine⟨.inr ⟨g,cap,cs,by rw[List.length_set];exact h.v_,h.BS,h.hp,by rw[List.length_set];exact h.le,h.sz,λi hi=>?_⟩,λb hb=>?_⟩
 ·rw[List.length_set] at hi;rw[List.getElem_set];split
  ·rename_i e;subst e;rw[h.at_];exact hr
  ·exact h.Eo i hi (by omega)
 ·rw[h.v_] at hb;simp only[c4,Value.ownBlock,Option.some.injEq] at hb;rw[<-hb];exact h.col
theorem j6.st {g:Nat} (h:j6 w C j e v xs k vs g) (hs:aA I w C w' aP) (h0:0∉I) (hj:j∉I):j6 w' aP j e v xs k vs g:=by
 obtain⟨cap,cs,h⟩:=h;have ho:cz w C j g (.cells cs e (0,0)):=⟨h.col,h.hp⟩
 have h2:=ho.st hs hj;have hlt:∀b,b<w.heap.size->(ax aP b↔ax C b):=λb hb=>by unfold ax;rw[hs.col b hb]
 refine⟨cap,cs,h.v_,h2.col,(hlt g (qx h.hp)).2 h.BS,h2.at_,h.le,h.sz,λi hi hne=>?_,h.at_,h.lt⟩;exact aY.keep (aY.sub (h.Eo i hi hne) (M':=ax aP) (λb hb hc=>(hlt b hb).1 hc)) (λb hb hn=>hs.ext.block b hb (λhc=>hn ((hlt b hb).2 (λe=>h0 (by rw[e] at hc;exact hc)))))
theorem j6.u {g:Nat} (h:j6 w C j e v xs k vs g) (hs:aA I w C w' aP) (h0:0∉I:=by first|decide|(simp<;>omega)) (hj:j∉I:=by first|decide|(simp<;>omega)):j6 w' aP j e v xs k vs g:=h.st hs h0 hj
theorem j6.cO {g n:Nat} (h:j6 w C j e v xs k vs g) (hj:j<n):j6 w (K.cO n C) j e v xs k vs g:=by
 obtain⟨cap,cs,h⟩:=h;have ho:cz w C j g (.cells cs e (0,0)):=⟨h.col,h.hp⟩
 have h2:=ho.cO hj;refine⟨cap,cs,h.v_,h2.col,?_,h.hp,h.le,h.sz,λi hi hne=>aY.sub (h.Eo i hi hne) (λb _ hb=>(yQ hb).1),h.at_,h.lt⟩;have:=h.BS;unfold ax at this⊢;rw[h2.col,<-h.col];exact this
theorem j6.len {g:Nat} (h:j6 w C j e v xs k vs g):vs.length=sz α:=by
 obtain⟨cap,cs,h⟩:=h;have:=Nat.mul_le_mul_right (aY.sz α) (show k+1<=cap from Nat.lt_of_lt_of_le h.lt h.le);rw[Nat.succ_mul] at this;rw[<-h.at_];simp only[cL,List.length_take,List.length_drop,Array.length_toList,h.sz];omega
theorem j6.idx {g:Nat} (h:j6 w C j e v xs k vs g) (hf:h_ P t=some (e',sz α)) (hy:ev env y=some v) {kd:IntKind} {i:Int} (hz:ev env z=some (.int kd i)) (hi:i=k) (w1:World):
  cH P N env (.indexAddr t y z) w1 (.pointer (some ⟨g,k*sz α,none⟩)):=by
 obtain⟨cap,cs,h⟩:=h;subst hi;have hlt:=h.lt;have:=DC (P:=P) (N:=N) (w:=w1) hf (hy.trans (congrArg some h.v_)) hz (by omega) (by omega);simpa using this
theorem j6.load {g:Nat} (h:j6 w C j e v xs k vs g) (hq:vs[q]?=some tW) (ha:iw P t=some false) (hy:ev env y=some (.pointer (some ⟨g,k*sz α+q,none⟩))):cH P N env (.load t y) w tW:=by
 have hl:=h.len;obtain⟨cap,cs,h⟩:=h;have er:q<sz α:=by rw[<-hl];exact(List.getElem?_eq_some_iff.1 hq).1
 have e:cs.toList[k*sz α+q]?=some tW:=by
  rw[<-h.at_] at hq;simpa only[cL,List.getElem?_take,if_pos er,List.getElem?_drop] using hq
 exact kG (cs:=cs.toList) (ty:=_) (eF:=(0,0)) (by simpa using h.hp) ha e hy
theorem HC {g:Nat} (h:j6 w C j e v xs k vs g) (hy:ev env y=some (.pointer (some ⟨g,k*sz α+q,none⟩))) (hq:q<sz α) (hz:ev env z=some tW) (hs:gN P t=some 1) (hv:tW.cells=#[tW]) (h1:tW.oneCell'=true):
  gM P N env (.store t y z) w (λHD w'=>HD=undef/\aA [j] w C w' C/\j6 w' C j e v xs k (vs.set q tW) g):=λa ha eD f_=>by
 have hl:=h.len;obtain⟨cap,cs,h⟩:=h;have hb:=Nat.mul_le_mul_right (aY.sz α) (show k+1<=cap from Nat.lt_of_lt_of_le h.lt h.le);rw[Nat.succ_mul] at hb;obtain⟨HD,w',k1,k2,tG⟩:=KS (P:=P) (N:=N) (w:=w) (cs:=cs.toList) hy hz hs hv h1 (by simpa using h.hp) (by simp only[Array.length_toList,h.sz];omega) a ha eD f_;have keep:∀{x:α} {vs:List Value},rep w.heap (ax C) x vs->rep w'.heap (ax C) x vs:=λhr=>aY.keep hr (λb hb hn=>tG.ext.block b hb (λe=>hn (by rw[show b=g from e];exact h.BS)));refine⟨HD,w',k1,k2,⟨tG.ext.mono (λb _ hb=>by rw[show b=g from hb,h.col];simp),λ_ _=>rfl⟩,cap,_,h.v_,h.col,h.BS,tG.at_,h.le,?_,λi hi hne=>?_,?_,h.lt⟩
 ·simp only[List.size_toArray,List.length_set,Array.length_toList,h.sz]
 ·have:cL (cs.toList.set (k*sz α+q) tW).toArray (i*sz α) (sz α)=cL cs (i*sz α) (sz α):=nB (λm hm=>by
   rw[show∀(l:List Value) (p:Nat),l.toArray[p]?=l[p]? from λl p=>by simp,<-Array.getElem?_toList,List.getElem?_set_ne];rcases Nat.lt_or_gt_of_ne hne with hlt|hlt
   ·have:=Nat.mul_le_mul_right (sz α) (show i+1<=k from hlt);rw[Nat.succ_mul] at this;omega
   ·have:=Nat.mul_le_mul_right (sz α) (show k+1<=i from hlt);rw[Nat.succ_mul] at this;omega)
  rw[this];exact keep (h.Eo i hi hne)
 ·rw[<-h.at_];unfold cL;rw[show∀l:List Value,l.toArray.toList=l from λl=>by simp,List.drop_set,if_neg (by omega),Nat.add_sub_cancel_left,List.take_set]
end
section
variable {l:List bk} {ds:List cC} {ps E:List (List av)}
theorem HE {α:Type}:∀{a b:List (List α)},a.Sublist b->a.flatten.Sublist b.flatten
 |_,_,.slnil=>List.Sublist.refl _
 |_,_,.cons x h=>by rw[List.flatten_cons];exact(HE h).trans (List.sublist_append_right _ _)
 |_,_,.cons_cons x h=>by rw[List.flatten_cons,List.flatten_cons];exact(List.Sublist.refl _).append (HE h)
theorem Wp (l:List bk) (ds:List cC):iE l ds (oD l ds):=by
 obtain⟨s,hI,hf,he,_,_⟩:=VK l ds;rw[he];have hsub: (iD s).Sublist s:=List.filter_sublist;have hm:∀p∈iD s,p∈s/\2<=p.length:=λp hp=>by
  have:=List.mem_filter.1 hp;exact⟨this.1,of_decide_eq_true this.2⟩
 refine⟨λp hp=>(wZ l).sublist (hI.sub p (hm p hp).1),λp hp=>(hm p hp).2,λp hp=>hI.bar p (hm p hp).1,λp hp=>?_,?_,?_⟩
 ·exact Mx.1 (List.all_eq_true.1 hf p hp)
 ·exact(hI.perm.nodup_iff.2 (Bn l)).sublist (HE hsub)
 ·have h1: (s.map λp=>p.headD ⟨0,0⟩).Pairwise gH:=(wZ l).sublist hI.heads;rw[List.pairwise_map] at h1;exact h1.sublist hsub
theorem xA {i:Nat} (h:i<(a_ l).length):i<(dJ (cv l) (bg l)).length:=by simpa[a_] using h
theorem M0 {i:Nat} (h:i<(a_ l).length):i<(dP l).length:=by unfold dP;rw[mu];exact xA h
theorem qM {i:Nat} (h:i<(a_ l).length) {r:av}:r∈bg (a_ l)[i]↔r∈bg l/\cv l r=cv l ((dJ (cv l) (bg l))[i]'(xA h)):=by
 rw[Hf h (M0 h),Mw (M0 h),List.mem_filter,decide_eq_true_eq]
theorem HF {i:Nat} (h:i<(a_ l).length) {x:bk}:x∈(a_ l)[i]↔x∈l/\cv l x.A=cv l ((dJ (cv l) (bg l))[i]'(xA h)):=by
 rw[BM h,List.mem_filter,decide_eq_true_eq]
theorem Ep {i j:Nat} (hi:i<(a_ l).length) (hj:j<(a_ l).length) {r:av} (h1:r∈bg (a_ l)[i]) (h2:r∈bg (a_ l)[j]):i=j:=by
 have a:=(qM hi).1 h1;have b:=(qM hj).1 h2;exact Gu (xA hi) (xA hj) (by rw[<-a.2,b.2])
theorem Wq {r:av} (h:r∈bg l):∃i,∃hi:i<(a_ l).length,r∈bg (a_ l)[i]:=by
 obtain⟨q,hq,e⟩:=Gn (f:=cv l) h;obtain⟨i,hi,rfl⟩:=List.getElem_of_mem hq;have hi2:i<(a_ l).length:=by simpa[a_] using hi
 exact⟨i,hi2,(qM hi2).2 ⟨h,e.symm⟩⟩
theorem Wr {l l':List bk} {s:List av} (h:∀x∈l,x∈l') (hj:qK l s):qK l' s:=λx hx y hy=>
 DZ (l:=iq l s) (l':=iq l' s) (λz hz=>by
  have:=List.mem_filter.1 hz;exact List.mem_filter.2 ⟨h z this.1,this.2⟩) (hj x hx y hy)
theorem Ws {Q:Nat->List (List av)} (hQ:∀i (h:i<(a_ l).length),iE (a_ l)[i] ds (Q i)) (hp:E.Perm ((List.range (a_ l).length).flatMap Q)) (hs:E.Pairwise λp q=>gH (p.headD ⟨0,0⟩) (q.headD ⟨0,0⟩)):
  iE l ds E/\∀i (h:i<(a_ l).length),fh (a_ l)[i] E=fh (a_ l)[i] (Q i):=by
 have hm:∀p,p∈E↔∃i,∃h:i<(a_ l).length,p∈Q i:=λp=>by
  rw[hp.mem_iff,List.mem_flatMap];exact⟨λ⟨i,h1,h2⟩=>⟨i,List.mem_range.1 h1,h2⟩,λ⟨i,h1,h2⟩=>⟨i,List.mem_range.2 h1,h2⟩⟩
 refine⟨⟨λp hp=>?_,λp hp=>?_,λp hp=>?_,λp hp=>?_,?_,hs⟩,λi h=>?_⟩
 ·obtain⟨i,h,h2⟩:=(hm p).1 hp;exact(hQ i h).jj p h2
 ·obtain⟨i,h,h2⟩:=(hm p).1 hp;exact(hQ i h).len p h2
 ·obtain⟨i,h,h2⟩:=(hm p).1 hp;exact(hQ i h).bar p h2
 ·obtain⟨i,h,h2⟩:=(hm p).1 hp;exact Wr (λx hx=>((HF h).1 hx).1) ((hQ i h).join p h2)
 ·rw[hp.flatten.nodup_iff];have key:∀k,k<=(a_ l).length->((List.range k).flatMap Q).flatten.Nodup/\∀r∈((List.range k).flatMap Q).flatten,∃i,∃h:i<(a_ l).length,i<k/\r∈bg (a_ l)[i]:=by
   intro k
   induction k with
   |zero=>intro _;simp
   |succ k ih=>
    intro hk;obtain⟨h1,h2⟩:=ih (by omega);have aC:k<(a_ l).length:=by omega
    have e: ((List.range (k+1)).flatMap Q).flatten=((List.range k).flatMap Q).flatten++(Q k).flatten:=by
     rw[List.range_succ,List.flatMap_append,List.flatten_append];simp
    have hin:∀r∈(Q k).flatten,r∈bg (a_ l)[k]:=λr hr=>by
     obtain⟨p,hp,hr⟩:=List.mem_flatten.1 hr;exact(hQ k aC).refs hp hr
    rw[e];refine⟨List.nodup_append.2 ⟨h1,(hQ k aC).Hj,λa ha b hb e2=>?_⟩,λr hr=>?_⟩
    ·subst e2;obtain⟨i,hi,hik,h3⟩:=h2 a ha;have:=Ep hi aC h3 (hin a hb);omega
    ·rcases List.mem_append.1 hr with h3|h3
     ·obtain⟨i,hi,hik,h4⟩:=h2 r h3;exact⟨i,hi,by omega,h4⟩
     ·exact⟨k,aC,by omega,hin r h3⟩
  exact(key _ (Nat.le_refl _)).1
 ·unfold fh;congr 2;refine List.filter_congr λx hx=>?_;rw[Bool.eq_iff_iff,List.any_eq_true,List.any_eq_true];constructor
  ·rintro⟨p,hp,h2⟩;obtain⟨j,hj,h3⟩:=(hm p).1 hp;have hin:=h2;unfold rV at hin;rw[decide_eq_true_eq] at hin;have h4:=(hQ j hj).refs h3 hin.1;have h5:x.A∈bg (a_ l)[i]:=ji.2 ⟨x,hx,.inl rfl⟩;have:=Ep hj h h4 h5;subst this;exact⟨p,h3,h2⟩
  ·rintro⟨p,hp,h2⟩;exact⟨p,(hm p).2 ⟨i,h,hp⟩,h2⟩
end
def jW (x y:bk):Int:=kj y.w x.w
theorem vM:kT jW (λ_=>True):=⟨λx y _ _=>by unfold jW kj;split<;>split<;>(try split)<;>(try split)<;>omega,λx y z _ _ _=>by unfold jW kj;split<;>split<;>(try split)<;>(try split)<;>(try split)<;>omega⟩
def sU (ds:List cC) (p q:List av):Bool:=p.any λr=>q.any (fJ ds r)
def nT (ds:List cC) (g:av->List av) (b:bk):av->List av:=
 if b.B∈g b.A\/sU ds (g b.A) (g b.B)=true then g else λr=>if r∈g b.A++g b.B then g b.A++g b.B else g r
def d_ (ds:List cC) (ord:List bk):av->List av:=ord.foldl (nT ds) λr=>[r]
def zj (g:av->List av) (r:av):Bool:=decide (1<(j4 (g r)).length/\(j4 (g r)).head?=some r)
def pO (refs:List av) (g:av->List av):List (List av):=(refs.filter (zj g)).map λr=>j4 (g r)
noncomputable def xB (l:List bk) (ds:List cC):List (List av):=pO (bg l) (d_ ds (BF jW l))
section
variable {l:List bk} {ds:List cC} {g:av->List av} {refs:List av}
theorem M1 {p q:List av}:sU ds p q=false↔∀r∈p,∀o∈q,fJ ds r o=false:=by
 unfold sU;rw[List.any_eq_false];constructor
 ·intro h r hr o ho;have:=h r hr;rw[Bool.not_eq_true,List.any_eq_false] at this;simpa using this o ho
 ·intro h r hr;rw[Bool.not_eq_true,List.any_eq_false];intro o ho;simp[h r hr o ho]
structure kX (l:List bk) (ds:List cC) (g:av->List av):Prop where
 self:∀r,r∈g r
 same:∀r,∀q∈g r,g q=g r
 nd:∀r,(g r).Nodup
 bar:∀r,∀a∈g r,∀b∈g r,a≠b->fJ ds a b=false
 join:∀r,qK l (g r)
theorem kX.start:kX l ds (λr=>[r]):=
 ⟨λr=>by simp,λr q hq=>by rw[List.mem_singleton.1 hq],λr=>by simp,λr a ha b hb hne=>absurd (by rw[List.mem_singleton.1 ha,List.mem_singleton.1 hb]) hne,λr x hx y hy=>by rw[List.mem_singleton.1 hx,List.mem_singleton.1 hy]⟩
theorem kX.apart (h:kX l ds g) {a b:av} (hab:b∉g a):∀r∈g a,r∉g b:=λr h1 h2=>by
 have e1:=h.same a r h1;have e2:=h.same b r h2;exact hab (by rw[<-e1,e2];exact h.self b)
theorem kX.step (h:kX l ds g) {b:bk} (hb:b∈l):kX l ds (nT ds g b):=by
 unfold nT;split
 ·exact h
 ·rename_i hn;have h1:b.B∉g b.A:=λe=>hn (.inl e);have h2:sU ds (g b.A) (g b.B)=false:=Bool.eq_false_iff.2 λe=>hn (.inr e);have hap:=h.apart h1;have hin:∀r q,r∈g b.A++g b.B->(q∈g r->q∈g b.A++g b.B):=λr q hr hq=>by
   rcases List.mem_append.1 hr with h3|h3
   ·rw[h.same _ r h3] at hq;exact List.mem_append.2 (.inl hq)
   ·rw[h.same _ r h3] at hq;exact List.mem_append.2 (.inr hq)
  have hJ:qK l (g b.A++g b.B):=by
   have ka:∀x∈g b.A,∀y∈g b.A,cv (iq l (g b.A++g b.B)) x=cv (iq l (g b.A++g b.B)) y:=λx hx y hy=>
    DZ (l:=iq l (g b.A)) (λz hz=>by
     obtain⟨a1,a2⟩:=List.mem_filter.1 hz;rw[decide_eq_true_eq] at a2;exact List.mem_filter.2 ⟨a1,by rw[decide_eq_true_eq];exact⟨List.mem_append.2 (.inl a2.1),List.mem_append.2 (.inl a2.2)⟩⟩) (h.join _ x hx y hy)
   have kb:∀x∈g b.B,∀y∈g b.B,cv (iq l (g b.A++g b.B)) x=cv (iq l (g b.A++g b.B)) y:=λx hx y hy=>
    DZ (l:=iq l (g b.B)) (λz hz=>by
     obtain⟨a1,a2⟩:=List.mem_filter.1 hz;rw[decide_eq_true_eq] at a2;exact List.mem_filter.2 ⟨a1,by rw[decide_eq_true_eq];exact⟨List.mem_append.2 (.inr a2.1),List.mem_append.2 (.inr a2.2)⟩⟩) (h.join _ x hx y hy)
   have Wu:cv (iq l (g b.A++g b.B)) b.A=cv (iq l (g b.A++g b.B)) b.B:=
    w_ (List.mem_filter.2 ⟨hb,by rw[decide_eq_true_eq];exact⟨List.mem_append.2 (.inl (h.self _)),List.mem_append.2 (.inr (h.self _))⟩⟩)
   have all:∀x∈g b.A++g b.B,cv (iq l (g b.A++g b.B)) x=cv (iq l (g b.A++g b.B)) b.A:=λx hx=>by
    rcases List.mem_append.1 hx with h3|h3
    ·exact ka x h3 _ (h.self _)
    ·rw[kb x h3 _ (h.self _),Wu]
   exact λx hx y hy=>by rw[all x hx,all y hy]
  refine⟨λr=>?_,λr q hq=>?_,λr=>?_,λr a ha c hc hne=>?_,λr=>?_⟩
  ·show r∈(if r∈g b.A++g b.B then g b.A++g b.B else g r);split
   ·rename_i h3;exact h3
   ·exact h.self r
  ·split at hq
   ·rename_i h3;rw[if_pos hq,if_pos h3]
   ·rename_i h3;have h4:q∉g b.A++g b.B:=λe=>by
     have:=hin q r e (by rw[h.same r q hq];exact h.self r);exact h3 this
    rw[if_neg h3,if_neg h4];exact h.same r q hq
  ·split
   ·exact List.nodup_append.2 ⟨h.nd _,h.nd _,λa ha c hc e=>hap a ha (e▸hc)⟩
   ·exact h.nd r
  ·split at ha
   ·rename_i h3;rw[if_pos h3] at hc;rcases List.mem_append.1 ha with h4|h4
    ·rcases List.mem_append.1 hc with h5|h5
     ·exact h.bar _ a h4 c h5 hne
     ·exact M1.1 h2 a h4 c h5
    ·rcases List.mem_append.1 hc with h5|h5
     ·rw[VD];exact M1.1 h2 c h5 a h4
     ·exact h.bar _ a h4 c h5 hne
   ·rename_i h3;rw[if_neg h3] at hc;exact h.bar r a ha c hc hne
  ·split
   ·exact hJ
   ·exact h.join r
theorem kX.fold:∀(ord:List bk) {g:av->List av},kX l ds g->(∀b∈ord,b∈l)->kX l ds (ord.foldl (nT ds) g)
 |[],g,h,_=>h
 |b::ord,g,h,hm=>kX.fold ord (h.step (hm b (by simp))) λc hc=>hm c (by simp[hc])
theorem BT {s:List av} {r:av}:r∈j4 s↔r∈s:=(u7 s).mem_iff
theorem M3 (s:List av) (hn:s.Nodup): (j4 s).Pairwise gH:=by
 have h1:=Li s;have h2: (j4 s).Nodup:=(u7 s).nodup_iff.2 hn;refine(h1.and (List.nodup_iff_pairwise_ne.1 h2)).imp λ{a b} ⟨h3,h4⟩=>?_;rcases DX a b with h|h|h
 ·exact h
 ·exact absurd h h4
 ·exact absurd h (DV.1 h3)
theorem kX.out (h:kX l ds g) (hr:refs.Pairwise gH):iE l ds (pO refs g):=by
 have hm:∀p∈pO refs g,∃r∈refs,p=j4 (g r)/\1<(j4 (g r)).length/\(j4 (g r)).head?=some r:=λp hp=>by
  obtain⟨r,hr,rfl⟩:=List.mem_map.1 hp;obtain⟨h1,h2⟩:=List.mem_filter.1 hr;exact⟨r,h1,rfl,of_decide_eq_true h2⟩
 have M4:∀r,(j4 (g r)).head?=some r->(j4 (g r)).headD ⟨0,0⟩=r:=λr e=>by rw[List.headD_eq_head?_getD,e];rfl
 refine⟨λp hp=>?_,λp hp=>?_,λp hp=>?_,λp hp=>?_,?_,?_⟩
 ·obtain⟨r,_,rfl,_⟩:=hm p hp;exact M3 _ (h.nd r)
 ·obtain⟨r,_,rfl,h2,_⟩:=hm p hp;exact h2
 ·obtain⟨r,_,rfl,_⟩:=hm p hp;exact List.pairwise_iff_getElem.2 λi j hi hj hij=>h.bar r _ (BT.1 (List.getElem_mem _)) _ (BT.1 (List.getElem_mem _)) (λe=>by
   have:=List.pairwise_iff_getElem.1 (M3 _ (h.nd r)) i j hi hj hij;rw[e] at this;exact wX _ this)
 ·obtain⟨r,_,rfl,_⟩:=hm p hp;exact qK.congr (λq=>BT.symm) (h.join r)
 ·have key:∀rs:List av,rs.Nodup->(∀r∈rs,(j4 (g r)).head?=some r)->(rs.map λr=>j4 (g r)).flatten.Nodup:=by
   intro rs
   induction rs with
   |nil=>intro _ _;simp
   |cons a t ih=>
    intro hn hh;have hn2:=List.nodup_cons.1 hn;rw[List.map_cons,List.flatten_cons];refine List.nodup_append.2 ⟨(u7 _).nodup_iff.2 (h.nd a),ih hn2.2 λr hr=>hh r (by simp[hr]),λx hx y hy e=>?_⟩;subst e;obtain⟨p,hp,Wv⟩:=List.mem_flatten.1 hy;obtain⟨r,hr,rfl⟩:=List.mem_map.1 hp;have e1:=h.same a x (BT.1 hx);have e2:=h.same r x (BT.1 Wv);have h3:=hh a (by simp);have h4:=hh r (by simp[hr]);rw[<-e1,e2,h4] at h3;injection h3 with h3;subst h3;exact hn2.1 hr
  refine key _ ((Bm hr).sublist List.filter_sublist) λr hr=>?_;exact(of_decide_eq_true (List.mem_filter.1 hr).2).2
 ·unfold pO;rw[List.pairwise_map];refine List.Pairwise.imp_of_mem ?_ (hr.sublist List.filter_sublist);intro a b ha hb hab;rw[M4 a (of_decide_eq_true (List.mem_filter.1 ha).2).2,M4 b (of_decide_eq_true (List.mem_filter.1 hb).2).2];exact hab
theorem Ww (l:List bk) (ds:List cC) {ord:List bk} (ho:∀b∈ord,b∈l):iE l ds (pO (bg l) (d_ ds ord)):=(kX.fold ord kX.start ho).out (wZ l)
end
section
variable {P:Program} {N:Nat} {env:Env} {x y:Operand} {t u:TypeId} {a b:Bool} {w:World}
end
section
variable {di β:Type} [DecidableEq di] {kv:di->Value} {cR:β->Value} {m:List (di×β)} {w:World} {C:Nat->Nat} {j b:Nat}
variable {P:Program} {N:Nat} {env:Env} {x y z:Operand} {t kt et:TypeId}
end
section
variable {α:Type} [aY α] {w:World} {C:Nat->Nat} {j:Nat} {xs:List α} {v:Value} {e:TypeId} {g i off k:Nat}
variable {P:Program} {N:Nat} {env:Env} {y z:Operand} {t:TypeId} {u:Value} {us:List Value}
end
section
variable {P:Program} {t fT ti:TypeId} {n0 n1 n2 nG nH HG nI nJ HI:String} {e0 e1 e2:Bool} {y0 y1 HJ:Nat} {N:Nat} {env:Env} {x y:Operand} {u:TypeId} {w:World}
theorem Wx (h:P.underlying t=some (.struct #[⟨n0,fT,0,e0,nG,nI,y0⟩,⟨n1,fT,2,e1,nH,nJ,y1⟩,⟨n2,ti,4,e2,HG,HI,HJ⟩])) (h0:n0≠"_") (h1:n1≠"_") (h2:n2≠"_") (hS:P.stoodInHeld t=false)
  (hE:tJ P fT cV) (hi:P.underlying ti=some (.int .i64)) (ha:iw P fT=some true) (hs:gN P fT=some 2) (a b:bk):
  (Op.equalIn 10000 t (.agg (iB a).toArray) (.agg (iB b).toArray)).run P w=.ok (decide (a=b)) w:=by
 have hf:P.fieldsOf t=#[⟨n0,fT,0,e0,nG,nI,y0⟩,⟨n1,fT,2,e1,nH,nJ,y1⟩,⟨n2,ti,4,e2,HG,HI,HJ⟩]:=by simp[Program.fieldsOf,h]
 have iA:∀c:bk,(part fT (iB c).toArray 0).run P w=.ok (cV c.A) w:=λc=>by
  unfold part;simp only[Sem.run_bind,qz ha,Result.andThen_ok,if_true,j0 hs,Sem.run_pure];rfl
 have p1:∀c:bk,(part fT (iB c).toArray 2).run P w=.ok (cV c.B) w:=λc=>by
  unfold part;simp only[Sem.run_bind,qz ha,Result.andThen_ok,if_true,j0 hs,Sem.run_pure];rfl
 have p2:∀c:bk,(part ti (iB c).toArray 4).run P w=.ok (.int .i64 c.w) w:=λc=>run_part_plain w (by simp[Program.plainKey,hi]) rfl;have he:∀a b:av,(Op.equalIn 9999 fT (cV a) (cV b)).run P w=.ok (decide (a=b)) w:=λ(a b:av)=>hE 9991 a b w;have hn:∀x y:Int,(Op.equalIn 9999 ti (.int .i64 x) (.int .i64 y)).run P w=.ok (x==y) w:=λ(x y:Int)=>run_equalIn_int (P:=P) w 9998 ti .i64 .i64 x y hi;rw[show(10000:Nat)=9999+1 from rfl,run_equalIn_struct w 9999 t _ _ (by rw[hf];exact h) hS,hf];have hd: (decide (a=b))=((decide (a.A=b.A)&&decide (a.B=b.B))&&(a.w==b.w)):=by
  cases a;cases b;simp only[bk.mk.injEq,Bool.decide_and,Bool.and_assoc];rfl
 simp only[Op.eqFields,Sem.run_bind,Sem.run_ite,h0,h1,h2,ne_eq,not_false_eq_true,if_true,iA,p1,p2,Result.andThen_ok,hd,he,hn];cases decide (a.A=b.A)<;>cases decide (a.B=b.B)<;>cases (a.w==b.w)<;>simp[iA,p1,p2,he,hn]
theorem M5 (h:P.underlying t=some (.struct #[⟨n0,fT,0,e0,nG,nI,y0⟩,⟨n1,fT,2,e1,nH,nJ,y1⟩,⟨n2,ti,4,e2,HG,HI,HJ⟩])) (h0:n0≠"_") (h1:n1≠"_") (h2:n2≠"_") (hS:P.stoodInHeld t=false)
  (hE:tJ P fT cV) (hi:P.underlying ti=some (.int .i64)) (ha:iw P fT=some true) (hs:gN P fT=some 2) (hg:P.eqGuardType P.depth t=false) {a b:bk} (hx:ev env x=some (.agg (iB a).toArray)) (hy:ev env y=some (.agg (iB b).toArray)):
  cH P N env (.binOp .neq t x y u) w (.bool (decide (a≠b))):=mk' λρ hρ o ho=>by
 unfold execOp;rw[ho];simp only[hρ _ _ hx,hρ _ _ hy,Sem.run_bind,run_eqGuard_agg _ _ _ _ _ _ _ hg,Result.andThen_ok,run_neq_struct,Wx h h0 h1 h2 hS hE hi ha hs,Sem.run_pure];simp
end
abbrev qq:av×av->Value:=λp=> .agg #[.int .i64 p.1.a,.int .i64 p.1.b,.int .i64 p.2.a,.int .i64 p.2.b]
section
variable {P:Program} {t fT ti:TypeId} {n0 n1 m0 m1 nG nH BU BV nI nJ BW BX:String} {e0 e1 f0 f1:Bool} {y0 y1 x0 x1:Nat}
theorem M6 (h:P.underlying fT=some (.struct #[⟨n0,ti,0,e0,nG,nI,y0⟩,⟨n1,ti,1,e1,nH,nJ,y1⟩])) (h0:n0≠"_") (h1:n1≠"_") (hS:P.stoodInHeld fT=false)
  (hi:P.underlying ti=some (.int .i64)) (d:Nat) (a b:av) (w:World): (Op.equalIn (d+2) fT (cV a) (cV b)).run P w=.ok (decide (a=b)) w:=by
 have hpt:=λa b i v w=>Bh (P:=P) hi a b i v w;have hf:P.fieldsOf fT=#[⟨n0,ti,0,e0,nG,nI,y0⟩,⟨n1,ti,1,e1,nH,nJ,y1⟩]:=by simp[Program.fieldsOf,h]
 have he:=λ(x y:Int)=>run_equalIn_int (P:=P) w d ti .i64 .i64 x y hi;rw[show d+2=(d+1)+1 from rfl,run_equalIn_struct w (d+1) fT _ _ (by rw[hf];exact h) hS,hf];have iA:∀c:av,(part ti #[.int .i64 c.a,.int .i64 c.b] 0).run P w=.ok (.int .i64 c.a) w:=λc=>hpt _ _ 0 _ w rfl;have p1:∀c:av,(part ti #[.int .i64 c.a,.int .i64 c.b] 1).run P w=.ok (.int .i64 c.b) w:=λc=>hpt _ _ 1 _ w rfl;have hd: (decide (a=b))=((a.a==b.a)&&(a.b==b.b)):=by
  cases a;cases b;simp only[av.mk.injEq,Bool.decide_and];rfl
 simp only[Op.eqFields,Sem.run_bind,Sem.run_ite,h0,h1,ne_eq,not_false_eq_true,if_true,iA,p1,Result.andThen_ok,he,hd];cases (a.a==b.a)<;>cases (a.b==b.b)<;>simp
theorem xC (h:P.underlying t=some (.struct #[⟨m0,fT,0,f0,BU,BW,x0⟩,⟨m1,fT,2,f1,BV,BX,x1⟩])) (g0:m0≠"_") (g1:m1≠"_") (hS:P.stoodInHeld t=false)
  (hr:P.underlying fT=some (.struct #[⟨n0,ti,0,e0,nG,nI,y0⟩,⟨n1,ti,1,e1,nH,nJ,y1⟩])) (h0:n0≠"_") (h1:n1≠"_") (tX:P.stoodInHeld fT=false)
  (hi:P.underlying ti=some (.int .i64)) (ha:iw P fT=some true) (hs:gN P fT=some 2):sH P t qq:=by
 have hf:P.fieldsOf t=#[⟨m0,fT,0,f0,BU,BW,x0⟩,⟨m1,fT,2,f1,BV,BX,x1⟩]:=by simp[Program.fieldsOf,h]
 have iA:∀(c:av×av) w,(part fT #[.int .i64 c.1.a,.int .i64 c.1.b,.int .i64 c.2.a,.int .i64 c.2.b] 0).run P w=.ok (cV c.1) w:=λc w=>by
  unfold part;simp only[Sem.run_bind,qz ha,Result.andThen_ok,if_true,j0 hs,Sem.run_pure];rfl
 have p1:∀(c:av×av) w,(part fT #[.int .i64 c.1.a,.int .i64 c.1.b,.int .i64 c.2.a,.int .i64 c.2.b] 2).run P w=.ok (cV c.2) w:=λc w=>by
  unfold part;simp only[Sem.run_bind,qz ha,Result.andThen_ok,if_true,j0 hs,Sem.run_pure];rfl
 refine K_ h (λd a b w=>?_) (λe k w=>?_) (λk=>by simp[Instr.sameBits]) (λa b hab=>?_)
 ·have he:=λ(x y:av)=>M6 hr h0 h1 tX hi (d+5) x y w;rw[show d+8=(d+7)+1 from rfl,run_equalIn_struct w (d+7) t _ _ (by rw[hf];exact h) hS,hf];have hd: (decide (a=b))=(decide (a.1=b.1)&&decide (a.2=b.2)):=by
   cases a;cases b;simp only[Prod.mk.injEq,Bool.decide_and]
  simp only[Op.eqFields,Sem.run_bind,Sem.run_ite,g0,g1,ne_eq,not_false_eq_true,if_true,iA,p1,Result.andThen_ok,he,hd,show d+7=d+5+2 from rfl];cases decide (a.1=b.1)<;>cases decide (a.2=b.2)<;>simp[he,show d+7=d+5+2 from rfl,iA,p1]
 ·have q:∀(x:Int),(Instr.checkKey e 9998 ti (.int .i64 x)).run P w=.ok () w:=λx=>by unfold Instr.checkKey;simp[run_underlying hi]
  have hpt:=λa b i v w=>Bh (P:=P) hi a b i v w;have M7:∀c:av,(part ti #[.int .i64 c.a,.int .i64 c.b] 0).run P w=.ok (.int .i64 c.a) w:=λc=>hpt _ _ 0 _ w rfl;have r1:∀c:av,(part ti #[.int .i64 c.a,.int .i64 c.b] 1).run P w=.ok (.int .i64 c.b) w:=λc=>hpt _ _ 1 _ w rfl;have Wy:∀c:av,(Instr.checkKey e 9999 fT (cV c)).run P w=.ok () w:=λc=>by
   rw[show(9999:Nat)=9998+1 from rfl,Instr.checkKey];simp only[Sem.run_bind,run_underlying hr,Result.andThen_ok];rw[<-Array.forIn_toList];simp only[List.forIn_cons,List.forIn_nil,Sem.run_bind,Sem.run_ite,h0,h1,ne_eq,not_false_eq_true,if_true,M7,r1,q,Result.andThen_ok,Sem.run_pure]
  rw[show(10000:Nat)=9999+1 from rfl,Instr.checkKey];simp only[Sem.run_bind,run_underlying h,Result.andThen_ok];rw[<-Array.forIn_toList];simp only[List.forIn_cons,List.forIn_nil,Sem.run_bind,Sem.run_ite,g0,g1,ne_eq,not_false_eq_true,if_true,iA,p1,Wy,Result.andThen_ok,Sem.run_pure]
 ·obtain⟨⟨a1,a2⟩,⟨a3,a4⟩⟩:=a;obtain⟨⟨b1,b2⟩,⟨b3,b4⟩⟩:=b;simp at hab;simp[hab]
end
def fI (w:World) (M:Nat->Prop) (ds:List cC) (v:Value):Prop:=∃m:List ((av×av)×Bool),ou w M qq (λb:Bool=> .bool b) m v/\∀a b,(eu m (a,b)).getD false=iU ds a b
section
variable {w w' w₀:World} {C aP jR D:Nat->Nat} {I:List Nat} {ds:List cC} {v:Value}
theorem fI.st (h:fI w (ax C) ds v) (hs:aA I w C w' aP) (h0:0∉I):fI w' (ax aP) ds v:=let⟨m,h1,h2⟩:=h;⟨m,h1.st hs h0,h2⟩
theorem fI.t (h:fI w (ax C) ds v) (hs:aA I w C w' aP) (h0:0∉I:=by first|decide|(simp<;>omega)):fI w' (ax aP) ds v:=h.st hs h0
theorem fI.sub {M M':Nat->Prop} (h:fI w M ds v) (fA:∀b,M' b->M b):fI w M' ds v:=let⟨m,⟨b,h1,h3,h4⟩,h2⟩:=h;⟨m,⟨b,h1,λe=>h3 (fA b e),h4⟩,h2⟩
theorem fI.one {M:Nat->Prop} (h:fI w M ds v):v.cells=#[v]/\v.oneCell'=true:=by obtain⟨m,⟨b,rfl,_⟩,_⟩:=h;exact⟨rfl,rfl⟩
end
theorem Wz {ds:List cC} {k:Nat} (h:k<ds.length) (a b:av):iU (ds.take (k+1)) a b=(iU (ds.take k) a b||(!ds[k].same&&decide (ds[k].A=a/\ds[k].B=b))):=by
 unfold iU;rw[List.take_succ_eq_append_getElem h,List.any_append];simp
abbrev iG:Nat->Nat:=λ_=>0
theorem mW (w:World):aL w iG:=λb hb=>absurd rfl hb
section
variable {w w':World} {C D:Nat->Nat}
theorem aA.re (h:aA [] w D w' D) (C:Nat->Nat):aA [] w C w' C:=⟨h.ext.mono (λb _ hb=>by cases hb),λ_ _=>rfl⟩
end
section
variable {α:Type} [aY α] {P:Program} {N:Nat} {env:Env} {w w':World} {C aP D:Nat->Nat} {I:List Nat} {t e:TypeId} {v s:Value} {x y z q:Operand} {xs ys zs:List α} {j n:Nat}
theorem aX.lC (h:aX w C j e v ys) (hl:ys.length<=9223372036854775807):aB w (ax iG) ys v:=h.own.read (λb _ hb=>absurd rfl hb) hl
theorem aB.c0 {M:Nat->Prop} (h:aB w M ys v):aB w (ax iG) ys v:=h.sub (λb _ hb=>absurd rfl hb)
def nU (w:World) (C:Nat->Nat) (j:Nat) (e:TypeId) (v:Value) (ys:List α):Prop:=aX w C j e v ys\/∃a,v=.slice a ys.length ys.length/\aB w (ax C) ys v
theorem nU.st (h:nU w C j e v ys) (hs:aA I w C w' aP) (h0:0∉I) (hj:j∉I):nU w' aP j e v ys:=h.imp (λh=>h.st hs h0 hj) (λ⟨a,h1,h2⟩=>⟨a,h1,h2.st hs h0⟩)
theorem nU.u (h:nU w C j e v ys) (hs:aA I w C w' aP) (h0:0∉I:=by first|decide|(simp<;>omega)) (hj:j∉I:=by first|decide|(simp<;>omega)):nU w' aP j e v ys:=h.st hs h0 hj
theorem nU.lC (h:nU w C j e v ys) (hl:ys.length<=9223372036854775807):aB w (ax iG) ys v:=by
 rcases h with h|⟨a,_,h⟩
 ·exact h.lC hl
 ·exact h.c0
theorem nU.bU (h:nU w C j e v ys) (hy:ev env y=some v) {d:TypeId} (ht:P.underlying t=some (.slice d)):
  ∀w',cH P N env (.call {callee:=.builtin .len,args:=#[y],argTypes:=#[t]}) w' (.int .i64 ys.length):=λw'=>by
 rcases h with h|⟨a,rfl,_⟩
 ·exact h.bU hy ht w'
 ·exact wP hy ht
theorem M8 {bytes:Nat} (hF:aL w C) (hj:j≠0) (hx:ev env y=some v) (hy:ev env z=some s) (hrow:om P t e (sz α) bytes=true) (hsz:0<sz α)
  (hown:nU w C j e v ys) (hsrc:aB w (ax C) zs s) (y7:zs≠[]) (hlen: (ys.length+zs.length)*bytes<=140737488355328) (h63:ys.length+zs.length<=140737488355328):
  gM P N env (.call {callee:=.builtin .append,args:=#[y,z],argTypes:=#[t,t]}) w (λv' w'=>∃aP,aA [j] w C w' aP/\aX w' aP j e v' (ys++zs)/\aL w' aP):=by
 rcases hown with h|⟨a,rfl,h⟩
 ·exact gU hF hj hx hy hrow hsz h hsrc hlen h63
 ·intro a' jS eD f_;obtain⟨v',w',h1,aP,h2,h3,h4⟩:=Bu (j:=j) (P:=P) (N:=N) (a:=a) hF hj hx hy hrow hsz h hsrc y7 hlen h63 a' jS eD f_;exact⟨v',w',h1,aP,h2.mono (λc hc=>by cases hc),h3,h4⟩
theorem aB.WA {M:Nat->Prop} {e':TypeId} {k:Nat} (h:aB w M xs v) (hy:ev env y=some v) {kd Bv:IntKind} (hf:h_ P t=some (e',sz α)) (hz:ev env z=some (.int kd k)) (hq:ev env q=some (.int Bv k)) (hk:k<=xs.length):
  ∃a,aB w M (xs.take k) (.slice a k k)/\∀w',cH P N env (.slice t y none (some z) (some q)) w' (.slice a k k):=by
 obtain⟨a,c,rfl,hc,hm,hs⟩:=jP.1 h;have kf: (xs.take k).length=k:=by rw[List.length_take];omega
 refine⟨a,?_,λw'=>mk' λρ hρ eD ho=>?_⟩
 ·refine jP.2 ⟨a,k,by rw[kf],by omega,by omega,?_⟩;rcases hs with h|⟨b,o,rfl,hb,cs,ty,eF,hcs,hsz,hr⟩
  ·left;rw[h];simp
  ·right;refine⟨b,o,rfl,hb,cs,ty,eF,hcs,?_,λi hi=>?_⟩
   ·rw[kf];have:=Nat.mul_le_mul_right (sz α) hk;omega
   ·rw[List.getElem_take];exact hr i (by omega)
 ·unfold h_ at hf;split at hf
  ·rename_i e1 hu;split at hf
   ·rename_i n' hn;have hb:=uX (P:=P) (kd:=Bv) (y:=c) (code:=.slice3Acap) (w:=w') (i:=(k:Int)) (by omega) (by omega);have eE:=uX (P:=P) (kd:=kd) (y:=k) (code:=.slice3B) (w:=w') (i:=(k:Int)) (by omega) (by omega);have jS:a.map (·.add 0)=a:=by
     cases a with
     |none=>simp
     |some a=>simp[Addr.add]
    simp only[Int.toNat_natCast] at hb eE;unfold execOp;rw[ho];simp[hρ _ _ hy,hρ _ _ hz,hρ _ _ hq,Instr.sliceAt,Instr.slice,Instr.sliceBounds,run_underlying hu,j0 hn,hb,eE,jS]
   ·cases hf
  ·cases hf
end
section
variable {α:Type} [aY α] {w w':World} {C aP:Nat->Nat} {I:List Nat} {e:TypeId} {v:Value} {ys:List α} {j:Nat}
theorem nU.t (h:nU w C j e v ys) (hs:aA I w C w' aP) (h0:0∉I:=by first|decide|(simp<;>omega)) (hj:j∉I:=by first|decide|(simp<;>omega)):nU w' aP j e v ys:=h.st hs h0 hj
end
section
variable {α:Type} [aY α] {w:World} {C:Nat->Nat} {P:Program} {f:FuncId} {N:Nat} {k:List Item} {R:Value->World->Prop} {Q:Exit->Act->World->Prop} {env:Env} {ops:Array Oper} {S:World->Prop} {i t:Nat} {L:List (Nat×Bool)} {v:Value} {y z q:Operand} {jm:Option (Nat×Bool)} {ty e e':TypeId} {xs:List α} {kd Bv:IntKind} {m:Nat}
theorem WB {M:Nat->Prop} (hop:cq ops i=some (some t,.slice ty y none (some z) (some q),jm)) (hw:fR ops env jm=some true) (ht:Nat.blt t N=true) (hl:aB w M xs v) (hy:ev env y=some v)
  (hf:h_ P ty=some (e',sz α)) (hz:ev env z=some (.int kd m)) (hq:ev env q=some (.int Bv m)) (hk:m<=xs.length)
  (h:∀a,aB w M (xs.take m) (.slice a m m)->bK P N Q ops S L ((t,.slice a m m)::env) w):bK P N Q ops S ((i,true)::L) env w:=by
 obtain⟨a,h2,h3⟩:=hl.WA (P:=P) (N:=N) hy hf hz hq hk;exact eG hop hw ht (λw' _=>h3 w') (h a h2)
end
structure qN (l:List bk) (s ys:List av):Prop where
 nd:ys.Nodup
 sub:∀r∈ys,r∈s
 first:s.headD ⟨0,0⟩∈ys
 same:∀r∈ys,cv (iq l s) r=cv (iq l s) (s.headD ⟨0,0⟩)
section
variable {l:List bk} {s ys:List av}
theorem qN.start (h:1<=s.length):qN l s (s.take 1):=by
 cases s with
 |nil=>simp at h
 |cons a t=>exact⟨by simp,by simp,by simp,by simp⟩
theorem qN.len (h:qN l s ys):ys.length<=s.length:=h.nd.length_le_of_subset h.sub
theorem qN.add (h:qN l s ys) {x:bk} (hx:x∈l) (hA:x.A∈s) (hB:x.B∈s) {r:av} (hr: (r=x.A/\x.B∈ys)\/(r=x.B/\x.A∈ys)) (hn:r∉ys):qN l s (ys++[r]):=by
 have he:cv (iq l s) x.A=cv (iq l s) x.B:=w_ (List.mem_filter.2 ⟨hx,by rw[decide_eq_true_eq];exact⟨hA,hB⟩⟩);have jK:r∈s:=by rcases hr with⟨rfl,_⟩|⟨rfl,_⟩<;>assumption
 have hsame:cv (iq l s) r=cv (iq l s) (s.headD ⟨0,0⟩):=by
  rcases hr with⟨rfl,h1⟩|⟨rfl,h1⟩
  ·rw[he];exact h.same _ h1
  ·rw[<-he];exact h.same _ h1
 refine⟨List.nodup_append.2 ⟨h.nd,by simp,λa ha b hb e=>?_⟩,λq hq=>?_,List.mem_append.2 (.inl h.first),λq hq=>?_⟩
 ·rw[List.mem_singleton] at hb;subst hb;subst e;exact hn ha
 ·rcases List.mem_append.1 hq with h1|h1
  ·exact h.sub q h1
  ·rw[List.mem_singleton.1 h1];exact jK
 ·rcases List.mem_append.1 hq with h1|h1
  ·exact h.same q h1
  ·rw[List.mem_singleton.1 h1];exact hsame
theorem qN.fin (h:qN l s ys) (hn:s.Nodup) (hc:∀x∈l,x.A∈s->x.B∈s->(x.A∈ys↔x.B∈ys)): (ys.length:Int)=s.length↔qm l s=true:=by
 have hall:∀r,cv (iq l s) r=cv (iq l s) (s.headD ⟨0,0⟩)->r∈ys:=λr e=>by
  have hinv:∀x∈iq l s,decide (x.A∈ys)=decide (x.B∈ys):=λx hx=>by
   obtain⟨h1,h2⟩:=List.mem_filter.1 hx;rw[decide_eq_true_eq] at h2;exact decide_eq_decide.2 (hc x h1 h2.1 h2.2)
  have e1:=vi (p:=λr=>decide (r∈ys)) hinv r;have e2:=vi (p:=λr=>decide (r∈ys)) hinv (s.headD ⟨0,0⟩);have eU:decide (r∈ys)=decide (s.headD ⟨0,0⟩∈ys):=by rw[<-e1,<-e2,e]
  rw[decide_eq_true h.first] at eU;exact of_decide_eq_true eU
 unfold qm;rw[List.all_eq_true];constructor
 ·intro e r hr;rw[decide_eq_true_eq];refine h.same r ?_;apply Classical.byContradiction;intro hno;have h1: (r::ys).Nodup:=List.nodup_cons.2 ⟨hno,h.nd⟩;have h2:=h1.length_le_of_subset (l₂:=s) (λq hq=>by
   rcases List.mem_cons.1 hq with rfl|hq
   ·exact hr
   ·exact h.sub q hq)
  simp only[List.length_cons] at h2;omega
 ·intro En;have h2:=hn.length_le_of_subset (l₂:=ys) (λq hq=>hall q (of_decide_eq_true (En q hq)));have:=h.len;omega
end
def jv (w:World) (C:Nat->Nat) (b:Nat) (o:Obj):Prop:=C b<2/\w.heap[b]?=some o
section
variable {w w':World} {I:List Nat} {C aP:Nat->Nat} {b:Nat} {o:Obj}
theorem jv.at_ (h:jv w C b o):w.heap[b]?=some o:=h.2
theorem jv.st (h:jv w C b o) (hs:aA I w C w' aP) (hI:∀c∈I,2<=c):jv w' aP b o:=
 ⟨by rw[hs.col b (qx h.2)];exact h.1,by rw[hs.ext.sB h.2 (λhm=>by have:=hI _ hm;have:=h.1;omega)]⟩
theorem jv.t (h:jv w C b o) (hs:aA I w C w' aP) (hI:∀c∈I,2<=c:=by decide):jv w' aP b o:=h.st hs hI
theorem jv.stay (h:jv w C b o) (hS:Ext (λb=>C b∈I) w w') (hI:∀c∈I,2<=c):w'.heap[b]?=some o:=hS.sB h.2 (λhm=>by have:=hI _ hm;have:=h.1;omega)
theorem jv.bE (h:jv w C b o) (hS:Ext (λb=>C b∈I) w w') (hI:∀c∈I,2<=c:=by decide):w'.heap[b]?=some o:=h.stay hS hI
theorem jv.of (h:w.heap[b]?=some o) (C:Nat->Nat):jv w (bz C) b o:=⟨by unfold bz;split<;>omega,h⟩
theorem aA.same {D D':Nat->Nat} (hs:aA [] w D w' D') (h:w.heap[b]?=some o):w'.heap[b]?=some o:=hs.ext.sB h (λhm=>by cases hm)
end
def xD (ds:List cC) (s:List av):Bool:=(List.range s.length).all λi=>!((s.take i).any λb=>fJ ds b (s.getD i ⟨0,0⟩))
def zk (l:List bk) (ds:List cC) (s:List av):Bool:=decide (2<=s.length)&&xD ds s&&qm l s
theorem M9 {ds:List cC} {s:List av}:xD ds s=true↔s.Pairwise λa b=>fJ ds a b=false:=by
 unfold xD;rw[List.all_eq_true,List.pairwise_iff_getElem];constructor
 ·intro h i j hi hj hij;have h1:=h j (List.mem_range.2 hj);rw[Bool.not_eq_true',List.any_eq_false] at h1;have h2:=h1 s[i] (by rw[List.mem_take_iff_getElem];exact⟨i,by omega,rfl⟩);rw[rM hj] at h2;simpa using h2
 ·intro h j hj;have hj:=List.mem_range.1 hj;rw[Bool.not_eq_true',List.any_eq_false];intro b hb;obtain⟨i,hi,rfl⟩:=List.mem_take_iff_getElem.1 hb;rw[rM hj,h i j (by omega) hj (by omega)];decide
theorem WC {ds:List cC} {s:List av} (h:s.Pairwise λa b=>fJ ds a b=false):s.Nodup:=List.nodup_iff_pairwise_ne.2 (h.imp λ{a b} h e=>by subst e;rw[VE] at h;cases h)
theorem WD {ds:List cC} {s:List av} (h:∀i (hi:i<s.length),(s.take i).any (λb=>fJ ds b s[i])=false):xD ds s=true:=by
 unfold xD;rw[List.all_eq_true];intro i hi;have hi:=List.mem_range.1 hi;rw[rM hi,h i hi];rfl
theorem WE {ds:List cC} {s:List av} {i:Nat} (hi:i<s.length) (h: (s.take i).any (λb=>fJ ds b s[i])=true):xD ds s=false:=by
 unfold xD;rw[List.all_eq_false];exact⟨i,List.mem_range.2 hi,by rw[rM hi,h];decide⟩
theorem iE.HK {l:List bk} {ds:List cC} {ps:List (List av)} (h:iE l ds ps) {p:List av} (hp:p∈ps):zk l ds p=true:=by
 unfold zk;rw[decide_eq_true (h.len p hp),M9.2 (h.bar p hp),Mx.2 (h.join p hp)];rfl
section
variable {l:List bk} {ds:List cC} {ps:List (List av)}
theorem M_ {k:Nat} (h:k<l.length) (ps:List (List av)):fh (l.take (k+1)) ps=if ps.any (rV l[k])=true then fh (l.take k) ps+l[k].w else fh (l.take k) ps:=by
 unfold fh;rw[List.take_succ_eq_append_getElem h,List.filter_append,List.map_append,List.sum_append];by_cases e:ps.any (rV l[k])=true
 ·rw[if_pos e,List.filter_cons_of_pos (p:=λx=>ps.any (rV x)) e];simp
 ·rw[if_neg e,List.filter_cons_of_neg (p:=λx=>ps.any (rV x)) e];simp
theorem HL (hw:∀x∈l,1<=x.w/\x.w<=1048576) (ps:List (List av)):∀k,k<=l.length->0<=fh (l.take k) ps/\fh (l.take k) ps<=1048576*(k:Int)
 |0,_=>by simp[fh]
 |k+1,hk=>by
  have h1:=HL hw ps k (by omega);have h2:=hw _ (List.getElem_mem (show k<l.length by omega));rw[M_ (by omega)];split<;>omega
theorem Na (ps:List (List av)):fh (l.take l.length) ps=fh l ps:=by rw[List.take_length]
theorem HM (x:bk) (p:List av):rV x p=(decide (x.A∈p)&&decide (x.B∈p)):=by unfold rV;rw[Bool.decide_and]
def Seen (m:List (av×Bool)) (rs:List av):Prop:=∀r,(eu m r).getD false=true↔r∈rs
theorem Seen.nil:Seen [] []:=λr=>by simp[eu]
theorem Seen.put {m:List (av×Bool)} {rs:List av} (h:Seen m rs) (r:av):Seen (gB m r true) (rs++[r]):=λq=>by
 rw[lT,List.mem_append,List.mem_singleton];by_cases e:r=q
 ·rw[if_pos e];simp[e]
 ·rw[if_neg e,h q];exact⟨.inl,λh=>h.resolve_right (λe2=>e e2.symm)⟩
theorem Seen.not {m:List (av×Bool)} {rs:List av} (h:Seen m rs) {r:av} (hr:r∉rs): (eu m r).getD false=false:=Bool.eq_false_iff.2 λe=>hr ((h r).1 e)
theorem iE.fresh (h:iE l ds ps) {i j:Nat} (hi:i<ps.length) (hj:j<ps[i].length):ps[i][j]∉(ps.take i).flatten++ps[i].take j:=λhm=>by
 have hn:=h.Hj;have e:ps=ps.take i++ps[i]::ps.drop (i+1):=by rw[<-List.drop_eq_getElem_cons hi,List.take_append_drop]
 rw[e,List.flatten_append,List.flatten_cons,<-List.append_assoc] at hn;have hn2:=(List.nodup_append.1 hn).1;have e2:ps[i]=ps[i].take j++ps[i][j]::ps[i].drop (j+1):=by rw[<-List.drop_eq_getElem_cons hj,List.take_append_drop]
 rcases List.mem_append.1 hm with h1|h1
 ·exact(List.nodup_append.1 hn2).2.2 _ h1 _ (List.getElem_mem hj) rfl
 ·have El:=(List.nodup_append.1 hn2).2.1;rw[e2] at El;exact(List.nodup_append.1 El).2.2 _ h1 _ List.mem_cons_self rfl
theorem WG {i:Nat} (hi:i<ps.length): (ps.take (i+1)).flatten=(ps.take i).flatten++ps[i].take ps[i].length:=by
 rw[List.take_succ_eq_append_getElem hi,List.flatten_append,List.take_length];simp
theorem iE.WH (h:iE l ds ps) {p:List av} (hp:p∈ps):p.length<=2*l.length:=by
 have h1:=(h.nodup hp).length_le_of_subset (l₂:=bg l) (λr hr=>h.refs hp hr);have:=u_ l;omega
theorem iE.WI (h:iE l ds ps) {i:Nat} (h0:0<i) (hi:i<ps.length) (h1:0<(ps[i-1]'(by omega)).length) (h2:0<ps[i].length):i_ ((ps[i-1]'(by omega))[0]) ps[i][0]<0:=by
 have:=List.pairwise_iff_getElem.1 h.heads (i-1) i (by omega) hi (by omega);rw[List.headD_eq_head?_getD,List.headD_eq_head?_getD,List.head?_eq_getElem?,List.head?_eq_getElem?,List.getElem?_eq_getElem h1,List.getElem?_eq_getElem h2] at this;exact wY.2 this
theorem Nb (rows:List (List av)): (iD rows).length<=rows.length:=List.length_filter_le _ _
theorem WJ {rows:List (List av)} {i:Nat} (h:i<rows.length):iD (rows.take (i+1))=if 2<=rows[i].length then iD (rows.take i)++[rows[i]] else iD (rows.take i):=by
 unfold iD;rw[List.take_succ_eq_append_getElem h,List.filter_append];by_cases e:2<=rows[i].length
 ·rw[if_pos e,List.filter_cons_of_pos (by rw[decide_eq_true_eq];exact e)];rfl
 ·rw[if_neg e,List.filter_cons_of_neg (by rw[decide_eq_true_eq];exact e)];simp
theorem WK {rows:List (List av)} (h:∀q (hq:q<rows.length),2<=rows[q].length->qm l rows[q]=true):nQ l rows=true:=by
 unfold nQ;rw[List.all_eq_true];intro s hs;obtain⟨h1,h2⟩:=List.mem_filter.1 hs;obtain⟨q,hq,rfl⟩:=List.getElem_of_mem h1;exact h q hq (of_decide_eq_true h2)
theorem WL {rows:List (List av)} {q:Nat} (hq:q<rows.length) (h2:2<=rows[q].length) (h:qm l rows[q]=false):nQ l rows=false:=by
 unfold nQ;rw[List.all_eq_false];exact⟨_,List.mem_filter.2 ⟨List.getElem_mem hq,by rw[decide_eq_true_eq];exact h2⟩,by rw[h];decide⟩
theorem WM {rows:List (List av)} {st:kV} (h:nQ l rows=false):mV l st rows=st:=by unfold mV;rw[if_neg (by rw[h];rintro⟨h,_⟩;cases h)]
theorem WN {rows:List (List av)} {st:kV} (h:st.found=true) (h2:fh l (iD rows)<=st.val):mV l st rows=st:=by
 unfold mV;rw[if_neg];rintro⟨_,h3|h3⟩
 ·rw[h] at h3;cases h3
 ·omega
theorem Nc {rows:List (List av)} {st:kV} (h:nQ l rows=true) (h2:st.found=false\/st.val<fh l (iD rows)):mV l st rows=⟨true,iD rows,fh l (iD rows)⟩:=by unfold mV;rw[if_pos ⟨h,h2⟩]
end
structure fO {α:Type} [aY α] (w:World) (C:Nat->Nat) (j:Nat) (e:TypeId) (us:List Value) (rows:List (List α)):Prop where
 len:us.length=rows.length
 own:∀k (h:k<us.length) (h':k<rows.length),aX w C j e us[k] rows[k]
 sV:∀k l (h:k<us.length) (h':l<us.length),k≠l->∀b,c4 us[k] b->¬c4 us[l] b
section
variable {α:Type} [aY α] {P:Program} {N:Nat} {env:Env} {w w':World} {C aP D:Nat->Nat} {I:List Nat} {t e:TypeId} {v s:Value} {x y z:Operand} {xs ys zs:List α} {us:List Value} {rows:List (List α)} {j k n:Nat}
theorem fO.nil:fO w C j e [] ([]:List (List α)):=⟨rfl,λk h=>by simp at h,λk l h=>by simp at h⟩
theorem fO.st (h:fO w C j e us rows) (hs:aA I w C w' aP) (h0:0∉I) (hj:j∉I):fO w' aP j e us rows:=⟨h.len,λk h1 h2=>(h.own k h1 h2).st hs h0 hj,h.sV⟩
theorem fO.u (h:fO w C j e us rows) (hs:aA I w C w' aP) (h0:0∉I:=by first|decide|(simp<;>omega)) (hj:j∉I:=by first|decide|(simp<;>omega)):fO w' aP j e us rows:=h.st hs h0 hj
theorem fO.lC (h:fO w C j e us rows) (hk:k<us.length) (hk':k<rows.length) (hl:rows[k].length<=9223372036854775807):aB w (ax iG) rows[k] us[k]:=(h.own k hk hk').lC hl
theorem fO.append {bytes:Nat} (h:fO w C j e us rows) (hF:aL w C) (hj:j≠0) (hk:k<us.length) (hk':k<rows.length) (hx:ev env y=some us[k]) (hy:ev env z=some s) (hrow:om P t e (sz α) bytes=true) (hsz:0<sz α)
  (hsrc:aB w (ax C) zs s) (hlen: (rows[k].length+zs.length)*bytes<=140737488355328) (h63:rows[k].length+zs.length<=140737488355328):
  gM P N env (.call {callee:=.builtin .append,args:=#[y,z],argTypes:=#[t,t]}) w (λv' w'=>∃aP,aA [j] w C w' aP/\aL w' aP/\fO w' aP j e (us.set k v') (rows.set k (rows[k]++zs))):=λa ha eD f_=>by
 have hown:=h.own k hk hk';obtain⟨v',w',h1,h2,h3,h4⟩:=KT (P:=P) (N:=N) hx hy hrow hsz hown.own hsrc hlen h63 a ha eD f_;have ki:∀b,b<w.heap.size->gT C v' j b=C b:=λb hb=>by
  unfold gT;split
  ·rename_i e;rcases h4 b e with h|h
   ·exact(hown.col b h).symm
   ·omega
  ·rfl
 have hS:aA [j] w C w' (gT C v' j):=⟨h3.mono (λb _ hb=>by rw[hown.col b hb];simp),ki⟩
 have hL:aL w' (gT C v' j):=λb hb=>by
  by_cases ho:c4 v' b
  ·exact(h2.ga b ho).2
  ·unfold gT at hb;rw[if_neg (show¬v'.ownBlock=some b from ho)] at hb;exact Nat.lt_of_lt_of_le (hF b hb) h3.size
 have hn:aX w' (gT C v' j) j e v' (rows[k]++zs):=⟨h2.sub (λb hb hc=>by
  by_cases ho:c4 v' b
  ·exact .inl ho
  ·right;unfold ax gT at hc;rw[if_neg (show¬v'.ownBlock=some b from ho)] at hc;exact hc) (λb hb=>by unfold ax gT;rw[if_pos (show v'.ownBlock=some b from hb)];exact hj),λb hb=>by unfold gT;rw[if_pos (show v'.ownBlock=some b from hb)]⟩
 have xE:∀l (hl:l<us.length) (hl':l<rows.length),l≠k->aX w' (gT C v' j) j e us[l] rows[l]/\∀b,c4 us[l] b->¬c4 v' b:=λl hl hl' hlk=>by
  have ho:=h.own l hl hl';have hne:∀b,c4 us[l] b->¬c4 us[k] b:=h.sV l k hl hk hlk;have hv:∀b,c4 us[l] b->¬c4 v' b:=λb hb hv=>by
   rcases h4 b hv with h5|h5
   ·exact hne b hb h5
   ·have:=(ho.own.ga b hb).2;omega
  have hold:∀b,b<w.heap.size->c4 v' b->ax C b:=λb hb tY=>by
   rcases h4 b tY with h6|h6
   ·unfold ax;rw[hown.col b h6];exact hj
   ·omega
  have h50:jH w (λb=>c4 v' b\/ax C b) e us[l] rows[l]:=ho.own.sub (λb hb fA=>fA.elim (hold b hb) id) (λb hb=> .inr (by unfold ax;rw[ho.col b hb];exact hj));have h5:jH w' (λb=>c4 v' b\/ax C b) e us[l] rows[l]:=h50.ext h3 (λb hb hA=> .inr (by unfold ax;rw[hown.col b hA];exact hj)) hne;refine⟨⟨h5.sub (λb hb hc=>?_) (λb hb=>?_),λb hb=>?_⟩,hv⟩
  ·by_cases tY:c4 v' b
   ·exact .inl tY
   ·right;unfold ax gT at hc;rw[if_neg (show¬v'.ownBlock=some b from tY)] at hc;exact hc
  ·unfold ax gT;rw[if_neg (show¬v'.ownBlock=some b from hv b hb),ho.col b hb];exact hj
  ·unfold gT;rw[if_neg (show¬v'.ownBlock=some b from hv b hb)];exact ho.col b hb
 refine⟨v',w',h1,gT C v' j,hS,hL,⟨by simp[h.len],λl h5 h6=>?_,λl m h5 h6 BZ b hb eE=>?_⟩⟩
 ·simp only[List.length_set] at h5 h6;rw[List.getElem_set,List.getElem_set];by_cases e:k=l
  ·subst e;rw[if_pos rfl,if_pos rfl];exact hn
  ·rw[if_neg e,if_neg e];exact(xE l h5 h6 (Ne.symm e)).1
 ·simp only[List.length_set] at h5 h6;rw[List.getElem_set] at hb eE;by_cases e1:k=l
  ·by_cases e2:k=m
   ·omega
   ·rw[if_pos e1] at hb;rw[if_neg e2] at eE;exact(xE m h6 (by rw[<-h.len];exact h6) (Ne.symm e2)).2 b eE hb
  ·by_cases e2:k=m
   ·rw[if_neg e1] at hb;rw[if_pos e2] at eE;exact(xE l h5 (by rw[<-h.len];exact h5) (Ne.symm e1)).2 b hb eE
   ·rw[if_neg e1] at hb;rw[if_neg e2] at eE;exact h.sV l m h5 h6 BZ b hb eE
theorem WO {n bytes:Nat} {parts:Array (Nat×Operand)} {ys:List α} (hF:aL w C) (hj:j≠0) (hrow:om P t e (sz α) bytes=true) (hn:n=ys.length) (tE:n*sz α<=16777216) (hsz:0<sz α)
  (hp:DL env w (ax C) 0 parts.toList ys):
  gM P N env (.buildSlice t n parts) w (λv w'=>∃aP,aA [] w C w' aP/\aX w' aP j e v ys/\aL w' aP/\∀b,c4 v b->w.heap.size<=b):=oh λρ hρ eD f_=>by
 subst hn;obtain⟨i,z,hu,hi,hsi,hby,hz,hzs⟩:=tC hrow
 let zs:List Value:=((Array.range (ys.length*sz α)).map λj=>(if ys.length*sz α=0 then(#[]:Array Value) else z.cells)[j%(if ys.length*sz α=0 then(#[]:Array Value) else z.cells).size]!).toList
 obtain⟨ei,news,h1,h2,h3,h4⟩:=F0 (k:=0) [] zs hp (by simp) (by simp[zs]);simp only[List.nil_append] at h2;have hmap:=rH.map hρ h1;have lQ:=fill_eq _ (parts.toList.map λp=>(p.1,ρ p.2)) ei zs news (by rw[<-hmap]) h2;have hnew:=tB w (.cells news.toArray e);have hrun: (Instr.buildSlice t ys.length (parts.map λx=>(x.1,ρ x.2))).run P w=.ok (.slice (some ⟨w.heap.size,0,none⟩) ys.length ys.length) (w.alloc (.cells news.toArray e)):=by
  have hle:¬(ys.length*sz α>2^24):=by omega
  have rI: (parts.map λx=>(x.1,ρ x.2)).toList=parts.toList.map λp=>(p.1,ρ p.2):=by simp
  have Be: (sizeOf e).run P w=.ok (sz α) w:=by simp[sizeOf,typeInfo,hi,hsi]
  unfold Instr.buildSlice;simp only[Sem.run_bind,run_underlying hu,Result.andThen_ok,Be,if_neg hle,Sem.run_pure,rI];by_cases h0:ys.length*sz α=0
  ·have rF:zs=((Array.range (ys.length*sz α)).map λj=>(#[]:Array Value)[j%(#[]:Array Value).size]!).toList:=by simp only[zs,h0,if_true]
   rw[rF] at lQ;simp only[h0,if_true,Sem.run_bind,Sem.run_pure,Result.andThen_ok] at lQ⊢;simp only[Array.toArray_toList] at lQ;rw[lQ];simp[newRow]
  ·have rF:zs=((Array.range (ys.length*sz α)).map λj=>z.cells[j%z.cells.size]!).toList:=by simp only[zs,h0,if_false]
   rw[rF] at lQ;have F1: (zeroValue e).run P w=.ok z w:=by simp[zeroValue,typeInfo,hi,hz]
   simp only[h0,if_false,Sem.run_bind,F1,Sem.run_pure,Result.andThen_ok];simp only[Array.toArray_toList] at lQ;rw[lQ];simp[newRow]
 obtain⟨aP,a1,a2,a3⟩:=hnew.own hF j;refine⟨.slice (some ⟨w.heap.size,0,none⟩) ys.length ys.length,w.alloc (.cells news.toArray e),.inl ?_,aP,a1,⟨.inr ⟨w.heap.size,ys.length,news.toArray,rfl,?_,a2.at_,Nat.le_refl _,?_,λi hi=>?_⟩,λb hb=>?_⟩,a3,λb hb=>?_⟩
 ·unfold execOp;rw[f_];simp only[Sem.run_bind];rw[show(parts.map λx=>match x with|(i,x)=>(i,ρ x))=(parts.map λx=>(x.1,ρ x.2)) from rfl,hrun];rfl
 ·unfold ax;rw[a2.col];exact hj
 ·simp only[List.size_toArray,h3]
 ·have h5:=h4 i hi;refine aY.keep (aY.sub h5 (λb hb hm=>?_)) (λb hb hm=>hnew.ext.block b hb (λh=>h));unfold ax at hm⊢;rw[a1.col b hb] at hm;exact hm
 ·simp only[c4,Value.ownBlock,Option.some.injEq] at hb;subst hb;exact a2.col
 ·simp only[c4,Value.ownBlock,Option.some.injEq] at hb;omega
theorem fO.snoc (h:fO w C j e us rows) (hj:j≠0) {ys:List α} (ho:aX w C j e v ys) (hd:∀k (hk:k<us.length),∀b,c4 us[k] b->¬c4 v b):fO w C j e (us++[v]) (rows++[ys]):=by
 have hl:=h.len;have hi:∀k (hk:k<(us++[v]).length),k<us.length\/k=us.length:=λk hk=>by simp at hk;omega
 refine⟨by simp[h.len],λk h1 h2=>?_,λk l h1 h2 aC b hb eE=>?_⟩
 ·rcases hi k h1 with h3|h3
  ·rw[List.getElem_append_left h3,List.getElem_append_left (by omega)];exact h.own k h3 (by omega)
  ·subst h3;rw[List.getElem_append_right (by omega),List.getElem_append_right (by omega)];simp only[Nat.sub_self,hl];simpa using ho
 ·rcases hi k h1 with h3|h3
  ·rw[List.getElem_append_left h3] at hb;rcases hi l h2 with h4|h4
   ·rw[List.getElem_append_left h4] at eE;exact h.sV k l h3 h4 aC b hb eE
   ·subst h4;rw[List.getElem_append_right (by omega)] at eE;exact hd k h3 b hb (by simpa using eE)
  ·subst h3;rw[List.getElem_append_right (by omega)] at hb;rcases hi l h2 with h4|h4
   ·rw[List.getElem_append_left h4] at eE;exact hd l h4 b eE (by simpa using hb)
   ·omega
theorem fO.fresh (h:fO w C j e us rows) {w0:World} (hb:∀b,c4 v b->w0.heap.size<=b) (hs:∀k (hk:k<us.length),∀b,c4 us[k] b->b<w0.heap.size):∀k (hk:k<us.length),∀b,c4 us[k] b->¬c4 v b:=λk hk b h1 h2=>by
 have:=hb b h2;have:=hs k hk b h1;omega
theorem fO.lt (h:fO w C j e us rows):∀k (hk:k<us.length),∀b,c4 us[k] b->b<w.heap.size:=λk hk b hb=>((h.own k hk (by rw[<-h.len];exact hk)).own.ga b hb).2
theorem fO.pop (h:fO w C j e (us++[v]) (rows++[xs])) (hl:us.length=rows.length):fO w C j e us rows:=
 ⟨hl,λk h1 h2=>by
  have:=h.own k (by simp;omega) (by simp;omega);rwa [List.getElem_append_left h1,List.getElem_append_left h2] at this,λk l h1 h2 aC b hb=>by
  have:=h.sV k l (by simp;omega) (by simp;omega) aC b;rw[List.getElem_append_left h1,List.getElem_append_left h2] at this;exact this hb⟩
theorem aX.WQ {e':TypeId} (h:aX w C j e v xs) (hy:ev env y=some v) {kd:IntKind} {i:Int} (hf:h_ P t=some (e',sz α)) (hz:ev env z=some (.int kd i)) (h0:0<=i) (h1:i<=xs.length) (hne:0<xs.length):
  ∃v2,(∀b,c4 v2 b->c4 v b)/\aX w C j e v2 (xs.take i.toNat)/\∀w',cH P N env (.slice t y none (some z) none) w' v2:=by
 obtain⟨g,cap,cs,rfl,ki,fA,hc,hle,hsz,hr⟩:=h.p_ hne;have hl: (xs.take i.toNat).length=i.toNat:=by rw[List.length_take];omega
 refine⟨.slice (some ⟨g,0,none⟩) (xs.take i.toNat).length cap,λb hb=>hb,⟨.inr ⟨g,cap,cs,rfl,fA,hc,by omega,hsz,λk hk=>?_⟩,h.col⟩,λw'=>mk' λρ hρ eD ho=>?_⟩
 ·rw[List.getElem_take];exact hr k (by omega)
 ·unfold h_ at hf;split at hf
  ·rename_i e1 hu;split at hf
   ·rename_i n' hn;simp only[Option.some.injEq,Prod.mk.injEq] at hf;obtain⟨rfl,rfl⟩:=hf;have hb:=uX (P:=P) (kd:=kd) (y:=cap) (code:=.sliceAcap) (w:=w') h0 (by omega);unfold execOp;rw[ho];rw[hl];simp[hρ _ _ hy,hρ _ _ hz,Instr.sliceAt,Instr.slice,Instr.sliceBounds,run_underlying hu,j0 hn,hb,mq]
   ·cases hf
  ·cases hf
theorem fO.cut {e':TypeId} (h:fO w C j e us rows) (hk:k<us.length) (hk':k<rows.length) (hy:ev env y=some us[k]) {kd:IntKind} {i:Int} (hf:h_ P t=some (e',sz α)) (hz:ev env z=some (.int kd i)) (h0:0<=i) (h1:i<=rows[k].length) (hne:0<rows[k].length):
  ∃v2,fO w C j e (us.set k v2) (rows.set k (rows[k].take i.toNat))/\∀w',cH P N env (.slice t y none (some z) none) w' v2:=by
 obtain⟨v2,h2,h3,h4⟩:=(h.own k hk hk').WQ (P:=P) (N:=N) hy hf hz h0 h1 hne;refine⟨v2,⟨by simp[h.len],λl h5 h6=>?_,λl m h5 h6 BZ b hb eE=>?_⟩,h4⟩
 ·simp only[List.length_set] at h5 h6;rw[List.getElem_set,List.getElem_set];by_cases e:k=l
  ·subst e;rw[if_pos rfl,if_pos rfl];exact h3
  ·rw[if_neg e,if_neg e];exact h.own l h5 h6
 ·simp only[List.length_set] at h5 h6;rw[List.getElem_set] at hb eE;by_cases e1:k=l
  ·by_cases e2:k=m
   ·omega
   ·rw[if_pos e1] at hb;rw[if_neg e2] at eE;exact h.sV k m hk h6 e2 b (h2 b hb) eE
  ·by_cases e2:k=m
   ·rw[if_neg e1] at hb;rw[if_pos e2] at eE;exact h.sV l k h5 hk (Ne.symm e1) b hb (h2 b eE)
   ·rw[if_neg e1] at hb;rw[if_neg e2] at eE;exact h.sV l m h5 h6 BZ b hb eE
end
def fk (C:Nat->Nat):Nat->Nat:=λb=>if C b=3\/C b=4\/C b=5 then C b else if C b=0 then 0 else 1
def fD (n:Nat) (C aP:Nat->Nat):Nat->Nat:=λb=>if b<n then C b else if aP b=3\/aP b=4\/aP b=5 then aP b else 0
section
variable {α:Type} [aY α] {w w' w0:World} {C aP D:Nat->Nat} {I:List Nat} {e:TypeId} {v:Value} {ys:List α} {x:α} {us:List Value} {rows:List (List α)} {j b n:Nat} {o:Obj}
theorem HN (C:Nat->Nat) (b:Nat):fk C b≠0↔C b≠0:=by unfold fk;split<;>(try split)<;>omega
theorem HO (C:Nat->Nat):ax (fk C)=ax C:=by funext b;exact propext (HN C b)
theorem aL.fk (h:aL w C):aL w (K.fk C):=λb hb=>h b ((HN C b).1 hb)
theorem WR (C:Nat->Nat) (b:Nat):fk C b<6:=by unfold fk;split<;>(try split)<;>omega
theorem Nf {j:Nat} (h:C b=j) (hj:j=3\/j=4\/j=5):fk C b=j:=by unfold fk;rw[h,if_pos hj]
theorem cz.fk (h:cz w C j b o) (hj:j=3\/j=4\/j=5):cz w (K.fk C) j b o:=⟨Nf h.col hj,h.at_⟩
theorem aX.fk (h:aX w C j e v ys) (hj:j=3\/j=4\/j=5):aX w (K.fk C) j e v ys:=⟨by rw[HO];exact h.own,λb hb=>Nf (h.col b hb) hj⟩
theorem fO.fk (h:fO w C j e us rows) (hj:j=3\/j=4\/j=5):fO w (K.fk C) j e us rows:=⟨h.len,λk h1 h2=>(h.own k h1 h2).fk hj,h.sV⟩
theorem aA.fD (h:aA [3,4,5,6,7] w (fk C) w' aP):aA [3,4,5] w C w' (K.fD w.heap.size C aP):=
 ⟨h.ext.mono (λb _ hc=>by
  simp only[List.mem_cons,List.not_mem_nil,or_false] at hc⊢;unfold K.fk at hc;split at hc<;>(try split at hc)<;>omega),λb hb=>by unfold K.fD;rw[if_pos hb]⟩
theorem Er (h:aA I w (fk C) w' aP) (hF:aL w C):∀b,ax (fD w.heap.size C aP) b->ax aP b:=λb hb=>by
 unfold ax fD at*;by_cases hlt:b<w.heap.size
 ·rw[if_pos hlt] at hb;rw[h.col b hlt];exact(HN C b).2 hb
 ·rw[if_neg hlt] at hb;split at hb<;>omega
theorem zl (h:aA I w (fk C) w' aP) (hF:aL w C) (WS:aL w' aP):aL w' (fD w.heap.size C aP):=λb hb=>WS b (Er h hF b hb)
theorem HP (h:aA I w (fk C) w' aP) {j:Nat} (hj:j=3\/j=4\/j=5) (hb:aP b=j):fD w.heap.size C aP b=j:=by
 unfold fD;by_cases hlt:b<w.heap.size
 ·rw[if_pos hlt];have h1:=h.col b hlt;rw[hb] at h1;unfold fk at h1;split at h1
  ·exact h1.symm
  ·split at h1<;>omega
 ·rw[if_neg hlt,hb,if_pos hj]
theorem cz.fD (ho:cz w' aP j b o) (h:aA I w (K.fk C) w' aP) (hj:j=3\/j=4\/j=5):cz w' (K.fD w.heap.size C aP) j b o:=⟨HP h hj ho.col,ho.at_⟩
theorem aX.fD (ho:aX w' aP j e v ys) (h:aA I w (K.fk C) w' aP) (hF:aL w C) (hj:j=3\/j=4\/j=5):aX w' (K.fD w.heap.size C aP) j e v ys:=
 ⟨ho.own.sub (λb _ hb=>Er h hF b hb) (λb hb=>by unfold ax;rw[HP h hj (ho.col b hb)];omega),λb hb=>HP h hj (ho.col b hb)⟩
theorem fO.fD (hr:fO w' aP j e us rows) (h:aA I w (K.fk C) w' aP) (hF:aL w C) (hj:j=3\/j=4\/j=5):fO w' (K.fD w.heap.size C aP) j e us rows:=⟨hr.len,λk h1 h2=>(hr.own k h1 h2).fD h hF hj,hr.sV⟩
theorem aB.fD (hr:aB w' (ax aP) x v) (h:aA I w (K.fk C) w' aP) (hF:aL w C):aB w' (ax (K.fD w.heap.size C aP)) x v:=hr.nL (Er h hF)
theorem aB.fk (hr:aB w (ax C) x v):aB w (ax (K.fk C)) x v:=by rw[HO];exact hr
theorem fI.fk {ds:List cC} (h:fI w (ax C) ds v):fI w (ax (K.fk C)) ds v:=by rw[HO];exact h
theorem aX.WT {xs:List av} (h:aX w' aP j e v xs) (hs:aA [] w iG w' aP) (hj:j≠0) (hF:aL w D) (hl:xs.length<=9223372036854775807):aB w' (ax D) xs v:=by
 rcases h.own with⟨rfl,rfl⟩|⟨g,cap,cs,hv,hg,hc,h1,h2,h3⟩
 ·exact kR
 ·subst hv;have ki:=h.col g rfl;have hn:¬ax D g:=λhD=>by
   have:=hs.col g (hF g hD);rw[ki] at this;exact hj this
  exact jP.2 ⟨_,cap,rfl,h1,hl,.inr ⟨g,0,rfl,hn,cs,e,_,hc,by rw[Nat.zero_add,h2];exact Nat.mul_le_mul_right _ h1,λi hi=>by rw[Nat.zero_add];exact lz.2 (lz.1 (h3 i hi))⟩⟩
theorem aX.Ng (ho:aX w' aP j e v ys) (h:aA I w (K.fk C) w' aP) (hF:aL w C) (hj:6<=j) (hl:ys.length<=9223372036854775807):aB w' (ax (K.fD w.heap.size C aP)) ys v:=
 ho.own.read (λb _ hb=>⟨Er h hF b hb,λy8=>by
  have hc:=ho.col b y8;unfold ax K.fD at hb;by_cases hlt:b<w.heap.size
  ·have:=h.col b hlt;have h2:=WR C b;omega
  ·rw[if_neg hlt] at hb;split at hb<;>omega⟩) hl
end
def Es (WU qO mX:Nat) (w:World) (C:Nat->Nat) (b:Nat) (bN cA kL:Value) (rows:List (List av)) (st:kV):Prop:=
 ∃vs us lX,cz w C 3 b (.cells [bN,cA,kL,vs,.bool st.found,lX,.int .i64 st.val].toArray WU)/\aX w C 4 qO vs (us.map iC.mk)/\fO w C 5 mX us rows/\aB w (ax C) st.best lX
section
variable {w w':World} {C aP:Nat->Nat} {us:List Value} {rows:List (List av)} {mX:Nat}
theorem fO.one (h:fO w C 5 mX us rows):∀k (hk:k<us.length),us[k].oneCell'=true:=λk hk=>((h.own k hk (by rw[<-h.len];exact hk)).one).2
end
theorem fI.c0 {w:World} {M:Nat->Prop} {ds:List cC} {v:Value} (h:fI w M ds v):fI w (ax iG) ds v:=h.sub (λb hb=>absurd rfl hb)
section
variable {l:List bk} {ds:List cC} {rows:List (List av)} {refs:List av} {r:av} {i k:Nat} {st:kV} {C:Nat->Nat} {w:World} {us:List Value} {mX j:Nat} {xs:List av}
theorem Nh {s:List av} {r:av}:oC ds s r=!(s.any λx=>fJ ds x r):=rfl
theorem WV (hk:k<rows.length) (hk2:k<(rows.set k (rows[k]++[r])).length) {i:Int} (hi:i=(((rows.set k (rows[k]++[r]))[k]'hk2).length:Int)-1): (rows.set k (rows[k]++[r])).set k (((rows.set k (rows[k]++[r]))[k]'hk2).take i.toNat)=rows:=by
 have e: (rows.set k (rows[k]++[r]))[k]'hk2=rows[k]++[r]:=by rw[List.getElem_set];simp
 rw[e] at hi⊢;have:i.toNat=rows[k].length:=by simp at hi;omega
 rw[this,List.set_set,List.take_left']
 ·simp
 ·rfl
theorem kK.WW (h:kK ds xs rows):rows.length<=xs.length:=by
 have:=h.heads.length_le;rwa [List.length_map] at this
theorem HQ (hi:i<refs.length):refs.take (i+1)=refs.take i++[refs[i]]:=List.take_succ_eq_append_getElem hi
theorem WX (hk:k<rows.length) (h:oC ds rows[k] r=true) (rs:List av):pM l ds r rs rows st (k+1)=qn l ds rs (rows.set k (rows[k]++[r])) (pM l ds r rs rows st k):=by
 rw[pM,tP hk,if_pos h]
theorem WY (hk:k<rows.length) (h:oC ds rows[k] r=false) (rs:List av):pM l ds r rs rows st (k+1)=pM l ds r rs rows st k:=by
 rw[pM,tP hk,if_neg (by rw[h];decide)]
theorem kK.WZ (h:kK ds (refs.take i) rows) (hi:i<refs.length) (hk:k<rows.length) (hok:oC ds rows[k] refs[i]=true):kK ds (refs.take (i+1)) (rows.set k (rows[k]++[refs[i]])):=by
 rw[HQ hi];have:=h.put hk (r:=refs[i]) (by rw[tP hk];exact hok);rwa [tP hk] at this
theorem kK.new' (h:kK ds (refs.take i) rows) (hi:i<refs.length):kK ds (refs.take (i+1)) (rows++[[refs[i]]]):=by
 rw[HQ hi];exact h.new _
theorem fO.W0 {rows:List (List av)} (h:fO w C j mX us (rows++[xs])) {n:Nat} (hn:n=rows.length):fO w C j mX (us.take n) rows:=by
 have hl:=h.len;simp only[List.length_append,List.length_cons,List.length_nil] at hl;have e:us=us.take n++[us[n]'(by omega)]:=by
  rw[<-List.take_succ_eq_append_getElem];exact(List.take_of_length_le (by omega)).symm
 rw[e] at h;exact h.pop (by rw[List.length_take];omega)
end
section
variable {α:Type} [aY α] {w:World} {C:Nat->Nat} {P:Program} {f:FuncId} {N:Nat} {Q:Exit->Act->World->Prop} {env:Env} {ops:Array Oper} {S:World->Prop} {i t:Nat} {L:List (Nat×Bool)} {y z:Operand} {jm:Option (Nat×Bool)} {ty e e':TypeId} {us:List Value} {rows:List (List α)} {j k:Nat} {kd:IntKind} {n:Int}
theorem fO.W3 (h:fO w C j e us rows) (hop:cq ops i=some (some t,.slice ty y none (some z) none,jm)) (hw:fR ops env jm=some true) (ht:Nat.blt t N=true) (hk:k<us.length) (hk':k<rows.length) (hy:ev env y=some us[k])
  (hf:h_ P ty=some (e',sz α)) (hz:ev env z=some (.int kd n)) (h0:0<=n) (h1:n<=rows[k].length) (hne:0<rows[k].length)
  (hn:∀v2,fO w C j e (us.set k v2) (rows.set k (rows[k].take n.toNat))->bK P N Q ops S L ((t,v2)::env) w):bK P N Q ops S ((i,true)::L) env w:=by
 obtain⟨v2,h2,h3⟩:=h.cut (P:=P) (N:=N) hk hk' hy hf hz h0 h1 hne;exact eG hop hw ht (λw' _=>h3 w') (hn v2 h2)
end
def kY (w:World) (C:Nat->Nat) (m:List (av×iC)) (rs:List av) (g:av->List av):Prop:=∀r∈rs,∃s:iC,eu m r=some s/\aB w (ax C) (g r) s.v
section
variable {w w':World} {C aP:Nat->Nat} {I:List Nat} {m:List (av×iC)} {rs:List av} {g g':av->List av} {l:List bk} {ds:List cC} {v:Value} {both:List av} {b:bk}
theorem kY.st (h:kY w C m rs g) (hs:aA I w C w' aP) (h0:0∉I):kY w' aP m rs g:=λr hr=>let⟨s,h1,h2⟩:=h r hr;⟨s,h1,h2.st hs h0⟩
theorem kY.t (h:kY w C m rs g) (hs:aA I w C w' aP) (h0:0∉I:=by first|decide|(simp<;>omega)):kY w' aP m rs g:=h.st hs h0
theorem kY.nil:kY w C m [] g:=λr hr=>by cases hr
theorem kY.look (h:kY w C m rs g) {r:av} (hr:r∈rs):∃v,((eu m r).getD ⟨.slice none 0 0⟩).v=v/\aB w (ax C) (g r) v:=by
 obtain⟨s,h1,h2⟩:=h r hr;exact⟨s.v,by rw[h1];rfl,h2⟩
theorem kY.put (h:kY w C m rs g) {q:av} (hv:aB w (ax C) both v) (hg:∀r∈rs,g' r=if q=r then both else g r):kY w C (gB m q ⟨v⟩) rs g':=λr hr=>by
 rw[lT,hg r hr];by_cases e:q=r
 ·rw[if_pos e,if_pos e];exact⟨⟨v⟩,rfl,hv⟩
 ·rw[if_neg e,if_neg e];exact h r hr
theorem kY.add (h:kY w C m rs λr=>[r]) {q:av} (hv:aB w (ax C) [q] v):kY w C (gB m q ⟨v⟩) (rs++[q]) λr=>[r]:=λr hr=>by
 rw[lT];by_cases e:q=r
 ·subst e;rw[if_pos rfl];exact⟨⟨v⟩,rfl,hv⟩
 ·rw[if_neg e];rcases List.mem_append.1 hr with h1|h1
  ·exact h r h1
  ·exact absurd (List.mem_singleton.1 h1).symm e
theorem kX.sub (h:kX l ds g) {r:av} (hr:r∈bg l):∀q∈g r,q∈bg l:=λq hq=>by
 by_cases h2:2<=(g r).length
 ·exact MD (h.join r) h2 (h.nd r) hq
 ·have hs:=h.self r
  match hg:g r,h2,hs,hq with
  |[x],_,hs,hq=>rw[List.mem_singleton] at hs hq;rw[hq,<-hs];exact hr
  |[],_,hs,_=>cases hs
  |x::y::t,h2,_,_=>simp at h2
theorem kX.len (h:kX l ds g) {r:av} (hr:r∈bg l): (g r).length<=2*l.length:=by
 have h1:=(h.nd r).length_le_of_subset (h.sub hr);have:=u_ l;omega
def vN (g:av->List av) (both:List av) (j:Nat):av->List av:=λr=>if r∈both.take j then both else g r
theorem W4:vN g both 0=g:=by funext r;unfold vN;rw[if_neg (by simp)]
theorem W5 {j:Nat} (hj:j<both.length) (r:av):vN g both (j+1) r=if both[j]=r then both else vN g both j r:=by
 unfold vN;rw[List.take_succ_eq_append_getElem hj];by_cases e:both[j]=r
 ·rw[if_pos e,if_pos (by rw[List.mem_append,List.mem_singleton];exact .inr e.symm)]
 ·rw[if_neg e];by_cases h:r∈both.take j
  ·rw[if_pos h,if_pos (List.mem_append.2 (.inl h))]
  ·rw[if_neg h,if_neg (λh2=>(List.mem_append.1 h2).elim h (λh3=>e (List.mem_singleton.1 h3).symm))]
theorem Ni (h:b.B∈g b.A\/sU ds (g b.A) (g b.B)=true):nT ds g b=g:=by unfold nT;rw[if_pos h]
theorem W6 (h1:b.B∉g b.A) (h2:sU ds (g b.A) (g b.B)=false):nT ds g b=vN g (g b.A++g b.B) (g b.A++g b.B).length:=by
 unfold nT vN;rw[if_neg (λh=>h.elim h1 (λe=>by rw[h2] at e;cases e)),List.take_length]
theorem W7 {ord:List bk} {k:Nat} (h:k<ord.length):d_ ds (ord.take (k+1))=nT ds (d_ ds (ord.take k)) ord[k]:=by
 unfold d_;rw[List.take_succ_eq_append_getElem h,List.foldl_append];rfl
theorem W8 {refs:List av} {i:Nat} (h:i<refs.length):pO (refs.take (i+1)) g=if zj g refs[i]=true then pO (refs.take i) g++[j4 (g refs[i])] else pO (refs.take i) g:=by
 unfold pO;rw[List.take_succ_eq_append_getElem h,List.filter_append];by_cases e:zj g refs[i]=true
 ·rw[if_pos e,List.filter_cons_of_pos e];simp
 ·rw[if_neg e,List.filter_cons_of_neg e];simp
theorem Nj (refs:List av): (pO refs g).length<=refs.length:=by
 unfold pO;rw[List.length_map];exact List.length_filter_le _ _
end
section
variable {α:Type} [aY α] {P:Program} {N:Nat} {env:Env} {w w':World} {C aP:Nat->Nat} {t e u:TypeId} {v s:Value} {x y z:Operand} {a b:Addr} {l c n:Nat} {M:Nat->Prop}
theorem xF (hx:ev env x=some (.slice (some b) l c)) (ht:P.underlying t=some (.slice e)):cH P N env (.binOp .eql t x (.const (.slice none 0 0)) u) w (.bool false):=mk' λρ hρ o ho=>by
 unfold execOp;rw[ho];have hc:ρ (.const (.slice none 0 0))=.slice none 0 0:=hρ _ _ rfl;have h1: (Op.equalIn Op.maxDepth t (.slice (some b) l c) (.slice none 0 0)).run P w=.ok false w:=by rw[show Op.maxDepth=9999+1 from rfl,Op.equalIn];simp[run_underlying ht]
 simp[hρ _ _ hx,hc,go_sem,eqGuard,binOp,Op.equal,h1]
theorem HR (hx:ev env x=some (.slice none l c)) (ht:P.underlying t=some (.slice e)):cH P N env (.binOp .eql t x (.const (.slice none 0 0)) u) w (.bool true):=mk' λρ hρ o ho=>by
 unfold execOp;rw[ho];have hc:ρ (.const (.slice none 0 0))=.slice none 0 0:=hρ _ _ rfl;have h1: (Op.equalIn Op.maxDepth t (.slice none l c) (.slice none 0 0)).run P w=.ok true w:=by rw[show Op.maxDepth=9999+1 from rfl,Op.equalIn];simp[run_underlying ht]
 simp[hρ _ _ hx,hc,go_sem,eqGuard,binOp,Op.equal,h1]
theorem zm {bytes:Nat} (hF:aL w C) (hrow:om P t e n bytes=true):gM P N env (.buildSlice t 0 #[]) w (λv w'=>(∃a,v=.slice (some a) 0 0)/\aA [] w C w' C/\aL w' C):=oh λρ hρ eD f_=>by
 obtain⟨i,z,hu,hi,hsi,hby,hz,hzs⟩:=tC hrow;have Be: (sizeOf e).run P w=.ok n w:=by simp[sizeOf,typeInfo,hi,hsi]
 have hnew:=tB w (.cells #[] e);have hrun: (Instr.buildSlice t 0 #[]).run P w=.ok (.slice (some ⟨w.heap.size,0,none⟩) 0 0) (w.alloc (.cells #[] e)):=by
  unfold Instr.buildSlice;simp[run_underlying hu,Be,Instr.fill,newRow,show Array.range 0=(#[]:Array Nat) from by simp[Array.range]]
 refine⟨.slice (some ⟨w.heap.size,0,none⟩) 0 0,w.alloc (.cells #[] e),.inl ?_,⟨_,rfl⟩,hnew.st C,hF.st (hnew.st C)⟩;unfold execOp;rw[f_];simp only[Sem.run_bind];rw[show Array.map (λx:Nat×Operand=>(x.fst,ρ x.snd)) #[]=#[] from by simp,hrun];rfl
theorem Nk {bytes:Nat} (hx:ev env x=some (.slice (some a) 0 0)) (hy:ev env y=some s) (hrow:om P t e (sz α) bytes=true) (hsrc:aB w M ([]:List α) s):
  gM P N env (.call {callee:=.builtin .append,args:=#[x,y],argTypes:=#[t,t]}) w (λv' w'=>v'=.slice (some a) 0 0/\aA [] w C w' C):=oh λρ hρ eD f_=>by
 obtain⟨i,z,hu,hi,lp,hby,hz,hzs⟩:=tC hrow;obtain⟨a2,c,rfl,hcap,hl0,DF⟩:=jP.1 hsrc;have hf: (Builtin.firstCells i.size 0 (.slice a2 0 c)).run P w=.ok #[] w:=by cases a2<;>simp[Builtin.firstCells,loadCells,loadCellsFrom]
 have hrun: (Builtin.append_ #[t,t] eD.type #[.slice (some a) 0 0,.slice a2 0 c]).run P w=.ok (.slice (some a) 0 0) w:=by
  simp[Builtin.append_,run_underlying hu,sizeOf,typeInfo,hi,Builtin.lenOf,hf,storeCells]
 refine⟨_,w,.inl ?_,rfl,aA.refl _ _ _⟩;unfold execOp;rw[f_];simp[hρ _ _ hx,hρ _ _ hy,resolve,invoke,builtin,hrun]
theorem zn {a:Addr}:aB w M ([]:List α) (.slice (some a) 0 0):=jP.2 ⟨_,0,rfl,Nat.le_refl _,by simp,.inl rfl⟩
end
section
variable {α:Type} [aY α] {P:Program} {N:Nat} {env:Env} {w:World} {C:Nat->Nat} {t ti e j n l c:Nat} {y z:Operand} {a:Addr}
theorem W9 {bytes:Nat} (hF:aL w C) (hj:j≠0) (hy:ev env y=some (.slice none 0 0)) (hz:ev env z=some (.int .i64 n)) (hrow:om P t e (sz α) bytes=true) (hsz:0<sz α) (hby:bytes<=100000)
  (W_:P.underlying ti=some (.int .i64)) (h0:0<n) (hn:n<=1000000):
  gM P N env (.call {callee:=.builtin .append,args:=#[y,z],argTypes:=#[t,ti]}) w (λv w'=>∃aP g cap,v=.slice (some ⟨g,0,none⟩) n cap/\aA [] w C w' aP/\aX w' aP j e (.slice (some ⟨g,0,none⟩) 0 cap) ([]:List α)/\aL w' aP):=oh λρ hρ eD f_=>by
 obtain⟨i,j_,hu,hi,hsi,hb,DM,hzs⟩:=tC hrow;have hr:=Lib.run_append_nil_zeros (P:=P) w t ti eD.type e i j_ .i64 .i64 hu W_ hi DM n h0 (by rw[hsi];exact hsz) (by omega) (by rw[hb];have:=Nat.mul_le_mul hn hby;omega);have hge:=grownCap_ge w n 0 e;obtain⟨cap,hcap⟩:∃cap,cap=grownCap w n 0 e:=⟨_,rfl⟩
 rw[<-hcap] at hr hge;have Xa:=uR w (.cells (Builtin.zeroCells j_.cells n++Builtin.zeroCells j_.cells (cap-n)) e (0,0));obtain⟨aP,h1,h2,h3⟩:=Xa.own hF j;refine⟨_,_,.inl ?_,aP,_,cap,rfl,h1,⟨.inr ⟨w.heap.size,cap,_,rfl,?_,h2.at_,Nat.zero_le _,?_,λk hk=>by simp at hk⟩,λb hb=>?_⟩,h3⟩
 ·unfold execOp;rw[f_];simp[hρ _ _ hy,hρ _ _ hz,resolve,invoke,builtin,hr]
 ·unfold ax;rw[h2.col];exact hj
 ·rw[Array.size_append,size_zeroCells,size_zeroCells,hzs,<-Nat.add_mul];congr 1;omega
 ·simp only[c4,Value.ownBlock,Option.some.injEq] at hb;subst hb;exact h2.col
theorem Nl {b:Option Addr} (hx:ev env y=some (.slice b l c)) (ht:P.underlying t=some (.slice e)):
  cH P N env (.call {callee:=.builtin .cap,args:=#[y],argTypes:=#[t]}) w (.int .i64 c):=mk' λρ hρ o ho=>by
 unfold execOp;rw[ho];simp[hρ _ _ hx,go_sem,resolve,invoke,builtin,Builtin.cap_,run_underlying ht,goInt]
theorem Xb (hx:ev env y=some (.slice none 0 0)) (hz:ev env z=some (.int .i64 0)) (hu:P.underlying t=some (.slice e)) (hi: (P.info? e).isSome=true):cH P N env (.slice t y none (some z) none) w (.slice none 0 0):=mk' λρ hρ o ho=>by
 obtain⟨i,hi⟩:=Option.isSome_iff_exists.1 hi;unfold execOp;rw[ho];simp[hρ _ _ hx,hρ _ _ hz,Instr.sliceAt,Instr.slice,run_underlying hu,Instr.sliceBounds,Instr.sliceBound,asIntOf,sizeOf,typeInfo,hi]
theorem Xc {g:Nat} (hx:ev env y=some (.slice (some ⟨g,0,none⟩) l c)) (hz:ev env z=some (.int .i64 0)) (hu:P.underlying t=some (.slice e)) (hi: (P.info? e).isSome=true):cH P N env (.slice t y none (some z) none) w (.slice (some ⟨g,0,none⟩) 0 c):=mk' λρ hρ o ho=>by
 obtain⟨i,hi⟩:=Option.isSome_iff_exists.1 hi;unfold execOp;rw[ho];simp[hρ _ _ hx,hρ _ _ hz,Instr.sliceAt,Instr.slice,run_underlying hu,Instr.sliceBounds,Instr.sliceBound,asIntOf,sizeOf,typeInfo,hi];exact λ_=>rfl
end
section
variable {α:Type}
theorem Et {ll:List (List α)} {k:Nat} (h:k<ll.length): (ll.take (k+1)).flatten=(ll.take k).flatten++ll[k]:=by
 rw[List.take_succ_eq_append_getElem h,List.flatten_append];simp
theorem vO {ll:List (List α)} (k:Nat): (ll.take k).flatten.length<=ll.flatten.length:=by
 have:ll.flatten.length=(ll.take k).flatten.length+(ll.drop k).flatten.length:=by rw[<-List.length_append,<-List.flatten_append,List.take_append_drop]
 omega
end
theorem Nn {x y:Int}:kj x y=0↔x=y:=by unfold kj;split<;>(try split)<;>omega
theorem Np {x y:Int}:0<kj x y↔y<x:=by unfold kj;split<;>(try split)<;>omega
theorem Xd (a b:Int):iT [a,b]=if a≠0 then a else b:=by
 unfold iT;by_cases h:a=0
 ·simp[h,iT];exact λe=>e.symm
 ·simp[h]
section
variable {P:Program} {f:FuncId} {N:Nat} {k:List Item} {env:Env} {w:World} {R:Value->World->Prop}
theorem Xe {c:Code} {fn:Func} {a ty b u u2:Nat} {x vC:Value} {uY:Nat} {cs:List Value} {eF:Nat×Nat} {n:Nat} (hc:c=.ret) (hf:P.funcs[f]?=some fn) (hres:fn.results=#[.cell a ty,.tmp u,.tmp u2]) (hv:look env a=some (.pointer (some ⟨b,0,none⟩)))
  (hx:look env u=some x) (hx2:look env u2=some vC) (hb:w.heap[b]?=some (.cells cs.toArray uY eF)) (ha:iw P ty=some true) (hs:gN P ty=some n) (hl:cs.length=n)
  (hR:R (.tuple #[.agg cs.toArray,x,vC]) w):Run P f N (.code c::k) env w R:=λa' jS=>by
 subst hc;refine wJ hf jS.defers ?_ hR;have h1:=jS.slot a _ hv;have h3:=jS.slot u _ hx;have h4:=jS.slot u2 _ hx2;have h2:=Ga hb ha hs hl;simp only[results,hres];simp[h1,h3,h4,Array.getD_eq_getD_getElem?,asAddr,h2]
end
def zq (x y:av):Prop:=x.a<y.a\/(x.a=y.a/\x.b<y.b)
def Nq (x y:av):Prop:=x.a=y.a/\x.b=y.b
theorem zu {x y:av}: (i_ x y<0↔zq x y)/\(i_ x y=0↔Nq x y)/\(0<i_ x y↔zq y x):=by
 unfold i_ zq Nq;rw[Xd];have a1:= @Mi x.a y.a;have a2:= @Nn x.a y.a;have a3:= @Np x.a y.a;have b1:= @Mi x.b y.b;have b2:= @Nn x.b y.b;have b3:= @Np x.b y.b;by_cases h1:kj x.a y.a=0
 ·rw[if_neg (by omega)];refine⟨?_,?_,?_⟩<;>omega
 ·rw[if_pos h1];refine⟨?_,?_,?_⟩<;>omega
def eW (x y:List av):Int:=i_ (x.headD ⟨0,0⟩) (y.headD ⟨0,0⟩)
theorem Nr {x y:List av} (hx:0<x.length) (hy:0<y.length):eW x y=i_ x[0] y[0]:=by
 unfold eW;rw[List.headD_eq_head?_getD,List.headD_eq_head?_getD,List.head?_eq_getElem?,List.head?_eq_getElem?,List.getElem?_eq_getElem hx,List.getElem?_eq_getElem hy];rfl
theorem Ns:kT i_ (λ_=>True):=⟨λx y _ _=>by
 rw[(zu (x:=x) (y:=y)).1,(zu (x:=y) (y:=x)).2.2],λx y z _ _ _ h1 h2=>by
 have a:=(zu (x:=x) (y:=y)).2.2;have b:=(zu (x:=y) (y:=z)).2.2;have c:=(zu (x:=x) (y:=z)).2.2;have sE:¬zq y x:=λh=>by have:=a.2 h;omega
 have F2:¬zq z y:=λh=>by have:=b.2 h;omega
 refine Int.not_lt.1 λh=>?_;have h3:=c.1 h;unfold zq at sE F2 h3;omega⟩
theorem rW:kT eW (λ_=>True):=⟨λx y _ _=>by unfold eW;exact Ns.1 _ _ trivial trivial,λx y z _ _ _=>by unfold eW;exact Ns.2 _ _ _ trivial trivial trivial⟩
section
variable {α:Type} {ys zs:List α} {σ:Nat->Nat}
theorem eA.sub (h:eA ys σ zs):∀x∈zs,x∈ys:=λx hx=>by
 obtain⟨i,hi,rfl⟩:=List.getElem_of_mem hx;have hi':i<ys.length:=by rw[<-h.len];exact hi
 rw[h.get hi'];exact List.getElem_mem _
end
noncomputable def fc (ds:List cC) (l:List bk):List (List av)×Int:=if((bg l).length:Int)<=8 then(oD l ds,0) else(xB l ds,0)
def Nt (P:Program) (g:Nat) (l:List bk) (ds:List cC) (wf:List bk->List (List av)×Int):Prop:=
 ∀(w1:World) (bu:Nat->Nat) (i:Nat) (hi:i<(a_ l).length) (HS bN cA:Value),aL w1 bu->aB w1 (ax bu) (a_ l)[i] HS->fI w1 (ax bu) ds cA->
  Calls P g #[.agg #[bN,cA],HS] w1 (bI λv w'=>∃dG,v=.tuple #[dG,.int .i64 (wf (a_ l)[i]).2]/\aA [] w1 bu w' bu/\aB w' (ax bu) (wf (a_ l)[i]).1 dG)
def eS (wf:List bk->List (List av)×Int) (ps:List (List bk)):List (List av):=ps.flatMap λp=>(wf p).1
theorem Nu {wf:List bk->List (List av)×Int} {ps:List (List bk)} {k:Nat} (h:k<ps.length):eS wf (ps.take (k+1))=eS wf (ps.take k)++(wf ps[k]).1:=by
 unfold eS;rw[List.take_succ_eq_append_getElem h,List.flatMap_append];simp
theorem Nv {wf:List bk->List (List av)×Int} {ps:List (List bk)} (k:Nat): (eS wf (ps.take k)).length<=(eS wf ps).length:=by
 have:eS wf ps=eS wf (ps.take k)++eS wf (ps.drop k):=by unfold eS;rw[<-List.flatMap_append,List.take_append_drop]
 rw[this,List.length_append];omega
section
variable {α:Type} [aY α] {P:Program} {N:Nat} {env:Env} {w w':World} {C aP bu D:Nat->Nat} {I:List Nat} {t e:TypeId} {v s:Value} {x y z:Operand} {xs ys zs:List α} {j j1 n:Nat}
end
section
variable {α:Type} [aY α] {w:World} {C:Nat->Nat} {P:Program} {f:FuncId} {N:Nat} {k:List Item} {R:Value->World->Prop} {Q:Exit->Act->World->Prop} {env:Env} {ops:Array Oper} {S:World->Prop} {i t:Nat} {L:List (Nat×Bool)} {v v2:Value} {y z:Operand} {jm:Option (Nat×Bool)} {ty e e':TypeId} {xs:List α} {j g:Nat} {kd:IntKind} {n:Int}
end
section
variable {α:Type} [aY α] {w w':World} {C aP:Nat->Nat} {I:List Nat} {e:TypeId} {v:Value} {ys:List α} {j:Nat}
end
section
variable {α:Type} {ys zs us:List α} {σ dz:Nat->Nat} {c:α->α->Int} {P:α->Prop}
theorem Xf {n:Nat} (h:eR σ 0 n): ((List.range n).map σ).Perm (List.range n):=by
 have gW: ((List.range n).map σ).Nodup:=by
  rw[List.nodup_iff_pairwise_ne,List.pairwise_map];exact(List.nodup_iff_pairwise_ne.1 List.nodup_range).imp (λhne e=>hne (h.inj _ _ e))
 have hsub: (List.range n).map σ⊆List.range n:=λx hx=>by
  obtain⟨i,hi,rfl⟩:=List.mem_map.1 hx;exact List.mem_range.2 (h.j5 i (by omega) (List.mem_range.1 hi)).2
 refine(List.perm_ext_iff_of_nodup gW List.nodup_range).2 λa=>⟨λha=>hsub ha,λha=>?_⟩
 apply Classical.byContradiction;intro hn;have h1: (a::(List.range n).map σ).Nodup:=List.nodup_cons.2 ⟨hn,gW⟩;have h2:=h1.length_le_of_subset (l₂:=List.range n) (λx hx=>by
  rcases List.mem_cons.1 hx with rfl|hx
  ·exact ha
  ·exact hsub hx)
 simp at h2;omega
theorem eB.perm (h:eB c ys zs):zs.Perm ys:=by
 obtain⟨σ,h1,h2,h3⟩:=h;have e1:zs.map some=((List.range ys.length).map σ).map (λi=>ys[i]?):=by
  apply List.ext_getElem
  ·simp[h1.len]
  ·intro i hi hj;have hlt:i<ys.length:=by simpa[h1.len] using hi
   simp only[List.getElem_map,List.getElem_range];rw[<-(h1.at_ i hlt).2,List.getElem?_eq_getElem (by rw[h1.len];exact hlt)]
 have e2:ys.map some=(List.range ys.length).map (λi=>ys[i]?):=by
  apply List.ext_getElem
  ·simp
  ·intro i hi hj;simp only[List.getElem_map,List.getElem_range];rw[List.getElem?_eq_getElem (by simpa using hi)]
 have eU: (zs.map some).Perm (ys.map some):=by rw[e1,e2];exact(Xf h2).map _
 have jr:=eU.filterMap id;simpa using jr
theorem eB.le (h:eB c ys zs) {i j:Nat} (hij:i<j) (hj:j<zs.length):c (zs[i]'(by omega)) zs[j]<=0:=by
 obtain⟨σ,h1,h2,h3⟩:=h;have hl:=h1.len;rw[h1.get (show i<ys.length by omega),h1.get (show j<ys.length by omega)];obtain⟨_,_,h4⟩:=h3 i j (by omega) hij (by omega);omega
theorem eB.self (h:∀i j (hij:i<j) (hj:j<ys.length),c (ys[i]'(by omega)) ys[j]<0):eB c ys ys:=
 ⟨λi=>i,eA.id ys,eR.id _ _,λi j h1 h2 h3=>⟨Nat.lt_trans h2 h3,h3,.inl (h i j h2 h3)⟩⟩
end
section
variable {sh z:List zg} {r r2:av} {ver Xg:Int} {vals:List ByteArray} {fl:List Int} {k:Nat}
end
section
variable {pr:Int} {bL df:List Int} {lo hi:Int} {p:Nat} {fl Xh:List Int} {ok Cq:Bool}
end
section
variable {pr:Int} {bL df:List Int} {lo hh:Int} {p:Nat} {X1:Int} {sh:List zg} {ds:List cC} {A B:av} {ot X4:List ByteArray} {X5 Xg C7 e:Int} {VL now:List zg}
end
section
variable {l:List bk} {ds:List cC} {wf:List bk->List (List av)×Int} {zs:List (List av)}
theorem Xi {α:Type} (d:α) (ps:List α):ps=(List.range ps.length).map λi=>ps.getD i d:=by
 apply List.ext_getElem
 ·simp
 ·intro i h1 h2;simp[List.getD_eq_getElem?_getD,h1]
def partOf (wf:List bk->List (List av)×Int) (l:List bk) (i:Nat):List (List av):=(wf ((a_ l).getD i [])).1
theorem HT {i:Nat} (h:i<(a_ l).length):partOf wf l i=(wf (a_ l)[i]).1:=by unfold partOf;rw[List.getD_eq_getElem?_getD,List.getElem?_eq_getElem h];rfl
theorem Nw:eS wf (a_ l)=(List.range (a_ l).length).flatMap (partOf wf l):=by
 unfold eS;rw[Xi [] (a_ l),List.flatMap_map];simp only[List.length_map,List.length_range];congr 1
theorem HU (hQ:∀i (h:i<(a_ l).length),iE (a_ l)[i] ds (wf (a_ l)[i]).1): (eS wf (a_ l)).flatten.Nodup:=by
 rw[Nw];have Nx:∀i (h:i<(a_ l).length),iE (a_ l)[i] ds (partOf wf l i):=λi h=>by rw[HT h];exact hQ i h
 have key:∀k,k<=(a_ l).length->((List.range k).flatMap (partOf wf l)).flatten.Nodup/\∀r∈((List.range k).flatMap (partOf wf l)).flatten,∃i,∃h:i<(a_ l).length,i<k/\r∈bg (a_ l)[i]:=by
  intro k
  induction k with
  |zero=>intro _;simp
  |succ k ih=>
   intro hk;obtain⟨h1,h2⟩:=ih (by omega);have aC:k<(a_ l).length:=by omega
   have e: ((List.range (k+1)).flatMap (partOf wf l)).flatten=((List.range k).flatMap (partOf wf l)).flatten++(partOf wf l k).flatten:=by
    rw[List.range_succ,List.flatMap_append,List.flatten_append];simp
   have hin:∀r∈(partOf wf l k).flatten,r∈bg (a_ l)[k]:=λr hr=>by
    obtain⟨p,hp,hr⟩:=List.mem_flatten.1 hr;exact(Nx k aC).refs hp hr
   rw[e];refine⟨List.nodup_append.2 ⟨h1,(Nx k aC).Hj,λa ha b hb e2=>?_⟩,λr hr=>?_⟩
   ·subst e2;obtain⟨i,hi,hik,h3⟩:=h2 a ha;have:=Ep hi aC h3 (hin a hb);omega
   ·rcases List.mem_append.1 hr with h3|h3
    ·obtain⟨i,hi,hik,h4⟩:=h2 r h3;exact⟨i,hi,by omega,h4⟩
    ·exact⟨k,aC,by omega,hin r h3⟩
 exact(key _ (Nat.le_refl _)).1
theorem HV {p:List av} (hp:p∈eS wf (a_ l)):∃i,∃h:i<(a_ l).length,p∈(wf (a_ l)[i]).1:=by
 unfold eS at hp;obtain⟨q,hq,h2⟩:=List.mem_flatMap.1 hp;obtain⟨i,hi,rfl⟩:=List.getElem_of_mem hq;exact⟨i,hi,h2⟩
theorem zw (hQ:∀i (h:i<(a_ l).length),iE (a_ l)[i] ds (wf (a_ l)[i]).1):∀p∈eS wf (a_ l),2<=p.length:=λp hp=>by
 obtain⟨i,h,h2⟩:=HV hp;exact(hQ i h).len p h2
theorem Ny:∀{ps:List (List av)},(∀p∈ps,2<=p.length)->2*ps.length<=ps.flatten.length
 |[],_=>by simp
 |p::ps,h=>by
  have h1:=h p List.mem_cons_self;have h2:=Ny (ps:=ps) (λq hq=>h q (List.mem_cons_of_mem _ hq));simp only[List.flatten_cons,List.length_append,List.length_cons];omega
theorem HW (hQ:∀i (h:i<(a_ l).length),iE (a_ l)[i] ds (wf (a_ l)[i]).1):2*(eS wf (a_ l)).length<=(bg l).length:=by
 refine Nat.le_trans (Ny (zw hQ)) ((HU hQ).length_le_of_subset λr hr=>?_);obtain⟨p,hp,hr⟩:=List.mem_flatten.1 hr;obtain⟨i,h,h2⟩:=HV hp;exact((qM h).1 ((hQ i h).refs h2 hr)).1
theorem HX:∀{ps:List (List av)},ps.flatten.Nodup->ps.Pairwise λp q=>∀x∈p,x∉q
 |[],_=>List.Pairwise.nil
 |p::ps,h=>by
  rw[List.flatten_cons,List.nodup_append] at h;exact List.pairwise_cons.2 ⟨λq hq x hx hx2=>h.2.2 x hx x (List.mem_flatten.2 ⟨q,hq,hx2⟩) rfl,HX h.2.1⟩
theorem Xj (hQ:∀i (h:i<(a_ l).length),iE (a_ l)[i] ds (wf (a_ l)[i]).1) (h:eB eW (eS wf (a_ l)) zs):zs.Pairwise λp q=>gH (p.headD ⟨0,0⟩) (q.headD ⟨0,0⟩):=by
 have hn:zs.flatten.Nodup:=(h.perm.flatten.nodup_iff).2 (HU hQ);have hd:=HX hn;rw[List.pairwise_iff_getElem] at hd⊢;intro i j hi hj hij;have h1:=h.le hij hj;have h2:=hd i j hi hj hij;have l1:=zw hQ _ (h.perm.mem_iff.1 (List.getElem_mem hi));have l2:=zw hQ _ (h.perm.mem_iff.1 (List.getElem_mem hj));have hm:∀{s:List av},2<=s.length->s.headD ⟨0,0⟩∈s:=λ{s} h=>by cases s with|nil=>simp at h|cons a t=>simp
 refine wY.1 ?_;unfold eW at h1;rcases Int.lt_or_eq_of_le h1 with h3|h3
 ·exact h3
 ·have h4:=(zu (x:=zs[i].headD ⟨0,0⟩) (y:=zs[j].headD ⟨0,0⟩)).2.1.1 h3;have h5:zs[i].headD ⟨0,0⟩=zs[j].headD ⟨0,0⟩:=by
   generalize zs[i].headD ⟨0,0⟩=a at h4;generalize zs[j].headD ⟨0,0⟩=b at h4;obtain⟨a1,a2⟩:=a;obtain⟨b1,b2⟩:=b;obtain⟨e1,e2⟩:=h4;simp only at e1 e2;subst e1 e2;rfl
  exact absurd (h5▸hm l2:zs[i].headD ⟨0,0⟩∈zs[j]) (h2 _ (hm l1))
theorem Nz (hQ:∀i (h:i<(a_ l).length),iE (a_ l)[i] ds (wf (a_ l)[i]).1) (h:eB eW (eS wf (a_ l)) zs):
  iE l ds zs/\∀i (h:i<(a_ l).length),fh (a_ l)[i] zs=fh (a_ l)[i] (wf (a_ l)[i]).1:=by
 obtain⟨h1,h2⟩:=Ws (Q:=partOf wf l) (λi hi=>by rw[HT hi];exact hQ i hi) (by rw[<-Nw];exact h.perm) (Xj hQ h);exact⟨h1,λi hi=>by rw[h2 i hi,HT hi]⟩
theorem HY {α:Type} {c:α->α->Int} {ys:List α}:∀x∈BF c ys,x∈ys:=λx hx=>by
 unfold BF at hx;split at hx
 ·rename_i h;exact h.choose_spec.sub x hx
 ·exact hx
theorem Xk (l:List bk) (ds:List cC):iE l ds (xB l ds):=Ww l ds HY
theorem qP (ds:List cC) (l:List bk):iE l ds (fc ds l).1:=by
 unfold fc;split
 ·exact Wp l ds
 ·exact Xk l ds
theorem HZ {i:Nat} (h:i<(a_ l).length): (a_ l)[i]≠[]:=λe=>by
 have hq:=List.getElem_mem (xA h);have hr: (dJ (cv l) (bg l))[i]'(xA h)∈bg l:=(yZ _ _).subset hq;have:=(qM h).2 ⟨hr,rfl⟩;rw[e] at this;obtain⟨x,hx,_⟩:=ji.1 this;cases hx
theorem Xl {i:Nat} (h:i<(a_ l).length): (a_ l)[i].length<=l.length:=by
 rw[BM];exact List.length_filter_le _ _
theorem Xm {i:Nat} (h:i<(a_ l).length): (bg (a_ l)[i]).length<=(bg l).length:=
 (Bn _).length_le_of_subset λr hr=>((qM h).1 hr).1
end
section
variable {l l':List bk} {ds ds':List cC} {ps zs us:List (List av)}
end
section
variable {p:Nat} {l:List bk}
end
section
variable {l l':List bk} {ds:List cC} {zs us ps:List (List av)}
theorem NA {i:Nat} (h:i<(a_ l).length):∀a∈bg (a_ l)[i],∀b∈bg (a_ l)[i],cv (a_ l)[i] a=cv (a_ l)[i] b:=λa ha b hb=>by
 have key:=λr=>vi (p:=λr=>if r∈bg (a_ l)[i] then some (cv (a_ l)[i] r) else none) (l:=l) (λx hx=>by
  by_cases hp:x∈(a_ l)[i]
  ·rw[if_pos (ji.2 ⟨x,hp,.inl rfl⟩),if_pos (ji.2 ⟨x,hp,.inr rfl⟩),w_ hp]
  ·rw[if_neg (λhm=>hp ((HF h).2 ⟨hx,((qM h).1 hm).2⟩)),if_neg (λhm=>hp ((HF h).2 ⟨hx,by rw[w_ hx];exact((qM h).1 hm).2⟩))]) r
 have e:cv l a=cv l b:=((qM h).1 ha).2.trans ((qM h).1 hb).2.symm;have h1:=key a;have h2:=key b;rw[e] at h1;have h3:=h1.symm.trans h2;rw[if_pos ha,if_pos hb] at h3;exact Option.some.inj h3
theorem Xn (hne:l≠[]) (hc:∀a∈bg l,∀b∈bg l,cv l a=cv l b):a_ l=[l]:=by
 obtain⟨x,hx⟩:∃x,x∈l:=List.exists_mem_of_ne_nil _ hne;have hr:x.A∈bg l:=ji.2 ⟨x,hx,.inl rfl⟩;obtain⟨q,hq,_⟩:=Gn (f:=cv l) hr;have hn:=Gp (cv l) (bg l);have hs:=(yZ (cv l) (bg l)).subset;have hf:dJ (cv l) (bg l)=[q]:=by
  generalize dJ (cv l) (bg l)=fs at*
  match fs,hq,hn,hs with
  |[a],hq,_,_=>rw[List.mem_singleton.1 hq]
  |a::b::t,_,hn,hs=>
   have:=hc a (hs (by simp)) b (hs (by simp));simp[this] at hn
 unfold a_;rw[hf,List.map_cons,List.map_nil];congr 1;refine List.filter_eq_self.2 λy hy=>decide_eq_true ?_;exact hc _ (ji.2 ⟨y,hy,.inl rfl⟩) _ (hs (by rw[hf];simp))
theorem Xo {i:Nat} (h:i<(a_ l).length):a_ (a_ l)[i]=[(a_ l)[i]]:=Xn (HZ h) (NA h)
end
end Go.K
