/- Stable sorting, seen as a change of places. Plain Lean. -/
import Derived.Test.YtmdhggfehknjjaaGreatL1
import Derived.WideShapes
import Derived.Laws.Strings
import Derived.Shelf.SlSortCmp.NoneTotal
import Derived.Lib.AppendZeros
import Derived.Laws.Small
import Derived.RangeFuncLeaves
import Derived.RangeFuncNested
set_option linter.unusedVariables false
set_option linter.unusedSimpArgs false
set_option linter.unusedSectionVars false
namespace Go.K
open bu
section
variable {α:Type} {ys zs us:List α} {σ dG:Nat->Nat} {a b i j n:Nat}
structure eL (ys:List α) (σ:Nat->Nat) (zs:List α):Prop where
 len:zs.length=ys.length
 at_:∀i,i<ys.length->σ i<ys.length/\zs[i]?=ys[σ i]?
theorem eL.id (ys:List α):eL ys (λi=>i) ys:=⟨rfl,λi h=>⟨h,rfl⟩⟩
theorem eL.get (h:eL ys σ zs) (hi:i<ys.length):zs[i]'(by rw[h.len];exact hi)=ys[σ i]'(h.at_ i hi).1:=by
 have:=(h.at_ i hi).2;rw[List.getElem?_eq_getElem (by rw[h.len];exact hi),List.getElem?_eq_getElem (h.at_ i hi).1] at this;exact Option.some.inj this
def jS (σ:Nat->Nat) (i j:Nat):Nat->Nat:=λk=>if k=i then σ j else if k=j then σ i else σ k
theorem eL.swap (h:eL ys σ zs) (hi:i<ys.length) (hj:j<ys.length) {x y:α} (hx:x=zs[j]'(by rw[h.len];exact hj)) (hy:y=zs[i]'(by rw[h.len];exact hi)):eL ys (jS σ i j) ((zs.set i x).set j y):=by
 subst hx hy;have hl:=h.len;refine⟨by simp[h.len],λk hk=>?_⟩;have hki:=h.at_ i hi;have hkj:=h.at_ j hj;have hkk:=h.at_ k hk;unfold jS;rw[List.getElem?_set,List.getElem?_set];by_cases e1:k=i
 ·subst e1;rw[if_pos rfl];refine⟨hkj.1,?_⟩;by_cases e2:j=k
  ·subst e2;simp[hl,hk,<-hkk.2,List.getElem?_eq_getElem (show j<zs.length by omega)]
  ·rw[if_neg e2];simp[hl,hk,<-hkj.2,List.getElem?_eq_getElem (show j<zs.length by omega)]
 ·rw[if_neg e1];by_cases e2:k=j
  ·subst e2;rw[if_pos rfl];refine⟨hki.1,?_⟩;simp[hl,hk,<-hki.2,List.getElem?_eq_getElem (show i<zs.length by omega)]
  ·rw[if_neg e2];refine⟨hkk.1,?_⟩;simp[Ne.symm e1,Ne.symm e2,hkk.2]
structure eU (σ:Nat->Nat) (a b:Nat):Prop where
 out:∀i,¬(a<=i/\i<b)->σ i=i
 jZ:∀i,a<=i->i<b->a<=σ i/\σ i<b
 inj:∀i j,σ i=σ j->i=j
theorem eU.id (a b:Nat):eU (λi=>i) a b:=⟨λ_ _=>rfl,λ_ h1 h2=>⟨h1,h2⟩,λ_ _ h=>h⟩
theorem eU.swap (h:eU σ a b) (hi:a<=i/\i<b) (hj:a<=j/\j<b):eU (jS σ i j) a b:=by
 refine⟨λk hk=>?_,λk h1 h2=>?_,λk k' e=>?_⟩
 ·unfold jS;rw[if_neg (by intro e;subst e;exact hk hi),if_neg (by intro e;subst e;exact hk hj)];exact h.out k hk
 ·unfold jS;split
  ·exact h.jZ j hj.1 hj.2
  ·split
   ·exact h.jZ i hi.1 hi.2
   ·exact h.jZ k h1 h2
 ·unfold jS at e;by_cases e1:k=i
  ·by_cases e2:k'=i
   ·omega
   ·rw[if_pos e1,if_neg e2] at e;by_cases fE:k'=j
    ·rw[if_pos fE] at e;have:=h.inj _ _ e;omega
    ·rw[if_neg fE] at e;have:=h.inj _ _ e;omega
  ·rw[if_neg e1] at e;by_cases jo:k=j
   ·rw[if_pos jo] at e;by_cases e2:k'=i
    ·rw[if_pos e2] at e;have:=h.inj _ _ e;omega
    ·rw[if_neg e2] at e;by_cases fE:k'=j
     ·omega
     ·rw[if_neg fE] at e;have:=h.inj _ _ e;omega
   ·rw[if_neg jo] at e;by_cases e2:k'=i
    ·rw[if_pos e2] at e;have:=h.inj _ _ e;omega
    ·rw[if_neg e2] at e;by_cases fE:k'=j
     ·rw[if_pos fE] at e;have:=h.inj _ _ e;omega
     ·rw[if_neg fE] at e;exact h.inj _ _ e
theorem eU.mono {a' b':Nat} (h:eU σ a b) (ha:a'<=a) (hb:b<=b'):eU σ a' b':=⟨λi hi=>h.out i (λe=>hi ⟨by omega,by omega⟩),λi h1 h2=>by
 by_cases e:a<=i/\i<b
 ·have:=h.jZ i e.1 e.2;omega
 ·rw[h.out i e];exact⟨h1,h2⟩,h.inj⟩
theorem eU.comp {dG:Nat->Nat} (h:eU σ a b) (h':eU dG a b):eU (λi=>σ (dG i)) a b:=⟨λi hi=>by show σ (dG i)=i;rw[h'.out i hi,h.out i hi],λi h1 h2=>by
 have:=h'.jZ i h1 h2;exact h.jZ _ this.1 this.2,λi j e=>h'.inj _ _ (h.inj _ _ e)⟩
def gW (T:Nat->Nat->Prop) (σ:Nat->Nat) (a b:Nat):Prop:=∀i j,a<=i->i<j->j<b->T (σ i) (σ j)
def dY (c:α->α->Int) (ys:List α) (i j:Nat):Prop:=∃(hi:i<ys.length) (hj:j<ys.length),c ys[i] ys[j]<0\/c ys[i] ys[j]=0/\i<j
structure kN (c:α->α->Int) (P:α->Prop):Prop where
 anti:∀x y,P x->P y->(c x y<0↔0<c y x)
 trans:∀x y z,P x->P y->P z->c x y<=0->c y z<=0->c x z<=0
theorem kN.eq {c:α->α->Int} {P:α->Prop} (h:kN c P) {x y:α} (hx:P x) (hy:P y):c x y=0↔c y x=0:=by
 have h1:=h.anti x y hx hy;have h2:=h.anti y x hy hx;omega
theorem kN.U7 {c:α->α->Int} {P:α->Prop} (h:kN c P) {x y z:α} (hx:P x) (hy:P y) (hz:P z) (h1:c x y<0) (h2:c y z<=0):c x z<0:=by
 have h3:=h.trans x y z hx hy hz (by omega) h2;have h4:=h.anti x y hx hy;apply Classical.byContradiction;intro hn;have e:c x z=0:=by omega
 have e2:=(h.eq hx hz).1 e;have:=h.trans y z x hy hz hx h2 (by omega);omega
theorem kN.U8 {c:α->α->Int} {P:α->Prop} (h:kN c P) {x y z:α} (hx:P x) (hy:P y) (hz:P z) (h1:c x y<=0) (h2:c y z<0):c x z<0:=by
 have h3:=h.trans x y z hx hy hz h1 (by omega);have h4:=h.anti y z hy hz;apply Classical.byContradiction;intro hn;have e:c x z=0:=by omega
 have e2:=(h.eq hx hz).1 e;have:=h.trans z x y hz hx hy (by omega) h1;omega
theorem G5 {c:α->α->Int} {P:α->Prop} (h:kN c P) (hP:∀x∈ys,P x) {i j k:Nat} (h1:dY c ys i j) (h2:dY c ys j k):dY c ys i k:=by
 obtain⟨hi,hj,h1⟩:=h1;obtain⟨_,hk,h2⟩:=h2;have p1:=hP _ (List.getElem_mem hi);have p2:=hP _ (List.getElem_mem hj);have p3:=hP _ (List.getElem_mem hk);refine⟨hi,hk,?_⟩;rcases h1 with h1|⟨h1,e1⟩
 ·exact .inl (h.U7 p1 p2 p3 h1 (by rcases h2 with h2|h2<;>omega))
 ·rcases h2 with h2|⟨h2,e2⟩
  ·exact .inl (h.U8 p1 p2 p3 (by omega) h2)
  ·refine .inr ⟨?_,by omega⟩;have a:=h.trans _ _ _ p1 p2 p3 (by omega) (by omega);have b:=h.trans _ _ _ p3 p2 p1 (by rw[(h.eq p3 p2).2 h2];omega) (by rw[(h.eq p2 p1).2 h1];omega);have:=h.anti _ _ p1 p3;have:=h.anti _ _ p3 p1;omega
theorem G6 {c:α->α->Int} {P:α->Prop} (h:kN c P) (hP:∀x∈ys,P x) {i j:Nat} (hi:i<ys.length) (hj:j<ys.length) (hne:i≠j):dY c ys i j\/dY c ys j i:=by
 have p1:=hP _ (List.getElem_mem hi);have p2:=hP _ (List.getElem_mem hj);have h1:=h.anti _ _ p1 p2;have h2:=h.anti _ _ p2 p1;by_cases e1:c ys[i] ys[j]<0
 ·exact .inl ⟨hi,hj,.inl e1⟩
 ·by_cases e2:c ys[j] ys[i]<0
  ·exact .inr ⟨hj,hi,.inl e2⟩
  ·have fE:c ys[i] ys[j]=0:=by omega
   have jo:c ys[j] ys[i]=0:=by omega
   rcases Nat.lt_or_gt_of_ne hne with h|h
   ·exact .inl ⟨hi,hj,.inr ⟨fE,h⟩⟩
   ·exact .inr ⟨hj,hi,.inr ⟨jo,h⟩⟩
theorem Ml {c:α->α->Int} {P:α->Prop} (h:kN c P) (hP:∀x∈ys,P x) {i j:Nat} (h1:dY c ys i j) (h2:dY c ys j i):False:=by
 obtain⟨hi,hj,h1⟩:=h1;obtain⟨_,_,h2⟩:=h2;have p1:=hP _ (List.getElem_mem hi);have p2:=hP _ (List.getElem_mem hj);have:=h.anti _ _ p1 p2;have:=h.anti _ _ p2 p1;rcases h1 with h1|h1<;>rcases h2 with h2|h2<;>omega
theorem U9 {c:α->α->Int} {P:α->Prop} (h:kN c P) (hP:∀x∈ys,P x) {i j:Nat} (hi:i<ys.length) (hj:j<ys.length) (hij:i<j):dY c ys j i↔c ys[j] ys[i]<0:=by
 constructor
 ·rintro⟨_,_,h1|h1⟩
  ·exact h1
  ·omega
 ·intro h1;exact⟨hj,hi,.inl h1⟩
structure mV (c:α->α->Int) (ys:List α) (σ:Nat->Nat) (a i j:Nat):Prop where
 within:eU σ a (i+1)
 le:a<=j/\j<=i
 zJ:σ j=i
 jq:∀p q,a<=p->p<q->q<=i->p≠j->q≠j->dY c ys (σ p) (σ q)
 Mm:∀q,j<q->q<=i->dY c ys i (σ q)
theorem mV.start {c:α->α->Int} (h:eU σ a i) (ha:a<=i) (hs:gW (dY c ys) σ a i):mV c ys σ a i i:=
 ⟨h.mono (Nat.le_refl _) (by omega),⟨ha,Nat.le_refl _⟩,h.out i (by omega),λp q h1 h2 h3 h4 h5=>hs p q h1 h2 (by omega),λq h1 h2=>by omega⟩
theorem mV.step {c:α->α->Int} (h:mV c ys σ a i j) (hj:a<j) (hlt:dY c ys i (σ (j-1))):mV c ys (jS σ j (j-1)) a i (j-1):=by
 have e0:jS σ j (j-1) (j-1)=i:=by unfold jS;rw[if_neg (by omega),if_pos rfl];exact h.zJ
 have e1:jS σ j (j-1) j=σ (j-1):=by unfold jS;rw[if_pos rfl]
 have e2:∀k,k≠j->k≠j-1->jS σ j (j-1) k=σ k:=λk h1 h2=>by unfold jS;rw[if_neg h1,if_neg h2]
 have hle:=h.le;refine⟨h.within.swap ⟨by omega,by omega⟩ ⟨by omega,by omega⟩,⟨by omega,by omega⟩,e0,λp q h1 h2 h3 h4 h5=>?_,λq h1 h2=>?_⟩
 ·by_cases zK:p=j
  ·subst zK;rw[e1,e2 q (by omega) (by omega)];exact h.jq (p-1) q (by omega) (by omega) h3 (by omega) (by omega)
  ·by_cases eq:q=j
   ·subst eq;rw[e1,e2 p (by omega) (by omega)];exact h.jq p (q-1) h1 (by omega) (by omega) (by omega) (by omega)
   ·rw[e2 p zK h4,e2 q eq h5];exact h.jq p q h1 h2 h3 zK eq
 ·by_cases eq:q=j
  ·subst eq;rw[e1];exact hlt
  ·rw[e2 q eq (by omega)];exact h.Mm q (by omega) h2
theorem mV.done {c:α->α->Int} {P:α->Prop} (hc:kN c P) (hP:∀x∈ys,P x) (h:mV c ys σ a i j) (hi:i<ys.length) (hj:j=a\/¬dY c ys i (σ (j-1))):eU σ a (i+1)/\gW (dY c ys) σ a (i+1):=by
 have hle:=h.le;refine⟨h.within,λp q h1 h2 h3=>?_⟩;by_cases zK:p=j
 ·subst zK;rw[h.zJ];exact h.Mm q h2 (by omega)
 ·by_cases eq:q=j
  ·subst eq;rw[h.zJ];rcases hj with hj|hj
   ·omega
   ·have hw:=h.within.jZ (q-1) (by omega) (by omega);have hne:σ (q-1)≠i:=λe=>by have:=h.within.inj (q-1) q (by rw[e,h.zJ]);omega
    have hl:dY c ys (σ (q-1)) i:=(G6 hc hP (by omega) hi hne).resolve_right hj;by_cases e:p=q-1
    ·rw[e];exact hl
    ·exact G5 hc hP (h.jq p (q-1) h1 (by omega) (by omega) (by omega) (by omega)) hl
  ·exact h.jq p q h1 h2 (by omega) zK eq
end
inductive qC where
 |run (L:List (Nat×Bool))
 |one (A:List Nat) (i:Nat) (t:qC)
 |fork (A:List Nat) (i:Nat) (t:qC) (i':Nat) (t':qC)
 |G7 (A:List Nat) (i:Nat) (t:qC) (i':Nat) (t':qC) (i2:Nat) (t2:qC)
def mE (Q:Exit->Act->World->Prop) (K:Act->World->Prop):Exit->Act->World->Prop
 | .normal,a,w=>K a w
 |e,a,w=>Q e a w
def mW (P:Program) (ops:Array Oper) (S:World->Prop) (Q:Exit->Act->World->Prop):qC->Act->World->Prop
 | .run L,a,w=>jc P ops S Q L a w
 | .one A i t,a,w=>jc P ops S (mE Q λa w=>wpOp P ops Q i (λa' w'=>S w'/\mW P ops S Q t a' w') a w) (A.map λj=>(j,true)) a w
 | .fork A i t i' t',a,w=>jc P ops S (mE Q λa w=>wpOp P ops Q i (λa' w'=>S w'/\mW P ops S Q t a' w') a w/\wpOp P ops Q i' (λa' w'=>S w'/\mW P ops S Q t' a' w') a w) (A.map λj=>(j,true)) a w
 | .G7 A i t i' t' i2 t2,a,w=>jc P ops S (mE Q λa w=>wpOp P ops Q i (λa' w'=>S w'/\mW P ops S Q t a' w') a w/\wpOp P ops Q i' (λa' w'=>S w'/\mW P ops S Q t' a' w') a w/\wpOp P ops Q i2 (λa' w'=>S w'/\mW P ops S Q t2 a' w') a w) (A.map λj=>(j,true)) a w
def vD (ops:Array Oper) (dc:Nat) (k:Nat->Array Bool->Bool):Nat->Array Bool->List Nat->Bool
 |n,listed,[]=>k n listed
 |0,_,_::_=>false
 |n+1,listed,j::A=>!Nat.beq j dc&&(Nat.ble ops.size dc||needs ops 8 dc j)&&Region.free .any ops listed j&&(Region.ready .any ops listed).contains j&&vD ops dc k n (listed.setIfInBounds j true) A
def vE (ops:Array Oper) (dc:Nat):qC->Nat->Array Bool->Bool
 | .run L,n,listed=>rD ops dc n listed L
 | .one A i t,n,listed=>vD ops dc (λn l=>match n with|0=>false|n+1=>(Region.ready .any ops l==[i])&&vE ops dc t n (l.setIfInBounds i true)) n listed A
 | .fork A i t i' t',n,listed=>vD ops dc (λn l=>match n with
  |0=>false
  |n+1=>((Region.ready .any ops l==[i,i'])||(Region.ready .any ops l==[i',i]))&&vE ops dc t n (l.setIfInBounds i true)&&vE ops dc t' n (l.setIfInBounds i' true)) n listed A
 | .G7 A i t i' t' i2 t2,n,listed=>vD ops dc (λn l=>match n with
  |0=>false
  |n+1=>(Region.ready .any ops l).all (λj=>Nat.beq j i||Nat.beq j i'||Nat.beq j i2)&&(Region.ready .any ops l).contains i&&(Region.ready .any ops l).contains i'&&(Region.ready .any ops l).contains i2&&vE ops dc t n (l.setIfInBounds i true)&&vE ops dc t' n (l.setIfInBounds i' true)&&vE ops dc t2 n (l.setIfInBounds i2 true)) n listed A
section
variable {P:Program} {ops:Array Oper} {S:World->Prop} {Q:Exit->Act->World->Prop}
theorem Ep (hs:Region.noSelect ops=true) (hQ:∀c a d v w,Q (.panic c) (Act.put a d v) w->Q (.panic c) a w) {dc:Nat} {k:Nat->Array Bool->Bool} {K:Act->World->Prop}
  (hk:∀n listed a w,k n listed=true->mS ops listed->S w->K a w->oO P ops Q S dc n listed a w):
  ∀(n:Nat) (listed:Array Bool) (A:List Nat) (a:Act) (w:World),vD ops dc k n listed A=true->mS ops listed->S w->
   jc P ops S (mE Q K) (A.map λj=>(j,true)) a w->oO P ops Q S dc n listed a w
 |n,listed,[],a,w,hc,dP,hS,h=>by
  unfold vD at hc;exact hk n listed a w hc dP hS h
 |0,listed,_::_,a,w,hc,_,_,_=>by simp[vD] at hc
 |n+1,listed,j::A,a,w,hc,dP,hS,h=>by
  simp only[vD,Bool.and_eq_true] at hc;obtain⟨⟨⟨⟨h1,h2⟩,h3⟩,h4⟩,h5⟩:=hc;obtain⟨o,v,hi,hy,h⟩:=h;have hr:j∈Region.ready .any ops listed:=by simpa using h4
  exact Bl hi (Region.noSelect_spec hs) (λc a w hq=>hQ c a _ _ w hq) (λe=>by subst e;simp at h1) (DX h2) n listed a w dP (Region.free_spec hi h3) hr hy hS (Ep hs hQ hk n _ A _ w h5 (mu dP hr) hS h)
theorem xA (hs:Region.noSelect ops=true) (hQ:∀c a d v w,Q (.panic c) (Act.put a d v) w->Q (.panic c) a w) {dc:Nat}:
  ∀(t:qC) (n:Nat) (listed:Array Bool) (a:Act) (w:World),vE ops dc t n listed=true->mS ops listed->S w->mW P ops S Q t a w->oO P ops Q S dc n listed a w
 | .run L,n,listed,a,w,hc,dP,hS,h=>wV hs hQ n listed L a w hc dP (λ_=>hS) h
 | .one A i t,n,listed,a,w,hc,dP,hS,h=>by
  refine Ep hs hQ (λn listed a w hk dP hS h=>?_) n listed A a w hc dP hS h;cases n with
  |zero=>cases hk
  |succ n=>
   simp only[Bool.and_eq_true,beq_iff_eq] at hk;obtain⟨h0,h1⟩:=hk;have hr:i∈Region.ready .any ops listed:=by rw[h0];simp
   refine⟨λwW=>(by rw[wW] at h0;cases h0),λj hj=>?_⟩;rw[h0,List.mem_singleton] at hj;subst hj;exact wpOp_mono (λa' w' g=>⟨λ_=>g.1,xA hs hQ t n _ a' w' h1 (mu dP hr) g.1 g.2⟩) h
 | .fork A i t i' t',n,listed,a,w,hc,dP,hS,h=>by
  refine Ep hs hQ (λn listed a w hk dP hS h=>?_) n listed A a w hc dP hS h;cases n with
  |zero=>cases hk
  |succ n=>
   simp only[Bool.and_eq_true,Bool.or_eq_true,beq_iff_eq] at hk;obtain⟨⟨h0,h1⟩,h2⟩:=hk;have hm:∀j,j∈Region.ready .any ops listed↔j=i\/j=i':=λj=>by
    rcases h0 with e|e<;>rw[e]<;>simp[or_comm]
   have hr:i∈Region.ready .any ops listed:=(hm i).2 (.inl rfl);have hr':i'∈Region.ready .any ops listed:=(hm i').2 (.inr rfl);refine⟨λwW=>(by rw[wW] at hr;cases hr),λj hj=>?_⟩;rcases(hm j).1 hj with rfl|rfl
   ·exact wpOp_mono (λa' w' g=>⟨λ_=>g.1,xA hs hQ t n _ a' w' h1 (mu dP hr) g.1 g.2⟩) h.1
   ·exact wpOp_mono (λa' w' g=>⟨λ_=>g.1,xA hs hQ t' n _ a' w' h2 (mu dP hr') g.1 g.2⟩) h.2
 | .G7 A i t i' t' i2 t2,n,listed,a,w,hc,dP,hS,h=>by
  refine Ep hs hQ (λn listed a w hk dP hS h=>?_) n listed A a w hc dP hS h;cases n with
  |zero=>cases hk
  |succ n=>
   simp only[Bool.and_eq_true] at hk;obtain⟨⟨⟨⟨⟨⟨h0,r1⟩,r2⟩,r3⟩,h1⟩,h2⟩,h3⟩:=hk;have hr:i∈Region.ready .any ops listed:=by simpa using r1
   have hr':i'∈Region.ready .any ops listed:=by simpa using r2
   have mF:i2∈Region.ready .any ops listed:=by simpa using r3
   refine⟨λwW=>(by rw[wW] at hr;cases hr),λj hj=>?_⟩;have hj2:=List.all_eq_true.1 h0 j hj;simp only[Bool.or_eq_true] at hj2;rcases hj2 with(e|e)|e<;>have e:=Nat.eq_of_beq_eq_true e<;>subst e
   ·exact wpOp_mono (λa' w' g=>⟨λ_=>g.1,xA hs hQ t n _ a' w' h1 (mu dP hr) g.1 g.2⟩) h.1
   ·exact wpOp_mono (λa' w' g=>⟨λ_=>g.1,xA hs hQ t' n _ a' w' h2 (mu dP hr') g.1 g.2⟩) h.2.1
   ·exact wpOp_mono (λa' w' g=>⟨λ_=>g.1,xA hs hQ t2 n _ a' w' h3 (mu dP mF) g.1 g.2⟩) h.2.2
theorem Mn {K:Act->World->Prop} (h:LetsOut (mE Q K)):LetsOut Q:=h
theorem Er {i:Nat} {a:Act} {w:World} {K X:Act->World->Prop} (h:wpOp P ops (mE Q K) i X a w):wpOp P ops Q i X a w:=by
 unfold wpOp at*;cases ho:ops[i]? with
 |none=>rw[ho] at h;exact h
 |some o=>
  rw[ho] at h;simp only at h⊢;split at h
  ·rename_i hw;rw[if_pos hw];refine h.imp (λh=>?_) (λh=>⟨h.1,Mn h.2⟩);unfold Oper.wp at*;generalize (execOp a.eval o).run P w=r at*;cases r with
   |ok n w'=>
    cases n<;>simp only[Oper.upon] at h⊢<;>first|exact h|exact Calls.mono h (λe w'' he=>by cases e<;>first|exact he|exact Mn he)
   |halt x w'=>cases x<;>simp only[Oper.upon] at h⊢<;>exact h
  ·rename_i hw;rw[if_neg hw];exact h
end
def Es (P:Program) (N:Nat) (Q:Exit->Act->World->Prop) (ops:Array Oper) (S:World->Prop) (t:qC) (env:Env) (w:World):Prop:=∀a,gX N env a->mW P ops S Q t a w
section
variable {P:Program} {N:Nat} {Q:Exit->Act->World->Prop} {ops:Array Oper} {S S':World->Prop} {A:List Nat} {i i' i2:Nat} {t t' t2:qC} {L:List (Nat×Bool)} {env:Env} {w:World}
theorem o_ (h:bM P N Q ops S L env w):Es P N Q ops S (.run L) env w:=h
theorem xB (h:bM P N (mE Q λa w=>wpOp P ops Q i (λa' w'=>S w'/\mW P ops S Q t a' w') a w/\wpOp P ops Q i' (λa' w'=>S w'/\mW P ops S Q t' a' w') a w) ops S (A.map λj=>(j,true)) env w):Es P N Q ops S (.fork A i t i' t') env w:=h
theorem xC (h:bM P N (mE Q λa w=>S w/\mW P ops S Q t a w) ops S [(i,false)] env w) (h':bM P N (mE Q λa w=>S w/\mW P ops S Q t' a w) ops S [(i',false)] env w):
  bM P N (mE Q λa w=>wpOp P ops Q i (λa' w'=>S w'/\mW P ops S Q t a' w') a w/\wpOp P ops Q i' (λa' w'=>S w'/\mW P ops S Q t' a' w') a w) ops S [] env w:=λa ha=>by
 show wpOp P ops Q i (λa' w'=>S w'/\mW P ops S Q t a' w') a w/\wpOp P ops Q i' (λa' w'=>S w'/\mW P ops S Q t' a' w') a w;exact⟨wpOp_mono (λa' w' g=>g.2) (Er (h a ha)),wpOp_mono (λa' w' g=>g.2) (Er (h' a ha))⟩
theorem pg (hS:S w) (h:Es P N Q ops S t env w):bM P N (mE Q λa w=>S w/\mW P ops S Q t a w) ops S' [] env w:=λa ha=>⟨hS,h a ha⟩
variable {f:FuncId} {k:List Item} {R:Value->World->Prop}
theorem xD {c:Code} {id:Nat} (I:List Nat) (C:Nat->Nat) (dc:Nat) (t:qC) (hm:P.follows .mixedOrders=true) (hc:c=.region id ops true)
  (hn:Region.noSelect ops=true) (hk:vE ops dc t ops.size (Array.replicate ops.size false)=true)
  (h:∀w₁,ay [] w C w₁ C->Es P N (pT P f k R) ops (λw'=>Ext (λb=>C b∈I) w₁ w') t env w₁):Run P f N (.code c::k) env w R:=λa ha=>by
 subst hc;exact wS (wp_region_any hm (wU _ _ _ _ (xA hn (λc a d v w h=>h.elim) t _ _ a _ hk (Bn ops) (Ext.refl _ _) (h _ (ay.drew [] w C) a ha))))
end
def xE (ops:Array Oper) (dc:Nat) (kO:List (Nat×Bool)):Nat->Array Bool->List (Nat×Bool)->Bool
 |0,_,[]=>false
 |n+1,listed,[]=>(Region.ready .any ops listed==[dc])&&(listed.setIfInBounds dc true).getD dc false&&rD ops (DV ops.size kO) n (listed.setIfInBounds dc true) kO
 |0,_,_::_=>false
 |n+1,listed,(i,true)::L=>!Nat.beq i dc&&needs ops 8 dc i&&Region.free .any ops listed i&&(Region.ready .any ops listed).contains i&&xE ops dc kO n (listed.setIfInBounds i true) L
 |n+1,listed,(i,false)::L=>(Region.ready .any ops listed==[i])&&!Nat.beq i dc&&xE ops dc kO n (listed.setIfInBounds i true) L
section
variable {P:Program} {ops:Array Oper} {S:World->Prop} {Q:Exit->Act->World->Prop}
theorem Mp {dc:Nat}:∀(fuel:Nat) (listed:Array Bool) (a:Act) (w:World),listed.getD dc false=true->wpAny P .any ops Q fuel listed a w->oO P ops Q S dc fuel listed a w
 |0,listed,a,w,_,h=>h
 |fuel+1,listed,a,w,hj,h=>⟨h.1,λi hi=>wpOp_mono (λa' w' h'=>⟨λe=>(by rw[getD_set_true hj] at e;cases e),Mp fuel _ a' w' (getD_set_true hj) h'⟩) (h.2 i hi)⟩
theorem G8 (hs:Region.noSelect ops=true) (hQ:∀c a d v w,Q (.panic c) (Act.put a d v) w->Q (.panic c) a w) {dc:Nat} {kO:List (Nat×Bool)}:
  ∀(n:Nat) (listed:Array Bool) (L:List (Nat×Bool)) (a:Act) (w:World),xE ops dc kO n listed L=true->mS ops listed->S w->
   jc P ops S (mE Q λa w=>S w/\wpOp P ops Q dc (λa' w'=>jc P ops (λ_=>True) Q kO a' w') a w) L a w->oO P ops Q S dc n listed a w
 |0,_,[],a,w,hc,_,_,_=>by cases hc
 |0,_,_::_,a,w,hc,_,_,_=>by cases hc
 |n+1,listed,[],a,w,hc,dP,hS,h=>by
  simp only[xE,Bool.and_eq_true,beq_iff_eq] at hc;obtain⟨⟨h1,h2⟩,h3⟩:=hc;have h:S w/\wpOp P ops Q dc (λa' w'=>jc P ops (λ_=>True) Q kO a' w') a w:=h;have hr:dc∈Region.ready .any ops listed:=by rw[h1];simp
  refine⟨λh0=>(by rw[h0] at h1;cases h1),λj hj=>?_⟩;rw[h1,List.mem_singleton] at hj;subst hj;exact wpOp_mono (λa' w' h'=>⟨λe=>(by rw[h2] at e;cases e),Mp n _ a' w' h2 (wU _ _ _ _ (wV hs hQ n _ kO a' w' h3 (mu dP hr) (λ_=>trivial) h'))⟩) h.2
 |n+1,listed,(i,true)::L,a,w,hc,dP,hS,h=>by
  simp only[xE,Bool.and_eq_true] at hc;obtain⟨⟨⟨⟨h1,h2⟩,h3⟩,h4⟩,h5⟩:=hc;obtain⟨o,v,hi,hy,h⟩:=h;have hr:i∈Region.ready .any ops listed:=by simpa using h4
  exact Bl hi (Region.noSelect_spec hs) (λc a w hq=>hQ c a _ _ w hq) (λe=>by subst e;simp at h1) (DX (by rw[h2,Bool.or_true])) n listed a w dP (Region.free_spec hi h3) hr hy hS (G8 hs hQ n _ L _ w h5 (mu dP hr) hS h)
 |n+1,listed,(i,false)::L,a,w,hc,dP,hS,h=>by
  simp only[xE,Bool.and_eq_true,beq_iff_eq] at hc;obtain⟨⟨h1,h2⟩,h3⟩:=hc;have hr:i∈Region.ready .any ops listed:=by rw[h1];simp
  have h:=Er (h:wpOp P ops (mE Q λa w=>S w/\wpOp P ops Q dc (λa' w'=>jc P ops (λ_=>True) Q kO a' w') a w) i (λa' w'=>(zh L=true->S w')/\jc P ops S (mE Q λa w=>S w/\wpOp P ops Q dc (λa' w'=>jc P ops (λ_=>True) Q kO a' w') a w) L a' w') a w);refine⟨λh0=>(by rw[h0] at h1;cases h1),λj hj=>?_⟩;rw[h1,List.mem_singleton] at hj;subst hj;refine wpOp_mono (λa' w' h'=>?_) h;have Mq:S w':=by
   cases L with
   |nil=>have:S w'/\wpOp P ops Q dc (λa' w'=>jc P ops (λ_=>True) Q kO a' w') a' w':=h'.2;exact this.1
   |cons x L=>exact h'.1 rfl
  exact⟨λ_=>Mq,G8 hs hQ n _ L a' w' h3 (mu dP hr) Mq h'.2⟩
end
section
variable {P:Program} {N:Nat} {Q:Exit->Act->World->Prop} {ops:Array Oper} {S S':World->Prop} {dc:Nat} {kO:List (Nat×Bool)} {env:Env} {w:World}
theorem U_ (hS:S w) (h:bM P N (mE Q λa w=>jc P ops (λ_=>True) Q kO a w) ops (λ_=>True) [(dc,false)] env w):
  bM P N (mE Q λa w=>S w/\wpOp P ops Q dc (λa' w'=>jc P ops (λ_=>True) Q kO a' w') a w) ops S [] env w:=λa ha=>by
 show S w/\wpOp P ops Q dc (λa' w'=>jc P ops (λ_=>True) Q kO a' w') a w;exact⟨hS,wpOp_mono (λa' w' g=>g.2) (Er (h a ha))⟩
theorem Va (h:bM P N Q ops (λ_=>True) kO env w):bM P N (mE Q λa w=>jc P ops (λ_=>True) Q kO a w) ops (λ_=>True) [] env w:=λa ha=>h a ha
variable {f:FuncId} {k:List Item} {R:Value->World->Prop}
theorem Vb {c:Code} {id:Nat} (I:List Nat) (C:Nat->Nat) (dc:Nat) (L kO:List (Nat×Bool)) (hm:P.follows .mixedOrders=true) (hc:c=.region id ops true)
  (hn:Region.noSelect ops=true) (hk:xE ops dc kO ops.size (Array.replicate ops.size false) L=true)
  (h:∀w₁,ay [] w C w₁ C->bM P N (mE (pT P f k R) λa w=>Ext (λb=>C b∈I) w₁ w/\wpOp P ops (pT P f k R) dc (λa' w'=>jc P ops (λ_=>True) (pT P f k R) kO a' w') a w) ops (λw'=>Ext (λb=>C b∈I) w₁ w') L env w₁):Run P f N (.code c::k) env w R:=λa ha=>by
 subst hc;exact wS (wp_region_any hm (wU _ _ _ _ (G8 hn (λc a d v w h=>h.elim) _ _ L a _ hk (Bn ops) (Ext.refl _ _) (h _ (ay.drew [] w C) a ha))))
end
structure Mr where
 pr:Int
 bL:List Int
 df:List Int
instance:bu Mr:=bu.via (λx:Mr=>(x.pr,(x.bL,x.df)))
section
variable {P:Program} {N:Nat} {env:Env} {y z:Operand} {t e:TypeId} {b o o' n len:Nat} {k:IntKind} {i:Int} {w:World} {v:Value} {M:Nat->Prop}
theorem G9 {cs:List Value} (hu:P.underlying t=some (.array len e)) (hn:gR P e=some 1) (ha:iF P e=some false) (hy:ev env y=some (.agg cs.toArray)) (hz:ev env z=some (.int k i))
  (h0:0<=i) (h1:i<len) (hv:cs[i.toNat]?=some v):cL P N env (.index t y z) w v:=mk' λρ hρ fe ho=>by
 unfold execOp;rw[ho];simp[hρ _ _ hy,hρ _ _ hz,go_sem,Instr.index,asIntOf,run_underlying hu,kF hn,h0,h1,part,qx ha,hv]
theorem Ms {parts:Array (Nat×Operand)} {zs cs:List Value} {en:List (Nat×List Value)} (hu:P.underlying t=some (.array len e)) (hn:gR P e=some n) (hz:sJ P t=some zs)
  (hq:rK env parts.toList en) (hf:tI (λi=>some (i*n,n)) zs en=some cs):cL P N env (.build t parts) w (.agg cs.toArray):=mk' λρ hρ o ho=>by
 obtain⟨z,h1,h2⟩:=Br hz w;have hmap:=rK.map hρ hq;have lI:=fill_eq (λi=>some (i*n,n)) (parts.toList.map λp=>(p.1,ρ p.2)) en zs cs (by rw[<-hmap]) hf;have Gm:Instr.fill (λi=>some (i*n,n)) z.cells (parts.map λx=>(x.1,ρ x.2)).toList=some cs.toArray:=by
  rw[h2];have: (parts.map λx=>(x.1,ρ x.2)).toList=parts.toList.map λp=>(p.1,ρ p.2):=by simp
  rw[this,<-lI]
 unfold execOp;rw[ho];simp only[Instr.build,Sem.run_bind,h1,Result.andThen_ok,run_underlying hu,kF hn];rw[show(parts.map λx=>match x with|(i,x)=>(i,ρ x)).toList=(parts.map λx=>(x.1,ρ x.2)).toList from rfl,Gm];rfl
end
def rO (x:Int):Prop:=-65536<=x/\x<=65536
instance (x:Int):Decidable (rO x):=by unfold rO;infer_instance
structure lQ (pr:Int) (bL df:List Int):Prop where
 l1:1<=bL.length
 tQ:bL.length<=5
 ld:df.length=bL.length
 fp:rO pr
 fa:∀i (h:i<bL.length),rO bL[i]
 fd:∀i (h:i<df.length),rO df[i]
def sQ (p i:Nat):Nat:=p/3^i%3
def rP (p n:Nat):List Nat:=(List.range n).map (sQ p)
theorem Mt (p i:Nat):sQ p i<3:=Nat.mod_lt _ (by decide)
theorem G_ (p n:Nat): (rP p n).length=n:=by simp[rP]
theorem Vc {p n i:Nat} (h:i<(rP p n).length): (rP p n)[i]=sQ p i:=by simp[rP]
theorem Vd (p n:Nat):rP p (n+1)=rP p n++[sQ p n]:=by simp[rP,List.range_succ]
def Mu (bL df:List Int) (f:Nat):List Int:=[0,df.getD f 0,bL.getD f 0]
def BU (bL df:List Int) (p f:Nat):Int:=(Mu bL df f).getD (sQ p f) 0
def qe (pr:Int) (bL df:List Int) (p:Nat):Nat->Int
 |0=>pr
 |k+1=>qe pr bL df p k+BU bL df p k
theorem lQ.a {pr:Int} {bL df:List Int} (h:lQ pr bL df) {i:Nat} (hi:i<bL.length):-65536<=bL.getD i 0/\bL.getD i 0<=65536:=by rw[rN hi];exact h.fa i hi
theorem lQ.d {pr:Int} {bL df:List Int} (h:lQ pr bL df) {i:Nat} (hi:i<bL.length):-65536<=df.getD i 0/\df.getD i 0<=65536:=by rw[rN (by rw[h.ld];exact hi)];exact h.fd i (by rw[h.ld];exact hi)
theorem lQ.Mv {pr:Int} {bL df:List Int} (h:lQ pr bL df) {i:Nat} (hi:i<bL.length) (p:Nat):-65536<=BU bL df p i/\BU bL df p i<=65536:=by
 have h1:=h.a hi;have h2:=h.d hi;have h3:=Mt p i;unfold BU Mu
 match e:sQ p i,h3 with
 |0,_=>simp
 |1,_=>simpa using h2
 |2,_=>simpa using h1
theorem lQ.Mw {pr:Int} {bL df:List Int} (h:lQ pr bL df) (p:Nat):∀k,k<=bL.length->-65536*((k:Int)+1)<=qe pr bL df p k/\qe pr bL df p k<=65536*((k:Int)+1)
 |0,_=>by have:=h.fp;unfold rO at this;unfold qe;constructor<;>omega
 |k+1,hk=>by
  have h1:=h.Mw p k (by omega);have h2:=h.Mv (i:=k) (by omega) p;unfold qe;constructor<;>omega
theorem lQ.sc {pr:Int} {bL df:List Int} (h:lQ pr bL df) (p:Nat) {k:Nat} (hk:k<=bL.length):-393216<=qe pr bL df p k/\qe pr bL df p k<=393216:=by
 have:=h.Mw p k hk;have:=h.tQ;omega
theorem Mx {n:Nat} (h:n<=5):3^n<=243:=Nat.le_trans (Nat.pow_le_pow_right (by decide) h) (by decide)
theorem He {n:Nat} (h:n<=5): ([.int .i64 1,.int .i64 3,.int .i64 9,.int .i64 27,.int .i64 81,.int .i64 243]:List Value)[((n:Nat):Int).toNat]?=some (.int .i64 ((3^n:Nat):Int)):=by
 rw[Int.toNat_natCast]
 match n,h with
 |0,_=>rfl
 |1,_=>rfl
 |2,_=>rfl
 |3,_=>rfl
 |4,_=>rfl
 |5,_=>rfl
section
variable {P:Program} {f:FuncId} {N:Nat} {k:List Item} {env:Env} {w:World} {R:Value->World->Prop}
end
structure BV (lo hi:Int):Prop where
 h1:1<=hi
 h2:hi<=65536
 l1:-65536<=lo
 l2:lo<=hi
structure rQ (n:Nat) (bL df:List Int):Prop where
 la:bL.length=n
 ld:df.length=n
 ba:∀x∈bL,-3<=x/\x<=60
 bd:∀x∈df,-60<=x/\x<=3
theorem rQ.nil:rQ 0 [] []:=⟨rfl,rfl,by simp,by simp⟩
theorem rQ.snoc {n:Nat} {bL df:List Int} {p q:Int} (h:rQ n bL df) (h1:-3<=p) (h2:p<=60) (h3:-60<=q) (h4:q<=3):rQ (n+1) (bL++[p]) (df++[q]):=
 ⟨by simp[h.la],by simp[h.ld],λx hx=>by
  rcases List.mem_append.1 hx with hx|hx
  ·exact h.ba x hx
  ·rw[List.mem_singleton.1 hx];exact⟨h1,h2⟩,λx hx=>by
  rcases List.mem_append.1 hx with hx|hx
  ·exact h.bd x hx
  ·rw[List.mem_singleton.1 hx];exact⟨h3,h4⟩⟩
theorem rQ.ok {n:Nat} {pr:Int} {bL df:List Int} (h:rQ n bL df) (h1:1<=n) (h5:n<=5) (h2:-40<=pr) (h3:pr<=10):lQ pr bL df:=
 ⟨by rw[h.la];exact h1,by rw[h.la];exact h5,by rw[h.la,h.ld],by unfold rO;omega,λi hi=>by have:=h.ba _ (List.getElem_mem hi);unfold rO;omega,λi hi=>by have:=h.bd _ (List.getElem_mem hi);unfold rO;omega⟩
theorem zL {α:Type} {l:List α} {i:Nat} {d:α} (h:i<l.length):l.getD i d=l[i]:=by rw[List.getD_eq_getElem?_getD,List.getElem?_eq_getElem h];rfl
theorem uU.Ve {k:IntKind} {a b:uU k} (h:a.n=b.n):a=b:=by cases a;cases b;simp only at h;subst h;rfl
instance {k:IntKind}:DecidableEq (uU k):=λa b=>decidable_of_iff (a.n=b.n) ⟨uU.Ve,λh=>by rw[h]⟩
instance {k:IntKind}:Inhabited (uU k):=⟨⟨0⟩⟩
structure Bits where
 len:Int
 words:List jk
 deriving DecidableEq
instance:bu Bits:=bu.via (λx:Bits=>(x.len,x.words))
instance:Inhabited Bits:=⟨⟨0,[]⟩⟩
structure Hf where
 arr:Bits
 mem:List Int
instance:bu Hf:=bu.via (λx:Hf=>(x.arr,x.mem))
instance:Inhabited Hf:=⟨⟨⟨0,[]⟩,[]⟩⟩
structure Hg where
 val:ByteArray
 cnt:Int
instance:bu Hg:=bu.via (λx:Hg=>(x.val,x.cnt))
structure My where
 Vg:Int
 val:ByteArray
instance:bu My:=bu.via (λx:My=>(x.Vg,x.val))
section
variable {w:World} {M:Nat->Prop} {b o:Nat} {v u:Value}
theorem Et {x:Bits}:aB w M x v↔∃u,v=.agg #[.int .i64 x.len,u]/\aB w M x.words u:=by
 constructor
 ·rintro⟨vs,⟨us,ws,rfl,h1,h2⟩,hv⟩;have hl:=bu.len h2;obtain⟨u,rfl⟩:=List.length_eq_one_iff.1 hl;have sK:us=[.int .i64 x.len]:=h1;subst sK;exact⟨u,hv,zk h2 rfl⟩
 ·rintro⟨u,rfl,h⟩;exact⟨[.int .i64 x.len,u],⟨[.int .i64 x.len],[u],rfl,rfl,h.Bp rfl⟩,rfl⟩
end
def tR (n:Int):Bool:=decide (64<=n)&&decide (n<=512)&&decide (n%64=0)
def ki (b:Bits):Bool:=tR b.len&&decide ((b.words.length:Int)=b.len/64)
theorem Mz {n:Int}:tR n=true↔64<=n/\n<=512/\n%64=0:=by unfold tR;simp[and_assoc]
theorem xF {b:Bits}:ki b=true↔(64<=b.len/\b.len<=512/\b.len%64=0)/\(b.words.length:Int)=b.len/64:=by unfold ki;rw[Bool.and_eq_true,Mz];simp
section
variable {cl:List Bits} {k n:Nat}
def Hh (cl:List Bits) (i:Nat):Bits:=cl.getD i default
def MA (cl:List Bits) (k:Nat):List Nat:=(List.range k).filter λi=>ki (Hh cl i)
abbrev MB (cl:List Bits) (k:Nat):List Nat:=dO (Hh cl) (MA cl k)
abbrev Vh (cl:List Bits) (k:Nat):List (List Nat):=gJ (Hh cl) (MA cl k)
end
def Vi (l:List Int) (i:Nat):Int:=l.getD i 0
section
variable {sz:List Int} {es:List Hg} {u:List (Int×ByteArray)} {i j k:Nat}
end
section
variable {cl:List Bits} {n g g2 i j K:Nat} {Eu:List Int}
abbrev MC (cl:List Bits) (n g:Nat):List Nat:=(Vh cl n).getD g []
structure Vj (cl:List Bits) (n K j:Nat) (Eu:List Int):Prop where
 len:Eu.length=n
 aa_:∀i,i<n->∀g:Nat,Vi Eu i=g↔g<(MB cl n).length/\(g<K/\i∈MC cl n g\/g=K/\i∈(MC cl n g).take j)
section
variable (h:Vj cl n (MB cl n).length 0 Eu)
include h
end
end
section
variable {α:Type} [bu α] {w w':World} {C aW D D':Nat->Nat} {I:List Nat} {e:TypeId} {v:Value} {ys:List α} {x:α} {j j1 i b:Nat} {t:TypeId}
theorem bh.nK (h:bh w' aW j1 e v ys) (hs:ay I w D w' aW) (hF:aL w C) (hD:aA D=aA C) (hj:∀b,b<w.heap.size->D b≠j1) (h1:j1≠0) (j:Nat) (hjj:j≠0):
  ∃aQ,(∀b,b<w.heap.size->aQ b=C b)/\aL w' aQ/\(∀b,aA aQ b->aA aW b)/\bh w' aQ j e v ys:=by
 have old:∀b,aA C b->aA aW b:=λb hb=>by
  have hlt:=hF b hb;unfold aA;rw[hs.col b hlt];have:aA D b:=by rw[hD];exact hb
  exact this
 have fresh:∀b,di v b->¬b<w.heap.size:=λb hb hlt=>hj b hlt (by rw[<-hs.col b hlt];exact h.col b hb);refine⟨gV C v j,λb hb=>?_,λb hb=>?_,λb hb=>?_,⟨h.own.sub (λb _ hb=>?_) (λb hb=>?_),λb hb=>?_⟩⟩
 ·unfold gV;rw[if_neg (show¬v.ownBlock=some b from λe=>fresh b e hb)]
 ·by_cases ho:di v b
  ·exact(h.own.gj b ho).2
  ·unfold gV at hb;rw[if_neg (show¬v.ownBlock=some b from ho)] at hb;exact Nat.lt_of_lt_of_le (hF b hb) hs.size
 ·by_cases ho:di v b
  ·unfold aA;rw[h.col b ho];exact h1
  ·unfold aA gV at hb;rw[if_neg (show¬v.ownBlock=some b from ho)] at hb;exact old b hb
 ·by_cases ho:di v b
  ·unfold aA;rw[h.col b ho];exact h1
  ·unfold aA gV at hb;rw[if_neg (show¬v.ownBlock=some b from ho)] at hb;exact old b hb
 ·unfold aA gV;rw[if_pos (show v.ownBlock=some b from hb)];exact hjj
 ·unfold gV;rw[if_pos (show v.ownBlock=some b from hb)]
theorem ay.nK {aQ:Nat->Nat} (h:ay I w C w' D') (hc:∀b,b<w.heap.size->aQ b=C b):ay I w C w' aQ:=⟨h.ext,hc⟩
theorem aB.nK {aQ:Nat->Nat} (h:aB w' (aA aW) x v) (gU:∀b,aA aQ b->aA aW b):aB w' (aA aQ) x v:=h.sub (λb _ hb=>gU b hb)
end
section
variable {α:Type} [bu α] {P:Program} {N:Nat} {env:Env} {w:World} {M:Nat->Prop} {t e e':TypeId} {v s:Value} {x y z q:Operand} {xs ys zs:List α}
theorem MD {zs:List α} {sb so:Nat} {pY:Array Value} {Bt:TypeId} {Bu:Nat×Nat} (hsc:w.heap[sb]?=some (.cells pY Bt Bu)) (hsl:so+zs.length*sz α<=pY.size)
  (Bv:∀k (hk:k<zs.length),rep w.heap M zs[k] (dB pY (so+k*sz α) (sz α))):
  ∃news:List Value,news.length=zs.length*sz α/\(∀j v,news[j]?=some v->w.cell? ((⟨sb,so,none⟩:Addr).add j)=some v)/\∀k (hk:k<zs.length),rep w.heap M zs[k] (dB news.toArray (k*sz α) (sz α)):=by
 obtain⟨news,Bw⟩:∃news,news=dB pY so (zs.length*sz α):=⟨_,rfl⟩
 have hnl:news.length=zs.length*sz α:=by
  rw[Bw];simp only[dB,List.length_take,List.length_drop,Array.length_toList];omega
 have mA:∀j,j<zs.length*sz α->news[j]?=pY[so+j]?:=λj hj=>by
  rw[Bw];simp only[dB,List.getElem?_take,if_pos hj,List.getElem?_drop];simp
 refine⟨news,hnl,λj v hv=>?_,λk hk=>?_⟩
 ·have hj:j<zs.length*sz α:=by rw[<-hnl];exact(List.getElem?_eq_some_iff.1 hv).1
  rw[oP,cell_of_row w sb (so+j) pY Bt Bu hsc,<-mA j hj,hv]
 ·have:=Bv k hk;rwa [show dB pY (so+k*sz α) (sz α)=dB news.toArray (k*sz α) (sz α) from qy (λj hj=>by
   have hb:k*sz α+j<zs.length*sz α:=by
    have:=Nat.mul_le_mul_right (sz α) (show k+1<=zs.length from hk);rw[Nat.succ_mul] at this;omega
   rw[show∀m,news.toArray[m]?=news[m]? from λm=>by simp,mA _ hb,Nat.add_assoc])] at this
theorem Vk {bytes:Nat} {a:Option Addr} (hx:ev env x=some (.slice a ys.length ys.length)) (hy:ev env y=some s) (hrow:oU P t e (sz α) bytes=true) (hsz:0<sz α)
  (hown:aB w M ys (.slice a ys.length ys.length)) (hsrc:aB w M zs s) (zM:zs≠[]) (hlen: (ys.length+zs.length)*bytes<=140737488355328) (h63:ys.length+zs.length<=140737488355328):
  gY P N env (.call {callee:=.builtin .append,args:=#[x,y],argTypes:=#[t,t]}) w (λv' w'=>
   jG w' (λb=>di v' b\/M b) e v' (ys++zs)/\Ext (λ_=>False) w w'/\(∀b,di v' b->w.heap.size<=b)):=oT λρ hρ fe gG=>by
 obtain⟨i,z,hu,hi,pV,hby,hz,hzs⟩:=uW hrow;obtain⟨a2,c,rfl,hcap,hl0,D1⟩:=jx.1 hsrc;have key:∃v' w',(Builtin.append_ #[t,t] fe.type #[.slice a ys.length ys.length,.slice a2 zs.length c]).run P w=.ok v' w'/\
   jG w' (λb=>di v' b\/M b) e v' (ys++zs)/\Ext (λ_=>False) w w'/\(∀b,di v' b->w.heap.size<=b):=by
  rcases D1 with h|⟨sb,so,rfl,D2,pY,Bt,Bu,hsc,hsl,Bv⟩
  ·exact absurd h zM
  ·have hm0:0<zs.length:=List.length_pos_iff.2 zM;obtain⟨news,hnl,hnews,Bx⟩:=MD (w:=w) (M:=M) hsc hsl Bv;have uX:news.length=zs.length*i.size:=by rw[hnl,pV]
   have fresh:∀(olds:List Value) (cap:Nat) (o:Obj),olds.length=ys.length*sz α->(∀k (hk:k<ys.length),rep w.heap M ys[k] (dB olds.toArray (k*sz α) (sz α)))->
     o=.cells (olds.toArray++news.toArray++Builtin.zeroCells z.cells (cap-(ys.length+zs.length))) e (0,0)->ys.length+zs.length<=cap->
     jG (w.drew.alloc o) (λb=>di (.slice (some ⟨w.heap.size,0,none⟩) (ys.length+zs.length) cap) b\/M b) e (.slice (some ⟨w.heap.size,0,none⟩) (ys.length+zs.length) cap) (ys++zs):=by
    intro olds cap o holds xe ho Gh;subst ho;have hnew:=uV w (.cells (olds.toArray++news.toArray++Builtin.zeroCells z.cells (cap-(ys.length+zs.length))) e (0,0));refine .inr ⟨w.heap.size,cap,_,by rw[List.length_append],.inl rfl,hnew.at_,by rw[List.length_append];exact Gh,?_,?_⟩
    ·simp only[Array.size_append,List.size_toArray,size_zeroCells,hzs,holds,hnl,<-Nat.add_mul];congr 1;omega
    ·intro k hk;rw[List.length_append] at hk;have hkeep:∀(x:α) (vs:List Value),rep w.heap M x vs->rep (w.drew.alloc (.cells (olds.toArray++news.toArray++Builtin.zeroCells z.cells (cap-(ys.length+zs.length))) e (0,0))).heap
       (λb=>di (.slice (some ⟨w.heap.size,0,none⟩) (ys.length+zs.length) cap) b\/M b) x vs:=λx vs hr=>
      bu.keep (bu.sub hr (λb hb h=>h.elim (λe=>by simp only[di,Value.ownBlock,Option.some.injEq] at e;omega) id)) (λb hb _=>hnew.ext.block b hb (λh=>h))
     by_cases rI:k<ys.length
     ·rw[List.getElem_append_left rI];have:=xe k rI;rw[show dB olds.toArray (k*sz α) (sz α)=dB (olds.toArray++news.toArray++Builtin.zeroCells z.cells (cap-(ys.length+zs.length))) (k*sz α) (sz α) from qy (λj hj=>by
       have hb:k*sz α+j<ys.length*sz α:=by
        have:=Nat.mul_le_mul_right (sz α) (show k+1<=ys.length from rI);rw[Nat.succ_mul] at this;omega
       rw[Array.append_assoc,Array.getElem?_append_left (by simpa[holds] using hb)])] at this
      exact hkeep _ _ this
     ·rw[List.getElem_append_right (by omega)];have uY:k-ys.length<zs.length:=by omega
      have:=Bx (k-ys.length) uY;rw[show dB news.toArray ((k-ys.length)*sz α) (sz α)=dB (olds.toArray++news.toArray++Builtin.zeroCells z.cells (cap-(ys.length+zs.length))) (k*sz α) (sz α) from qy (λj hj=>by
       have hb: (k-ys.length)*sz α+j<zs.length*sz α:=by
        have:=Nat.mul_le_mul_right (sz α) (show k-ys.length+1<=zs.length from uY);rw[Nat.succ_mul] at this;omega
       have he:k*sz α=ys.length*sz α+(k-ys.length)*sz α:=by rw[<-Nat.add_mul];congr 1;omega
       rw[Array.getElem?_append_left (by simp only[Array.size_append,List.size_toArray,holds,hnl];omega),Array.getElem?_append_right (by simp only[List.size_toArray,holds];omega)];congr 1;simp only[List.size_toArray,holds];omega)] at this
      exact hkeep _ _ this
   by_cases hys:ys=[]
   ·subst hys;rcases a with _|ab
    case' some=>
     have hr:=run_append_grow (P:=P) w t fe.type e i z hu hi hz ab 0 0 [] (by simp) (λj v hv=>by simp at hv) ⟨sb,so,none⟩ zs.length c news uX hnews (by omega) (by omega)
      (growslice_fits (by omega) (by rw[hby];exact hlen))
     have hfr:=fresh [] (grownCap w (0+zs.length) 0 e) _ (by simp) (λk hk=>by simp at hk) rfl (grownCap_ge w _ _ e);refine⟨_,_,hr,hfr,?_,?_⟩
     ·exact(uV w _).ext.mono (λb hb h=>h.elim)
     ·intro b hb;simp only[di,Value.ownBlock,Option.some.injEq] at hb;omega
    have hr:=run_append_nil (P:=P) w t fe.type e i z hu hi hz ⟨sb,so,none⟩ zs.length c news uX hnews hm0 (by omega)
     (by rw[hby];simp only[List.length_nil,Nat.zero_add] at hlen;omega)
    have hfr:=fresh [] (grownCap w zs.length 0 e) _ (by simp) (λk hk=>by simp at hk) rfl (by simpa using grownCap_ge w zs.length 0 e);simp only[List.length_nil,Nat.zero_add,List.nil_append] at hfr;refine⟨_,_,hr,?_,?_,?_⟩
    ·simpa using hfr
    ·exact(uV w _).ext.mono (λb hb h=>h.elim)
    ·intro b hb;simp only[di,Value.ownBlock,Option.some.injEq] at hb;omega
   ·obtain⟨a3,c3,Vl,_,_,Vm⟩:=jx.1 hown;injection Vl with h1 h2 h3;subst h1;rcases Vm with h|⟨gj,Vn,ME,zP,abb,abd,abe,Vo,xG,Vp⟩
    ·exact absurd h hys
    ·subst ME;obtain⟨olds,j0,holds,xe⟩:=MD (w:=w) (M:=M) Vo xG Vp;have hr:=run_append_grow (P:=P) w t fe.type e i z hu hi hz ⟨gj,Vn,none⟩ ys.length ys.length olds (by rw[pV];exact j0) holds ⟨sb,so,none⟩ zs.length c news uX hnews (by omega) (by omega)
      (growslice_fits (by omega) (by rw[hby];exact hlen))
     have hfr:=fresh _ (grownCap w (ys.length+zs.length) ys.length e) _ j0 xe rfl (grownCap_ge w _ _ e);refine⟨_,_,hr,hfr,?_,?_⟩
     ·exact(uV w _).ext.mono (λb hb h=>h.elim)
     ·intro b hb;simp only[di,Value.ownBlock,Option.some.injEq] at hb;omega
 obtain⟨v',w',hrun,hpost⟩:=key;refine⟨v',w',.inl ?_,hpost⟩;unfold execOp;rw[gG];simp[hρ _ _ hx,hρ _ _ hy,resolve,invoke,builtin,hrun]
end
section
variable {α:Type} [bu α] {P:Program} {N:Nat} {env:Env} {w w':World} {C aQ:Nat->Nat} {I:List Nat} {t e e':TypeId} {v s:Value} {y z:Operand} {xs ys zs:List α} {j b n ty:Nat} {gj abf:Obj}
theorem BW {bytes:Nat} {a:Option Addr} (hF:aL w C) (hj:j≠0) (hx:ev env y=some (.slice a ys.length ys.length)) (hy:ev env z=some s) (hrow:oU P t e (sz α) bytes=true) (hsz:0<sz α)
  (hown:aB w (aA C) ys (.slice a ys.length ys.length)) (hsrc:aB w (aA C) zs s) (zM:zs≠[]) (hlen: (ys.length+zs.length)*bytes<=140737488355328) (h63:ys.length+zs.length<=140737488355328):
  gY P N env (.call {callee:=.builtin .append,args:=#[y,z],argTypes:=#[t,t]}) w (λv' w'=>∃aQ,ay [] w C w' aQ/\bh w' aQ j e v' (ys++zs)/\aL w' aQ):=λa' iU fe gG=>by
 obtain⟨v',w',h1,h2,h3,h4⟩:=Vk (P:=P) (N:=N) hx hy hrow hsz hown hsrc zM hlen h63 a' iU fe gG;have nC:∀b,b<w.heap.size->gV C v' j b=C b:=λb hb=>by
  unfold gV;split
  ·rename_i e;have:=h4 b e;omega
  ·rfl
 refine⟨v',w',h1,gV C v' j,⟨h3.mono (λb _ hb=>hb.elim),nC⟩,⟨h2.sub (λb hb hc=>?_) (λb hb=>?_),λb hb=>?_⟩,λb hb=>?_⟩
 ·by_cases ho:di v' b
  ·exact .inl ho
  ·right;unfold aA gV at hc;rw[if_neg (show¬v'.ownBlock=some b from ho)] at hc;exact hc
 ·unfold aA gV;rw[if_pos (show v'.ownBlock=some b from hb)];exact hj
 ·unfold gV;rw[if_pos (show v'.ownBlock=some b from hb)]
 ·by_cases ho:di v' b
  ·exact(h2.gj b ho).2
  ·unfold gV at hb;rw[if_neg (show¬v'.ownBlock=some b from ho)] at hb;exact Nat.lt_of_lt_of_le (hF b hb) h3.size
end
end Go.K
namespace Go.K
open bu
section
variable {α:Type} [bu α] {w:World} {C:Nat->Nat} {P:Program} {f:FuncId} {N:Nat} {k:List Item} {R:Value->World->Prop} {Q:Exit->Act->World->Prop} {env:Env} {ops:Array Oper} {S:World->Prop} {i t:Nat} {L:List (Nat×Bool)} {v:Value} {y z q:Operand} {gO:Option (Nat×Bool)} {ty e e':TypeId} {xs:List α} {kd BX:IntKind}
end
structure MF where
 ln:Int
 MG:Value
 mv:Value
instance:Inhabited MF:=⟨⟨0,.slice none 0 0,.slice none 0 0⟩⟩
instance:bu MF where
 sz:=3
 agg:=true
 flat h:=by cases h
 rep _ _ x vs:=vs=[.int .i64 x.ln,x.MG,x.mv]/\x.MG.oneCell'=true/\x.mv.oneCell'=true
 len h:=by obtain⟨rfl,_⟩:=h;rfl
 one h:=by
  obtain⟨rfl,h1,h2⟩:=h;intro v hv;simp only[List.mem_cons,List.not_mem_nil,or_false] at hv;rcases hv with rfl|rfl|rfl
  ·rfl
  ·exact h1
  ·exact h2
 keep h _:=h
 sub h _:=h
section
variable {cl:List Bits} {k g i0 n:Nat} {wf mf:Nat->Value} {w:World} {M:Nat->Prop} {C:Nat->Nat} {j:Nat} {e:TypeId} {v u m:Value}
end
end Go.K
namespace Go.K
open bu
section
variable {P:Program} {N:Nat} {env:Env} {w:World} {x:Operand} {t u e:TypeId} {b:Addr} {l c:Nat}
end
end Go.K
namespace Go.K
open bu
section
variable {P:Program} {N:Nat} {env:Env} {w:World} {C:Nat->Nat} {t e:TypeId}
end
end Go.K
namespace Go.K
end Go.K
namespace Go.K
section
variable {P:Program} {N:Nat} {env:Env} {w:World} {x y:Operand} {t u:TypeId} {a b:ByteArray}
end
end Go.K
namespace Go.K
open bu
def jI (a b:jk):jk:=⟨bitsOf .and .u64 a.n b.n⟩
def pn (a b:Bits):Bits:=⟨a.len,List.zipWith jI a.words b.words⟩
def sR (x:Int):Int:=
 let x1:=IntKind.u64.wrap (bitsOf .and .u64 (x.fdiv (2^min (1:Int).toNat IntKind.u64.bits)) 6148914691236517205+bitsOf .and .u64 x 6148914691236517205)
 let vG:=IntKind.u64.wrap (bitsOf .and .u64 (x1.fdiv (2^min (2:Int).toNat IntKind.u64.bits)) 3689348814741910323+bitsOf .and .u64 x1 3689348814741910323)
 let BZ:=bitsOf .and .u64 (IntKind.u64.wrap (vG.fdiv (2^min (4:Int).toNat IntKind.u64.bits)+vG)) 1085102592571150095
 let B0:=IntKind.u64.wrap (BZ+BZ.fdiv (2^min (8:Int).toNat IntKind.u64.bits))
 let B4:=IntKind.u64.wrap (B0+B0.fdiv (2^min (16:Int).toNat IntKind.u64.bits))
 let MH:=IntKind.u64.wrap (B4+B4.fdiv (2^min (32:Int).toNat IntKind.u64.bits))
 bitsOf .and .i64 (IntKind.i64.wrap MH) 127
theorem Vq (m:Int):0<=bitsOf .and .i64 m 127/\bitsOf .and .i64 m 127<=127:=by
 have h1: ((BitVec.ofInt 64 m&&&BitVec.ofInt 64 127:BitVec 64)).toNat<=127:=by
  rw[BitVec.toNat_and];exact Nat.le_trans Nat.and_le_right (by decide)
 have:bitsOf .and .i64 m 127=(((BitVec.ofInt 64 m&&&BitVec.ofInt 64 127:BitVec 64)).toNat:Int):=by
  show IntKind.i64.wrap (((BitVec.ofInt 64 m&&&BitVec.ofInt 64 127:BitVec 64)).toNat:Int)=_;apply wrap_i64<;>omega
 rw[this];omega
theorem MI (x:Int):0<=sR x/\sR x<=127:=Vq _
def rS (l:List jk) (k:Nat):Int:=match k with|0=>0|k+1=>rS l k+sR (l.getD k default).n
theorem Ev (l:List jk):∀k:Nat,0<=rS l k/\rS l k<=k*127
 |0=>⟨Int.le_refl _,Int.le_refl _⟩
 |k+1=>by
  have ih:=Ev l k;have:=MI (l.getD k default).n;show 0<=rS l k+sR (l.getD k default).n/\rS l k+sR (l.getD k default).n<=_;omega
def gK (b:Bits):Int:=if ki b then rS b.words b.words.length else 0
theorem Hi {b:Bits} (h:ki b=true):b.words.length<=8/\1<=b.words.length:=by have:=xF.1 h;omega
def mX (a b:Bits):Prop:=ki a=true/\ki b=true/\a.len=b.len
instance (a b:Bits):Decidable (mX a b):=by unfold mX;exact inferInstance
theorem Hj {a b:Bits} (h:mX a b):ki (pn a b)=true:=by
 obtain⟨h1,h2,h3⟩:=h;have v1:=xF.1 h1;have v2:=xF.1 h2;refine xF.2 ⟨v1.1,?_⟩;show((List.zipWith jI a.words b.words).length:Int)=a.len/64;rw[List.length_zipWith];omega
theorem Vr {a b:Bits} (h:mX a b):a.words.length=b.words.length:=by
 obtain⟨h1,h2,h3⟩:=h;have v1:=xF.1 h1;have v2:=xF.1 h2;omega
theorem Vs {a b:List jk} {k:Nat} (h1:k<a.length) (h2:k<b.length): (List.zipWith jI a b).take (k+1)=(List.zipWith jI a b).take k++[jI a[k] b[k]]:=by
 rw[List.take_succ_eq_append_getElem (by rw[List.length_zipWith];omega),List.getElem_zipWith]
end Go.K
theorem Go.K.MJ {a b:List jk} {k:Nat} {z:jk} (h1:k<a.length) (h2:k<b.length):
  ((List.zipWith jI a b).take k++List.replicate (a.length-k) z).set k (jI a[k] b[k])=(List.zipWith jI a b).take (k+1)++List.replicate (a.length-(k+1)) z:=by
 have hl: ((List.zipWith jI a b).take k).length=k:=by rw[List.length_take,List.length_zipWith];omega
 rw[List.set_append,if_neg (by omega),hl,Nat.sub_self,show a.length-k=(a.length-(k+1))+1 from by omega,List.replicate_succ,List.set_cons_zero,Vs h1 h2,List.append_assoc];rfl
namespace Go.K
open bu
section
variable {P:Program} {N:Nat} {env:Env} {w:World} {C:Nat->Nat} {t e:TypeId}
end
def om (x:Int):Prop:=0<=x/\x<18446744073709551616
theorem Vt (x y:Int):om (bitsOf .and .u64 x y):=LC _
def vH (n:Int) (b:Bits):Prop:=b.len=n/\(b.words.length:Int)=n/64/\∀x∈b.words,om x.n
def pop:Nat->Nat->Nat
 |0,_=>0
 |n+1,x=>x%2+pop n (x/2)
theorem Vu (m n x:Nat):pop (m+n) x=pop m x+pop n (x/2^m):=by
 induction m generalizing x with
 |zero=>simp[pop]
 |succ m ih=>
  rw[show m+1+n=(m+n)+1 from by omega];show x%2+pop (m+n) (x/2)=x%2+pop m (x/2)+_;rw[ih,Nat.div_div_eq_div_mul,show 2*2^m=2^(m+1) from by rw[Nat.pow_succ,Nat.mul_comm],Nat.add_assoc]
theorem MK (m x:Nat):pop m x=pop m (x%2^m):=by
 induction m generalizing x with
 |zero=>rfl
 |succ m ih=>
  show x%2+pop m (x/2)=x%2^(m+1)%2+pop m (x%2^(m+1)/2);rw[ih (x/2),ih (x%2^(m+1)/2),Nat.mod_mod_of_dvd x ⟨2^m,by rw[Nat.pow_succ,Nat.mul_comm]⟩];congr 2;rw[show 2^(m+1)=2*2^m from by rw[Nat.pow_succ,Nat.mul_comm],Nat.mod_mul_right_div_self,Nat.mod_mod]
theorem vI (m x:Nat):pop m x<=m:=by
 induction m generalizing x with
 |zero=>exact Nat.le_refl _
 |succ m ih=>show x%2+_<=_;have:=ih (x/2);omega
theorem Vv (m x y:Nat):pop m (x&&&y)<=pop m x:=by
 induction m generalizing x y with
 |zero=>exact Nat.le_refl _
 |succ m ih=>
  show(x&&&y)%2+pop m ((x&&&y)/2)<=x%2+pop m (x/2);have h1:=ih (x/2) (y/2);have h2: (x&&&y)/2=x/2&&&y/2:=Nat.and_div_two_pow (n:=1);have h3: (x&&&y)%2=x%2&&&y%2:=Nat.and_mod_two_pow (n:=1);rw[h2,h3];have h4:x%2&&&y%2<=x%2:=Nat.and_le_left;omega
def lane (b:Nat):Nat->Nat
 |0=>0
 |n+1=>256*lane b n+b
def a1 (m v:Nat):Nat:=(v/2&&&m)+(v&&&m)
def a2 (m v:Nat):Nat:=(v/4&&&m)+(v&&&m)
def a3 (m v:Nat):Nat:=(v/16+v)&&&m
theorem B5 (a b c d:Nat) (hb:b<256) (hd:d<256): (256*a+b)&&&(256*c+d)=256*(a&&&c)+(b&&&d):=by
 have h1: ((256*a+b)&&&(256*c+d))/2^8=(256*a+b)/2^8&&&(256*c+d)/2^8:=Nat.and_div_two_pow;have h2: ((256*a+b)&&&(256*c+d))%2^8=(256*a+b)%2^8&&&(256*c+d)%2^8:=Nat.and_mod_two_pow;have e1: (256*a+b)/2^8=a:=by omega
 have e2: (256*c+d)/2^8=c:=by omega
 have fE: (256*a+b)%2^8=b:=by omega
 have jo: (256*c+d)%2^8=d:=by omega
 rw[e1,e2] at h1;rw[fE,jo] at h2;omega
theorem Vw:∀q,q<2->∀k,k<128->(q*128+k)&&&0x55=k&&&0x55:=by decide+kernel
theorem Vx:∀q,q<4->∀k,k<64->(q*64+k)&&&0x33=k&&&0x33:=by decide+kernel
theorem Vy (n h l:Nat) (hl:l<256):a1 (lane 0x55 (n+1)) (256*h+l)=256*a1 (lane 0x55 n) h+a1 0x55 l:=by
 unfold a1;show((256*h+l)/2&&&(256*lane 0x55 n+0x55))+((256*h+l)&&&(256*lane 0x55 n+0x55))=_;rw[show(256*h+l)/2=256*(h/2)+(h%2*128+l/2) from by omega,B5 _ _ _ _ (by omega) (by decide),B5 _ _ _ _ hl (by decide),Vw _ (by omega) _ (by omega)];omega
theorem Vz (n h l:Nat) (hl:l<256):a2 (lane 0x33 (n+1)) (256*h+l)=256*a2 (lane 0x33 n) h+a2 0x33 l:=by
 unfold a2;show((256*h+l)/4&&&(256*lane 0x33 n+0x33))+((256*h+l)&&&(256*lane 0x33 n+0x33))=_;rw[show(256*h+l)/4=256*(h/4)+(h%4*64+l/4) from by omega,B5 _ _ _ _ (by omega) (by decide),B5 _ _ _ _ hl (by decide),Vx _ (by omega) _ (by omega)];omega
theorem VA (n h l:Nat) (hh:h%16<=4) (h1:l/16<=4) (h2:l%16<=4):a3 (lane 0x0f (n+1)) (256*h+l)=256*a3 (lane 0x0f n) h+a3 0x0f l:=by
 unfold a3;show((256*h+l)/16+(256*h+l))&&&(256*lane 0x0f n+0x0f)=_;rw[show(256*h+l)/16+(256*h+l)=256*(h/16+h)+(h%16*16+(l/16+l)) from by omega,B5 _ _ _ _ (by omega) (by decide)];have e1:h%16*16+(l/16+l)&&&0x0f=(h%16*16+(l/16+l))%16:=Nat.and_two_pow_sub_one_eq_mod _ 4;have e2: (l/16+l)&&&0x0f=(l/16+l)%16:=Nat.and_two_pow_sub_one_eq_mod _ 4;rw[e1,e2];omega
theorem Hl:∀l,l<256->a1 0x55 l<256/\a2 0x33 (a1 0x55 l)/16<=4/\a2 0x33 (a1 0x55 l)%16<=4/\a3 0x0f (a2 0x33 (a1 0x55 l))=pop 8 l:=by decide+kernel
def xH (n v:Nat):Nat:=a2 (lane 0x33 n) (a1 (lane 0x55 n) v)
def tS (n v:Nat):Nat:=a3 (lane 0x0f n) (xH n v)
theorem ML (n h l:Nat) (hl:l<256):xH (n+1) (256*h+l)=256*xH n h+a2 0x33 (a1 0x55 l):=by
 unfold xH;rw[Vy _ _ _ hl,Vz _ _ _ (Hl l hl).1]
theorem VB (n h:Nat):xH n h%16<=4:=by
 cases n with
 |zero=>unfold xH a2;simp[lane]
 |succ n=>
  have e:h=256*(h/256)+h%256:=by omega
  rw[e,ML _ _ _ (by omega)];have:=(Hl (h%256) (by omega)).2.2.1;omega
theorem VC (n h l:Nat) (hl:l<256):tS (n+1) (256*h+l)=256*tS n h+pop 8 l:=by
 unfold tS;obtain⟨b1,b2,b3,b4⟩:=Hl l hl;rw[ML _ _ _ hl,VA _ _ _ (VB n h) b2 b3,b4]
theorem vJ (n v:Nat):tS (n+1) v=256*tS n (v/256)+pop 8 (v%256):=by
 have e:v=256*(v/256)+v%256:=by omega
 have:=VC n (v/256) (v%256) (by omega);rwa [<-e] at this
theorem VD (v:Nat):tS 0 v=0:=by unfold tS a3;simp[lane]
theorem zQ (a b:Nat) (ha:a<18446744073709551616) (hb:b<18446744073709551616):bitsOf .and .u64 (a:Int) (b:Int)=((a&&&b:Nat):Int):=by
 have h1: ((BitVec.ofInt 64 (a:Int)&&&BitVec.ofInt 64 (b:Int):BitVec 64)).toNat=a&&&b:=by
  rw[BitVec.toNat_and,BitVec.toNat_ofInt,BitVec.toNat_ofInt];congr 1<;>omega
 have h2:a&&&b<=a:=Nat.and_le_left;show IntKind.u64.wrap (((BitVec.ofInt 64 (a:Int)&&&BitVec.ofInt 64 (b:Int):BitVec 64)).toNat:Int)=_;rw[h1];apply wrap_u64<;>omega
theorem VE (a b:Nat) (ha:a<9223372036854775808) (hb:b<9223372036854775808):bitsOf .and .i64 (a:Int) (b:Int)=((a&&&b:Nat):Int):=by
 have h1: ((BitVec.ofInt 64 (a:Int)&&&BitVec.ofInt 64 (b:Int):BitVec 64)).toNat=a&&&b:=by
  rw[BitVec.toNat_and,BitVec.toNat_ofInt,BitVec.toNat_ofInt];congr 1<;>omega
 have h2:a&&&b<=a:=Nat.and_le_left;show IntKind.i64.wrap (((BitVec.ofInt 64 (a:Int)&&&BitVec.ofInt 64 (b:Int):BitVec 64)).toNat:Int)=_;rw[h1];apply wrap_i64<;>omega
theorem zR (a k:Nat) (hk:k<=64): (a:Int).fdiv (2^min (k:Int).toNat IntKind.u64.bits)=((a/2^k:Nat):Int):=by
 rw[show min (k:Int).toNat IntKind.u64.bits=k from by simp[IntKind.bits];omega];rw[Int.fdiv_eq_ediv_of_nonneg _ (by exact Int.pow_nonneg (by decide))]
 norm_cast
theorem VF {y t p:Nat} (q:p<=8) (h:y=256*t+p):y/256=t:=by omega
theorem VG {y t1 t2 t3 iu p1 p2:Nat} (q0:iu<=8) (q1:p1<=8) (q2:p2<=8) (h:y=256*t1+iu) (h1:t1=256*t2+p1) (h2:t2=256*t3+p2): (y+t1)/65536=t2+t3:=by
 have:y+t1=65536*(t2+t3)+(256*(p1+p2)+(iu+p1)):=by omega
 rw[this];have h3:256*(p1+p2)+(iu+p1)<65536:=by omega
 clear this h h1 h2;generalize 256*(p1+p2)+(iu+p1)=z at*;omega
theorem VH {T Ew Ex Ey Ez:Nat} (h0:Ew<=32) (h1:Ex<=32) (h2:Ey<=32) (h3:Ez<=32): (4294967296*T+(Ew+256*Ex+65536*Ey+16777216*Ez))/4294967296=T:=by
 have h:Ew+256*Ex+65536*Ey+16777216*Ez<4294967296:=by omega
 generalize Ew+256*Ex+65536*Ey+16777216*Ez=z at*;clear h0 h1 h2 h3;omega
theorem VI {P K:Nat} (h:P<=64): (P+128*K)%128=P:=by omega
theorem VJ {iu p1 p2 p3 vK xI zS rT qD:Nat} (q0:iu<=8) (q1:p1<=8) (q2:p2<=8) (MN:p3<=8) (MO:vK<=8) (MP:xI<=8) (MQ:zS<=8) (MR:rT<=8)
  (h:qD=256*(256*(256*(256*(256*(256*(256*(256*0+rT)+zS)+xI)+vK)+p3)+p2)+p1)+iu):
  (qD+qD/256+(qD+qD/256)/65536+(qD+qD/256+(qD+qD/256)/65536)/4294967296)%128=iu+(p1+(p2+(p3+(vK+(xI+(zS+rT)))))):=by
 rw[show 256*0+rT=rT from Nat.zero_add _] at h;obtain⟨t6,h6⟩:∃t,t=256*rT+zS:=⟨_,rfl⟩
 rw[<-h6] at h;obtain⟨t5,h5⟩:∃t,t=256*t6+xI:=⟨_,rfl⟩
 rw[<-h5] at h;obtain⟨t4,h4⟩:∃t,t=256*t5+vK:=⟨_,rfl⟩
 rw[<-h4] at h;obtain⟨t3,h3⟩:∃t,t=256*t4+p3:=⟨_,rfl⟩
 rw[<-h3] at h;obtain⟨t2,h2⟩:∃t,t=256*t3+p2:=⟨_,rfl⟩
 rw[<-h2] at h;obtain⟨t1,h1⟩:∃t,t=256*t2+p1:=⟨_,rfl⟩
 rw[<-h1] at h;rw[VF q0 h,VG q0 q1 q2 h h1 h2];have fE:qD+t1+(t2+t3)=4294967296*(t4+t5+t6+rT)+((iu+p1+p2+p3)+256*(p1+p2+p3+vK)+65536*(p2+p3+vK+xI)+16777216*(p3+vK+xI+zS)):=by
  clear q0 q1 q2 MN MO MP MQ MR;subst h;subst h1;subst h2;subst h3;subst h4;subst h5;subst h6;omega
 have jo: (qD+t1+(t2+t3))/4294967296=t4+t5+t6+rT:=by
  rw[fE];exact VH (by omega) (by omega) (by omega) (by omega)
 rw[jo];have zU:qD+t1+(t2+t3)+(t4+t5+t6+rT)=(iu+(p1+(p2+(p3+(vK+(xI+(zS+rT)))))))+128*(2*(t1+t2+t3+t4+t5+t6+rT)):=by
  clear q0 q1 q2 MN MO MP MQ MR fE jo;omega
 rw[zU];exact VI (by clear fE jo zU h h1 h2 h3 h4 h5 h6;omega)
theorem zV (a:Nat) (ha:a<18446744073709551616):IntKind.u64.wrap (a:Int)=a:=by apply wrap_u64<;>omega
theorem st1 (v:Nat) (hv:v<18446744073709551616):IntKind.u64.wrap (bitsOf .and .u64 ((v:Int).fdiv (2^min (1:Int).toNat IntKind.u64.bits)) 6148914691236517205+bitsOf .and .u64 (v:Int) 6148914691236517205)=((a1 6148914691236517205 v:Nat):Int)/\a1 6148914691236517205 v<18446744073709551616:=by
 have l1:v/2&&&6148914691236517205<=6148914691236517205:=Nat.and_le_right;have l2:v&&&6148914691236517205<=6148914691236517205:=Nat.and_le_right;have s1: (v:Int).fdiv (2^min (1:Int).toNat IntKind.u64.bits)=((v/2:Nat):Int):=zR v 1 (by decide);rw[s1,show(6148914691236517205:Int)=((6148914691236517205:Nat):Int) from rfl,zQ _ _ (by omega) (by decide),zQ _ _ hv (by decide),<-Int.natCast_add,zV _ (by omega)];unfold a1;exact⟨rfl,by omega⟩
theorem st2 (v:Nat) (hv:v<18446744073709551616):IntKind.u64.wrap (bitsOf .and .u64 ((v:Int).fdiv (2^min (2:Int).toNat IntKind.u64.bits)) 3689348814741910323+bitsOf .and .u64 (v:Int) 3689348814741910323)=((a2 3689348814741910323 v:Nat):Int)/\a2 3689348814741910323 v<=7378697629483820646:=by
 have l1:v/4&&&3689348814741910323<=3689348814741910323:=Nat.and_le_right;have l2:v&&&3689348814741910323<=3689348814741910323:=Nat.and_le_right;have s1: (v:Int).fdiv (2^min (2:Int).toNat IntKind.u64.bits)=((v/4:Nat):Int):=zR v 2 (by decide);rw[s1,show(3689348814741910323:Int)=((3689348814741910323:Nat):Int) from rfl,zQ _ _ (by omega) (by decide),zQ _ _ hv (by decide),<-Int.natCast_add,zV _ (by omega)];unfold a2;exact⟨rfl,by omega⟩
theorem VK (v:Nat) (hv:v<=7378697629483820646):bitsOf .and .u64 (IntKind.u64.wrap ((v:Int).fdiv (2^min (4:Int).toNat IntKind.u64.bits)+(v:Int))) 1085102592571150095=((a3 1085102592571150095 v:Nat):Int)/\a3 1085102592571150095 v<=1085102592571150095:=by
 have s1: (v:Int).fdiv (2^min (4:Int).toNat IntKind.u64.bits)=((v/16:Nat):Int):=zR v 4 (by decide);rw[s1,<-Int.natCast_add,zV _ (by omega),show(1085102592571150095:Int)=((1085102592571150095:Nat):Int) from rfl,zQ _ _ (by omega) (by decide)];unfold a3;exact⟨rfl,Nat.and_le_right⟩
theorem VL (v:Nat) (hv:v<=1085102592571150095):IntKind.u64.wrap ((v:Int)+(v:Int).fdiv (2^min (8:Int).toNat IntKind.u64.bits))=((v+v/256:Nat):Int)/\v+v/256<=2170205185142300190:=by
 have s1: (v:Int).fdiv (2^min (8:Int).toNat IntKind.u64.bits)=((v/256:Nat):Int):=zR v 8 (by decide);rw[s1,<-Int.natCast_add,zV _ (by omega)];exact⟨rfl,by omega⟩
theorem VM (v:Nat) (hv:v<=2170205185142300190):IntKind.u64.wrap ((v:Int)+(v:Int).fdiv (2^min (16:Int).toNat IntKind.u64.bits))=((v+v/65536:Nat):Int)/\v+v/65536<=4340410370284600380:=by
 have s1: (v:Int).fdiv (2^min (16:Int).toNat IntKind.u64.bits)=((v/65536:Nat):Int):=zR v 16 (by decide);rw[s1,<-Int.natCast_add,zV _ (by omega)];exact⟨rfl,by omega⟩
theorem VN (v:Nat) (hv:v<=4340410370284600380):IntKind.u64.wrap ((v:Int)+(v:Int).fdiv (2^min (32:Int).toNat IntKind.u64.bits))=((v+v/4294967296:Nat):Int)/\v+v/4294967296<=9000000000000000000:=by
 have s1: (v:Int).fdiv (2^min (32:Int).toNat IntKind.u64.bits)=((v/4294967296:Nat):Int):=zR v 32 (by decide);rw[s1,<-Int.natCast_add,zV _ (by omega)];exact⟨rfl,by omega⟩
theorem VO (v:Nat) (hv:v<=9000000000000000000):bitsOf .and .i64 (IntKind.i64.wrap (v:Int)) 127=((v%128:Nat):Int):=by
 rw[show IntKind.i64.wrap (v:Int)=(v:Int) from by apply wrap_i64<;>omega,show(127:Int)=((127:Nat):Int) from rfl,VE _ _ (by omega) (by decide)];rw[show v&&&127=v%128 from Nat.and_two_pow_sub_one_eq_mod _ 7]
theorem VP:lane 0x55 8=6148914691236517205:=by decide+kernel
theorem VQ:lane 0x33 8=3689348814741910323:=by decide+kernel
theorem VR:lane 0x0f 8=1085102592571150095:=by decide+kernel
theorem VT (v:Nat):pop 64 v=pop 8 (v%256)+(pop 8 (v/256%256)+(pop 8 (v/256/256%256)+(pop 8 (v/256/256/256%256)+(pop 8 (v/256/256/256/256%256)+(pop 8 (v/256/256/256/256/256%256)+(pop 8 (v/256/256/256/256/256/256%256)+pop 8 (v/256/256/256/256/256/256/256%256))))))):=by
 have st:∀n x,pop (8+n) x=pop 8 (x%256)+pop n (x/256):=λn x=>by rw[Vu,MK 8 x]
 have z:∀x,pop 0 x=0:=λ_=>rfl;rw[show(64:Nat)=8+56 from rfl,st,show(56:Nat)=8+48 from rfl,st,show(48:Nat)=8+40 from rfl,st,show(40:Nat)=8+32 from rfl,st,show(32:Nat)=8+24 from rfl,st,show(24:Nat)=8+16 from rfl,st,show pop 16=pop (8+8) from rfl,st,show pop 8 (v/256/256/256/256/256/256/256)=pop 8 (v/256/256/256/256/256/256/256%256) from MK 8 _]
theorem VU (v:Nat):tS 8 v=256*(256*(256*(256*(256*(256*(256*(256*0+pop 8 (v/256/256/256/256/256/256/256%256))+pop 8 (v/256/256/256/256/256/256%256))+pop 8 (v/256/256/256/256/256%256))+pop 8 (v/256/256/256/256%256))+pop 8 (v/256/256/256%256))+pop 8 (v/256/256%256))+pop 8 (v/256%256))+pop 8 (v%256):=by
 rw[vJ,vJ,vJ,vJ,vJ,vJ,vJ,vJ,VD]
theorem VW (v:Nat) (hv:v<18446744073709551616):sR (v:Int)=((pop 64 v:Nat):Int):=by
 obtain⟨e1,b1⟩:=st1 v hv;obtain⟨e2,b2⟩:=st2 _ b1;obtain⟨fE,b3⟩:=VK _ b2;obtain⟨jo,b4⟩:=VL _ b3;obtain⟨zU,VX⟩:=VM _ b4;obtain⟨Ho,Hp⟩:=VN _ VX;have MS:=VO _ Hp;have hs:=VJ (vI 8 _) (vI 8 _) (vI 8 _) (vI 8 _) (vI 8 _) (vI 8 _) (vI 8 _) (vI 8 _) (VU v);rw[<-VT] at hs;unfold tS xH at hs;rw[VP,VQ,VR] at hs;rw[hs] at MS;rw[<-MS,<-Ho,<-zU,<-jo,<-fE,<-e2,<-e1];rfl
theorem VY (x:Int) (h:om x):sR x=pop 64 x.toNat:=by
 obtain⟨h1,h2⟩:=h;have:=VW x.toNat (by omega);rwa [Int.toNat_of_nonneg h1] at this
def pw (x:jk):Nat:=pop 64 x.n.toNat
def qE (l:List jk):Nat:=(l.map pw).sum
theorem vH.valid {n:Int} {b:Bits} (h:vH n b) (hn:n=64\/n=128):ki b=true:=xF.2 ⟨by rw[h.1];omega,by rw[h.2.1,h.1]⟩
theorem MT {l:List jk} (hu:∀x∈l,om x.n):∀k,k<=l.length->rS l k=(qE (l.take k):Nat)
 |0,_=>rfl
 |k+1,hk=>by
  have ih:=MT hu k (by omega);have hx:=VY _ (hu _ (List.getElem_mem (show k<l.length by omega)));show rS l k+sR (l.getD k default).n=_;rw[zL (by omega),ih,hx,List.take_succ_eq_append_getElem (by omega)];unfold qE;rw[List.map_append,List.sum_append];simp[pw]
theorem B6 {b:Bits} (hv:ki b=true) (hu:∀x∈b.words,om x.n):gK b=(qE b.words:Nat):=by
 unfold gK;rw[hv,MT hu _ (Nat.le_refl _),List.take_length];rfl
theorem VZ {a b:jk} (ha:om a.n) (hb:om b.n):pw (jI a b)<=pw a:=by
 unfold pw jI;have e:bitsOf .and .u64 a.n b.n=((a.n.toNat&&&b.n.toNat:Nat):Int):=by
  obtain⟨h1,h2⟩:=ha;obtain⟨h3,h4⟩:=hb;have:=zQ a.n.toNat b.n.toNat (by omega) (by omega);rwa [Int.toNat_of_nonneg h1,Int.toNat_of_nonneg h3] at this
 show pop 64 (bitsOf .and .u64 a.n b.n).toNat<=_;rw[e,Int.toNat_natCast];exact Vv _ _ _
theorem Hq:∀{l m:List jk},(∀x∈l,om x.n)->(∀x∈m,om x.n)->qE (List.zipWith jI l m)<=qE l
 |[],_,_,_=>by simp[qE]
 |_::_,[],_,_=>by simp[qE]
 |a::l,b::m,h1,h2=>by
  have ih:=Hq (l:=l) (m:=m) (λx hx=>h1 x (by simp[hx])) (λx hx=>h2 x (by simp[hx]));have:=VZ (h1 a (by simp)) (h2 b (by simp));simp only[qE,List.zipWith_cons_cons,List.map_cons,List.sum_cons] at ih⊢;omega
theorem V0 {l m:List jk}:∀x∈List.zipWith jI l m,om x.n:=λx hx=>by
 obtain⟨i,hi,rfl⟩:=List.getElem_of_mem hx;rw[List.getElem_zipWith];exact Vt _ _
section
variable {a x c:Bits} {l:List Bits}
end
section
variable {α:Type} {ys zs:List α} {σ:Nat->Nat} {a b i j:Nat} {c:α->α->Int} {P:α->Prop}
theorem eU.thin (h:eU σ a (a+1)) (hb:a<=b):eU σ a b:=by
 have hid:∀i,σ i=i:=λi=>by
  by_cases e:a<=i/\i<a+1
  ·have:=h.jZ i e.1 e.2;omega
  ·exact h.out i e
 exact⟨λi _=>hid i,λi h1 h2=>by rw[hid i];exact⟨h1,h2⟩,h.inj⟩
theorem mV.lt (h:mV c ys σ a i j) (hj:a<j):σ (j-1)<i:=by
 have hl:=h.le;have h1:=h.within.jZ (j-1) (by omega) (by omega);have h2:σ (j-1)≠i:=λe=>by have:=h.within.inj (j-1) j (by rw[e,h.zJ]);omega
 omega
theorem mV.ord (hc:kN c P) (hP:∀x∈ys,P x) (hL:eL ys σ zs) (h:mV c ys σ a i j) (hj:a<j) (hi:i<ys.length) (h1:j<zs.length) (h2:j-1<zs.length):dY c ys i (σ (j-1))↔c zs[j] zs[j-1]<0:=by
 have hl:=h.le;have e1:=hL.get (show j<ys.length by omega);have e2:=hL.get (show j-1<ys.length by omega);have hlt:=h.lt hj;rw[e1,e2,U9 hc hP (by omega) hi hlt];simp only[h.zJ]
end
theorem MU {x y:Int}:kf x y<0↔x<y:=by unfold kf;split<;>(try split)<;>omega
theorem V1 {n:Nat} (h:n<=12):IntKind.u8.wrap ((n:Nat):Int)=n:=by
 unfold IntKind.wrap;simp[IntKind.signed,IntKind.bits];omega
theorem MV {n:Nat} (h:n<=12):IntKind.u64.wrap ((n:Nat):Int)=n:=by
 unfold IntKind.wrap;simp[IntKind.signed,IntKind.bits];omega
theorem V2 {s:ByteArray} {n:Nat} (h:n<s.size):∃b:UInt8,s[((n:Nat):Int).toNat]?=some b:=⟨_,by rw[Int.toNat_natCast];exact getElem?_pos s n h⟩
section
variable {P:Program} {N:Nat} {env:Env} {y z:Operand} {t:TypeId} {k:IntKind} {n:Nat} {s:ByteArray} {b:UInt8} {w:World}
theorem V3 (hy:ev env y=some (.string s)) (hz:ev env z=some (.int k n)) (hu:P.underlying t=some .string) (hb:s[((n:Nat):Int).toNat]?=some b):cL P N env (.index t y z) w (.int .u8 (b.toNat:Nat)):=mk' λρ hρ fe ho=>by
 rw[Int.toNat_natCast] at hb;unfold execOp;rw[ho];simp[hρ _ _ hy,hρ _ _ hz,go_sem,Instr.index,asIntOf,run_underlying hu,hb]
end
def Hr (c:Code) (b:Bool):Bool:=match c with| .cond (.const (.bool b')) _ _=>b==b'|_=>false
theorem V4 {c:Code} {b:Bool} (h:Hr c b=true):c=.cond (.const (.bool b)) (cl c) (aH c):=by
 unfold Hr at h;split at h
 ·rw[beq_iff_eq] at h;subst h;rfl
 ·cases h
section
variable {P:Program} {f:FuncId} {N:Nat} {k:List Item} {env:Env} {w:World} {R:Value->World->Prop}
theorem V5 {c:Code} (hc:Hr c false=true) (h:Run P f N (.code (aH c)::k) env w R):Run P f N (.code c::k) env w R:=
 Bo (V4 hc) rfl (λh=>by cases h) (λ_=>h)
end
section
variable {α:Type} {ys zs us:List α} {σ dG:Nat->Nat} {c:α->α->Int} {P:α->Prop}
def eG (c:α->α->Int) (ys zs:List α):Prop:=∃σ,eL ys σ zs/\eU σ 0 ys.length/\gW (dY c ys) σ 0 ys.length
theorem V6 {n:Nat} (hc:kN c P) (hP:∀x∈ys,P x) (hn:n=ys.length) (h1:eU σ 0 n) (h2:gW (dY c ys) σ 0 n) (t1:eU dG 0 n) (t2:gW (dY c ys) dG 0 n):∀i,i<n->σ i=dG i:=by
 intro i
 induction i using Nat.strongRecOn with
 |ind i ih=>
  intro hi;apply Classical.byContradiction;intro hne;have key:∀(ρ sS:Nat->Nat),eU ρ 0 n->gW (dY c ys) ρ 0 n->eU sS 0 n->(∀k,k<i->ρ k=sS k)->ρ i≠sS i->dY c ys (ρ i) (sS i):=by
   intro ρ sS r1 r2 p1 hk hne;have V7:∃m,m<n/\ρ m=sS i:=by
    apply Classical.byContradiction;intro hno;have h1:=p1.jZ i (by omega) hi;have:=Mi n (n-1) (λm=>if ρ m<sS i then ρ m else ρ m-1) (λm hm=>by
     have h2:=r1.jZ m (by omega) hm;have h3:ρ m≠sS i:=λe=>hno ⟨m,hm,e⟩;split<;>omega) (λm m' hm hm' e=>by
     have h3:ρ m≠sS i:=λe=>hno ⟨m,hm,e⟩;have h4:ρ m'≠sS i:=λe=>hno ⟨m',hm',e⟩;refine r1.inj _ _ ?_;split at e<;>split at e<;>omega)
    omega
   obtain⟨m,hm,e⟩:=V7;have V8:i<m:=by
    rcases Nat.lt_trichotomy m i with h|h|h
    ·have:=hk m h;rw[e] at this;have:=p1.inj _ _ this;omega
    ·subst h;exact absurd e hne
    ·exact h
   rw[<-e];exact r2 i m (by omega) V8 hm
  have a:=key σ dG h1 h2 t1 (λk hk=>ih k hk (by omega)) hne;have b:=key dG σ t1 t2 h1 (λk hk=>(ih k hk (by omega)).symm) (Ne.symm hne);exact Ml hc hP a b
theorem eG.uniq (hc:kN c P) (hP:∀x∈ys,P x) (h:eG c ys zs) (h':eG c ys us):zs=us:=by
 obtain⟨σ,a1,a2,a3⟩:=h;obtain⟨dG,b1,b2,b3⟩:=h';have he:=V6 hc hP rfl a2 a3 b2 b3;apply List.ext_getElem?;intro i;by_cases hi:i<ys.length
 ·rw[(a1.at_ i hi).2,(b1.at_ i hi).2,he i hi]
 ·rw[List.getElem?_eq_none (by rw[a1.len];omega),List.getElem?_eq_none (by rw[b1.len];omega)]
noncomputable def B7 (c:α->α->Int) (ys:List α):List α:=open Classical in if h:∃zs,eG c ys zs then h.choose else ys
theorem eG.eq (hc:kN c P) (hP:∀x∈ys,P x) (h:eG c ys zs):zs=B7 c ys:=by
 have he:∃zs,eG c ys zs:=⟨zs,h⟩
 unfold B7;rw[dif_pos he];exact h.uniq hc hP he.choose_spec
end
section
variable {α:Type} {ys zs:List α} {c:α->α->Int}
theorem eG.len (h:eG c ys zs):zs.length=ys.length:=by obtain⟨σ,h1,_⟩:=h;exact h1.len
theorem eG.sub (h:eG c ys zs):∀x∈zs,x∈ys:=λx hx=>by
 obtain⟨σ,h1,_⟩:=h;obtain⟨i,hi,rfl⟩:=List.getElem_of_mem hx;rw[h1.get (by rw[<-h1.len];exact hi)];exact List.getElem_mem _
end
def vL (lo hi s:Int):Int:=if hi<=s then 2 else if lo<=s then 1 else 0
structure zW where
 r:av
 ver:Int
 V9:Int
 ch:Int
 deriving DecidableEq
instance:bu zW:=bu.via (λx:zW=>(x.r,(x.ver,(x.V9,x.ch))))
instance:Inhabited zW:=⟨⟨⟨0,0⟩,0,0,0⟩⟩
structure cI where
 A:av
 B:av
 b7:Int
 bO:Int
 same:Bool
 deriving DecidableEq
instance:bu cI:=bu.via (λx:cI=>(x.A,(x.B,(x.b7,(x.bO,x.same)))))
instance:Inhabited cI:=⟨⟨⟨0,0⟩,⟨0,0⟩,0,0,false⟩⟩
abbrev pq (x:cI):List Value:=[.int .i64 x.A.a,.int .i64 x.A.b,.int .i64 x.B.a,.int .i64 x.B.b,.int .i64 x.b7,.int .i64 x.bO,.bool x.same]
section
variable {w:World} {M:Nat->Prop} {b o:Nat} {v:Value}
theorem MW {h:Array Obj} {x:cI} {vs:List Value}:rep h M x vs↔vs=pq x:=
 ⟨λhr=>by
   obtain⟨us,ws,rfl,h1,xq,BO,rfl,h2,B8,MX,rfl,h3,V_,Wa,rfl,h4,h5⟩:=hr;have e1:=(k5 (M:=M) (h:=h) (x:=x.A)).1 h1;have e2:=(k5 (M:=M) (h:=h) (x:=x.B)).1 h2;have fE:B8=[.int .i64 x.b7]:=h3;have jo:V_=[.int .i64 x.bO]:=h4;have zU:Wa=[.bool x.same]:=h5;subst e1 e2 fE jo zU;rfl,
  λhr=>by
   subst hr;exact⟨bE x.A,bE x.B++[.int .i64 x.b7,.int .i64 x.bO,.bool x.same],rfl,(k5 (M:=M)).2 rfl,bE x.B,[_,_,_],rfl,(k5 (M:=M)).2 rfl,[_],[_,_],rfl,rfl,[_],[_],rfl,rfl,rfl⟩⟩
theorem EA {x:cI}:aB w M x v↔v=.agg (pq x).toArray:=
 ⟨λh=>by obtain⟨vs,h1,h2⟩:=h;rw[MW.1 h1] at h2;exact h2,λh=>⟨_,MW.2 rfl,h⟩⟩
end
def qf (x y:cI):Int:=iI [vi x.A x.B y.A y.B,kf x.b7 y.b7,kf x.bO y.bO]
def B9 (n:Int):Bool:=decide (1<=n/\n<=1048576)
def qF (x:cI):Prop:=k6 x.A x.B=true/\B9 x.b7=true/\B9 x.bO=true
structure pz where
 id:Int
 ver:Int
 ff:List Bits
instance:bu pz:=bu.via (λx:pz=>(x.id,(x.ver,x.ff)))
structure eV where
 rc:pz
 hs:List jk
 has:List Bool
instance:bu eV:=bu.via (λx:eV=>(x.rc,(x.hs,x.has)))
instance:Inhabited pz:=⟨⟨0,0,[]⟩⟩
instance:Inhabited eV:=⟨⟨default,[],[]⟩⟩
structure jf where
 A:av
 B:av
 pat:Int
 wt:Int
 deriving DecidableEq
instance:bu jf:=bu.via (λx:jf=>(x.A,(x.B,(x.pat,x.wt))))
instance:Inhabited jf:=⟨⟨⟨0,0⟩,⟨0,0⟩,0,0⟩⟩
abbrev xJ (x:jf):List Value:=[.int .i64 x.A.a,.int .i64 x.A.b,.int .i64 x.B.a,.int .i64 x.B.b,.int .i64 x.pat,.int .i64 x.wt]
section
variable {w:World} {M:Nat->Prop} {b o:Nat} {v u:Value}
theorem dJ.MY {x:pz} (h:dJ w M x b o):dJ w M x.id b o:=dJ.fst (p:=(x.id,(x.ver,x.ff))) h
theorem dJ.src {x:eV} (h:dJ w M x b o):dJ w M x.rc b o:=dJ.fst (p:=(x.rc,(x.hs,x.has))) h
theorem dJ.Wb {x:jf} (h:dJ w M x b o):dJ w M x.A b o:=dJ.fst (p:=(x.A,(x.B,(x.pat,x.wt)))) h
theorem dJ.Wc {x:jf} (h:dJ w M x b o):dJ w M x.B b (o+2):=dJ.fst (p:=(x.B,(x.pat,x.wt))) (dJ.snd (p:=(x.A,(x.B,(x.pat,x.wt)))) h)
theorem MZ {h:Array Obj} {x:pz} {vs:List Value}:rep h M x vs↔∃u,vs=[.int .i64 x.id,.int .i64 x.ver,u]/\rep h M x.ff [u]:=by
 constructor
 ·rintro⟨us,ws,rfl,h1,xq,BO,rfl,h2,h3⟩;obtain⟨u,rfl⟩:=List.length_eq_one_iff.1 (bu.len h3);have e1:us=[.int .i64 x.id]:=h1;have e2:xq=[.int .i64 x.ver]:=h2;subst e1 e2;exact⟨u,rfl,h3⟩
 ·rintro⟨u,rfl,h⟩;exact⟨[_],[_,u],rfl,rfl,[_],[u],rfl,rfl,h⟩
theorem M0 {h:Array Obj} {x:eV} {vs:List Value}:rep h M x vs↔∃u p q,vs=[.int .i64 x.rc.id,.int .i64 x.rc.ver,u,p,q]/\rep h M x.rc.ff [u]/\rep h M x.hs [p]/\rep h M x.has [q]:=by
 constructor
 ·rintro⟨us,ws,rfl,h1,xq,BO,rfl,h2,h3⟩;obtain⟨u,rfl,h4⟩:=MZ.1 h1;obtain⟨p,rfl⟩:=List.length_eq_one_iff.1 (bu.len h2);obtain⟨q,rfl⟩:=List.length_eq_one_iff.1 (bu.len h3);exact⟨u,p,q,rfl,h4,h2,h3⟩
 ·rintro⟨u,p,q,rfl,h1,h2,h3⟩;exact⟨[_,_,u],[p,q],rfl,MZ.2 ⟨u,rfl,h1⟩,[p],[q],rfl,h2,h3⟩
theorem EB {x:eV}:aB w M x v↔∃u p q,v=.agg #[.int .i64 x.rc.id,.int .i64 x.rc.ver,u,p,q]/\aB w M x.rc.ff u/\aB w M x.hs p/\aB w M x.has q:=by
 constructor
 ·rintro⟨vs,h,hv⟩;obtain⟨u,p,q,rfl,h1,h2,h3⟩:=M0.1 h;exact⟨u,p,q,hv,zk h1 rfl,zk h2 rfl,zk h3 rfl⟩
 ·rintro⟨u,p,q,rfl,h1,h2,h3⟩;exact⟨_,M0.2 ⟨u,p,q,rfl,h1.Bp rfl,h2.Bp rfl,h3.Bp rfl⟩,rfl⟩
theorem M1 {h:Array Obj} {x:jf} {vs:List Value}:rep h M x vs↔vs=xJ x:=
 ⟨λhr=>by
   obtain⟨us,ws,rfl,h1,xq,BO,rfl,h2,B8,MX,rfl,h3,h4⟩:=hr;have e1:=(k5 (M:=M) (h:=h) (x:=x.A)).1 h1;have e2:=(k5 (M:=M) (h:=h) (x:=x.B)).1 h2;have fE:B8=[.int .i64 x.pat]:=h3;have jo:MX=[.int .i64 x.wt]:=h4;subst e1 e2 fE jo;rfl,
  λhr=>by
   subst hr;exact⟨bE x.A,bE x.B++[.int .i64 x.pat,.int .i64 x.wt],rfl,(k5 (M:=M)).2 rfl,bE x.B,[_,_],rfl,(k5 (M:=M)).2 rfl,[_],[_],rfl,rfl,rfl⟩⟩
theorem Hs {x:jf}:aB w M x v↔v=.agg (xJ x).toArray:=
 ⟨λh=>by obtain⟨vs,h1,h2⟩:=h;rw[M1.1 h1] at h2;exact h2,λh=>⟨_,M1.2 rfl,h⟩⟩
end
theorem Wd {P:Program} {N:Nat} {env:Env} {w:World} {x y z q:Operand} {t:TypeId} {a b c d n:Int} (hx:ev env x=some (.int .i64 a)) (hy:ev env y=some (.int .i64 b)) (hz:ev env z=some (.int .i64 c)) (hq:ev env q=some (.int .i64 d)) (h1:a=n) (h2:b=n) (h3:c=n) (h4:d=n) (ht:P.underlying t=some (.int .i64)):
  cL P N env (.call {callee:=.builtin .min,args:=#[x,y,z,q],argTypes:=#[t,t,t,t]}) w (.int .i64 n):=mk' λρ hρ o ho=>by
 subst h1 h2 h3 h4;unfold execOp;rw[ho];simp[hρ _ _ hx,hρ _ _ hy,hρ _ _ hz,hρ _ _ hq,go_sem,resolve,invoke,builtin,Builtin.min_,Builtin.min2]
def B_ (n:Int):Prop:=1<=n/\n<=1048576
def sU (b:Bits):Bool:=decide (b.len=0)&&decide ((b.words.length:Int)=0)
def qG (b:Bits):Prop:=b=⟨0,[]⟩\/vH 64 b
theorem qG.ok {b:Bits} (h:qG b):sU b=true\/ki b=true:=by
 rcases h with rfl|h
 ·exact .inl (by decide)
 ·exact .inr (h.valid (.inl rfl))
structure M3 (n k:Nat) (x:eV):Prop where
 id:B_ x.rc.id
 ver:B_ x.rc.ver
 fl:x.rc.ff.length=n
 fo:∀b∈x.rc.ff,qG b
 hl:x.hs.length=k
 ha:x.has.length=k
structure rU (n k:Nat) (l:List eV):Prop where
 len:l.length<=4
 all:∀x∈l,M3 n k x
 jq:l.Pairwise λx y=>x.rc.id<y.rc.id
def sV (a b:Bits):Int:=if mX a b then(if gK a+gK b=0 then 0 else(4000*gK (pn a b)+(gK a+gK b))/(2*(gK a+gK b))) else-1
theorem Wf {a b:Bits} (ha:vH 64 a) (hb:vH 64 b):gK (pn a b)<=gK a/\gK (pn a b)<=gK b/\0<=gK (pn a b)/\gK a<=127/\gK b<=127:=by
 have b7:=ha.valid (.inl rfl);have bO:=hb.valid (.inl rfl);have hok:mX a b:=⟨b7,bO,by rw[ha.1,hb.1]⟩
 have hz:∀x∈(pn a b).words,om x.n:=V0;have h1:qE (List.zipWith jI a.words b.words)<=qE a.words:=Hq ha.2.2 hb.2.2;have h2:qE (List.zipWith jI a.words b.words)<=qE b.words:=by
  have e:List.zipWith jI a.words b.words=List.zipWith jI b.words a.words:=by
   rw[List.zipWith_comm];congr 1;funext x y;unfold jI;congr 1;unfold bitsOf;simp only[BitVec.and_comm]
  rw[e];exact Hq hb.2.2 ha.2.2
 have h3:∀c:Bits,vH 64 c->gK c<=127:=λc hc=>by
  unfold gK;rw[if_pos (hc.valid (.inl rfl))];have:=(Ev c.words c.words.length).2;have hl: (c.words.length:Int)=1:=by rw[hc.2.1];rfl
  omega
 refine⟨?_,?_,?_,h3 a ha,h3 b hb⟩
 ·rw[B6 (Hj hok) hz,B6 b7 ha.2.2];exact Int.ofNat_le.2 h1
 ·rw[B6 (Hj hok) hz,B6 bO hb.2.2];exact Int.ofNat_le.2 h2
 ·rw[B6 (Hj hok) hz];omega
theorem Wg {a b:Bits} (ha:qG a) (hb:qG b):-1<=sV a b/\sV a b<=1000:=by
 unfold sV;by_cases hok:mX a b
 ·rw[if_pos hok];have ha2:vH 64 a:=ha.resolve_left λe=>by subst e;exact absurd hok.1 (by decide)
  have ew:vH 64 b:=hb.resolve_left λe=>by subst e;exact absurd hok.2.1 (by decide)
  obtain⟨h1,h2,h3,h4,h5⟩:=Wf ha2 ew;by_cases h0:gK a+gK b=0
  ·rw[if_pos h0];omega
  ·rw[if_neg h0];have hp:0<2*(gK a+gK b):=by omega
   constructor
   ·have:=Int.ediv_nonneg (a:=4000*gK (pn a b)+(gK a+gK b)) (b:=2*(gK a+gK b)) (by omega) (by omega);omega
   ·have: (4000*gK (pn a b)+(gK a+gK b))/(2*(gK a+gK b))<1001:=Int.ediv_lt_of_lt_mul hp (by omega);omega
 ·rw[if_neg hok];omega
theorem Ht (b:Bits):0<=gK b/\gK b<=1016:=by
 unfold gK;split
 ·rename_i h;have:=Ev b.words b.words.length;have:=(Hi h).1;omega
 ·omega
def pE (x y:pz):List Int:=List.zipWith sV x.ff y.ff
def xK (t s:Int):Nat:=if s<0 then 0 else if s<t then 1 else 2
theorem Wh (t s:Int):xK t s<3:=by unfold xK;split<;>(try split)<;>omega
def oq (ef Hu:List Int):List Nat:=List.zipWith xK ef Hu
theorem M4 {x y:pz} (h:x.ff.length=y.ff.length): (pE x y).length=x.ff.length:=by unfold pE;rw[List.length_zipWith];omega
theorem Wi {x y:pz} {k:Nat} (h1:k<x.ff.length) (h2:k<y.ff.length): (pE x y).take (k+1)=(pE x y).take k++[sV x.ff[k] y.ff[k]]:=by
 have h:k<(pE x y).length:=by unfold pE;rw[List.length_zipWith];omega
 rw[List.take_succ_eq_append_getElem h];simp[pE]
theorem Wj {x y:pz} (h1:∀b∈x.ff,qG b) (h2:∀b∈y.ff,qG b):∀z∈pE x y,-1<=z/\z<=1000:=λz hz=>by
 unfold pE at hz;obtain⟨i,hi,rfl⟩:=List.getElem_of_mem hz;rw[List.getElem_zipWith];exact Wg (h1 _ (List.getElem_mem _)) (h2 _ (List.getElem_mem _))
theorem Hv {t s:List Int} {k d:Nat} (h1:k<t.length) (h2:k<s.length) (he:xK t[k] s[k]=d): ((oq t s).take k++List.replicate (t.length-k) 0).set k d=(oq t s).take (k+1)++List.replicate (t.length-(k+1)) 0:=by
 have h:k<(oq t s).length:=by unfold oq;rw[List.length_zipWith];omega
 have hl: ((oq t s).take k).length=k:=by rw[List.length_take];omega
 rw[List.set_append_right _ _ (by omega),hl,Nat.sub_self,show t.length-k=(t.length-(k+1))+1 from by omega,List.replicate_succ,List.set_cons_zero,List.take_succ_eq_append_getElem h,List.append_assoc];simp[oq,he]
def qH (l:List Nat):Nat->Nat
 |0=>0
 |k+1=>qH l k+l.getD k 0*3^k
theorem Hw {l:List Nat} (h:∀x∈l,x<3):∀k,qH l k<3^k
 |0=>by simp[qH]
 |k+1=>by
  have h1:=Hw h k;have h2:l.getD k 0<3:=by
   rw[List.getD_eq_getElem?_getD];cases e:l[k]? with
   |none=>simp
   |some y=>exact h y (List.mem_of_getElem? e)
  unfold qH;have h3:l.getD k 0*3^k<=2*3^k:=Nat.mul_le_mul_right _ (by omega);rw[Nat.pow_succ];omega
def Ca (ef:List Int) (x y:pz):Nat:=qH (oq ef (pE x y)) ef.length
theorem M5 {ef Hu:List Int}:∀x∈oq ef Hu,x<3:=λx hx=>by
 unfold oq at hx;obtain⟨i,hi,rfl⟩:=List.getElem_of_mem hx;rw[List.getElem_zipWith];exact Wh _ _
theorem Wk (ef:List Int) (x y:pz):Ca ef x y<3^ef.length:=Hw M5 _
def xL (x y:eV) (h:Nat):Bool:=x.has.getD h false&&y.has.getD h false&&decide ((x.hs.getD h default).n=(y.hs.getD h default).n)
def Hx (x y:eV):Nat:=min (min x.hs.length x.has.length) (min y.hs.length y.has.length)
def qI (x y:eV):Bool:=(List.range (Hx x y)).any (xL x y)
theorem Wm {x y:eV} {i:Nat} (i1:i<x.hs.length) (i2:i<x.has.length) (i3:i<y.hs.length) (i4:i<y.has.length):xL x y i=(x.has[i]&&y.has[i]&&decide (x.hs[i].n=y.hs[i].n)):=by
 unfold xL;rw[zL i1,zL i2,zL i3,zL i4]
theorem M6 {x y:eV} {k:Nat} (h1:x.hs.length=k) (h2:x.has.length=k) (h3:y.hs.length=k) (h4:y.has.length=k):Hx x y=k:=by unfold Hx;omega
theorem Wn {x y:eV} {k i:Nat} (h1:x.hs.length=k) (h2:x.has.length=k) (h3:y.hs.length=k) (h4:y.has.length=k) (hi:i<k) (h:xL x y i=true):qI x y=true:=by
 unfold qI;rw[M6 h1 h2 h3 h4,List.any_eq_true];exact⟨i,List.mem_range.2 hi,h⟩
theorem Wo {x y:eV} {k:Nat} (h1:x.hs.length=k) (h2:x.has.length=k) (h3:y.hs.length=k) (h4:y.has.length=k) (h:∀j,j<k->xL x y j=false):qI x y=false:=by
 unfold qI;rw[M6 h1 h2 h3 h4,List.any_eq_false];exact λj hj=>by rw[h j (List.mem_range.1 hj)];decide
structure vM where
 pr:Int
 bL:List Int
 df:List Int
 ef:List Int
def qJ (m:vM) (a b:av) (x y:eV):jf:=⟨a,b,Ca m.ef x.rc y.rc,qe m.pr m.bL m.df (Ca m.ef x.rc y.rc) m.bL.length⟩
def lR (m:vM) (r s:Nat) (x:eV) (l:List eV):List jf:=(l.filter (qI x)).map λy=>qJ m ⟨r,x.rc.id⟩ ⟨s,y.rc.id⟩ x y
def jJ (sh:List (List eV)) (s:Nat):List eV:=sh.getD s []
def lT (m:vM) (sh:List (List eV)) (r:Nat) (x:eV) (n:Nat):List jf:=(List.range' (r+1) n).flatMap λs=>lR m r s x (jJ sh s)
def lU (m:vM) (sh:List (List eV)) (r:Nat) (l:List eV):List jf:=l.flatMap λx=>lT m sh r x (sh.length-(r+1))
def iJ (m:vM) (sh:List (List eV)) (n:Nat):List jf:=(List.range n).flatMap λr=>lU m sh r (jJ sh r)
theorem Cc {α β:Type} {f:α->List β} {b:Nat}:∀{l:List α},(∀x∈l,(f x).length<=b)->(l.flatMap f).length<=l.length*b
 |[],_=>by simp
 |a::l,h=>by
  rw[List.flatMap_cons,List.length_append,List.length_cons,Nat.succ_mul];have:=h a (by simp);have:=Cc (f:=f) (b:=b) (l:=l) λx hx=>h x (by simp[hx]);omega
structure kP (n k:Nat) (sh:List (List eV)):Prop where
 len:sh.length<=3
 all:∀l∈sh,rU n k l
section
variable {m:vM} {sh:List (List eV)} {n k r s i j:Nat} {x y:eV} {l:List eV}
theorem kP.at_ (h:kP n k sh) (s:Nat):rU n k (jJ sh s):=by
 unfold jJ;rw[List.getD_eq_getElem?_getD];cases e:sh[s]? with
 |none=>exact⟨by simp,by simp,List.Pairwise.nil⟩
 |some l=>exact h.all l (List.mem_of_getElem? e)
theorem M7: (lR m r s x l).length<=l.length:=by unfold lR;rw[List.length_map];exact List.length_filter_le _ _
theorem M8 (h:kP n k sh) (q:Nat): (lT m sh r x q).length<=q*4:=by
 have:=Cc (l:=List.range' (r+1) q) (f:=λs=>lR m r s x (jJ sh s)) (b:=4) λs _=>Nat.le_trans M7 (h.at_ s).len;rw[List.length_range'] at this;exact this
theorem M9 (h:kP n k sh): (lU m sh r l).length<=l.length*12:=
 Cc λx _=>Nat.le_trans (M8 h _) (by have:=h.len;omega)
theorem Hy (h:kP n k sh) (q:Nat): (iJ m sh q).length<=q*48:=by
 have:=Cc (l:=List.range q) (f:=λr=>lU m sh r (jJ sh r)) (b:=48) λr _=>Nat.le_trans (M9 h) (by have:=(h.at_ r).len;omega);rw[List.length_range] at this;exact this
theorem Wp (hj:j<l.length):lR m r s x (l.take (j+1))=lR m r s x (l.take j)++(if qI x l[j] then[qJ m ⟨r,x.rc.id⟩ ⟨s,l[j].rc.id⟩ x l[j]] else[]):=by
 unfold lR;rw[List.take_succ_eq_append_getElem hj,List.filter_append,List.map_append];congr 1;by_cases h:qI x l[j]=true
 ·rw[if_pos h,List.filter_cons_of_pos h];rfl
 ·rw[if_neg h,List.filter_cons_of_neg h];rfl
theorem Wq {q:Nat}:lT m sh r x (q+1)=lT m sh r x q++lR m r (r+1+q) x (jJ sh (r+1+q)):=by
 unfold lT;rw[List.range'_concat,List.flatMap_append];simp
theorem Wr (hi:i<l.length):lU m sh r (l.take (i+1))=lU m sh r (l.take i)++lT m sh r l[i] (sh.length-(r+1)):=by
 unfold lU;rw[List.take_succ_eq_append_getElem hi,List.flatMap_append];simp
theorem Ws:iJ m sh (r+1)=iJ m sh r++lU m sh r (jJ sh r):=by
 unfold iJ;rw[List.range_succ,List.flatMap_append];simp
theorem EC {c:jf} {q:Nat}:c∈iJ m sh q↔∃r s x y,r<q/\r<s/\s<sh.length/\x∈jJ sh r/\y∈jJ sh s/\qI x y=true/\c=qJ m ⟨r,x.rc.id⟩ ⟨s,y.rc.id⟩ x y:=by
 unfold iJ lU lT lR;simp only[List.mem_flatMap,List.mem_range,List.mem_range'_1,List.mem_map,List.mem_filter];constructor
 ·rintro⟨r,hr,x,hx,s,hs,y,⟨hy,ha⟩,rfl⟩;have:r+1<sh.length:=by omega
  exact⟨r,s,x,y,hr,by omega,by omega,hx,hy,ha,rfl⟩
 ·rintro⟨r,s,x,y,hr,h1,h2,hx,hy,ha,rfl⟩;exact⟨r,hr,x,hx,s,⟨by omega,by omega⟩,y,⟨hy,ha⟩,rfl⟩
end
structure Key where
 comps:List av
instance:bu Key where
 sz:=1
 agg:=true
 flat h:=by cases h
 rep h M x vs:=rep h M x.comps vs
 len h:=bu.len (α:=List av) h
 one h:=bu.one (α:=List av) h
 keep h hk:=bu.keep (α:=List av) h hk
 sub h hk:=bu.sub (α:=List av) h hk
structure Wu where
 val:Value
 one:val.oneCell'=true
instance:bu Wu where
 sz:=1
 agg:=false
 flat _:=rfl
 rep _ _ x vs:=vs=[x.val]
 len h:=by subst h;rfl
 one h:=by subst h;rename_i x;intro v hv;simp at hv;subst hv;exact x.one
 keep h _:=h
 sub h _:=h
section
variable {w:World} {M:Nat->Prop} {b o:Nat} {v:Value}
end
def idxOf {α:Type} (p:α->Bool) (l:List α):Int:=if l.any p then(l.findIdx p:Int) else-1
theorem xM {α:Type} {p:α->Bool} {l:List α} {k:Nat} (h:k<l.length) (h0:∀i (hi:i<k),p (l[i]'(by omega))=false) (hp:p l[k]=true):idxOf p l=k:=by
 unfold idxOf;rw[if_pos (List.any_eq_true.2 ⟨l[k],List.getElem_mem h,hp⟩)];have:l.findIdx p=k:=(List.findIdx_eq h).2 ⟨hp,λj hj=>by simpa using h0 j hj⟩;rw[this]
theorem Ce {α:Type} {p:α->Bool} {l:List α} (h0:∀i (hi:i<l.length),p l[i]=false):idxOf p l= -1:=by
 unfold idxOf;rw[if_neg];intro h;obtain⟨x,hx,hp⟩:=List.any_eq_true.1 h;obtain⟨i,hi,rfl⟩:=List.mem_iff_getElem.1 hx;rw[h0 i hi] at hp;cases hp
theorem xN {α:Type} {p:α->Bool} {l:List α}:decide (0<=idxOf p l)=l.any p:=by
 unfold idxOf;cases h:l.any p
 ·rfl
 ·simp only[if_true];exact decide_eq_true (by omega)
theorem M_ {l:List av} {c:av} (h:c∈l):∃i:Nat,idxOf (λx=>decide (c=x)) l=(i:Int)/\∃hi:i<l.length,l[i]=c:=by
 have ha:l.any (λx=>decide (c=x))=true:=List.any_eq_true.2 ⟨c,h,by simp⟩;refine⟨_,by unfold idxOf;rw[if_pos ha],?_⟩;have hlt:l.findIdx (λx=>decide (c=x))<l.length:=List.findIdx_lt_length.2 ⟨c,h,by simp⟩;refine⟨hlt,?_⟩;have:=List.findIdx_getElem (w:=hlt);simpa[eq_comm] using this
def qK (l:List (List av)) (c:av):Int:=idxOf (λp=>p.any λx=>decide (c=x)) l
theorem qL {α:Type} {l:List (List α)} {i:Nat} (h:i<l.length):l.getD i []=l[i]:=by rw[List.getD_eq_getElem?_getD,List.getElem?_eq_getElem h];rfl
theorem Hz {α:Type} {l:List (List α)} {i:Nat} {r:α} (h:r∈l.getD i []):i<l.length:=by
 rcases Nat.lt_or_ge i l.length with h1|h1
 ·exact h1
 ·rw[List.getD_eq_getElem?_getD,List.getElem?_eq_none h1] at h;simp at h
theorem HA {l:List av} {c:av}: (l.any λx=>decide (c=x))=true↔c∈l:=by
 rw[List.any_eq_true];exact⟨λ⟨x,hx,e⟩=>by rw[of_decide_eq_true e];exact hx,λh=>⟨c,h,by simp⟩⟩
theorem HB {l:List a_} {r:av} {i:Nat} (h:r∈(dx l).getD i []):qK (dx l) r=i:=by
 have hi:=Hz h;refine xM hi (λj hj=>Bool.eq_false_iff.2 λhp=>?_) ?_
 ·have:=Me (l:=l) (i:=j) (by rw[qL (show j<(dx l).length by omega)];exact HA.1 hp) h;omega
 ·rw[qL hi] at h;exact HA.2 h
theorem Na (l:List a_): (dx l).length<=(aO l).length:=by unfold dx;rw[mC];exact(xx _ _).length_le
theorem zX {l:List a_} {i:Nat} (h:i<(bk l).length): (bk l)[i]=l.filter λx=>decide (cm l x.A=cm l ((dO (cm l) (aO l))[i]'(by simpa[bk] using h))):=by simp[bk]
theorem Nb {l:List a_} {i:Nat} (h:i<(dx l).length): (dx l)[i]=(aO l).filter λr=>decide (cm l r=cm l ((dO (cm l) (aO l))[i]'(by unfold dx at h;rwa [mC] at h))):=BS h
theorem HC {l:List a_} {i:Nat} (h:i<(bk l).length) (h':i<(dx l).length):aO (bk l)[i]=(dx l)[i]:=by
 rw[zX,Nb];refine GO (vj _) ((vj l).filter _) λr=>?_;rw[gQ,List.mem_filter,gQ,decide_eq_true_eq];constructor
 ·rintro⟨x,hx,e⟩;obtain⟨hx,h2⟩:=List.mem_filter.1 hx;refine⟨⟨x,hx,e⟩,?_⟩;have h2:=of_decide_eq_true h2;rcases e with rfl|rfl
  ·exact h2
  ·rw[<-tP hx];exact h2
 ·rintro⟨⟨x,hx,e⟩,h2⟩;refine⟨x,List.mem_filter.2 ⟨hx,decide_eq_true ?_⟩,e⟩;rcases e with rfl|rfl
  ·exact h2
  ·rw[tP hx];exact h2
theorem HD {l:List a_} (hv:mB l) {i:Nat} (h:i<(bk l).length):mB (bk l)[i]:=by
 rw[zX];exact hv.sub List.filter_sublist
def iK (ds:List cI) (a b:av):Bool:=ds.any λd=>!d.same&&decide (d.A=a/\d.B=b)
def fR (ds:List cI) (a b:av):Bool:=decide (a.a=b.a)||iK ds a b||iK ds b a
theorem Wv (ds:List cI) (a b:av):fR ds a b=fR ds b a:=by
 unfold fR;rw[show decide (a.a=b.a)=decide (b.a=a.a) from decide_eq_decide.2 ⟨Eq.symm,Eq.symm⟩,Bool.or_assoc,Bool.or_assoc,Bool.or_comm (iK ds a b)]
theorem Ww (ds:List cI) (a:av):fR ds a a=true:=by unfold fR;simp
def iX (l:List a_) (s:List av):List a_:=l.filter λx=>decide (x.A∈s/\x.B∈s)
theorem Wx {l:List a_} {s s':List av} (h:∀r,r∈s↔r∈s'):iX l s=iX l s':=by
 unfold iX;refine List.filter_congr λx _=>?_;rw[decide_eq_decide,h,h]
def qM (l:List a_) (s:List av):Prop:=∀x∈s,∀y∈s,cm (iX l s) x=cm (iX l s) y
theorem qM.congr {l:List a_} {s s':List av} (h:∀r,r∈s↔r∈s') (hj:qM l s):qM l s':=λx hx y hy=>by
 rw[<-Wx (l:=l) h];exact hj x ((h x).2 hx) y ((h y).2 hy)
def qg (l:List a_) (s:List av):Bool:=s.all λx=>decide (cm (iX l s) x=cm (iX l s) (s.headD ⟨0,0⟩))
theorem Nc {l:List a_} {s:List av}:qg l s=true↔qM l s:=by
 unfold qg qM;rw[List.all_eq_true];constructor
 ·intro h x hx y hy;have h1:=of_decide_eq_true (h x hx);have h2:=of_decide_eq_true (h y hy);rw[h1,h2]
 ·intro h x hx;rw[decide_eq_true_eq];refine h x hx _ ?_;cases s with
  |nil=>simp at hx
  |cons a s=>simp
def rV (x:a_) (p:List av):Bool:=decide (x.A∈p/\x.B∈p)
def fh (l:List a_) (ps:List (List av)):Int:=((l.filter λx=>ps.any (rV x)).map (·.w)).sum
def iy (sets:List (List av)):List (List av):=sets.filter λs=>decide (2<=s.length)
def ou (ds:List cI) (s:List av) (r:av):Bool:=!(s.any λb=>fR ds b r)
def mG (ds:List cI):List av->List (List av)->List (List (List av))
 |[],sets=>[sets]
 |r::rs,sets=>((List.range sets.length).flatMap λk=>if ou ds (sets.getD k []) r then mG ds rs (sets.set k (sets.getD k []++[r])) else[])++mG ds rs (sets++[[r]])
structure kQ where
 found:Bool
 best:List (List av)
 val:Int
def nL (l:List a_) (sets:List (List av)):Bool:=(iy sets).all (qg l)
def mY (l:List a_) (st:kQ) (sets:List (List av)):kQ:=
 if nL l sets=true/\(st.found=false\/st.val<fh l (iy sets)) then⟨true,iy sets,fh l (iy sets)⟩ else st
def qi (l:List a_) (ds:List cI) (rs:List av) (sets:List (List av)) (st:kQ):kQ:=(mG ds rs sets).foldl (mY l) st
def xO:kQ:=⟨false,[],0⟩
def ov (l:List a_) (ds:List cI):List (List av):=(qi l ds (aO l) [] xO).best
def pF (l:List a_) (ds:List cI) (r:av) (rs:List av) (sets:List (List av)) (st:kQ):Nat->kQ
 |0=>st
 |k+1=>if ou ds (sets.getD k []) r then qi l ds rs (sets.set k (sets.getD k []++[r])) (pF l ds r rs sets st k) else pF l ds r rs sets st k
theorem Nf (l:List a_) (ds:List cI) (r:av) (rs:List av) (sets:List (List av)) (st:kQ):∀k,pF l ds r rs sets st k=((List.range k).flatMap λk=>if ou ds (sets.getD k []) r then mG ds rs (sets.set k (sets.getD k []++[r])) else[]).foldl (mY l) st
 |0=>rfl
 |k+1=>by
  rw[List.range_succ,List.flatMap_append,List.foldl_append,<-Nf l ds r rs sets st k,pF];simp only[List.flatMap_cons,List.flatMap_nil,List.append_nil];split
  ·rfl
  ·rfl
theorem Wy (l:List a_) (ds:List cI) (r:av) (rs:List av) (sets:List (List av)) (st:kQ):qi l ds (r::rs) sets st=qi l ds rs (sets++[[r]]) (pF l ds r rs sets st sets.length):=by
 unfold qi;rw[mG,List.foldl_append,<-Nf]
theorem Wz (l:List a_) (ds:List cI) (sets:List (List av)) (st:kQ):qi l ds [] sets st=mY l st sets:=rfl
section
variable {l:List a_} {ds:List cI} {rs xs:List av} {sets out:List (List av)} {st:kQ}
structure kG (ds:List cI) (xs:List av) (sets:List (List av)):Prop where
 perm:sets.flatten.Perm xs
 ne:∀s∈sets,s≠[]
 sub:∀s∈sets,s.Sublist xs
 bar:∀s∈sets,s.Pairwise λa b=>fR ds a b=false
 heads: (sets.map λs=>s.headD ⟨0,0⟩).Sublist xs
theorem kG.nil:kG ds [] []:=⟨List.Perm.refl _,by simp,by simp,by simp,by simp⟩
theorem Ng:∀{sets:List (List av)} {k:Nat} {r:av},k<sets.length->(sets.set k (sets.getD k []++[r])).flatten.Perm (sets.flatten++[r])
 |[],k,r,h=>by simp at h
 |s::ss,0,r,_=>by
  simp only[List.set_cons_zero,List.getD_cons_zero,List.flatten_cons,List.append_assoc];exact List.Perm.append_left s (List.perm_append_comm)
 |s::ss,k+1,r,h=>by
  simp only[List.set_cons_succ,List.getD_cons_succ,List.flatten_cons,List.append_assoc];exact List.Perm.append_left s (Ng (by simpa using h))
theorem Nh {s:List av} {r:av}:ou ds s r=true↔∀b∈s,fR ds b r=false:=by
 unfold ou;rw[Bool.not_eq_true',List.any_eq_false];exact⟨λh b hb=>by simpa using h b hb,λh b hb=>by rw[h b hb];decide⟩
theorem kG.put (h:kG ds xs sets) {k:Nat} {r:av} (hk:k<sets.length) (hok:ou ds (sets.getD k []) r=true):kG ds (xs++[r]) (sets.set k (sets.getD k []++[r])):=by
 have hm:sets.getD k []∈sets:=by rw[qL hk];exact List.getElem_mem _
 have hin:∀s∈sets.set k (sets.getD k []++[r]),s∈sets\/s=sets.getD k []++[r]:=λs hs=>by
  rcases List.mem_or_eq_of_mem_set hs with h|h
  ·exact .inl h
  ·exact .inr h
 refine⟨(Ng hk).trans (h.perm.append_right _),λs hs=>?_,λs hs=>?_,λs hs=>?_,?_⟩
 ·rcases hin s hs with h1|rfl
  ·exact h.ne s h1
  ·simp
 ·rcases hin s hs with h1|rfl
  ·exact(h.sub s h1).trans (List.sublist_append_left _ _)
  ·exact(h.sub _ hm).append (List.Sublist.refl _)
 ·rcases hin s hs with h1|rfl
  ·exact h.bar s h1
  ·refine List.pairwise_append.2 ⟨h.bar _ hm,List.pairwise_singleton _ _,λa ha b hb=>?_⟩;rw[List.mem_singleton] at hb;subst hb;exact Nh.1 hok a ha
 ·have e: ((sets.set k (sets.getD k []++[r])).map λs=>s.headD ⟨0,0⟩)=sets.map λs=>s.headD ⟨0,0⟩:=by
   apply List.ext_getElem?;intro i;rw[List.getElem?_map,List.getElem?_map,List.getElem?_set];by_cases e:k=i
   ·subst e;rw[if_pos rfl,if_pos hk,List.getElem?_eq_getElem hk];have hne:=h.ne _ hm;rw[qL hk] at hne⊢;cases e2:sets[k] with
    |nil=>exact absurd e2 hne
    |cons a t=>simp
   ·rw[if_neg e]
  rw[e];exact h.heads.trans (List.sublist_append_left _ _)
theorem kG.new (h:kG ds xs sets) (r:av):kG ds (xs++[r]) (sets++[[r]]):=by
 have hin:∀s∈sets++[[r]],s∈sets\/s=[r]:=λs hs=>by
  rcases List.mem_append.1 hs with h|h
  ·exact .inl h
  ·exact .inr (List.mem_singleton.1 h)
 refine⟨by rw[List.flatten_append];simpa using h.perm.append_right [r],λs hs=>?_,λs hs=>?_,λs hs=>?_,?_⟩
 ·rcases hin s hs with h1|rfl
  ·exact h.ne s h1
  ·simp
 ·rcases hin s hs with h1|rfl
  ·exact(h.sub s h1).trans (List.sublist_append_left _ _)
  ·exact List.sublist_append_right _ _
 ·rcases hin s hs with h1|rfl
  ·exact h.bar s h1
  ·exact List.pairwise_singleton _ _
 ·rw[List.map_append];exact h.heads.append (List.Sublist.refl _)
theorem HE:∀{rs xs:List av} {sets:List (List av)},kG ds xs sets->∀out∈mG ds rs sets,kG ds (xs++rs) out
 |[],xs,sets,h,out,ho=>by
  rw[mG,List.mem_singleton] at ho;subst ho;rw[List.append_nil];exact h
 |r::rs,xs,sets,h,out,ho=>by
  rw[mG,List.mem_append,List.mem_flatMap] at ho;have e:xs++r::rs=(xs++[r])++rs:=by simp
  rw[e];rcases ho with⟨k,hk,ho⟩|ho
  ·split at ho
   ·rename_i hok;exact HE (h.put (List.mem_range.1 hk) hok) out ho
   ·simp at ho
  ·exact HE (h.new r) out ho
theorem WA {sets:List (List av)} {i:Nat} {r:av} (h:i<sets.length):sets.modify i (·++[r])=sets.set i (sets.getD i []++[r]):=by
 apply List.ext_getElem?;intro j;rw[List.getElem?_modify,List.getElem?_set,qL h];by_cases e:i=j
 ·subst e;simp[h]
 ·simp[e]
theorem HF {dn:Type} [DecidableEq dn] (f:av->dn):∀(rs xs:List av),(∀a∈xs++rs,∀b∈xs++rs,a≠b->f a=f b->fR ds a b=false)->(xs++rs).Nodup->gJ f (xs++rs)∈mG ds rs (gJ f xs)
 |[],xs,_,_=>by rw[List.append_nil,mG,List.mem_singleton]
 |r::rs,xs,hb,hn=>by
  have e:xs++r::rs=(xs++[r])++rs:=by simp
  rw[e] at hb hn⊢;have ih:=HF f rs (xs++[r]) hb hn;rw[mG,List.mem_append,List.mem_flatMap];by_cases hq:∃q∈dO f xs,f q=f r
  ·obtain⟨q,hq,Ni⟩:=hq;obtain⟨i,hi,rfl⟩:=List.getElem_of_mem hq;left;refine⟨i,List.mem_range.2 (by rw[mC];exact hi),?_⟩;have hlt:i<(gJ f xs).length:=by rw[mC];exact hi
   rw[if_pos]
   ·have h2:=L9 (xs:=xs) (r:=r) hi Ni;rw[h2.2,WA hlt] at ih;exact ih
   ·rw[Nh];intro b ED;rw[qL hlt,BS hlt,List.mem_filter,decide_eq_true_eq] at ED;refine hb b (by simp[ED.1]) r (by simp) (λe=>?_) (by rw[ED.2,Ni]);subst e;have:=(List.nodup_append.1 (List.nodup_append.1 hn).1).2.2 b ED.1 b (by simp);exact this rfl
  ·right;have h2:=L_ (xs:=xs) (r:=r) (f:=f) (λq WB e=>hq ⟨q,WB,e⟩);rw[h2.2] at ih;exact ih
end
section
variable {l:List a_} {ds:List cI} {rs xs:List av} {sets out ps:List (List av)} {st:kQ}
structure Good (l:List a_) (L:List (List (List av))) (st:kQ):Prop where
 no:st.found=false->∀s∈L,nL l s=false
 yes:st.found=true->(∃s∈L,nL l s=true/\st.best=iy s/\st.val=fh l (iy s))/\∀s∈L,nL l s=true->fh l (iy s)<=st.val
theorem Good.step {L:List (List (List av))} (h:Good l L st) (s:List (List av)):Good l (L++[s]) (mY l st s):=by
 unfold mY;by_cases hc:nL l s=true/\(st.found=false\/st.val<fh l (iy s))
 ·rw[if_pos hc];refine⟨λe=>(by cases e),λ_=>⟨⟨s,by simp,hc.1,rfl,rfl⟩,λs' hs' hf=>?_⟩⟩;rcases List.mem_append.1 hs' with h1|h1
  ·show fh l (iy s')<=fh l (iy s);cases e:st.found with
   |false=>rw[h.no e s' h1] at hf;cases hf
   |true=>
    have h2:=(h.yes e).2 s' h1 hf;have h3:=hc.2.resolve_left (by rw[e];decide);omega
  ·rw[List.mem_singleton] at h1;subst h1;exact Int.le_refl _
 ·rw[if_neg hc];refine⟨λe s' hs'=>?_,λe=>⟨?_,λs' hs' hf=>?_⟩⟩
  ·rcases List.mem_append.1 hs' with h1|h1
   ·exact h.no e s' h1
   ·rw[List.mem_singleton] at h1;subst h1;rw[Bool.eq_false_iff];intro hf;exact hc ⟨hf,.inl e⟩
  ·obtain⟨⟨q,h1,h2⟩,_⟩:=h.yes e;exact⟨q,by simp[h1],h2⟩
  ·rcases List.mem_append.1 hs' with h1|h1
   ·exact(h.yes e).2 s' h1 hf
   ·rw[List.mem_singleton] at h1;subst h1;apply Classical.byContradiction;intro hn;exact hc ⟨hf,.inr (by omega)⟩
theorem Good.fold {vN:List (List (List av))}:∀(L:List (List (List av))) {st:kQ} {vN:List (List (List av))},Good l vN st->Good l (vN++L) (L.foldl (mY l) st)
 |[],st,vN,h=>by rw[List.append_nil];exact h
 |s::L,st,vN,h=>by
  have:=Good.fold (vN:=vN) L (h.step s);rw[List.append_assoc] at this;exact this
theorem Good.start:Good l [] xO:=⟨λ_ s h=>by simp at h,λe=>by cases e⟩
theorem WC (f:av->av) (hf:∀a b,f a=f b->a=b) (hn:xs.Nodup):iy (gJ f xs)=[]:=by
 unfold iy;rw[List.filter_eq_nil_iff];intro s hs;obtain⟨i,hi,rfl⟩:=List.getElem_of_mem hs;rw[BS hi];simp only[decide_eq_true_eq];intro h2;have iz:=hn.sublist (List.filter_sublist (p:=λr=>decide (f r=f ((dO f xs)[i]'(by rwa [mC] at hi)))));generalize hL:List.filter (λr=>decide (f r=f ((dO f xs)[i]'(by rwa [mC] at hi)))) xs=L at*;have h0:L[0]∈L:=List.getElem_mem _;have h1:L[1]∈L:=List.getElem_mem _;have e0:f L[0]=f L[1]:=by
  have a:∀z∈L,f z=f ((dO f xs)[i]'(by rwa [mC] at hi)):=λz hz=>by
   rw[<-hL,List.mem_filter] at hz;exact of_decide_eq_true hz.2
  rw[a _ h0,a _ h1]
 have:=List.pairwise_iff_getElem.1 (List.nodup_iff_pairwise_ne.1 iz) 0 1 (by omega) (by omega) (by omega);exact this (hf _ _ e0)
theorem WD (l:List a_) (ds:List cI):∃s,kG ds (aO l) s/\nL l s=true/\ov l ds=iy s/\
  (qi l ds (aO l) [] xO).val=fh l (ov l ds)/\
  ∀{dn:Type} [DecidableEq dn] (f:av->dn),(∀a∈aO l,∀b∈aO l,a≠b->f a=f b->fR ds a b=false)->nL l (gJ f (aO l))=true->fh l (iy (gJ f (aO l)))<=fh l (ov l ds):=by
 have Nj:Good l (mG ds (aO l) []) (qi l ds (aO l) [] xO):=by
  have:=Good.fold (vN:=[]) (mG ds (aO l) []) (Good.start (l:=l));exact this
 have hn:=vw l;have hid:gJ (id:av->av) (aO l)∈mG ds (aO l) []:=by
  have:=HF (ds:=ds) (id:av->av) (aO l) [] (λa _ b _ hne e=>absurd e hne) (by simpa using hn);exact this
 have GZ:nL l (gJ (id:av->av) (aO l))=true:=by
  unfold nL;rw[WC id (λa b e=>e) hn];rfl
 have hfound: (qi l ds (aO l) [] xO).found=true:=by
  cases e: (qi l ds (aO l) [] xO).found with
  |true=>rfl
  |false=>have:=Nj.no e _ hid;rw[GZ] at this;cases this
 obtain⟨⟨s,h1,h2,h3,h4⟩,h5⟩:=Nj.yes hfound;refine⟨s,by have:=HE kG.nil s h1;simpa using this,h2,h3,by rw[h4];unfold ov;rw[h3],λf hb tT=>?_⟩;have:=HF (ds:=ds) f (aO l) [] (by simpa using hb) (by simpa using hn);have h6:=h5 _ this tT;rw[h4] at h6;unfold ov;rw[h3];exact h6
structure iY (l:List a_) (ds:List cI) (ps:List (List av)):Prop where
 jq:∀p∈ps,p.Pairwise fK
 len:∀p∈ps,2<=p.length
 bar:∀p∈ps,p.Pairwise λa b=>fR ds a b=false
 join:∀p∈ps,qM l p
 EE:ps.flatten.Nodup
 heads:ps.Pairwise λp q=>fK (p.headD ⟨0,0⟩) (q.headD ⟨0,0⟩)
theorem Nk {s:List av} (h:qM l s) (h2:2<=s.length) (hn:s.Nodup) {r:av} (hr:r∈s):r∈aO l:=by
 apply Classical.byContradiction;intro hno;have Nl:r∉aO (iX l s):=λhm=>by
  obtain⟨x,hx,e⟩:=gQ.1 hm;exact hno (gQ.2 ⟨x,(List.mem_filter.1 hx).1,e⟩)
 obtain⟨q,hq,hne⟩:∃q∈s,q≠r:=by
  have h0:=List.getElem_mem (l:=s) (n:=0) (by omega);have h1:=List.getElem_mem (l:=s) (n:=1) (by omega);have hne:=List.pairwise_iff_getElem.1 (List.nodup_iff_pairwise_ne.1 hn) 0 1 (by omega) (by omega) (by omega);by_cases e:s[0]=r
  ·exact⟨_,h1,λe2=>hne (by rw[e,e2])⟩
  ·exact⟨_,h0,e⟩
 have e1:=h q hq r hr;rw[L8 Nl] at e1;by_cases iL:q∈aO (iX l s)
 ·have:=L7.2 iL;rw[e1] at this;exact Nl this
 ·rw[L8 iL] at e1;exact hne e1
theorem iY.nodup (h:iY l ds ps) {p:List av} (hp:p∈ps):p.Nodup:=BR (h.jq p hp)
theorem iY.refs (h:iY l ds ps) {p:List av} (hp:p∈ps) {r:av} (hr:r∈p):r∈aO l:=Nk (h.join p hp) (h.len p hp) (h.nodup hp) hr
end
def vO (c d:jf):Prop:=fK c.A d.A\/c.A=d.A/\fK c.B d.B
section
variable {m:vM} {sh qN:List (List eV)} {n k r s q i j:Nat} {x y:eV} {l:List eV}
theorem WE (h:l.Pairwise λx y=>x.rc.id<y.rc.id): (lR m r s x l).Pairwise vO:=by
 unfold lR;rw[List.pairwise_map];exact(h.filter _).imp λ{a b} hab=> .inr ⟨rfl,.inr ⟨rfl,hab⟩⟩
theorem HG {c:jf}:c∈lR m r s x l↔∃y∈l,qI x y=true/\c=qJ m ⟨r,x.rc.id⟩ ⟨s,y.rc.id⟩ x y:=by
 unfold lR;simp only[List.mem_map,List.mem_filter];exact⟨λ⟨y,⟨h1,h2⟩,e⟩=>⟨y,h1,h2,e.symm⟩,λ⟨y,h1,h2,e⟩=>⟨y,⟨h1,h2⟩,e.symm⟩⟩
theorem Cf {c:jf}:c∈lT m sh r x q->c.A=⟨r,x.rc.id⟩:=λh=>by
 unfold lT at h;obtain⟨s,_,h⟩:=List.mem_flatMap.1 h;obtain⟨y,_,_,rfl⟩:=HG.1 h;rfl
theorem WG (h:kP n k sh): (lT m sh r x q).Pairwise vO:=by
 unfold lT;rw[List.pairwise_flatMap];refine⟨λs _=>WE (h.at_ s).jq,(List.pairwise_lt_range' (s:=r+1) (n:=q) (step:=1)).imp λ{a b} hab c hc d hd=>?_⟩;obtain⟨y,_,_,rfl⟩:=HG.1 hc;obtain⟨z,_,_,rfl⟩:=HG.1 hd;exact .inr ⟨rfl,.inl (by show(a:Int)<b;omega)⟩
theorem Nn {c:jf}:c∈lU m sh r l->c.A.a=r:=λh=>by
 obtain⟨x,_,h⟩:=List.mem_flatMap.1 h;rw[Cf h]
theorem WH (h:kP n k sh) (hl:l.Pairwise λx y=>x.rc.id<y.rc.id): (lU m sh r l).Pairwise vO:=by
 unfold lU;rw[List.pairwise_flatMap];refine⟨λx _=>WG h,hl.imp λ{a b} hab c hc d hd=>?_⟩;have h1:=Cf hc;have h2:=Cf hd;refine .inl ?_;rw[h1,h2];exact .inr ⟨rfl,hab⟩
theorem Np (h:kP n k sh): (iJ m sh q).Pairwise vO:=by
 unfold iJ;rw[List.pairwise_flatMap];refine⟨λr _=>WH h (h.at_ r).jq,List.pairwise_lt_range.imp λ{a b} hab c hc d hd=>?_⟩;have h1:=Nn hc;have h2:=Nn hd;refine .inl (.inl ?_);rw[h1,h2];omega
theorem WI {c d:jf} (h:vO c d):vi c.A c.B d.A d.B<0:=by
 have h1:= @GK ⟨c.A,c.B,0⟩ ⟨d.A,d.B,0⟩;have h2:oZ ⟨c.A,c.B,0⟩ ⟨d.A,d.B,0⟩:=h;have h3:¬0<=vi c.A c.B d.A d.B:=λe=>h1.1 e h2;omega
theorem HI {lo hi s:Int}:vL lo hi s=2↔hi<=s:=by unfold vL;split<;>(try split)<;>omega
def kj (hi:Int) (cs:List jf):List a_:=(cs.filter λc=>decide (hi<=c.wt)).map λc=>⟨c.A,c.B,max c.wt hi⟩
theorem WJ {hi:Int} {cs:List jf} (hj:j<cs.length):kj hi (cs.take (j+1))=kj hi (cs.take j)++(if hi<=cs[j].wt then[⟨cs[j].A,cs[j].B,max cs[j].wt hi⟩] else[]):=by
 unfold kj;rw[List.take_succ_eq_append_getElem hj,List.filter_append,List.map_append];congr 1;by_cases h:hi<=cs[j].wt
 ·rw[if_pos h,List.filter_cons_of_pos (by simpa using h)];rfl
 ·rw[if_neg h,List.filter_cons_of_neg (by simpa using h)];rfl
theorem Nq {hi:Int} {cs:List jf}: (kj hi cs).length<=cs.length:=by unfold kj;rw[List.length_map];exact List.length_filter_le _ _
theorem Nr {hi:Int} {cs:List jf} {b:a_}:b∈kj hi cs↔∃c∈cs,hi<=c.wt/\b=⟨c.A,c.B,max c.wt hi⟩:=by
 unfold kj;simp only[List.mem_map,List.mem_filter,decide_eq_true_eq];exact⟨λ⟨y,⟨h1,h2⟩,e⟩=>⟨y,h1,h2,e.symm⟩,λ⟨y,h1,h2,e⟩=>⟨y,⟨h1,h2⟩,e.symm⟩⟩
structure zY (m:vM):Prop where
 w:lQ m.pr m.bL m.df
 t:m.ef.length=m.bL.length
theorem zY.wt (h:zY m) (a b:av) (x y:eV):-393216<=(qJ m a b x y).wt/\(qJ m a b x y).wt<=393216:=h.w.sc _ (Nat.le_refl _)
theorem Ns (h:kP n k sh) {c:jf} (hc:c∈iJ m sh q):k6 c.A c.B=true:=by
 obtain⟨r,s,x,y,_,h1,h2,hx,hy,_,rfl⟩:=EC.1 hc;have hl:=h.len;have e1:=((h.at_ r).all x hx).id;have e2:=((h.at_ s).all y hy).id;unfold B_ at e1 e2;unfold k6 lP qJ;simp only[Bool.and_eq_true,decide_eq_true_eq];omega
theorem Nt {hi:Int} (h:kP n k sh) (hm:zY m) (h1:1<=hi) (h2:hi<=65536):mB (kj hi (iJ m sh sh.length)):=by
 have hl:=h.len;refine⟨Nat.le_trans Nq (Nat.le_trans (Hy h _) (by omega)),λb hb=>?_,?_⟩
 ·obtain⟨c,hc,h3,rfl⟩:=Nr.1 hb;have e:=Ns h hc;obtain⟨r,s,x,y,_,_,_,_,_,_,rfl⟩:=EC.1 hc;have:=hm.wt ⟨r,x.rc.id⟩ ⟨s,y.rc.id⟩ x y;exact⟨e,by show 1<=max _ _;omega,by show max _ _<=_;omega⟩
 ·unfold kj;rw[List.pairwise_map];exact((Np h).filter _).imp λ{a b} hab=>hab
theorem WK {hi:Int} {c:av} (hc:c∈aO (kj hi (iJ m sh q))):∃r x,r<sh.length/\x∈jJ sh r/\c=⟨r,x.rc.id⟩:=by
 obtain⟨b,hb,e⟩:=gQ.1 hc;obtain⟨d,hd,_,rfl⟩:=Nr.1 hb;obtain⟨r,s,x,y,_,h1,h2,hx,hy,_,rfl⟩:=EC.1 hd;rcases e with rfl|rfl
 ·exact⟨r,x,by omega,hx,rfl⟩
 ·exact⟨s,y,h2,hy,rfl⟩
theorem WL (h:kP n k sh) (hm:zY m):∀c∈iJ m sh q,k6 c.A c.B=true/\-1048576<=c.wt/\c.wt<=1048576:=λc hc=>by
 have e:=Ns h hc;obtain⟨r,s,x,y,_,_,_,_,_,_,rfl⟩:=EC.1 hc;have:=hm.wt ⟨r,x.rc.id⟩ ⟨s,y.rc.id⟩ x y;exact⟨e,by omega,by omega⟩
theorem WM {hi:Int} (h:kP n k sh): (aO (kj hi (iJ m sh sh.length))).length<=12:=by
 have h1: (aO (kj hi (iJ m sh sh.length))).length<=((List.range sh.length).flatMap λr=>(jJ sh r).map λx=>(⟨(r:Int),x.rc.id⟩:av)).length:=
  (vw _).length_le_of_subset λc hc=>by
   obtain⟨r,x,hr,hx,rfl⟩:=WK hc;exact List.mem_flatMap.2 ⟨r,List.mem_range.2 hr,List.mem_map.2 ⟨x,hx,rfl⟩⟩
 have h2:=Cc (l:=List.range sh.length) (f:=λr=>(jJ sh r).map λx=>(⟨(r:Int),x.rc.id⟩:av)) (b:=4) λr _=>by rw[List.length_map];exact(h.at_ r).len
 rw[List.length_range] at h2;have:=h.len;omega
structure tU (n k:Nat) (l:List eV) (id:Int):Prop where
 all:∀x∈l,M3 n k x
 jq:l.Pairwise λx y=>x.rc.id<y.rc.id
 top:∀x∈l,x.rc.id<=id
 Nu:0<=id
 Nv:id<=2*l.length
theorem tU.nil:tU n k [] 0:=⟨by simp,List.Pairwise.nil,by simp,by omega,by simp⟩
theorem tU.snoc {l:List eV} {id id' ver:Int} {fl:List Bits} {hl:List jk} {sW:List Bool} (h:tU n k l id) (h1:id<id') (h2:id'<=id+2) (v1:1<=ver) (v2:ver<=2) (hm:l.length<=100) (hf:fl.length=n) (hg:∀b∈fl,qG b) (hh:hl.length=k) (hb:sW.length=k):
  tU n k (l++[⟨⟨id',ver,fl⟩,hl,sW⟩]) id':=by
 have h0:=h.Nu;have h3:=h.Nv;refine⟨λx hx=>?_,?_,λx hx=>?_,by omega,by simp only[List.length_append,List.length_cons,List.length_nil];omega⟩
 ·rcases List.mem_append.1 hx with hx|hx
  ·exact h.all x hx
  ·rw[List.mem_singleton.1 hx];exact⟨⟨by show 1<=id';omega,by show id'<=1048576;omega⟩,⟨v1,by show ver<=1048576;omega⟩,hf,hg,hh,hb⟩
 ·rw[List.pairwise_append];refine⟨h.jq,List.pairwise_singleton _ _,λx hx y hy=>?_⟩;rw[List.mem_singleton.1 hy];have:=h.top x hx;show x.rc.id<id';omega
 ·rcases List.mem_append.1 hx with hx|hx
  ·have:=h.top x hx;omega
  ·rw[List.mem_singleton.1 hx];exact Int.le_refl _
theorem tU.ok {l:List eV} {id:Int} (h:tU n k l id) (hl:l.length<=4):rU n k l:=⟨hl,h.all,h.jq⟩
def sX:List jk:=[⟨255⟩,⟨254⟩,⟨61680⟩,⟨1⟩,⟨4294901760⟩,⟨0⟩]
theorem WN {k:Nat} (h:k<sX.length):om (sX[k]).n:=by
 have h1:∀x∈sX,om x.n:=by simp[sX,om]
 exact h1 _ (List.getElem_mem h)
def zZ (g:av) (c:jf):Bool:=decide (c.A≠g)&&decide (c.B≠g)
def qO (g:av) (s:Nat) (l:List eV):List eV:=l.filter λy=>decide ((⟨s,y.rc.id⟩:av)≠g)
theorem WO {g:av}:lR m r s x (qO g s l)=(lR m r s x l).filter λc=>decide (c.B≠g):=by
 unfold lR qO;rw[List.filter_map,List.filter_filter,List.filter_filter];congr 1;refine List.filter_congr λy _=>?_;rw[Bool.eq_iff_iff];simp only[Function.comp,qJ,Bool.and_eq_true,decide_eq_true_eq];exact and_comm.trans (and_congr decide_eq_true_iff.symm Iff.rfl)
theorem WQ {g:av} (hs:∀s,jJ qN s=qO g s (jJ sh s)):lT m qN r x q=(lT m sh r x q).filter λc=>decide (c.B≠g):=by
 unfold lT;rw[List.filter_flatMap];congr 1;funext s;rw[hs,WO]
theorem WR {g:av} (hl:qN.length=sh.length) (hs:∀s,jJ qN s=qO g s (jJ sh s)):lU m qN r (qO g r l)=(lU m sh r l).filter (zZ g):=by
 unfold lU;rw[List.filter_flatMap,hl]
 induction l with
 |nil=>rfl
 |cons a l ih=>
  rw[List.flatMap_cons,<-ih];unfold qO;by_cases h: (⟨(r:Int),a.rc.id⟩:av)≠g
  ·rw[List.filter_cons_of_pos (by simpa using h),List.flatMap_cons,WQ hs];congr 1;refine List.filter_congr λc hc=>?_;unfold zZ;rw[Cf hc,decide_eq_true h,Bool.true_and]
  ·rw[List.filter_cons_of_neg (by simpa using h)];have e: (lT m sh r a (sh.length-(r+1))).filter (zZ g)=[]:=List.filter_eq_nil_iff.2 λc hc=>by
    unfold zZ;rw[Cf hc,decide_eq_false h,Bool.false_and];simp
   rw[e,List.nil_append]
theorem WS {g:av} (hl:qN.length=sh.length) (hs:∀s,jJ qN s=qO g s (jJ sh s)):iJ m qN q=(iJ m sh q).filter (zZ g):=by
 unfold iJ;rw[List.filter_flatMap];congr 1;funext r;rw[hs,WR hl hs]
def tV (g:av) (b:a_):Bool:=decide (b.A≠g)&&decide (b.B≠g)
theorem WT {g:av} {hi:Int} (hl:qN.length=sh.length) (hs:∀s,jJ qN s=qO g s (jJ sh s)):kj hi (iJ m qN q)=(kj hi (iJ m sh q)).filter (tV g):=by
 unfold kj;rw[WS hl hs,List.filter_map,List.filter_filter,List.filter_filter];congr 1;refine List.filter_congr λc _=>?_;rw[Bool.eq_iff_iff];simp only[Function.comp,tV,zZ,Bool.and_eq_true,decide_eq_true_eq];exact and_comm
end
structure vP where
 i:Nat
 t:Option Nat
 sup:List (Nat×Nat)
 W:List Nat
 bad:List Nat
 kill:List Nat
 dep:List Nat
 use:List Nat
 xP:List Nat
 F:Value->List Value->World->(Nat->Nat)->Prop
structure HJ where
 bad:List Nat
 F:World->(Nat->Nat)->Prop
def tW (V:List HJ) (u:Nat) (w:World) (C:Nat->Nat):Prop:=match V[u]? with|some v=>v.F w C|none=>True
def EF (V:List HJ) (u:Nat):List Nat:=match V[u]? with|some v=>v.bad|none=>[]
def qj (val:Nat->Value):List (Nat×Nat)->Env->Env
 |[],e=>e
 |(i,t)::l,e=>(t,val i)::qj val l e
def vals (val:Nat->Value) (l:List (Nat×Nat)):List Value:=l.map λp=>val p.1
def Ch (val:Nat->Value):List vP->Env->Env
 |[],e=>e
 |m::ms,e=>match m.t with|some t=>(t,val m.i)::Ch val ms e|none=>Ch val ms e
def HK (val:Nat->Value) (w:World) (C:Nat->Nat) (ks:List Nat):List vP->Prop
 |[]=>True
 |m::ms=>(bif ks.contains m.i then True else m.F (val m.i) (vals val m.sup) w C)/\HK val w C ks ms
theorem Nw {val:Nat->Value} {w:World} {C:Nat->Nat} {ks:List Nat}:∀{ms:List vP},(∀m∈ms,m.i∉ks->m.F (val m.i) (vals val m.sup) w C)->HK val w C ks ms
 |[],_=>trivial
 |m::ms,h=>by
  refine⟨?_,Nw λn hn=>h n (List.mem_cons_of_mem _ hn)⟩;cases hc:ks.contains m.i with
  |true=>trivial
  |false=>exact h m (by simp) λhm=>(by rw[List.contains_iff_mem.2 hm] at hc;cases hc)
def ig (P:Program) (N:Nat) (ops:Array Oper) (i:Nat) (env:Env) (w:World) (T:Value->World->Prop):Prop:=
 ∀(Q:Exit->Act->World->Prop) a,gX N env a->wpOp P ops Q i (λa' w'=>∃v,a'=a.put ((ops[i]?).bind (·.dst)) v/\T v w') a w
section
variable {P:Program} {N:Nat} {ops:Array Oper} {i:Nat} {env:Env} {w:World} {T Nx:Value->World->Prop} {d:Option Nat} {op:Op}
theorem ig.act (hop:cv ops i=some (d,op,none)) (hy:gY P N env op w T):ig P N ops i env w T:=λQ a ha=>by
 obtain⟨o,ho,rfl,rfl,hg⟩:=rE hop;have hw:Region.wanted o (yielded ops a.tmps)=true:=by unfold Region.wanted;rw[hg]
 simp only[wpOp,ho,hw,if_true,Option.bind_some];obtain⟨v,w',hrun,hT⟩:=hy a ha o rfl;left;unfold Oper.wp;rcases hrun with hrun|⟨hrun,rfl⟩
 ·rw[hrun];exact⟨v,rfl,hT⟩
 ·rw[hrun];exact⟨undef,rfl,hT⟩
theorem ig.val {v:Value} (hop:cv ops i=some (d,op,none)) (hy:cL P N env op w v):ig P N ops i env w (λx w'=>x=v/\w'=w):=ig.act hop hy.acts
theorem ig.call {g:FuncId} {args:Array Value} (hop:cv ops i=some (d,op,none)) (hy:Enters P N env op w g args) (hc:Calls P g args w (bI T)):ig P N ops i env w T:=λQ a ha=>by
 obtain⟨o,ho,rfl,rfl,hg⟩:=rE hop;have hw:Region.wanted o (yielded ops a.tmps)=true:=by unfold Region.wanted;rw[hg]
 simp only[wpOp,ho,hw,if_true,Option.bind_some];left;unfold Oper.wp;rw[hy a ha o rfl];simp only[Oper.upon];refine hc.mono λe w' he=>?_;obtain⟨v,rfl,hT⟩:=he;exact⟨v,rfl,hT⟩
theorem ig.to {α:Type} [bu α] {xs:List α} {M:Nat->Prop} {ty e':TypeId} {y z:Operand} {v:Value} {kd:IntKind} {n:Int} (hop:cv ops i=some (d,.slice ty y none (some z) none,none)) (hl:aB w M xs v) (hy:ev env y=some v)
  (hf:jd P ty=some (e',sz α)) (hz:ev env z=some (.int kd n)) (h0:0<=n) (h1:n<=xs.length):ig P N ops i env w (λv2 w'=>aB w M (xs.take n.toNat) v2/\w'=w):=by
 obtain⟨v2,h2,h3⟩:=hl.Ea (P:=P) (N:=N) hy hf hz h0 h1;exact λQ a ha=>wpOp_mono (λa' w' ⟨v,e,h⟩=>⟨v,e,by obtain⟨rfl,rfl⟩:=h;exact⟨h2,rfl⟩⟩) ((ig.val hop (h3 w)) Q a ha)
theorem ig.mono (h:ig P N ops i env w T) (hT:∀v w',T v w'->Nx v w'):ig P N ops i env w Nx:=λQ a ha=>wpOp_mono (λa' w' ⟨v,e,h⟩=>⟨v,e,hT v w' h⟩) (h Q a ha)
end
def qP (ops:Array Oper) (i j:Nat):Bool:=match ops[i]? with|some o=>o.after.any (λe=>Region.binds .any e&&Nat.beq e.on j)|none=>false
def Ny (ops:Array Oper) (I:List Nat) (A:List Nat) (ms:List vP) (V:List (List Nat)):Bool:=
 sP ops ops.size (Array.replicate ops.size false) A&&
 (List.range ops.size).all (λu=>A.contains u||ms.any (λm=>Nat.beq m.i u))&&
 ms.all (λm=>Nat.blt m.i ops.size&&!(A.contains m.i)&&m.W.all (λc=>I.contains c)&&
  m.sup.all (λp=>ms.any (λn=>Nat.beq n.i p.1&&n.t==some p.2))&&(m.sup.map (·.1)++m.dep).all (λj=>qP ops m.i j&&Nat.blt j m.i&&ms.all (λk=>!(k.kill.contains j)||Nat.beq k.i m.i||qP ops k.i m.i))&&
  ms.all (λn=>Nat.beq n.i m.i||qP ops n.i m.i||(m.kill.contains n.i||m.W.all (λc=>!(n.bad.contains c)))))&&
 (List.range ops.size).all (λu=>match ops[u]? with|some o=>o.after.all (λe=>Nat.blt e.on u)|none=>true)&&
 ms.all (λm=>m.use.all (λu=>Nat.blt u V.length&&ms.all (λk=>!(k.xP.contains u)||Nat.beq k.i m.i||qP ops k.i m.i))&&(List.range V.length).all (λu=>m.xP.contains u||m.W.all (λc=>!((V.getD u []).contains c))))
theorem EG {ops:Array Oper} {l:Array Bool} (hc:mS ops l) {i j:Nat} (h:qP ops i j=true) (hi:l.getD i false=true):l.getD j false=true:=by
 unfold qP at h;cases ho:ops[i]? with
 |none=>rw[ho] at h;cases h
 |some o=>
  rw[ho] at h;obtain⟨e,he,hb⟩:=Array.any_eq_true'.1 h;rw[Bool.and_eq_true] at hb;rw[<-Nat.eq_of_beq_eq_true hb.2];exact hc.2 i o ho hi e he hb.1
theorem WU {ops:Array Oper} {l:Array Bool} {i j:Nat} (h:qP ops i j=true) (hr:i∈Region.ready .any ops l):l.getD j false=true:=by
 obtain⟨_,o,ho,hall⟩:=mem_ready.1 hr;unfold qP at h;rw[ho] at h;obtain⟨e,he,hb⟩:=Array.any_eq_true'.1 h;rw[Bool.and_eq_true] at hb;rw[<-Nat.eq_of_beq_eq_true hb.2];exact hall e he hb.1
theorem Nz {N:Nat} {val:Nat->Value} {env:Env} {a:Act} (ha:gX N env a):∀(l:List (Nat×Nat)),(∀p∈l,a.tmps[p.2]?=some (val p.1))->gX N (qj val l env) a
 |[],_=>ha
 |(i,t)::l,h=>by
  have ih:=Nz ha l λp hp=>h p (by simp[hp]);refine⟨ih.size,ih.defers,λu v hl=>?_⟩;simp only[qj,look] at hl;cases hb:Nat.beq t u with
  |true=>
   rw[hb] at hl;simp only[cond_true,Option.some.injEq] at hl;rw[<-Nat.eq_of_beq_eq_true hb,<-hl];exact h (i,t) (by simp)
  |false=>rw[hb] at hl;exact ih.slot u v hl
theorem HL {l:Array Bool} {i:Nat} (h:i<l.size):l.getD i true=l.getD i false:=by simp[Array.getD,h]
theorem NA {ops:Array Oper}:∀(A:List Nat) (n:Nat) (l:Array Bool),sP ops n l A=true->∀j∈A,j<ops.size
 |[],_,_,_,j,hj=>by simp at hj
 |a::A,0,_,h,_,_=>by cases h
 |a::A,n+1,l,h,j,hj=>by
  simp only[sP,Bool.and_eq_true] at h;rcases List.mem_cons.1 hj with rfl|hj
  ·obtain⟨_,o,ho,_⟩:=mem_ready.1 (show j∈Region.ready .any ops l by simpa using h.1.1.2);exact(Array.getElem?_eq_some_iff.1 ho).1
  ·exact NA A n _ h.2 j hj
theorem NB {ops:Array Oper}:∀(A:List Nat) (n:Nat) (l:Array Bool),sP ops n l A=true->∀j∈A,l.getD j true=false
 |[],_,_,_,j,hj=>by simp at hj
 |a::A,0,_,h,_,_=>by cases h
 |a::A,n+1,l,h,j,hj=>by
  simp only[sP,Bool.and_eq_true] at h;have ha:=(mem_ready.1 (show a∈Region.ready .any ops l by simpa using h.1.1.2)).1;rcases List.mem_cons.1 hj with rfl|hj
  ·exact ha
  ·have:=NB A n _ h.2 j hj;by_cases e:a=j
   ·subst e;exact ha
   ·rw[getD_set_ne true e] at this;exact this
theorem NC {ops:Array Oper}:∀(A:List Nat) (n:Nat) (l:Array Bool),sP ops n l A=true->A.Nodup
 |[],_,_,_=>List.nodup_nil
 |a::A,0,_,h=>by cases h
 |a::A,n+1,l,h=>by
  have h0:=h;simp only[sP,Bool.and_eq_true] at h;refine List.nodup_cons.2 ⟨λhm=>?_,NC A n _ h.2⟩;have h1:=NB A n _ h.2 a hm;have ha:=(mem_ready.1 (show a∈Region.ready .any ops l by simpa using h.1.1.2)).1;have hs:a<l.size:=by
   rcases Nat.lt_or_ge a l.size with h|h
   ·exact h
   ·simp[Array.getElem?_eq_none h] at ha
  simp[Array.getD,hs] at h1
theorem ND {P:Program} {f:FuncId} {N:Nat} {k:List Item} {env:Env} {w:World} {R:Value->World->Prop} {c:Code} {id:Nat} {ops:Array Oper} {C:Nat->Nat} (I:List Nat) (J:World->(Nat->Nat)->Prop) (V:List HJ) (A:List Nat) (ms:List vP) (hm:P.follows .mixedOrders=true) (hc:c=.region id ops true)
  (hn:Region.noSelect ops=true) (hk:Ny ops I A ms (V.map (·.bad))=true) (hF:aL w C) (hJ:J {w with drawn:=w.drawn+1} C)
  (hV:∀v∈V,v.F w C/\∀w1 aW w2 eM W,(∀c∈W,c∉v.bad)->v.F w1 aW->ay W w1 aW w2 eM->v.F w2 eM)
  (h:G0 P N ops A env λtX=>
   (∀m∈ms,D7 ops m.i=some (m.t,none)/\qw N m.t=true/\(∀t,m.t=some t->look tX t=none)/\
    (∀v vs w1 aW w2 eM W,(∀c∈W,c∉m.bad)->m.F v vs w1 aW->ay W w1 aW w2 eM->m.F v vs w2 eM)/\
    (∀val w1 aW,ay I w C w1 aW->aL w1 aW->J w1 aW->(∀n∈ms,n.i∈m.sup.map (·.1)++m.dep->n.F (val n.i) (vals val n.sup) w1 aW)->(∀u∈m.use,tW V u w1 aW)->
     ig P N ops m.i (qj val m.sup tX) w1 (λv w'=>∃aQ,ay m.W w1 aW w' aQ/\aL w' aQ/\J w' aQ/\m.F v (vals val m.sup) w' aQ)))/\
   (ms.map (·.i)).Nodup/\(ms.filterMap (·.t)).Nodup/\
   ∀val w' aQ,ay I w C w' aQ->aL w' aQ->J w' aQ->HK val w' aQ (ms.flatMap (·.kill)) ms->(∀u,u<V.length->u∉ms.flatMap (·.xP)->tW V u w' aQ)->aj P f N k R ops (λ_=>True) [] (Ch val ms tX) w'):
  Run P f N (.code c::k) env w R:=λa ha=>by
 subst hc;unfold Ny at hk;rw[Bool.and_eq_true,Bool.and_eq_true,Bool.and_eq_true,Bool.and_eq_true] at hk;obtain⟨⟨⟨⟨nM,hk2⟩,xQ⟩,Ci⟩,NF⟩:=hk;rw[List.all_eq_true] at hk2 xQ Ci NF;have NG:∀u w1 aW w2 eM W,(∀c∈W,c∉EF V u)->tW V u w1 aW->ay W w1 aW w2 eM->tW V u w2 eM:=λu w1 aW w2 eM W hW h1 hs=>by
  unfold tW EF at*;cases e:V[u]? with
  |none=>trivial
  |some v=>rw[e] at h1 hW;exact(hV v (List.mem_of_getElem? e)).2 _ _ _ _ _ hW h1 hs
 have NH:∀m∈ms,(∀u∈m.use,u<V.length/\∀q∈ms,u∈q.xP->q.i=m.i\/qP ops q.i m.i=true)/\∀u,u<V.length->u∈m.xP\/∀c∈m.W,c∉EF V u:=λm iZ=>by
  have h0:=NF m iZ;simp only[Bool.and_eq_true,Bool.not_eq_true',List.all_eq_true,List.contains_iff_mem,Bool.or_eq_true,Bool.eq_false_iff,ne_eq,List.length_map,List.mem_range] at h0;refine⟨λu hu=>⟨by
           have:u+1<=V.length:=by simpa[Nat.blt] using(h0.1 u hu).1
           omega,λq hq xR=>?_⟩,λu hu=>?_⟩
  ·rcases(h0.1 u hu).2 q hq with(b|b)|b
   ·exact absurd xR b
   ·exact .inl (Nat.eq_of_beq_eq_true b)
   ·exact .inr b
  ·rcases h0.2 u hu with b|b
   ·exact .inl b
   ·right;intro c hc hcb;refine b c hc ?_;unfold EF at hcb;rw[List.getD_eq_getElem?_getD,List.getElem?_map];rw[List.getElem?_eq_getElem hu] at hcb⊢;exact hcb
 refine wS (wp_region_any hm (wU (S:=λ_=>True) (dc:=ops.size) _ _ _ _ ?_));have hQ:∀c (a:Act) d v w,pT P f k R (.panic c) (Act.put a d v) w->pT P f k R (.panic c) a w:=λc a d v w h=>h.elim;have Cj:ay I w C {w with drawn:=w.drawn+1} C:=ay.drew I w C;refine Mj (N:=N) (w:={w with drawn:=w.drawn+1}) hn hQ A ops.size _ env a nM (Bn ops) h ha (λtX a2 hK ha2 dP=>?_);obtain⟨pG,hni,hnt,tT⟩:=hK;have WV:∀(l:List vP),(l.map (·.i)).Nodup->∀m∈l,∀m'∈l,m.i=m'.i->m=m':=by
  intro l
  induction l with
  |nil=>intro _ m hm;simp at hm
  |cons x l ih=>
   intro iz m hm m' hm' e;rw[List.map_cons,List.nodup_cons] at iz;rcases List.mem_cons.1 hm with e1|h1
   ·rcases List.mem_cons.1 hm' with e2|h2
    ·rw[e1,e2]
    ·subst e1;exact absurd (List.mem_map.2 ⟨m',h2,e.symm⟩) iz.1
   ·rcases List.mem_cons.1 hm' with e2|h2
    ·subst e2;exact absurd (List.mem_map.2 ⟨m,h1,e⟩) iz.1
    ·exact ih iz.2 m h1 m' h2 e
 have WW:∀(l:List vP),(l.filterMap (·.t)).Nodup->∀m∈l,∀m'∈l,∀t,m.t=some t->m'.t=some t->m=m':=by
  intro l
  induction l with
  |nil=>intro _ m hm;simp at hm
  |cons x l ih=>
   intro iz m hm m' hm' t e1 e2;have hx:∀t,x.t=some t->∀y∈l,y.t≠some t:=λt EH y hy WX=>by
    rw[List.filterMap_cons_some EH,List.nodup_cons] at iz;exact iz.1 (List.mem_filterMap.2 ⟨y,hy,WX⟩)
   have WY: (l.filterMap (·.t)).Nodup:=by
    cases EH:x.t with
    |none=>rwa [List.filterMap_cons_none EH] at iz
    |some u=>rw[List.filterMap_cons_some EH,List.nodup_cons] at iz;exact iz.2
   rcases List.mem_cons.1 hm with q1|h1
   ·rcases List.mem_cons.1 hm' with q2|h2
    ·rw[q1,q2]
    ·subst q1;exact absurd e2 (hx t e1 m' h2)
   ·rcases List.mem_cons.1 hm' with q2|h2
    ·subst q2;exact absurd e1 (hx t e2 m h1)
    ·exact ih WY m h1 m' h2 t e1 e2
 have spec:∀m∈ms,m.i<ops.size/\m.i∉A/\(∀c∈m.W,c∈I)/\
   (∀p∈m.sup,∃n∈ms,n.i=p.1/\n.t=some p.2)/\(∀j∈m.sup.map (·.1)++m.dep,qP ops m.i j=true/\j<m.i/\∀q∈ms,j∈q.kill->q.i=m.i\/qP ops q.i m.i=true)/\
   ∀n∈ms,n.i≠m.i->qP ops n.i m.i=true\/n.i∈m.kill\/∀c∈m.W,c∉n.bad:=λm iZ=>by
  have h0:=xQ m iZ;simp only[Bool.and_eq_true,Bool.not_eq_true',List.all_eq_true,List.contains_iff_mem,List.any_eq_true,Bool.or_eq_true,beq_iff_eq,Bool.eq_false_iff,ne_eq] at h0;obtain⟨⟨⟨⟨⟨h1,h2⟩,h3⟩,h6⟩,h4⟩,h5⟩:=h0;refine⟨by
        have:m.i+1<=ops.size:=by simpa[Nat.blt] using h1
        omega,h2,h3,λp hp=>?_,λp hp=>?_,λn hn' hne=>?_⟩
  ·obtain⟨n,WZ,hn2,EI⟩:=h6 p hp;exact⟨n,WZ,Nat.eq_of_beq_eq_true hn2,EI⟩
  ·obtain⟨⟨a1,a2⟩,a4⟩:=h4 p hp;refine⟨a1,by
          have:p+1<=m.i:=by simpa[Nat.blt] using a2
          omega,λq hq xR=>?_⟩
   rcases a4 q hq with(b|b)|b
   ·exact absurd xR b
   ·exact .inl (Nat.eq_of_beq_eq_true b)
   ·exact .inr b
  ·rcases h5 n hn' with(b|b)|b|b
   ·exact absurd (Nat.eq_of_beq_eq_true b) hne
   ·exact .inl b
   ·exact .inr (.inl b)
   ·exact .inr (.inr b)
 have jg:∀u (o:Oper),ops[u]?=some o->∀e∈o.after,e.on<u:=λu o ho e he=>by
  have hu:=(Array.getElem?_eq_some_iff.1 ho).1;have:=Ci u (List.mem_range.2 hu);rw[ho] at this;have h2:=(Array.all_eq_true'.1 this) e he;have:e.on+1<=u:=by simpa[Nat.blt] using h2
  omega
 have NI:∀u,u<ops.size->u∈A\/∃m∈ms,m.i=u:=λu hu=>by
  have:=hk2 u (List.mem_range.2 hu);simp only[Bool.or_eq_true,List.contains_iff_mem,List.any_eq_true] at this;rcases this with h1|⟨m,h1,h2⟩
  ·exact .inl h1
  ·exact .inr ⟨m,h1,Nat.eq_of_beq_eq_true h2⟩
 have main:∀(n:Nat) (l:Array Bool) (a:Act) (w':World),l.size=ops.size->mS ops l->(∀j∈A,l.getD j false=true)->(ms.filter λm=>!(l.getD m.i false)).length<=n->
   (∃(aQ:Nat->Nat) (val:Nat->Value),gX N tX a/\ay I {w with drawn:=w.drawn+1} C w' aQ/\aL w' aQ/\J w' aQ/\
    (∀u,u<V.length->(∀q∈ms,l.getD q.i false=true->u∉q.xP)->tW V u w' aQ)/\∀m∈ms,l.getD m.i false=true->(∀t,m.t=some t->a.tmps[t]?=some (val m.i))/\((∀q∈ms,l.getD q.i false=true->m.i∉q.kill)->m.F (val m.i) (vals val m.sup) w' aQ))->
   oO P ops (pT P f k R) (λ_=>True) ops.size n l a w':=by
  intro n;have stop:∀(l:Array Bool) (a:Act) (w':World),l.size=ops.size->(∀j∈A,l.getD j false=true)->Region.ready .any ops l=[]->
    (∃(aQ:Nat->Nat) (val:Nat->Value),gX N tX a/\ay I {w with drawn:=w.drawn+1} C w' aQ/\aL w' aQ/\J w' aQ/\
    (∀u,u<V.length->(∀q∈ms,l.getD q.i false=true->u∉q.xP)->tW V u w' aQ)/\∀m∈ms,l.getD m.i false=true->(∀t,m.t=some t->a.tmps[t]?=some (val m.i))/\((∀q∈ms,l.getD q.i false=true->m.i∉q.kill)->m.F (val m.i) (vals val m.sup) w' aQ))->pT P f k R .normal a w':=by
   intro l a w' hl hA hr ⟨aQ,val,hst,tL,hlim,hj,EJ,hall⟩;have full:∀u,u<ops.size->l.getD u false=true:=by
    intro u
    induction u using Nat.strongRecOn with
    |ind u ih=>
     intro hu;apply Classical.byContradiction;intro hno;have:u∈Region.ready .any ops l:=mem_ready.2 ⟨by rw[HL (by omega)];simpa using hno,ops[u],Array.getElem?_eq_getElem hu,λe he _=>ih e.on (jg u _ (Array.getElem?_eq_getElem hu) e he) (by have:=jg u _ (Array.getElem?_eq_getElem hu) e he;omega)⟩;rw[hr] at this;cases this
   have EK:=λm iZ=>hall m iZ (full m.i (spec m iZ).1);have W0:∀(q:List vP),(∀m∈q,m∈ms)->∀t v,look (Ch val q tX) t=some v->a.tmps[t]?=some v:=by
    intro q
    induction q with
    |nil=>intro _ t v h;exact hst.slot t v h
    |cons m q ih=>
     intro hq t v h;simp only[Ch] at h;cases tY:m.t with
     |none=>rw[tY] at h;exact ih (λx hx=>hq x (by simp[hx])) t v h
     |some u=>
      rw[tY] at h;simp only[look] at h;cases hb:Nat.beq u t with
      |true=>
       rw[hb] at h;simp only[cond_true,Option.some.injEq] at h;rw[<-Nat.eq_of_beq_eq_true hb,<-h];exact(EK m (hq m (by simp))).1 u tY
      |false=>rw[hb] at h;exact ih (λx hx=>hq x (by simp[hx])) t v h
   exact tT val w' aQ (Cj.trans tL (λc hc=>hc)) hlim hj (Nw λm iZ aF=>(EK m iZ).2 (λq hq _ xR=>aF (List.mem_flatMap.2 ⟨q,hq,xR⟩))) (λu hu hno=>EJ u hu λq hq _ xR=>hno (List.mem_flatMap.2 ⟨q,hq,xR⟩)) a ⟨hst.size,hst.defers,W0 ms (λm h=>h)⟩
  induction n with
  |zero=>
   intro l a w' hl dP hA NJ hinv;have hr:Region.ready .any ops l=[]:=by
    rw[List.eq_nil_iff_forall_not_mem];intro i hi;obtain⟨hun,o,ho,_⟩:=mem_ready.1 hi;have HM:=(Array.getElem?_eq_some_iff.1 ho).1;rw[HL (by omega)] at hun;rcases NI i HM with HN|⟨m,iZ,rfl⟩
    ·rw[hA i HN] at hun;cases hun
    ·have:m∈ms.filter λm=>!(l.getD m.i false):=List.mem_filter.2 ⟨iZ,by rw[hun];rfl⟩
     rw[List.eq_nil_of_length_eq_zero (Nat.le_zero.1 NJ)] at this;cases this
   exact⟨hr,stop l a w' hl hA hr hinv⟩
  |succ n ih=>
   intro l a w' hl dP hA NJ hinv;refine⟨λhr=>stop l a w' hl hA hr hinv,λi hi=>?_⟩;obtain⟨aW,val,hst,tL,hlim,hj,EJ,hall⟩:=hinv;obtain⟨hun,o,ho,_⟩:=mem_ready.1 hi;have HM:=(Array.getElem?_eq_some_iff.1 ho).1;rw[HL (by omega)] at hun;rcases NI i HM with HN|⟨m,iZ,rfl⟩
   ·rw[hA i HN] at hun;cases hun
   obtain⟨s1,s2,s3,W3,HO,W4⟩:=spec m iZ;have NK:∀p∈m.sup,p.1∈m.sup.map (·.1)++m.dep:=λp hp=>List.mem_append_left _ (List.mem_map.2 ⟨p,hp,rfl⟩);obtain⟨hop,hdk,hlk,abg,hact⟩:=pG m iZ;obtain⟨op,hop⟩:=Ly hop;obtain⟨fe,gG,hd,_,hg⟩:=rE hop;rw[ho] at gG;cases gG;have NL:∀j∈m.sup.map (·.1)++m.dep,l.getD j false=true:=λj hj=>WU (HO j hj).1 hi;have W5:∀q∈ms,q.i∈m.sup.map (·.1)++m.dep->q.F (val q.i) (vals val q.sup) w' aW:=λq hq hp=>by
    obtain⟨a1,a2,a4⟩:=HO q.i hp;refine(hall q hq (NL q.i hp)).2 λz hz hzl HP=>?_;rcases a4 z hz HP with b|b
    ·rw[b,hun] at hzl;cases hzl
    ·have:=EG dP b hzl;rw[hun] at this;cases this
   have W6:∀u∈m.use,tW V u w' aW:=λu hu=>by
    obtain⟨a1,a2⟩:=(NH m iZ).1 u hu;refine EJ u a1 λz hz hzl HP=>?_;rcases a2 z hz HP with b|b
    ·rw[b,hun] at hzl;cases hzl
    ·have:=EG dP b hzl;rw[hun] at this;cases this
   have W7:gX N (qj val m.sup tX) a:=Nz hst m.sup λp hp=>by
    obtain⟨q,hq,e1,e2⟩:=W3 p hp;have:=(hall q hq (by rw[e1];exact NL _ (NK p hp))).1 p.2 e2;rw[this,e1]
   refine wpOp_mono (λa' w2 hdone=>⟨λ_=>trivial,?_⟩) (hact val w' aW (Cj.trans tL (λc hc=>hc)) hlim hj W5 W6 (pT P f k R) a W7);obtain⟨v,rfl,eM,hs2,tZ,hj2,ow⟩:=hdone;rw[ho,Option.bind_some,hd];have hput:=hst.put hdk v;have hne:gX N tX (a.put m.t v):=by
    cases tY:m.t with
    |none=>rw[tY] at hput;exact hput
    |some t=>
     rw[tY] at hput;refine⟨hput.size,hput.defers,λt' v' hlt=>hput.slot t' v' ?_⟩;have:t≠t':=λe=>by subst e;rw[hlk t tY] at hlt;cases hlt
     simp only[pU,look];cases hb:Nat.beq t t' with
     |true=>exact absurd (Nat.eq_of_beq_eq_true hb) this
     |false=>exact hlt
   have W8:=mu dP hi;have W9:∀j,(l.setIfInBounds m.i true).getD j false=true->j=m.i\/l.getD j false=true:=λj hj=>by
    by_cases e:m.i=j
    ·exact .inl e.symm
    ·rw[getD_set_ne false e] at hj;exact .inr hj
   have HQ:∀j,l.getD j false=true->(l.setIfInBounds m.i true).getD j false=true:=λj hj=>getD_set_true hj;have HR: (l.setIfInBounds m.i true).getD m.i false=true:=by simp[Array.getD,hl,s1]
   refine ih _ _ _ (by simp[hl]) W8 (λj hj=>HQ j (hA j hj)) ?_ ?_
   ·have hlt: (ms.filter λq=>!((l.setIfInBounds m.i true).getD q.i false)).length<(ms.filter λq=>!(l.getD q.i false)).length:=by
     have hsub: (ms.filter λq=>!((l.setIfInBounds m.i true).getD q.i false))=(ms.filter λq=>!(l.getD q.i false)).filter λq=>!(Nat.beq q.i m.i):=by
      rw[List.filter_filter];refine List.filter_congr λq _=>?_;by_cases e:m.i=q.i
      ·rw[<-e,HR];simp
      ·rw[getD_set_ne false e];have:Nat.beq q.i m.i=false:=by
         cases hb:Nat.beq q.i m.i with
         |false=>rfl
         |true=>exact absurd (Nat.eq_of_beq_eq_true hb).symm e
       rw[this];simp
     rw[hsub];have hmem:m∈ms.filter λq=>!(l.getD q.i false):=List.mem_filter.2 ⟨iZ,by rw[hun];rfl⟩
     refine Nat.lt_of_le_of_ne (List.length_filter_le _ _) λe=>?_;have:=List.length_filter_eq_length_iff.1 e m hmem;simp at this
    omega
   ·refine⟨eM,λj=>if j=m.i then v else val j,hne,tL.trans hs2 s3,tZ,hj2,λu hu hno=>?_,λq hq eR=>?_⟩
    ·have hold:=EJ u hu λz hz hzl=>hno z hz (HQ z.i hzl);rcases(NH m iZ).2 u hu with b|b
     ·exact absurd b (hno m iZ HR)
     ·exact NG u _ _ _ _ m.W b hold hs2
    have W_:∀z∈ms,l.getD z.i false=true->vals (λj=>if j=m.i then v else val j) z.sup=vals val z.sup:=λz hz hzl=>by
     unfold vals;refine List.map_congr_left λp hp=>?_;show(if p.1=m.i then v else val p.1)=val p.1;rw[if_neg];intro e;have:=EG dP ((spec z hz).2.2.2.2.1 p.1 (List.mem_append_left _ (List.mem_map.2 ⟨p,hp,rfl⟩))).1 hzl;rw[e,hun] at this;cases this
    by_cases e:q.i=m.i
    ·have:=WV ms hni q hq m iZ e;subst this;refine⟨λt ht=>?_,λ_=>?_⟩
     ·show _=some (if q.i=q.i then v else val q.i);rw[if_pos rfl];rw[ht] at hput⊢;exact hput.slot t v (by simp[pU,look])
     ·show q.F (if q.i=q.i then v else val q.i) _ _ _;rw[if_pos rfl];have:vals (λj=>if j=q.i then v else val j) q.sup=vals val q.sup:=by
       unfold vals;refine List.map_congr_left λp hp=>?_;show(if p.1=q.i then v else val p.1)=val p.1;rw[if_neg (by have:=(HO p.1 (NK p hp)).2.1;omega)]
      rw[this];exact ow
    ·rcases W9 q.i eR with h1|h1
     ·exact absurd h1 e
     obtain⟨q1,q2⟩:=hall q hq h1;refine⟨λt ht=>?_,λhno=>?_⟩
     ·show _=some (if q.i=m.i then v else val q.i);rw[if_neg e,<-q1 t ht];cases tY:m.t with
      |none=>rfl
      |some u=>
       have Xa:u≠t:=λe2=>by subst e2;exact e (by rw[WW ms hnt q hq m iZ u ht tY])
       simp only[Act.put,Array.getElem?_setIfInBounds,if_neg Xa]
     ·show q.F (if q.i=m.i then v else val q.i) _ _ _;rw[if_neg e,W_ q hq h1];have hold:=q2 λz hz hzl=>hno z hz (HQ z.i hzl);rcases W4 q hq e with b|b|b
      ·have:=EG dP b h1;rw[hun] at this;cases this
      ·exact absurd b (hno m iZ HR)
      ·exact(pG q hq).2.2.2.1 _ _ _ _ _ _ m.W b hold hs2
 have mH:∀j∈A,j<ops.size:=NA A _ _ nM;have Xb: (ms.filter λm=>!((sO (Array.replicate ops.size false) A).getD m.i false)).length<=ops.size-A.length:=by
  refine Nat.le_trans (List.length_filter_le _ _) ?_;have iz: (A++ms.map (·.i)).Nodup:=by
   rw[List.nodup_append];refine⟨NC A _ _ nM,hni,λa ha b hb e=>?_⟩;obtain⟨m,iZ,rfl⟩:=List.mem_map.1 hb;exact(spec m iZ).2.1 (e▸ha)
  have hle:=iz.length_le_of_subset (l₂:=List.range ops.size) λj hj=>by
   rcases List.mem_append.1 hj with h|h
   ·exact List.mem_range.2 (mH j h)
   ·obtain⟨m,iZ,rfl⟩:=List.mem_map.1 h;exact List.mem_range.2 (spec m iZ).1
  rw[List.length_append,List.length_map,List.length_range] at hle;omega
 have:=main (ops.size-A.length) (sO (Array.replicate ops.size false) A) a2 {w with drawn:=w.drawn+1} (by rw[Mk];simp) dP (λj hj=>by
  have Xc:j<ops.size:=mH j hj;rw[G1 A _ j (by simpa using Xc),if_pos hj]) ?_ ⟨C,λ_=>undef,ha2,ay.refl I _ C,hF.st Cj,hJ,λu hu _=>?_,λm iZ hl=>?_⟩
 ·exact this
 ·exact Xb
 ·have Xd:ay [] w C {w with drawn:=w.drawn+1} C:=ay.drew [] w C;refine NG u w C _ _ [] (by simp) ?_ Xd;unfold tW;rw[List.getElem?_eq_getElem hu];exact(hV _ (List.getElem_mem hu)).1
 ·rw[G1 A _ m.i (by simpa using(spec m iZ).1),if_neg (spec m iZ).2.1] at hl;simp[Array.getD,(spec m iZ).1] at hl
end Go.K
namespace Go.K
open bu Go.Proofs Go.Shelf Go.Sort
theorem Xe {W w':World} (h:Ext (λ_=>False) W w'):∃q os',w'=grow (W.drewN q) os':=by
 refine⟨w'.drawn-W.drawn,w'.heap.extract W.heap.size w'.heap.size,?_⟩;obtain⟨h1,h2,h3,h4,h5,h6⟩:=h;obtain⟨hp,tp,abh,os,out⟩:=w';simp only at h1 h2 h3 h4 h5 h6;unfold lF at h6;simp only at h6;subst h1 h2 h3;simp only[grow,World.drewN,World.mk.injEq,and_true,true_and];refine⟨?_,by omega⟩;apply Array.ext_getElem?;intro b;rw[Array.getElem?_append];split
 ·rename_i hb;exact h5 b hb (λh=>h)
 ·rename_i hb;rw[Array.getElem?_extract];simp only[Nat.min_self];split
  ·congr 1;omega
  ·rw[Array.getElem?_eq_none (by omega)]
section
variable {P:Program} {ρ:Ren} {α:Type} [Inhabited α] [bu α] {enc:α->List Value} {cf:α->α->Int} {w:World} {C:Nat->Nat} {j g0:Nat} {e:TypeId} {v:Value} {ys:List α}
def z6 (cf:α->α->Int):α->α->Bool:=λx y=>!(ltOf cf) y x
theorem Xf {F cs:Array Value} (h:F.size<=cs.size) (t:Nat): (putCells id 0 F cs)[t]?=if t<F.size then F[t]? else cs[t]?:=by
 unfold putCells;rw[Array.getElem?_mapIdx];by_cases ht:t<cs.size
 ·rw[Array.getElem?_eq_getElem ht];simp only[Option.map_some,Nat.zero_le,true_and,Nat.zero_add,Nat.sub_zero,id];split
  ·rename_i h1;rw[Array.getElem?_eq_getElem h1,getElem!_pos F t h1]
  ·rfl
 ·rw[Array.getElem?_eq_none (by omega),if_neg (by omega)];rfl
theorem NM {k:Nat} (hk:∀x,(enc x).length=k) (d:Array α) {i r:Nat} (hi:i<d.size) (hr:r<k): (flatK enc k d)[i*k+r]?=(enc d[i])[r]?:=by
 have hlt:i*k+r<d.size*k:=by
  have:=Nat.mul_le_mul_right k (show i+1<=d.size from hi);rw[Nat.succ_mul] at this;omega
 have hdiv: (i*k+r)/k=i:=by rw[Nat.mul_comm,Nat.mul_add_div (by omega),Nat.div_eq_of_lt hr];rfl
 have hmod: (i*k+r)%k=r:=by rw[Nat.mul_comm,Nat.mul_add_mod,Nat.mod_eq_of_lt hr]
 have h:=get_flatK enc k d (i*k+r) hlt;rw[hdiv,hmod,getElem!_pos d i hi,getElem!_pos (flatK enc k d) _ (by rw[size_flatK];exact hlt),getElem!_pos (enc d[i]) r (by rw[hk];exact hr)] at h;rw[Array.getElem?_eq_getElem (by rw[size_flatK];exact hlt),h,List.getElem?_eq_getElem]
theorem NN (L:SlLaysF0.n6 P ρ) (aE:∀w,(isAgg (ρ.t 24)).run P w=.ok true w) (zE:∀w,(Go.sizeOf (ρ.t 24)).run P w=.ok (sz α) w)
  (NP:∀h M x vs,rep h M x vs↔vs=enc x) (hk:∀x:α,(enc x).length=sz α) (h0:0<sz α) (h1:∀x,∀u∈enc x,u.oneCell'=true) (hO:SWO (ltOf cf)) (hT:∀x y,(ltOf cf) x y=false->(ltOf cf) y x=false->x=y)
  (eg:∀args w,(callFunc g0 args).run P w=.ok (.enter g0 args) w)
  (hcmp:∀W x y,Calls P g0 #[.agg (enc x).toArray,.agg (enc y).toArray] W (bI λu w'=>u=.int .i64 (cf x y)/\Ext (λ_=>False) W w'))
  (hF:aL w C) (ho:bh w C j e v ys) (hlen:ys.length<=140737488355328):
  Calls P (ρ.f 6) #[v,.func (.func g0) #[] #[]] w (bI λu w'=>u=.tuple #[]/\ay [j] w C w' C/\bh w' C j e v (ys.mergeSort (z6 cf))/\aL w' C):=by
 obtain⟨hown,nC⟩:=ho;rcases hown with⟨rfl,rfl⟩|⟨g,cap,cs,rfl,hg,hc,hcap,h2,h3⟩
 ·refine(AnyF.slices_SortFunc_none (P:=P) (ρ:=ρ) {L with} none 0 (.func (.func g0) #[] #[]) w).mono ?_;rintro e' w' ⟨rfl,rfl⟩;exact⟨_,rfl,rfl,ay.refl _ _ _,by simpa using(bh.nil (α:=α)),hF⟩
 ·have hcell:∀i (hi:i<ys.length) r,r<sz α->cs[i*sz α+r]?=(enc ys[i])[r]?:=λi hi r hr=>by
   have h:=(NP _ _ _ _).1 (h3 i hi);have:=congrArg (λl=>l[r]?) h;simp only[dB,List.getElem?_take,if_pos hr,List.getElem?_drop,Array.getElem?_toList] at this;exact this
  have hH:HoldsK enc (sz α) w g 0 ys.toArray:=λt ht=>by
   rw[size_flatK] at ht;simp only[List.size_toArray] at ht;have hi:t/sz α<ys.length:=Nat.div_lt_of_lt_mul (by rwa [Nat.mul_comm] at ht);have hr:=Nat.mod_lt t h0;have Xg:t/sz α*sz α+t%sz α=t:=by rw[Nat.mul_comm];exact Nat.div_add_mod t (sz α)
   have h5:=hcell _ hi _ hr;have h6:=NM hk ys.toArray (i:=t/sz α) (r:=t%sz α) (by simpa using hi) hr;rw[Xg] at h5 h6;refine⟨?_,?_⟩
   ·rw[cell_of_row w g (0+t) cs e (0,0) hc,Nat.zero_add,h5];simp only[List.getElem_toArray] at h6;rw[<-h6,id];rw[getElem!_pos _ t (by rw[size_flatK];simpa using ht),Array.getElem?_eq_getElem]
   ·simp[World.frozen?,hc]
  have Xh:CmpLays P g0 #[] enc (sz α) cf g 0 ys.toArray.size w:=λm os dk hd x y=>by
   have h:=hcmp (sortWorldK enc (sz α) w g 0 m dk os) x y;rw[Array.append_empty];refine h.mono ?_;rintro e' w' ⟨u,rfl,rfl,hx⟩;exact⟨rfl,Xe hx⟩
  have hsort:=AnyQ.slices_SortFunc_total L (sz α) aE zE enc hk h1 cf hO g0 #[] g 0 cap ys.toArray w eg Xh hH (rG hc) (by simp;omega) hT;refine hsort.mono ?_;rintro e' w' ⟨rfl,n,os,hw⟩;have xS:=List.mergeSort_perm ys (z6 cf);have hl:=xS.length_eq;have hle: (flatK enc (sz α) (ys.mergeSort (z6 cf)).toArray).size<=cs.size:=by
   rw[size_flatK,h2];simp only[List.size_toArray,hl];exact Nat.mul_le_mul_right _ hcap
  have jh:w'.heap[g]?=some (.cells (putCells id 0 (flatK enc (sz α) (ys.mergeSort (z6 cf)).toArray) cs) e (0,0)):=by
   rw[hw];show(grow (putRow id (Sort.ahead w n) g 0 (flatK enc (sz α) (ys.mergeSort (z6 cf)).toArray)) os).heap[g]?=_;simp only[grow,putRow,mapBlock,Sort.ahead];rw[Array.getElem?_append_left (by simpa using rG hc),Array.getElem?_modify,if_pos rfl,hc];rfl
  have tL:ay [j] w C w' C:=⟨⟨by rw[hw];rfl,by rw[hw];rfl,by rw[hw];rfl,by
    rw[hw];show w.heap.size<=(grow (putRow id (Sort.ahead w n) g 0 _) os).heap.size;simp[grow,putRow,mapBlock,Sort.ahead],λb hb hn=>by
    have Xi:g≠b:=λe=>hn (by rw[<-e,nC g rfl];simp);rw[hw];show(grow (putRow id (Sort.ahead w n) g 0 _) os).heap[b]?=_;simp only[grow,putRow,mapBlock,Sort.ahead];rw[Array.getElem?_append_left (by simpa using hb),Array.getElem?_modify,if_neg Xi],by
    rw[hw];unfold lF;exact Nat.le_add_right _ _⟩,λ_ _=>rfl⟩
  refine⟨_,rfl,rfl,tL,⟨.inr ⟨g,cap,_,by rw[hl],hg,jh,by rw[hl];exact hcap,?_,?_⟩,nC⟩,hF.st tL⟩
  ·simp only[putCells,Array.size_mapIdx];exact h2
  ·intro i hi;refine(NP _ _ _ _).2 ?_;apply List.ext_getElem?;intro r;simp only[dB,List.getElem?_take,List.getElem?_drop,Array.getElem?_toList];split
   ·rename_i hr;have hlt:i*sz α+r<(flatK enc (sz α) (ys.mergeSort (z6 cf)).toArray).size:=by
     rw[size_flatK];simp only[List.size_toArray];have:=Nat.mul_le_mul_right (sz α) (show i+1<=_ from hi);rw[Nat.succ_mul] at this;omega
    rw[Xf hle,if_pos hlt,NM hk _ (by simpa using hi) hr];simp
   ·rename_i hr;rw[List.getElem?_eq_none (by rw[hk];omega)]
end
end Go.K
namespace Go.K
open bu
section
variable {α:Type} [bu α] {P:Program} {N:Nat} {env:Env} {w w':World} {C aQ:Nat->Nat} {t e u:TypeId} {v s:Value} {x y z:Operand} {a b:Addr} {l c n:Nat} {M:Nat->Prop}
theorem xT (hx:ev env x=some (.slice (some b) l c)) (ht:P.underlying t=some (.slice e)):cL P N env (.binOp .eql t x (.const (.slice none 0 0)) u) w (.bool false):=mk' λρ hρ o ho=>by
 unfold execOp;rw[ho];have hc:ρ (.const (.slice none 0 0))=.slice none 0 0:=hρ _ _ rfl;have h1: (Op.equalIn Op.maxDepth t (.slice (some b) l c) (.slice none 0 0)).run P w=.ok false w:=by rw[show Op.maxDepth=9999+1 from rfl,Op.equalIn];simp[run_underlying ht]
 simp[hρ _ _ hx,hc,go_sem,eqGuard,binOp,Op.equal,h1]
theorem HS (hx:ev env x=some (.slice none l c)) (ht:P.underlying t=some (.slice e)):cL P N env (.binOp .eql t x (.const (.slice none 0 0)) u) w (.bool true):=mk' λρ hρ o ho=>by
 unfold execOp;rw[ho];have hc:ρ (.const (.slice none 0 0))=.slice none 0 0:=hρ _ _ rfl;have h1: (Op.equalIn Op.maxDepth t (.slice none l c) (.slice none 0 0)).run P w=.ok true w:=by rw[show Op.maxDepth=9999+1 from rfl,Op.equalIn];simp[run_underlying ht]
 simp[hρ _ _ hx,hc,go_sem,eqGuard,binOp,Op.equal,h1]
theorem z7 {bytes:Nat} (hF:aL w C) (hrow:oU P t e n bytes=true):gY P N env (.buildSlice t 0 #[]) w (λv w'=>(∃a,v=.slice (some a) 0 0)/\ay [] w C w' C/\aL w' C):=oT λρ hρ fe gG=>by
 obtain⟨i,z,hu,hi,hsi,hby,hz,hzs⟩:=uW hrow;have BG: (sizeOf e).run P w=.ok n w:=by simp[sizeOf,typeInfo,hi,hsi]
 have hnew:=tH w (.cells #[] e);have hrun: (Instr.buildSlice t 0 #[]).run P w=.ok (.slice (some ⟨w.heap.size,0,none⟩) 0 0) (w.alloc (.cells #[] e)):=by
  unfold Instr.buildSlice;simp[run_underlying hu,BG,Instr.fill,newRow,show Array.range 0=(#[]:Array Nat) from by simp[Array.range]]
 refine⟨.slice (some ⟨w.heap.size,0,none⟩) 0 0,w.alloc (.cells #[] e),.inl ?_,⟨_,rfl⟩,hnew.st C,hF.st (hnew.st C)⟩;unfold execOp;rw[gG];simp only[Sem.run_bind];rw[show Array.map (λx:Nat×Operand=>(x.fst,ρ x.snd)) #[]=#[] from by simp,hrun];rfl
theorem NQ {bytes:Nat} (hx:ev env x=some (.slice (some a) 0 0)) (hy:ev env y=some s) (hrow:oU P t e (sz α) bytes=true) (hsrc:aB w M ([]:List α) s):
  gY P N env (.call {callee:=.builtin .append,args:=#[x,y],argTypes:=#[t,t]}) w (λv' w'=>v'=.slice (some a) 0 0/\ay [] w C w' C):=oT λρ hρ fe gG=>by
 obtain⟨i,z,hu,hi,pV,hby,hz,hzs⟩:=uW hrow;obtain⟨a2,c,rfl,hcap,hl0,D1⟩:=jx.1 hsrc;have hf: (Builtin.firstCells i.size 0 (.slice a2 0 c)).run P w=.ok #[] w:=by cases a2<;>simp[Builtin.firstCells,loadCells,loadCellsFrom]
 have hrun: (Builtin.append_ #[t,t] fe.type #[.slice (some a) 0 0,.slice a2 0 c]).run P w=.ok (.slice (some a) 0 0) w:=by
  simp[Builtin.append_,run_underlying hu,sizeOf,typeInfo,hi,Builtin.lenOf,hf,storeCells]
 refine⟨_,w,.inl ?_,rfl,ay.refl _ _ _⟩;unfold execOp;rw[gG];simp[hρ _ _ hx,hρ _ _ hy,resolve,invoke,builtin,hrun]
theorem z8 {a:Addr}:aB w M ([]:List α) (.slice (some a) 0 0):=jx.2 ⟨_,0,rfl,Nat.le_refl _,by simp,.inl rfl⟩
end
section
variable {α:Type} [bu α] {P:Program} {N:Nat} {env:Env} {w:World} {C:Nat->Nat} {t ti e j n l c:Nat} {y z:Operand} {a:Addr}
theorem Xj {bytes:Nat} (hF:aL w C) (hj:j≠0) (hy:ev env y=some (.slice none 0 0)) (hz:ev env z=some (.int .i64 n)) (hrow:oU P t e (sz α) bytes=true) (hsz:0<sz α) (hby:bytes<=100000)
  (Xk:P.underlying ti=some (.int .i64)) (h0:0<n) (hn:n<=1000000):
  gY P N env (.call {callee:=.builtin .append,args:=#[y,z],argTypes:=#[t,ti]}) w (λv w'=>∃aQ g cap,v=.slice (some ⟨g,0,none⟩) n cap/\ay [] w C w' aQ/\bh w' aQ j e (.slice (some ⟨g,0,none⟩) 0 cap) ([]:List α)/\aL w' aQ):=oT λρ hρ fe gG=>by
 obtain⟨i,j9,hu,hi,hsi,hb,D_,hzs⟩:=uW hrow;have hr:=Lib.run_append_nil_zeros (P:=P) w t ti fe.type e i j9 .i64 .i64 hu Xk hi D_ n h0 (by rw[hsi];exact hsz) (by omega) (by rw[hb];have:=Nat.mul_le_mul hn hby;omega);have hge:=grownCap_ge w n 0 e;obtain⟨cap,hcap⟩:∃cap,cap=grownCap w n 0 e:=⟨_,rfl⟩
 rw[<-hcap] at hr hge;have Xl:=uV w (.cells (Builtin.zeroCells j9.cells n++Builtin.zeroCells j9.cells (cap-n)) e (0,0));obtain⟨aQ,h1,h2,h3⟩:=Xl.own hF j;refine⟨_,_,.inl ?_,aQ,_,cap,rfl,h1,⟨.inr ⟨w.heap.size,cap,_,rfl,?_,h2.at_,Nat.zero_le _,?_,λk hk=>by simp at hk⟩,λb hb=>?_⟩,h3⟩
 ·unfold execOp;rw[gG];simp[hρ _ _ hy,hρ _ _ hz,resolve,invoke,builtin,hr]
 ·unfold aA;rw[h2.col];exact hj
 ·rw[Array.size_append,size_zeroCells,size_zeroCells,hzs,<-Nat.add_mul];congr 1;omega
 ·simp only[di,Value.ownBlock,Option.some.injEq] at hb;subst hb;exact h2.col
theorem NR {b:Option Addr} (hx:ev env y=some (.slice b l c)) (ht:P.underlying t=some (.slice e)):
  cL P N env (.call {callee:=.builtin .cap,args:=#[y],argTypes:=#[t]}) w (.int .i64 c):=mk' λρ hρ o ho=>by
 unfold execOp;rw[ho];simp[hρ _ _ hx,go_sem,resolve,invoke,builtin,Builtin.cap_,run_underlying ht,goInt]
theorem Xm (hx:ev env y=some (.slice none 0 0)) (hz:ev env z=some (.int .i64 0)) (hu:P.underlying t=some (.slice e)) (hi: (P.info? e).isSome=true):cL P N env (.slice t y none (some z) none) w (.slice none 0 0):=mk' λρ hρ o ho=>by
 obtain⟨i,hi⟩:=Option.isSome_iff_exists.1 hi;unfold execOp;rw[ho];simp[hρ _ _ hx,hρ _ _ hz,Instr.sliceAt,Instr.slice,run_underlying hu,Instr.sliceBounds,Instr.sliceBound,asIntOf,sizeOf,typeInfo,hi]
theorem Xn {g:Nat} (hx:ev env y=some (.slice (some ⟨g,0,none⟩) l c)) (hz:ev env z=some (.int .i64 0)) (hu:P.underlying t=some (.slice e)) (hi: (P.info? e).isSome=true):cL P N env (.slice t y none (some z) none) w (.slice (some ⟨g,0,none⟩) 0 c):=mk' λρ hρ o ho=>by
 obtain⟨i,hi⟩:=Option.isSome_iff_exists.1 hi;unfold execOp;rw[ho];simp[hρ _ _ hx,hρ _ _ hz,Instr.sliceAt,Instr.slice,run_underlying hu,Instr.sliceBounds,Instr.sliceBound,asIntOf,sizeOf,typeInfo,hi];exact λ_=>rfl
end
section
variable {α:Type}
theorem EL {ll:List (List α)} {k:Nat} (h:k<ll.length): (ll.take (k+1)).flatten=(ll.take k).flatten++ll[k]:=by
 rw[List.take_succ_eq_append_getElem h,List.flatten_append];simp
theorem vQ {ll:List (List α)} (k:Nat): (ll.take k).flatten.length<=ll.flatten.length:=by
 have:ll.flatten.length=(ll.take k).flatten.length+(ll.drop k).flatten.length:=by rw[<-List.length_append,<-List.flatten_append,List.take_append_drop]
 omega
end
theorem NS {x y:Int}:kf x y=0↔x=y:=by unfold kf;split<;>(try split)<;>omega
theorem NT {x y:Int}:0<kf x y↔y<x:=by unfold kf;split<;>(try split)<;>omega
theorem Xo (a b:Int):iI [a,b]=if a≠0 then a else b:=by
 unfold iI;by_cases h:a=0
 ·simp[h,iI];exact λe=>e.symm
 ·simp[h]
section
variable {P:Program} {f:FuncId} {N:Nat} {k:List Item} {env:Env} {w:World} {R:Value->World->Prop}
theorem Xp {c:Code} {fn:Func} {a ty b u u2:Nat} {x vG:Value} {u5:Nat} {cs:List Value} {eP:Nat×Nat} {n:Nat} (hc:c=.ret) (hf:P.funcs[f]?=some fn) (hres:fn.results=#[.cell a ty,.tmp u,.tmp u2]) (hv:look env a=some (.pointer (some ⟨b,0,none⟩)))
  (hx:look env u=some x) (hx2:look env u2=some vG) (hb:w.heap[b]?=some (.cells cs.toArray u5 eP)) (ha:iF P ty=some true) (hs:gR P ty=some n) (hl:cs.length=n)
  (hR:R (.tuple #[.agg cs.toArray,x,vG]) w):Run P f N (.code c::k) env w R:=λa' iU=>by
 subst hc;refine wT hf iU.defers ?_ hR;have h1:=iU.slot a _ hv;have h3:=iU.slot u _ hx;have h4:=iU.slot u2 _ hx2;have h2:=Gz hb ha hs hl;simp only[results,hres];simp[h1,h3,h4,Array.getD_eq_getD_getElem?,asAddr,h2]
end
def z_ (x y:av):Prop:=x.a<y.a\/(x.a=y.a/\x.b<y.b)
def NU (x y:av):Prop:=x.a=y.a/\x.b=y.b
theorem Aa {x y:av}: (iW x y<0↔z_ x y)/\(iW x y=0↔NU x y)/\(0<iW x y↔z_ y x):=by
 unfold iW z_ NU;rw[Xo];have a1:= @MU x.a y.a;have a2:= @NS x.a y.a;have a3:= @NT x.a y.a;have b1:= @MU x.b y.b;have b2:= @NS x.b y.b;have b3:= @NT x.b y.b;by_cases h1:kf x.a y.a=0
 ·rw[if_neg (by omega)];refine⟨?_,?_,?_⟩<;>omega
 ·rw[if_pos h1];refine⟨?_,?_,?_⟩<;>omega
section
variable {P:Program} {N:Nat} {env:Env} {x y:Operand} {t u:TypeId} {a b:Bool} {w:World}
end
section
variable {dn β:Type} [DecidableEq dn] {kv:dn->Value} {cV:β->Value} {m:List (dn×β)} {w:World} {C:Nat->Nat} {j b:Nat}
variable {P:Program} {N:Nat} {env:Env} {x y z:Operand} {t kt et:TypeId}
end
section
variable {α:Type} [bu α] {w:World} {C:Nat->Nat} {j:Nat} {xs:List α} {v:Value} {e:TypeId} {g i off k:Nat}
variable {P:Program} {N:Nat} {env:Env} {y z:Operand} {t:TypeId} {u:Value} {us:List Value}
end
section
variable {P:Program} {t ga ti:TypeId} {n0 n1 n2 nF nG HT nH nI HU:String} {e0 e1 e2:Bool} {y0 y1 HV:Nat} {N:Nat} {env:Env} {x y:Operand} {u:TypeId} {w:World}
theorem Xq (h:P.underlying t=some (.struct #[⟨n0,ga,0,e0,nF,nH,y0⟩,⟨n1,ga,2,e1,nG,nI,y1⟩,⟨n2,ti,4,e2,HT,HU,HV⟩])) (h0:n0≠"_") (h1:n1≠"_") (h2:n2≠"_") (hS:P.stoodInHeld t=false)
  (hE:tM P ga cW) (hi:P.underlying ti=some (.int .i64)) (ha:iF P ga=some true) (hs:gR P ga=some 2) (a b:a_):
  (Op.equalIn 10000 t (.agg (ic a).toArray) (.agg (ic b).toArray)).run P w=.ok (decide (a=b)) w:=by
 have hf:P.fieldsOf t=#[⟨n0,ga,0,e0,nF,nH,y0⟩,⟨n1,ga,2,e1,nG,nI,y1⟩,⟨n2,ti,4,e2,HT,HU,HV⟩]:=by simp[Program.fieldsOf,h]
 have iu:∀c:a_,(part ga (ic c).toArray 0).run P w=.ok (cW c.A) w:=λc=>by
  unfold part;simp only[Sem.run_bind,qx ha,Result.andThen_ok,if_true,kF hs,Sem.run_pure];rfl
 have p1:∀c:a_,(part ga (ic c).toArray 2).run P w=.ok (cW c.B) w:=λc=>by
  unfold part;simp only[Sem.run_bind,qx ha,Result.andThen_ok,if_true,kF hs,Sem.run_pure];rfl
 have p2:∀c:a_,(part ti (ic c).toArray 4).run P w=.ok (.int .i64 c.w) w:=λc=>run_part_plain w (by simp[Program.plainKey,hi]) rfl;have he:∀a b:av,(Op.equalIn 9999 ga (cW a) (cW b)).run P w=.ok (decide (a=b)) w:=λ(a b:av)=>hE 9991 a b w;have hn:∀x y:Int,(Op.equalIn 9999 ti (.int .i64 x) (.int .i64 y)).run P w=.ok (x==y) w:=λ(x y:Int)=>run_equalIn_int (P:=P) w 9998 ti .i64 .i64 x y hi;rw[show(10000:Nat)=9999+1 from rfl,run_equalIn_struct w 9999 t _ _ (by rw[hf];exact h) hS,hf];have hd: (decide (a=b))=((decide (a.A=b.A)&&decide (a.B=b.B))&&(a.w==b.w)):=by
  cases a;cases b;simp only[a_.mk.injEq,Bool.decide_and,Bool.and_assoc];rfl
 simp only[Op.eqFields,Sem.run_bind,Sem.run_ite,h0,h1,h2,ne_eq,not_false_eq_true,if_true,iu,p1,p2,Result.andThen_ok,hd,he,hn];cases decide (a.A=b.A)<;>cases decide (a.B=b.B)<;>cases (a.w==b.w)<;>simp[iu,p1,p2,he,hn]
theorem NV (h:P.underlying t=some (.struct #[⟨n0,ga,0,e0,nF,nH,y0⟩,⟨n1,ga,2,e1,nG,nI,y1⟩,⟨n2,ti,4,e2,HT,HU,HV⟩])) (h0:n0≠"_") (h1:n1≠"_") (h2:n2≠"_") (hS:P.stoodInHeld t=false)
  (hE:tM P ga cW) (hi:P.underlying ti=some (.int .i64)) (ha:iF P ga=some true) (hs:gR P ga=some 2) (hg:P.eqGuardType P.depth t=false) {a b:a_} (hx:ev env x=some (.agg (ic a).toArray)) (hy:ev env y=some (.agg (ic b).toArray)):
  cL P N env (.binOp .neq t x y u) w (.bool (decide (a≠b))):=mk' λρ hρ o ho=>by
 unfold execOp;rw[ho];simp only[hρ _ _ hx,hρ _ _ hy,Sem.run_bind,run_eqGuard_agg _ _ _ _ _ _ _ hg,Result.andThen_ok,run_neq_struct,Xq h h0 h1 h2 hS hE hi ha hs,Sem.run_pure];simp
end
section
variable {l:List a_} {ds:List cI} {ps E:List (List av)}
theorem HW {α:Type}:∀{a b:List (List α)},a.Sublist b->a.flatten.Sublist b.flatten
 |_,_,.slnil=>List.Sublist.refl _
 |_,_,.cons x h=>by rw[List.flatten_cons];exact(HW h).trans (List.sublist_append_right _ _)
 |_,_,.cons_cons x h=>by rw[List.flatten_cons,List.flatten_cons];exact(List.Sublist.refl _).append (HW h)
theorem Xr (l:List a_) (ds:List cI):iY l ds (ov l ds):=by
 obtain⟨s,hI,hf,he,_,_⟩:=WD l ds;rw[he];have hsub: (iy s).Sublist s:=List.filter_sublist;have hm:∀p∈iy s,p∈s/\2<=p.length:=λp hp=>by
  have:=List.mem_filter.1 hp;exact⟨this.1,of_decide_eq_true this.2⟩
 refine⟨λp hp=>(vj l).sublist (hI.sub p (hm p hp).1),λp hp=>(hm p hp).2,λp hp=>hI.bar p (hm p hp).1,λp hp=>?_,?_,?_⟩
 ·exact Nc.1 (List.all_eq_true.1 hf p hp)
 ·exact(hI.perm.nodup_iff.2 (vw l)).sublist (HW hsub)
 ·have h1: (s.map λp=>p.headD ⟨0,0⟩).Pairwise fK:=(vj l).sublist hI.heads;rw[List.pairwise_map] at h1;exact h1.sublist hsub
theorem t_ {i:Nat} (h:i<(bk l).length):i<(dO (cm l) (aO l)).length:=by simpa[bk] using h
theorem NW {i:Nat} (h:i<(bk l).length):i<(dx l).length:=by unfold dx;rw[mC];exact t_ h
theorem ox {i:Nat} (h:i<(bk l).length) {r:av}:r∈aO (bk l)[i]↔r∈aO l/\cm l r=cm l ((dO (cm l) (aO l))[i]'(t_ h)):=by
 rw[HC h (NW h),Nb (NW h),List.mem_filter,decide_eq_true_eq]
theorem HX {i:Nat} (h:i<(bk l).length) {x:a_}:x∈(bk l)[i]↔x∈l/\cm l x.A=cm l ((dO (cm l) (aO l))[i]'(t_ h)):=by
 rw[zX h,List.mem_filter,decide_eq_true_eq]
theorem EM {i j:Nat} (hi:i<(bk l).length) (hj:j<(bk l).length) {r:av} (h1:r∈aO (bk l)[i]) (h2:r∈aO (bk l)[j]):i=j:=by
 have a:=(ox hi).1 h1;have b:=(ox hj).1 h2;exact GY (t_ hi) (t_ hj) (by rw[<-a.2,b.2])
theorem Xs {r:av} (h:r∈aO l):∃i,∃hi:i<(bk l).length,r∈aO (bk l)[i]:=by
 obtain⟨q,hq,e⟩:=GR (f:=cm l) h;obtain⟨i,hi,rfl⟩:=List.getElem_of_mem hq;have hi2:i<(bk l).length:=by simpa[bk] using hi
 exact⟨i,hi2,(ox hi2).2 ⟨h,e.symm⟩⟩
theorem Xt {l l':List a_} {s:List av} (h:∀x∈l,x∈l') (hj:qM l s):qM l' s:=λx hx y hy=>
 Ek (l:=iX l s) (l':=iX l' s) (λz hz=>by
  have:=List.mem_filter.1 hz;exact List.mem_filter.2 ⟨h z this.1,this.2⟩) (hj x hx y hy)
theorem Xu {Q:Nat->List (List av)} (hQ:∀i (h:i<(bk l).length),iY (bk l)[i] ds (Q i)) (hp:E.Perm ((List.range (bk l).length).flatMap Q)) (hs:E.Pairwise λp q=>fK (p.headD ⟨0,0⟩) (q.headD ⟨0,0⟩)):
  iY l ds E/\∀i (h:i<(bk l).length),fh (bk l)[i] E=fh (bk l)[i] (Q i):=by
 have hm:∀p,p∈E↔∃i,∃h:i<(bk l).length,p∈Q i:=λp=>by
  rw[hp.mem_iff,List.mem_flatMap];exact⟨λ⟨i,h1,h2⟩=>⟨i,List.mem_range.1 h1,h2⟩,λ⟨i,h1,h2⟩=>⟨i,List.mem_range.2 h1,h2⟩⟩
 refine⟨⟨λp hp=>?_,λp hp=>?_,λp hp=>?_,λp hp=>?_,?_,hs⟩,λi h=>?_⟩
 ·obtain⟨i,h,h2⟩:=(hm p).1 hp;exact(hQ i h).jq p h2
 ·obtain⟨i,h,h2⟩:=(hm p).1 hp;exact(hQ i h).len p h2
 ·obtain⟨i,h,h2⟩:=(hm p).1 hp;exact(hQ i h).bar p h2
 ·obtain⟨i,h,h2⟩:=(hm p).1 hp;exact Xt (λx hx=>((HX h).1 hx).1) ((hQ i h).join p h2)
 ·rw[hp.flatten.nodup_iff];have key:∀k,k<=(bk l).length->((List.range k).flatMap Q).flatten.Nodup/\∀r∈((List.range k).flatMap Q).flatten,∃i,∃h:i<(bk l).length,i<k/\r∈aO (bk l)[i]:=by
   intro k
   induction k with
   |zero=>intro _;simp
   |succ k ih=>
    intro hk;obtain⟨h1,h2⟩:=ih (by omega);have aF:k<(bk l).length:=by omega
    have e: ((List.range (k+1)).flatMap Q).flatten=((List.range k).flatMap Q).flatten++(Q k).flatten:=by
     rw[List.range_succ,List.flatMap_append,List.flatten_append];simp
    have hin:∀r∈(Q k).flatten,r∈aO (bk l)[k]:=λr hr=>by
     obtain⟨p,hp,hr⟩:=List.mem_flatten.1 hr;exact(hQ k aF).refs hp hr
    rw[e];refine⟨List.nodup_append.2 ⟨h1,(hQ k aF).EE,λa ha b hb e2=>?_⟩,λr hr=>?_⟩
    ·subst e2;obtain⟨i,hi,hik,h3⟩:=h2 a ha;have:=EM hi aF h3 (hin a hb);omega
    ·rcases List.mem_append.1 hr with h3|h3
     ·obtain⟨i,hi,hik,h4⟩:=h2 r h3;exact⟨i,hi,by omega,h4⟩
     ·exact⟨k,aF,by omega,hin r h3⟩
  exact(key _ (Nat.le_refl _)).1
 ·unfold fh;congr 2;refine List.filter_congr λx hx=>?_;rw[Bool.eq_iff_iff,List.any_eq_true,List.any_eq_true];constructor
  ·rintro⟨p,hp,h2⟩;obtain⟨j,hj,h3⟩:=(hm p).1 hp;have hin:=h2;unfold rV at hin;rw[decide_eq_true_eq] at hin;have h4:=(hQ j hj).refs h3 hin.1;have h5:x.A∈aO (bk l)[i]:=gQ.2 ⟨x,hx,.inl rfl⟩;have:=EM hj h h4 h5;subst this;exact⟨p,h3,h2⟩
  ·rintro⟨p,hp,h2⟩;exact⟨p,(hm p).2 ⟨i,h,hp⟩,h2⟩
end
def jT (x y:a_):Int:=kf y.w x.w
theorem vS:kN jT (λ_=>True):=⟨λx y _ _=>by unfold jT kf;split<;>split<;>(try split)<;>(try split)<;>omega,λx y z _ _ _=>by unfold jT kf;split<;>split<;>(try split)<;>(try split)<;>(try split)<;>omega⟩
def sY (ds:List cI) (p q:List av):Bool:=p.any λr=>q.any (fR ds r)
def nN (ds:List cI) (g:av->List av) (b:a_):av->List av:=
 if b.B∈g b.A\/sY ds (g b.A) (g b.B)=true then g else λr=>if r∈g b.A++g b.B then g b.A++g b.B else g r
def eo (ds:List cI) (ord:List a_):av->List av:=ord.foldl (nN ds) λr=>[r]
def Ab (g:av->List av) (r:av):Bool:=decide (1<(jY (g r)).length/\(jY (g r)).head?=some r)
def pH (refs:List av) (g:av->List av):List (List av):=(refs.filter (Ab g)).map λr=>jY (g r)
noncomputable def xU (l:List a_) (ds:List cI):List (List av):=pH (aO l) (eo ds (B7 jT l))
section
variable {l:List a_} {ds:List cI} {g:av->List av} {refs:List av}
theorem NY {p q:List av}:sY ds p q=false↔∀r∈p,∀o∈q,fR ds r o=false:=by
 unfold sY;rw[List.any_eq_false];constructor
 ·intro h r hr o ho;have:=h r hr;rw[Bool.not_eq_true,List.any_eq_false] at this;simpa using this o ho
 ·intro h r hr;rw[Bool.not_eq_true,List.any_eq_false];intro o ho;simp[h r hr o ho]
structure kR (l:List a_) (ds:List cI) (g:av->List av):Prop where
 self:∀r,r∈g r
 same:∀r,∀q∈g r,g q=g r
 nd:∀r,(g r).Nodup
 bar:∀r,∀a∈g r,∀b∈g r,a≠b->fR ds a b=false
 join:∀r,qM l (g r)
theorem kR.start:kR l ds (λr=>[r]):=
 ⟨λr=>by simp,λr q hq=>by rw[List.mem_singleton.1 hq],λr=>by simp,λr a ha b hb hne=>absurd (by rw[List.mem_singleton.1 ha,List.mem_singleton.1 hb]) hne,λr x hx y hy=>by rw[List.mem_singleton.1 hx,List.mem_singleton.1 hy]⟩
theorem kR.apart (h:kR l ds g) {a b:av} (hab:b∉g a):∀r∈g a,r∉g b:=λr h1 h2=>by
 have e1:=h.same a r h1;have e2:=h.same b r h2;exact hab (by rw[<-e1,e2];exact h.self b)
theorem kR.step (h:kR l ds g) {b:a_} (hb:b∈l):kR l ds (nN ds g b):=by
 unfold nN;split
 ·exact h
 ·rename_i hn;have h1:b.B∉g b.A:=λe=>hn (.inl e);have h2:sY ds (g b.A) (g b.B)=false:=Bool.eq_false_iff.2 λe=>hn (.inr e);have hap:=h.apart h1;have hin:∀r q,r∈g b.A++g b.B->(q∈g r->q∈g b.A++g b.B):=λr q hr hq=>by
   rcases List.mem_append.1 hr with h3|h3
   ·rw[h.same _ r h3] at hq;exact List.mem_append.2 (.inl hq)
   ·rw[h.same _ r h3] at hq;exact List.mem_append.2 (.inr hq)
  have hJ:qM l (g b.A++g b.B):=by
   have ka:∀x∈g b.A,∀y∈g b.A,cm (iX l (g b.A++g b.B)) x=cm (iX l (g b.A++g b.B)) y:=λx hx y hy=>
    Ek (l:=iX l (g b.A)) (λz hz=>by
     obtain⟨a1,a2⟩:=List.mem_filter.1 hz;rw[decide_eq_true_eq] at a2;exact List.mem_filter.2 ⟨a1,by rw[decide_eq_true_eq];exact⟨List.mem_append.2 (.inl a2.1),List.mem_append.2 (.inl a2.2)⟩⟩) (h.join _ x hx y hy)
   have kb:∀x∈g b.B,∀y∈g b.B,cm (iX l (g b.A++g b.B)) x=cm (iX l (g b.A++g b.B)) y:=λx hx y hy=>
    Ek (l:=iX l (g b.B)) (λz hz=>by
     obtain⟨a1,a2⟩:=List.mem_filter.1 hz;rw[decide_eq_true_eq] at a2;exact List.mem_filter.2 ⟨a1,by rw[decide_eq_true_eq];exact⟨List.mem_append.2 (.inr a2.1),List.mem_append.2 (.inr a2.2)⟩⟩) (h.join _ x hx y hy)
   have Xv:cm (iX l (g b.A++g b.B)) b.A=cm (iX l (g b.A++g b.B)) b.B:=
    tP (List.mem_filter.2 ⟨hb,by rw[decide_eq_true_eq];exact⟨List.mem_append.2 (.inl (h.self _)),List.mem_append.2 (.inr (h.self _))⟩⟩)
   have all:∀x∈g b.A++g b.B,cm (iX l (g b.A++g b.B)) x=cm (iX l (g b.A++g b.B)) b.A:=λx hx=>by
    rcases List.mem_append.1 hx with h3|h3
    ·exact ka x h3 _ (h.self _)
    ·rw[kb x h3 _ (h.self _),Xv]
   exact λx hx y hy=>by rw[all x hx,all y hy]
  refine⟨λr=>?_,λr q hq=>?_,λr=>?_,λr a ha c hc hne=>?_,λr=>?_⟩
  ·show r∈(if r∈g b.A++g b.B then g b.A++g b.B else g r);split
   ·rename_i h3;exact h3
   ·exact h.self r
  ·split at hq
   ·rename_i h3;rw[if_pos hq,if_pos h3]
   ·rename_i h3;have h4:q∉g b.A++g b.B:=λe=>by
     have:=hin q r e (by rw[h.same r q hq];exact h.self r);exact h3 this
    rw[if_neg h3,if_neg h4];exact h.same r q hq
  ·split
   ·exact List.nodup_append.2 ⟨h.nd _,h.nd _,λa ha c hc e=>hap a ha (e▸hc)⟩
   ·exact h.nd r
  ·split at ha
   ·rename_i h3;rw[if_pos h3] at hc;rcases List.mem_append.1 ha with h4|h4
    ·rcases List.mem_append.1 hc with h5|h5
     ·exact h.bar _ a h4 c h5 hne
     ·exact NY.1 h2 a h4 c h5
    ·rcases List.mem_append.1 hc with h5|h5
     ·rw[Wv];exact NY.1 h2 c h5 a h4
     ·exact h.bar _ a h4 c h5 hne
   ·rename_i h3;rw[if_neg h3] at hc;exact h.bar r a ha c hc hne
  ·split
   ·exact hJ
   ·exact h.join r
theorem kR.fold:∀(ord:List a_) {g:av->List av},kR l ds g->(∀b∈ord,b∈l)->kR l ds (ord.foldl (nN ds) g)
 |[],g,h,_=>h
 |b::ord,g,h,hm=>kR.fold ord (h.step (hm b (by simp))) λc hc=>hm c (by simp[hc])
theorem Ck {s:List av} {r:av}:r∈jY s↔r∈s:=(u_ s).mem_iff
theorem NZ (s:List av) (hn:s.Nodup): (jY s).Pairwise fK:=by
 have h1:=LR s;have h2: (jY s).Nodup:=(u_ s).nodup_iff.2 hn;refine(h1.and (List.nodup_iff_pairwise_ne.1 h2)).imp λ{a b} ⟨h3,h4⟩=>?_;rcases Ej a b with h|h|h
 ·exact h
 ·exact absurd h h4
 ·exact absurd h (Ei.1 h3)
theorem kR.out (h:kR l ds g) (hr:refs.Pairwise fK):iY l ds (pH refs g):=by
 have hm:∀p∈pH refs g,∃r∈refs,p=jY (g r)/\1<(jY (g r)).length/\(jY (g r)).head?=some r:=λp hp=>by
  obtain⟨r,hr,rfl⟩:=List.mem_map.1 hp;obtain⟨h1,h2⟩:=List.mem_filter.1 hr;exact⟨r,h1,rfl,of_decide_eq_true h2⟩
 have N0:∀r,(jY (g r)).head?=some r->(jY (g r)).headD ⟨0,0⟩=r:=λr e=>by rw[List.headD_eq_head?_getD,e];rfl
 refine⟨λp hp=>?_,λp hp=>?_,λp hp=>?_,λp hp=>?_,?_,?_⟩
 ·obtain⟨r,_,rfl,_⟩:=hm p hp;exact NZ _ (h.nd r)
 ·obtain⟨r,_,rfl,h2,_⟩:=hm p hp;exact h2
 ·obtain⟨r,_,rfl,_⟩:=hm p hp;exact List.pairwise_iff_getElem.2 λi j hi hj hij=>h.bar r _ (Ck.1 (List.getElem_mem _)) _ (Ck.1 (List.getElem_mem _)) (λe=>by
   have:=List.pairwise_iff_getElem.1 (NZ _ (h.nd r)) i j hi hj hij;rw[e] at this;exact xu _ this)
 ·obtain⟨r,_,rfl,_⟩:=hm p hp;exact qM.congr (λq=>Ck.symm) (h.join r)
 ·have key:∀rs:List av,rs.Nodup->(∀r∈rs,(jY (g r)).head?=some r)->(rs.map λr=>jY (g r)).flatten.Nodup:=by
   intro rs
   induction rs with
   |nil=>intro _ _;simp
   |cons a t ih=>
    intro hn hh;have hn2:=List.nodup_cons.1 hn;rw[List.map_cons,List.flatten_cons];refine List.nodup_append.2 ⟨(u_ _).nodup_iff.2 (h.nd a),ih hn2.2 λr hr=>hh r (by simp[hr]),λx hx y hy e=>?_⟩;subst e;obtain⟨p,hp,Xw⟩:=List.mem_flatten.1 hy;obtain⟨r,hr,rfl⟩:=List.mem_map.1 hp;have e1:=h.same a x (Ck.1 hx);have e2:=h.same r x (Ck.1 Xw);have h3:=hh a (by simp);have h4:=hh r (by simp[hr]);rw[<-e1,e2,h4] at h3;injection h3 with h3;subst h3;exact hn2.1 hr
  refine key _ ((BR hr).sublist List.filter_sublist) λr hr=>?_;exact(of_decide_eq_true (List.mem_filter.1 hr).2).2
 ·unfold pH;rw[List.pairwise_map];refine List.Pairwise.imp_of_mem ?_ (hr.sublist List.filter_sublist);intro a b ha hb hab;rw[N0 a (of_decide_eq_true (List.mem_filter.1 ha).2).2,N0 b (of_decide_eq_true (List.mem_filter.1 hb).2).2];exact hab
theorem Xx (l:List a_) (ds:List cI) {ord:List a_} (ho:∀b∈ord,b∈l):iY l ds (pH (aO l) (eo ds ord)):=(kR.fold ord kR.start ho).out (vj l)
end
abbrev qk:av×av->Value:=λp=> .agg #[.int .i64 p.1.a,.int .i64 p.1.b,.int .i64 p.2.a,.int .i64 p.2.b]
section
variable {P:Program} {t ga ti:TypeId} {n0 n1 m0 m1 nF nG Cl Co nH nI Cp Cr:String} {e0 e1 f0 f1:Bool} {y0 y1 x0 x1:Nat}
theorem N1 (h:P.underlying ga=some (.struct #[⟨n0,ti,0,e0,nF,nH,y0⟩,⟨n1,ti,1,e1,nG,nI,y1⟩])) (h0:n0≠"_") (h1:n1≠"_") (hS:P.stoodInHeld ga=false)
  (hi:P.underlying ti=some (.int .i64)) (d:Nat) (a b:av) (w:World): (Op.equalIn (d+2) ga (cW a) (cW b)).run P w=.ok (decide (a=b)) w:=by
 have hpt:=λa b i v w=>BL (P:=P) hi a b i v w;have hf:P.fieldsOf ga=#[⟨n0,ti,0,e0,nF,nH,y0⟩,⟨n1,ti,1,e1,nG,nI,y1⟩]:=by simp[Program.fieldsOf,h]
 have he:=λ(x y:Int)=>run_equalIn_int (P:=P) w d ti .i64 .i64 x y hi;rw[show d+2=(d+1)+1 from rfl,run_equalIn_struct w (d+1) ga _ _ (by rw[hf];exact h) hS,hf];have iu:∀c:av,(part ti #[.int .i64 c.a,.int .i64 c.b] 0).run P w=.ok (.int .i64 c.a) w:=λc=>hpt _ _ 0 _ w rfl;have p1:∀c:av,(part ti #[.int .i64 c.a,.int .i64 c.b] 1).run P w=.ok (.int .i64 c.b) w:=λc=>hpt _ _ 1 _ w rfl;have hd: (decide (a=b))=((a.a==b.a)&&(a.b==b.b)):=by
  cases a;cases b;simp only[av.mk.injEq,Bool.decide_and];rfl
 simp only[Op.eqFields,Sem.run_bind,Sem.run_ite,h0,h1,ne_eq,not_false_eq_true,if_true,iu,p1,Result.andThen_ok,he,hd];cases (a.a==b.a)<;>cases (a.b==b.b)<;>simp
theorem xV (h:P.underlying t=some (.struct #[⟨m0,ga,0,f0,Cl,Cp,x0⟩,⟨m1,ga,2,f1,Co,Cr,x1⟩])) (g0:m0≠"_") (g1:m1≠"_") (hS:P.stoodInHeld t=false)
  (hr:P.underlying ga=some (.struct #[⟨n0,ti,0,e0,nF,nH,y0⟩,⟨n1,ti,1,e1,nG,nI,y1⟩])) (h0:n0≠"_") (h1:n1≠"_") (HY:P.stoodInHeld ga=false)
  (hi:P.underlying ti=some (.int .i64)) (ha:iF P ga=some true) (hs:gR P ga=some 2):sM P t qk:=by
 have hf:P.fieldsOf t=#[⟨m0,ga,0,f0,Cl,Cp,x0⟩,⟨m1,ga,2,f1,Co,Cr,x1⟩]:=by simp[Program.fieldsOf,h]
 have iu:∀(c:av×av) w,(part ga #[.int .i64 c.1.a,.int .i64 c.1.b,.int .i64 c.2.a,.int .i64 c.2.b] 0).run P w=.ok (cW c.1) w:=λc w=>by
  unfold part;simp only[Sem.run_bind,qx ha,Result.andThen_ok,if_true,kF hs,Sem.run_pure];rfl
 have p1:∀(c:av×av) w,(part ga #[.int .i64 c.1.a,.int .i64 c.1.b,.int .i64 c.2.a,.int .i64 c.2.b] 2).run P w=.ok (cW c.2) w:=λc w=>by
  unfold part;simp only[Sem.run_bind,qx ha,Result.andThen_ok,if_true,kF hs,Sem.run_pure];rfl
 refine LI h (λd a b w=>?_) (λe k w=>?_) (λk=>by simp[Instr.sameBits]) (λa b hab=>?_)
 ·have he:=λ(x y:av)=>N1 hr h0 h1 HY hi (d+5) x y w;rw[show d+8=(d+7)+1 from rfl,run_equalIn_struct w (d+7) t _ _ (by rw[hf];exact h) hS,hf];have hd: (decide (a=b))=(decide (a.1=b.1)&&decide (a.2=b.2)):=by
   cases a;cases b;simp only[Prod.mk.injEq,Bool.decide_and]
  simp only[Op.eqFields,Sem.run_bind,Sem.run_ite,g0,g1,ne_eq,not_false_eq_true,if_true,iu,p1,Result.andThen_ok,he,hd,show d+7=d+5+2 from rfl];cases decide (a.1=b.1)<;>cases decide (a.2=b.2)<;>simp[he,show d+7=d+5+2 from rfl,iu,p1]
 ·have q:∀(x:Int),(Instr.checkKey e 9998 ti (.int .i64 x)).run P w=.ok () w:=λx=>by unfold Instr.checkKey;simp[run_underlying hi]
  have hpt:=λa b i v w=>BL (P:=P) hi a b i v w;have N2:∀c:av,(part ti #[.int .i64 c.a,.int .i64 c.b] 0).run P w=.ok (.int .i64 c.a) w:=λc=>hpt _ _ 0 _ w rfl;have r1:∀c:av,(part ti #[.int .i64 c.a,.int .i64 c.b] 1).run P w=.ok (.int .i64 c.b) w:=λc=>hpt _ _ 1 _ w rfl;have Xy:∀c:av,(Instr.checkKey e 9999 ga (cW c)).run P w=.ok () w:=λc=>by
   rw[show(9999:Nat)=9998+1 from rfl,Instr.checkKey];simp only[Sem.run_bind,run_underlying hr,Result.andThen_ok];rw[<-Array.forIn_toList];simp only[List.forIn_cons,List.forIn_nil,Sem.run_bind,Sem.run_ite,h0,h1,ne_eq,not_false_eq_true,if_true,N2,r1,q,Result.andThen_ok,Sem.run_pure]
  rw[show(10000:Nat)=9999+1 from rfl,Instr.checkKey];simp only[Sem.run_bind,run_underlying h,Result.andThen_ok];rw[<-Array.forIn_toList];simp only[List.forIn_cons,List.forIn_nil,Sem.run_bind,Sem.run_ite,g0,g1,ne_eq,not_false_eq_true,if_true,iu,p1,Xy,Result.andThen_ok,Sem.run_pure]
 ·obtain⟨⟨a1,a2⟩,⟨a3,a4⟩⟩:=a;obtain⟨⟨b1,b2⟩,⟨b3,b4⟩⟩:=b;simp at hab;simp[hab]
end
def fP (w:World) (M:Nat->Prop) (ds:List cI) (v:Value):Prop:=∃m:List ((av×av)×Bool),og w M qk (λb:Bool=> .bool b) m v/\∀a b,(eF m (a,b)).getD false=iK ds a b
section
variable {w w' w₀:World} {C aQ jP D:Nat->Nat} {I:List Nat} {ds:List cI} {v:Value}
theorem fP.st (h:fP w (aA C) ds v) (hs:ay I w C w' aQ) (h0:0∉I):fP w' (aA aQ) ds v:=let⟨m,h1,h2⟩:=h;⟨m,h1.st hs h0,h2⟩
theorem fP.t (h:fP w (aA C) ds v) (hs:ay I w C w' aQ) (h0:0∉I:=by first|decide|(simp<;>omega)):fP w' (aA aQ) ds v:=h.st hs h0
theorem fP.sub {M M':Nat->Prop} (h:fP w M ds v) (gU:∀b,M' b->M b):fP w M' ds v:=let⟨m,⟨b,h1,h3,h4⟩,h2⟩:=h;⟨m,⟨b,h1,λe=>h3 (gU b e),h4⟩,h2⟩
theorem fP.one {M:Nat->Prop} (h:fP w M ds v):v.cells=#[v]/\v.oneCell'=true:=by obtain⟨m,⟨b,rfl,_⟩,_⟩:=h;exact⟨rfl,rfl⟩
end
theorem Xz {ds:List cI} {k:Nat} (h:k<ds.length) (a b:av):iK (ds.take (k+1)) a b=(iK (ds.take k) a b||(!ds[k].same&&decide (ds[k].A=a/\ds[k].B=b))):=by
 unfold iK;rw[List.take_succ_eq_append_getElem h,List.any_append];simp
abbrev iA:Nat->Nat:=λ_=>0
theorem mZ (w:World):aL w iA:=λb hb=>absurd rfl hb
section
variable {w w':World} {C D:Nat->Nat}
theorem ay.re (h:ay [] w D w' D) (C:Nat->Nat):ay [] w C w' C:=⟨h.ext.mono (λb _ hb=>by cases hb),λ_ _=>rfl⟩
end
section
variable {α:Type} [bu α] {P:Program} {N:Nat} {env:Env} {w w':World} {C aQ D:Nat->Nat} {I:List Nat} {t e:TypeId} {v s:Value} {x y z q:Operand} {xs ys zs:List α} {j n:Nat}
theorem bh.k7 (h:bh w C j e v ys) (hl:ys.length<=9223372036854775807):aB w (aA iA) ys v:=h.own.read (λb _ hb=>absurd rfl hb) hl
theorem aB.c0 {M:Nat->Prop} (h:aB w M ys v):aB w (aA iA) ys v:=h.sub (λb _ hb=>absurd rfl hb)
def nP (w:World) (C:Nat->Nat) (j:Nat) (e:TypeId) (v:Value) (ys:List α):Prop:=bh w C j e v ys\/∃a,v=.slice a ys.length ys.length/\aB w (aA C) ys v
theorem nP.st (h:nP w C j e v ys) (hs:ay I w C w' aQ) (h0:0∉I) (hj:j∉I):nP w' aQ j e v ys:=h.imp (λh=>h.st hs h0 hj) (λ⟨a,h1,h2⟩=>⟨a,h1,h2.st hs h0⟩)
theorem nP.u (h:nP w C j e v ys) (hs:ay I w C w' aQ) (h0:0∉I:=by first|decide|(simp<;>omega)) (hj:j∉I:=by first|decide|(simp<;>omega)):nP w' aQ j e v ys:=h.st hs h0 hj
theorem nP.k7 (h:nP w C j e v ys) (hl:ys.length<=9223372036854775807):aB w (aA iA) ys v:=by
 rcases h with h|⟨a,_,h⟩
 ·exact h.k7 hl
 ·exact h.c0
theorem nP.bS (h:nP w C j e v ys) (hy:ev env y=some v) {d:TypeId} (ht:P.underlying t=some (.slice d)):
  ∀w',cL P N env (.call {callee:=.builtin .len,args:=#[y],argTypes:=#[t]}) w' (.int .i64 ys.length):=λw'=>by
 rcases h with h|⟨a,rfl,_⟩
 ·exact h.bS hy ht w'
 ·exact wZ hy ht
theorem N3 {bytes:Nat} (hF:aL w C) (hj:j≠0) (hx:ev env y=some v) (hy:ev env z=some s) (hrow:oU P t e (sz α) bytes=true) (hsz:0<sz α)
  (hown:nP w C j e v ys) (hsrc:aB w (aA C) zs s) (zM:zs≠[]) (hlen: (ys.length+zs.length)*bytes<=140737488355328) (h63:ys.length+zs.length<=140737488355328):
  gY P N env (.call {callee:=.builtin .append,args:=#[y,z],argTypes:=#[t,t]}) w (λv' w'=>∃aQ,ay [j] w C w' aQ/\bh w' aQ j e v' (ys++zs)/\aL w' aQ):=by
 rcases hown with h|⟨a,rfl,h⟩
 ·exact gl hF hj hx hy hrow hsz h hsrc hlen h63
 ·intro a' iU fe gG;obtain⟨v',w',h1,aQ,h2,h3,h4⟩:=BW (j:=j) (P:=P) (N:=N) (a:=a) hF hj hx hy hrow hsz h hsrc zM hlen h63 a' iU fe gG;exact⟨v',w',h1,aQ,h2.mono (λc hc=>by cases hc),h3,h4⟩
theorem aB.XA {M:Nat->Prop} {e':TypeId} {k:Nat} (h:aB w M xs v) (hy:ev env y=some v) {kd BX:IntKind} (hf:jd P t=some (e',sz α)) (hz:ev env z=some (.int kd k)) (hq:ev env q=some (.int BX k)) (hk:k<=xs.length):
  ∃a,aB w M (xs.take k) (.slice a k k)/\∀w',cL P N env (.slice t y none (some z) (some q)) w' (.slice a k k):=by
 obtain⟨a,c,rfl,hc,hm,hs⟩:=jx.1 h;have lG: (xs.take k).length=k:=by rw[List.length_take];omega
 refine⟨a,?_,λw'=>mk' λρ hρ fe ho=>?_⟩
 ·refine jx.2 ⟨a,k,by rw[lG],by omega,by omega,?_⟩;rcases hs with h|⟨b,o,rfl,hb,cs,ty,eP,hcs,hsz,hr⟩
  ·left;rw[h];simp
  ·right;refine⟨b,o,rfl,hb,cs,ty,eP,hcs,?_,λi hi=>?_⟩
   ·rw[lG];have:=Nat.mul_le_mul_right (sz α) hk;omega
   ·rw[List.getElem_take];exact hr i (by omega)
 ·unfold jd at hf;split at hf
  ·rename_i e1 hu;split at hf
   ·rename_i n' hn;have hb:=xk (P:=P) (kd:=BX) (y:=c) (code:=.slice3Acap) (w:=w') (i:=(k:Int)) (by omega) (by omega);have ew:=xk (P:=P) (kd:=kd) (y:=k) (code:=.slice3B) (w:=w') (i:=(k:Int)) (by omega) (by omega);have iU:a.map (·.add 0)=a:=by
     cases a with
     |none=>simp
     |some a=>simp[Addr.add]
    simp only[Int.toNat_natCast] at hb ew;unfold execOp;rw[ho];simp[hρ _ _ hy,hρ _ _ hz,hρ _ _ hq,Instr.sliceAt,Instr.slice,Instr.sliceBounds,run_underlying hu,kF hn,hb,ew,iU]
   ·cases hf
  ·cases hf
end
section
variable {α:Type} [bu α] {w w':World} {C aQ:Nat->Nat} {I:List Nat} {e:TypeId} {v:Value} {ys:List α} {j:Nat}
theorem nP.t (h:nP w C j e v ys) (hs:ay I w C w' aQ) (h0:0∉I:=by first|decide|(simp<;>omega)) (hj:j∉I:=by first|decide|(simp<;>omega)):nP w' aQ j e v ys:=h.st hs h0 hj
end
section
variable {α:Type} [bu α] {w:World} {C:Nat->Nat} {P:Program} {f:FuncId} {N:Nat} {k:List Item} {R:Value->World->Prop} {Q:Exit->Act->World->Prop} {env:Env} {ops:Array Oper} {S:World->Prop} {i t:Nat} {L:List (Nat×Bool)} {v:Value} {y z q:Operand} {gO:Option (Nat×Bool)} {ty e e':TypeId} {xs:List α} {kd BX:IntKind} {m:Nat}
theorem XB {M:Nat->Prop} (hop:cv ops i=some (some t,.slice ty y none (some z) (some q),gO)) (hw:fT ops env gO=some true) (ht:Nat.blt t N=true) (hl:aB w M xs v) (hy:ev env y=some v)
  (hf:jd P ty=some (e',sz α)) (hz:ev env z=some (.int kd m)) (hq:ev env q=some (.int BX m)) (hk:m<=xs.length)
  (h:∀a,aB w M (xs.take m) (.slice a m m)->bM P N Q ops S L ((t,.slice a m m)::env) w):bM P N Q ops S ((i,true)::L) env w:=by
 obtain⟨a,h2,h3⟩:=hl.XA (P:=P) (N:=N) hy hf hz hq hk;exact eT hop hw ht (λw' _=>h3 w') (h a h2)
end
structure qQ (l:List a_) (s ys:List av):Prop where
 nd:ys.Nodup
 sub:∀r∈ys,r∈s
 first:s.headD ⟨0,0⟩∈ys
 same:∀r∈ys,cm (iX l s) r=cm (iX l s) (s.headD ⟨0,0⟩)
section
variable {l:List a_} {s ys:List av}
theorem qQ.start (h:1<=s.length):qQ l s (s.take 1):=by
 cases s with
 |nil=>simp at h
 |cons a t=>exact⟨by simp,by simp,by simp,by simp⟩
theorem qQ.len (h:qQ l s ys):ys.length<=s.length:=h.nd.length_le_of_subset h.sub
theorem qQ.add (h:qQ l s ys) {x:a_} (hx:x∈l) (hA:x.A∈s) (hB:x.B∈s) {r:av} (hr: (r=x.A/\x.B∈ys)\/(r=x.B/\x.A∈ys)) (hn:r∉ys):qQ l s (ys++[r]):=by
 have he:cm (iX l s) x.A=cm (iX l s) x.B:=tP (List.mem_filter.2 ⟨hx,by rw[decide_eq_true_eq];exact⟨hA,hB⟩⟩);have dQ:r∈s:=by rcases hr with⟨rfl,_⟩|⟨rfl,_⟩<;>assumption
 have hsame:cm (iX l s) r=cm (iX l s) (s.headD ⟨0,0⟩):=by
  rcases hr with⟨rfl,h1⟩|⟨rfl,h1⟩
  ·rw[he];exact h.same _ h1
  ·rw[<-he];exact h.same _ h1
 refine⟨List.nodup_append.2 ⟨h.nd,by simp,λa ha b hb e=>?_⟩,λq hq=>?_,List.mem_append.2 (.inl h.first),λq hq=>?_⟩
 ·rw[List.mem_singleton] at hb;subst hb;subst e;exact hn ha
 ·rcases List.mem_append.1 hq with h1|h1
  ·exact h.sub q h1
  ·rw[List.mem_singleton.1 h1];exact dQ
 ·rcases List.mem_append.1 hq with h1|h1
  ·exact h.same q h1
  ·rw[List.mem_singleton.1 h1];exact hsame
theorem qQ.fin (h:qQ l s ys) (hn:s.Nodup) (hc:∀x∈l,x.A∈s->x.B∈s->(x.A∈ys↔x.B∈ys)): (ys.length:Int)=s.length↔qg l s=true:=by
 have hall:∀r,cm (iX l s) r=cm (iX l s) (s.headD ⟨0,0⟩)->r∈ys:=λr e=>by
  have hinv:∀x∈iX l s,decide (x.A∈ys)=decide (x.B∈ys):=λx hx=>by
   obtain⟨h1,h2⟩:=List.mem_filter.1 hx;rw[decide_eq_true_eq] at h2;exact decide_eq_decide.2 (hc x h1 h2.1 h2.2)
  have e1:=sN (p:=λr=>decide (r∈ys)) hinv r;have e2:=sN (p:=λr=>decide (r∈ys)) hinv (s.headD ⟨0,0⟩);have fE:decide (r∈ys)=decide (s.headD ⟨0,0⟩∈ys):=by rw[<-e1,<-e2,e]
  rw[decide_eq_true h.first] at fE;exact of_decide_eq_true fE
 unfold qg;rw[List.all_eq_true];constructor
 ·intro e r hr;rw[decide_eq_true_eq];refine h.same r ?_;apply Classical.byContradiction;intro hno;have h1: (r::ys).Nodup:=List.nodup_cons.2 ⟨hno,h.nd⟩;have h2:=h1.length_le_of_subset (l₂:=s) (λq hq=>by
   rcases List.mem_cons.1 hq with rfl|hq
   ·exact hr
   ·exact h.sub q hq)
  simp only[List.length_cons] at h2;omega
 ·intro EK;have h2:=hn.length_le_of_subset (l₂:=ys) (λq hq=>hall q (of_decide_eq_true (EK q hq)));have:=h.len;omega
end
def jr (w:World) (C:Nat->Nat) (b:Nat) (o:Obj):Prop:=C b<2/\w.heap[b]?=some o
section
variable {w w':World} {I:List Nat} {C aQ:Nat->Nat} {b:Nat} {o:Obj}
theorem jr.at_ (h:jr w C b o):w.heap[b]?=some o:=h.2
theorem jr.st (h:jr w C b o) (hs:ay I w C w' aQ) (hI:∀c∈I,2<=c):jr w' aQ b o:=
 ⟨by rw[hs.col b (rG h.2)];exact h.1,by rw[hs.ext.sH h.2 (λhm=>by have:=hI _ hm;have:=h.1;omega)]⟩
theorem jr.t (h:jr w C b o) (hs:ay I w C w' aQ) (hI:∀c∈I,2<=c:=by decide):jr w' aQ b o:=h.st hs hI
theorem jr.stay (h:jr w C b o) (hS:Ext (λb=>C b∈I) w w') (hI:∀c∈I,2<=c):w'.heap[b]?=some o:=hS.sH h.2 (λhm=>by have:=hI _ hm;have:=h.1;omega)
theorem jr.bF (h:jr w C b o) (hS:Ext (λb=>C b∈I) w w') (hI:∀c∈I,2<=c:=by decide):w'.heap[b]?=some o:=h.stay hS hI
theorem jr.of (h:w.heap[b]?=some o) (C:Nat->Nat):jr w (bq C) b o:=⟨by unfold bq;split<;>omega,h⟩
theorem ay.same {D D':Nat->Nat} (hs:ay [] w D w' D') (h:w.heap[b]?=some o):w'.heap[b]?=some o:=hs.ext.sH h (λhm=>by cases hm)
end
def xW (ds:List cI) (s:List av):Bool:=(List.range s.length).all λi=>!((s.take i).any λb=>fR ds b (s.getD i ⟨0,0⟩))
def Ac (l:List a_) (ds:List cI) (s:List av):Bool:=decide (2<=s.length)&&xW ds s&&qg l s
theorem N4 {ds:List cI} {s:List av}:xW ds s=true↔s.Pairwise λa b=>fR ds a b=false:=by
 unfold xW;rw[List.all_eq_true,List.pairwise_iff_getElem];constructor
 ·intro h i j hi hj hij;have h1:=h j (List.mem_range.2 hj);rw[Bool.not_eq_true',List.any_eq_false] at h1;have h2:=h1 s[i] (by rw[List.mem_take_iff_getElem];exact⟨i,by omega,rfl⟩);rw[rN hj] at h2;simpa using h2
 ·intro h j hj;have hj:=List.mem_range.1 hj;rw[Bool.not_eq_true',List.any_eq_false];intro b hb;obtain⟨i,hi,rfl⟩:=List.mem_take_iff_getElem.1 hb;rw[rN hj,h i j (by omega) hj (by omega)];decide
theorem XC {ds:List cI} {s:List av} (h:s.Pairwise λa b=>fR ds a b=false):s.Nodup:=List.nodup_iff_pairwise_ne.2 (h.imp λ{a b} h e=>by subst e;rw[Ww] at h;cases h)
theorem XD {ds:List cI} {s:List av} (h:∀i (hi:i<s.length),(s.take i).any (λb=>fR ds b s[i])=false):xW ds s=true:=by
 unfold xW;rw[List.all_eq_true];intro i hi;have hi:=List.mem_range.1 hi;rw[rN hi,h i hi];rfl
theorem XE {ds:List cI} {s:List av} {i:Nat} (hi:i<s.length) (h: (s.take i).any (λb=>fR ds b s[i])=true):xW ds s=false:=by
 unfold xW;rw[List.all_eq_false];exact⟨i,List.mem_range.2 hi,by rw[rN hi,h];decide⟩
theorem iY.HZ {l:List a_} {ds:List cI} {ps:List (List av)} (h:iY l ds ps) {p:List av} (hp:p∈ps):Ac l ds p=true:=by
 unfold Ac;rw[decide_eq_true (h.len p hp),N4.2 (h.bar p hp),Nc.2 (h.join p hp)];rfl
section
variable {l:List a_} {ds:List cI} {ps:List (List av)}
theorem N5 {k:Nat} (h:k<l.length) (ps:List (List av)):fh (l.take (k+1)) ps=if ps.any (rV l[k])=true then fh (l.take k) ps+l[k].w else fh (l.take k) ps:=by
 unfold fh;rw[List.take_succ_eq_append_getElem h,List.filter_append,List.map_append,List.sum_append];by_cases e:ps.any (rV l[k])=true
 ·rw[if_pos e,List.filter_cons_of_pos (p:=λx=>ps.any (rV x)) e];simp
 ·rw[if_neg e,List.filter_cons_of_neg (p:=λx=>ps.any (rV x)) e];simp
theorem H6 (hw:∀x∈l,1<=x.w/\x.w<=1048576) (ps:List (List av)):∀k,k<=l.length->0<=fh (l.take k) ps/\fh (l.take k) ps<=1048576*(k:Int)
 |0,_=>by simp[fh]
 |k+1,hk=>by
  have h1:=H6 hw ps k (by omega);have h2:=hw _ (List.getElem_mem (show k<l.length by omega));rw[N5 (by omega)];split<;>omega
theorem N6 (ps:List (List av)):fh (l.take l.length) ps=fh l ps:=by rw[List.take_length]
theorem H7 (x:a_) (p:List av):rV x p=(decide (x.A∈p)&&decide (x.B∈p)):=by unfold rV;rw[Bool.decide_and]
def Seen (m:List (av×Bool)) (rs:List av):Prop:=∀r,(eF m r).getD false=true↔r∈rs
theorem Seen.nil:Seen [] []:=λr=>by simp[eF]
theorem Seen.put {m:List (av×Bool)} {rs:List av} (h:Seen m rs) (r:av):Seen (gD m r true) (rs++[r]):=λq=>by
 rw[lK,List.mem_append,List.mem_singleton];by_cases e:r=q
 ·rw[if_pos e];simp[e]
 ·rw[if_neg e,h q];exact⟨.inl,λh=>h.resolve_right (λe2=>e e2.symm)⟩
theorem Seen.not {m:List (av×Bool)} {rs:List av} (h:Seen m rs) {r:av} (hr:r∉rs): (eF m r).getD false=false:=Bool.eq_false_iff.2 λe=>hr ((h r).1 e)
theorem iY.fresh (h:iY l ds ps) {i j:Nat} (hi:i<ps.length) (hj:j<ps[i].length):ps[i][j]∉(ps.take i).flatten++ps[i].take j:=λhm=>by
 have hn:=h.EE;have e:ps=ps.take i++ps[i]::ps.drop (i+1):=by rw[<-List.drop_eq_getElem_cons hi,List.take_append_drop]
 rw[e,List.flatten_append,List.flatten_cons,<-List.append_assoc] at hn;have hn2:=(List.nodup_append.1 hn).1;have e2:ps[i]=ps[i].take j++ps[i][j]::ps[i].drop (j+1):=by rw[<-List.drop_eq_getElem_cons hj,List.take_append_drop]
 rcases List.mem_append.1 hm with h1|h1
 ·exact(List.nodup_append.1 hn2).2.2 _ h1 _ (List.getElem_mem hj) rfl
 ·have EI:=(List.nodup_append.1 hn2).2.1;rw[e2] at EI;exact(List.nodup_append.1 EI).2.2 _ h1 _ List.mem_cons_self rfl
theorem XF {i:Nat} (hi:i<ps.length): (ps.take (i+1)).flatten=(ps.take i).flatten++ps[i].take ps[i].length:=by
 rw[List.take_succ_eq_append_getElem hi,List.flatten_append,List.take_length];simp
theorem iY.XG (h:iY l ds ps) {p:List av} (hp:p∈ps):p.length<=2*l.length:=by
 have h1:=(h.nodup hp).length_le_of_subset (l₂:=aO l) (λr hr=>h.refs hp hr);have:=tO l;omega
theorem iY.XH (h:iY l ds ps) {i:Nat} (h0:0<i) (hi:i<ps.length) (h1:0<(ps[i-1]'(by omega)).length) (h2:0<ps[i].length):iW ((ps[i-1]'(by omega))[0]) ps[i][0]<0:=by
 have:=List.pairwise_iff_getElem.1 h.heads (i-1) i (by omega) hi (by omega);rw[List.headD_eq_head?_getD,List.headD_eq_head?_getD,List.head?_eq_getElem?,List.head?_eq_getElem?,List.getElem?_eq_getElem h1,List.getElem?_eq_getElem h2] at this;exact xw.2 this
theorem N7 (rows:List (List av)): (iy rows).length<=rows.length:=List.length_filter_le _ _
theorem XI {rows:List (List av)} {i:Nat} (h:i<rows.length):iy (rows.take (i+1))=if 2<=rows[i].length then iy (rows.take i)++[rows[i]] else iy (rows.take i):=by
 unfold iy;rw[List.take_succ_eq_append_getElem h,List.filter_append];by_cases e:2<=rows[i].length
 ·rw[if_pos e,List.filter_cons_of_pos (by rw[decide_eq_true_eq];exact e)];rfl
 ·rw[if_neg e,List.filter_cons_of_neg (by rw[decide_eq_true_eq];exact e)];simp
theorem XJ {rows:List (List av)} (h:∀q (hq:q<rows.length),2<=rows[q].length->qg l rows[q]=true):nL l rows=true:=by
 unfold nL;rw[List.all_eq_true];intro s hs;obtain⟨h1,h2⟩:=List.mem_filter.1 hs;obtain⟨q,hq,rfl⟩:=List.getElem_of_mem h1;exact h q hq (of_decide_eq_true h2)
theorem XK {rows:List (List av)} {q:Nat} (hq:q<rows.length) (h2:2<=rows[q].length) (h:qg l rows[q]=false):nL l rows=false:=by
 unfold nL;rw[List.all_eq_false];exact⟨_,List.mem_filter.2 ⟨List.getElem_mem hq,by rw[decide_eq_true_eq];exact h2⟩,by rw[h];decide⟩
theorem XL {rows:List (List av)} {st:kQ} (h:nL l rows=false):mY l st rows=st:=by unfold mY;rw[if_neg (by rw[h];rintro⟨h,_⟩;cases h)]
theorem XM {rows:List (List av)} {st:kQ} (h:st.found=true) (h2:fh l (iy rows)<=st.val):mY l st rows=st:=by
 unfold mY;rw[if_neg];rintro⟨_,h3|h3⟩
 ·rw[h] at h3;cases h3
 ·omega
theorem N8 {rows:List (List av)} {st:kQ} (h:nL l rows=true) (h2:st.found=false\/st.val<fh l (iy rows)):mY l st rows=⟨true,iy rows,fh l (iy rows)⟩:=by unfold mY;rw[if_pos ⟨h,h2⟩]
end
structure fW {α:Type} [bu α] (w:World) (C:Nat->Nat) (j:Nat) (e:TypeId) (us:List Value) (rows:List (List α)):Prop where
 len:us.length=rows.length
 own:∀k (h:k<us.length) (h':k<rows.length),bh w C j e us[k] rows[k]
 sZ:∀k l (h:k<us.length) (h':l<us.length),k≠l->∀b,di us[k] b->¬di us[l] b
section
variable {α:Type} [bu α] {P:Program} {N:Nat} {env:Env} {w w':World} {C aQ D:Nat->Nat} {I:List Nat} {t e:TypeId} {v s:Value} {x y z:Operand} {xs ys zs:List α} {us:List Value} {rows:List (List α)} {j k n:Nat}
theorem fW.nil:fW w C j e [] ([]:List (List α)):=⟨rfl,λk h=>by simp at h,λk l h=>by simp at h⟩
theorem fW.st (h:fW w C j e us rows) (hs:ay I w C w' aQ) (h0:0∉I) (hj:j∉I):fW w' aQ j e us rows:=⟨h.len,λk h1 h2=>(h.own k h1 h2).st hs h0 hj,h.sZ⟩
theorem fW.u (h:fW w C j e us rows) (hs:ay I w C w' aQ) (h0:0∉I:=by first|decide|(simp<;>omega)) (hj:j∉I:=by first|decide|(simp<;>omega)):fW w' aQ j e us rows:=h.st hs h0 hj
theorem fW.k7 (h:fW w C j e us rows) (hk:k<us.length) (hk':k<rows.length) (hl:rows[k].length<=9223372036854775807):aB w (aA iA) rows[k] us[k]:=(h.own k hk hk').k7 hl
theorem fW.append {bytes:Nat} (h:fW w C j e us rows) (hF:aL w C) (hj:j≠0) (hk:k<us.length) (hk':k<rows.length) (hx:ev env y=some us[k]) (hy:ev env z=some s) (hrow:oU P t e (sz α) bytes=true) (hsz:0<sz α)
  (hsrc:aB w (aA C) zs s) (hlen: (rows[k].length+zs.length)*bytes<=140737488355328) (h63:rows[k].length+zs.length<=140737488355328):
  gY P N env (.call {callee:=.builtin .append,args:=#[y,z],argTypes:=#[t,t]}) w (λv' w'=>∃aQ,ay [j] w C w' aQ/\aL w' aQ/\fW w' aQ j e (us.set k v') (rows.set k (rows[k]++zs))):=λa ha fe gG=>by
 have hown:=h.own k hk hk';obtain⟨v',w',h1,h2,h3,h4⟩:=Lp (P:=P) (N:=N) hx hy hrow hsz hown.own hsrc hlen h63 a ha fe gG;have nC:∀b,b<w.heap.size->gV C v' j b=C b:=λb hb=>by
  unfold gV;split
  ·rename_i e;rcases h4 b e with h|h
   ·exact(hown.col b h).symm
   ·omega
  ·rfl
 have hS:ay [j] w C w' (gV C v' j):=⟨h3.mono (λb _ hb=>by rw[hown.col b hb];simp),nC⟩
 have hL:aL w' (gV C v' j):=λb hb=>by
  by_cases ho:di v' b
  ·exact(h2.gj b ho).2
  ·unfold gV at hb;rw[if_neg (show¬v'.ownBlock=some b from ho)] at hb;exact Nat.lt_of_lt_of_le (hF b hb) h3.size
 have hn:bh w' (gV C v' j) j e v' (rows[k]++zs):=⟨h2.sub (λb hb hc=>by
  by_cases ho:di v' b
  ·exact .inl ho
  ·right;unfold aA gV at hc;rw[if_neg (show¬v'.ownBlock=some b from ho)] at hc;exact hc) (λb hb=>by unfold aA gV;rw[if_pos (show v'.ownBlock=some b from hb)];exact hj),λb hb=>by unfold gV;rw[if_pos (show v'.ownBlock=some b from hb)]⟩
 have H8:∀l (hl:l<us.length) (hl':l<rows.length),l≠k->bh w' (gV C v' j) j e us[l] rows[l]/\∀b,di us[l] b->¬di v' b:=λl hl hl' hlk=>by
  have ho:=h.own l hl hl';have hne:∀b,di us[l] b->¬di us[k] b:=h.sZ l k hl hk hlk;have hv:∀b,di us[l] b->¬di v' b:=λb hb hv=>by
   rcases h4 b hv with h5|h5
   ·exact hne b hb h5
   ·have:=(ho.own.gj b hb).2;omega
  have hold:∀b,b<w.heap.size->di v' b->aA C b:=λb hb ud=>by
   rcases h4 b ud with h6|h6
   ·unfold aA;rw[hown.col b h6];exact hj
   ·omega
  have h50:jG w (λb=>di v' b\/aA C b) e us[l] rows[l]:=ho.own.sub (λb hb gU=>gU.elim (hold b hb) id) (λb hb=> .inr (by unfold aA;rw[ho.col b hb];exact hj));have h5:jG w' (λb=>di v' b\/aA C b) e us[l] rows[l]:=h50.ext h3 (λb hb hA=> .inr (by unfold aA;rw[hown.col b hA];exact hj)) hne;refine⟨⟨h5.sub (λb hb hc=>?_) (λb hb=>?_),λb hb=>?_⟩,hv⟩
  ·by_cases ud:di v' b
   ·exact .inl ud
   ·right;unfold aA gV at hc;rw[if_neg (show¬v'.ownBlock=some b from ud)] at hc;exact hc
  ·unfold aA gV;rw[if_neg (show¬v'.ownBlock=some b from hv b hb),ho.col b hb];exact hj
  ·unfold gV;rw[if_neg (show¬v'.ownBlock=some b from hv b hb)];exact ho.col b hb
 refine⟨v',w',h1,gV C v' j,hS,hL,⟨by simp[h.len],λl h5 h6=>?_,λl m h5 h6 Ct b hb ew=>?_⟩⟩
 ·simp only[List.length_set] at h5 h6;rw[List.getElem_set,List.getElem_set];by_cases e:k=l
  ·subst e;rw[if_pos rfl,if_pos rfl];exact hn
  ·rw[if_neg e,if_neg e];exact(H8 l h5 h6 (Ne.symm e)).1
 ·simp only[List.length_set] at h5 h6;rw[List.getElem_set] at hb ew;by_cases e1:k=l
  ·by_cases e2:k=m
   ·omega
   ·rw[if_pos e1] at hb;rw[if_neg e2] at ew;exact(H8 m h6 (by rw[<-h.len];exact h6) (Ne.symm e2)).2 b ew hb
  ·by_cases e2:k=m
   ·rw[if_neg e1] at hb;rw[if_pos e2] at ew;exact(H8 l h5 (by rw[<-h.len];exact h5) (Ne.symm e1)).2 b hb ew
   ·rw[if_neg e1] at hb;rw[if_neg e2] at ew;exact h.sZ l m h5 h6 Ct b hb ew
theorem XO {n bytes:Nat} {parts:Array (Nat×Operand)} {ys:List α} (hF:aL w C) (hj:j≠0) (hrow:oU P t e (sz α) bytes=true) (hn:n=ys.length) (oe:n*sz α<=16777216) (hsz:0<sz α)
  (hp:D9 env w (aA C) 0 parts.toList ys):
  gY P N env (.buildSlice t n parts) w (λv w'=>∃aQ,ay [] w C w' aQ/\bh w' aQ j e v ys/\aL w' aQ/\∀b,di v b->w.heap.size<=b):=oT λρ hρ fe gG=>by
 subst hn;obtain⟨i,z,hu,hi,hsi,hby,hz,hzs⟩:=uW hrow
 let zs:List Value:=((Array.range (ys.length*sz α)).map λj=>(if ys.length*sz α=0 then(#[]:Array Value) else z.cells)[j%(if ys.length*sz α=0 then(#[]:Array Value) else z.cells).size]!).toList
 obtain⟨en,news,h1,h2,h3,h4⟩:=Gn (k:=0) [] zs hp (by simp) (by simp[zs]);simp only[List.nil_append] at h2;have hmap:=rK.map hρ h1;have lI:=fill_eq _ (parts.toList.map λp=>(p.1,ρ p.2)) en zs news (by rw[<-hmap]) h2;have hnew:=tH w (.cells news.toArray e);have hrun: (Instr.buildSlice t ys.length (parts.map λx=>(x.1,ρ x.2))).run P w=.ok (.slice (some ⟨w.heap.size,0,none⟩) ys.length ys.length) (w.alloc (.cells news.toArray e)):=by
  have hle:¬(ys.length*sz α>2^24):=by omega
  have pZ: (parts.map λx=>(x.1,ρ x.2)).toList=parts.toList.map λp=>(p.1,ρ p.2):=by simp
  have BG: (sizeOf e).run P w=.ok (sz α) w:=by simp[sizeOf,typeInfo,hi,hsi]
  unfold Instr.buildSlice;simp only[Sem.run_bind,run_underlying hu,Result.andThen_ok,BG,if_neg hle,Sem.run_pure,pZ];by_cases h0:ys.length*sz α=0
  ·have rH:zs=((Array.range (ys.length*sz α)).map λj=>(#[]:Array Value)[j%(#[]:Array Value).size]!).toList:=by simp only[zs,h0,if_true]
   rw[rH] at lI;simp only[h0,if_true,Sem.run_bind,Sem.run_pure,Result.andThen_ok] at lI⊢;simp only[Array.toArray_toList] at lI;rw[lI];simp[newRow]
  ·have rH:zs=((Array.range (ys.length*sz α)).map λj=>z.cells[j%z.cells.size]!).toList:=by simp only[zs,h0,if_false]
   rw[rH] at lI;have Gp: (zeroValue e).run P w=.ok z w:=by simp[zeroValue,typeInfo,hi,hz]
   simp only[h0,if_false,Sem.run_bind,Gp,Sem.run_pure,Result.andThen_ok];simp only[Array.toArray_toList] at lI;rw[lI];simp[newRow]
 obtain⟨aQ,a1,a2,a3⟩:=hnew.own hF j;refine⟨.slice (some ⟨w.heap.size,0,none⟩) ys.length ys.length,w.alloc (.cells news.toArray e),.inl ?_,aQ,a1,⟨.inr ⟨w.heap.size,ys.length,news.toArray,rfl,?_,a2.at_,Nat.le_refl _,?_,λi hi=>?_⟩,λb hb=>?_⟩,a3,λb hb=>?_⟩
 ·unfold execOp;rw[gG];simp only[Sem.run_bind];rw[show(parts.map λx=>match x with|(i,x)=>(i,ρ x))=(parts.map λx=>(x.1,ρ x.2)) from rfl,hrun];rfl
 ·unfold aA;rw[a2.col];exact hj
 ·simp only[List.size_toArray,h3]
 ·have h5:=h4 i hi;refine bu.keep (bu.sub h5 (λb hb hm=>?_)) (λb hb hm=>hnew.ext.block b hb (λh=>h));unfold aA at hm⊢;rw[a1.col b hb] at hm;exact hm
 ·simp only[di,Value.ownBlock,Option.some.injEq] at hb;subst hb;exact a2.col
 ·simp only[di,Value.ownBlock,Option.some.injEq] at hb;omega
theorem fW.snoc (h:fW w C j e us rows) (hj:j≠0) {ys:List α} (ho:bh w C j e v ys) (hd:∀k (hk:k<us.length),∀b,di us[k] b->¬di v b):fW w C j e (us++[v]) (rows++[ys]):=by
 have hl:=h.len;have hi:∀k (hk:k<(us++[v]).length),k<us.length\/k=us.length:=λk hk=>by simp at hk;omega
 refine⟨by simp[h.len],λk h1 h2=>?_,λk l h1 h2 aF b hb ew=>?_⟩
 ·rcases hi k h1 with h3|h3
  ·rw[List.getElem_append_left h3,List.getElem_append_left (by omega)];exact h.own k h3 (by omega)
  ·subst h3;rw[List.getElem_append_right (by omega),List.getElem_append_right (by omega)];simp only[Nat.sub_self,hl];simpa using ho
 ·rcases hi k h1 with h3|h3
  ·rw[List.getElem_append_left h3] at hb;rcases hi l h2 with h4|h4
   ·rw[List.getElem_append_left h4] at ew;exact h.sZ k l h3 h4 aF b hb ew
   ·subst h4;rw[List.getElem_append_right (by omega)] at ew;exact hd k h3 b hb (by simpa using ew)
  ·subst h3;rw[List.getElem_append_right (by omega)] at hb;rcases hi l h2 with h4|h4
   ·rw[List.getElem_append_left h4] at ew;exact hd l h4 b ew (by simpa using hb)
   ·omega
theorem fW.fresh (h:fW w C j e us rows) {w0:World} (hb:∀b,di v b->w0.heap.size<=b) (hs:∀k (hk:k<us.length),∀b,di us[k] b->b<w0.heap.size):∀k (hk:k<us.length),∀b,di us[k] b->¬di v b:=λk hk b h1 h2=>by
 have:=hb b h2;have:=hs k hk b h1;omega
theorem fW.lt (h:fW w C j e us rows):∀k (hk:k<us.length),∀b,di us[k] b->b<w.heap.size:=λk hk b hb=>((h.own k hk (by rw[<-h.len];exact hk)).own.gj b hb).2
theorem fW.pop (h:fW w C j e (us++[v]) (rows++[xs])) (hl:us.length=rows.length):fW w C j e us rows:=
 ⟨hl,λk h1 h2=>by
  have:=h.own k (by simp;omega) (by simp;omega);rwa [List.getElem_append_left h1,List.getElem_append_left h2] at this,λk l h1 h2 aF b hb=>by
  have:=h.sZ k l (by simp;omega) (by simp;omega) aF b;rw[List.getElem_append_left h1,List.getElem_append_left h2] at this;exact this hb⟩
theorem bh.XP {e':TypeId} (h:bh w C j e v xs) (hy:ev env y=some v) {kd:IntKind} {i:Int} (hf:jd P t=some (e',sz α)) (hz:ev env z=some (.int kd i)) (h0:0<=i) (h1:i<=xs.length) (hne:0<xs.length):
  ∃v2,(∀b,di v2 b->di v b)/\bh w C j e v2 (xs.take i.toNat)/\∀w',cL P N env (.slice t y none (some z) none) w' v2:=by
 obtain⟨g,cap,cs,rfl,nC,gU,hc,hle,hsz,hr⟩:=h.tK hne;have hl: (xs.take i.toNat).length=i.toNat:=by rw[List.length_take];omega
 refine⟨.slice (some ⟨g,0,none⟩) (xs.take i.toNat).length cap,λb hb=>hb,⟨.inr ⟨g,cap,cs,rfl,gU,hc,by omega,hsz,λk hk=>?_⟩,h.col⟩,λw'=>mk' λρ hρ fe ho=>?_⟩
 ·rw[List.getElem_take];exact hr k (by omega)
 ·unfold jd at hf;split at hf
  ·rename_i e1 hu;split at hf
   ·rename_i n' hn;simp only[Option.some.injEq,Prod.mk.injEq] at hf;obtain⟨rfl,rfl⟩:=hf;have hb:=xk (P:=P) (kd:=kd) (y:=cap) (code:=.sliceAcap) (w:=w') h0 (by omega);unfold execOp;rw[ho];rw[hl];simp[hρ _ _ hy,hρ _ _ hz,Instr.sliceAt,Instr.slice,Instr.sliceBounds,run_underlying hu,kF hn,hb,oP]
   ·cases hf
  ·cases hf
theorem fW.cut {e':TypeId} (h:fW w C j e us rows) (hk:k<us.length) (hk':k<rows.length) (hy:ev env y=some us[k]) {kd:IntKind} {i:Int} (hf:jd P t=some (e',sz α)) (hz:ev env z=some (.int kd i)) (h0:0<=i) (h1:i<=rows[k].length) (hne:0<rows[k].length):
  ∃v2,fW w C j e (us.set k v2) (rows.set k (rows[k].take i.toNat))/\∀w',cL P N env (.slice t y none (some z) none) w' v2:=by
 obtain⟨v2,h2,h3,h4⟩:=(h.own k hk hk').XP (P:=P) (N:=N) hy hf hz h0 h1 hne;refine⟨v2,⟨by simp[h.len],λl h5 h6=>?_,λl m h5 h6 Ct b hb ew=>?_⟩,h4⟩
 ·simp only[List.length_set] at h5 h6;rw[List.getElem_set,List.getElem_set];by_cases e:k=l
  ·subst e;rw[if_pos rfl,if_pos rfl];exact h3
  ·rw[if_neg e,if_neg e];exact h.own l h5 h6
 ·simp only[List.length_set] at h5 h6;rw[List.getElem_set] at hb ew;by_cases e1:k=l
  ·by_cases e2:k=m
   ·omega
   ·rw[if_pos e1] at hb;rw[if_neg e2] at ew;exact h.sZ k m hk h6 e2 b (h2 b hb) ew
  ·by_cases e2:k=m
   ·rw[if_neg e1] at hb;rw[if_pos e2] at ew;exact h.sZ l k h5 hk (Ne.symm e1) b hb (h2 b ew)
   ·rw[if_neg e1] at hb;rw[if_neg e2] at ew;exact h.sZ l m h5 h6 Ct b hb ew
end
def fC (C:Nat->Nat):Nat->Nat:=λb=>if C b=3\/C b=4\/C b=5 then C b else if C b=0 then 0 else 1
def fM (n:Nat) (C aQ:Nat->Nat):Nat->Nat:=λb=>if b<n then C b else if aQ b=3\/aQ b=4\/aQ b=5 then aQ b else 0
section
variable {α:Type} [bu α] {w w' w0:World} {C aQ D:Nat->Nat} {I:List Nat} {e:TypeId} {v:Value} {ys:List α} {x:α} {us:List Value} {rows:List (List α)} {j b n:Nat} {o:Obj}
theorem H9 (C:Nat->Nat) (b:Nat):fC C b≠0↔C b≠0:=by unfold fC;split<;>(try split)<;>omega
theorem H_ (C:Nat->Nat):aA (fC C)=aA C:=by funext b;exact propext (H9 C b)
theorem aL.fC (h:aL w C):aL w (K.fC C):=λb hb=>h b ((H9 C b).1 hb)
theorem XQ (C:Nat->Nat) (b:Nat):fC C b<6:=by unfold fC;split<;>(try split)<;>omega
theorem N9 {j:Nat} (h:C b=j) (hj:j=3\/j=4\/j=5):fC C b=j:=by unfold fC;rw[h,if_pos hj]
theorem cD.fC (h:cD w C j b o) (hj:j=3\/j=4\/j=5):cD w (K.fC C) j b o:=⟨N9 h.col hj,h.at_⟩
theorem bh.fC (h:bh w C j e v ys) (hj:j=3\/j=4\/j=5):bh w (K.fC C) j e v ys:=⟨by rw[H_];exact h.own,λb hb=>N9 (h.col b hb) hj⟩
theorem fW.fC (h:fW w C j e us rows) (hj:j=3\/j=4\/j=5):fW w (K.fC C) j e us rows:=⟨h.len,λk h1 h2=>(h.own k h1 h2).fC hj,h.sZ⟩
theorem ay.fM (h:ay [3,4,5,6,7] w (fC C) w' aQ):ay [3,4,5] w C w' (K.fM w.heap.size C aQ):=
 ⟨h.ext.mono (λb _ hc=>by
  simp only[List.mem_cons,List.not_mem_nil,or_false] at hc⊢;unfold K.fC at hc;split at hc<;>(try split at hc)<;>omega),λb hb=>by unfold K.fM;rw[if_pos hb]⟩
theorem EN (h:ay I w (fC C) w' aQ) (hF:aL w C):∀b,aA (fM w.heap.size C aQ) b->aA aQ b:=λb hb=>by
 unfold aA fM at*;by_cases hlt:b<w.heap.size
 ·rw[if_pos hlt] at hb;rw[h.col b hlt];exact(H9 C b).2 hb
 ·rw[if_neg hlt] at hb;split at hb<;>omega
theorem Ad (h:ay I w (fC C) w' aQ) (hF:aL w C) (XR:aL w' aQ):aL w' (fM w.heap.size C aQ):=λb hb=>XR b (EN h hF b hb)
theorem Ia (h:ay I w (fC C) w' aQ) {j:Nat} (hj:j=3\/j=4\/j=5) (hb:aQ b=j):fM w.heap.size C aQ b=j:=by
 unfold fM;by_cases hlt:b<w.heap.size
 ·rw[if_pos hlt];have h1:=h.col b hlt;rw[hb] at h1;unfold fC at h1;split at h1
  ·exact h1.symm
  ·split at h1<;>omega
 ·rw[if_neg hlt,hb,if_pos hj]
theorem cD.fM (ho:cD w' aQ j b o) (h:ay I w (K.fC C) w' aQ) (hj:j=3\/j=4\/j=5):cD w' (K.fM w.heap.size C aQ) j b o:=⟨Ia h hj ho.col,ho.at_⟩
theorem bh.fM (ho:bh w' aQ j e v ys) (h:ay I w (K.fC C) w' aQ) (hF:aL w C) (hj:j=3\/j=4\/j=5):bh w' (K.fM w.heap.size C aQ) j e v ys:=
 ⟨ho.own.sub (λb _ hb=>EN h hF b hb) (λb hb=>by unfold aA;rw[Ia h hj (ho.col b hb)];omega),λb hb=>Ia h hj (ho.col b hb)⟩
theorem fW.fM (hr:fW w' aQ j e us rows) (h:ay I w (K.fC C) w' aQ) (hF:aL w C) (hj:j=3\/j=4\/j=5):fW w' (K.fM w.heap.size C aQ) j e us rows:=⟨hr.len,λk h1 h2=>(hr.own k h1 h2).fM h hF hj,hr.sZ⟩
theorem aB.fM (hr:aB w' (aA aQ) x v) (h:ay I w (K.fC C) w' aQ) (hF:aL w C):aB w' (aA (K.fM w.heap.size C aQ)) x v:=hr.nK (EN h hF)
theorem aB.fC (hr:aB w (aA C) x v):aB w (aA (K.fC C)) x v:=by rw[H_];exact hr
theorem fP.fC {ds:List cI} (h:fP w (aA C) ds v):fP w (aA (K.fC C)) ds v:=by rw[H_];exact h
theorem bh.XS {xs:List av} (h:bh w' aQ j e v xs) (hs:ay [] w iA w' aQ) (hj:j≠0) (hF:aL w D) (hl:xs.length<=9223372036854775807):aB w' (aA D) xs v:=by
 rcases h.own with⟨rfl,rfl⟩|⟨g,cap,cs,hv,hg,hc,h1,h2,h3⟩
 ·exact jX
 ·subst hv;have nC:=h.col g rfl;have hn:¬aA D g:=λhD=>by
   have:=hs.col g (hF g hD);rw[nC] at this;exact hj this
  exact jx.2 ⟨_,cap,rfl,h1,hl,.inr ⟨g,0,rfl,hn,cs,e,_,hc,by rw[Nat.zero_add,h2];exact Nat.mul_le_mul_right _ h1,λi hi=>by rw[Nat.zero_add];exact k5.2 (k5.1 (h3 i hi))⟩⟩
theorem bh.N_ (ho:bh w' aQ j e v ys) (h:ay I w (K.fC C) w' aQ) (hF:aL w C) (hj:6<=j) (hl:ys.length<=9223372036854775807):aB w' (aA (K.fM w.heap.size C aQ)) ys v:=
 ho.own.read (λb _ hb=>⟨EN h hF b hb,λzP=>by
  have hc:=ho.col b zP;unfold aA K.fM at hb;by_cases hlt:b<w.heap.size
  ·have:=h.col b hlt;have h2:=XQ C b;omega
  ·rw[if_neg hlt] at hb;split at hb<;>omega⟩) hl
end
def EO (XT qR m_:Nat) (w:World) (C:Nat->Nat) (b:Nat) (bO cC kH:Value) (rows:List (List av)) (st:kQ):Prop:=
 ∃vs us lV,cD w C 3 b (.cells [bO,cC,kH,vs,.bool st.found,lV,.int .i64 st.val].toArray XT)/\bh w C 4 qR vs (us.map iw.mk)/\fW w C 5 m_ us rows/\aB w (aA C) st.best lV
section
variable {w w':World} {C aQ:Nat->Nat} {us:List Value} {rows:List (List av)} {m_:Nat}
theorem fW.one (h:fW w C 5 m_ us rows):∀k (hk:k<us.length),us[k].oneCell'=true:=λk hk=>((h.own k hk (by rw[<-h.len];exact hk)).one).2
end
section
variable {α:Type} [bu α] {P:Program} {N:Nat} {env:Env} {w w':World} {C aQ aW D:Nat->Nat} {I:List Nat} {t e:TypeId} {v s:Value} {x y z:Operand} {xs ys zs:List α} {j j1 n:Nat}
end
section
variable {α:Type} [bu α] {w:World} {C:Nat->Nat} {P:Program} {f:FuncId} {N:Nat} {k:List Item} {R:Value->World->Prop} {Q:Exit->Act->World->Prop} {env:Env} {ops:Array Oper} {S:World->Prop} {i t:Nat} {L:List (Nat×Bool)} {v v2:Value} {y z:Operand} {gO:Option (Nat×Bool)} {ty e e':TypeId} {xs:List α} {j g:Nat} {kd:IntKind} {n:Int}
end
section
variable {α:Type} [bu α] {w w':World} {C aQ:Nat->Nat} {I:List Nat} {e:TypeId} {v:Value} {ys:List α} {j:Nat}
end
theorem fP.c0 {w:World} {M:Nat->Prop} {ds:List cI} {v:Value} (h:fP w M ds v):fP w (aA iA) ds v:=h.sub (λb hb=>absurd rfl hb)
section
variable {l:List a_} {ds:List cI} {rows:List (List av)} {refs:List av} {r:av} {i k:Nat} {st:kQ} {C:Nat->Nat} {w:World} {us:List Value} {m_ j:Nat} {xs:List av}
theorem Oa {s:List av} {r:av}:ou ds s r=!(s.any λx=>fR ds x r):=rfl
theorem XU (hk:k<rows.length) (hk2:k<(rows.set k (rows[k]++[r])).length) {i:Int} (hi:i=(((rows.set k (rows[k]++[r]))[k]'hk2).length:Int)-1): (rows.set k (rows[k]++[r])).set k (((rows.set k (rows[k]++[r]))[k]'hk2).take i.toNat)=rows:=by
 have e: (rows.set k (rows[k]++[r]))[k]'hk2=rows[k]++[r]:=by rw[List.getElem_set];simp
 rw[e] at hi⊢;have:i.toNat=rows[k].length:=by simp at hi;omega
 rw[this,List.set_set,List.take_left']
 ·simp
 ·rfl
theorem kG.XV (h:kG ds xs rows):rows.length<=xs.length:=by
 have:=h.heads.length_le;rwa [List.length_map] at this
theorem Ib (hi:i<refs.length):refs.take (i+1)=refs.take i++[refs[i]]:=List.take_succ_eq_append_getElem hi
theorem XW (hk:k<rows.length) (h:ou ds rows[k] r=true) (rs:List av):pF l ds r rs rows st (k+1)=qi l ds rs (rows.set k (rows[k]++[r])) (pF l ds r rs rows st k):=by
 rw[pF,qL hk,if_pos h]
theorem XX (hk:k<rows.length) (h:ou ds rows[k] r=false) (rs:List av):pF l ds r rs rows st (k+1)=pF l ds r rs rows st k:=by
 rw[pF,qL hk,if_neg (by rw[h];decide)]
theorem kG.XY (h:kG ds (refs.take i) rows) (hi:i<refs.length) (hk:k<rows.length) (hok:ou ds rows[k] refs[i]=true):kG ds (refs.take (i+1)) (rows.set k (rows[k]++[refs[i]])):=by
 rw[Ib hi];have:=h.put hk (r:=refs[i]) (by rw[qL hk];exact hok);rwa [qL hk] at this
theorem kG.new' (h:kG ds (refs.take i) rows) (hi:i<refs.length):kG ds (refs.take (i+1)) (rows++[[refs[i]]]):=by
 rw[Ib hi];exact h.new _
theorem fW.XZ {rows:List (List av)} (h:fW w C j m_ us (rows++[xs])) {n:Nat} (hn:n=rows.length):fW w C j m_ (us.take n) rows:=by
 have hl:=h.len;simp only[List.length_append,List.length_cons,List.length_nil] at hl;have e:us=us.take n++[us[n]'(by omega)]:=by
  rw[<-List.take_succ_eq_append_getElem];exact(List.take_of_length_le (by omega)).symm
 rw[e] at h;exact h.pop (by rw[List.length_take];omega)
end
section
variable {α:Type} [bu α] {w:World} {C:Nat->Nat} {P:Program} {f:FuncId} {N:Nat} {Q:Exit->Act->World->Prop} {env:Env} {ops:Array Oper} {S:World->Prop} {i t:Nat} {L:List (Nat×Bool)} {y z:Operand} {gO:Option (Nat×Bool)} {ty e e':TypeId} {us:List Value} {rows:List (List α)} {j k:Nat} {kd:IntKind} {n:Int}
theorem fW.X0 (h:fW w C j e us rows) (hop:cv ops i=some (some t,.slice ty y none (some z) none,gO)) (hw:fT ops env gO=some true) (ht:Nat.blt t N=true) (hk:k<us.length) (hk':k<rows.length) (hy:ev env y=some us[k])
  (hf:jd P ty=some (e',sz α)) (hz:ev env z=some (.int kd n)) (h0:0<=n) (h1:n<=rows[k].length) (hne:0<rows[k].length)
  (hn:∀v2,fW w C j e (us.set k v2) (rows.set k (rows[k].take n.toNat))->bM P N Q ops S L ((t,v2)::env) w):bM P N Q ops S ((i,true)::L) env w:=by
 obtain⟨v2,h2,h3⟩:=h.cut (P:=P) (N:=N) hk hk' hy hf hz h0 h1 hne;exact eT hop hw ht (λw' _=>h3 w') (hn v2 h2)
end
end Go.K
namespace Go.K
open bu Go.RowKit
def lW (N:Nat) (env:Env) (a:Act):Prop:=gX N env {a with defers:=[]}
theorem lW.of {N:Nat} {env:Env} {a:Act} (h:gX N env a):lW N env a:=by
 obtain⟨t,d⟩:=a;have:=h.defers;simp only at this;subst this;exact h
theorem lW.back {N:Nat} {env:Env} {a:Act} (h:lW N env a) (hd:a.defers=[]):gX N env a:=by
 obtain⟨t,d⟩:=a;simp only at hd;subst hd;exact h
theorem lW.put {N:Nat} {env:Env} {a:Act} (h:lW N env a) {d:Option Nat} (hd:qw N d=true) (v:Value):lW N (pU d v env) (a.put d v):=by
 have:=gX.put h hd v;cases d<;>exact this
theorem put_defers (a:Act) (d:Option Nat) (v:Value): (a.put d v).defers=a.defers:=by cases d<;>rfl
def s7 (F:Fence) (n:Nat) (P:Program) (N:Nat) (Q:Exit->Act->World->Prop) (ops:Array Oper) (D:List Deferred) (is:List Nat) (env:Env) (w:World):Prop:=
 ∀a,lW N env a->a.defers=D->wpOpsIn F n P ops Q is a w
section
variable {F:Fence} {n:Nat} {P:Program} {N:Nat} {Q:Exit->Act->World->Prop} {ops:Array Oper} {D:List Deferred} {is:List Nat} {env:Env} {w w':World} {i t:Nat} {d:Option Nat} {op:Op} {v:Value}
theorem Cu (h:∀a,lW N env a->a.defers=D->Q .normal a w):s7 F n P N Q ops D [] env w:=h
theorem xX {T:Value->World->Prop} (hF:∀f,F.fn f) (hop:cv ops i=some (d,op,none)) (iz:∀c,op≠ .defer c) (hd:qw N d=true)
  (hy:gY P N env op w T) (h:∀v w',T v w'->s7 F n P N Q ops D is (pU d v env) w'):s7 F n P N Q ops D (i::is) env w:=λa ha hD=>by
 obtain⟨o,ho,rfl,rfl,hg⟩:=rE hop;obtain⟨v,w',hrun,hT⟩:=hy _ ha o rfl;have e:execOp a.eval o=execOp ({a with defers:=[]}:Act).eval o:=rfl;simp only[wpOpsIn,ho,Region.wanted,hg,if_true];unfold Oper.wpIn;rw[Oper.semAt_eq _ _ _ iz,e];refine⟨λf _=>hF f,?_⟩;rcases hrun with hrun|⟨hrun,rfl⟩
 ·rw[hrun];exact h v w' hT _ (ha.put hd v) (by rw[put_defers];exact hD)
 ·rw[hrun];exact h undef w' hT _ (ha.put hd undef) (by rw[put_defers];exact hD)
theorem ue (hF:∀f,F.fn f) (hop:cv ops i=some (some t,op,none)) (iz:∀c,op≠ .defer c) (ht:Nat.blt t N=true)
  (hv:cL P N env op w v) (h:s7 F n P N Q ops D is ((t,v)::env) w):s7 F n P N Q ops D (i::is) env w:=
 xX hF hop iz ht (T:=λu w'=>u=v/\w'=w) (λa ha o ho=>⟨v,w,.inl (hv a ha o ho),rfl,rfl⟩) (λu w' hT=>by obtain⟨rfl,rfl⟩:=hT;exact h)
theorem X7 {l:Nat} {y z:Operand} {tys:Array TypeId} {j9:Value} {T:Ending->World->Prop} (hF:∀f,F.fn f) (X8:F.depth=none) (hop:cv ops i=some (some t,.call {callee:=.value y,args:=#[z],argTypes:=tys},none)) (ht:Nat.blt t N=true)
  (hy:ev env y=some (.func (.yield l) #[] #[])) (hz:ev env z=some j9) (hY:YieldAt F (n-1) P l #[j9] w T)
  (h:∀e w',T e w'->∃v,e=.returned v/\s7 F n P N Q ops D is ((t,v)::env) w'):s7 F n P N Q ops D (i::is) env w:=λa ha hD=>by
 obtain⟨o,ho,xY,Oc,hg⟩:=rE hop;obtain⟨fn,tmps,assign,body,hrun,Ic⟩:=hY;have e:execOp a.eval o=execOp ({a with defers:=[]}:Act).eval o:=rfl;have hy':=gX.ev ha hy;have X9:=gX.ev ha hz;have hex: (execOp ({a with defers:=[]}:Act).eval o).run P w=.ok (.round l fn tmps assign body) w:=by
  unfold execOp;rw[Oc];simp[hy',X9,resolve,invoke,Deferred.ofValue,Sem.run_bind,Sem.run_pure,Result.andThen,hrun]
 simp only[wpOpsIn,ho,Region.wanted,hg,if_true];unfold Oper.wpIn;rw[Oper.semAt_eq _ _ _ (by rw[Oc];intro c e;cases e),e,hex];refine⟨λf _=>hF f,(λhs=>by rw[X8] at hs;cases hs),Ic.mono λe w' hT=>?_⟩;obtain⟨v,rfl,hW⟩:=h e w' hT;rw[xY];exact hW _ (ha.put (d:=some t) ht v) (by rw[put_defers];exact hD)
end
section
variable {P:Program} {f:FuncId} {N:Nat} {k:List Item} {env:Env} {w:World} {R:Value->World->Prop}
theorem X_ {c:Code} (n:Nat) (h:s7 Fence.wide n P N (pT P f k R) (dF c) [] (List.range (dF c).size) env w) (hc:BF c false=true:=by kernel_rfl):Run P f N (.code c::k) env w R:=λa ha=>by
 obtain⟨id,e⟩:=Gl hc;rw[e];exact wS (wpIn_wide.1 (wpIn_region (h a (.of ha) ha.defers)))
theorem Ya {n:Nat} {ops:Array Oper} (h:Run P f N k env w R):s7 Fence.wide n P N (pT P f k R) ops [] [] env w:=λa ha hd=>h a (ha.back hd)
end
def Ie (c:Code) (t:Nat):Bool:=match c with| .rangeFunc (.tmp j) _ _ _=>Nat.beq j t|_=>false
def xZ (c:Code):Array Tmp:=match c with| .rangeFunc _ ps _ _=>ps|_=>#[]
def Cv (c:Code):Code:=match c with| .rangeFunc _ _ a _=>a|_=> .skip
def Cw (c:Code):Code:=match c with| .rangeFunc _ _ _ b=>b|_=> .skip
theorem Yb {c:Code} {t:Nat} (h:Ie c t=true):c=.rangeFunc (.tmp t) (xZ c) (Cv c) (Cw c):=by
 cases c with
 |rangeFunc g ps a b=>cases g with
  |tmp j=>simp only[Ie] at h;rw[Nat.eq_of_beq_eq_true h];rfl
  |_=>cases h
 |_=>cases h
def EP (n0:Nat) (A B:World):Prop:=∃l o o',n0<=l/\A.heap[l]?=some o/\o.isCells=false/\B=A.putObj l o'
def Ig (n0:Nat) (A B:World):Prop:=∀b o,n0<=b->A.heap[b]?=some o->o.isCells=false->B.heap[b]?=some o
theorem x7 {W:World} {b:Nat} {o:Obj} (h:W.heap[b]?=some o):b<W.heap.size:=(Array.getElem?_eq_some_iff.1 h).1
theorem Yc {W:World} {b:Nat} {o o':Obj} (h:W.heap[b]?=some o): (W.alloc o').heap[b]?=some o:=(Below.heap_alloc W o' b (x7 h)).trans h
theorem Cx {A B:World} {b:Nat} {o:Obj} (h:A.heap[b]?=some o) (hE:Ext No A B):B.heap[b]?=some o:=(hE.block b (x7 h) (λh=>h)).trans h
theorem Cy {W:World} {l b:Nat} {o o':Obj} (h:W.heap[b]?=some o) (hne:b≠l): (W.putObj l o').heap[b]?=some o:=(World.putObj_heap_other hne).trans h
theorem Yd {P:Program} {n:Nat} {c:Code} {Q:Exit->Act->World->Prop} {a:Act} {w:World} {t gf:Nat} {lb:Array Value} {α:Type} {encs:α->Array Value} {xs:List α} {I:List α->World->Prop}
  (hc:Ie c t=true) (Ye:a.eval (.tmp t)=.func (.func gf) #[] lb) (eg:∀args w,(callFunc gf args).run P w=.ok (.enter gf args) w) (hps:∀x,(encs x).size=(xZ c).size)
  (Ih:∀pre A B,I pre A->Ext No A B->I pre B) (Ii:∀pre A B,I pre A->EP w.heap.size A B->I pre B) (h0:I [] w)
  (Ic:∀l k (hk:k<xs.length) A,I (xs.take k) A->(Cv c).wpIn (Fence.wide.inRound l) 0 P
   (Exit.then (λa1 x8=>Ig w.heap.size A x8/\I (xs.take k) x8/\∀ER,EP w.heap.size x8 ER->I (xs.take k) ER->(Cw c).wpIn (Fence.wide.inRound l) 0 P (λe _ Ij=>e=.normal/\Ig w.heap.size ER Ij/\I (xs.take (k+1)) Ij) a1 ER) (λ_ _ _=>False))
   {tmps:=((xZ c).zip (encs xs[k])).foldl (λt (p,v)=>t.setIfInBounds p v) a.tmps,defers:=[]} A)
  (hseq:∀l qm (J:List α->World->Prop),(∀pre A B,J pre A->Ext No A B->J pre B)->(∀pre A,J pre A->I pre A)->
   (∀k (hk:k<xs.length) A,J (xs.take k) A->YieldAt Fence.wide 0 P l (encs xs[k]) A (λe W'=>e=.returned (.bool true)/\J (xs.take (k+1)) W'))->J [] qm->Calls P gf (#[.func (.yield l) #[] #[]]++lb) qm (bI λ_ w'=>J xs w'))
  (hdone:∀D W,w.heap.size<=D->I xs W->W.heap[D]?=some (.deferred (some []))->Q .normal {a with defers:={target:=.collected D,args:=#[]}::a.defers} W):c.wpIn Fence.wide n P Q a w:=by
 rw[Yb hc];refine wpIn_rangeFunc λfn _=>?_;obtain⟨rec,x9⟩:∃rec:LoopState->Option Code->Loop,rec=λst Yf=>{state:=st,pending:=Yf,fn:=fn,tmps:=a.tmps,params:=xZ c,assign:=Cv c,body:=Cw c,defers:=w.heap.size}:=⟨_,rfl⟩
 obtain⟨qm,s8⟩:∃qm,(w.alloc (.deferred (some []))).alloc (.loop (rec .ready none))=qm:=⟨_,rfl⟩
 have Ik:qm.heap[w.heap.size+1]?=some (.loop (rec .ready none)):=by
  rw[<-s8];have:=World.alloc_heap_new (w.alloc (.deferred (some []))) (.loop (rec .ready none));rwa [World.size_alloc] at this
 have Yg:qm.heap[w.heap.size]?=some (.deferred (some [])):=by
  rw[<-s8];exact Yc (World.alloc_heap_new w _)
 have Yh:I [] qm:=by rw[<-s8];exact Ih _ _ _ (Ih _ _ _ h0 (tH _ _).ext) (tH _ _).ext
 obtain⟨J,hJ⟩:∃J:List α->World->Prop,J=λpre W=>I pre W/\W.heap[w.heap.size+1]?=some (.loop (rec .ready none))/\W.heap[w.heap.size]?=some (.deferred (some [])):=⟨_,rfl⟩
 have uh:∀pre A,J pre A↔(I pre A/\A.heap[w.heap.size+1]?=some (.loop (rec .ready none))/\A.heap[w.heap.size]?=some (.deferred (some []))):=λpre A=>by rw[hJ]
 have Yi:∀k (hk:k<xs.length) A,J (xs.take k) A->YieldAt Fence.wide 0 P (w.heap.size+1) (encs xs[k]) A (λe W'=>e=.returned (.bool true)/\J (xs.take (k+1)) W'):=λk hk A h=>by
  obtain⟨hi,hl,hkk⟩:=(uh _ _).1 h;have hy:=run_yield (P:=P) (args:=encs xs[k]) hl (by rw[x9];exact hps _);have e1: (rec .ready none).fn=fn/\(rec .ready none).tmps=a.tmps/\(rec .ready none).params=xZ c/\(rec .ready none).assign=Cv c/\(rec .ready none).body=Cw c:=by rw[x9];exact⟨rfl,rfl,rfl,rfl,rfl⟩
  rw[e1.1,e1.2.1,e1.2.2.1,e1.2.2.2.1,e1.2.2.2.2] at hy;refine⟨fn,_,Cv c,Cw c,hy,roundIn_of_wpIn (n:=0) trivial (wpIn_mono (Ic (w.heap.size+1) k hk A hi) ?_)⟩;intro e a1 x8 hq;cases e with
  |normal=>
   obtain⟨Od,hi1,hbody⟩:=hq;have Ae:=Od _ _ (by omega) hl rfl;have nM:=Od _ _ (Nat.le_refl _) hkk rfl;obtain⟨o2,Af⟩:∃o2:Loop,o2={rec .ready none with state:=.busy}:=⟨_,rfl⟩
   have Il:=run_beginRound (P:=P) Ae (by rw[x9]);rw[<-Af] at Il;refine⟨_,Il,?_⟩;have hT:EP w.heap.size x8 (x8.putObj (w.heap.size+1) (.loop o2)):=⟨_,_,_,by omega,Ae,rfl,rfl⟩
   have tZ: (x8.putObj (w.heap.size+1) (.loop o2)).heap[w.heap.size+1]?=some (.loop o2):=World.putObj_heap_same (x7 Ae);have hk2:=Cy (o':=.loop o2) nM (show w.heap.size≠w.heap.size+1 by omega);refine wpIn_mono (hbody _ hT (Ii _ _ _ hi1 hT)) ?_;intro e a3 Ij hp;obtain⟨rfl,Oe,Yj⟩:=hp;have Im:=Oe _ _ (by omega) tZ rfl;have xQ:=Oe _ _ (Nat.le_refl _) hk2 rfl;have hend:=run_endRound (P:=P) none Im;have fE: ({o2 with state:=if(none:Option Code).isNone then .ready else .done,pending:=none}:Loop)=rec .ready none:=by rw[Af,x9];rfl
   rw[fE] at hend;refine⟨_,_,hend,rfl,(uh _ _).2 ⟨Ii _ _ _ Yj ⟨_,_,_,by omega,Im,rfl,rfl⟩,World.putObj_heap_same (x7 Im),Cy xQ (by omega)⟩⟩
  |exit id=>exact hq.elim
  |ret=>exact hq.elim
  |goto t=>exact hq.elim
  |panic ch=>exact hq.elim
  |outgrown=>exact hq.elim
 have lE:=hseq (w.heap.size+1) qm J (λpre A B h hE=>(uh _ _).2 ⟨Ih _ _ _ ((uh _ _).1 h).1 hE,Cx ((uh _ _).1 h).2.1 hE,Cx ((uh _ _).1 h).2.2 hE⟩) (λpre A h=>((uh _ _).1 h).1) Yi ((uh _ _).2 ⟨Yh,Ik,Yg⟩);refine⟨w.heap.size+1,[{target:=.collected w.heap.size,args:=#[]}],qm,{target:=.fn (.func gf) lb,args:=#[.func (.yield (w.heap.size+1)) #[] #[]]},qm,gf,
  #[.func (.yield (w.heap.size+1)) #[] #[]]++lb,qm,?_,?_,?_,?_,?_,?_⟩
 ·rw[<-s8,x9];exact run_enterLoop_outer _ _ _ _ _
 ·simp only[resolve,Ye];simp[go_sem]
 ·intro _ _;trivial
 ·simp[invoke,go_sem,eg]
 ·intro h;simp[Fence.wide] at h
 ·refine callsIn_wide.2 (lE.mono ?_);rintro e abj ⟨v,rfl,hj⟩;obtain⟨hi,hl,hk⟩:=(uh _ _).1 hj;have:=run_endLoop (P:=P) hl (by rw[x9];simp);rw[x9] at this;exact⟨none,_,this,hdone _ _ (Nat.le_refl _) (Ii _ _ _ hi ⟨_,_,_,by omega,hl,rfl,rfl⟩) (Cy hk (by omega))⟩
section
variable {F:Fence} {n:Nat} {P:Program} {N:Nat} {Q:Exit->Act->World->Prop} {D:List Deferred} {env:Env} {w:World} {a:Act} {c:Code}
theorem ES (h: (cl c).wpIn F n P (Exit.then ((aH c).wpIn F n P Q) Q) a w) (hc:Lv c=true:=by kernel_rfl):c.wpIn F n P Q a w:=by
 have e:c=.seq (cl c) (aH c):=by cases c with|seq a b=>rfl|_=>cases hc
 rw[e];exact wpIn_seq h
theorem Og (id:Nat) (h: (cl c).wpIn F n P (Exit.inBlock id Q) a w) (hc:D5 c id=true:=by kernel_rfl):c.wpIn F n P Q a w:=by
 have e:c=.block id (cl c):=by cases c with|block a b=>simp only[D5] at hc;rw[Nat.eq_of_beq_eq_true hc];rfl|_=>cases hc
 rw[e];exact wpIn_block h
theorem Cz (ha:lW N env a) (hD:a.defers=D) (h:s7 F n P N Q (dF c) D (List.range (dF c).size) env w) (hc:BF c false=true:=by kernel_rfl):c.wpIn F n P Q a w:=by
 obtain⟨id,e⟩:=Gl hc;rw[e];exact wpIn_region (h a ha hD)
def Yk (c:Code):Bool:=match c with| .ret=>true|_=>false
theorem Yl (h:Q .ret a w) (hc:Yk c=true:=by kernel_rfl):c.wpIn F n P Q a w:=by
 have e:c=.ret:=by cases c with|ret=>rfl|_=>cases hc
 rw[e];exact wpIn_ret h
end
theorem Ym {P:Program} {f:FuncId} {fn:Func} {c:Code} (args:List Value) {N n:Nat} {w:World} {R:Value->World->Prop}
  (hf:P.funcs[f]?=some fn) (hb:fn.body=some c) (hN:fn.ntmps=N) (hsz:Nat.ble args.length N=true)
  (h:∀a,lW N (zj 0 args) a->a.defers=[]->c.wpIn Fence.wide n P (bodyPostM Fence.wide n P fn (bI R)) a w):Calls P f args.toArray w (bI R):=by
 refine callsIn_wide.1 (callsIn_of_wp_marks (n:=n) hf hb trivial (h _ ⟨?_,rfl,λt v ht=>?_⟩ rfl) rfl)
 ·have:=Nat.le_of_ble_eq_true hsz;simp[hN];omega
 ·have h1:=(F7 args 0 t v ht).2;simp only[Nat.sub_zero] at h1;have h2:t<args.length:=by
   rcases Nat.lt_or_ge t args.length with h|h
   ·exact h
   ·rw[List.getElem?_eq_none h] at h1;cases h1
  simp only;rw[Array.getElem?_append_left (by simpa using h2)];simpa using h1
theorem lW.ev {N:Nat} {env:Env} {a:Act} (h:lW N env a) {x:Operand} {v:Value} (hx:K.ev env x=some v):a.eval x=v:=by
 have:=gX.ev h hx;cases x<;>exact this
theorem lW.yield {N:Nat} {env:Env} {a:Act} (h:lW N env a) {t:Nat} (ht:Nat.blt t N=true) (v:Value):lW N ((t,v)::env) {tmps:=((#[t]:Array Tmp).zip #[v]).foldl (λt (p,v)=>t.setIfInBounds p v) a.tmps,defers:=[]}:=by
 have:=lW.put h (d:=some t) ht v;unfold lW at this⊢;simpa[Act.put,pU] using this
def pI (bo:Nat) (v:Value):Nat->Nat:=λb=>if b=bo then 2 else if v.ownBlock=some b then 5 else 0
def AS (qR m_:Nat) (w₀:World) (n1 bo:Nat) (pre:List av) (W:World):Prop:=
 ∃v,Ext No w₀ W/\W.heap[bo]?=some (.cells [v].toArray qR)/\bh W (pI bo v) 5 m_ v pre/\∀b,di v b->n1<=b
section
variable {w w' w₀ W A B:World} {C aQ:Nat->Nat} {j j' e qR m_ n0 n1 bo:Nat} {v:Value} {ys pre:List av}
theorem bh.any (h:bh W C j e v ys) (hh:∀b,di v b->w'.heap[b]?=W.heap[b]?) (hc:∀b,di v b->aQ b=j') (hj:j'≠0):bh w' aQ j' e v ys:=by
 refine⟨?_,hc⟩;rcases h.own with⟨rfl,rfl⟩|⟨g,cap,cs,hv,gU,hcs,h1,h2,h3⟩
 ·exact .inl ⟨rfl,rfl⟩
 ·subst hv;exact .inr ⟨g,cap,cs,rfl,by unfold aA;rw[hc g rfl];exact hj,(hh g rfl).trans hcs,h1,h2,λi hi=>k5.2 (k5.1 (h3 i hi))⟩
theorem bh.cells (h:bh W C j e v ys) {b:Nat} (hb:di v b):∃cs,W.heap[b]?=some (.cells cs e):=by
 rcases h.own with⟨rfl,rfl⟩|⟨g,cap,cs,hv,gU,hcs,h1,h2,h3⟩
 ·cases hb
 ·subst hv;cases hb;exact⟨cs,hcs⟩
theorem Oh {l:Nat} {o:Obj} (h:Ext No w₀ A) (hl:w₀.heap.size<=l):Ext No w₀ (A.putObj l o):=
 ⟨h.os,h.tape,h.output,by simpa using h.size,λb hb hn=>(World.putObj_heap_other (by omega)).trans (h.block b hb hn),h.drawn⟩
theorem AS.ext (h:AS qR m_ w₀ n1 bo pre A) (hE:Ext No A B):AS qR m_ w₀ n1 bo pre B:=by
 obtain⟨v,h1,h2,h3,h4⟩:=h;exact⟨v,h1.trans hE (λ_ _ h=>h),Cx h2 hE,h3.any (λb hb=>hE.block b (h3.own.gj b hb).2 (λh=>h)) h3.col (by decide),h4⟩
theorem AS.turn (h:AS qR m_ w₀ n1 bo pre A) (hn:w₀.heap.size<=n0) (hT:EP n0 A B):AS qR m_ w₀ n1 bo pre B:=by
 obtain⟨v,h1,h2,h3,h4⟩:=h;obtain⟨l,o,o',hl,ho,hc,rfl⟩:=hT;refine⟨v,Oh h1 (by omega),Cy h2 (λe=>?_),h3.any (λb hb=>World.putObj_heap_other (λe=>?_)) h3.col (by decide),h4⟩
 ·subst e;rw[h2] at ho;cases ho;cases hc
 ·subst e;obtain⟨cs,hcs⟩:=h3.cells hb;rw[hcs] at ho;cases ho;cases hc
theorem AS.lim {v:Value} (h2:W.heap[bo]?=some (.cells [v].toArray qR)) (h3:bh W (pI bo v) 5 m_ v pre):aL W (pI bo v):=λb hb=>by
 unfold pI at hb;split at hb
 ·rename_i e;subst e;exact x7 h2
 ·split at hb
  ·rename_i e;exact(h3.own.gj b e).2
  ·exact absurd rfl hb
theorem AS.close {v v':Value} {aQ:Nat->Nat} {ys:List av} (h1:Ext No w₀ A) (h2:A.heap[bo]?=some (.cells [v].toArray qR)) (h3:bh A (pI bo v) 5 m_ v pre) (h4:∀b,di v b->n1<=b) (oy:w₀.heap.size<=bo) (hn:w₀.heap.size<=n1) (hA:n1<=A.heap.size)
  (hs:ay [2,5] A (pI bo v) B aQ) (g2:cD B aQ 2 bo (.cells [v'].toArray qR)) (g3:bh B aQ 5 m_ v' ys):Ig n0 A B/\AS qR m_ w₀ n1 bo ys B:=by
 have Io:∀b,pI bo v b∈[2,5]->b=bo\/di v b:=λb hb=>by
  unfold pI at hb;split at hb
  ·left;assumption
  ·split at hb
   ·right;assumption
   ·simp at hb
 refine⟨λb o hb ho hc=>(hs.ext.block b (x7 ho) (λhm=>?_)).trans ho,v',⟨hs.ext.os.trans h1.os,hs.ext.tape.trans h1.tape,hs.ext.output.trans h1.output,Nat.le_trans h1.size hs.ext.size,λb hb _=>?_,((Ext.mono (A':=λb=>pI bo v b∈[2,5]) h1 (λb _ hb=>hb.elim)).trans hs.ext (λb _ h=>h) |>.drawn)⟩,g2.at_,g3.any (λ_ _=>rfl) (λb hb=>?_) (by decide),λb hb=>?_⟩
 ·rcases Io b hm with rfl|h
  ·rw[h2] at ho;cases ho;cases hc
  ·obtain⟨cs,hcs⟩:=h3.cells h;rw[hcs] at ho;cases ho;cases hc
 ·refine(hs.ext.block b (Nat.lt_of_lt_of_le hb h1.size) (λhm=>?_)).trans (h1.block b hb (λh=>h));rcases Io b hm with rfl|h
  ·omega
  ·have:=h4 b h;omega
 ·have:=g3.col b hb;unfold pI;rw[if_neg (λe=>by subst e;rw[g2.col] at this;cases this),if_pos (show v'.ownBlock=some b from hb)]
 ·have hc:=g3.col b hb;rcases Nat.lt_or_ge b A.heap.size with hlt|hge
  ·rw[hs.col b hlt] at hc;rcases Io b (by rw[hc];simp) with rfl|h
   ·have:=g2.col;rw[hs.col b hlt] at this;omega
   ·exact h4 b h
  ·omega
end
end Go.K
