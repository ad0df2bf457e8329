/- Merging in place: what swapRange, rotate and symMerge do to places; stable sorting by blocks. Plain. -/
import Derived.Test.YtdmgmlmlielfbaaGreatL2
import Derived.Test.YtdmgmlmlielfbaaGreatL1
import Derived.WalkKit
import Derived.ProofKit
import Derived.OpenShut
import Derived.ChangeSlices
import Derived.Below
import Derived.Carry
import Derived.Deep.Slices
import Derived.WideShapes
import Derived.ChangeArms
import Derived.SizedLaws
set_option linter.unusedVariables false
set_option linter.unusedSimpArgs false
set_option linter.unusedSectionVars false
namespace Go.K
open bg
section
variable {α:Type} {ys zs us:List α} {σ dD ρ:Nat->Nat} {a b m i j k n x s r d:Nat} {c:α->α->Int} {P:α->Prop} {T:Nat->Nat->Prop}
theorem fC.comp (h:fC ys σ zs) (h':fC zs dD us):fC ys (λi=>σ (dD i)) us:=
 ⟨by rw[h'.len,h.len],λi hi=>by
  have h1:=h'.at_ i (by rw[h.len];exact hi);have h2:=h.at_ (dD i) (by rw[<-h.len];exact h1.1);exact⟨h2.1,h1.2.trans h2.2⟩⟩
theorem fC.congr (h:fC ys σ zs) (e:∀x,σ x=dD x):fC ys dD zs:=(funext e:σ=dD)▸h
def mB (a b k:Nat):Nat->Nat:=λx=>if a<=x/\x<a+k then x-a+b else if b<=x/\x<b+k then x-b+a else x
theorem zi (h:a<=x) (h2:x<a+k):mB a b k x=x-a+b:=by unfold mB;rw[if_pos ⟨h,h2⟩]
theorem zj (h:b<=x) (h2:x<b+k) (h3:a+k<=b):mB a b k x=x-b+a:=by unfold mB;rw[if_neg (by omega),if_pos ⟨h,h2⟩]
theorem sW (h:¬(a<=x/\x<a+k)) (h2:¬(b<=x/\x<b+k)):mB a b k x=x:=by unfold mB;rw[if_neg h,if_neg h2]
theorem WG:mB a b 0 x=x:=sW (by omega) (by omega)
theorem Od (h:a+k<b):lB (mB a b k) (a+k) (b+k) x=mB a b (k+1) x:=by
 unfold lB;by_cases e1:x=a+k
 ·rw[if_pos e1,sW (by omega) (by omega),zi (by omega) (by omega)];omega
 ·rw[if_neg e1];by_cases e2:x=b+k
  ·rw[if_pos e2,sW (by omega) (by omega),zj (by omega) (by omega) (by omega)];omega
  ·rw[if_neg e2];by_cases fV:a<=x/\x<a+k
   ·rw[zi fV.1 fV.2,zi fV.1 (by omega)]
   ·by_cases nQ:b<=x/\x<b+k
    ·rw[zj nQ.1 nQ.2 (by omega),zj nQ.1 (by omega) (by omega)]
    ·rw[sW fV nQ,sW (by omega) (by omega)]
def ro (a m b:Nat):Nat->Nat:=λx=>if a<=x/\x<a+(b-m) then x+(m-a) else if a+(b-m)<=x/\x<b then x-(b-m) else x
theorem uj (h:a<=x) (h2:x<a+(b-m)):ro a m b x=x+(m-a):=by unfold ro;rw[if_pos ⟨h,h2⟩]
theorem uk (h:a+(b-m)<=x) (h2:x<b):ro a m b x=x-(b-m):=by unfold ro;rw[if_neg (by omega),if_pos ⟨h,h2⟩]
theorem qO (h:¬(a<=x/\x<b)) (hm:a<=m) (h2:m<=b):ro a m b x=x:=by unfold ro;rw[if_neg (by omega),if_neg (by omega)]
theorem WH (h:a<=m) (h2:m<=b) (h3:a=m\/m=b):ro a m b x=x:=by
 by_cases e:a<=x/\x<b
 ·by_cases e2:x<a+(b-m)
  ·rw[uj e.1 e2];omega
  ·rw[uk (by omega) e.2];omega
 ·exact qO e h h2
theorem WI (h:a<=m) (h2:m<=b):fD (ro a m b) a b:=by
 refine⟨λi hi=>qO hi h h2,λi h3 h4=>?_,λi j e=>?_⟩
 ·by_cases e2:i<a+(b-m)
  ·rw[uj h3 e2];omega
  ·rw[uk (by omega) h4];omega
 ·have hx:∀x,(a<=x/\x<a+(b-m)/\ro a m b x=x+(m-a))\/(a+(b-m)<=x/\x<b/\ro a m b x=x-(b-m))\/(¬(a<=x/\x<b)/\ro a m b x=x):=λx=>by
   by_cases e:a<=x/\x<b
   ·by_cases e2:x<a+(b-m)
    ·exact .inl ⟨e.1,e2,uj e.1 e2⟩
    ·exact .inr (.inl ⟨by omega,e.2,uk (by omega) e.2⟩)
   ·exact .inr (.inr ⟨e,qO e h h2⟩)
  have h5:=hx i;have h6:=hx j;omega
theorem WJ (hj:j<i) (hi:i<=m):mB (m-i) m j (ro (m-i+j) m (m+j) x)=ro (m-i) m (m+j) x:=by
 by_cases e1:m-i<=x/\x<m-i+j
 ·rw[uj (a:=m-i) e1.1 (by omega),qO (by omega) (by omega) (by omega),zi e1.1 e1.2];omega
 ·by_cases e2:m-i+j<=x/\x<m+j
  ·rw[uk (a:=m-i) (by omega) e2.2];by_cases fV:x<m-i+j+j
   ·rw[uj e2.1 (by omega),zj (by omega) (by omega) (by omega)];omega
   ·rw[uk (by omega) e2.2,sW (by omega) (by omega)]
  ·rw[qO (a:=m-i+j) (by omega) (by omega) (by omega),qO (a:=m-i) (by omega) (by omega) (by omega),sW (by omega) (by omega)]
theorem WK (hj:i<j) (hi:i<=m):mB (m-i) (m+j-i) i (ro (m-i) m (m+(j-i)) x)=ro (m-i) m (m+j) x:=by
 by_cases e1:m-i<=x/\x<m-i+j
 ·rw[uj (b:=m+j) e1.1 (by omega)];by_cases e2:x<m-i+(j-i)
  ·rw[uj e1.1 (by omega),sW (by omega) (by omega)]
  ·rw[uk (by omega) (by omega),zi (by omega) (by omega)];omega
 ·by_cases e2:m-i+j<=x/\x<m+j
  ·rw[uk (b:=m+j) (by omega) e2.2,qO (by omega) (by omega) (by omega),zj (by omega) (by omega) (by omega)];omega
  ·rw[qO (b:=m+(j-i)) (by omega) (by omega) (by omega),qO (b:=m+j) (by omega) (by omega) (by omega),sW (by omega) (by omega)]
theorem WL (hi:i<=m):mB (m-i) m i x=ro (m-i) m (m+i) x:=by
 by_cases e1:m-i<=x/\x<m
 ·rw[zi e1.1 (by omega),uj e1.1 (by omega)];omega
 ·by_cases e2:m<=x/\x<m+i
  ·rw[zj e2.1 e2.2 (by omega),uk (by omega) e2.2];omega
  ·rw[sW (by omega) (by omega),qO (by omega) (by omega) (by omega)]
structure qP (zs us:List α) (a m b i j:Nat):Prop where
 ex:∃dD,fC zs dD us/\∀x,dD (ro (m-i) m (m+j) x)=ro a m b x
 b1:1<=i/\i<=m-a
 b2:1<=j/\j<=b-m
theorem qP.start (h1:a<m) (h2:m<b):qP zs zs a m b (m-a) (b-m):=by
 refine⟨⟨λx=>x,fC.id _,λx=>?_⟩,by omega,by omega⟩;rw[show m-(m-a)=a by omega,show m+(b-m)=b by omega]
theorem qP.more {vs:List α} (h:qP zs us a m b i j) (hj:j<i) (hv:fC us (mB (m-i) m j) vs):qP zs vs a m b (i-j) j:=by
 obtain⟨⟨dD,h1,h2⟩,h3,h4⟩:=h;refine⟨⟨_,h1.comp hv,λx=>?_⟩,by omega,h4⟩;rw[show m-(i-j)=m-i+j by omega,WJ hj (by omega)];exact h2 x
theorem qP.less {vs:List α} (h:qP zs us a m b i j) (hj:i<j) (hv:fC us (mB (m-i) (m+j-i) i) vs):qP zs vs a m b i (j-i):=by
 obtain⟨⟨dD,h1,h2⟩,h3,h4⟩:=h;refine⟨⟨_,h1.comp hv,λx=>?_⟩,h3,by omega⟩;show dD (mB (m-i) (m+j-i) i (ro (m-i) m (m+(j-i)) x))=_;rw[WK hj (by omega)];exact h2 x
theorem qP.done {vs:List α} (h:qP zs us a m b i i) (hv:fC us (mB (m-i) m i) vs):fC zs (ro a m b) vs:=by
 obtain⟨⟨dD,h1,h2⟩,h3,h4⟩:=h;refine(h1.comp hv).congr λx=>?_;show dD (mB (m-i) m i x)=_;rw[WL (by omega)];exact h2 x
def lW (a k:Nat):Nat->Nat:=λx=>if a<=x/\x<k then x+1 else if x=k then a else x
def lX (m k:Nat):Nat->Nat:=λx=>if x=k then m else if k<x/\x<=m then x-1 else x
theorem zk (h:a<=x) (h2:x<k):lW a k x=x+1:=by unfold lW;rw[if_pos ⟨h,h2⟩]
theorem zl:lW a k k=a:=by unfold lW;rw[if_neg (by omega),if_pos rfl]
theorem uo (h:x<a\/k<x) (hk:a<=k):lW a k x=x:=by unfold lW;rw[if_neg (by omega),if_neg (by omega)]
theorem zm:lX m k k=m:=by unfold lX;rw[if_pos rfl]
theorem vE (h:k<x) (h2:x<=m):lX m k x=x-1:=by unfold lX;rw[if_neg (by omega),if_pos ⟨h,h2⟩]
theorem xx (h:x<k\/m<x) (hk:k<=m):lX m k x=x:=by unfold lX;rw[if_neg (by omega),if_neg (by omega)]
theorem WM:lW a a x=x:=by
 by_cases e:x=a
 ·rw[e,zl]
 ·exact uo (by omega) (Nat.le_refl _)
theorem WN:lX m m x=x:=by
 by_cases e:x=m
 ·rw[e,zm]
 ·exact xx (by omega) (Nat.le_refl _)
theorem Oe (h:a<=k):lB (λx=>σ (lW a k x)) k (k+1) x=σ (lW a (k+1) x):=by
 unfold lB;by_cases e1:x=k
 ·rw[if_pos e1,e1];show σ (lW a k (k+1))=_;rw[uo (by omega) h,zk (by omega) (by omega)]
 ·rw[if_neg e1];by_cases e2:x=k+1
  ·rw[if_pos e2,e2];show σ (lW a k k)=_;rw[zl,zl]
  ·rw[if_neg e2];show σ (lW a k x)=_;by_cases fV:a<=x/\x<k
   ·rw[zk fV.1 fV.2,zk fV.1 (by omega)]
   ·rw[uo (by omega) h,uo (by omega) (by omega)]
theorem Og (h:k<=m) (h1:1<=k):lB (λx=>σ (lX m k x)) k (k-1) x=σ (lX m (k-1) x):=by
 unfold lB;by_cases e1:x=k
 ·rw[if_pos e1,e1];show σ (lX m k (k-1))=_;rw[xx (by omega) h,vE (by omega) h]
 ·rw[if_neg e1];by_cases e2:x=k-1
  ·rw[if_pos e2,e2];show σ (lX m k k)=_;rw[zm,zm]
  ·rw[if_neg e2];show σ (lX m k x)=_;by_cases fV:k<x/\x<=m
   ·rw[vE fV.1 fV.2,vE (by omega) fV.2]
   ·rw[xx (by omega) h,xx (by omega) (by omega)]
theorem WO (h:a<=k) (h2:k<b):fD (lW a k) a b:=by
 have hx:∀x,(a<=x/\x<k/\lW a k x=x+1)\/(x=k/\lW a k x=a)\/((x<a\/k<x)/\lW a k x=x):=λx=>by
  by_cases e:x=k
  ·subst e;exact .inr (.inl ⟨rfl,zl⟩)
  ·by_cases e2:a<=x/\x<k
   ·exact .inl ⟨e2.1,e2.2,zk e2.1 e2.2⟩
   ·exact .inr (.inr ⟨by omega,uo (by omega) h⟩)
 exact⟨λi hi=>by have:=hx i;omega,λi h3 h4=>by have:=hx i;omega,λi j e=>by have:=hx i;have:=hx j;omega⟩
theorem WQ (h:a<=k) (h2:k<=m) (h3:m<b):fD (lX m k) a b:=by
 have hx:∀x,(x=k/\lX m k x=m)\/(k<x/\x<=m/\lX m k x=x-1)\/((x<k\/m<x)/\lX m k x=x):=λx=>by
  by_cases e:x=k
  ·subst e;exact .inl ⟨rfl,zm⟩
  ·by_cases e2:k<x/\x<=m
   ·exact .inr (.inl ⟨e2.1,e2.2,vE e2.1 e2.2⟩)
   ·exact .inr (.inr ⟨by omega,xx (by omega) h2⟩)
 exact⟨λi hi=>by have:=hx i;omega,λi h3 h4=>by have:=hx i;omega,λi j e=>by have:=hx i;have:=hx j;omega⟩
structure mC (c:α->α->Int) (ys:List α) (σ:Nat->Nat) (a m b:Nat):Prop where
 lt:a<m/\m<b/\b<=ys.length
 l:iP (ez c ys) σ a m
 r:iP (ez c ys) σ m b
 d:∀p q,a<=p->p<m->m<=q->q<b->ez c ys (σ p) (σ q)\/∃(hq:σ q<ys.length) (hp:σ p<ys.length),c ys[σ q] ys[σ p]<0
theorem mC.yes (h:mC c ys σ a m b) (hL:fC ys σ zs) {p q:Nat} (hp:p<zs.length) (hq:q<zs.length) (hc:c zs[q] zs[p]<0):ez c ys (σ q) (σ p):=by
 have hl:=hL.len;refine⟨(hL.at_ q (by omega)).1,(hL.at_ p (by omega)).1,.inl ?_⟩;rw[<-hL.get (by omega:q<ys.length),<-hL.get (by omega:p<ys.length)];exact hc
theorem mC.no (h:mC c ys σ a m b) (hL:fC ys σ zs) {p q:Nat} (h1:a<=p) (h2:p<m) (h3:m<=q) (h4:q<b) (hp:p<zs.length) (hq:q<zs.length) (hc:¬c zs[q] zs[p]<0):ez c ys (σ p) (σ q):=by
 have hl:=hL.len;rcases h.d p q h1 h2 h3 h4 with h5|⟨w8,e3,h5⟩
 ·exact h5
 ·rw[<-hL.get (by omega:q<ys.length),<-hL.get (by omega:p<ys.length)] at h5;exact absurd h5 hc
abbrev xy (T:Nat->Nat->Prop):Prop:=∀x y z,T x y->T y z->T x z
structure qQ (T:Nat->Nat->Prop) (σ:Nat->Nat) (a m b i j:Nat):Prop where
 le:m<=i/\i<=j/\j<=b
 lo:∀q,m<=q->q<i->T (σ q) (σ a)
 hi:∀q,j<=q->q<b->T (σ a) (σ q)
theorem qQ.start (h:m<=b):qQ T σ a m b m b:=⟨by omega,λq h1 h2=>by omega,λq h1 h2=>by omega⟩
theorem qQ.up {h:Nat} (ht:xy T) (hA:iP T σ m b) (hB:qQ T σ a m b i j) (h1:i<=h) (h2:h<j) (hT:T (σ h) (σ a)):qQ T σ a m b (h+1) j:=by
 have hl:=hB.le;refine⟨by omega,λq h3 h4=>?_,hB.hi⟩;by_cases e:q=h
 ·rw[e];exact hT
 ·exact ht _ _ _ (hA q h h3 (by omega) (by omega)) hT
theorem qQ.down {h:Nat} (ht:xy T) (hA:iP T σ m b) (hB:qQ T σ a m b i j) (h1:i<=h) (h2:h<j) (hT:T (σ a) (σ h)):qQ T σ a m b i h:=by
 have hl:=hB.le;refine⟨by omega,hB.lo,λq h3 h4=>?_⟩;by_cases e:q=h
 ·rw[e];exact hT
 ·exact ht _ _ _ hT (hA h q (by omega) (by omega) (by omega))
theorem qQ.done (hB:qQ T σ a m b i i) (hm:m=a+1) (hA:iP T σ m b):iP T (λx=>σ (lW a (i-1) x)) a b:=by
 have hl:=hB.le;intro p q h1 h2 h3;show T (σ (lW a (i-1) p)) (σ (lW a (i-1) q));rcases Nat.lt_trichotomy p (i-1) with e|e|e
 ·rw[zk h1 e];rcases Nat.lt_trichotomy q (i-1) with f|f|f
  ·rw[zk (by omega) f];exact hA _ _ (by omega) (by omega) (by omega)
  ·rw[f,zl];exact hB.lo _ (by omega) (by omega)
  ·rw[uo (by omega) (by omega)];exact hA _ _ (by omega) (by omega) (by omega)
 ·rw[e,zl,uo (by omega) (by omega)];exact hB.hi _ (by omega) (by omega)
 ·rw[uo (by omega) (by omega),uo (by omega) (by omega)];exact hA _ _ (by omega) (by omega) (by omega)
structure qR (T:Nat->Nat->Prop) (σ:Nat->Nat) (a m i j:Nat):Prop where
 le:a<=i/\i<=j/\j<=m
 lo:∀q,a<=q->q<i->T (σ q) (σ m)
 hi:∀q,j<=q->q<m->T (σ m) (σ q)
theorem qR.start (h:a<=m):qR T σ a m a m:=⟨by omega,λq h1 h2=>by omega,λq h1 h2=>by omega⟩
theorem qR.up {h:Nat} (ht:xy T) (hA:iP T σ a m) (hB:qR T σ a m i j) (h1:i<=h) (h2:h<j) (hT:T (σ h) (σ m)):qR T σ a m (h+1) j:=by
 have hl:=hB.le;refine⟨by omega,λq h3 h4=>?_,hB.hi⟩;by_cases e:q=h
 ·rw[e];exact hT
 ·exact ht _ _ _ (hA q h h3 (by omega) (by omega)) hT
theorem qR.down {h:Nat} (ht:xy T) (hA:iP T σ a m) (hB:qR T σ a m i j) (h1:i<=h) (h2:h<j) (hT:T (σ m) (σ h)):qR T σ a m i h:=by
 have hl:=hB.le;refine⟨by omega,hB.lo,λq h3 h4=>?_⟩;by_cases e:q=h
 ·rw[e];exact hT
 ·exact ht _ _ _ hT (hA h q (by omega) (by omega) (by omega))
theorem qR.done (hB:qR T σ a m i i) (hm:b=m+1) (hA:iP T σ a m):iP T (λx=>σ (lX m i x)) a b:=by
 have hl:=hB.le;intro p q h1 h2 h3;show T (σ (lX m i p)) (σ (lX m i q));rcases Nat.lt_trichotomy p i with e|e|e
 ·rw[xx (.inl e) (by omega)];rcases Nat.lt_trichotomy q i with f|f|f
  ·rw[xx (.inl f) (by omega)];exact hA _ _ (by omega) (by omega) (by omega)
  ·rw[f,zm];exact hB.lo _ (by omega) (by omega)
  ·rw[vE (by omega) (by omega)];exact hA _ _ (by omega) (by omega) (by omega)
 ·rw[e,zm,vE (by omega) (by omega)];exact hB.hi _ (by omega) (by omega)
 ·rw[vE (by omega) (by omega),vE (by omega) (by omega)];exact hA _ _ (by omega) (by omega) (by omega)
structure iI (T:Nat->Nat->Prop) (σ:Nat->Nat) (a m b d s r:Nat):Prop where
 mid:a<d/\d<b/\2*d<=a+b/\a+b<=2*d+1/\a<m/\m<b
 le:s<=r
 lo: (m<=d->a<=s)/\(d<m->d+m-b<=s)
 hi: (m<=d->r<=m)/\(d<m->r<=d)
 aF: ((m<=d/\s=a)\/(d<m/\s=d+m-b))\/(1<=s/\T (σ (s-1)) (σ (d+m-s)))
 e9: ((m<=d/\r=m)\/(d<m/\r=d))\/T (σ (d+m-1-r)) (σ r)
theorem iI.WR (h:a<d/\d<b/\2*d<=a+b/\a+b<=2*d+1/\a<m/\m<b) (h2:d<m):iI T σ a m b d (d+m-b) d:=
 ⟨h,by omega,⟨λe=>by omega,λ_=>Nat.le_refl _⟩,⟨λe=>by omega,λ_=>Nat.le_refl _⟩,.inl (.inr ⟨h2,rfl⟩),.inl (.inr ⟨h2,rfl⟩)⟩
theorem iI.WS (h:a<d/\d<b/\2*d<=a+b/\a+b<=2*d+1/\a<m/\m<b) (h2:m<=d):iI T σ a m b d a m:=
 ⟨h,by omega,⟨λ_=>Nat.le_refl _,λe=>by omega⟩,⟨λ_=>Nat.le_refl _,λe=>by omega⟩,.inl (.inl ⟨h2,rfl⟩),.inl (.inl ⟨h2,rfl⟩)⟩
theorem iI.WT (h:iI T σ a m b d s r) {q:Nat} (h1:s<=q) (h2:q<r):a<=q/\q<m/\m<=d+m-1-q/\d+m-1-q<b/\q<=d+m-1:=by
 obtain⟨h3,h4,⟨h5,h6⟩,⟨h7,h8⟩,_,_⟩:=h;omega
theorem iI.up (h:iI T σ a m b d s r) {q:Nat} (h1:s<=q) (h2:q<r) (hT:T (σ q) (σ (d+m-1-q))):iI T σ a m b d (q+1) r:=by
 obtain⟨h3,h4,⟨h5,h6⟩,⟨h7,h8⟩,e7,jm⟩:=h;exact⟨h3,by omega,by omega,by omega,.inr ⟨by omega,by rw[show q+1-1=q by omega,show d+m-(q+1)=d+m-1-q by omega];exact hT⟩,jm⟩
theorem iI.down (h:iI T σ a m b d s r) {q:Nat} (h1:s<=q) (h2:q<r) (hT:T (σ (d+m-1-q)) (σ q)):iI T σ a m b d s q:=by
 obtain⟨h3,h4,⟨h5,h6⟩,⟨h7,h8⟩,e7,jm⟩:=h;exact⟨h3,by omega,by omega,by omega,e7,.inr hT⟩
theorem iI.ends (h:iI T σ a m b d s s):a<=s/\s<=m/\s<=d/\m<=d+m-s/\d<=d+m-s/\d+m-s<=b/\s+(d+m-s-m)=d:=by
 obtain⟨h3,h4,⟨h5,h6⟩,⟨h7,h8⟩,e7,jm⟩:=h;omega
theorem iI.at_ (h:iI T σ a m b d s s) (x:Nat): (a<=x->x<s->ro s m (d+m-s) x=x)/\(s<=x->x<d->ro s m (d+m-s) x=x+(m-s))/\(d<=x->x<d+m-s->ro s m (d+m-s) x=x-(d-s))/\(d+m-s<=x->ro s m (d+m-s) x=x):=by
 have he:=h.ends;refine⟨λh1 h2=>qO (by omega) (by omega) (by omega),λh1 h2=>uj (by omega) (by omega),λh1 h2=>?_,λh1=>qO (by omega) (by omega) (by omega)⟩;rw[uk (by omega) (by omega)];omega
theorem iI.WU (ht:xy T) (h:iI T σ a m b d s s) (hl:iP T σ a m) (hr:iP T σ m b):∀p q,a<=p->p<d->d<=q->q<b->T (σ (ro s m (d+m-s) p)) (σ (ro s m (d+m-s) q)):=by
 have he:=h.ends;have hm:=h.mid;have HS:∀p q,a<=p->p<q->q<m->T (σ p) (σ q):=hl;have HT:∀p q,m<=p->p<q->q<b->T (σ p) (σ q):=hr;have lL:∀p q,a<=p->p<s->d+m-s<=q->q<b->T (σ p) (σ q):=λp q h1 h2 h3 h4=>by
  rcases h.aF with h5|⟨_,h5⟩
  ·exfalso;omega
  ·have h6:T (σ (s-1)) (σ q):=by
    by_cases e:q=d+m-s
    ·rw[e];exact h5
    ·exact ht _ _ _ h5 (HT _ _ (by omega) (by omega) h4)
   by_cases e:p=s-1
   ·rw[e];exact h6
   ·exact ht _ _ _ (HS p (s-1) h1 (by omega) (by omega)) h6
 have WV:∀p q,s<=p->p<m->m<=q->q<d+m-s->T (σ q) (σ p):=λp q h1 h2 h3 h4=>by
  rcases h.e9 with h5|h5
  ·exfalso;omega
  ·have h6:T (σ q) (σ s):=by
    by_cases e:q=d+m-1-s
    ·rw[e];exact h5
    ·exact ht _ _ _ (HT q (d+m-1-s) h3 (by omega) (by omega)) h5
   by_cases e:p=s
   ·rw[e];exact h6
   ·exact ht _ _ _ h6 (HS s p (by omega) (by omega) h2)
 intro p q h1 h2 h3 h4;have hp:=h.at_ p;have hq:=h.at_ q;by_cases e:p<s
 ·rw[hp.1 h1 e];by_cases f:q<d+m-s
  ·rw[hq.2.2.1 h3 f];exact HS _ _ h1 (by omega) (by omega)
  ·rw[hq.2.2.2 (by omega)];exact lL _ _ h1 e (by omega) h4
 ·rw[hp.2.1 (by omega) h2];by_cases f:q<d+m-s
  ·rw[hq.2.2.1 h3 f];exact WV _ _ (by omega) (by omega) (by omega) (by omega)
  ·rw[hq.2.2.2 (by omega)];exact HT _ _ (by omega) (by omega) h4
theorem iI.left (h:iI (ez c ys) σ a m b d s s) (hS:mC c ys σ a m b) (h1:a<s) (h2:s<d):mC c ys (λx=>σ (ro s m (d+m-s) x)) a s d:=by
 have he:=h.ends;have hlt:=hS.lt;refine⟨⟨h1,h2,by omega⟩,λp q h3 h4 h5=>?_,λp q h3 h4 h5=>?_,λp q h3 h4 h5 h6=>?_⟩
 ·try simp only
  rw[(h.at_ p).1 h3 (by omega),(h.at_ q).1 (by omega) h5];exact hS.l _ _ h3 h4 (by omega)
 ·try simp only
  rw[(h.at_ p).2.1 h3 (by omega),(h.at_ q).2.1 (by omega) h5];exact hS.r _ _ (by omega) (by omega) (by omega)
 ·try simp only
  rw[(h.at_ p).1 h3 h4,(h.at_ q).2.1 h5 h6];exact hS.d _ _ h3 (by omega) (by omega) (by omega)
theorem iI.WW (h:iI (ez c ys) σ a m b d s s) (hS:mC c ys σ a m b) (h1:¬(a<s/\s<d)):iP (ez c ys) (λx=>σ (ro s m (d+m-s) x)) a d:=by
 have he:=h.ends;intro p q h3 h4 h5;try simp only
 by_cases e:s=a
 ·rw[(h.at_ p).2.1 (by omega) (by omega),(h.at_ q).2.1 (by omega) h5];exact hS.r _ _ (by omega) (by omega) (by omega)
 ·rw[(h.at_ p).1 h3 (by omega),(h.at_ q).1 (by omega) (by omega)];exact hS.l _ _ h3 h4 (by omega)
theorem iI.right (h:iI (ez c ys) σ a m b d s s) (hS:mC c ys σ a m b) (h1:d<d+m-s) (h2:d+m-s<b):mC c ys (λx=>σ (ro s m (d+m-s) x)) d (d+m-s) b:=by
 have he:=h.ends;have hlt:=hS.lt;refine⟨⟨h1,h2,by omega⟩,λp q h3 h4 h5=>?_,λp q h3 h4 h5=>?_,λp q h3 h4 h5 h6=>?_⟩
 ·try simp only
  rw[(h.at_ p).2.2.1 h3 (by omega),(h.at_ q).2.2.1 (by omega) h5];exact hS.l _ _ (by omega) (by omega) (by omega)
 ·try simp only
  rw[(h.at_ p).2.2.2 h3,(h.at_ q).2.2.2 (by omega)];exact hS.r _ _ (by omega) h4 h5
 ·try simp only
  rw[(h.at_ p).2.2.1 h3 h4,(h.at_ q).2.2.2 h5];exact hS.d _ _ (by omega) (by omega) (by omega) h6
theorem iI.WX (h:iI (ez c ys) σ a m b d s s) (hS:mC c ys σ a m b) (h1:¬(d<d+m-s/\d+m-s<b)):iP (ez c ys) (λx=>σ (ro s m (d+m-s) x)) d b:=by
 have he:=h.ends;intro p q h3 h4 h5;try simp only
 by_cases e:d+m-s=b
 ·rw[(h.at_ p).2.2.1 h3 (by omega),(h.at_ q).2.2.1 (by omega) (by omega)];exact hS.l _ _ (by omega) (by omega) (by omega)
 ·rw[(h.at_ p).2.2.2 (by omega),(h.at_ q).2.2.2 (by omega)];exact hS.r _ _ (by omega) h4 h5
theorem mC.keep (h:mC c ys σ a m b) (e:∀x,a<=x->x<b->dD x=σ x):mC c ys dD a m b:=by
 have hlt:=h.lt;refine⟨hlt,λp q h3 h4 h5=>?_,λp q h3 h4 h5=>?_,λp q h3 h4 h5 h6=>?_⟩
 ·rw[e p (by omega) (by omega),e q (by omega) (by omega)];exact h.l _ _ h3 h4 h5
 ·rw[e p (by omega) (by omega),e q (by omega) (by omega)];exact h.r _ _ h3 h4 h5
 ·have e1:=e p (by omega) (by omega);have e2:=e q (by omega) (by omega);rw[e1,e2];exact h.d _ _ h3 h4 h5 h6
structure zn (c:α->α->Int) (ys:List α) (σ:Nat->Nat) (a b:Nat) (us:List α) (dD:Nat->Nat):Prop where
 pl:fC ys (λx=>σ (dD x)) us
 wi:fD dD a b
 lQ:iP (ez c ys) (λx=>σ (dD x)) a b
theorem iI.merge {BG BH:Nat->Nat} (hT:xy (ez c ys)) (h:iI (ez c ys) σ a m b d s s) (hS:mC c ys σ a m b) (h1:fD BG a d) (WY:iP (ez c ys) (λx=>σ (ro s m (d+m-s) (BG x))) a d) (h2:fD BH d b) (Dm:iP (ez c ys) (λx=>σ (ro s m (d+m-s) (BG (BH x)))) d b) (hp:fC ys (λx=>σ (ro s m (d+m-s) (BG (BH x)))) us):
  zn c ys σ a b us (λx=>ro s m (d+m-s) (BG (BH x))):=by
 have he:=h.ends;have hm:=h.mid;refine⟨hp,?_,λp q h3 h4 h5=>?_⟩
 ·exact((WI (by omega) (by omega)).mono he.1 he.2.2.2.2.2.1).comp ((h1.mono (Nat.le_refl _) (by omega)).comp (h2.mono (by omega) (Nat.le_refl _)))
 ·try simp only
  by_cases e:q<d
  ·rw[h2.out p (by omega),h2.out q (by omega)];exact WY p q h3 h4 e
  ·by_cases f:p<d
   ·rw[h2.out p (by omega)];have i1:=h1.kA p h3 f;have i2:=h2.kA q (by omega) h5;rw[h1.out (BH q) (by omega)];exact h.WU hT hS.l hS.r _ _ i1.1 i1.2 i2.1 i2.2
   ·exact Dm p q (by omega) h4 h5
theorem WZ (hc:kZ c P) (hP:∀x∈ys,P x):xy (ez c ys):=λ_ _ _ h1 h2=>FH hc hP h1 h2
structure kR (c:α->α->Int) (ys:List α) (σ:Nat->Nat) (a e:Nat):Prop where
 kA:∀x,a<=x->x<e->a<=σ x/\σ x<e
 lQ:iP (ez c ys) σ a e
theorem kR.nil (h:b<=a):kR c ys σ a b:=⟨λx h1 h2=>by omega,λp q h1 h2 h3=>by omega⟩
theorem kR.keep (h:kR c ys σ a b) (e:∀x,a<=x->x<b->dD x=x):kR c ys (λx=>σ (dD x)) a b:=
 ⟨λx h1 h2=>by show a<=σ (dD x)/\σ (dD x)<b;rw[e x h1 h2];exact h.kA x h1 h2,λp q h1 h2 h3=>by
  show ez c ys (σ (dD p)) (σ (dD q));rw[e p h1 (by omega),e q (by omega) h3];exact h.lQ p q h1 h2 h3⟩
theorem mC.Oh (hc:kZ c P) (hP:∀x∈ys,P x) (hL:fC ys σ zs) (h1:kR c ys σ a m) (h2:kR c ys σ m b) (hl:a<m) (hr:m<b) (hb:b<=ys.length):mC c ys σ a m b:=by
 refine⟨⟨hl,hr,hb⟩,h1.lQ,h2.lQ,λp q h3 h4 h5 h6=>?_⟩;have i1:=h1.kA p h3 h4;have i2:=h2.kA q h5 h6;have b1:=(hL.at_ p (by omega)).1;have b2:=(hL.at_ q (by omega)).1;have p1:=hP _ (List.getElem_mem b1);have p2:=hP _ (List.getElem_mem b2);by_cases e:c ys[σ q] ys[σ p]<0
 ·exact .inr ⟨b2,b1,e⟩
 ·have a1:=hc.anti _ _ p1 p2;have a2:=hc.anti _ _ p2 p1;refine .inl ⟨b1,b2,?_⟩;by_cases f:c ys[σ p] ys[σ q]<0
  ·exact .inl f
  ·exact .inr ⟨by omega,by omega⟩
theorem zn.seg (h:zn c ys σ a b us dD) (h1:kR c ys σ a m) (h2:kR c ys σ m b) (hm:a<=m/\m<=b):kR c ys (λx=>σ (dD x)) a b:=by
 refine⟨λx h3 h4=>?_,h.lQ⟩;have h5:=h.wi.kA x h3 h4;show a<=σ (dD x)/\σ (dD x)<b;by_cases e:dD x<m
 ·have:=h1.kA _ h5.1 e;omega
 ·have:=h2.kA _ (by omega) h5.2;omega
theorem kR.Oi (hL:fC ys σ zs) (hid:∀x,a<=x->σ x=x) (hw:fD dD a b) (ha:iP (ez c zs) dD a b) (hb:b<=ys.length):kR c ys (λx=>σ (dD x)) a b:=by
 refine⟨λx h1 h2=>?_,λp q h1 h2 h3=>?_⟩
 ·have:=hw.kA x h1 h2;show a<=σ (dD x)/\σ (dD x)<b;rw[hid _ this.1];exact this
 ·have i1:=hw.kA p h1 (by omega);have i2:=hw.kA q (by omega) h3;show ez c ys (σ (dD p)) (σ (dD q));rw[hid _ i1.1,hid _ i2.1];obtain⟨e1,e2,fV⟩:=ha p q h1 h2 h3;have g1:=hL.get (show dD p<ys.length by omega);have g2:=hL.get (show dD q<ys.length by omega);simp only[hid _ i1.1] at g1;simp only[hid _ i2.1] at g2;rw[g1,g2] at fV;exact⟨by omega,by omega,fV⟩
def uq (c:α->α->Int) (ys:List α) (σ:Nat->Nat) (k:Nat):Prop:=∀k',k'<k->kR c ys σ (k'*20) (k'*20+20)
def vF (c:α->α->Int) (ys:List α) (σ:Nat->Nat) (d n:Nat):Prop:=∀k',kR c ys σ (k'*d) (min (k'*d+d) n)
def oJ (c:α->α->Int) (ys:List α) (σ:Nat->Nat) (d n k:Nat):Prop:=(∀k',k'<k->kR c ys σ (k'*(2*d)) (k'*(2*d)+2*d))/\∀k',2*k<=k'->kR c ys σ (k'*d) (min (k'*d+d) n)
theorem uq.zero:uq c ys σ 0:=λk' h=>by omega
theorem uq.next (h:uq c ys σ k) (ha:a=k*20) (hL:fC ys σ zs) (hW:fD σ 0 a) (hw:fD dD a (a+20)) (hA:iP (ez c zs) dD a (a+20)) (hb:a+20<=ys.length):uq c ys (λx=>σ (dD x)) (k+1):=by
 intro k' hk;by_cases e:k'=k
 ·subst e;rw[<-ha];exact kR.Oi hL (λx hx=>hW.out x (by omega)) hw hA hb
 ·exact(h k' (by omega)).keep λx h1 h2=>hw.out x (by omega)
theorem uq.all (h:uq c ys σ k) (ha:a=k*20) (hL:fC ys σ zs) (hW:fD σ 0 a) (hn:n=ys.length) (hw:fD dD a n) (hA:iP (ez c zs) dD a n) (h1:a<=n) (h2:n<a+20):vF c ys (λx=>σ (dD x)) 20 n:=by
 intro k';rcases Nat.lt_trichotomy k' k with e|e|e
 ·rw[show min (k'*20+20) n=k'*20+20 by omega];exact(h k' e).keep λx h1 h2=>hw.out x (by omega)
 ·subst e;rw[<-ha,show min (a+20) n=n by omega];exact kR.Oi hL (λx hx=>hW.out x (by omega)) hw hA (by omega)
 ·exact kR.nil (by omega)
theorem vF.mix (h:vF c ys σ d n):oJ c ys σ d n 0:=⟨λk' hk=>by omega,λk' _=>h k'⟩
theorem vF.done (h:vF c ys σ d n) (hn:n<=d):iP (ez c ys) σ 0 n:=by
 have:=h 0;rw[Nat.zero_mul,show min (0+d) n=n by omega] at this;exact this.lQ
theorem Ef (k d:Nat):2*k*d=k*(2*d):=by rw[Nat.mul_comm 2 k,Nat.mul_assoc]
theorem oJ.fst (h:oJ c ys σ d n k) (ha:a=k*(2*d)) (hn:a+d<=n):kR c ys σ a (a+d):=by
 have:=h.2 (2*k) (Nat.le_refl _);rw[Ef,<-ha,show min (a+d) n=a+d by omega] at this;exact this
theorem oJ.snd (h:oJ c ys σ d n k) (ha:a=k*(2*d)):kR c ys σ (a+d) (min (a+2*d) n):=by
 have:=h.2 (2*k+1) (by omega);rw[Nat.succ_mul,Ef,<-ha,show a+d+d=a+2*d by omega] at this;exact this
theorem oJ.next (h:oJ c ys σ d n k) (ha:a=k*(2*d)) (hn:a+2*d<=n) (hq:zn c ys σ a (a+2*d) us dD):oJ c ys (λx=>σ (dD x)) d n (k+1):=by
 have h1:=h.fst ha (by omega);have h2:=h.snd ha;rw[show min (a+2*d) n=a+2*d by omega] at h2;refine⟨λk' hk=>?_,λk' hk=>?_⟩
 ·by_cases e:k'=k
  ·subst e;rw[<-ha];exact hq.seg h1 h2 (by omega)
  ·have: (k'+1)*(2*d)<=k*(2*d):=Nat.mul_le_mul_right _ (by omega);rw[Nat.succ_mul] at this;exact(h.1 k' (by omega)).keep λx h3 h4=>hq.wi.out x (by omega)
 ·have: (2*k+2)*d<=k'*d:=Nat.mul_le_mul_right _ (by omega);rw[Nat.add_mul,Ef] at this;exact(h.2 k' (by omega)).keep λx h3 h4=>hq.wi.out x (by omega)
theorem oJ.beyond (ha:a=k*(2*d)) (hn:n<a+2*d) {k':Nat} (hk:k<k'):n<=k'*(2*d):=by
 have: (k+1)*(2*d)<=k'*(2*d):=Nat.mul_le_mul_right _ (by omega);rw[Nat.succ_mul] at this;omega
theorem oJ.last (h:oJ c ys σ d n k) (ha:a=k*(2*d)) (hn:a+d<n) (hn2:n<a+2*d) (hq:zn c ys σ a n us dD):vF c ys (λx=>σ (dD x)) (2*d) n:=by
 have h1:=h.fst ha (by omega);have h2:=h.snd ha;rw[show min (a+2*d) n=n by omega] at h2;intro k';rcases Nat.lt_trichotomy k' k with e|e|e
 ·have: (k'+1)*(2*d)<=k*(2*d):=Nat.mul_le_mul_right _ (by omega);rw[Nat.succ_mul] at this;rw[show min (k'*(2*d)+2*d) n=k'*(2*d)+2*d by omega];exact(h.1 k' e).keep λx h3 h4=>hq.wi.out x (by omega)
 ·subst e;rw[<-ha,show min (a+2*d) n=n by omega];exact hq.seg h1 h2 (by omega)
 ·have:=oJ.beyond ha hn2 e;exact kR.nil (by omega)
theorem oJ.rest (h:oJ c ys σ d n k) (ha:a=k*(2*d)) (hn:n<=a+d) (ha2:a<=n):vF c ys σ (2*d) n:=by
 have h1:=h.2 (2*k) (Nat.le_refl _);rw[Ef,<-ha,show min (a+d) n=n by omega] at h1;intro k';rcases Nat.lt_trichotomy k' k with e|e|e
 ·have: (k'+1)*(2*d)<=k*(2*d):=Nat.mul_le_mul_right _ (by omega);rw[Nat.succ_mul] at this;rw[show min (k'*(2*d)+2*d) n=k'*(2*d)+2*d by omega];exact h.1 k' e
 ·subst e;rw[<-ha,show min (a+2*d) n=n by omega];exact h1
 ·have: (k+1)*(2*d)<=k'*(2*d):=Nat.mul_le_mul_right _ (by omega);rw[Nat.succ_mul] at this;exact kR.nil (by omega)
end
end Go.K
set_option maxHeartbeats 4000000
namespace Go.K
open bg Go.Proofs Go.Shelf Go.Sort
section
variable {P:Program} {ρ:Ren} {β:Type} [bg β] {cf:β->β->Int} {w:World} {C:Nat->Nat} {j g0:Nat} {e:TypeId} {v:Value} {ys:List β}
theorem W0 {α:Type} [Inhabited α] {enc:α->Value} {d:Array α} {cs:Array Value} {t:Nat} (h:t<d.size) (h2:t<cs.size): (putCells enc 0 d cs)[t]?=some (enc d[t]!):=by
 unfold putCells;rw[Array.getElem?_mapIdx,Array.getElem?_eq_getElem h2,Option.map_some,if_pos ⟨Nat.zero_le _,by omega⟩,Nat.sub_zero]
theorem W3 (L:SlLaysF.n6 P ρ) (HU:bg.agg β=false) (ur:kZ cf (λ_=>True)) (hd:∀i k (hi:i<ys.length) (hk:k<ys.length),i≠k->cf ys[i] ys[k]≠0)
  (eg:∀args w,(callFunc g0 args).run P w=.ok (.enter g0 args) w)
  (hcmp:∀W,ay [j] w C W C->aM W C->∀x∈ys,∀y∈ys,∀vx vy,aG W (aB C) x vx->aG W (aB C) y vy->Calls P g0 #[vx,vy] W (bM λu w'=>u=.int .i64 (cf x y)/\ay [] W C w' C))
  (hj:j≠0) (hF:aM w C) (ho:bn w C j e v ys) (hlen:ys.length<=140737488355328):
  Calls P (ρ.f 6) #[v,.func (.func g0) #[] #[]] w (bM λu w'=>u=.tuple #[]/\∃zs,fk cf ys zs/\ay [j] w C w' C/\bn w' C j e v zs/\aM w' C):=by
 have s1:sz β=1:=bg.flat HU;obtain⟨hown,kr⟩:=ho;have DF:fk cf ([]:List β) []:=fk.self λi j hij hj=>by simp at hj
 rcases hown with⟨rfl,rfl⟩|⟨g,cap,cs,rfl,hg,hc,hcap,h2,h3⟩
 ·refine(AnyF.slices_SortFunc_none (P:=P) (ρ:=ρ) {L with} none 0 (.func (.func g0) #[] #[]) w).mono ?_;rintro e' w' ⟨rfl,rfl⟩;exact⟨_,rfl,rfl,[],DF,ay.refl _ _ _,bn.nil,hF⟩
 ·have nD:C g=j:=kr g rfl;obtain⟨n,hn⟩:∃n,n=ys.length:=⟨_,rfl⟩
  rcases Nat.eq_zero_or_pos n with hz|hpos
  ·have hy:ys=[]:=List.length_eq_zero_iff.1 (by omega);subst hy;refine(AnyF.slices_SortFunc_none (P:=P) (ρ:=ρ) {L with} (some ⟨g,0,none⟩) cap (.func (.func g0) #[] #[]) w).mono ?_;rintro e' w' ⟨rfl,rfl⟩;exact⟨_,rfl,rfl,[],DF,ay.refl _ _ _,⟨.inr ⟨g,cap,cs,rfl,hg,hc,hcap,h2,h3⟩,kr⟩,hF⟩
  rw[s1] at h2 h3;have hcs:n<=cs.size:=by omega
  subst hn
  haveI:Inhabited (Fin ys.length):=⟨⟨0,hpos⟩⟩
  obtain⟨enc,Aq⟩:∃enc:Fin ys.length->Value,enc=λi=>cs[i.val]'(by omega):=⟨_,rfl⟩
  have q7:∀i:Fin ys.length,rep w.heap (aB C) ys[i.val] [enc i]:=λi=>by
   have:=h3 i.val i.isLt;have e1:cH cs (i.val*1) 1=[enc i]:=by
    rw[Aq];simp only[cH,Nat.mul_one];rw[List.drop_eq_getElem_cons (by simpa using(show i.val<cs.size by omega))];simp
   rwa [e1] at this
  have h1:OneCell enc:=λi=>bg.one (q7 i) _ List.mem_cons_self;obtain⟨sX,Oj⟩:∃sX:Fin ys.length->Fin ys.length->Int,sX=λi k=>cf ys[i.val] ys[k.val]:=⟨_,rfl⟩
  have hlt:∀i k:Fin ys.length,(ltOf sX) i k=decide (cf ys[i.val] ys[k.val]<0):=λi k=>by unfold ltOf;rw[Oj]
  have anti:∀x y:β,cf x y<0↔0<cf y x:=λx y=>ur.anti x y trivial trivial;have W4:∀x:β,cf x x=0:=λx=>by have:=anti x x;omega
  have hO:SWO (ltOf sX):=⟨λx=>by rw[hlt,W4];rfl,λx y z h h'=>by
    rw[hlt] at*;simp only[decide_eq_true_eq] at*;exact ur.Lg trivial trivial trivial h (by omega),λx y z h h'=>by
    rw[hlt] at*;simp only[decide_eq_false_iff_not] at*;have a:=anti ys[x.val] ys[y.val];have a2:=anti ys[y.val] ys[x.val];have b:=anti ys[y.val] ys[z.val];have b2:=anti ys[z.val] ys[y.val];have c:=ur.trans ys[z.val] ys[y.val] ys[x.val] trivial trivial trivial (by omega) (by omega);have d:=anti ys[x.val] ys[z.val];omega⟩
  have hT:∀x y,(ltOf sX) x y=false->(ltOf sX) y x=false->x=y:=λx y h h'=>by
   rw[hlt] at h h';simp only[decide_eq_false_iff_not] at h h';apply Classical.byContradiction;intro hxy;have h2:=hd x.val y.val x.isLt y.isLt (λe=>hxy (Fin.ext e));have:=anti ys[y.val] ys[x.val];omega
  obtain⟨d,HV⟩:∃d:Array (Fin ys.length),d=(List.finRange ys.length).toArray:=⟨_,rfl⟩
  have hds:d.size=ys.length:=by rw[HV];simp
  have W5:∀(i:Nat) (hi:i<d.size),(d[i]'hi).val=i:=λi hi=>by subst HV;simp
  have Ol:∀(m:Nat) (dk:Array (Fin ys.length)) (os:Array Obj),ay [j] w C (sortWorld enc w g 0 m dk os) C:=λm dk os=>by
   show ay [j] w C (grow (putRow enc (Sort.ahead w m) g 0 dk) os) C;refine⟨⟨rfl,rfl,rfl,by simp[grow,putRow,mapBlock,Sort.ahead],λb hb hnb=>?_,Nat.le_add_right _ _⟩,λ_ _=>rfl⟩;have Fq:g≠b:=λe=>hnb (by rw[<-e,nD];simp);simp only[grow,putRow,mapBlock,Sort.ahead];rw[Array.getElem?_append_left (by simpa using hb),Array.getElem?_modify,if_neg Fq]
  have Fp:CmpLays1 P g0 #[] enc sX g 0 d.size w:=λm os dk _ x y=>by
   have hst:=Ol m dk os;have hx:aG w (aB C) ys[x.val] (enc x):=zY (q7 x) HU;have hy:aG w (aB C) ys[y.val] (enc y):=zY (q7 y) HU;have h:=hcmp _ hst (hF.st hst) _ (List.getElem_mem _) _ (List.getElem_mem _) _ _ (hx.st hst (by simp;omega)) (hy.st hst (by simp;omega));rw[Array.append_empty];refine h.mono ?_;rintro e' w' ⟨u,rfl,rfl,hx⟩;exact⟨by rw[Oj],KN (hx.ext.mono (λb _ hb=>by simp at hb))⟩
  have hH:Holds enc w g 0 d:=λt ht=>by
   have ht2:t<cs.size:=by omega
   refine⟨?_,by simp[World.frozen?,hc]⟩;rw[cell_of_row w g (0+t) cs e (0,0) hc,Nat.zero_add,Array.getElem?_eq_getElem ht2,getElem!_pos d t ht,Aq];simp only[W5 t ht]
  have hsort:=Any.slices_SortFunc_total L enc h1 sX hO g0 #[] g 0 cap d w eg Fp hH (pO hc) (by rw[hds];omega) hT;rw[hds] at hsort;refine hsort.mono ?_;rintro e' w' ⟨rfl,m,os,hw⟩;obtain⟨S,hS⟩:∃S,S=d.toList.mergeSort λx y=>!(ltOf sX) y x:=⟨_,rfl⟩
  rw[<-hS] at hw;have rz:S.Perm (List.finRange ys.length):=by
   rw[hS,HV];exact List.mergeSort_perm _ _
  have Om:S.length=ys.length:=by rw[rz.length_eq,List.length_finRange]
  have hst:ay [j] w C w' C:=by rw[hw];exact Ol m _ os
  have jw:w'.heap[g]?=some (.cells (putCells enc 0 S.toArray cs) e (0,0)):=by
   rw[hw];show(grow (putRow enc (Sort.ahead w m) g 0 S.toArray) os).heap[g]?=_;simp only[grow,putRow,mapBlock,Sort.ahead];rw[Array.getElem?_append_left (by simpa using pO hc),Array.getElem?_modify,if_pos rfl,hc];rfl
  have oB:S.Pairwise λa b=>(!(ltOf sX) b a)=true:=by
   rw[hS];refine List.pairwise_mergeSort (λi k l h h'=>?_) (λi k=>?_) _
   ·rw[hlt] at*;simp only[Bool.not_eq_true',decide_eq_false_iff_not] at*;have a:=anti ys[k.val] ys[i.val];have a2:=anti ys[i.val] ys[k.val];have b:=anti ys[l.val] ys[k.val];have b2:=anti ys[k.val] ys[l.val];have c:=ur.trans ys[i.val] ys[k.val] ys[l.val] trivial trivial trivial (by omega) (by omega);have d:=anti ys[l.val] ys[i.val];omega
   ·rw[hlt,hlt];simp only[Bool.or_eq_true,Bool.not_eq_true',decide_eq_false_iff_not];have a:=anti ys[k.val] ys[i.val];have a2:=anti ys[i.val] ys[k.val];omega
  have hblk:∀b,b<w.heap.size->¬aB C b->w'.heap[b]?=w.heap[b]?:=λb hb hnb=>hst.ext.block b hb (λuK=>hnb (by
   simp only[List.mem_singleton] at uK;unfold aB;rw[uK];exact hj))
  have hkeep:∀i:Fin ys.length,rep w'.heap (aB C) ys[i.val] [enc i]:=λi=>bg.keep (q7 i) hblk;have iB:S.Nodup:=rz.nodup_iff.2 (List.nodup_finRange _);refine⟨_,rfl,rfl,S.map (λi=>ys[i.val]),fk.F6 rz ?_,hst,⟨.inr ⟨g,cap,_,by rw[List.length_map,Om],hg,jw,by rw[List.length_map,Om];exact hcap,?_,λi hi=>?_⟩,kr⟩,hF.st hst⟩
  ·refine(oB.and (List.nodup_iff_pairwise_ne.1 iB)).imp λ{i k} ⟨h,hne⟩=>⟨i.isLt,k.isLt,.inl ?_⟩
   rw[hlt] at h;simp only[Bool.not_eq_true',decide_eq_false_iff_not] at h;have h2:=hd i.val k.val i.isLt k.isLt (λe=>hne (Fin.ext e));have a:=anti ys[k.val] ys[i.val];have a2:=anti ys[i.val] ys[k.val];omega
  ·simp only[putCells,Array.size_mapIdx];rw[s1];exact h2
  ·have hi2:i<S.length:=by rwa [List.length_map] at hi
   rw[s1,List.getElem_map];have e1:cH (putCells enc 0 S.toArray cs) (i*1) 1=[enc S[i]]:=by
    have hg1:=W0 (enc:=enc) (d:=S.toArray) (cs:=cs) (t:=i) (by simpa using hi2) (by omega);have On:i<(putCells enc 0 S.toArray cs).size:=by simp only[putCells,Array.size_mapIdx];omega
    rw[Array.getElem?_eq_getElem On,Option.some.injEq] at hg1;simp only[cH,Nat.mul_one];rw[List.drop_eq_getElem_cons (by simpa using On)];simp only[List.take_succ_cons,List.take_zero,Array.getElem_toList,hg1];rw[getElem!_pos _ i (by simpa using hi2)];simp
   rw[e1];exact hkeep S[i]
end
end Go.K
namespace Go.K
open bg
section
variable {P:Program} {N:Nat} {env:Env} {w:World} {x:Operand} {t u:TypeId}
end
section
variable {n m k:Nat} {wt:Nat->Nat->Int} {U V:Nat->Int} {st:Nat->Int} {us:List Bool}
end
theorem oc {P:Program} {f:FuncId} {N:Nat} {k:List Item} {env:Env} {w:World} {R:Value->World->Prop} {c:Code} {fn:Func} {t u r:Nat} {v x y:Value} (hc:c=.ret) (hf:P.funcs[f]?=some fn) (hres:fn.results=#[.tmp t,.tmp u,.tmp r]) (hv:look env t=some v) (hx:look env u=some x) (hy:look env r=some y)
  (hR:R (.tuple #[v,x,y]) w):Run P f N (.code c::k) env w R:=λa ha=>by
 subst hc;refine xQ hf ha.defers ?_ hR;have h1:=ha.slot t v hv;have h2:=ha.slot u x hx;have h3:=ha.slot r y hy;simp only[results,hres];simp[h1,h2,h3,Sem.run,pure,Array.getD_eq_getD_getElem?]
section
variable {P:Program} {t ti:TypeId}
end
section
variable {n m:Int} {l:List Edge}
end
end Go.K
set_option maxRecDepth 100000
namespace Go.K
open bg
def iW:List aO:=[⟨⟨0,1⟩,⟨1,5⟩,10⟩,⟨⟨0,1⟩,⟨1,6⟩,12⟩,⟨⟨1,5⟩,⟨2,7⟩,9⟩,⟨⟨1,6⟩,⟨2,7⟩,3⟩]
def sY:List aO:=[⟨⟨0,1⟩,⟨1,6⟩,12⟩,⟨⟨0,1⟩,⟨1,5⟩,10⟩,⟨⟨1,5⟩,⟨2,7⟩,9⟩,⟨⟨1,6⟩,⟨2,7⟩,3⟩]
def mD:List (List av):=[[⟨0,1⟩,⟨1,6⟩],[⟨1,5⟩,⟨2,7⟩]]
def Oo:List av:=[⟨0,1⟩,⟨1,5⟩,⟨1,6⟩,⟨2,7⟩]
theorem Oq {s:List av} (h: (s.Pairwise λa b=>jJ a b<0)):s.Pairwise dV:=h.imp λh=>sq.1 h
theorem W6 {l:List aO} {s:List av} (h1:s.Pairwise λa b=>jJ a b<0) (h2:∀x∈l,x.A∈s/\x.B∈s) (h3:∀r∈s,∃x∈l,r=x.A\/r=x.B):aW l=s:=
 An (tB l) (Oq h1) λr=>by
  rw[jM];exact⟨λ⟨x,hx,e⟩=>e.elim (λe=>e▸(h2 x hx).1) (λe=>e▸(h2 x hx).2),h3 r⟩
theorem Ot {s t:List av} (h1:t.Pairwise λa b=>jJ a b<0) (h2:s.Nodup) (h3:∀r,r∈s↔r∈t):iq s=t:=
 An (AL s h2) (Oq h1) λr=>by rw[j9];exact h3 r
theorem zo:aW iW=Oo:=W6 (by decide+kernel) (by decide+kernel) (by decide+kernel)
theorem Eg:a_ iW=[iW]:=by unfold a_;rw[zo];decide+kernel
theorem Ou:nU iW []=mD:=by unfold nU;rw[zo];decide+kernel
theorem Ov:eN iW mD=21:=by decide+kernel
def zq (i:Nat):Nat:=if i=0 then 1 else if i=1 then 0 else i
theorem W7:fk gF iW sY:=by
 refine⟨zq,⟨rfl,λi hi=>?_⟩,⟨λi hi=>?_,λi h1 h2=>?_,λi j e=>?_⟩,λi j h1 h2 h3=>?_⟩
 ·have hi:i<4:=hi
  match i,hi with
  |0,_=>exact⟨by decide,rfl⟩
  |1,_=>exact⟨by decide,rfl⟩
  |2,_=>exact⟨by decide,rfl⟩
  |3,_=>exact⟨by decide,rfl⟩
 ·have hi:¬(0<=i/\i<4):=hi;unfold zq;split<;>(try split)<;>omega
 ·have h2:i<4:=h2;show 0<=zq i/\zq i<4;unfold zq;split<;>(try split)<;>omega
 ·unfold zq at e;split at e<;>split at e<;>(try split at e)<;>(try split at e)<;>omega
 ·have h3:j<4:=h3;have hc: (i=0/\j=1)\/(i=0/\j=2)\/(i=0/\j=3)\/(i=1/\j=2)\/(i=1/\j=3)\/(i=2/\j=3):=by omega
  rcases hc with⟨rfl,rfl⟩|⟨rfl,rfl⟩|⟨rfl,rfl⟩|⟨rfl,rfl⟩|⟨rfl,rfl⟩|⟨rfl,rfl⟩<;>exact⟨by decide,by decide,.inl (by decide+kernel)⟩
theorem W8:p6 gF iW=sY:=(W7.eq p_ (λ_ _=>trivial)).symm
def Eh:List av:=[⟨0,1⟩,⟨1,6⟩]
def xA:List av:=[⟨1,5⟩,⟨2,7⟩]
theorem W9:dh [] sY ⟨0,1⟩=Eh/\dh [] sY ⟨1,5⟩=xA/\dh [] sY ⟨1,6⟩=Eh/\dh [] sY ⟨2,7⟩=xA:=by decide+kernel
theorem HW:iq Eh=Eh:=Ot (by decide+kernel) (by decide+kernel) (λ_=>Iff.rfl)
theorem HX:iq xA=xA:=Ot (by decide+kernel) (by decide+kernel) (λ_=>Iff.rfl)
theorem W_:lE iW []=mD:=by
 unfold lE;rw[W8,zo];obtain⟨h1,h2,h3,h4⟩:=W9;unfold k5 Oo;have k1:mR (dh [] sY) ⟨0,1⟩=true:=by unfold mR;rw[h1,HW];decide
 have k2:mR (dh [] sY) ⟨1,5⟩=true:=by unfold mR;rw[h2,HX];decide
 have tu:mR (dh [] sY) ⟨1,6⟩=false:=by unfold mR;rw[h3,HW];decide
 have Xa:mR (dh [] sY) ⟨2,7⟩=false:=by unfold mR;rw[h4,HX];decide
 simp only[List.filter_cons,k1,k2,tu,Xa,if_true,if_false,List.filter_nil,List.map_cons,List.map_nil,Bool.false_eq_true,h1,h2,HW,HX];rfl
theorem Xb:fk fJ mD mD:=fk.self λi j hij hj=>by
 have hj:j<2:=hj;obtain⟨rfl,rfl⟩:i=0/\j=1:=by omega
 exact(show fJ [⟨0,1⟩,⟨1,6⟩] [⟨1,5⟩,⟨2,7⟩]<0 by decide+kernel)
theorem Xc:oT iW:=by
 refine⟨by decide,λx hx=>?_,?_⟩
 ·simp only[iW,List.mem_cons,List.not_mem_nil,or_false] at hx;rcases hx with rfl|rfl|rfl|rfl<;>exact⟨by decide,by decide,by decide⟩
 ·unfold iW jL dV;decide
theorem Ow:dQ (eW []) (a_ iW)=mD:=by
 rw[Eg];unfold dQ eW;simp only[List.flatMap_cons,List.flatMap_nil,List.append_nil,zo];rw[if_pos (by decide),Ou]
theorem Xd:dQ (fE []) (a_ iW)=mD:=by
 rw[Eg];unfold dQ fE;simp only[List.flatMap_cons,List.flatMap_nil,List.append_nil,zo];rw[if_pos (by decide),Ou]
theorem Xe:dQ (iH []) (a_ iW)=mD:=by
 rw[Eg];unfold dQ iH;simp only[List.flatMap_cons,List.flatMap_nil,List.append_nil,W_]
theorem Ox:e8 iW [] mD:=(MK (wf:=eW []) (λi hi=>u_ [] _) (by rw[Ow];exact Xb)).1
end Go.K
namespace Go.K
open bg
theorem Xf:lD []=0:=by unfold lD;rw[if_neg (by simp),yJ (λk hk=>absurd hk (by simp))]
theorem Oy:fM iW []=0:=by unfold fM;rw[Xc.check];exact Xf
theorem HY {wf:List aO->List (List av)×Int} (h1:dQ wf (a_ iW)=mD) (h2: (wf iW).2=0):h_ wf iW []=(mD,21,0):=by
 rw[tP Oy (λk hk=>by
  have e: (a_ iW)[k]∈a_ iW:=List.getElem_mem hk;have e2:∀x∈a_ iW,x=iW:=by rw[Eg];simp
  rw[e2 _ e];exact h2),h1,Ud Ox,Ov]
theorem Xg:h_ (eW []) iW []=(mD,21,0):=HY Ow (by unfold eW;split<;>rfl)
theorem Xh:h_ (fE []) iW []=(mD,21,0):=HY Xd (by unfold fE;rw[zo,if_pos (by decide)])
theorem Xi:h_ (iH []) iW []=(mD,21,0):=HY Xe rfl
theorem Xj:sK iW [] mD=0:=Gj Oy Ox
end Go.K
namespace Go.K
theorem Oz {x y:av}:mT x y=decide (dV x y):=by rw[Bool.eq_iff_iff,decide_eq_true_iff,AQ];rfl
theorem Xk {l:List aO} {r:av}:r∈lp l↔r∈aW l:=by
 rw[jM];unfold lp;simp only[List.mem_flatMap,List.mem_cons,List.not_mem_nil,or_false]
theorem Xl (l:List aO):rI (lp l)=aW l:=by
 obtain⟨h1,h2⟩:=F7 (lp l) [] List.Pairwise.nil;refine An (h1.imp λ{x y} h=>by rw[Oz] at h;exact of_decide_eq_true h) (tB l) λr=>?_;have:=h2 r;unfold rI;rw[this];simp[Xk]
theorem Xm {l:List aO} {i:Nat} (h:i<l.length):rI (lp (l.take (i+1)))=eZ (eZ (rI (lp (l.take i))) l[i].A) l[i].B:=by
 rw[KC h,show[l[i].A,l[i].B]=[l[i].A]++[l[i].B] from rfl,<-List.append_assoc,Mm,Mm]
structure r6 (l:List aO) (low:List Nat):Prop where
 len:low.length=(aW l).length
 le:∀i (h:i<low.length),low[i]<=i
 same:∀i (h:i<low.length) (h1:i<(aW l).length) (h2:low[i]<(aW l).length),b_ l (aW l)[low[i]]=b_ l (aW l)[i]
theorem r6.start (l:List aO):r6 l (List.range (aW l).length):=⟨List.length_range,λi h=>by simp,λi h h1 h2=>by simp⟩
theorem r6.put {l:List aO} {low:List Nat} (h:r6 l low) {a b:Nat} {y:aO} (hy:y∈l) (ha:a<(aW l).length) (hb:b<(aW l).length) (ea: (aW l)[a]=y.A) (eb: (aW l)[b]=y.B) (jv:a<low.length) (hb':b<low.length) (hne:low[a]≠low[b]):
  r6 l ((low.set a (min low[a] low[b])).set b (min low[a] low[b]))/\((low.set a (min low[a] low[b])).set b (min low[a] low[b])).sum<low.sum:=by
 have hl:=h.len;have la:=h.le a jv;have lb:=h.le b hb';have hs:b_ l (aW l)[a]=b_ l (aW l)[b]:=by rw[ea,eb];exact wz hy
 have sa:=h.same a jv ha (by omega);have sb:=h.same b hb' hb (by omega);have hab:a≠b:=λe=>by subst e;exact hne rfl
 refine⟨⟨by simp only[List.length_set];exact hl,λi hi=>?_,λi hi h1 h2=>?_⟩,?_⟩
 ·simp only[List.length_set] at hi;simp only[List.getElem_set];split
  ·subst i;exact Nat.le_trans (Nat.min_le_right _ _) lb
  ·split
   ·subst i;exact Nat.le_trans (Nat.min_le_left _ _) la
   ·exact h.le i hi
 ·simp only[List.length_set] at hi;have hm:∀(h3:min low[a] low[b]<(aW l).length),b_ l (aW l)[min low[a] low[b]]=b_ l (aW l)[a]:=λh3=>by
   rcases Nat.le_total low[a] low[b] with e|e
   ·simp only[Nat.min_eq_left e];exact sa
   ·simp only[Nat.min_eq_right e];rw[sb,hs]
  have key:∀(n:Nat) (h3:n<(aW l).length),n=(if b=i then min low[a] low[b] else if a=i then min low[a] low[b] else low[i])->b_ l (aW l)[n]=b_ l (aW l)[i]:=λn h3 e=>by
   split at e
   ·rename_i e2;subst e2;subst e;rw[hm h3,hs]
   ·split at e
    ·rename_i e2;subst e2;subst e;exact hm h3
    ·subst e;exact h.same i hi h1 h3
  exact key _ h2 (by simp only[List.getElem_set])
 ·have OA:∀(l:List Nat) (i v:Nat) (hi:i<l.length),(l.set i v).sum+l[i]=l.sum+v:=by
   intro l
   induction l with
   |nil=>intro i v hi;simp at hi
   |cons x l ih=>
    intro i v hi;cases i with
    |zero=>simp;omega
    |succ i=>simp only[List.set_cons_succ,List.sum_cons,List.getElem_cons_succ];have:=ih i v (by simpa using hi);omega
  have e1:=OA low a (min low[a] low[b]) jv;have e2:=OA (low.set a (min low[a] low[b])) b (min low[a] low[b]) (by simpa using hb');rw[List.getElem_set,if_neg hab] at e2;have:=Nat.min_le_left low[a] low[b];have:=Nat.min_le_right low[a] low[b];rcases Nat.lt_or_gt_of_ne hne with e|e
  ·rw[Nat.min_eq_left (Nat.le_of_lt e)] at*;omega
  ·rw[Nat.min_eq_right (Nat.le_of_lt e)] at*;omega
def Fix (l ys:List aO) (low:List Nat):Prop:=∀y∈ys,∀a b (ha:a<(aW l).length) (hb:b<(aW l).length),(aW l)[a]=y.A->(aW l)[b]=y.B->low.getD a 0=low.getD b 0
theorem OB {l:List aO} {r:av} (h:r∈aW l):∃a,∃ha:a<(aW l).length,(aW l)[a]=r:=by
 obtain⟨a,ha,e⟩:=List.mem_iff_getElem.1 h;exact⟨a,ha,e⟩
theorem HZ {α:Type} {l:List α} (h:l.Nodup) {i j:Nat} (hi:i<l.length) (hj:j<l.length) (e:l[i]=l[j]):i=j:=by
 rcases Nat.lt_trichotomy i j with h1|h1|h1
 ·exact absurd e (List.pairwise_iff_getElem.1 h i j hi hj h1)
 ·exact h1
 ·exact absurd e.symm (List.pairwise_iff_getElem.1 h j i hj hi h1)
open Classical in
theorem Fix.all {l:List aO} {low:List Nat} (h:Fix l l low) {i k:Nat} (hi:i<(aW l).length) (hk:k<(aW l).length) (e:b_ l (aW l)[i]=b_ l (aW l)[k]):low.getD i 0=low.getD k 0:=by
 let p:av->Nat:=λr=>if h:∃a,∃ha:a<(aW l).length,(aW l)[a]=r then low.getD (Classical.choose h) 0 else 0
 have hp:∀a (ha:a<(aW l).length),p (aW l)[a]=low.getD a 0:=λa ha=>by
  have hx:∃a',∃jv:a'<(aW l).length,(aW l)[a']=(aW l)[a]:=⟨a,ha,rfl⟩
  show(if h:_ then _ else 0)=_;rw[dif_pos hx];obtain⟨h1,h2⟩:=Classical.choose_spec hx;rw[HZ (tC l) h1 ha h2]
 have hb:∀x∈l,p x.A=p x.B:=λx hx=>by
  obtain⟨a,ha,ea⟩:=OB (l:=l) (r:=x.A) (jM.2 ⟨x,hx,.inl rfl⟩);obtain⟨b,hb,eb⟩:=OB (l:=l) (r:=x.B) (jM.2 ⟨x,hx,.inr rfl⟩);rw[<-ea,<-eb,hp a ha,hp b hb];exact h x hx a b ha hb ea eb
 rw[<-hp i hi,<-hp k hk,<-uO hb (aW l)[i],e,uO hb]
theorem OC {l:List aO} {low:List Nat} (hw:r6 l low) (hx:Fix l l low) {i:Nat} (hi:i<(aW l).length) (hil:i<low.length):low[i]=i↔∀q∈(aW l).take i,b_ l q≠b_ l (aW l)[i]:=by
 have gV:∀k (hk:k<low.length),low.getD k 0=low[k]:=λk hk=>by rw[List.getD_eq_getElem?_getD,List.getElem?_eq_getElem hk];rfl
 have hl:=hw.len;constructor
 ·intro e q hq hr;obtain⟨k,hk,rfl⟩:=List.mem_iff_getElem.1 hq;rw[List.length_take] at hk;rw[List.getElem_take] at hr;have h1:=hx.all (by omega) hi hr;rw[gV k (by omega),gV i hil,e] at h1;have:=hw.le k (by omega);omega
 ·intro h;have h1:=hw.le i hil;have h2:=hw.same i hil hi (by omega);rcases Nat.lt_or_eq_of_le h1 with h3|h3
  ·exact absurd h2 (h _ (by rw[List.mem_iff_getElem];exact⟨low[i],by rw[List.length_take];omega,by rw[List.getElem_take]⟩))
  ·exact h3
theorem OD {l:List aO} {low:List Nat} (hw:r6 l low) (hx:Fix l l low) {i k:Nat} (hi:i<(aW l).length) (hk:k<(aW l).length) (hil:i<low.length) (aK:k<low.length) (e:low[i]=i):low[k]=i↔b_ l (aW l)[k]=b_ l (aW l)[i]:=by
 have gV:∀k (hk:k<low.length),low.getD k 0=low[k]:=λk hk=>by rw[List.getD_eq_getElem?_getD,List.getElem?_eq_getElem hk];rfl
 constructor
 ·intro h;have:=hw.same k aK hk (by omega);simp only[h] at this;exact this.symm
 ·intro h;have:=hx.all hk hi h;rw[gV k aK,gV i hil,e] at this;exact this
def qS (l:List aO) (i:Nat):List (List av):=(dP (b_ l) ((aW l).take i)).map λq=>(aW l).filter λr=>decide (b_ l r=b_ l q)
theorem Xn (l:List aO):qS l (aW l).length=dO l:=by unfold qS;rw[List.take_length];rfl
theorem Xo (l:List aO):qS l 0=[]:=by unfold qS;simp[dP]
theorem Xp (l:List aO) (i:Nat): (qS l i).length<=(aW l).length:=by
 unfold qS;rw[List.length_map];exact Nat.le_trans (Ao _ _).length_le (by rw[List.length_take];omega)
theorem Xq {l:List aO} {low:List Nat} (hw:r6 l low) (hx:Fix l l low) {i:Nat} (hi:i<(aW l).length) (hil:i<low.length):
  qS l (i+1)=if low[i]=i then qS l i++[(aW l).filter λr=>decide (b_ l r=b_ l (aW l)[i])] else qS l i:=by
 unfold qS;rw[List.take_succ_eq_append_getElem hi,x9];by_cases h:low[i]=i
 ·rw[if_pos h,if_neg]
  ·simp
  ·intro ha;obtain⟨q,hq,e⟩:=CS.1 ha;exact(OC hw hx hi hil).1 h q hq e
 ·rw[if_neg h,if_pos];apply Classical.byContradiction;intro hn;exact h ((OC hw hx hi hil).2 λq hq e=>hn (CS.2 ⟨q,hq,e⟩))
theorem Xr {α:Type} (p:α->Bool) {l:List α} {k:Nat} (h:k<l.length): (l.take (k+1)).filter p=if p l[k]=true then(l.take k).filter p++[l[k]] else(l.take k).filter p:=by
 rw[List.take_succ_eq_append_getElem h,List.filter_append];by_cases e:p l[k]=true<;>simp[e]
end Go.K
namespace Go.K
open bg
def k7:Nat->Nat:=λ_=>0
theorem Xs (w:World):aM w k7:=λb h=>absurd rfl h
theorem ay.below {w w':World} (h:ay [] w k7 w' k7):Go.RowKit.Below w.heap.size w w':=h.ext.below (Nat.le_refl _) (λb hb=>by simp at hb)
def mE {H:Type} (enc:TypeId×Value->H) (P:Program) (w:World) (base:Nat) (spare:Nat->Bool) (held:Bool) (α:Type) [bg α] (t:TypeId):Prop:=
 P.cellsOf t=sz α/\∀(fuel:Nat) (cs:List Value) (x:DataW H×List MemPlace),DataW.trod enc P w base spare held fuel t cs=some x->∃a:α,rep w.heap (aB k7) a cs
section
variable {H:Type} {enc:TypeId×Value->H} {P:Program} {w:World} {base:Nat} {spare:Nat->Bool} {held:Bool} {α β γ:Type} [bg α] [bg β] [bg γ] {t e:TypeId}
theorem Xt (ht:P.underlying t=some (.int .i64)) (hc:P.cellsOf t=1):mE enc P w base spare held Int t:=⟨hc,λfuel cs x h=>by
 obtain⟨n,rfl,_⟩:=DataW.trod_int ht h;exact⟨n,rfl⟩⟩
theorem Xu (ht:P.underlying t=some .bool) (hc:P.cellsOf t=1):mE enc P w base spare held Bool t:=⟨hc,λfuel cs x h=>by
 obtain⟨b,rfl,_⟩:=DataW.trod_bool ht h;exact⟨b,rfl⟩⟩
theorem OE (ht:P.underlying t=some (.slice e)) (hc:P.cellsOf t=1) (hsz:0<sz α) (he:mE enc P w base spare held α e):mE enc P w base spare held (List α) t:=⟨hc,λfuel cs x h=>by
 rcases Go.Deep.open_slice ht h with⟨rfl,_⟩|⟨a,len,cap,m,n,D,Pl,rfl,hb,hl,hm,H6,hx,hcell⟩
 ·exact⟨[],none,0,rfl,Nat.le_refl _,by simp,.inl rfl⟩
 ·have wK:len<=m:=by rw[H6];split<;>omega
  have key:∀k,k<=len->∃xs:List α,xs.length=k/\∀i (hi:i<xs.length),∃cs',w.cells? base (a.add (i*sz α)) (sz α)=some cs'/\rep w.heap (aB k7) xs[i] cs':=by
   intro k
   induction k with
   |zero=>exact λ_=>⟨[],rfl,λi hi=>by simp at hi⟩
   |succ k ih=>
    intro hk;obtain⟨xs,mF,hxs⟩:=ih (by omega);obtain⟨cs',h1,h2⟩:=hcell k (by omega);obtain⟨y,hy⟩:=he.2 _ _ _ h2;rw[he.1] at h1;refine⟨xs++[y],by simp[mF],λi hi=>?_⟩;by_cases hik:i<xs.length
    ·rw[List.getElem_append_left hik];exact hxs i hik
    ·have Af:i=k:=by simp at hi;omega
     subst Af;rw[List.getElem_append_right (by omega)];exact⟨cs',h1,by simpa[mF] using hy⟩
  obtain⟨xs,mF,hxs⟩:=key len (Nat.le_refl _);refine⟨xs,some a,cap,by rw[mF],by omega,by unfold maxLen at hm;omega,?_⟩;by_cases h0:len=0
  ·left;exact List.length_eq_zero_iff.1 (by omega)
  ·right;have hall:∀i (hi:i<xs.length),∃cs',cs'.length=sz α/\(∀j (hj:j<cs'.length),w.cell? (a.add (i*sz α+j))=some cs'[j])/\rep w.heap (aB k7) xs[i] cs':=λi hi=>by
    obtain⟨cs',h1,h2⟩:=hxs i hi;obtain⟨_,h3,h4⟩:=World.cells?_some h1;refine⟨cs',h3,λj hj=>?_,h2⟩;have h5:=h4 j (by omega);rw[Addr.add_add] at h5;rw[h5];exact List.getElem?_eq_getElem hj
   obtain⟨c0,Xv,hc0,_⟩:=hall 0 (by omega);have nG:=hc0 0 (by omega);obtain⟨b,off,spot⟩:=a;have H7:spot=none:=by simpa[Addr.add] using World.cell?_spot nG
   subst H7;refine⟨b,off,rfl,?_⟩;simp only[oO] at hall nG;unfold World.cell? at nG;simp only at nG;cases hbk:w.heap[b]? with
   |none=>rw[hbk] at nG;cases nG
   |some fA=>
    cases fA with
    |cells c ty eP=>
     have k8:∀i (hi:i<xs.length),∃cs',cs'.length=sz α/\(∀j (hj:j<cs'.length),c[off+(i*sz α+j)]?=some cs'[j])/\rep w.heap (aB k7) xs[i] cs':=λi hi=>by
      obtain⟨cs',h1,h2,h3⟩:=hall i hi;refine⟨cs',h1,λj hj=>?_,h3⟩;have h4:=h2 j hj;unfold World.cell? at h4;simp only[hbk] at h4;simpa using h4
     refine⟨λh=>h rfl,c,ty,eP,hbk,?_,λi hi=>?_⟩
     ·obtain⟨cs',h1,h2,_⟩:=k8 (len-1) (by omega);have h3:=(Array.getElem?_eq_some_iff.1 (h2 (sz α-1) (by omega))).1;have h4:len*sz α=(len-1)*sz α+sz α:=by
       have:len=(len-1)+1:=by omega
       rw[this,Nat.succ_mul];simp
      rw[mF,h4];omega
     ·obtain⟨cs',h1,h2,h3⟩:=k8 i hi;have:cH c (off+i*sz α) (sz α)=cs':=by
       apply List.ext_getElem?;intro r;simp only[cH,List.getElem?_take,List.getElem?_drop,Array.getElem?_toList];by_cases hr:r<sz α
       ·rw[if_pos hr,List.getElem?_eq_getElem (by omega),Nat.add_assoc];exact h2 r (by omega)
       ·rw[if_neg hr,List.getElem?_eq_none (by omega)]
      rw[this];exact h3
    |_=>rw[hbk] at nG;cases nG⟩
theorem Xw {f0 f1:Field} (ht:P.underlying t=some (.struct #[f0,f1])) (hc:P.cellsOf t=sz α+sz β) (o0:f0.offset=0) (o1:f1.offset=sz α)
  (h0:mE enc P w base spare held α f0.type) (h1:mE enc P w base spare held β f1.type)
  (fuel:Nat) (cs:List Value) (x:DataW H×List MemPlace) (h:DataW.trod enc P w base spare held fuel t cs=some x):∃a:α×β,rep w.heap (aB k7) a cs:=by
 obtain⟨xs,n,_,_,hl,mF,hf⟩:=DataW.trod_struct ht h;have hx2:xs.length=2:=mF;have e0:=hf 0 f0 rfl;have e1:=hf 1 f1 rfl;rw[o0,h0.1,List.drop_zero,List.getElem?_eq_getElem (by omega)] at e0;rw[o1,h1.1,List.take_of_length_le (by rw[List.length_drop];omega),List.getElem?_eq_getElem (by omega)] at e1;obtain⟨a,ha⟩:=h0.2 _ _ _ e0;obtain⟨b,hb⟩:=h1.2 _ _ _ e1;exact⟨(a,b),_,_,(List.take_append_drop (sz α) cs).symm,ha,hb⟩
theorem Xx {f0 f1 f2:Field} (ht:P.underlying t=some (.struct #[f0,f1,f2])) (hc:P.cellsOf t=sz α+(sz β+sz γ)) (o0:f0.offset=0) (o1:f1.offset=sz α) (o2:f2.offset=sz α+sz β)
  (h0:mE enc P w base spare held α f0.type) (h1:mE enc P w base spare held β f1.type) (h2:mE enc P w base spare held γ f2.type)
  (fuel:Nat) (cs:List Value) (x:DataW H×List MemPlace) (h:DataW.trod enc P w base spare held fuel t cs=some x):∃a:α×β×γ,rep w.heap (aB k7) a cs:=by
 obtain⟨xs,n,_,_,hl,mF,hf⟩:=DataW.trod_struct ht h;have OG:xs.length=3:=mF;have e0:=hf 0 f0 rfl;have e1:=hf 1 f1 rfl;have e2:=hf 2 f2 rfl;rw[o0,h0.1,List.drop_zero,List.getElem?_eq_getElem (by omega)] at e0;rw[o1,h1.1,List.getElem?_eq_getElem (by omega)] at e1;rw[o2,h2.1,List.take_of_length_le (by rw[List.length_drop];omega),List.getElem?_eq_getElem (by omega)] at e2;obtain⟨a,ha⟩:=h0.2 _ _ _ e0;obtain⟨b,hb⟩:=h1.2 _ _ _ e1;obtain⟨c,uK⟩:=h2.2 _ _ _ e2;refine⟨(a,b,c),_,_,(List.take_append_drop (sz α) cs).symm,ha,(cs.drop (sz α)).take (sz β),(cs.drop (sz α)).drop (sz β),(List.take_append_drop (sz β) _).symm,hb,?_⟩;rw[List.drop_drop];exact uK
theorem mE.rv (h:mE enc P w base spare held α t) (hx:bg.agg α=false) {fuel:Nat} {v:Value} {x:DataW H×List MemPlace} (ht:DataW.trod enc P w base spare held fuel t [v]=some x):∃a:α,aG w (aB k7) a v:=by
 obtain⟨a,ha⟩:=h.2 _ _ _ ht;exact⟨a,zY ha hx⟩
end
def nH {H:Type} (enc:TypeId×Value->H) (P:Program) (w:World) (base:Nat) (spare:Nat->Bool) (held:Bool) (α:Type) [bg α] (t:TypeId) (Q:α->Prop):Prop:=
 P.cellsOf t=sz α/\∀(fuel:Nat) (cs:List Value) (x:DataW H×List MemPlace),DataW.trod enc P w base spare held fuel t cs=some x->(∀n∈x.1.weights P t,n<=reachBytes)->∃a:α,rep w.heap (aB k7) a cs/\Q a
theorem OH {H:Type} {P:Program} {e:TypeId} {d:DataW H} {n:Nat}:∀{l:List (DataW H)},d∈l->n∈d.weights P e->n∈DataW.weightsAll P e l
 |[],h,_=>by cases h
 |a::l,h,hn=>by
  simp only[DataW.weightsAll,List.mem_append];rcases List.mem_cons.1 h with rfl|h
  ·exact .inl hn
  ·exact .inr (OH h hn)
section
variable {H:Type} {enc:TypeId×Value->H} {P:Program} {w:World} {base:Nat} {spare:Nat->Bool} {held:Bool} {α β γ:Type} [bg α] [bg β] [bg γ] {t e:TypeId}
theorem mE.q (h:mE enc P w base spare held α t):nH enc P w base spare held α t (λ_=>True):=⟨h.1,λfuel cs x hx _=>by
 obtain⟨a,ha⟩:=h.2 fuel cs x hx;exact⟨a,ha,trivial⟩⟩
theorem nH.mono {Q R:α->Prop} (h:nH enc P w base spare held α t Q) (Dq:∀a,Q a->R a):nH enc P w base spare held α t R:=⟨h.1,λfuel cs x hx hn=>by
 obtain⟨a,ha,hq⟩:=h.2 fuel cs x hx hn;exact⟨a,ha,Dq a hq⟩⟩
theorem H8 {Q:α->Prop} {nb:Nat} (ht:P.underlying t=some (.slice e)) (hc:P.cellsOf t=1) (hsz:0<sz α) (hnb:P.bytesOf e=nb) (he:nH enc P w base spare held α e Q):nH enc P w base spare held (List α) t (λl=>l.length*nb<=reachBytes/\∀y∈l,Q y):=⟨hc,λfuel cs x h hq=>by
 rcases Go.Deep.open_slice ht h with⟨rfl,rfl⟩|⟨a,len,cap,m,n,D,Pl,rfl,hb,hl,hm,H6,rfl,hcell⟩
 ·exact⟨[],⟨none,0,rfl,Nat.le_refl _,by simp,.inl rfl⟩,by simp,λy hy=>by cases hy⟩
 ·have wK:len<=m:=by rw[H6];split<;>omega
  have hw0: (len+(m-len))*nb<=reachBytes:=hq _ (by simp[DataW.weights,ht,hnb]);have hwi:∀i,i<len->∀n∈(D i).weights P e,n<=reachBytes:=λi hi n hn=>hq n (by
   simp only[DataW.weights,ht,List.mem_cons,List.mem_append];exact .inr (.inl (OH (List.mem_map.2 ⟨i,List.mem_range.2 hi,rfl⟩) hn)))
  have key:∀k,k<=len->∃xs:List α,xs.length=k/\(∀y∈xs,Q y)/\∀i (hi:i<xs.length),∃cs',w.cells? base (a.add (i*sz α)) (sz α)=some cs'/\rep w.heap (aB k7) xs[i] cs':=by
   intro k
   induction k with
   |zero=>exact λ_=>⟨[],rfl,λy hy=>(by cases hy),λi hi=>by simp at hi⟩
   |succ k ih=>
    intro hk;obtain⟨xs,mF,H9,hxs⟩:=ih (by omega);obtain⟨cs',h1,h2⟩:=hcell k (by omega);obtain⟨y,hy,Xy⟩:=he.2 _ _ _ h2 (hwi k (by omega));rw[he.1] at h1;refine⟨xs++[y],by simp[mF],λz hz=>(List.mem_append.1 hz).elim (H9 z) (λhz=>by rw[List.mem_singleton.1 hz];exact Xy),λi hi=>?_⟩;by_cases hik:i<xs.length
    ·rw[List.getElem_append_left hik];exact hxs i hik
    ·have Af:i=k:=by simp at hi;omega
     subst Af;rw[List.getElem_append_right (by omega)];exact⟨cs',h1,by simpa[mF] using hy⟩
  obtain⟨xs,mF,H9,hxs⟩:=key len (Nat.le_refl _);refine⟨xs,?_,by rw[mF];exact Nat.le_trans (Nat.mul_le_mul_right _ (by omega)) hw0,H9⟩;refine⟨some a,cap,by rw[mF],by omega,by unfold maxLen at hm;omega,?_⟩;by_cases h0:len=0
  ·left;exact List.length_eq_zero_iff.1 (by omega)
  ·right;have hall:∀i (hi:i<xs.length),∃cs',cs'.length=sz α/\(∀j (hj:j<cs'.length),w.cell? (a.add (i*sz α+j))=some cs'[j])/\rep w.heap (aB k7) xs[i] cs':=λi hi=>by
    obtain⟨cs',h1,h2⟩:=hxs i hi;obtain⟨_,h3,h4⟩:=World.cells?_some h1;refine⟨cs',h3,λj hj=>?_,h2⟩;have h5:=h4 j (by omega);rw[Addr.add_add] at h5;rw[h5];exact List.getElem?_eq_getElem hj
   obtain⟨c0,Xv,hc0,_⟩:=hall 0 (by omega);have nG:=hc0 0 (by omega);obtain⟨b,off,spot⟩:=a;have H7:spot=none:=by simpa[Addr.add] using World.cell?_spot nG
   subst H7;refine⟨b,off,rfl,?_⟩;simp only[oO] at hall nG;unfold World.cell? at nG;simp only at nG;cases hbk:w.heap[b]? with
   |none=>rw[hbk] at nG;cases nG
   |some fA=>
    cases fA with
    |cells c ty eP=>
     have k8:∀i (hi:i<xs.length),∃cs',cs'.length=sz α/\(∀j (hj:j<cs'.length),c[off+(i*sz α+j)]?=some cs'[j])/\rep w.heap (aB k7) xs[i] cs':=λi hi=>by
      obtain⟨cs',h1,h2,h3⟩:=hall i hi;refine⟨cs',h1,λj hj=>?_,h3⟩;have h4:=h2 j hj;unfold World.cell? at h4;simp only[hbk] at h4;simpa using h4
     refine⟨λh=>h rfl,c,ty,eP,hbk,?_,λi hi=>?_⟩
     ·obtain⟨cs',h1,h2,_⟩:=k8 (len-1) (by omega);have h3:=(Array.getElem?_eq_some_iff.1 (h2 (sz α-1) (by omega))).1;have h4:len*sz α=(len-1)*sz α+sz α:=by
       have:len=(len-1)+1:=by omega
       rw[this,Nat.succ_mul];simp
      rw[mF,h4];omega
     ·obtain⟨cs',h1,h2,h3⟩:=k8 i hi;have:cH c (off+i*sz α) (sz α)=cs':=by
       apply List.ext_getElem?;intro r;simp only[cH,List.getElem?_take,List.getElem?_drop,Array.getElem?_toList];by_cases hr:r<sz α
       ·rw[if_pos hr,List.getElem?_eq_getElem (by omega),Nat.add_assoc];exact h2 r (by omega)
       ·rw[if_neg hr,List.getElem?_eq_none (by omega)]
      rw[this];exact h3
    |_=>rw[hbk] at nG;cases nG⟩
theorem nH.rv {Q:α->Prop} (h:nH enc P w base spare held α t Q) (hx:bg.agg α=false) {fuel:Nat} {v:Value} {x:DataW H×List MemPlace} (ht:DataW.trod enc P w base spare held fuel t [v]=some x) (hn:∀n∈x.1.weights P t,n<=reachBytes):∃a:α,aG w (aB k7) a v/\Q a:=by
 obtain⟨a,ha,hq⟩:=h.2 _ _ _ ht hn;exact⟨a,zY ha hx,hq⟩
theorem OI {ts:List TypeId} {ds:List (DataW H)} (h: (DataW.weightsEach P ts ds).all (·<=reachBytes)=true) {j:Nat} {d:DataW H} (ht:ts[j]?=some t) (hd:ds[j]?=some d):∀n∈d.weights P t,n<=reachBytes:=λn hn=>by
 have:=List.all_eq_true.1 h _ (DataW.weights_mem_each ht hd n hn);simpa using this
end
section
variable {H:Type} {enc:TypeId×Value->H} {P:Program} {w:World} {base:Nat} {spare:Nat->Bool} {held:Bool} {α β γ δ ε:Type} [bg α] [bg β] [bg γ] [bg δ] [bg ε] {t e:TypeId}
theorem Xz {OJ:α->Prop} {Q1:β->Prop} {Q2:γ->Prop} {Q3:δ->Prop} {Q4:ε->Prop} {f0 f1 f2 f3 f4:Field} (ht:P.underlying t=some (.struct #[f0,f1,f2,f3,f4])) (hc:P.cellsOf t=sz α+(sz β+(sz γ+(sz δ+sz ε)))) (o0:f0.offset=0) (o1:f1.offset=sz α) (o2:f2.offset=sz α+sz β) (As:f3.offset=sz α+sz β+sz γ) (jR:f4.offset=sz α+sz β+sz γ+sz δ) (h0:nH enc P w base spare held α f0.type OJ) (h1:nH enc P w base spare held β f1.type Q1) (h2:nH enc P w base spare held γ f2.type Q2) (h3:nH enc P w base spare held δ f3.type Q3) (h4:nH enc P w base spare held ε f4.type Q4)
  (fuel:Nat) (cs:List Value) (x:DataW H×List MemPlace) (h:DataW.trod enc P w base spare held fuel t cs=some x) (hq:∀n∈x.1.weights P t,n<=reachBytes):∃a:α×β×γ×δ×ε,rep w.heap (aB k7) a cs/\OJ a.1/\Q1 a.2.1/\Q2 a.2.2.1/\Q3 a.2.2.2.1/\Q4 a.2.2.2.2:=by
 obtain⟨xs,n,_,rfl,hl,mF,hf⟩:=DataW.trod_struct ht h;have aS:xs.length=5:=mF;have hw:∀(j:Nat) (hj:j<xs.length) (t':TypeId),[f0.type,f1.type,f2.type,f3.type,f4.type][j]?=some t'->∀m∈(xs[j]).1.weights P t',m<=reachBytes:=λj hj t' ht' m hm=>hq m (by
  simp only[DataW.weights,ht];exact DataW.weights_mem_each (j:=j) ht' (by rw[List.getElem?_map,List.getElem?_eq_getElem hj];rfl) m hm)
 have e0:=hf 0 f0 rfl;have e1:=hf 1 f1 rfl;have e2:=hf 2 f2 rfl;have fV:=hf 3 f3 rfl;have nQ:=hf 4 f4 rfl;rw[o0,h0.1,List.drop_zero,List.getElem?_eq_getElem (by omega)] at e0;rw[o1,h1.1,List.getElem?_eq_getElem (by omega)] at e1;rw[o2,h2.1,List.getElem?_eq_getElem (by omega)] at e2;rw[As,h3.1,List.getElem?_eq_getElem (by omega)] at fV;rw[jR,h4.1,List.take_of_length_le (by rw[List.length_drop];omega),List.getElem?_eq_getElem (by omega)] at nQ;obtain⟨a0,Dt,q0⟩:=h0.2 _ _ _ e0 (hw 0 (by omega) _ rfl);obtain⟨a1,r1,q1⟩:=h1.2 _ _ _ e1 (hw 1 (by omega) _ rfl);obtain⟨a2,r2,q2⟩:=h2.2 _ _ _ e2 (hw 2 (by omega) _ rfl);obtain⟨a3,r3,tY⟩:=h3.2 _ _ _ fV (hw 3 (by omega) _ rfl);obtain⟨a4,XA,XB⟩:=h4.2 _ _ _ nQ (hw 4 (by omega) _ rfl);refine⟨(a0,a1,a2,a3,a4),⟨cs.take (sz α),cs.drop (sz α),(List.take_append_drop (sz α) _).symm,?_,(cs.drop (sz α)).take (sz β),(cs.drop (sz α)).drop (sz β),(List.take_append_drop (sz β) _).symm,?_,((cs.drop (sz α)).drop (sz β)).take (sz γ),((cs.drop (sz α)).drop (sz β)).drop (sz γ),(List.take_append_drop (sz γ) _).symm,?_,(((cs.drop (sz α)).drop (sz β)).drop (sz γ)).take (sz δ),(((cs.drop (sz α)).drop (sz β)).drop (sz γ)).drop (sz δ),(List.take_append_drop (sz δ) _).symm,?_,?_⟩,q0,q1,q2,tY,XB⟩
 ·exact Dt
 ·exact r1
 ·rw[List.drop_drop];exact r2
 ·rw[List.drop_drop,List.drop_drop];simpa only[Nat.add_assoc] using r3
 ·rw[List.drop_drop,List.drop_drop,List.drop_drop];simpa only[Nat.add_assoc] using XA
end
section
variable {h:Array Obj} {M:Nat->Prop} {vs:List Value} {w:World} {cs:Array Value} {α β:Type} [bg α] [bg β]
end
end Go.K
