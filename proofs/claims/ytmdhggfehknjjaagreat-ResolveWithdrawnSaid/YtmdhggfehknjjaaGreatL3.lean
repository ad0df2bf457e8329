/- Merging in place: what swapRange, rotate and symMerge do to places; stable sorting by blocks. Plain. -/
import Derived.Test.YtmdhggfehknjjaaGreatL2
import Derived.Test.YtmdhggfehknjjaaGreatL1
import Derived.WalkKit
import Derived.ProofKit
import Derived.OpenShut
import Derived.ChangeSlices
import Derived.Below
import Derived.Carry
import Derived.Deep.Slices
import Derived.WideShapes
import Derived.ChangeArms
set_option linter.unusedVariables false
set_option linter.unusedSimpArgs false
set_option linter.unusedSectionVars false
namespace Go.K
open bu
section
variable {α:Type} {ys zs us:List α} {σ dG ρ:Nat->Nat} {a b m i j k n x s r d:Nat} {c:α->α->Int} {P:α->Prop} {T:Nat->Nat->Prop}
theorem eL.comp (h:eL ys σ zs) (h':eL zs dG us):eL ys (λi=>σ (dG i)) us:=
 ⟨by rw[h'.len,h.len],λi hi=>by
  have h1:=h'.at_ i (by rw[h.len];exact hi);have h2:=h.at_ (dG i) (by rw[<-h.len];exact h1.1);exact⟨h2.1,h1.2.trans h2.2⟩⟩
theorem eL.congr (h:eL ys σ zs) (e:∀x,σ x=dG x):eL ys dG zs:=(funext e:σ=dG)▸h
def l9 (a b k:Nat):Nat->Nat:=λx=>if a<=x/\x<a+k then x-a+b else if b<=x/\x<b+k then x-b+a else x
theorem AF (h:a<=x) (h2:x<a+k):l9 a b k x=x-a+b:=by unfold l9;rw[if_pos ⟨h,h2⟩]
theorem AG (h:b<=x) (h2:x<b+k) (h3:a+k<=b):l9 a b k x=x-b+a:=by unfold l9;rw[if_neg (by omega),if_pos ⟨h,h2⟩]
theorem tj (h:¬(a<=x/\x<a+k)) (h2:¬(b<=x/\x<b+k)):l9 a b k x=x:=by unfold l9;rw[if_neg h,if_neg h2]
theorem Zl:l9 a b 0 x=x:=tj (by omega) (by omega)
theorem Pn (h:a+k<b):jS (l9 a b k) (a+k) (b+k) x=l9 a b (k+1) x:=by
 unfold jS;by_cases e1:x=a+k
 ·rw[if_pos e1,tj (by omega) (by omega),AF (by omega) (by omega)];omega
 ·rw[if_neg e1];by_cases e2:x=b+k
  ·rw[if_pos e2,tj (by omega) (by omega),AG (by omega) (by omega) (by omega)];omega
  ·rw[if_neg e2];by_cases fE:a<=x/\x<a+k
   ·rw[AF fE.1 fE.2,AF fE.1 (by omega)]
   ·by_cases jo:b<=x/\x<b+k
    ·rw[AG jo.1 jo.2 (by omega),AG jo.1 (by omega) (by omega)]
    ·rw[tj fE jo,tj (by omega) (by omega)]
def ro (a m b:Nat):Nat->Nat:=λx=>if a<=x/\x<a+(b-m) then x+(m-a) else if a+(b-m)<=x/\x<b then x-(b-m) else x
theorem uC (h:a<=x) (h2:x<a+(b-m)):ro a m b x=x+(m-a):=by unfold ro;rw[if_pos ⟨h,h2⟩]
theorem uD (h:a+(b-m)<=x) (h2:x<b):ro a m b x=x-(b-m):=by unfold ro;rw[if_neg (by omega),if_pos ⟨h,h2⟩]
theorem q_ (h:¬(a<=x/\x<b)) (hm:a<=m) (h2:m<=b):ro a m b x=x:=by unfold ro;rw[if_neg (by omega),if_neg (by omega)]
theorem Zm (h:a<=m) (h2:m<=b) (h3:a=m\/m=b):ro a m b x=x:=by
 by_cases e:a<=x/\x<b
 ·by_cases e2:x<a+(b-m)
  ·rw[uC e.1 e2];omega
  ·rw[uD (by omega) e.2];omega
 ·exact q_ e h h2
theorem Zn (h:a<=m) (h2:m<=b):eU (ro a m b) a b:=by
 refine⟨λi hi=>q_ hi h h2,λi h3 h4=>?_,λi j e=>?_⟩
 ·by_cases e2:i<a+(b-m)
  ·rw[uC h3 e2];omega
  ·rw[uD (by omega) h4];omega
 ·have hx:∀x,(a<=x/\x<a+(b-m)/\ro a m b x=x+(m-a))\/(a+(b-m)<=x/\x<b/\ro a m b x=x-(b-m))\/(¬(a<=x/\x<b)/\ro a m b x=x):=λx=>by
   by_cases e:a<=x/\x<b
   ·by_cases e2:x<a+(b-m)
    ·exact .inl ⟨e.1,e2,uC e.1 e2⟩
    ·exact .inr (.inl ⟨by omega,e.2,uD (by omega) e.2⟩)
   ·exact .inr (.inr ⟨e,q_ e h h2⟩)
  have h5:=hx i;have h6:=hx j;omega
theorem Zo (hj:j<i) (hi:i<=m):l9 (m-i) m j (ro (m-i+j) m (m+j) x)=ro (m-i) m (m+j) x:=by
 by_cases e1:m-i<=x/\x<m-i+j
 ·rw[uC (a:=m-i) e1.1 (by omega),q_ (by omega) (by omega) (by omega),AF e1.1 e1.2];omega
 ·by_cases e2:m-i+j<=x/\x<m+j
  ·rw[uD (a:=m-i) (by omega) e2.2];by_cases fE:x<m-i+j+j
   ·rw[uC e2.1 (by omega),AG (by omega) (by omega) (by omega)];omega
   ·rw[uD (by omega) e2.2,tj (by omega) (by omega)]
  ·rw[q_ (a:=m-i+j) (by omega) (by omega) (by omega),q_ (a:=m-i) (by omega) (by omega) (by omega),tj (by omega) (by omega)]
theorem Zp (hj:i<j) (hi:i<=m):l9 (m-i) (m+j-i) i (ro (m-i) m (m+(j-i)) x)=ro (m-i) m (m+j) x:=by
 by_cases e1:m-i<=x/\x<m-i+j
 ·rw[uC (b:=m+j) e1.1 (by omega)];by_cases e2:x<m-i+(j-i)
  ·rw[uC e1.1 (by omega),tj (by omega) (by omega)]
  ·rw[uD (by omega) (by omega),AF (by omega) (by omega)];omega
 ·by_cases e2:m-i+j<=x/\x<m+j
  ·rw[uD (b:=m+j) (by omega) e2.2,q_ (by omega) (by omega) (by omega),AG (by omega) (by omega) (by omega)];omega
  ·rw[q_ (b:=m+(j-i)) (by omega) (by omega) (by omega),q_ (b:=m+j) (by omega) (by omega) (by omega),tj (by omega) (by omega)]
theorem Zq (hi:i<=m):l9 (m-i) m i x=ro (m-i) m (m+i) x:=by
 by_cases e1:m-i<=x/\x<m
 ·rw[AF e1.1 (by omega),uC e1.1 (by omega)];omega
 ·by_cases e2:m<=x/\x<m+i
  ·rw[AG e2.1 e2.2 (by omega),uD (by omega) e2.2];omega
  ·rw[tj (by omega) (by omega),q_ (by omega) (by omega) (by omega)]
structure ri (zs us:List α) (a m b i j:Nat):Prop where
 ex:∃dG,eL zs dG us/\∀x,dG (ro (m-i) m (m+j) x)=ro a m b x
 b1:1<=i/\i<=m-a
 b2:1<=j/\j<=b-m
theorem ri.start (h1:a<m) (h2:m<b):ri zs zs a m b (m-a) (b-m):=by
 refine⟨⟨λx=>x,eL.id _,λx=>?_⟩,by omega,by omega⟩;rw[show m-(m-a)=a by omega,show m+(b-m)=b by omega]
theorem ri.more {vs:List α} (h:ri zs us a m b i j) (hj:j<i) (hv:eL us (l9 (m-i) m j) vs):ri zs vs a m b (i-j) j:=by
 obtain⟨⟨dG,h1,h2⟩,h3,h4⟩:=h;refine⟨⟨_,h1.comp hv,λx=>?_⟩,by omega,h4⟩;rw[show m-(i-j)=m-i+j by omega,Zo hj (by omega)];exact h2 x
theorem ri.less {vs:List α} (h:ri zs us a m b i j) (hj:i<j) (hv:eL us (l9 (m-i) (m+j-i) i) vs):ri zs vs a m b i (j-i):=by
 obtain⟨⟨dG,h1,h2⟩,h3,h4⟩:=h;refine⟨⟨_,h1.comp hv,λx=>?_⟩,h3,by omega⟩;show dG (l9 (m-i) (m+j-i) i (ro (m-i) m (m+(j-i)) x))=_;rw[Zp hj (by omega)];exact h2 x
theorem ri.done {vs:List α} (h:ri zs us a m b i i) (hv:eL us (l9 (m-i) m i) vs):eL zs (ro a m b) vs:=by
 obtain⟨⟨dG,h1,h2⟩,h3,h4⟩:=h;refine(h1.comp hv).congr λx=>?_;show dG (l9 (m-i) m i x)=_;rw[Zq (by omega)];exact h2 x
def lp (a k:Nat):Nat->Nat:=λx=>if a<=x/\x<k then x+1 else if x=k then a else x
def lq (m k:Nat):Nat->Nat:=λx=>if x=k then m else if k<x/\x<=m then x-1 else x
theorem AH (h:a<=x) (h2:x<k):lp a k x=x+1:=by unfold lp;rw[if_pos ⟨h,h2⟩]
theorem AJ:lp a k k=a:=by unfold lp;rw[if_neg (by omega),if_pos rfl]
theorem uE (h:x<a\/k<x) (hk:a<=k):lp a k x=x:=by unfold lp;rw[if_neg (by omega),if_neg (by omega)]
theorem AK:lq m k k=m:=by unfold lq;rw[if_pos rfl]
theorem wj (h:k<x) (h2:x<=m):lq m k x=x-1:=by unfold lq;rw[if_neg (by omega),if_pos ⟨h,h2⟩]
theorem yz (h:x<k\/m<x) (hk:k<=m):lq m k x=x:=by unfold lq;rw[if_neg (by omega),if_neg (by omega)]
theorem Zr:lp a a x=x:=by
 by_cases e:x=a
 ·rw[e,AJ]
 ·exact uE (by omega) (Nat.le_refl _)
theorem Zs:lq m m x=x:=by
 by_cases e:x=m
 ·rw[e,AK]
 ·exact yz (by omega) (Nat.le_refl _)
theorem Po (h:a<=k):jS (λx=>σ (lp a k x)) k (k+1) x=σ (lp a (k+1) x):=by
 unfold jS;by_cases e1:x=k
 ·rw[if_pos e1,e1];show σ (lp a k (k+1))=_;rw[uE (by omega) h,AH (by omega) (by omega)]
 ·rw[if_neg e1];by_cases e2:x=k+1
  ·rw[if_pos e2,e2];show σ (lp a k k)=_;rw[AJ,AJ]
  ·rw[if_neg e2];show σ (lp a k x)=_;by_cases fE:a<=x/\x<k
   ·rw[AH fE.1 fE.2,AH fE.1 (by omega)]
   ·rw[uE (by omega) h,uE (by omega) (by omega)]
theorem Pp (h:k<=m) (h1:1<=k):jS (λx=>σ (lq m k x)) k (k-1) x=σ (lq m (k-1) x):=by
 unfold jS;by_cases e1:x=k
 ·rw[if_pos e1,e1];show σ (lq m k (k-1))=_;rw[yz (by omega) h,wj (by omega) h]
 ·rw[if_neg e1];by_cases e2:x=k-1
  ·rw[if_pos e2,e2];show σ (lq m k k)=_;rw[AK,AK]
  ·rw[if_neg e2];show σ (lq m k x)=_;by_cases fE:k<x/\x<=m
   ·rw[wj fE.1 fE.2,wj (by omega) fE.2]
   ·rw[yz (by omega) h,yz (by omega) (by omega)]
theorem Zt (h:a<=k) (h2:k<b):eU (lp a k) a b:=by
 have hx:∀x,(a<=x/\x<k/\lp a k x=x+1)\/(x=k/\lp a k x=a)\/((x<a\/k<x)/\lp a k x=x):=λx=>by
  by_cases e:x=k
  ·subst e;exact .inr (.inl ⟨rfl,AJ⟩)
  ·by_cases e2:a<=x/\x<k
   ·exact .inl ⟨e2.1,e2.2,AH e2.1 e2.2⟩
   ·exact .inr (.inr ⟨by omega,uE (by omega) h⟩)
 exact⟨λi hi=>by have:=hx i;omega,λi h3 h4=>by have:=hx i;omega,λi j e=>by have:=hx i;have:=hx j;omega⟩
theorem Zu (h:a<=k) (h2:k<=m) (h3:m<b):eU (lq m k) a b:=by
 have hx:∀x,(x=k/\lq m k x=m)\/(k<x/\x<=m/\lq m k x=x-1)\/((x<k\/m<x)/\lq m k x=x):=λx=>by
  by_cases e:x=k
  ·subst e;exact .inl ⟨rfl,AK⟩
  ·by_cases e2:k<x/\x<=m
   ·exact .inr (.inl ⟨e2.1,e2.2,wj e2.1 e2.2⟩)
   ·exact .inr (.inr ⟨by omega,yz (by omega) h2⟩)
 exact⟨λi hi=>by have:=hx i;omega,λi h3 h4=>by have:=hx i;omega,λi j e=>by have:=hx i;have:=hx j;omega⟩
structure mb (c:α->α->Int) (ys:List α) (σ:Nat->Nat) (a m b:Nat):Prop where
 lt:a<m/\m<b/\b<=ys.length
 l:gW (dY c ys) σ a m
 r:gW (dY c ys) σ m b
 d:∀p q,a<=p->p<m->m<=q->q<b->dY c ys (σ p) (σ q)\/∃(hq:σ q<ys.length) (hp:σ p<ys.length),c ys[σ q] ys[σ p]<0
theorem mb.yes (h:mb c ys σ a m b) (hL:eL ys σ zs) {p q:Nat} (hp:p<zs.length) (hq:q<zs.length) (hc:c zs[q] zs[p]<0):dY c ys (σ q) (σ p):=by
 have hl:=hL.len;refine⟨(hL.at_ q (by omega)).1,(hL.at_ p (by omega)).1,.inl ?_⟩;rw[<-hL.get (by omega:q<ys.length),<-hL.get (by omega:p<ys.length)];exact hc
theorem mb.no (h:mb c ys σ a m b) (hL:eL ys σ zs) {p q:Nat} (h1:a<=p) (h2:p<m) (h3:m<=q) (h4:q<b) (hp:p<zs.length) (hq:q<zs.length) (hc:¬c zs[q] zs[p]<0):dY c ys (σ p) (σ q):=by
 have hl:=hL.len;rcases h.d p q h1 h2 h3 h4 with h5|⟨abA,abB,h5⟩
 ·exact h5
 ·rw[<-hL.get (by omega:q<ys.length),<-hL.get (by omega:p<ys.length)] at h5;exact absurd h5 hc
abbrev yB (T:Nat->Nat->Prop):Prop:=∀x y z,T x y->T y z->T x z
structure rj (T:Nat->Nat->Prop) (σ:Nat->Nat) (a m b i j:Nat):Prop where
 le:m<=i/\i<=j/\j<=b
 lo:∀q,m<=q->q<i->T (σ q) (σ a)
 hi:∀q,j<=q->q<b->T (σ a) (σ q)
theorem rj.start (h:m<=b):rj T σ a m b m b:=⟨by omega,λq h1 h2=>by omega,λq h1 h2=>by omega⟩
theorem rj.up {h:Nat} (ht:yB T) (hA:gW T σ m b) (hB:rj T σ a m b i j) (h1:i<=h) (h2:h<j) (hT:T (σ h) (σ a)):rj T σ a m b (h+1) j:=by
 have hl:=hB.le;refine⟨by omega,λq h3 h4=>?_,hB.hi⟩;by_cases e:q=h
 ·rw[e];exact hT
 ·exact ht _ _ _ (hA q h h3 (by omega) (by omega)) hT
theorem rj.down {h:Nat} (ht:yB T) (hA:gW T σ m b) (hB:rj T σ a m b i j) (h1:i<=h) (h2:h<j) (hT:T (σ a) (σ h)):rj T σ a m b i h:=by
 have hl:=hB.le;refine⟨by omega,hB.lo,λq h3 h4=>?_⟩;by_cases e:q=h
 ·rw[e];exact hT
 ·exact ht _ _ _ hT (hA h q (by omega) (by omega) (by omega))
theorem rj.done (hB:rj T σ a m b i i) (hm:m=a+1) (hA:gW T σ m b):gW T (λx=>σ (lp a (i-1) x)) a b:=by
 have hl:=hB.le;intro p q h1 h2 h3;show T (σ (lp a (i-1) p)) (σ (lp a (i-1) q));rcases Nat.lt_trichotomy p (i-1) with e|e|e
 ·rw[AH h1 e];rcases Nat.lt_trichotomy q (i-1) with f|f|f
  ·rw[AH (by omega) f];exact hA _ _ (by omega) (by omega) (by omega)
  ·rw[f,AJ];exact hB.lo _ (by omega) (by omega)
  ·rw[uE (by omega) (by omega)];exact hA _ _ (by omega) (by omega) (by omega)
 ·rw[e,AJ,uE (by omega) (by omega)];exact hB.hi _ (by omega) (by omega)
 ·rw[uE (by omega) (by omega),uE (by omega) (by omega)];exact hA _ _ (by omega) (by omega) (by omega)
structure rm (T:Nat->Nat->Prop) (σ:Nat->Nat) (a m i j:Nat):Prop where
 le:a<=i/\i<=j/\j<=m
 lo:∀q,a<=q->q<i->T (σ q) (σ m)
 hi:∀q,j<=q->q<m->T (σ m) (σ q)
theorem rm.start (h:a<=m):rm T σ a m a m:=⟨by omega,λq h1 h2=>by omega,λq h1 h2=>by omega⟩
theorem rm.up {h:Nat} (ht:yB T) (hA:gW T σ a m) (hB:rm T σ a m i j) (h1:i<=h) (h2:h<j) (hT:T (σ h) (σ m)):rm T σ a m (h+1) j:=by
 have hl:=hB.le;refine⟨by omega,λq h3 h4=>?_,hB.hi⟩;by_cases e:q=h
 ·rw[e];exact hT
 ·exact ht _ _ _ (hA q h h3 (by omega) (by omega)) hT
theorem rm.down {h:Nat} (ht:yB T) (hA:gW T σ a m) (hB:rm T σ a m i j) (h1:i<=h) (h2:h<j) (hT:T (σ m) (σ h)):rm T σ a m i h:=by
 have hl:=hB.le;refine⟨by omega,hB.lo,λq h3 h4=>?_⟩;by_cases e:q=h
 ·rw[e];exact hT
 ·exact ht _ _ _ hT (hA h q (by omega) (by omega) (by omega))
theorem rm.done (hB:rm T σ a m i i) (hm:b=m+1) (hA:gW T σ a m):gW T (λx=>σ (lq m i x)) a b:=by
 have hl:=hB.le;intro p q h1 h2 h3;show T (σ (lq m i p)) (σ (lq m i q));rcases Nat.lt_trichotomy p i with e|e|e
 ·rw[yz (.inl e) (by omega)];rcases Nat.lt_trichotomy q i with f|f|f
  ·rw[yz (.inl f) (by omega)];exact hA _ _ (by omega) (by omega) (by omega)
  ·rw[f,AK];exact hB.lo _ (by omega) (by omega)
  ·rw[wj (by omega) (by omega)];exact hA _ _ (by omega) (by omega) (by omega)
 ·rw[e,AK,wj (by omega) (by omega)];exact hB.hi _ (by omega) (by omega)
 ·rw[wj (by omega) (by omega),wj (by omega) (by omega)];exact hA _ _ (by omega) (by omega) (by omega)
structure iC (T:Nat->Nat->Prop) (σ:Nat->Nat) (a m b d s r:Nat):Prop where
 mid:a<d/\d<b/\2*d<=a+b/\a+b<=2*d+1/\a<m/\m<b
 le:s<=r
 lo: (m<=d->a<=s)/\(d<m->d+m-b<=s)
 hi: (m<=d->r<=m)/\(d<m->r<=d)
 aG: ((m<=d/\s=a)\/(d<m/\s=d+m-b))\/(1<=s/\T (σ (s-1)) (σ (d+m-s)))
 kH: ((m<=d/\r=m)\/(d<m/\r=d))\/T (σ (d+m-1-r)) (σ r)
theorem iC.Zv (h:a<d/\d<b/\2*d<=a+b/\a+b<=2*d+1/\a<m/\m<b) (h2:d<m):iC T σ a m b d (d+m-b) d:=
 ⟨h,by omega,⟨λe=>by omega,λ_=>Nat.le_refl _⟩,⟨λe=>by omega,λ_=>Nat.le_refl _⟩,.inl (.inr ⟨h2,rfl⟩),.inl (.inr ⟨h2,rfl⟩)⟩
theorem iC.Zw (h:a<d/\d<b/\2*d<=a+b/\a+b<=2*d+1/\a<m/\m<b) (h2:m<=d):iC T σ a m b d a m:=
 ⟨h,by omega,⟨λ_=>Nat.le_refl _,λe=>by omega⟩,⟨λ_=>Nat.le_refl _,λe=>by omega⟩,.inl (.inl ⟨h2,rfl⟩),.inl (.inl ⟨h2,rfl⟩)⟩
theorem iC.Zx (h:iC T σ a m b d s r) {q:Nat} (h1:s<=q) (h2:q<r):a<=q/\q<m/\m<=d+m-1-q/\d+m-1-q<b/\q<=d+m-1:=by
 obtain⟨h3,h4,⟨h5,h6⟩,⟨h7,h8⟩,_,_⟩:=h;omega
theorem iC.up (h:iC T σ a m b d s r) {q:Nat} (h1:s<=q) (h2:q<r) (hT:T (σ q) (σ (d+m-1-q))):iC T σ a m b d (q+1) r:=by
 obtain⟨h3,h4,⟨h5,h6⟩,⟨h7,h8⟩,fV,jm⟩:=h;exact⟨h3,by omega,by omega,by omega,.inr ⟨by omega,by rw[show q+1-1=q by omega,show d+m-(q+1)=d+m-1-q by omega];exact hT⟩,jm⟩
theorem iC.down (h:iC T σ a m b d s r) {q:Nat} (h1:s<=q) (h2:q<r) (hT:T (σ (d+m-1-q)) (σ q)):iC T σ a m b d s q:=by
 obtain⟨h3,h4,⟨h5,h6⟩,⟨h7,h8⟩,fV,jm⟩:=h;exact⟨h3,by omega,by omega,by omega,fV,.inr hT⟩
theorem iC.ends (h:iC T σ a m b d s s):a<=s/\s<=m/\s<=d/\m<=d+m-s/\d<=d+m-s/\d+m-s<=b/\s+(d+m-s-m)=d:=by
 obtain⟨h3,h4,⟨h5,h6⟩,⟨h7,h8⟩,fV,jm⟩:=h;omega
theorem iC.at_ (h:iC T σ a m b d s s) (x:Nat): (a<=x->x<s->ro s m (d+m-s) x=x)/\(s<=x->x<d->ro s m (d+m-s) x=x+(m-s))/\(d<=x->x<d+m-s->ro s m (d+m-s) x=x-(d-s))/\(d+m-s<=x->ro s m (d+m-s) x=x):=by
 have he:=h.ends;refine⟨λh1 h2=>q_ (by omega) (by omega) (by omega),λh1 h2=>uC (by omega) (by omega),λh1 h2=>?_,λh1=>q_ (by omega) (by omega) (by omega)⟩;rw[uD (by omega) (by omega)];omega
theorem iC.Zy (ht:yB T) (h:iC T σ a m b d s s) (hl:gW T σ a m) (hr:gW T σ m b):∀p q,a<=p->p<d->d<=q->q<b->T (σ (ro s m (d+m-s) p)) (σ (ro s m (d+m-s) q)):=by
 have he:=h.ends;have hm:=h.mid;have Ja:∀p q,a<=p->p<q->q<m->T (σ p) (σ q):=hl;have Jb:∀p q,m<=p->p<q->q<b->T (σ p) (σ q):=hr;have lL:∀p q,a<=p->p<s->d+m-s<=q->q<b->T (σ p) (σ q):=λp q h1 h2 h3 h4=>by
  rcases h.aG with h5|⟨_,h5⟩
  ·exfalso;omega
  ·have h6:T (σ (s-1)) (σ q):=by
    by_cases e:q=d+m-s
    ·rw[e];exact h5
    ·exact ht _ _ _ h5 (Jb _ _ (by omega) (by omega) h4)
   by_cases e:p=s-1
   ·rw[e];exact h6
   ·exact ht _ _ _ (Ja p (s-1) h1 (by omega) (by omega)) h6
 have Zz:∀p q,s<=p->p<m->m<=q->q<d+m-s->T (σ q) (σ p):=λp q h1 h2 h3 h4=>by
  rcases h.kH with h5|h5
  ·exfalso;omega
  ·have h6:T (σ q) (σ s):=by
    by_cases e:q=d+m-1-s
    ·rw[e];exact h5
    ·exact ht _ _ _ (Jb q (d+m-1-s) h3 (by omega) (by omega)) h5
   by_cases e:p=s
   ·rw[e];exact h6
   ·exact ht _ _ _ h6 (Ja s p (by omega) (by omega) h2)
 intro p q h1 h2 h3 h4;have hp:=h.at_ p;have hq:=h.at_ q;by_cases e:p<s
 ·rw[hp.1 h1 e];by_cases f:q<d+m-s
  ·rw[hq.2.2.1 h3 f];exact Ja _ _ h1 (by omega) (by omega)
  ·rw[hq.2.2.2 (by omega)];exact lL _ _ h1 e (by omega) h4
 ·rw[hp.2.1 (by omega) h2];by_cases f:q<d+m-s
  ·rw[hq.2.2.1 h3 f];exact Zz _ _ (by omega) (by omega) (by omega) (by omega)
  ·rw[hq.2.2.2 (by omega)];exact Jb _ _ (by omega) (by omega) h4
theorem iC.left (h:iC (dY c ys) σ a m b d s s) (hS:mb c ys σ a m b) (h1:a<s) (h2:s<d):mb c ys (λx=>σ (ro s m (d+m-s) x)) a s d:=by
 have he:=h.ends;have hlt:=hS.lt;refine⟨⟨h1,h2,by omega⟩,λp q h3 h4 h5=>?_,λp q h3 h4 h5=>?_,λp q h3 h4 h5 h6=>?_⟩
 ·try simp only
  rw[(h.at_ p).1 h3 (by omega),(h.at_ q).1 (by omega) h5];exact hS.l _ _ h3 h4 (by omega)
 ·try simp only
  rw[(h.at_ p).2.1 h3 (by omega),(h.at_ q).2.1 (by omega) h5];exact hS.r _ _ (by omega) (by omega) (by omega)
 ·try simp only
  rw[(h.at_ p).1 h3 h4,(h.at_ q).2.1 h5 h6];exact hS.d _ _ h3 (by omega) (by omega) (by omega)
theorem iC.ZA (h:iC (dY c ys) σ a m b d s s) (hS:mb c ys σ a m b) (h1:¬(a<s/\s<d)):gW (dY c ys) (λx=>σ (ro s m (d+m-s) x)) a d:=by
 have he:=h.ends;intro p q h3 h4 h5;try simp only
 by_cases e:s=a
 ·rw[(h.at_ p).2.1 (by omega) (by omega),(h.at_ q).2.1 (by omega) h5];exact hS.r _ _ (by omega) (by omega) (by omega)
 ·rw[(h.at_ p).1 h3 (by omega),(h.at_ q).1 (by omega) (by omega)];exact hS.l _ _ h3 h4 (by omega)
theorem iC.right (h:iC (dY c ys) σ a m b d s s) (hS:mb c ys σ a m b) (h1:d<d+m-s) (h2:d+m-s<b):mb c ys (λx=>σ (ro s m (d+m-s) x)) d (d+m-s) b:=by
 have he:=h.ends;have hlt:=hS.lt;refine⟨⟨h1,h2,by omega⟩,λp q h3 h4 h5=>?_,λp q h3 h4 h5=>?_,λp q h3 h4 h5 h6=>?_⟩
 ·try simp only
  rw[(h.at_ p).2.2.1 h3 (by omega),(h.at_ q).2.2.1 (by omega) h5];exact hS.l _ _ (by omega) (by omega) (by omega)
 ·try simp only
  rw[(h.at_ p).2.2.2 h3,(h.at_ q).2.2.2 (by omega)];exact hS.r _ _ (by omega) h4 h5
 ·try simp only
  rw[(h.at_ p).2.2.1 h3 h4,(h.at_ q).2.2.2 h5];exact hS.d _ _ (by omega) (by omega) (by omega) h6
theorem iC.ZB (h:iC (dY c ys) σ a m b d s s) (hS:mb c ys σ a m b) (h1:¬(d<d+m-s/\d+m-s<b)):gW (dY c ys) (λx=>σ (ro s m (d+m-s) x)) d b:=by
 have he:=h.ends;intro p q h3 h4 h5;try simp only
 by_cases e:d+m-s=b
 ·rw[(h.at_ p).2.2.1 h3 (by omega),(h.at_ q).2.2.1 (by omega) (by omega)];exact hS.l _ _ (by omega) (by omega) (by omega)
 ·rw[(h.at_ p).2.2.2 (by omega),(h.at_ q).2.2.2 (by omega)];exact hS.r _ _ (by omega) h4 h5
theorem mb.keep (h:mb c ys σ a m b) (e:∀x,a<=x->x<b->dG x=σ x):mb c ys dG a m b:=by
 have hlt:=h.lt;refine⟨hlt,λp q h3 h4 h5=>?_,λp q h3 h4 h5=>?_,λp q h3 h4 h5 h6=>?_⟩
 ·rw[e p (by omega) (by omega),e q (by omega) (by omega)];exact h.l _ _ h3 h4 h5
 ·rw[e p (by omega) (by omega),e q (by omega) (by omega)];exact h.r _ _ h3 h4 h5
 ·have e1:=e p (by omega) (by omega);have e2:=e q (by omega) (by omega);rw[e1,e2];exact h.d _ _ h3 h4 h5 h6
structure AL (c:α->α->Int) (ys:List α) (σ:Nat->Nat) (a b:Nat) (us:List α) (dG:Nat->Nat):Prop where
 pl:eL ys (λx=>σ (dG x)) us
 wi:eU dG a b
 jq:gW (dY c ys) (λx=>σ (dG x)) a b
theorem iC.merge {CV CW:Nat->Nat} (hT:yB (dY c ys)) (h:iC (dY c ys) σ a m b d s s) (hS:mb c ys σ a m b) (h1:eU CV a d) (ZC:gW (dY c ys) (λx=>σ (ro s m (d+m-s) (CV x))) a d) (h2:eU CW d b) (ZD:gW (dY c ys) (λx=>σ (ro s m (d+m-s) (CV (CW x)))) d b) (hp:eL ys (λx=>σ (ro s m (d+m-s) (CV (CW x)))) us):
  AL c ys σ a b us (λx=>ro s m (d+m-s) (CV (CW x))):=by
 have he:=h.ends;have hm:=h.mid;refine⟨hp,?_,λp q h3 h4 h5=>?_⟩
 ·exact((Zn (by omega) (by omega)).mono he.1 he.2.2.2.2.2.1).comp ((h1.mono (Nat.le_refl _) (by omega)).comp (h2.mono (by omega) (Nat.le_refl _)))
 ·try simp only
  by_cases e:q<d
  ·rw[h2.out p (by omega),h2.out q (by omega)];exact ZC p q h3 h4 e
  ·by_cases f:p<d
   ·rw[h2.out p (by omega)];have i1:=h1.jZ p h3 f;have i2:=h2.jZ q (by omega) h5;rw[h1.out (CW q) (by omega)];exact h.Zy hT hS.l hS.r _ _ i1.1 i1.2 i2.1 i2.2
   ·exact ZD p q (by omega) h4 h5
theorem ZE (hc:kN c P) (hP:∀x∈ys,P x):yB (dY c ys):=λ_ _ _ h1 h2=>G5 hc hP h1 h2
structure kC (c:α->α->Int) (ys:List α) (σ:Nat->Nat) (a e:Nat):Prop where
 jZ:∀x,a<=x->x<e->a<=σ x/\σ x<e
 jq:gW (dY c ys) σ a e
theorem kC.nil (h:b<=a):kC c ys σ a b:=⟨λx h1 h2=>by omega,λp q h1 h2 h3=>by omega⟩
theorem kC.keep (h:kC c ys σ a b) (e:∀x,a<=x->x<b->dG x=x):kC c ys (λx=>σ (dG x)) a b:=
 ⟨λx h1 h2=>by show a<=σ (dG x)/\σ (dG x)<b;rw[e x h1 h2];exact h.jZ x h1 h2,λp q h1 h2 h3=>by
  show dY c ys (σ (dG p)) (σ (dG q));rw[e p h1 (by omega),e q (by omega) h3];exact h.jq p q h1 h2 h3⟩
theorem mb.Pq (hc:kN c P) (hP:∀x∈ys,P x) (hL:eL ys σ zs) (h1:kC c ys σ a m) (h2:kC c ys σ m b) (hl:a<m) (hr:m<b) (hb:b<=ys.length):mb c ys σ a m b:=by
 refine⟨⟨hl,hr,hb⟩,h1.jq,h2.jq,λp q h3 h4 h5 h6=>?_⟩;have i1:=h1.jZ p h3 h4;have i2:=h2.jZ q h5 h6;have b1:=(hL.at_ p (by omega)).1;have b2:=(hL.at_ q (by omega)).1;have p1:=hP _ (List.getElem_mem b1);have p2:=hP _ (List.getElem_mem b2);by_cases e:c ys[σ q] ys[σ p]<0
 ·exact .inr ⟨b2,b1,e⟩
 ·have a1:=hc.anti _ _ p1 p2;have a2:=hc.anti _ _ p2 p1;refine .inl ⟨b1,b2,?_⟩;by_cases f:c ys[σ p] ys[σ q]<0
  ·exact .inl f
  ·exact .inr ⟨by omega,by omega⟩
theorem AL.seg (h:AL c ys σ a b us dG) (h1:kC c ys σ a m) (h2:kC c ys σ m b) (hm:a<=m/\m<=b):kC c ys (λx=>σ (dG x)) a b:=by
 refine⟨λx h3 h4=>?_,h.jq⟩;have h5:=h.wi.jZ x h3 h4;show a<=σ (dG x)/\σ (dG x)<b;by_cases e:dG x<m
 ·have:=h1.jZ _ h5.1 e;omega
 ·have:=h2.jZ _ (by omega) h5.2;omega
theorem kC.Pr (hL:eL ys σ zs) (hid:∀x,a<=x->σ x=x) (hw:eU dG a b) (ha:gW (dY c zs) dG a b) (hb:b<=ys.length):kC c ys (λx=>σ (dG x)) a b:=by
 refine⟨λx h1 h2=>?_,λp q h1 h2 h3=>?_⟩
 ·have:=hw.jZ x h1 h2;show a<=σ (dG x)/\σ (dG x)<b;rw[hid _ this.1];exact this
 ·have i1:=hw.jZ p h1 (by omega);have i2:=hw.jZ q (by omega) h3;show dY c ys (σ (dG p)) (σ (dG q));rw[hid _ i1.1,hid _ i2.1];obtain⟨e1,e2,fE⟩:=ha p q h1 h2 h3;have g1:=hL.get (show dG p<ys.length by omega);have g2:=hL.get (show dG q<ys.length by omega);simp only[hid _ i1.1] at g1;simp only[hid _ i2.1] at g2;rw[g1,g2] at fE;exact⟨by omega,by omega,fE⟩
def uF (c:α->α->Int) (ys:List α) (σ:Nat->Nat) (k:Nat):Prop:=∀k',k'<k->kC c ys σ (k'*20) (k'*20+20)
def wk (c:α->α->Int) (ys:List α) (σ:Nat->Nat) (d n:Nat):Prop:=∀k',kC c ys σ (k'*d) (min (k'*d+d) n)
def oF (c:α->α->Int) (ys:List α) (σ:Nat->Nat) (d n k:Nat):Prop:=(∀k',k'<k->kC c ys σ (k'*(2*d)) (k'*(2*d)+2*d))/\∀k',2*k<=k'->kC c ys σ (k'*d) (min (k'*d+d) n)
theorem uF.zero:uF c ys σ 0:=λk' h=>by omega
theorem uF.next (h:uF c ys σ k) (ha:a=k*20) (hL:eL ys σ zs) (hW:eU σ 0 a) (hw:eU dG a (a+20)) (hA:gW (dY c zs) dG a (a+20)) (hb:a+20<=ys.length):uF c ys (λx=>σ (dG x)) (k+1):=by
 intro k' hk;by_cases e:k'=k
 ·subst e;rw[<-ha];exact kC.Pr hL (λx hx=>hW.out x (by omega)) hw hA hb
 ·exact(h k' (by omega)).keep λx h1 h2=>hw.out x (by omega)
theorem uF.all (h:uF c ys σ k) (ha:a=k*20) (hL:eL ys σ zs) (hW:eU σ 0 a) (hn:n=ys.length) (hw:eU dG a n) (hA:gW (dY c zs) dG a n) (h1:a<=n) (h2:n<a+20):wk c ys (λx=>σ (dG x)) 20 n:=by
 intro k';rcases Nat.lt_trichotomy k' k with e|e|e
 ·rw[show min (k'*20+20) n=k'*20+20 by omega];exact(h k' e).keep λx h1 h2=>hw.out x (by omega)
 ·subst e;rw[<-ha,show min (a+20) n=n by omega];exact kC.Pr hL (λx hx=>hW.out x (by omega)) hw hA (by omega)
 ·exact kC.nil (by omega)
theorem wk.mix (h:wk c ys σ d n):oF c ys σ d n 0:=⟨λk' hk=>by omega,λk' _=>h k'⟩
theorem wk.done (h:wk c ys σ d n) (hn:n<=d):gW (dY c ys) σ 0 n:=by
 have:=h 0;rw[Nat.zero_mul,show min (0+d) n=n by omega] at this;exact this.jq
theorem Fc (k d:Nat):2*k*d=k*(2*d):=by rw[Nat.mul_comm 2 k,Nat.mul_assoc]
theorem oF.fst (h:oF c ys σ d n k) (ha:a=k*(2*d)) (hn:a+d<=n):kC c ys σ a (a+d):=by
 have:=h.2 (2*k) (Nat.le_refl _);rw[Fc,<-ha,show min (a+d) n=a+d by omega] at this;exact this
theorem oF.snd (h:oF c ys σ d n k) (ha:a=k*(2*d)):kC c ys σ (a+d) (min (a+2*d) n):=by
 have:=h.2 (2*k+1) (by omega);rw[Nat.succ_mul,Fc,<-ha,show a+d+d=a+2*d by omega] at this;exact this
theorem oF.next (h:oF c ys σ d n k) (ha:a=k*(2*d)) (hn:a+2*d<=n) (hq:AL c ys σ a (a+2*d) us dG):oF c ys (λx=>σ (dG x)) d n (k+1):=by
 have h1:=h.fst ha (by omega);have h2:=h.snd ha;rw[show min (a+2*d) n=a+2*d by omega] at h2;refine⟨λk' hk=>?_,λk' hk=>?_⟩
 ·by_cases e:k'=k
  ·subst e;rw[<-ha];exact hq.seg h1 h2 (by omega)
  ·have: (k'+1)*(2*d)<=k*(2*d):=Nat.mul_le_mul_right _ (by omega);rw[Nat.succ_mul] at this;exact(h.1 k' (by omega)).keep λx h3 h4=>hq.wi.out x (by omega)
 ·have: (2*k+2)*d<=k'*d:=Nat.mul_le_mul_right _ (by omega);rw[Nat.add_mul,Fc] at this;exact(h.2 k' (by omega)).keep λx h3 h4=>hq.wi.out x (by omega)
theorem oF.beyond (ha:a=k*(2*d)) (hn:n<a+2*d) {k':Nat} (hk:k<k'):n<=k'*(2*d):=by
 have: (k+1)*(2*d)<=k'*(2*d):=Nat.mul_le_mul_right _ (by omega);rw[Nat.succ_mul] at this;omega
theorem oF.last (h:oF c ys σ d n k) (ha:a=k*(2*d)) (hn:a+d<n) (hn2:n<a+2*d) (hq:AL c ys σ a n us dG):wk c ys (λx=>σ (dG x)) (2*d) n:=by
 have h1:=h.fst ha (by omega);have h2:=h.snd ha;rw[show min (a+2*d) n=n by omega] at h2;intro k';rcases Nat.lt_trichotomy k' k with e|e|e
 ·have: (k'+1)*(2*d)<=k*(2*d):=Nat.mul_le_mul_right _ (by omega);rw[Nat.succ_mul] at this;rw[show min (k'*(2*d)+2*d) n=k'*(2*d)+2*d by omega];exact(h.1 k' e).keep λx h3 h4=>hq.wi.out x (by omega)
 ·subst e;rw[<-ha,show min (a+2*d) n=n by omega];exact hq.seg h1 h2 (by omega)
 ·have:=oF.beyond ha hn2 e;exact kC.nil (by omega)
theorem oF.rest (h:oF c ys σ d n k) (ha:a=k*(2*d)) (hn:n<=a+d) (ha2:a<=n):wk c ys σ (2*d) n:=by
 have h1:=h.2 (2*k) (Nat.le_refl _);rw[Fc,<-ha,show min (a+d) n=n by omega] at h1;intro k';rcases Nat.lt_trichotomy k' k with e|e|e
 ·have: (k'+1)*(2*d)<=k*(2*d):=Nat.mul_le_mul_right _ (by omega);rw[Nat.succ_mul] at this;rw[show min (k'*(2*d)+2*d) n=k'*(2*d)+2*d by omega];exact h.1 k' e
 ·subst e;rw[<-ha,show min (a+2*d) n=n by omega];exact h1
 ·have: (k+1)*(2*d)<=k'*(2*d):=Nat.mul_le_mul_right _ (by omega);rw[Nat.succ_mul] at this;exact kC.nil (by omega)
end
def kV (w:World) (C:Nat->Nat) (m:List (av×iw)) (rs:List av) (g:av->List av):Prop:=∀r∈rs,∃s:iw,eF m r=some s/\aB w (aA C) (g r) s.v
section
variable {w w':World} {C aQ:Nat->Nat} {I:List Nat} {m:List (av×iw)} {rs:List av} {g g':av->List av} {l:List a_} {ds:List cI} {v:Value} {both:List av} {b:a_}
theorem kV.st (h:kV w C m rs g) (hs:ay I w C w' aQ) (h0:0∉I):kV w' aQ m rs g:=λr hr=>let⟨s,h1,h2⟩:=h r hr;⟨s,h1,h2.st hs h0⟩
theorem kV.t (h:kV w C m rs g) (hs:ay I w C w' aQ) (h0:0∉I:=by first|decide|(simp<;>omega)):kV w' aQ m rs g:=h.st hs h0
theorem kV.nil:kV w C m [] g:=λr hr=>by cases hr
theorem kV.look (h:kV w C m rs g) {r:av} (hr:r∈rs):∃v,((eF m r).getD ⟨.slice none 0 0⟩).v=v/\aB w (aA C) (g r) v:=by
 obtain⟨s,h1,h2⟩:=h r hr;exact⟨s.v,by rw[h1];rfl,h2⟩
theorem kV.put (h:kV w C m rs g) {q:av} (hv:aB w (aA C) both v) (hg:∀r∈rs,g' r=if q=r then both else g r):kV w C (gD m q ⟨v⟩) rs g':=λr hr=>by
 rw[lK,hg r hr];by_cases e:q=r
 ·rw[if_pos e,if_pos e];exact⟨⟨v⟩,rfl,hv⟩
 ·rw[if_neg e,if_neg e];exact h r hr
theorem kV.add (h:kV w C m rs λr=>[r]) {q:av} (hv:aB w (aA C) [q] v):kV w C (gD m q ⟨v⟩) (rs++[q]) λr=>[r]:=λr hr=>by
 rw[lK];by_cases e:q=r
 ·subst e;rw[if_pos rfl];exact⟨⟨v⟩,rfl,hv⟩
 ·rw[if_neg e];rcases List.mem_append.1 hr with h1|h1
  ·exact h r h1
  ·exact absurd (List.mem_singleton.1 h1).symm e
theorem kR.sub (h:kR l ds g) {r:av} (hr:r∈aO l):∀q∈g r,q∈aO l:=λq hq=>by
 by_cases h2:2<=(g r).length
 ·exact Nk (h.join r) h2 (h.nd r) hq
 ·have hs:=h.self r
  match hg:g r,h2,hs,hq with
  |[x],_,hs,hq=>rw[List.mem_singleton] at hs hq;rw[hq,<-hs];exact hr
  |[],_,hs,_=>cases hs
  |x::y::t,h2,_,_=>simp at h2
theorem kR.len (h:kR l ds g) {r:av} (hr:r∈aO l): (g r).length<=2*l.length:=by
 have h1:=(h.nd r).length_le_of_subset (h.sub hr);have:=tO l;omega
def wo (g:av->List av) (both:List av) (j:Nat):av->List av:=λr=>if r∈both.take j then both else g r
theorem ZF:wo g both 0=g:=by funext r;unfold wo;rw[if_neg (by simp)]
theorem ZG {j:Nat} (hj:j<both.length) (r:av):wo g both (j+1) r=if both[j]=r then both else wo g both j r:=by
 unfold wo;rw[List.take_succ_eq_append_getElem hj];by_cases e:both[j]=r
 ·rw[if_pos e,if_pos (by rw[List.mem_append,List.mem_singleton];exact .inr e.symm)]
 ·rw[if_neg e];by_cases h:r∈both.take j
  ·rw[if_pos h,if_pos (List.mem_append.2 (.inl h))]
  ·rw[if_neg h,if_neg (λh2=>(List.mem_append.1 h2).elim h (λh3=>e (List.mem_singleton.1 h3).symm))]
theorem Pt (h:b.B∈g b.A\/sY ds (g b.A) (g b.B)=true):nN ds g b=g:=by unfold nN;rw[if_pos h]
theorem ZH (h1:b.B∉g b.A) (h2:sY ds (g b.A) (g b.B)=false):nN ds g b=wo g (g b.A++g b.B) (g b.A++g b.B).length:=by
 unfold nN wo;rw[if_neg (λh=>h.elim h1 (λe=>by rw[h2] at e;cases e)),List.take_length]
theorem ZI {ord:List a_} {k:Nat} (h:k<ord.length):eo ds (ord.take (k+1))=nN ds (eo ds (ord.take k)) ord[k]:=by
 unfold eo;rw[List.take_succ_eq_append_getElem h,List.foldl_append];rfl
theorem ZJ {refs:List av} {i:Nat} (h:i<refs.length):pH (refs.take (i+1)) g=if Ab g refs[i]=true then pH (refs.take i) g++[jY (g refs[i])] else pH (refs.take i) g:=by
 unfold pH;rw[List.take_succ_eq_append_getElem h,List.filter_append];by_cases e:Ab g refs[i]=true
 ·rw[if_pos e,List.filter_cons_of_pos e];simp
 ·rw[if_neg e,List.filter_cons_of_neg e];simp
theorem Pu (refs:List av): (pH refs g).length<=refs.length:=by
 unfold pH;rw[List.length_map];exact List.length_filter_le _ _
end
def eW (x y:List av):Int:=iW (x.headD ⟨0,0⟩) (y.headD ⟨0,0⟩)
theorem Pv {x y:List av} (hx:0<x.length) (hy:0<y.length):eW x y=iW x[0] y[0]:=by
 unfold eW;rw[List.headD_eq_head?_getD,List.headD_eq_head?_getD,List.head?_eq_getElem?,List.head?_eq_getElem?,List.getElem?_eq_getElem hx,List.getElem?_eq_getElem hy];rfl
theorem Pw:kN iW (λ_=>True):=⟨λx y _ _=>by
 rw[(Aa (x:=x) (y:=y)).1,(Aa (x:=y) (y:=x)).2.2],λx y z _ _ _ h1 h2=>by
 have a:=(Aa (x:=x) (y:=y)).2.2;have b:=(Aa (x:=y) (y:=z)).2.2;have c:=(Aa (x:=x) (y:=z)).2.2;have sK:¬z_ y x:=λh=>by have:=a.2 h;omega
 have Gq:¬z_ z y:=λh=>by have:=b.2 h;omega
 refine Int.not_lt.1 λh=>?_;have h3:=c.1 h;unfold z_ at sK Gq h3;omega⟩
theorem r_:kN eW (λ_=>True):=⟨λx y _ _=>by unfold eW;exact Pw.1 _ _ trivial trivial,λx y z _ _ _=>by unfold eW;exact Pw.2 _ _ _ trivial trivial trivial⟩
section
variable {α:Type} {ys zs:List α} {σ:Nat->Nat}
theorem eL.sub (h:eL ys σ zs):∀x∈zs,x∈ys:=λx hx=>by
 obtain⟨i,hi,rfl⟩:=List.getElem_of_mem hx;have hi':i<ys.length:=by rw[<-h.len];exact hi
 rw[h.get hi'];exact List.getElem_mem _
end
noncomputable def fc (ds:List cI) (l:List a_):List (List av)×Int:=if((aO l).length:Int)<=8 then(ov l ds,0) else(xU l ds,0)
def Px (P:Program) (g:Nat) (l:List a_) (ds:List cI) (wf:List a_->List (List av)×Int):Prop:=
 ∀(w1:World) (aW:Nat->Nat) (i:Nat) (hi:i<(bk l).length) (Jc bO cC:Value),aL w1 aW->aB w1 (aA aW) (bk l)[i] Jc->fP w1 (aA aW) ds cC->
  Calls P g #[.agg #[bO,cC],Jc] w1 (bI λv w'=>∃dL,v=.tuple #[dL,.int .i64 (wf (bk l)[i]).2]/\ay [] w1 aW w' aW/\aB w' (aA aW) (wf (bk l)[i]).1 dL)
def eN (wf:List a_->List (List av)×Int) (ps:List (List a_)):List (List av):=ps.flatMap λp=>(wf p).1
theorem Py {wf:List a_->List (List av)×Int} {ps:List (List a_)} {k:Nat} (h:k<ps.length):eN wf (ps.take (k+1))=eN wf (ps.take k)++(wf ps[k]).1:=by
 unfold eN;rw[List.take_succ_eq_append_getElem h,List.flatMap_append];simp
theorem Pz {wf:List a_->List (List av)×Int} {ps:List (List a_)} (k:Nat): (eN wf (ps.take k)).length<=(eN wf ps).length:=by
 have:eN wf ps=eN wf (ps.take k)++eN wf (ps.drop k):=by unfold eN;rw[<-List.flatMap_append,List.take_append_drop]
 rw[this,List.length_append];omega
section
variable {P:Program} {N:Nat} {env:Env} {w:World} {x:Operand} {t u:TypeId}
end
section
variable {n m k:Nat} {wt:Nat->Nat->Int} {U V:Nat->Int} {st:Nat->Int} {us:List Bool}
end
theorem Jd {P:Program} {f:FuncId} {N:Nat} {k:List Item} {env:Env} {w:World} {R:Value->World->Prop} {c:Code} {fn:Func} {t u r:Nat} {v x y:Value} (hc:c=.ret) (hf:P.funcs[f]?=some fn) (hres:fn.results=#[.tmp t,.tmp u,.tmp r]) (hv:look env t=some v) (hx:look env u=some x) (hy:look env r=some y)
  (hR:R (.tuple #[v,x,y]) w):Run P f N (.code c::k) env w R:=λa ha=>by
 subst hc;refine wT hf ha.defers ?_ hR;have h1:=ha.slot t v hv;have h2:=ha.slot u x hx;have h3:=ha.slot r y hy;simp only[results,hres];simp[h1,h2,h3,Sem.run,pure,Array.getD_eq_getD_getElem?]
section
variable {P:Program} {t ti:TypeId}
end
section
variable {n m:Int} {l:List Edge}
end
section
variable {α:Type} {ys zs us:List α} {σ dG:Nat->Nat} {c:α->α->Int} {P:α->Prop}
theorem ZK {n:Nat} (h:eU σ 0 n): ((List.range n).map σ).Perm (List.range n):=by
 have iz: ((List.range n).map σ).Nodup:=by
  rw[List.nodup_iff_pairwise_ne,List.pairwise_map];exact(List.nodup_iff_pairwise_ne.1 List.nodup_range).imp (λhne e=>hne (h.inj _ _ e))
 have hsub: (List.range n).map σ⊆List.range n:=λx hx=>by
  obtain⟨i,hi,rfl⟩:=List.mem_map.1 hx;exact List.mem_range.2 (h.jZ i (by omega) (List.mem_range.1 hi)).2
 refine(List.perm_ext_iff_of_nodup iz List.nodup_range).2 λa=>⟨λha=>hsub ha,λha=>?_⟩
 apply Classical.byContradiction;intro hn;have h1: (a::(List.range n).map σ).Nodup:=List.nodup_cons.2 ⟨hn,iz⟩;have h2:=h1.length_le_of_subset (l₂:=List.range n) (λx hx=>by
  rcases List.mem_cons.1 hx with rfl|hx
  ·exact ha
  ·exact hsub hx)
 simp at h2;omega
theorem eG.perm (h:eG c ys zs):zs.Perm ys:=by
 obtain⟨σ,h1,h2,h3⟩:=h;have e1:zs.map some=((List.range ys.length).map σ).map (λi=>ys[i]?):=by
  apply List.ext_getElem
  ·simp[h1.len]
  ·intro i hi hj;have hlt:i<ys.length:=by simpa[h1.len] using hi
   simp only[List.getElem_map,List.getElem_range];rw[<-(h1.at_ i hlt).2,List.getElem?_eq_getElem (by rw[h1.len];exact hlt)]
 have e2:ys.map some=(List.range ys.length).map (λi=>ys[i]?):=by
  apply List.ext_getElem
  ·simp
  ·intro i hi hj;simp only[List.getElem_map,List.getElem_range];rw[List.getElem?_eq_getElem (by simpa using hi)]
 have fE: (zs.map some).Perm (ys.map some):=by rw[e1,e2];exact(ZK h2).map _
 have jo:=fE.filterMap id;simpa using jo
theorem eG.le (h:eG c ys zs) {i j:Nat} (hij:i<j) (hj:j<zs.length):c (zs[i]'(by omega)) zs[j]<=0:=by
 obtain⟨σ,h1,h2,h3⟩:=h;have hl:=h1.len;rw[h1.get (show i<ys.length by omega),h1.get (show j<ys.length by omega)];obtain⟨_,_,h4⟩:=h3 i j (by omega) hij (by omega);omega
theorem eG.self (h:∀i j (hij:i<j) (hj:j<ys.length),c (ys[i]'(by omega)) ys[j]<0):eG c ys ys:=
 ⟨λi=>i,eL.id ys,eU.id _ _,λi j h1 h2 h3=>⟨Nat.lt_trans h2 h3,h3,.inl (h i j h2 h3)⟩⟩
end
section
variable {sh z:List zW} {r r2:av} {ver ZL:Int} {vals:List ByteArray} {fl:List Int} {k:Nat}
end
section
variable {pr:Int} {bL df:List Int} {lo hi:Int} {p:Nat} {fl ZM:List Int} {ok abC:Bool}
end
section
variable {pr:Int} {bL df:List Int} {lo hh:Int} {p:Nat} {abD:Int} {sh:List zW} {ds:List cI} {A B:av} {abE abF:List ByteArray} {abG ZL abH e:Int} {qN now:List zW}
end
section
variable {l:List a_} {ds:List cI} {wf:List a_->List (List av)×Int} {zs:List (List av)}
theorem ZN {α:Type} (d:α) (ps:List α):ps=(List.range ps.length).map λi=>ps.getD i d:=by
 apply List.ext_getElem
 ·simp
 ·intro i h1 h2;simp[List.getD_eq_getElem?_getD,h1]
def partOf (wf:List a_->List (List av)×Int) (l:List a_) (i:Nat):List (List av):=(wf ((bk l).getD i [])).1
theorem Je {i:Nat} (h:i<(bk l).length):partOf wf l i=(wf (bk l)[i]).1:=by unfold partOf;rw[List.getD_eq_getElem?_getD,List.getElem?_eq_getElem h];rfl
theorem PA:eN wf (bk l)=(List.range (bk l).length).flatMap (partOf wf l):=by
 unfold eN;rw[ZN [] (bk l),List.flatMap_map];simp only[List.length_map,List.length_range];congr 1
theorem Jf (hQ:∀i (h:i<(bk l).length),iY (bk l)[i] ds (wf (bk l)[i]).1): (eN wf (bk l)).flatten.Nodup:=by
 rw[PA];have PB:∀i (h:i<(bk l).length),iY (bk l)[i] ds (partOf wf l i):=λi h=>by rw[Je h];exact hQ i h
 have key:∀k,k<=(bk l).length->((List.range k).flatMap (partOf wf l)).flatten.Nodup/\∀r∈((List.range k).flatMap (partOf wf l)).flatten,∃i,∃h:i<(bk l).length,i<k/\r∈aO (bk l)[i]:=by
  intro k
  induction k with
  |zero=>intro _;simp
  |succ k ih=>
   intro hk;obtain⟨h1,h2⟩:=ih (by omega);have aF:k<(bk l).length:=by omega
   have e: ((List.range (k+1)).flatMap (partOf wf l)).flatten=((List.range k).flatMap (partOf wf l)).flatten++(partOf wf l k).flatten:=by
    rw[List.range_succ,List.flatMap_append,List.flatten_append];simp
   have hin:∀r∈(partOf wf l k).flatten,r∈aO (bk l)[k]:=λr hr=>by
    obtain⟨p,hp,hr⟩:=List.mem_flatten.1 hr;exact(PB k aF).refs hp hr
   rw[e];refine⟨List.nodup_append.2 ⟨h1,(PB k aF).EE,λa ha b hb e2=>?_⟩,λr hr=>?_⟩
   ·subst e2;obtain⟨i,hi,hik,h3⟩:=h2 a ha;have:=EM hi aF h3 (hin a hb);omega
   ·rcases List.mem_append.1 hr with h3|h3
    ·obtain⟨i,hi,hik,h4⟩:=h2 r h3;exact⟨i,hi,by omega,h4⟩
    ·exact⟨k,aF,by omega,hin r h3⟩
 exact(key _ (Nat.le_refl _)).1
theorem Jg {p:List av} (hp:p∈eN wf (bk l)):∃i,∃h:i<(bk l).length,p∈(wf (bk l)[i]).1:=by
 unfold eN at hp;obtain⟨q,hq,h2⟩:=List.mem_flatMap.1 hp;obtain⟨i,hi,rfl⟩:=List.getElem_of_mem hq;exact⟨i,hi,h2⟩
theorem AO (hQ:∀i (h:i<(bk l).length),iY (bk l)[i] ds (wf (bk l)[i]).1):∀p∈eN wf (bk l),2<=p.length:=λp hp=>by
 obtain⟨i,h,h2⟩:=Jg hp;exact(hQ i h).len p h2
theorem PD:∀{ps:List (List av)},(∀p∈ps,2<=p.length)->2*ps.length<=ps.flatten.length
 |[],_=>by simp
 |p::ps,h=>by
  have h1:=h p List.mem_cons_self;have h2:=PD (ps:=ps) (λq hq=>h q (List.mem_cons_of_mem _ hq));simp only[List.flatten_cons,List.length_append,List.length_cons];omega
theorem Jh (hQ:∀i (h:i<(bk l).length),iY (bk l)[i] ds (wf (bk l)[i]).1):2*(eN wf (bk l)).length<=(aO l).length:=by
 refine Nat.le_trans (PD (AO hQ)) ((Jf hQ).length_le_of_subset λr hr=>?_);obtain⟨p,hp,hr⟩:=List.mem_flatten.1 hr;obtain⟨i,h,h2⟩:=Jg hp;exact((ox h).1 ((hQ i h).refs h2 hr)).1
theorem Fe:∀{ps:List (List av)},ps.flatten.Nodup->ps.Pairwise λp q=>∀x∈p,x∉q
 |[],_=>List.Pairwise.nil
 |p::ps,h=>by
  rw[List.flatten_cons,List.nodup_append] at h;exact List.pairwise_cons.2 ⟨λq hq x hx hx2=>h.2.2 x hx x (List.mem_flatten.2 ⟨q,hq,hx2⟩) rfl,Fe h.2.1⟩
theorem ZO (hQ:∀i (h:i<(bk l).length),iY (bk l)[i] ds (wf (bk l)[i]).1) (h:eG eW (eN wf (bk l)) zs):zs.Pairwise λp q=>fK (p.headD ⟨0,0⟩) (q.headD ⟨0,0⟩):=by
 have hn:zs.flatten.Nodup:=(h.perm.flatten.nodup_iff).2 (Jf hQ);have hd:=Fe hn;rw[List.pairwise_iff_getElem] at hd⊢;intro i j hi hj hij;have h1:=h.le hij hj;have h2:=hd i j hi hj hij;have l1:=AO hQ _ (h.perm.mem_iff.1 (List.getElem_mem hi));have l2:=AO hQ _ (h.perm.mem_iff.1 (List.getElem_mem hj));have hm:∀{s:List av},2<=s.length->s.headD ⟨0,0⟩∈s:=λ{s} h=>by cases s with|nil=>simp at h|cons a t=>simp
 refine xw.1 ?_;unfold eW at h1;rcases Int.lt_or_eq_of_le h1 with h3|h3
 ·exact h3
 ·have h4:=(Aa (x:=zs[i].headD ⟨0,0⟩) (y:=zs[j].headD ⟨0,0⟩)).2.1.1 h3;have h5:zs[i].headD ⟨0,0⟩=zs[j].headD ⟨0,0⟩:=by
   generalize zs[i].headD ⟨0,0⟩=a at h4;generalize zs[j].headD ⟨0,0⟩=b at h4;obtain⟨a1,a2⟩:=a;obtain⟨b1,b2⟩:=b;obtain⟨e1,e2⟩:=h4;simp only at e1 e2;subst e1 e2;rfl
  exact absurd (h5▸hm l2:zs[i].headD ⟨0,0⟩∈zs[j]) (h2 _ (hm l1))
theorem Ji (hQ:∀i (h:i<(bk l).length),iY (bk l)[i] ds (wf (bk l)[i]).1) (h:eG eW (eN wf (bk l)) zs):
  iY l ds zs/\∀i (h:i<(bk l).length),fh (bk l)[i] zs=fh (bk l)[i] (wf (bk l)[i]).1:=by
 obtain⟨h1,h2⟩:=Xu (Q:=partOf wf l) (λi hi=>by rw[Je hi];exact hQ i hi) (by rw[<-PA];exact h.perm) (ZO hQ h);exact⟨h1,λi hi=>by rw[h2 i hi,Je hi]⟩
theorem Jj {α:Type} {c:α->α->Int} {ys:List α}:∀x∈B7 c ys,x∈ys:=λx hx=>by
 unfold B7 at hx;split at hx
 ·rename_i h;exact h.choose_spec.sub x hx
 ·exact hx
theorem ZP (l:List a_) (ds:List cI):iY l ds (xU l ds):=Xx l ds Jj
theorem pP (ds:List cI) (l:List a_):iY l ds (fc ds l).1:=by
 unfold fc;split
 ·exact Xr l ds
 ·exact ZP l ds
theorem Jk {i:Nat} (h:i<(bk l).length): (bk l)[i]≠[]:=λe=>by
 have hq:=List.getElem_mem (t_ h);have hr: (dO (cm l) (aO l))[i]'(t_ h)∈aO l:=(xx _ _).subset hq;have:=(ox h).2 ⟨hr,rfl⟩;rw[e] at this;obtain⟨x,hx,_⟩:=gQ.1 this;cases hx
theorem ZQ {i:Nat} (h:i<(bk l).length): (bk l)[i].length<=l.length:=by
 rw[zX];exact List.length_filter_le _ _
theorem ZR {i:Nat} (h:i<(bk l).length): (aO (bk l)[i]).length<=(aO l).length:=
 (vw _).length_le_of_subset λr hr=>((ox h).1 hr).1
end
section
variable {l l':List a_} {ds ds':List cI} {ps zs us:List (List av)}
theorem PE {l:List av} {c:av}:0<=idxOf (λx=>decide (c=x)) l↔c∈l:=by
 have h:=xN (p:=λx=>decide (c=x)) (l:=l);rw[show(l.any λx=>decide (c=x))=decide (c∈l) from by rw[Bool.eq_iff_iff,List.any_eq_true,decide_eq_true_eq];simp] at h;exact decide_eq_decide.1 h
end
section
variable {p:Nat} {l:List a_}
end
section
variable {l l':List a_} {ds:List cI} {zs us ps:List (List av)}
theorem PF {i:Nat} (h:i<(bk l).length):∀a∈aO (bk l)[i],∀b∈aO (bk l)[i],cm (bk l)[i] a=cm (bk l)[i] b:=λa ha b hb=>by
 have key:=λr=>sN (p:=λr=>if r∈aO (bk l)[i] then some (cm (bk l)[i] r) else none) (l:=l) (λx hx=>by
  by_cases hp:x∈(bk l)[i]
  ·rw[if_pos (gQ.2 ⟨x,hp,.inl rfl⟩),if_pos (gQ.2 ⟨x,hp,.inr rfl⟩),tP hp]
  ·rw[if_neg (λhm=>hp ((HX h).2 ⟨hx,((ox h).1 hm).2⟩)),if_neg (λhm=>hp ((HX h).2 ⟨hx,by rw[tP hx];exact((ox h).1 hm).2⟩))]) r
 have e:cm l a=cm l b:=((ox h).1 ha).2.trans ((ox h).1 hb).2.symm;have h1:=key a;have h2:=key b;rw[e] at h1;have h3:=h1.symm.trans h2;rw[if_pos ha,if_pos hb] at h3;exact Option.some.inj h3
theorem ZS (hne:l≠[]) (hc:∀a∈aO l,∀b∈aO l,cm l a=cm l b):bk l=[l]:=by
 obtain⟨x,hx⟩:∃x,x∈l:=List.exists_mem_of_ne_nil _ hne;have hr:x.A∈aO l:=gQ.2 ⟨x,hx,.inl rfl⟩;obtain⟨q,hq,_⟩:=GR (f:=cm l) hr;have hn:=GU (cm l) (aO l);have hs:=(xx (cm l) (aO l)).subset;have hf:dO (cm l) (aO l)=[q]:=by
  generalize dO (cm l) (aO l)=fs at*
  match fs,hq,hn,hs with
  |[a],hq,_,_=>rw[List.mem_singleton.1 hq]
  |a::b::t,_,hn,hs=>
   have:=hc a (hs (by simp)) b (hs (by simp));simp[this] at hn
 unfold bk;rw[hf,List.map_cons,List.map_nil];congr 1;refine List.filter_eq_self.2 λy hy=>decide_eq_true ?_;exact hc _ (gQ.2 ⟨y,hy,.inl rfl⟩) _ (hs (by rw[hf];simp))
theorem ZT {i:Nat} (h:i<(bk l).length):bk (bk l)[i]=[(bk l)[i]]:=ZS (Jk h) (PF h)
theorem PG (hP:iY l ds zs) {y:List av} (hy:y∈zs) {c:av} (hc:c∈y):∃k,∃hk:k<zs.length,qK zs c=(k:Int)/\zs[k]=y:=by
 obtain⟨j,hj,rfl⟩:=List.getElem_of_mem hy;refine⟨j,hj,?_,rfl⟩;unfold qK;refine xM hj (λi hi=>Bool.eq_false_iff.2 λhp=>?_) ?_
 ·obtain⟨c',BI,e⟩:=List.any_eq_true.1 hp;have e:=of_decide_eq_true e;subst e;have hd:=Fe hP.EE;exact List.pairwise_iff_getElem.1 hd i j (by omega) hj hi _ BI hc
 ·exact List.any_eq_true.2 ⟨c,hc,decide_eq_true rfl⟩
end
section
variable {l:List a_} {ds ds':List cI} {R:List av}
theorem PJ (h:∀a∈R,∀b∈R,iK ds a b=iK ds' a b) {a b:av} (ha:a∈R) (hb:b∈R):fR ds a b=fR ds' a b:=by unfold fR;rw[h a ha b hb,h b hb a ha]
theorem any_congr {α:Type} {p q:α->Bool}:∀{s:List α},(∀x∈s,p x=q x)->s.any p=s.any q
 |[],_=>rfl
 |a::t,h=>by rw[List.any_cons,List.any_cons,h a (by simp),any_congr λx hx=>h x (by simp[hx])]
theorem ZU (h:∀a∈R,∀b∈R,iK ds a b=iK ds' a b) {s:List av} {r:av} (hs:∀x∈s,x∈R) (hr:r∈R):ou ds s r=ou ds' s r:=by
 unfold ou;rw[any_congr λx hx=>PJ h (hs x hx) hr]
theorem PK {sets:List (List av)} (hs:∀s∈sets,∀x∈s,x∈R) (k:Nat):∀x∈sets.getD k [],x∈R:=λx hx=>by
 have hk:=Hz hx;rw[qL hk] at hx;exact hs _ (List.getElem_mem hk) x hx
theorem Jl (h:∀a∈R,∀b∈R,iK ds a b=iK ds' a b):∀(rs:List av) (sets:List (List av)),(∀r∈rs,r∈R)->(∀s∈sets,∀x∈s,x∈R)->mG ds rs sets=mG ds' rs sets
 |[],_,_,_=>rfl
 |r::rs,sets,hr,hs=>by
  have Jm:=hr r (by simp);have dQ:∀x∈rs,x∈R:=λx hx=>hr x (by simp[hx]);rw[mG,mG,Jl h rs (sets++[[r]]) dQ (λs hm x hx=>by
   rcases List.mem_append.1 hm with hm|hm
   ·exact hs s hm x hx
   ·rw[List.mem_singleton] at hm;subst hm;rw[List.mem_singleton] at hx;subst hx;exact Jm)]
  congr 2;funext k;rw[ZU h (PK hs k) Jm];split
  ·refine Jl h rs _ dQ λs hm x hx=>?_;rcases List.mem_or_eq_of_mem_set hm with hm|hm
   ·exact hs s hm x hx
   ·subst hm;rcases List.mem_append.1 hx with hx|hx
    ·exact PK hs k x hx
    ·rw[List.mem_singleton] at hx;subst hx;exact Jm
  ·rfl
theorem ZV (h:∀a∈aO l,∀b∈aO l,iK ds a b=iK ds' a b):ov l ds=ov l ds':=by
 unfold ov qi;rw[Jl h _ _ (λr hr=>hr) (by simp)]
theorem ZW (h:∀a∈R,∀b∈R,iK ds a b=iK ds' a b) {g:av->List av} (hg:∀r∈R,∀x∈g r,x∈R) {b:a_} (hA:b.A∈R) (hB:b.B∈R):
  nN ds g b=nN ds' g b/\∀r∈R,∀x∈nN ds g b r,x∈R:=by
 have e:sY ds (g b.A) (g b.B)=sY ds' (g b.A) (g b.B):=by
  unfold sY;exact any_congr λx hx=>any_congr λy hy=>PJ h (hg _ hA x hx) (hg _ hB y hy)
 refine⟨by unfold nN;rw[e],λr hr x hx=>?_⟩;unfold nN at hx;split at hx
 ·exact hg r hr x hx
 ·simp only at hx;split at hx
  ·rcases List.mem_append.1 hx with hx|hx
   ·exact hg _ hA x hx
   ·exact hg _ hB x hx
  ·exact hg r hr x hx
theorem PN (h:∀a∈R,∀b∈R,iK ds a b=iK ds' a b):∀(ord:List a_) (g:av->List av),(∀r∈R,∀x∈g r,x∈R)->(∀b∈ord,b.A∈R/\b.B∈R)->ord.foldl (nN ds) g=ord.foldl (nN ds') g
 |[],_,_,_=>rfl
 |b::ord,g,hg,hb=>by
  obtain⟨e,hg2⟩:=ZW h hg (hb b (by simp)).1 (hb b (by simp)).2;rw[List.foldl_cons,List.foldl_cons,<-e];exact PN h ord _ hg2 λc hc=>hb c (by simp[hc])
theorem ZX (h:∀a∈aO l,∀b∈aO l,iK ds a b=iK ds' a b):xU l ds=xU l ds':=by
 unfold xU eo;rw[PN h _ _ (λr hr x hx=>by rw[List.mem_singleton] at hx;subst hx;exact hr) λb hb=>⟨gQ.2 ⟨b,Jj b hb,.inl rfl⟩,gQ.2 ⟨b,Jj b hb,.inr rfl⟩⟩]
theorem ZY (h:∀a∈aO l,∀b∈aO l,iK ds a b=iK ds' a b):fc ds l=fc ds' l:=by unfold fc;rw[ZV h,ZX h]
end
def mM (s:List av) (l:List a_):List a_:=l.filter λx=>decide (x.A∈s\/x.B∈s)
def Ff (d1 d2:List cI) (s:List av):Prop:=∀a∈s,∀b∈s,iK d1 a b=iK d2 a b
instance (d1 d2:List cI) (s:List av):Decidable (Ff d1 d2 s):=by unfold Ff;exact inferInstance
def nW (old:List a_) (d1 d2:List cI) (s:List av) (bs:List a_):Bool:=decide (mM s old=bs/\Ff d1 d2 s)
section
variable {old ck:List a_} {d1 d2:List cI} {zs us ys out:List (List av)}
theorem Fg {s:List av} {l:List a_} {x:a_}:x∈mM s l↔x∈l/\(x.A∈s\/x.B∈s):=by unfold mM;rw[List.mem_filter,decide_eq_true_eq]
theorem PO {i:Nat} (h:i<(bk ck).length) (hk:mM (aO (bk ck)[i]) old=(bk ck)[i]):∃j,∃hj:j<(bk old).length,(bk old)[j]=(bk ck)[i]:=by
 obtain⟨P,hP⟩:∃P,P=(bk ck)[i]:=⟨_,rfl⟩
 have hne:P≠[]:=by rw[hP];exact Jk h
 have hc:∀a∈aO P,∀b∈aO P,cm P a=cm P b:=by rw[hP];exact PF h
 rw[<-hP] at hk⊢;obtain⟨x,hx⟩:∃x,x∈P:=List.exists_mem_of_ne_nil _ hne;have yD:∀y∈P,y∈old:=λy hy=>by rw[<-hk] at hy;exact(Fg.1 hy).1
 have PR:x.A∈aO P:=gQ.2 ⟨x,hx,.inl rfl⟩;obtain⟨j,hj,ZZ⟩:=Xs (gQ.2 ⟨x,yD x hx,.inl rfl⟩:x.A∈aO old);refine⟨j,hj,?_⟩;have hq:=((ox hj).1 ZZ).2;have hinv:=λr=>sN (p:=λr=>decide (r∈aO P)) (l:=old) (λy hy=>by
  refine decide_eq_decide.2 ⟨λhm=>?_,λhm=>?_⟩
  ·have:y∈P:=by rw[<-hk];exact Fg.2 ⟨hy,.inl hm⟩
   exact gQ.2 ⟨y,this,.inr rfl⟩
  ·have:y∈P:=by rw[<-hk];exact Fg.2 ⟨hy,.inr hm⟩
   exact gQ.2 ⟨y,this,.inl rfl⟩) r
 rw[<-hk];rw[zX];unfold mM;refine List.filter_congr λy hy=>?_;rw[<-hq];refine decide_eq_decide.2 ⟨λe=> .inl ?_,λe=>?_⟩
 ·have h1:=hinv y.A;have h2:=hinv x.A;rw[e] at h1;have h3:=h1.symm.trans h2;rw[decide_eq_true PR] at h3;exact of_decide_eq_true h3
 ·have hy2:y∈P:=by rw[<-hk];exact Fg.2 ⟨hy,e⟩
  exact Ek yD (hc _ (gQ.2 ⟨y,hy2,.inl rfl⟩) _ PR)
theorem Jn {α:Type} {r:α->α->Prop} (hr:∀x y,r x y->r y x->False):∀{a b:List α},a.Perm b->a.Pairwise r->b.Pairwise r->a=b
 |[],b,hp,_,_=>hp.nil_eq
 |x::a,b,hp,ha,hb=>by
  cases b with
  |nil=>exact absurd hp.length_eq (by simp)
  |cons y b=>
   have hxy:x=y:=by
    rcases List.mem_cons.1 (hp.mem_iff.1 (List.mem_cons_self:x∈x::a)) with e|hx
    ·exact e
    ·rcases List.mem_cons.1 (hp.mem_iff.2 (List.mem_cons_self:y∈y::b)) with e|hy
     ·exact e.symm
     ·exact(hr x y ((List.pairwise_cons.1 ha).1 y hy) ((List.pairwise_cons.1 hb).1 x hx)).elim
   subst hxy;rw[Jn hr (List.Perm.cons_inv hp) (List.pairwise_cons.1 ha).2 (List.pairwise_cons.1 hb).2]
theorem PS {A:List (List av)} (hl:∀p∈A,2<=p.length) (hd:A.flatten.Nodup) (h:eG eW A zs):zs.Pairwise λp q=>fK (p.headD ⟨0,0⟩) (q.headD ⟨0,0⟩):=by
 have hn:zs.flatten.Nodup:=(h.perm.flatten.nodup_iff).2 hd;have hd:=Fe hn;rw[List.pairwise_iff_getElem] at hd⊢;intro i j hi hj hij;have h1:=h.le hij hj;have h2:=hd i j hi hj hij;have l1:=hl _ (h.perm.mem_iff.1 (List.getElem_mem hi));have l2:=hl _ (h.perm.mem_iff.1 (List.getElem_mem hj));have hm:∀{s:List av},2<=s.length->s.headD ⟨0,0⟩∈s:=λ{s} h=>by cases s with|nil=>simp at h|cons a t=>simp
 refine xw.1 ?_;unfold eW at h1;rcases Int.lt_or_eq_of_le h1 with h3|h3
 ·exact h3
 ·have h5:=GJ.1 h3;exact absurd (h5▸hm l2:zs[i].headD ⟨0,0⟩∈zs[j]) (h2 _ (hm l1))
theorem Z0 {A B:List (List av)} (hp:A.Perm B) (hl:∀p∈B,2<=p.length) (hd:B.flatten.Nodup) (h1:eG eW A us) (h2:eG eW B ys):us=ys:=by
 have hA:∀p∈A,2<=p.length:=λp hm=>hl p (hp.mem_iff.1 hm);have Z1:A.flatten.Nodup:=(hp.flatten.nodup_iff).2 hd;refine Jn (r:=λp q=>fK (p.headD ⟨0,0⟩) (q.headD ⟨0,0⟩)) (λx y a b=>xu _ (BP a b)) (h1.perm.trans (hp.trans h2.perm.symm)) (PS hA Z1 h1) (PS hl hd h2)
theorem Z2 {α β:Type} {f:α->List β} {L:List α} {j:Nat} (hj:j<L.length) (h:∀i (hi:i<L.length),i≠j->f L[i]=[]):L.flatMap f=f L[j]:=by
 have e:L=L.take j++L[j]::L.drop (j+1):=by rw[<-List.drop_eq_getElem_cons hj,List.take_append_drop]
 have h1: (L.take j).flatMap f=[]:=List.flatMap_eq_nil_iff.2 λx hx=>by
  obtain⟨i,hi,rfl⟩:=List.getElem_of_mem hx;rw[List.length_take] at hi;rw[List.getElem_take];exact h i (by omega) (by omega)
 have h2: (L.drop (j+1)).flatMap f=[]:=List.flatMap_eq_nil_iff.2 λx hx=>by
  obtain⟨i,hi,rfl⟩:=List.getElem_of_mem hx;rw[List.length_drop] at hi;rw[List.getElem_drop];exact h _ (by omega) (by omega)
 conv=>lhs;rw[e]
 rw[List.flatMap_append,List.flatMap_cons,h1,h2];simp
theorem Jo {s:List av} (h:2<=s.length):s.headD ⟨0,0⟩∈s:=by cases s with|nil=>simp at h|cons a t=>simp
theorem Z3 (hS:eG eW (eN (fc d1) (bk old)) zs) {i:Nat} (h:i<(bk ck).length) (hk:nW old d1 d2 (aO (bk ck)[i]) (bk ck)[i]=true):
  (zs.filter λp=>decide (p.headD ⟨0,0⟩∈aO (bk ck)[i])).Perm (fc d2 (bk ck)[i]).1:=by
 obtain⟨nM,hk2⟩:=of_decide_eq_true hk;obtain⟨j,hj,e⟩:=PO h nM;rw[<-ZY hk2,<-e];refine(hS.perm.filter _).trans (List.Perm.of_eq ?_);unfold eN;rw[List.filter_flatMap,Z2 hj]
 ·refine List.filter_eq_self.2 λp hp=>decide_eq_true ?_;have hP:=pP d1 (bk old)[j];exact hP.refs hp (Jo (hP.len p hp))
 ·intro k aF hne;refine List.filter_eq_nil_iff.2 λp hp hm=>hne ?_;have hP:=pP d1 (bk old)[k];exact EM aF hj (hP.refs hp (Jo (hP.len p hp))) (of_decide_eq_true hm)
theorem Z4 {i:Nat} (h:i<(bk ck).length) (hS:eG eW (eN (fc d2) (bk (bk ck)[i])) us):us.Perm (fc d2 (bk ck)[i]).1:=by
 have:=hS.perm;rw[ZT h] at this;simpa[eN] using this
def qq (old:List a_) (d1 d2:List cI) (ck:List a_) (k:Nat):List (List av):=(((bk ck).take k).filter λp=>!nW old d1 d2 (aO p) p).map aO
theorem Z5 {k:Nat} (h:k<(bk ck).length):qq old d1 d2 ck (k+1)=if nW old d1 d2 (aO (bk ck)[k]) (bk ck)[k]=true then qq old d1 d2 ck k else qq old d1 d2 ck k++[aO (bk ck)[k]]:=by
 unfold qq;rw[List.take_succ_eq_append_getElem h,List.filter_append,List.map_append];by_cases e:nW old d1 d2 (aO (bk ck)[k]) (bk ck)[k]=true
 ·rw[if_pos e,List.filter_cons_of_neg (by simp[e])];simp
 ·rw[if_neg e,List.filter_cons_of_pos (by simpa using e)];simp
theorem PT (k:Nat): (qq old d1 d2 ck k).length<=(bk ck).length:=by
 unfold qq;rw[List.length_map];exact Nat.le_trans (List.length_filter_le _ _) (by rw[List.length_take];omega)
theorem Z6 (hp:out.Perm (eN (fc d2) (bk ck))) (h1:eG eW out us) (h2:eG eW (eN (fc d2) (bk ck)) ys):us=ys:=
 Z0 hp (AO λi hi=>pP d2 _) (Jf λi hi=>pP d2 _) h1 h2
end
section
variable {m:Int} {l sl:List a_}
end
section
variable {old ck:List a_}
end
abbrev CC:=av×av
def mc (x:CC):List Value:=[.int .i64 x.1.a,.int .i64 x.1.b,.int .i64 x.2.a,.int .i64 x.2.b]
theorem Fh {h:Array Obj} {M:Nat->Prop} {x:CC} {vs:List Value}:rep h M x vs↔vs=mc x:=by
 constructor
 ·rintro⟨us,ws,rfl,h1,h2⟩;have h1:=k5.1 h1;have h2:=k5.1 h2;subst h1 h2;rfl
 ·intro e;exact⟨bE x.1,bE x.2,e,k5.2 rfl,k5.2 rfl⟩
theorem yG {w:World} {M:Nat->Prop} {x:CC} {v:Value}:aB w M x v↔v=.agg (mc x).toArray:=by
 constructor
 ·rintro⟨vs,h,e⟩;rw[Fh.1 h] at e;exact e
 ·intro e;exact⟨_,Fh.2 rfl,e⟩
def tq (x y:CC):Int:=iI [iW x.1 y.1,iW x.2 y.2]
def oG (x y:CC):Prop:=fK x.1 y.1\/x.1=y.1/\fK x.2 y.2
theorem Z7 {x y:CC}:tq x y<0↔oG x y:=by
 have:=GK (x:=⟨x.1,x.2,0⟩) (y:=⟨y.1,y.2,0⟩);unfold vi oZ at this;unfold tq oG;simp only at this;constructor
 ·intro h;exact Classical.not_not.1 λhn=>absurd (this.2 hn) (by omega)
 ·intro h;exact Int.not_le.1 λhn=>this.1 hn h
theorem AP (x:CC):¬oG x x:=by unfold oG;rintro(h|⟨_,h⟩)<;>exact xu _ h
theorem CX {x y z:CC} (h1:oG x y) (h2:oG y z):oG x z:=by
 unfold oG at*;rcases h1 with a|⟨a1,a2⟩
 ·rcases h2 with b|⟨b1,_⟩
  ·exact .inl (BP a b)
  ·exact .inl (by rw[<-b1];exact a)
 ·rcases h2 with b|⟨b1,b2⟩
  ·exact .inl (by rw[a1];exact b)
  ·exact .inr ⟨a1.trans b1,BP a2 b2⟩
theorem Fi (x y:CC):oG x y\/x=y\/oG y x:=by
 obtain⟨a,b⟩:=x;obtain⟨c,d⟩:=y;unfold oG;simp only[Prod.mk.injEq];rcases Ej a c with h|h|h
 ·exact .inl (.inl h)
 ·rcases Ej b d with g|g|g
  ·exact .inl (.inr ⟨h,g⟩)
  ·exact .inr (.inl ⟨h,g⟩)
  ·exact .inr (.inr (.inr ⟨h.symm,g⟩))
 ·exact .inr (.inr (.inl h))
def oH (x y:CC):Bool:=!decide (tq y x<0)
theorem tu {x y:CC}:oH x y=true↔¬oG y x:=by unfold oH;rw[<-Z7];simp
theorem PU (x y:CC) (h:oH x y=true) (h':oH y x=true):x=y:=by
 rcases Fi x y with g|g|g
 ·exact absurd g (tu.1 h')
 ·exact g
 ·exact absurd g (tu.1 h)
theorem PW (x y z:CC) (h:oH x y=true) (h':oH y z=true):oH x z=true:=tu.2 λg=>by
 rcases Fi x y with a|a|a
 ·exact tu.1 h' (CX g a)
 ·subst a;exact tu.1 h' g
 ·exact tu.1 h a
theorem Z8 (x y:CC): (oH x y||oH y x)=true:=by
 rw[Bool.or_eq_true,tu,tu];rcases Fi x y with a|a|a
 ·exact .inl λh=>AP _ (CX a h)
 ·subst a;exact .inl (AP _)
 ·exact .inr λh=>AP _ (CX a h)
def sortCC (l:List CC):List CC:=l.mergeSort oH
theorem Z9 (l:List CC): (sortCC l).Pairwise (λx y=>oH x y=true):=List.pairwise_mergeSort PW Z8 l
theorem PX (l:List CC): (sortCC l).Perm l:=List.mergeSort_perm l oH
theorem PY (l:List CC): (sortCC l).length=l.length:=(PX l).length_eq
def wq (s:List av) (d:cI):Bool:=!d.same&&decide (d.A∈s)&&decide (d.B∈s)
def rq (s:List av) (ds:List cI):List CC:=(ds.filter (wq s)).map λd=>(d.A,d.B)
def ru (s:List av) (ds:List cI):List CC:=gI (sortCC (rq s ds))
section
variable {s:List av} {ds d1 d2:List cI}
theorem Z_ {k:Nat} (h:k<ds.length):rq s (ds.take (k+1))=if wq s ds[k]=true then rq s (ds.take k)++[(ds[k].A,ds[k].B)] else rq s (ds.take k):=by
 unfold rq;rw[List.take_succ_eq_append_getElem h,List.filter_append,List.map_append];by_cases e:wq s ds[k]=true
 ·rw[if_pos e,List.filter_cons_of_pos e];simp
 ·rw[if_neg e,List.filter_cons_of_neg e];simp
theorem PZ (k:Nat): (rq s (ds.take k)).length<=ds.length:=by
 unfold rq;rw[List.length_map];exact Nat.le_trans (List.length_filter_le _ _) (by rw[List.length_take];omega)
theorem yy: (ru s ds).length<=ds.length:=by
 unfold ru;have h1:=(BN (sortCC (rq s ds))).length_le;rw[PY] at h1;have:=PZ (s:=s) (ds:=ds) ds.length;rw[List.take_length] at this;omega
theorem Fj {p:CC}:p∈ru s ds↔p.1∈s/\p.2∈s/\iK ds p.1 p.2=true:=by
 unfold ru;rw[Eg,(PX _).mem_iff];unfold rq iK wq;rw[List.mem_map,List.any_eq_true];constructor
 ·rintro⟨d,hd,rfl⟩;obtain⟨hm,hc⟩:=List.mem_filter.1 hd;simp only[Bool.and_eq_true,Bool.not_eq_true',decide_eq_true_eq] at hc;exact⟨hc.1.2,hc.2,d,hm,by simp[hc.1.1]⟩
 ·rintro⟨h1,h2,d,hm,hc⟩;simp only[Bool.and_eq_true,Bool.not_eq_true',decide_eq_true_eq] at hc;obtain⟨hs,hA,hB⟩:=hc;refine⟨d,List.mem_filter.2 ⟨hm,?_⟩,?_⟩
  ·simp only[Bool.and_eq_true,Bool.not_eq_true',decide_eq_true_eq];exact⟨⟨hs,hA▸h1⟩,hB▸h2⟩
  ·obtain⟨a,b⟩:=p;simp only at hA hB;rw[hA,hB]
theorem Fk: (ru s ds).Pairwise oG:=by
 unfold ru;have h1:=Z9 (rq s ds);have h2:=GH (le:=λx y=>oH x y=true) PU h1;have h3:=h1.sublist (BN _);refine(h3.and h2).imp λ{x y} ⟨h4,h5⟩=>?_;rcases Fi x y with h|h|h
 ·exact h
 ·exact absurd h h5
 ·exact absurd h (tu.1 h4)
theorem P0:ru s d1=ru s d2↔Ff d1 d2 s:=by
 constructor
 ·intro h a ha b hb;have h1:=Fj (s:=s) (ds:=d1) (p:=(a,b));have h2:=Fj (s:=s) (ds:=d2) (p:=(a,b));rw[h] at h1;have h3:=h1.symm.trans h2;rw[Bool.eq_iff_iff];exact⟨λg=>(h3.1 ⟨ha,hb,g⟩).2.2,λg=>(h3.2 ⟨ha,hb,g⟩).2.2⟩
 ·intro h;have nd:∀{l:List CC},l.Pairwise oG->l.Nodup:=λh=>h.imp λ{x y} hxy e=>by subst e;exact AP _ hxy
  refine Jn (λx y a b=>AP _ (CX a b)) ((List.perm_ext_iff_of_nodup (nd Fk) (nd Fk)).2 λp=>?_) Fk Fk;rw[Fj,Fj];constructor
  ·rintro⟨h1,h2,h3⟩;exact⟨h1,h2,by rw[<-h _ h1 _ h2];exact h3⟩
  ·rintro⟨h1,h2,h3⟩;exact⟨h1,h2,by rw[h _ h1 _ h2];exact h3⟩
theorem yM {l:List a_} {k:Nat} (h:k<l.length):mM s (l.take (k+1))=if l[k].A∈s\/l[k].B∈s then mM s (l.take k)++[l[k]] else mM s (l.take k):=by
 unfold mM;rw[List.take_succ_eq_append_getElem h,List.filter_append];by_cases e:l[k].A∈s\/l[k].B∈s
 ·rw[if_pos e];simp[List.filter_cons,e]
 ·rw[if_neg e];simp[List.filter_cons,e]
theorem sr {l:List a_} (k:Nat): (mM s (l.take k)).length<=l.length:=by
 unfold mM;exact Nat.le_trans (List.length_filter_le _ _) (by rw[List.length_take];omega)
end
section
variable {pr:Int} {bL df:List Int} {lo hi hi':Int} {p:Nat} {fl ZM:List Int} {ok:Bool}
end
section
variable {bL df:List Int} {p n k st:Nat} {s t hi:Int} {gs l m:List av}
end
section
variable {pr:Int} {bL df:List Int} {lo hi:Int} {p n:Nat} {fl:List Int} {ok:Bool} {s:Int}
end
section
variable {pr:Int} {bL df:List Int} {lo hi:Int} {p n:Nat} {fl:List Int} {s:Int}
end
section
variable {α:Type} {c:α->α->Int}
theorem eG.kq {ys:List α} {L:List (Fin ys.length)} (xS:L.Perm (List.finRange ys.length)) (AQ:L.Pairwise λi j=>dY c ys i.val j.val):eG c ys (L.map λi=>ys[i.val]):=by
 have hlen:L.length=ys.length:=by rw[xS.length_eq,List.length_finRange]
 have iz:L.Nodup:=xS.nodup_iff.2 (List.nodup_finRange _);refine⟨λi=>if h:i<L.length then L[i].val else i,⟨by rw[List.length_map,hlen],λi hi=>?_⟩,⟨λi hi=>?_,λi h1 h2=>?_,λi j e=>?_⟩,λi j h1 h2 h3=>?_⟩
 ·have hi2:i<L.length:=by omega
  rw[dif_pos hi2];refine⟨L[i].isLt,?_⟩;rw[List.getElem?_map,List.getElem?_eq_getElem hi2,List.getElem?_eq_getElem L[i].isLt];rfl
 ·rw[dif_neg (by omega)]
 ·rw[dif_pos (show i<L.length by omega)];exact⟨Nat.zero_le _,L[i].isLt⟩
 ·by_cases hi:i<L.length
  ·by_cases hj:j<L.length
   ·simp only[dif_pos hi,dif_pos hj] at e;rcases Nat.lt_trichotomy i j with h|h|h
    ·exact absurd (Fin.ext e) (List.pairwise_iff_getElem.1 (List.nodup_iff_pairwise_ne.1 iz) i j hi hj h)
    ·exact h
    ·exact absurd (Fin.ext e.symm) (List.pairwise_iff_getElem.1 (List.nodup_iff_pairwise_ne.1 iz) j i hj hi h)
   ·simp only[dif_pos hi,dif_neg hj] at e;have:=L[i].isLt;omega
  ·by_cases hj:j<L.length
   ·simp only[dif_neg hi,dif_pos hj] at e;have:=L[j].isLt;omega
   ·simp only[dif_neg hi,dif_neg hj] at e;exact e
 ·simp only[dif_pos (show i<L.length by omega),dif_pos (show j<L.length by omega)];exact List.pairwise_iff_getElem.1 AQ i j (by omega) (by omega) h2
theorem eG.ex (hc:kN c (λ_=>True)) (ys:List α):∃zs,eG c ys zs:=by
 classical
 have hP:∀x∈ys,(λ_:α=>True) x:=λ_ _=>trivial;obtain⟨L,hL⟩:∃L,L=(List.finRange ys.length).mergeSort (λi j=>decide (¬dY c ys j.val i.val)):=⟨_,rfl⟩
 have xS:L.Perm (List.finRange ys.length):=by rw[hL];exact List.mergeSort_perm _ _
 have iz:L.Nodup:=xS.nodup_iff.2 (List.nodup_finRange _);have AQ:L.Pairwise λi j=>dY c ys i.val j.val:=by
  have h1:L.Pairwise λi j=>(decide (¬dY c ys j.val i.val))=true:=by
   rw[hL];refine List.pairwise_mergeSort (λi j k h1 h2=>?_) (λi j=>?_) _
   ·simp only[decide_eq_true_eq] at*;intro h3;by_cases e1:i=j
    ·subst e1;exact h2 h3
    ·have h4:=(G6 hc hP i.isLt j.isLt (λe=>e1 (Fin.ext e))).resolve_right h1;exact h2 (G5 hc hP h3 h4)
   ·simp only[Bool.or_eq_true,decide_eq_true_eq];by_cases h:dY c ys j.val i.val
    ·exact .inr (λh'=>Ml hc hP h h')
    ·exact .inl h
  refine(h1.and (List.nodup_iff_pairwise_ne.1 iz)).imp λ{i j} ⟨h2,h3⟩=>?_;simp only[decide_eq_true_eq] at h2;exact(G6 hc hP i.isLt j.isLt (λe=>h3 (Fin.ext e))).resolve_right h2
 exact⟨_,eG.kq xS AQ⟩
end
section
variable {bL df:List Int} {p n:Nat} {gs:List av}
end
section
variable {P:Program} {t:TypeId} {N:Nat} {env:Env} {x y:Operand} {u:TypeId} {w:World}
theorem Jp {ga ti:TypeId} {n0 n1 m0 m1 nF nG Cl Co nH nI Cp Cr:String} {e0 e1 f0 f1:Bool} {y0 y1 x0 x1:Nat} (h:P.underlying t=some (.struct #[⟨m0,ga,0,f0,Cl,Cp,x0⟩,⟨m1,ga,2,f1,Co,Cr,x1⟩])) (g0:m0≠"_") (g1:m1≠"_") (hS:P.stoodInHeld t=false)
  (hr:P.underlying ga=some (.struct #[⟨n0,ti,0,e0,nF,nH,y0⟩,⟨n1,ti,1,e1,nG,nI,y1⟩])) (h0:n0≠"_") (h1:n1≠"_") (HY:P.stoodInHeld ga=false)
  (hi:P.underlying ti=some (.int .i64)) (ha:iF P ga=some true) (hs:gR P ga=some 2):tM P t qk:=λd a b w=>by
 have hf:P.fieldsOf t=#[⟨m0,ga,0,f0,Cl,Cp,x0⟩,⟨m1,ga,2,f1,Co,Cr,x1⟩]:=by simp[Program.fieldsOf,h]
 have iu:∀(c:av×av) w,(part ga #[.int .i64 c.1.a,.int .i64 c.1.b,.int .i64 c.2.a,.int .i64 c.2.b] 0).run P w=.ok (cW c.1) w:=λc w=>by
  unfold part;simp only[Sem.run_bind,qx ha,Result.andThen_ok,if_true,kF hs,Sem.run_pure];rfl
 have p1:∀(c:av×av) w,(part ga #[.int .i64 c.1.a,.int .i64 c.1.b,.int .i64 c.2.a,.int .i64 c.2.b] 2).run P w=.ok (cW c.2) w:=λc w=>by
  unfold part;simp only[Sem.run_bind,qx ha,Result.andThen_ok,if_true,kF hs,Sem.run_pure];rfl
 have he:=λ(x y:av)=>N1 hr h0 h1 HY hi (d+5) x y w;rw[show d+8=(d+7)+1 from rfl,run_equalIn_struct w (d+7) t _ _ (by rw[hf];exact h) hS,hf];have hd: (decide (a=b))=(decide (a.1=b.1)&&decide (a.2=b.2)):=by
  cases a;cases b;simp only[Prod.mk.injEq,Bool.decide_and]
 simp only[Op.eqFields,Sem.run_bind,Sem.run_ite,g0,g1,ne_eq,not_false_eq_true,if_true,iu,p1,Result.andThen_ok,he,hd,show d+7=d+5+2 from rfl];cases decide (a.1=b.1)<;>cases decide (a.2=b.2)<;>simp[he,show d+7=d+5+2 from rfl,iu,p1]
theorem P3 (hK:tM P t qk) (a b:CC): (Op.equalIn 10000 t (.agg (mc a).toArray) (.agg (mc b).toArray)).run P w=.ok (decide (a=b)) w:=hK 9992 a b w
theorem P4 (hK:tM P t qk) (hg:P.eqGuardType P.depth t=false) {a b:CC} (hx:ev env x=some (.agg (mc a).toArray)) (hy:ev env y=some (.agg (mc b).toArray)):
  cL P N env (.binOp .neq t x y u) w (.bool (decide (a≠b))):=mk' λρ hρ o ho=>by
 unfold execOp;rw[ho];simp only[hρ _ _ hx,hρ _ _ hy,Sem.run_bind,run_eqGuard_agg _ _ _ _ _ _ _ hg,Result.andThen_ok,run_neq_struct,P3 hK,Sem.run_pure];simp
theorem yV (hK:tM P t qk) (hg:P.eqGuardType P.depth t=false) {a b:CC} (hx:ev env x=some (.agg (mc a).toArray)) (hy:ev env y=some (.agg (mc b).toArray)):
  cL P N env (.binOp .eql t x y u) w (.bool (decide (a=b))):=mk' λρ hρ o ho=>by
 unfold execOp;rw[ho];simp only[hρ _ _ hx,hρ _ _ hy,Sem.run_bind,run_eqGuard_agg _ _ _ _ _ _ _ hg,Result.andThen_ok,run_eql_struct,P3 hK,Sem.run_pure]
end
theorem Mc {h:Array Obj} {M:Nat->Prop}:rep h M (⟨⟨0,0⟩,⟨0,0⟩⟩:CC) [.int .i64 0,.int .i64 0,.int .i64 0,.int .i64 0]:=Fh.2 rfl
theorem P5 {α:Type} [DecidableEq α] {l m:List α} (hl:l.length=m.length) (h:∀i (h1:i<l.length) (h2:i<m.length),l[i]=m[i]):l=m:=List.ext_getElem hl h
section
variable {old ck:List a_} {d1 d2:List cI} {zs:List (List av)}
def oJ (old:List a_) (d1 d2:List cI) (ck:List a_) (k:Nat):List Bool:=((bk ck).take k).map λp=>nW old d1 d2 (aO p) p
theorem RV {k:Nat} (h:k<(bk ck).length):oJ old d1 d2 ck (k+1)=oJ old d1 d2 ck k++[nW old d1 d2 (aO (bk ck)[k]) (bk ck)[k]]:=by
 unfold oJ;rw[List.take_succ_eq_append_getElem h,List.map_append];rfl
theorem yA (k:Nat): (oJ old d1 d2 ck k).length<=(bk ck).length:=by unfold oJ;rw[List.length_map,List.length_take];omega
theorem vl: (oJ old d1 d2 ck (bk ck).length).length=(bk ck).length:=by unfold oJ;rw[List.length_map,List.length_take];omega
theorem cr {k:Nat} (h:k<(bk ck).length) (h':k<(oJ old d1 d2 ck (bk ck).length).length): (oJ old d1 d2 ck (bk ck).length)[k]=nW old d1 d2 (aO (bk ck)[k]) (bk ck)[k]:=by
 unfold oJ;simp
theorem kg {s:List av} {bs:List a_} (h:mM s old=bs):decide (ru s d1=ru s d2)=nW old d1 d2 s bs:=by
 unfold nW;exact decide_eq_decide.2 ⟨λe=>⟨h,P0.1 e⟩,λe=>P0.2 e.2⟩
theorem pX {s:List av} {bs:List a_} (h:¬mM s old=bs):false=nW old d1 d2 s bs:=by
 unfold nW;exact(decide_eq_false λe=>h e.1).symm
def uG (zs:List (List av)) (s:List av):List (List av):=zs.filter λp=>decide (p.headD ⟨0,0⟩∈s)
theorem zN {s:List av} {k:Nat} (h:k<zs.length):uG (zs.take (k+1)) s=if zs[k].headD ⟨0,0⟩∈s then uG (zs.take k) s++[zs[k]] else uG (zs.take k) s:=by
 unfold uG;rw[List.take_succ_eq_append_getElem h,List.filter_append];by_cases e:zs[k].headD ⟨0,0⟩∈s
 ·rw[if_pos e,List.filter_cons,if_pos (decide_eq_true e),List.filter_nil]
 ·rw[if_neg e,List.filter_cons,if_neg (by rw[decide_eq_true_eq];exact e),List.filter_nil,List.append_nil]
theorem C' {s:List av} (k:Nat): (uG (zs.take k) s).length<=zs.length:=by
 unfold uG;exact Nat.le_trans (List.length_filter_le _ _) (by rw[List.length_take];omega)
theorem P6 {p:List av} (h:0<p.length):p.headD ⟨0,0⟩=p[0]:=by cases p with|nil=>simp at h|cons a t=>rfl
theorem P7 {wf:List a_->List (List av)×Int} {out us:List (List av)} {k:Nat} (h:k<(bk ck).length) (hp:out.Perm (eN wf ((bk ck).take k))) (hu:us.Perm (wf (bk ck)[k]).1): (out++us).Perm (eN wf ((bk ck).take (k+1))):=by
 rw[Py h];exact hp.append hu
end
section
variable {l:List a_} {ds:List cI} {out us zs:List (List av)}
theorem C1 {p:List av} (hp:p∈eN (fc ds) (bk l)):p.length<=(aO l).length:=by
 obtain⟨i,h,h2⟩:=Jg hp;have hP:=pP ds (bk l)[i];exact(hP.nodup h2).length_le_of_subset λr hr=>((ox h).1 (hP.refs h2 hr)).1
theorem P8 (h:eG eW (eN (fc ds) (bk l)) zs):2*zs.length<=(aO l).length:=by rw[h.len];exact Jh λi hi=>pP ds _
theorem yF (hp:out.Perm (eN (fc ds) (bk l))) (h:eG eW out us):eG eW (eN (fc ds) (bk l)) us:=by
 obtain⟨ys,hy⟩:=eG.ex r_ (eN (fc ds) (bk l));rw[Z6 hp h hy];exact hy
end
section
variable {l:List a_} {g c:av} {zs us:List (List av)}
theorem sy {i:Nat} (h:i<(bk l).length) (hg:g∉aO (bk l)[i]):mM (aO (bk l)[i]) (l.filter (tV g))=(bk l)[i]:=by
 have hm:=λr=>ox h (r:=r);unfold mM;rw[List.filter_filter]
 conv=>rhs;rw[zX h]
 refine List.filter_congr λx hx=>?_;have hA:x.A∈aO l:=gQ.2 ⟨x,hx,.inl rfl⟩;have hB:x.B∈aO l:=gQ.2 ⟨x,hx,.inr rfl⟩;have hab:=tP hx;rw[Bool.eq_iff_iff,Bool.and_eq_true,decide_eq_true_eq,decide_eq_true_eq];unfold tV;rw[Bool.and_eq_true,decide_eq_true_eq,decide_eq_true_eq];constructor
 ·rintro⟨h1|h1,_⟩
  ·exact((hm _).1 h1).2
  ·rw[hab];exact((hm _).1 h1).2
 ·intro e;have h1:=(hm x.A).2 ⟨hA,e⟩;have h2:=(hm x.B).2 ⟨hB,hab.symm.trans e⟩;exact⟨.inl h1,λe=>hg (e▸h1),λe=>hg (e▸h2)⟩
theorem P9 (hS:eG eW (eN (fc []) (bk l)) zs) (Jq:eG eW (eN (fc []) (bk (l.filter (tV g)))) us) {p:List av} (hp:p∈zs)
  (hno:∀i (hi:i<(bk l).length),p.headD ⟨0,0⟩∈aO (bk l)[i]->g∉aO (bk l)[i]):p∈us:=by
 have h1:=(hS.perm.mem_iff).1 hp;unfold eN at h1;obtain⟨P,hP,Fl⟩:=List.mem_flatMap.1 h1;obtain⟨i,hi,rfl⟩:=List.getElem_of_mem hP;have hv:=pP [] (bk l)[i];have hh:=hv.refs Fl (Jo (hv.len p Fl));obtain⟨j,hj,e⟩:=PO hi (sy hi (hno i hi hh));rw[<-e] at Fl;refine(Jq.perm.mem_iff).2 ?_;unfold eN;exact List.mem_flatMap.2 ⟨_,List.getElem_mem hj,Fl⟩
theorem P_ (h:¬(0<=qK (dx l) g/\c∈(dx l).getD (qK (dx l) g).toNat [])):∀i (hi:i<(bk l).length),c∈aO (bk l)[i]->g∉aO (bk l)[i]:=λi hi hc hg=>by
 have h1:g∈(dx l).getD i []:=xy.2 ⟨t_ hi,(ox hi).1 hg⟩;have h2:c∈(dx l).getD i []:=xy.2 ⟨t_ hi,(ox hi).1 hc⟩;have h3:=HB h1;refine h ⟨by rw[h3];exact Int.natCast_nonneg _,?_⟩;rw[h3,Int.toNat_natCast];exact h2
theorem aT:g∉aO (l.filter (tV g)):=λh=>by
 obtain⟨b,hb,e⟩:=gQ.1 h;have h2:=(List.mem_filter.1 hb).2;unfold tV at h2;rw[Bool.and_eq_true,decide_eq_true_eq,decide_eq_true_eq] at h2;rcases e with e|e
 ·exact h2.1 e.symm
 ·exact h2.2 e.symm
theorem bx (hP:iY (l.filter (tV g)) [] us):¬0<=qK us g:=λh=>by
 unfold qK at h;have h1:=xN (p:=λp:List av=>p.any λx=>decide (g=x)) (l:=us);rw[decide_eq_true h] at h1;obtain⟨p,hp,hx⟩:=List.any_eq_true.1 h1.symm;obtain⟨x,hx,e⟩:=List.any_eq_true.1 hx;rw[decide_eq_true_eq] at e;subst e;exact aT (hP.refs hp hx)
end
theorem Jr {n:Nat} (h:n<=3): (([800,500,300]:List Int).take n).length=n:=by rw[List.length_take];simp only[List.length_cons,List.length_nil];omega
theorem Qa {n:Nat}:∀x∈([800,500,300]:List Int).take n,0<=x/\x<=1000:=λx hx=>by
 have h1:∀x∈([800,500,300]:List Int),0<=x/\x<=1000:=by simp
 exact h1 x (List.mem_of_mem_take hx)
section
variable {sh:List (List eV)} {l:List eV} {n k r i:Nat}
theorem rU.ag (h:rU n k l) (i:Nat):rU n k (l.take i++l.drop (i+1)):=by
 have hs: (l.take i++l.drop (i+1)).Sublist l:=by
  rw[<-List.eraseIdx_eq_take_drop_succ];exact List.eraseIdx_sublist l i
 exact⟨Nat.le_trans hs.length_le h.len,λx hx=>h.all x (hs.subset hx),h.jq.sublist hs⟩
theorem vb (h:l.Pairwise λx y=>x.rc.id<y.rc.id) (hi:i<l.length):l.take i++l.drop (i+1)=qO ⟨(r:Int),l[i].rc.id⟩ r l:=by
 have e:l=l.take i++l[i]::l.drop (i+1):=by rw[<-List.drop_eq_getElem_cons hi,List.take_append_drop]
 have hp: (l.take i++l[i]::l.drop (i+1)).Pairwise λx y=>x.rc.id<y.rc.id:=by rw[<-e];exact h
 rw[List.pairwise_append,List.pairwise_cons] at hp;obtain⟨_,⟨h2,_⟩,h3⟩:=hp;unfold qO
 conv=>rhs;rw[show l.filter (λy=>decide ((⟨(r:Int),y.rc.id⟩:av)≠⟨(r:Int),l[i].rc.id⟩))=(l.take i++l[i]::l.drop (i+1)).filter (λy=>decide ((⟨(r:Int),y.rc.id⟩:av)≠⟨(r:Int),l[i].rc.id⟩)) from by rw[<-e]]
 rw[List.filter_append,List.filter_cons_of_neg (by simp)];congr 1
 ·refine(List.filter_eq_self.2 λy hy=>?_).symm;rw[decide_eq_true_eq];intro q;have:=h3 y hy l[i] List.mem_cons_self;simp only[av.mk.injEq] at q;omega
 ·refine(List.filter_eq_self.2 λy hy=>?_).symm;rw[decide_eq_true_eq];intro q;have:=h2 y hy;simp only[av.mk.injEq] at q;omega
theorem cG (h:kP n k sh) (hr:r<sh.length) (hi:i<sh[r].length) (s:Nat):jJ (sh.set r (sh[r].take i++sh[r].drop (i+1))) s=qO ⟨(r:Int),(sh[r])[i].rc.id⟩ s (jJ sh s):=by
 unfold jJ;rw[List.getD_eq_getElem?_getD,List.getElem?_set];by_cases e:r=s
 ·subst e;rw[if_pos rfl,if_pos hr,Option.getD_some,List.getD_eq_getElem?_getD,List.getElem?_eq_getElem hr,Option.getD_some];exact vb (h.all _ (List.getElem_mem hr)).jq hi
 ·rw[if_neg e,<-List.getD_eq_getElem?_getD];unfold qO;refine(List.filter_eq_self.2 λy hy=>?_).symm;rw[decide_eq_true_eq];intro q;refine e ?_;simp only[av.mk.injEq] at q;omega
theorem kP.va (h:kP n k sh) {l:List eV} (hl:rU n k l):kP n k (sh.set r l):=
 ⟨by rw[List.length_set];exact h.len,λx hx=>by
  rcases List.mem_or_eq_of_mem_set hx with hx|rfl
  ·exact h.all x hx
  ·exact hl⟩
end
end Go.K
set_option maxRecDepth 100000
namespace Go.K
open bu
def Js:a_:=⟨⟨0,1⟩,⟨1,1⟩,3⟩
def AU:a_:=⟨⟨0,2⟩,⟨1,2⟩,4⟩
def mg:List a_:=[Js,AU]
def lu:List a_:=[Js]
def wu:List (List av):=[[⟨0,1⟩,⟨1,1⟩],[⟨0,2⟩,⟨1,2⟩]]
def AV:List (List av):=[[⟨0,1⟩,⟨1,1⟩]]
theorem nw {s:List av} (h: (s.Pairwise λa b=>iW a b<0)):s.Pairwise fK:=h.imp λh=>xw.1 h
theorem Jt {l:List a_} {s:List av} (h1:s.Pairwise λa b=>iW a b<0) (h2:∀x∈l,x.A∈s/\x.B∈s) (h3:∀r∈s,∃x∈l,r=x.A\/r=x.B):aO l=s:=
 GO (vj l) (nw h1) λr=>by
  rw[gQ];exact⟨λ⟨x,hx,e⟩=>e.elim (λe=>e▸(h2 x hx).1) (λe=>e▸(h2 x hx).2),h3 r⟩
theorem AW:aO mg=[⟨0,1⟩,⟨0,2⟩,⟨1,1⟩,⟨1,2⟩]:=Jt (by decide+kernel) (by decide+kernel) (by decide+kernel)
theorem uH:aO lu=[⟨0,1⟩,⟨1,1⟩]:=Jt (by decide+kernel) (by decide+kernel) (by decide+kernel)
theorem Ju:aO [AU]=[⟨0,2⟩,⟨1,2⟩]:=Jt (by decide+kernel) (by decide+kernel) (by decide+kernel)
theorem Qb:bk mg=[lu,[AU]]:=by unfold bk;rw[AW];decide+kernel
theorem Qc:bk lu=[lu]:=by unfold bk;rw[uH];decide+kernel
theorem yI:ov lu []=[[⟨0,1⟩,⟨1,1⟩]]:=by unfold ov;rw[uH];decide+kernel
theorem aU:ov [AU] []=[[⟨0,2⟩,⟨1,2⟩]]:=by unfold ov;rw[Ju];decide+kernel
theorem Qd:fc [] lu=([[⟨0,1⟩,⟨1,1⟩]],0):=by unfold fc;rw[uH,if_pos (by decide),yI]
theorem zA:fc [] [AU]=([[⟨0,2⟩,⟨1,2⟩]],0):=by unfold fc;rw[Ju,if_pos (by decide),aU]
theorem Qe:eN (fc []) (bk mg)=wu:=by
 rw[Qb];unfold eN;simp only[List.flatMap_cons,List.flatMap_nil,List.append_nil,Qd,zA];rfl
theorem Qf:eN (fc []) (bk lu)=AV:=by
 rw[Qc];unfold eN;simp only[List.flatMap_cons,List.flatMap_nil,List.append_nil,Qd];rfl
theorem Qg:eG eW wu wu:=eG.self λi j hij hj=>by
 have hj:j<2:=hj;obtain⟨rfl,rfl⟩:i=0/\j=1:=by omega
 exact(show eW [⟨0,1⟩,⟨1,1⟩] [⟨0,2⟩,⟨1,2⟩]<0 by decide+kernel)
theorem Qh:eG eW AV AV:=eG.self λi j hij hj=>by
 have hj:j<1:=hj;omega
theorem Jv {zs:List (List av)} (h:eG eW (eN (fc []) (bk mg)) zs):zs=wu:=by rw[Qe] at h;exact h.uniq r_ (λ_ _=>trivial) Qg
theorem Qi {zs:List (List av)} (h:eG eW (eN (fc []) (bk lu)) zs):zs=AV:=by rw[Qf] at h;exact h.uniq r_ (λ_ _=>trivial) Qh
theorem Qj:eG eW (eN (fc []) (bk mg)) wu:=by rw[Qe];exact Qg
theorem Qk:eG eW (eN (fc []) (bk lu)) AV:=by rw[Qf];exact Qh
theorem Jw:fh mg wu=7:=by decide+kernel
theorem Ql:fh lu AV=3:=by decide+kernel
theorem AX:mB mg:=by
 refine⟨by decide,λx hx=>?_,?_⟩
 ·simp only[mg,List.mem_cons,List.not_mem_nil,or_false] at hx;rcases hx with rfl|rfl<;>exact⟨by decide,by decide,by decide⟩
 ·unfold mg Js AU oZ fK;decide
theorem Fm:mB lu:=AX.sub (by unfold mg lu;exact List.Sublist.cons_cons _ (List.nil_sublist _))
theorem Qm: (((qq mg [] [] lu (bk lu).length).length:Nat):Int)=0:=by
 unfold qq;rw[Qc];simp only[List.length_cons,List.length_nil,List.take_succ_cons,List.take_zero];rw[List.filter_cons,if_neg (by unfold nW;rw[uH];decide+kernel)];rfl
theorem Qn: (((qq lu [] [] mg (bk mg).length).length:Nat):Int)=1:=by
 unfold qq;rw[Qb];simp only[List.length_cons,List.length_nil,List.take_succ_cons,List.take_zero];rw[List.filter_cons,if_neg (by unfold nW;rw[uH];decide+kernel),List.filter_cons,if_pos (by unfold nW;rw[Ju];decide+kernel)];rfl
end Go.K
namespace Go.K
open bu
def qt (x y:av):Bool:=decide (x.a<y.a)||(decide (x.a=y.a)&&decide (x.b<y.b))
theorem Jx {x y:av}:qt x y=true↔x.a<y.a\/(x.a=y.a/\x.b<y.b):=by unfold qt;simp
def jB:List av->av->List av
 |[],c=>[c]
 |x::l,c=>if qt x c=true then x::jB l c else if x=c then x::l else c::x::l
theorem Qo {c:av}:∀{l:List av} {k:Nat},k<=l.length->(∀i (hi:i<k) (h:i<l.length),qt l[i] c=true)->(∀h:k<l.length,qt l[k] c=false)->
  jB l c=if h:k<l.length then(if l[k]=c then l else l.take k++c::l.drop k) else l++[c]
 |[],k,hk,_,_=>by simp at hk;subst hk;simp[jB]
 |x::l,0,_,_,h2=>by
  have:=h2 (by simp);simp only[List.getElem_cons_zero] at this;simp only[jB,this,Bool.false_eq_true,if_false];simp
 |x::l,k+1,hk,h1,h2=>by
  have h0:=h1 0 (by omega) (by simp);simp only[List.getElem_cons_zero] at h0;have ih:=Qo (c:=c) (l:=l) (k:=k) (by simpa using hk) (λi hi h=>by have:=h1 (i+1) (by omega) (by simpa using h);simpa using this) (λh=>by have:=h2 (by simpa using h);simpa using this);simp only[jB,h0,if_true,ih,List.length_cons,Nat.add_lt_add_iff_right,List.getElem_cons_succ,List.take_succ_cons,List.drop_succ_cons];split
  ·split<;>simp
  ·simp
theorem Jy {c x:av}:∀{l:List av},x∈jB l c↔x=c\/x∈l
 |[]=>by simp[jB]
 |y::l=>by
  have ih:=Jy (c:=c) (x:=x) (l:=l);unfold jB;split
  ·simp only[List.mem_cons,ih];constructor
   ·rintro(h|h|h)<;>simp[h]
   ·rintro(h|h|h)<;>simp[h]
  ·split
   ·rename_i e;subst e;simp
   ·simp
theorem Qp {c:av}:∀{l:List av},l.Pairwise (λx y=>qt x y=true)->(jB l c).Pairwise (λx y=>qt x y=true)
 |[],_=>by simp[jB]
 |y::l,h=>by
  obtain⟨h1,h2⟩:=List.pairwise_cons.1 h;unfold jB;split
  ·rename_i hy;refine List.pairwise_cons.2 ⟨λz hz=>?_,Qp h2⟩;rcases Jy.1 hz with e|hz
   ·rw[e];exact hy
   ·exact h1 z hz
  ·split
   ·exact h
   ·rename_i hn he;have Qq:qt c y=true:=by
     rw[Jx] at hn⊢;by_cases ea:y.a=c.a
     ·by_cases eb:y.b=c.b
      ·exact absurd (by cases y;cases c;simp only at ea eb;rw[ea,eb]) he
      ·omega
     ·omega
    refine List.pairwise_cons.2 ⟨λz hz=>?_,h⟩;rcases List.mem_cons.1 hz with e|hz
    ·rw[e];exact Qq
    ·have:=h1 z hz;rw[Jx] at this Qq⊢;omega
def sg (l:List av):List av:=l.foldl jB []
theorem Qr (l:List av) (c:av):sg (l++[c])=jB (sg l) c:=by unfold sg;rw[List.foldl_append];rfl
theorem Qs:∀(l:List av) (a:List av),a.Pairwise (λx y=>qt x y=true)->(l.foldl jB a).Pairwise (λx y=>qt x y=true)/\∀x,x∈l.foldl jB a↔x∈a\/x∈l
 |[],a,h=>⟨h,λx=>by simp⟩
 |c::l,a,h=>by
  obtain⟨h1,h2⟩:=Qs l (jB a c) (Qp h);refine⟨h1,λx=>?_⟩;rw[List.foldl_cons,h2,Jy,List.mem_cons];constructor
  ·rintro((h|h)|h)<;>simp[h]
  ·rintro(h|h|h)<;>simp[h]
theorem CY (c:av):∀a:List av,(jB a c).length<=a.length+1
 |[]=>by simp[jB]
 |y::a=>by
  have:=CY c a;unfold jB;split
  ·simp only[List.length_cons];omega
  ·split<;>simp
theorem vm (l:List av): (sg l).length<=l.length:=by
 have:∀(l a:List av),(l.foldl jB a).length<=a.length+l.length:=by
  intro l;induction l with
  |nil=>intro a;simp
  |cons c l ih=>
   intro a;have h1:=ih (jB a c);have h2:=CY c a;rw[List.foldl_cons,List.length_cons];omega
 have:=this l [];simpa[sg] using this
end Go.K
namespace Go.K
theorem Qt {x y:av}:qt x y=decide (fK x y):=by rw[Bool.eq_iff_iff,decide_eq_true_iff,Jx];rfl
theorem nO {l:List a_} {r:av}:r∈kM l↔r∈aO l:=by
 rw[gQ];unfold kM;simp only[List.mem_flatMap,List.mem_cons,List.not_mem_nil,or_false]
theorem vv (l:List a_):sg (kM l)=aO l:=by
 obtain⟨h1,h2⟩:=Qs (kM l) [] List.Pairwise.nil;refine GO (h1.imp λ{x y} h=>by rw[Qt] at h;exact of_decide_eq_true h) (vj l) λr=>?_;have:=h2 r;unfold sg;rw[this];simp[nO]
theorem yL {l:List a_} {i:Nat} (h:i<l.length):sg (kM (l.take (i+1)))=jB (jB (sg (kM (l.take i))) l[i].A) l[i].B:=by
 rw[L3 h,show[l[i].A,l[i].B]=[l[i].A]++[l[i].B] from rfl,<-List.append_assoc,Qr,Qr]
structure si (l:List a_) (low:List Nat):Prop where
 len:low.length=(aO l).length
 le:∀i (h:i<low.length),low[i]<=i
 same:∀i (h:i<low.length) (h1:i<(aO l).length) (h2:low[i]<(aO l).length),cm l (aO l)[low[i]]=cm l (aO l)[i]
theorem si.start (l:List a_):si l (List.range (aO l).length):=⟨List.length_range,λi h=>by simp,λi h h1 h2=>by simp⟩
theorem si.put {l:List a_} {low:List Nat} (h:si l low) {a b:Nat} {y:a_} (hy:y∈l) (ha:a<(aO l).length) (hb:b<(aO l).length) (ea: (aO l)[a]=y.A) (eb: (aO l)[b]=y.B) (iU:a<low.length) (hb':b<low.length) (hne:low[a]≠low[b]):
  si l ((low.set a (min low[a] low[b])).set b (min low[a] low[b]))/\((low.set a (min low[a] low[b])).set b (min low[a] low[b])).sum<low.sum:=by
 have hl:=h.len;have la:=h.le a iU;have lb:=h.le b hb';have hs:cm l (aO l)[a]=cm l (aO l)[b]:=by rw[ea,eb];exact tP hy
 have sa:=h.same a iU ha (by omega);have sb:=h.same b hb' hb (by omega);have hab:a≠b:=λe=>by subst e;exact hne rfl
 refine⟨⟨by simp only[List.length_set];exact hl,λi hi=>?_,λi hi h1 h2=>?_⟩,?_⟩
 ·simp only[List.length_set] at hi;simp only[List.getElem_set];split
  ·subst i;exact Nat.le_trans (Nat.min_le_right _ _) lb
  ·split
   ·subst i;exact Nat.le_trans (Nat.min_le_left _ _) la
   ·exact h.le i hi
 ·simp only[List.length_set] at hi;have hm:∀(h3:min low[a] low[b]<(aO l).length),cm l (aO l)[min low[a] low[b]]=cm l (aO l)[a]:=λh3=>by
   rcases Nat.le_total low[a] low[b] with e|e
   ·simp only[Nat.min_eq_left e];exact sa
   ·simp only[Nat.min_eq_right e];rw[sb,hs]
  have key:∀(n:Nat) (h3:n<(aO l).length),n=(if b=i then min low[a] low[b] else if a=i then min low[a] low[b] else low[i])->cm l (aO l)[n]=cm l (aO l)[i]:=λn h3 e=>by
   split at e
   ·rename_i e2;subst e2;subst e;rw[hm h3,hs]
   ·split at e
    ·rename_i e2;subst e2;subst e;exact hm h3
    ·subst e;exact h.same i hi h1 h3
  exact key _ h2 (by simp only[List.getElem_set])
 ·have Qu:∀(l:List Nat) (i v:Nat) (hi:i<l.length),(l.set i v).sum+l[i]=l.sum+v:=by
   intro l
   induction l with
   |nil=>intro i v hi;simp at hi
   |cons x l ih=>
    intro i v hi;cases i with
    |zero=>simp;omega
    |succ i=>simp only[List.set_cons_succ,List.sum_cons,List.getElem_cons_succ];have:=ih i v (by simpa using hi);omega
  have e1:=Qu low a (min low[a] low[b]) iU;have e2:=Qu (low.set a (min low[a] low[b])) b (min low[a] low[b]) (by simpa using hb');rw[List.getElem_set,if_neg hab] at e2;have:=Nat.min_le_left low[a] low[b];have:=Nat.min_le_right low[a] low[b];rcases Nat.lt_or_gt_of_ne hne with e|e
  ·rw[Nat.min_eq_left (Nat.le_of_lt e)] at*;omega
  ·rw[Nat.min_eq_right (Nat.le_of_lt e)] at*;omega
def Fix (l ys:List a_) (low:List Nat):Prop:=∀y∈ys,∀a b (ha:a<(aO l).length) (hb:b<(aO l).length),(aO l)[a]=y.A->(aO l)[b]=y.B->low.getD a 0=low.getD b 0
theorem Qv {l:List a_} {r:av} (h:r∈aO l):∃a,∃ha:a<(aO l).length,(aO l)[a]=r:=by
 obtain⟨a,ha,e⟩:=List.mem_iff_getElem.1 h;exact⟨a,ha,e⟩
theorem Jz {α:Type} {l:List α} (h:l.Nodup) {i j:Nat} (hi:i<l.length) (hj:j<l.length) (e:l[i]=l[j]):i=j:=by
 rcases Nat.lt_trichotomy i j with h1|h1|h1
 ·exact absurd e (List.pairwise_iff_getElem.1 h i j hi hj h1)
 ·exact h1
 ·exact absurd e.symm (List.pairwise_iff_getElem.1 h j i hj hi h1)
open Classical in
theorem Fix.all {l:List a_} {low:List Nat} (h:Fix l l low) {i k:Nat} (hi:i<(aO l).length) (hk:k<(aO l).length) (e:cm l (aO l)[i]=cm l (aO l)[k]):low.getD i 0=low.getD k 0:=by
 let p:av->Nat:=λr=>if h:∃a,∃ha:a<(aO l).length,(aO l)[a]=r then low.getD (Classical.choose h) 0 else 0
 have hp:∀a (ha:a<(aO l).length),p (aO l)[a]=low.getD a 0:=λa ha=>by
  have hx:∃a',∃iU:a'<(aO l).length,(aO l)[a']=(aO l)[a]:=⟨a,ha,rfl⟩
  show(if h:_ then _ else 0)=_;rw[dif_pos hx];obtain⟨h1,h2⟩:=Classical.choose_spec hx;rw[Jz (vw l) h1 ha h2]
 have hb:∀x∈l,p x.A=p x.B:=λx hx=>by
  obtain⟨a,ha,ea⟩:=Qv (l:=l) (r:=x.A) (gQ.2 ⟨x,hx,.inl rfl⟩);obtain⟨b,hb,eb⟩:=Qv (l:=l) (r:=x.B) (gQ.2 ⟨x,hx,.inr rfl⟩);rw[<-ea,<-eb,hp a ha,hp b hb];exact h x hx a b ha hb ea eb
 rw[<-hp i hi,<-hp k hk,<-sN hb (aO l)[i],e,sN hb]
theorem Qw {l:List a_} {low:List Nat} (hw:si l low) (hx:Fix l l low) {i:Nat} (hi:i<(aO l).length) (hil:i<low.length):low[i]=i↔∀q∈(aO l).take i,cm l q≠cm l (aO l)[i]:=by
 have gO:∀k (hk:k<low.length),low.getD k 0=low[k]:=λk hk=>by rw[List.getD_eq_getElem?_getD,List.getElem?_eq_getElem hk];rfl
 have hl:=hw.len;constructor
 ·intro e q hq hr;obtain⟨k,hk,rfl⟩:=List.mem_iff_getElem.1 hq;rw[List.length_take] at hk;rw[List.getElem_take] at hr;have h1:=hx.all (by omega) hi hr;rw[gO k (by omega),gO i hil,e] at h1;have:=hw.le k (by omega);omega
 ·intro h;have h1:=hw.le i hil;have h2:=hw.same i hil hi (by omega);rcases Nat.lt_or_eq_of_le h1 with h3|h3
  ·exact absurd h2 (h _ (by rw[List.mem_iff_getElem];exact⟨low[i],by rw[List.length_take];omega,by rw[List.getElem_take]⟩))
  ·exact h3
theorem Qx {l:List a_} {low:List Nat} (hw:si l low) (hx:Fix l l low) {i k:Nat} (hi:i<(aO l).length) (hk:k<(aO l).length) (hil:i<low.length) (aF:k<low.length) (e:low[i]=i):low[k]=i↔cm l (aO l)[k]=cm l (aO l)[i]:=by
 have gO:∀k (hk:k<low.length),low.getD k 0=low[k]:=λk hk=>by rw[List.getD_eq_getElem?_getD,List.getElem?_eq_getElem hk];rfl
 constructor
 ·intro h;have:=hw.same k aF hk (by omega);simp only[h] at this;exact this.symm
 ·intro h;have:=hx.all hk hi h;rw[gO k aF,gO i hil,e] at this;exact this
def ry (l:List a_) (i:Nat):List (List av):=(dO (cm l) ((aO l).take i)).map λq=>(aO l).filter λr=>decide (cm l r=cm l q)
theorem iR (l:List a_):ry l (aO l).length=dx l:=by unfold ry;rw[List.take_length];rfl
theorem jb (l:List a_):ry l 0=[]:=by unfold ry;simp[dO]
theorem Ob (l:List a_) (i:Nat): (ry l i).length<=(aO l).length:=by
 unfold ry;rw[List.length_map];exact Nat.le_trans (xx _ _).length_le (by rw[List.length_take];omega)
theorem κ {l:List a_} {low:List Nat} (hw:si l low) (hx:Fix l l low) {i:Nat} (hi:i<(aO l).length) (hil:i<low.length):
  ry l (i+1)=if low[i]=i then ry l i++[(aO l).filter λr=>decide (cm l r=cm l (aO l)[i])] else ry l i:=by
 unfold ry;rw[List.take_succ_eq_append_getElem hi,zD];by_cases h:low[i]=i
 ·rw[if_pos h,if_neg]
  ·simp
  ·intro ha;obtain⟨q,hq,e⟩:=El.1 ha;exact(Qw hw hx hi hil).1 h q hq e
 ·rw[if_neg h,if_pos];apply Classical.byContradiction;intro hn;exact h ((Qw hw hx hi hil).2 λq hq e=>hn (El.2 ⟨q,hq,e⟩))
theorem pW {α:Type} (p:α->Bool) {l:List α} {k:Nat} (h:k<l.length): (l.take (k+1)).filter p=if p l[k]=true then(l.take k).filter p++[l[k]] else(l.take k).filter p:=by
 rw[List.take_succ_eq_append_getElem h,List.filter_append];by_cases e:p l[k]=true<;>simp[e]
end Go.K
namespace Go.K
open bu
section
variable {r:av} {l sl:List a_} {k:Nat}
end
section
variable {old ck:List a_} {r:av} {bo nn X:List av}
theorem τ (ck:List a_) (r:av):∃nf,nf=qK (dx ck) r/\nf<(dx ck).length/\(r∈aO ck->0<=nf/\r∈(dx ck).getD nf.toNat []):=by
 by_cases h:r∈aO ck
 ·obtain⟨o,ho⟩:=Mf h;have hl:=Hz ho;refine⟨_,rfl,by rw[HB ho];omega,λ_=>?_⟩;rw[HB ho];exact⟨by omega,by simpa using ho⟩
 ·refine⟨_,rfl,?_,λe=>absurd e h⟩;unfold qK idxOf;split
  ·rename_i hp;have:=List.findIdx_lt_length.2 (List.any_eq_true.1 hp);omega
  ·omega
end
def sj:Nat->Nat:=λ_=>0
theorem RA (w:World):aL w sj:=λb h=>absurd rfl h
theorem ay.below {w w':World} (h:ay [] w sj w' sj):Go.RowKit.Below w.heap.size w w':=h.ext.below (Nat.le_refl _) (λb hb=>by simp at hb)
def yH {H:Type} (enc:TypeId×Value->H) (P:Program) (w:World) (base:Nat) (spare:Nat->Bool) (held:Bool) (α:Type) [bu α] (t:TypeId):Prop:=
 P.cellsOf t=sz α/\∀(fuel:Nat) (cs:List Value) (x:DataW H×List MemPlace),DataW.trod enc P w base spare held fuel t cs=some x->∃a:α,rep w.heap (aA sj) a cs
section
variable {H:Type} {enc:TypeId×Value->H} {P:Program} {w:World} {base:Nat} {spare:Nat->Bool} {held:Bool} {α β γ:Type} [bu α] [bu β] [bu γ] {t e:TypeId}
theorem oR (ht:P.underlying t=some (.int .i64)) (hc:P.cellsOf t=1):yH enc P w base spare held Int t:=⟨hc,λfuel cs x h=>by
 obtain⟨n,rfl,_⟩:=DataW.trod_int ht h;exact⟨n,rfl⟩⟩
theorem vp (ht:P.underlying t=some (.slice e)) (hc:P.cellsOf t=1) (hsz:0<sz α) (he:yH enc P w base spare held α e):yH enc P w base spare held (List α) t:=⟨hc,λfuel cs x h=>by
 rcases Go.Deep.open_slice ht h with⟨rfl,_⟩|⟨a,len,cap,m,n,D,Pl,rfl,hb,hl,hm,iZ,hx,hcell⟩
 ·exact⟨[],none,0,rfl,Nat.le_refl _,by simp,.inl rfl⟩
 ·have Ct:len<=m:=by rw[iZ];split<;>omega
  have key:∀k,k<=len->∃xs:List α,xs.length=k/\∀i (hi:i<xs.length),∃cs',w.cells? base (a.add (i*sz α)) (sz α)=some cs'/\rep w.heap (aA sj) xs[i] cs':=by
   intro k
   induction k with
   |zero=>exact λ_=>⟨[],rfl,λi hi=>by simp at hi⟩
   |succ k ih=>
    intro hk;obtain⟨xs,CZ,hxs⟩:=ih (by omega);obtain⟨cs',h1,h2⟩:=hcell k (by omega);obtain⟨y,hy⟩:=he.2 _ _ _ h2;rw[he.1] at h1;refine⟨xs++[y],by simp[CZ],λi hi=>?_⟩;by_cases hik:i<xs.length
    ·rw[List.getElem_append_left hik];exact hxs i hik
    ·have Gw:i=k:=by simp at hi;omega
     subst Gw;rw[List.getElem_append_right (by omega)];exact⟨cs',h1,by simpa[CZ] using hy⟩
  obtain⟨xs,CZ,hxs⟩:=key len (Nat.le_refl _);refine⟨xs,some a,cap,by rw[CZ],by omega,by unfold maxLen at hm;omega,?_⟩;by_cases h0:len=0
  ·left;exact List.length_eq_zero_iff.1 (by omega)
  ·right;have hall:∀i (hi:i<xs.length),∃cs',cs'.length=sz α/\(∀j (hj:j<cs'.length),w.cell? (a.add (i*sz α+j))=some cs'[j])/\rep w.heap (aA sj) xs[i] cs':=λi hi=>by
    obtain⟨cs',h1,h2⟩:=hxs i hi;obtain⟨_,h3,h4⟩:=World.cells?_some h1;refine⟨cs',h3,λj hj=>?_,h2⟩;have h5:=h4 j (by omega);rw[Addr.add_add] at h5;rw[h5];exact List.getElem?_eq_getElem hj
   obtain⟨c0,abI,hc0,_⟩:=hall 0 (by omega);have wz:=hc0 0 (by omega);obtain⟨b,off,spot⟩:=a;have cT:spot=none:=by simpa[Addr.add] using World.cell?_spot wz
   subst cT;refine⟨b,off,rfl,?_⟩;simp only[oP] at hall wz;unfold World.cell? at wz;simp only at wz;cases hbk:w.heap[b]? with
   |none=>rw[hbk] at wz;cases wz
   |some gj=>
    cases gj with
    |cells c ty eP=>
     have mA:∀i (hi:i<xs.length),∃cs',cs'.length=sz α/\(∀j (hj:j<cs'.length),c[off+(i*sz α+j)]?=some cs'[j])/\rep w.heap (aA sj) xs[i] cs':=λi hi=>by
      obtain⟨cs',h1,h2,h3⟩:=hall i hi;refine⟨cs',h1,λj hj=>?_,h3⟩;have h4:=h2 j hj;unfold World.cell? at h4;simp only[hbk] at h4;simpa using h4
     refine⟨λh=>h rfl,c,ty,eP,hbk,?_,λi hi=>?_⟩
     ·obtain⟨cs',h1,h2,_⟩:=mA (len-1) (by omega);have h3:=(Array.getElem?_eq_some_iff.1 (h2 (sz α-1) (by omega))).1;have h4:len*sz α=(len-1)*sz α+sz α:=by
       have:len=(len-1)+1:=by omega
       rw[this,Nat.succ_mul];simp
      rw[CZ,h4];omega
     ·obtain⟨cs',h1,h2,h3⟩:=mA i hi;have:dB c (off+i*sz α) (sz α)=cs':=by
       apply List.ext_getElem?;intro r;simp only[dB,List.getElem?_take,List.getElem?_drop,Array.getElem?_toList];by_cases hr:r<sz α
       ·rw[if_pos hr,List.getElem?_eq_getElem (by omega),Nat.add_assoc];exact h2 r (by omega)
       ·rw[if_neg hr,List.getElem?_eq_none (by omega)]
      rw[this];exact h3
    |_=>rw[hbk] at wz;cases wz⟩
theorem yH.rv (h:yH enc P w base spare held α t) (hx:bu.agg α=false) {fuel:Nat} {v:Value} {x:DataW H×List MemPlace} (ht:DataW.trod enc P w base spare held fuel t [v]=some x):∃a:α,aB w (aA sj) a v:=by
 obtain⟨a,ha⟩:=h.2 _ _ _ ht;exact⟨a,zk ha hx⟩
end
end Go.K
