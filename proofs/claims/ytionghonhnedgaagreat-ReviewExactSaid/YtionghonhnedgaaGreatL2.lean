/- The order of decisions, and their search. Plain. -/
import Derived.Test.YtionghonhnedgaaGreatL1
import Derived.Shelf.SlSortCmp.NoneTotal
import Derived.Lib.Overlaps
import Derived.Lib.AppendZerosOnto
import Derived.Laws.CopyRow
import Derived.Laws.Small
import Derived.WalkKit
import Derived.ProofKit
import Derived.OpenShut
import Derived.ChangeSlices
import Derived.Below
import Derived.Carry
import Derived.Deep.Slices
import Derived.WideShapes
import Derived.ChangeArms
import Derived.SizedLaws
set_option linter.unusedVariables false
set_option linter.unusedSimpArgs false
set_option linter.unusedSectionVars false
namespace Go.K
open bF
def rj (x y:bP):Prop:=x.A.a<y.A.a\/(x.A.a=y.A.a/\(x.A.b<y.A.b\/(x.A.b=y.A.b/\(x.B.a<y.B.a\/(x.B.a=y.B.a/\(x.B.b<y.B.b\/(x.B.b=y.B.b/\(x.aI<y.aI\/(x.aI=y.aI/\x.ek<y.ek)))))))))
def C_ (x y:dh):Prop:=x.a<y.a\/(x.a=y.a/\x.b<y.b)
def FO (x y:dh):Prop:=x.a=y.a/\x.b=y.b
theorem Kl {x y:dh}: (nH x y<0↔C_ x y)/\(nH x y=0↔FO x y)/\(0<nH x y↔C_ y x):=by
 unfold nH C_ FO;rw[uh];have a1:= @sK x.a y.a;have a2:= @tD x.a y.a;have a3:= @ud x.a y.a;have b1:= @sK x.b y.b;have b2:= @tD x.b y.b;have b3:= @ud x.b y.b;by_cases h1:gn x.a y.a=0
 ·rw[if_neg (by omega)];refine⟨?_,?_,?_⟩<;>omega
 ·rw[if_pos h1];refine⟨?_,?_,?_⟩<;>omega
set_option maxHeartbeats 4000000 in
theorem tI {x y:bP}: (fZ x y<0↔rj x y)/\(0<fZ x y↔rj y x):=by
 unfold fZ tq;obtain⟨a1,a2,a3⟩:= @Kl x.A y.A;obtain⟨b1,b2,b3⟩:= @Kl x.B y.B;have c1:= @sK x.aI y.aI;have c2:= @tD x.aI y.aI;have c3:= @ud x.aI y.aI;have d1:= @sK x.ek y.ek;have d3:= @ud x.ek y.ek;rw[ue,uh];unfold C_ FO at*;unfold rj;by_cases h1:nH x.A y.A=0
 ·rw[if_neg (show¬(nH x.A y.A≠0) by omega)];by_cases h2:nH x.B y.B=0
  ·rw[if_neg (by omega)];by_cases h3:gn x.aI y.aI=0
   ·rw[if_neg (by omega)];constructor<;>omega
   ·rw[if_pos h3];constructor<;>omega
  ·rw[if_pos h2];constructor<;>omega
 ·rw[if_pos h1,if_pos h1];constructor<;>omega
theorem vF {a b c:Int} {P Q R:Prop} (h:P->Q->R): (a<b\/(a=b/\P))->(b<c\/(b=c/\Q))->(a<c\/(a=c/\R)):=by
 rintro(h1|⟨h1,p⟩) (h2|⟨h2,q⟩)
 ·exact .inl (by omega)
 ·exact .inl (by omega)
 ·exact .inl (by omega)
 ·exact .inr ⟨by omega,h p q⟩
theorem Bh {x y z:bP} (h1:rj x y) (h2:rj y z):rj x z:=vF (vF (vF (vF (vF (λp q=>Int.lt_trans p q))))) h1 h2
theorem Km {l:List bP} (h:∀i (h:i+1<l.length),fZ l[i] l[i+1]<0):∀k i (hk:i+k+1<l.length),rj (l[i]'(by omega)) (l[i+k+1]'hk)
 |0,i,hk=>tI.1.1 (h i hk)
 |k+1,i,hk=>Bh (Km h k i (by omega)) (tI.1.1 (h (i+k+1) (by omega)))
theorem Da {l:List bP} (h:∀i (h:i+1<l.length),fZ l[i] l[i+1]<0) {i j:Nat} (hij:i<j) (hj:j<l.length):rj (l[i]'(by omega)) l[j]:=by
 have:=Km h (j-i-1) i (by omega);simp only[show i+(j-i-1)+1=j from by omega] at this;exact this
structure oG (l:List bP) (y:bP) (i j:Nat):Prop where
 QX:i<=j
 zq:j<=l.length
 lo:∀k,k<i->(h:k<l.length)->fZ l[k] y<0
 hi:∀k,j<=k->(h:k<l.length)->0<=fZ l[k] y
theorem oG.start {l:List bP} {y:bP}:oG l y 0 l.length:=⟨Nat.zero_le _,Nat.le_refl _,λk h=>by omega,λk h h'=>by omega⟩
theorem oG.low {l:List bP} {y:bP} {i j k:Nat} (h:oG l y i j) (ha:∀i (h:i+1<l.length),fZ l[i] l[i+1]<0) (h1:i<=k) (h2:k<j) (hk:k<l.length) (hc:fZ l[k] y<0):oG l y (k+1) j:=
 ⟨by omega,h.zq,λm hm hl=>by
  by_cases e:m=k
  ·subst e;exact hc
  ·exact tI.1.2 (Bh (Da ha (show m<k by omega) hk) (tI.1.1 hc)),h.hi⟩
theorem oG.high {l:List bP} {y:bP} {i j k:Nat} (h:oG l y i j) (ha:∀i (h:i+1<l.length),fZ l[i] l[i+1]<0) (h1:i<=k) (h2:k<j) (hk:k<l.length) (hc:¬fZ l[k] y<0):oG l y i k:=
 ⟨h1,by omega,h.lo,λm hm hl=>by
  by_cases e:m=k
  ·subst e;omega
  ·apply Classical.byContradiction;intro hn;have h3:=tI.1.1 (show fZ l[m] y<0 by omega);exact hc (tI.1.2 (Bh (Da ha (show k<m by omega) hl) h3))⟩
def j3 {α:Type} [bF α] (w:World) (C:Nat->Nat) (j:Nat) (e:TypeId) (v:Value) (ys:List α):Prop:=cC w C j e v ys\/(ys=[]/\∃a,v=.slice (some a) 0 0)
section
variable {α:Type} [bF α] {P:Program} {N:Nat} {env:Env} {w w':World} {C bL cO D:Nat->Nat} {I:List Nat} {t e:TypeId} {v s:Value} {x y z:Operand} {xs ys zs:List α} {j j1 n:Nat}
theorem j3.st (h:j3 w C j e v ys) (hs:aH I w C w' bL) (h0:0∉I) (hj:j∉I):j3 w' bL j e v ys:=h.imp (λh=>h.st hs h0 hj) id
theorem j3.u (h:j3 w C j e v ys) (hs:aH I w C w' bL) (h0:0∉I:=by first|decide|(simp<;>omega)) (hj:j∉I:=by first|decide|(simp<;>omega)):j3 w' bL j e v ys:=h.st hs h0 hj
theorem j3.cz (h:j3 w C j e v ys) (hy:ev env y=some v) {d:TypeId} (ht:P.underlying t=some (.slice d)):
  ∀w',ew P N env (.call {callee:=.builtin .len,args:=#[y],argTypes:=#[t]}) w' (.int .i64 ys.length):=λw'=>by
 rcases h with h|⟨rfl,a,rfl⟩
 ·exact h.cz hy ht w'
 ·exact uX hy ht
theorem j3.one (h:j3 w C j e v ys):v.cells=#[v]/\v.oneCell'=true:=by
 rcases h with h|⟨rfl,a,rfl⟩
 ·exact h.one
 ·exact⟨rfl,rfl⟩
theorem j3.cD (h:j3 w C j e v ys) (hj:n<=j) (hl:ys.length<=9223372036854775807):aF w (aA (K.cD n C)) ys v:=by
 rcases h with h|⟨rfl,a,rfl⟩
 ·exact h.cD hj hl
 ·exact wS
theorem j3.jD (h:j3 w' cO j1 e v ys) (hs:aH I w D w' cO) (hF:bA w C) (fH:aA D=aA C) (hj:∀b,b<w.heap.size->D b≠j1) (h1:j1≠0) (j:Nat) (hjj:j≠0):
  ∃bL,(∀b,b<w.heap.size->bL b=C b)/\bA w' bL/\(∀b,aA bL b->aA cO b)/\j3 w' bL j e v ys:=by
 rcases h with h|⟨rfl,a,rfl⟩
 ·obtain⟨bL,a1,a2,a3,a4⟩:=h.jD hs hF fH hj h1 j hjj;exact⟨bL,a1,a2,a3,.inl a4⟩
 ·refine⟨C,λ_ _=>rfl,λb hb=>Nat.lt_of_lt_of_le (hF b hb) hs.size,λb hb=>?_,.inr ⟨rfl,a,rfl⟩⟩;have hlt:=hF b hb;unfold aA;rw[hs.col b hlt];have:aA D b:=by rw[fH];exact hb
  exact this
theorem QY {bytes:Nat} (hF:bA w C) (hj:j≠0) (hx:ev env y=some v) (hy:ev env z=some s) (hrow:o_ P t e (sz α) bytes=true) (hsz:0<sz α)
  (hown:j3 w C j e v ys) (hsrc:aF w (aA C) zs s) (yT:zs≠[]) (hlen: (ys.length+zs.length)*bytes<=140737488355328) (h63:ys.length+zs.length<=140737488355328):
  iY P N env (.call {callee:=.builtin .append,args:=#[y,z],argTypes:=#[t,t]}) w (λv' w'=>∃bL,aH [j] w C w' bL/\cC w' bL j e v' (ys++zs)/\bA w' bL):=by
 rcases hown with h|⟨rfl,a,rfl⟩
 ·exact gJ hF hj hx hy hrow hsz h hsrc hlen h63
 ·intro a' jP gi ic;obtain⟨v',w',h1,bL,h2,h3,h4⟩:=CN (j:=j) (P:=P) (N:=N) (a:=some a) (ys:=([]:List α)) hF hj hx hy hrow hsz wS hsrc yT hlen h63 a' jP gi ic;exact⟨v',w',h1,bL,h2.mono (λc hc=>by cases hc),h3,h4⟩
end
section
variable {α:Type} [bF α] {w:World} {C:Nat->Nat} {P:Program} {f:FuncId} {N:Nat} {k:List Item} {R:Value->World->Prop} {Q:Exit->Act->World->Prop} {env:Env} {ops:Array Oper} {S:World->Prop} {i t:Nat} {L:List (Nat×Bool)} {v v2:Value} {y z:Operand} {mK:Option (Nat×Bool)} {ty e e':TypeId} {xs:List α} {j g:Nat} {kd:IntKind} {n:Int}
theorem QZ (hop:eT ops i=some (some t,.slice ty y (some z) none none,mK)) (hw:g_ ops env mK=some true) (ht:Nat.blt t N=true) (hl:j3 w C j e v xs) (Q5:xs.length<=9223372036854775807) (hy:ev env y=some v)
  (hf:nE P ty=some (e',sz α)) (hz:ev env z=some (.int kd n)) (h0:0<=n) (h1:n<=xs.length)
  (h:∀v2,bO P N Q ops S L ((t,v2)::env) w):bO P N Q ops S ((i,true)::L) env w:=
 wI hop hw ht (hl.cD (n:=j) (Nat.le_refl _) Q5) hy hf hz h0 h1 (λv2 _=>h v2)
end
section
variable {α:Type} [bF α] {w w':World} {C bL:Nat->Nat} {I:List Nat} {e:TypeId} {v:Value} {ys:List α} {j:Nat}
theorem j3.t (h:j3 w C j e v ys) (hs:aH I w C w' bL) (h0:0∉I:=by first|decide|(simp<;>omega)) (hj:j∉I:=by first|decide|(simp<;>omega)):j3 w' bL j e v ys:=h.st hs h0 hj
end
theorem Q6 {i j:Nat} (h1: (i:Int)<=4611686018427387904) (h2: (j:Int)<=4611686018427387904):IntKind.i64.wrap ((IntKind.u64.wrap ((i:Int)+j)).fdiv (2^min (1:Int).toNat IntKind.u64.bits))=(((i+j)/2:Nat):Int):=by
 rw[wrap_u64 (by omega) (by omega),show min (1:Int).toNat IntKind.u64.bits=1 from by decide,show(2:Int)^1=2 from rfl,Int.fdiv_eq_ediv_of_nonneg _ (by decide),wrap_i64 (by omega) (by omega)];omega
def sU (sh:List bZ) (A B:dh) (bH bJ:Int) (fl:List Int):Prop:=∀f∈fl,jE sh A bH f=true/\jE sh B bJ f=true
section
variable {α:Type} {ys zs us:List α} {σ u6:Nat->Nat} {c:α->α->Int} {P:α->Prop}
theorem Q7 {n:Nat} (h:jZ σ 0 n): ((List.range n).map σ).Perm (List.range n):=by
 have p8: ((List.range n).map σ).Nodup:=by
  rw[List.nodup_iff_pairwise_ne,List.pairwise_map];exact(List.nodup_iff_pairwise_ne.1 List.nodup_range).imp (λhne e=>hne (h.inj _ _ e))
 have hsub: (List.range n).map σ⊆List.range n:=λx hx=>by
  obtain⟨i,hi,rfl⟩:=List.mem_map.1 hx;exact List.mem_range.2 (h.tu i (by omega) (List.mem_range.1 hi)).2
 refine(List.perm_ext_iff_of_nodup p8 List.nodup_range).2 λa=>⟨λha=>hsub ha,λha=>?_⟩
 apply Classical.byContradiction;intro hn;have h1: (a::(List.range n).map σ).Nodup:=List.nodup_cons.2 ⟨hn,p8⟩;have h2:=h1.length_le_of_subset (l₂:=List.range n) (λx hx=>by
  rcases List.mem_cons.1 hx with rfl|hx
  ·exact ha
  ·exact hsub hx)
 simp at h2;omega
theorem gp.perm (h:gp c ys zs):zs.Perm ys:=by
 obtain⟨σ,h1,h2,h3⟩:=h;have e1:zs.map some=((List.range ys.length).map σ).map (λi=>ys[i]?):=by
  apply List.ext_getElem
  ·simp[h1.len]
  ·intro i hi hj;have hlt:i<ys.length:=by simpa[h1.len] using hi
   simp only[List.getElem_map,List.getElem_range];rw[<-(h1.at_ i hlt).2,List.getElem?_eq_getElem (by rw[h1.len];exact hlt)]
 have e2:ys.map some=(List.range ys.length).map (λi=>ys[i]?):=by
  apply List.ext_getElem
  ·simp
  ·intro i hi hj;simp only[List.getElem_map,List.getElem_range];rw[List.getElem?_eq_getElem (by simpa using hi)]
 have iA: (zs.map some).Perm (ys.map some):=by rw[e1,e2];exact(Q7 h2).map _
 have mq:=iA.filterMap id;simpa using mq
theorem gp.le (h:gp c ys zs) {i j:Nat} (hij:i<j) (hj:j<zs.length):c (zs[i]'(by omega)) zs[j]<=0:=by
 obtain⟨σ,h1,h2,h3⟩:=h;have hl:=h1.len;rw[h1.get (show i<ys.length by omega),h1.get (show j<ys.length by omega)];obtain⟨_,_,h4⟩:=h3 i j (by omega) hij (by omega);omega
theorem gp.self (h:∀i j (hij:i<j) (hj:j<ys.length),c (ys[i]'(by omega)) ys[j]<0):gp c ys ys:=
 ⟨λi=>i,nZ.id ys,jZ.id _ _,λi j h1 h2 h3=>⟨Nat.lt_trans h2 h3,h3,.inl (h i j h2 h3)⟩⟩
end
theorem Db {x y:bZ}:iF x y=0↔x.r=y.r/\x.ver=y.ver/\x.eF=y.eF:=by
 have h1:= @pT x y;have h2:= @wU x y;unfold ow at h1 h2;have e:x.r=y.r↔x.r.a=y.r.a/\x.r.b=y.r.b:=⟨λe=>by rw[e];exact⟨rfl,rfl⟩,λe=>by
  obtain⟨⟨a,b⟩,_,_,_⟩:=x;obtain⟨⟨a',b'⟩,_,_,_⟩:=y;obtain⟨h,h'⟩:=e;simp only at h h';subst h h';rfl⟩
 rw[e];constructor
 ·intro h;refine⟨⟨?_,?_⟩,?_,?_⟩<;>omega
 ·rintro⟨⟨_,_⟩,_,_⟩;omega
theorem Kn {x y z:bZ} (h1:ow x y) (h2:ow y z):ow x z:=vF (vF (vF (λp q=>Int.lt_trans p q))) h1 h2
theorem Ko {l:List bZ} (h:∀i (h:i+1<l.length),iF l[i] l[i+1]<0):∀k i (hk:i+k+1<l.length),ow (l[i]'(by omega)) (l[i+k+1]'hk)
 |0,i,hk=>pT.1 (h i hk)
 |k+1,i,hk=>Kn (Ko h k i (by omega)) (pT.1 (h (i+k+1) (by omega)))
theorem Kp {l:List bZ} (h:∀i (h:i+1<l.length),iF l[i] l[i+1]<0) {i j:Nat} (hij:i<j) (hj:j<l.length):iF (l[i]'(by omega)) l[j]<0:=by
 have:=Ko h (j-i-1) i (by omega);simp only[show i+(j-i-1)+1=j from by omega] at this;exact pT.2 this
def mR (l:List bZ):Prop:=l.Pairwise λx y=>¬(x.r=y.r/\x.ver=y.ver/\x.eF=y.eF)
theorem mR.FP {l:List bZ} (h:∀i (h:i+1<l.length),iF l[i] l[i+1]<0):mR l:=
 List.pairwise_iff_getElem.2 λi j hi hj hij=>by
  have:=Kp h hij hj;rw[<-Db];omega
theorem mR.Kq {l z:List bZ} (h:mR l) (hs:gp iF l z):∀i (h:i+1<z.length),iF z[i] z[i+1]<0:=λi hi=>by
 have h1:mR z:=(hs.perm.pairwise_iff (λ{x y} hxy e=>hxy ⟨e.1.symm,e.2.1.symm,e.2.2.symm⟩)).2 h;have h2:=List.pairwise_iff_getElem.1 h1 i (i+1) (by omega) hi (by omega);rw[<-Db] at h2;have:=hs.le (show i<i+1 by omega) hi;omega
theorem mR.ne {l:List bZ} (h:mR l) {i k:Nat} (hi:i<l.length) (hk:k<l.length) (hne:i≠k):iF l[i] l[k]≠0:=λe=>by
 rw[Db] at e;rcases Nat.lt_or_gt_of_ne hne with h1|h1
 ·exact List.pairwise_iff_getElem.1 h i k hi hk h1 e
 ·exact List.pairwise_iff_getElem.1 h k i hk hi h1 ⟨e.1.symm,e.2.1.symm,e.2.2.symm⟩
section
variable {sh z:List bZ} {r r2:dh} {ver bJ:Int} {vals:List ByteArray} {fl:List Int} {k:Nat}
theorem Dc {x:bZ}:∀{k:Nat},x∈dw sh r ver vals fl k↔∃f,f<k/\(f:Int)∈fl/\jE sh r ver f=false/\x=⟨r,ver,f,((vals.getD f ByteArray.empty).size:Nat)⟩
 |0=>by simp[dw]
 |k+1=>by
  rw[dw,List.mem_append,Dc];constructor
  ·rintro(⟨f,h1,h2⟩|h)
   ·exact⟨f,by omega,h2⟩
   ·split at h
    ·rename_i hp;rw[List.mem_singleton] at h;exact⟨k,by omega,hp.1,hp.2,h⟩
    ·simp at h
  ·rintro⟨f,h1,h2,h3,h4⟩;by_cases e:f=k
   ·right;subst e;rw[if_pos ⟨h2,h3⟩,List.mem_singleton];exact h4
   ·exact .inl ⟨f,by omega,h2,h3,h4⟩
theorem Kr:∀k,mR (dw sh r ver vals fl k)
 |0=>by simp[dw,mR]
 |k+1=>by
  rw[dw];refine List.pairwise_append.2 ⟨Kr k,?_,λx hx y hy=>?_⟩
  ·split<;>simp
  ·split at hy
   ·rw[List.mem_singleton] at hy;obtain⟨f,h1,_,_,rfl⟩:=Dc.1 hx;subst hy;rintro⟨_,_,h⟩;simp only at h;omega
   ·simp at hy
theorem De {f:Int}:jE sh r ver f=true↔∃x∈sh,x.r=r/\x.ver=ver/\x.eF=f:=by
 unfold jE qo;simp[List.any_eq_true]
theorem Q8 {sh z:List bZ} (h:z.Perm sh) (f:Int):jE z r ver f=jE sh r ver f:=by
 rw[Bool.eq_iff_iff,De,De];exact⟨λ⟨x,h1,h2⟩=>⟨x,h.mem_iff.1 h1,h2⟩,λ⟨x,h1,h2⟩=>⟨x,h.mem_iff.2 h1,h2⟩⟩
theorem Q9 {m:List bZ} {f:Int}:jE (sh++m) r ver f=(jE sh r ver f||jE m r ver f):=by unfold jE;exact List.any_append
theorem Df (h:mR sh) (k:Nat):mR (sh++dw sh r ver vals fl k):=by
 refine List.pairwise_append.2 ⟨h,Kr k,λx hx y hy e=>?_⟩;obtain⟨f,h1,_,h3,rfl⟩:=Dc.1 hy;have:=De.2 ⟨x,hx,e.1,e.2.1,e.2.2⟩;simp only at this;rw[h3] at this;cases this
end
section
variable {pr:Int} {av df:List Int} {lo hi:Int} {p:Nat} {fl rm:List Int} {ok zu:Bool}
theorem sL.uniq (h:sL pr av df lo hi p fl ok) (h':sL pr av df lo hi p rm zu):fl=rm/\ok=zu:=by
 rcases h with⟨g,rfl,rfl⟩|⟨g,gs,k,hS,hk,hlt,hc⟩
 ·rcases h' with⟨_,rfl,rfl⟩|⟨g',_⟩
  ·exact⟨rfl,rfl⟩
  ·exact absurd g' g
 ·rcases h' with⟨g',_⟩|⟨_,gs',k',Cx,hk',hlt',rJ⟩
  ·exact absurd g g'
  ·obtain rfl:=hS.uniq wQ (λ_ _=>trivial) Cx;rcases hc with⟨a1,a2,rfl,rfl⟩|⟨a1,rfl,a3⟩
   ·rcases rJ with⟨b1,b2,rfl,rfl⟩|⟨b1,rfl,b3⟩
    ·exact⟨rfl,rfl⟩
    ·exfalso;rcases Nat.lt_or_ge k' k with h|h
     ·have:=hlt k' h;omega
     ·have:k'=k:=by omega
      subst this;omega
   ·rcases rJ with⟨b1,b2,rfl,rfl⟩|⟨b1,rfl,b3⟩
    ·exfalso;rcases Nat.lt_or_ge k k' with h|h
     ·have:=hlt' k h;omega
     ·have:k=k':=by omega
      subst this;omega
    ·have hkk:k=k':=by
      rcases Nat.lt_trichotomy k k' with h|h|h
      ·have:=hlt' k h;omega
      ·exact h
      ·have:=hlt k' h;omega
     subst hkk;exact⟨a3.uniq yR (λ_ _=>trivial) b3,rfl⟩
end
section
variable {pr:Int} {av df:List Int} {lo hh:Int} {p:Nat} {aK:Int} {sh:List bZ} {ds:List bP} {A B:dh} {cw cu:List ByteArray} {bH bJ iD e:Int} {ia now:List bZ}
end
end Go.K
namespace Go.K
open bF Go.Proofs Go.Shelf Go.Sort
theorem Q_ {W w':World} (h:Ext (λ_=>False) W w'):∃q os',w'=grow (W.drewN q) os':=by
 refine⟨w'.drawn-W.drawn,w'.heap.extract W.heap.size w'.heap.size,?_⟩;obtain⟨h1,h2,h3,h4,h5,h6⟩:=h;obtain⟨hp,tp,W2,os,out⟩:=w';simp only at h1 h2 h3 h4 h5 h6;unfold nW at h6;simp only at h6;subst h1 h2 h3;simp only[grow,World.drewN,World.mk.injEq,and_true,true_and];refine⟨?_,by omega⟩;apply Array.ext_getElem?;intro b;rw[Array.getElem?_append];split
 ·rename_i hb;exact h5 b hb (λh=>h)
 ·rename_i hb;rw[Array.getElem?_extract];simp only[Nat.min_self];split
  ·congr 1;omega
  ·rw[Array.getElem?_eq_none (by omega)]
section
variable {P:Program} {ρ:Ren} {α:Type} [Inhabited α] [bF α] {enc:α->List Value} {cf:α->α->Int} {w:World} {C:Nat->Nat} {j g0:Nat} {e:TypeId} {v:Value} {ys:List α}
def rZ (cf:α->α->Int):α->α->Bool:=λx y=>!(ltOf cf) y x
theorem Ra {F cs:Array Value} (h:F.size<=cs.size) (t:Nat): (putCells id 0 F cs)[t]?=if t<F.size then F[t]? else cs[t]?:=by
 unfold putCells;rw[Array.getElem?_mapIdx];by_cases ht:t<cs.size
 ·rw[Array.getElem?_eq_getElem ht];simp only[Option.map_some,Nat.zero_le,true_and,Nat.zero_add,Nat.sub_zero,id];split
  ·rename_i h1;rw[Array.getElem?_eq_getElem h1,getElem!_pos F t h1]
  ·rfl
 ·rw[Array.getElem?_eq_none (by omega),if_neg (by omega)];rfl
theorem Ks {k:Nat} (hk:∀x,(enc x).length=k) (d:Array α) {i r:Nat} (hi:i<d.size) (hr:r<k): (flatK enc k d)[i*k+r]?=(enc d[i])[r]?:=by
 have hlt:i*k+r<d.size*k:=by
  have:=Nat.mul_le_mul_right k (show i+1<=d.size from hi);rw[Nat.succ_mul] at this;omega
 have hdiv: (i*k+r)/k=i:=by rw[Nat.mul_comm,Nat.mul_add_div (by omega),Nat.div_eq_of_lt hr];rfl
 have hmod: (i*k+r)%k=r:=by rw[Nat.mul_comm,Nat.mul_add_mod,Nat.mod_eq_of_lt hr]
 have h:=get_flatK enc k d (i*k+r) hlt;rw[hdiv,hmod,getElem!_pos d i hi,getElem!_pos (flatK enc k d) _ (by rw[size_flatK];exact hlt),getElem!_pos (enc d[i]) r (by rw[hk];exact hr)] at h;rw[Array.getElem?_eq_getElem (by rw[size_flatK];exact hlt),h,List.getElem?_eq_getElem]
theorem Rb (L:SlLaysF0.n6 P ρ) (aE:∀w,(isAgg (ρ.t 24)).run P w=.ok true w) (zE:∀w,(Go.sizeOf (ρ.t 24)).run P w=.ok (sz α) w)
  (uw:∀h M x vs,rep h M x vs↔vs=enc x) (hk:∀x:α,(enc x).length=sz α) (h0:0<sz α) (h1:∀x,∀u∈enc x,u.oneCell'=true) (hO:SWO (ltOf cf)) (hT:∀x y,(ltOf cf) x y=false->(ltOf cf) y x=false->x=y)
  (eg:∀args w,(callFunc g0 args).run P w=.ok (.enter g0 args) w)
  (hcmp:∀W x y,Calls P g0 #[.agg (enc x).toArray,.agg (enc y).toArray] W (bW λu w'=>u=.int .i64 (cf x y)/\Ext (λ_=>False) W w'))
  (hF:bA w C) (ho:cC w C j e v ys) (hlen:ys.length<=140737488355328):
  Calls P (ρ.f 6) #[v,.func (.func g0) #[] #[]] w (bW λu w'=>u=.tuple #[]/\aH [j] w C w' C/\cC w' C j e v (ys.mergeSort (rZ cf))/\bA w' C):=by
 obtain⟨hown,nF⟩:=ho;rcases hown with⟨rfl,rfl⟩|⟨g,cap,cs,rfl,hg,hc,hcap,h2,h3⟩
 ·refine(AnyF.slices_SortFunc_none (P:=P) (ρ:=ρ) {L with} none 0 (.func (.func g0) #[] #[]) w).mono ?_;rintro e' w' ⟨rfl,rfl⟩;exact⟨_,rfl,rfl,aH.refl _ _ _,by simpa using(cC.nil (α:=α)),hF⟩
 ·have hcell:∀i (hi:i<ys.length) r,r<sz α->cs[i*sz α+r]?=(enc ys[i])[r]?:=λi hi r hr=>by
   have h:=(uw _ _ _ _).1 (h3 i hi);have:=congrArg (λl=>l[r]?) h;simp only[cB,List.getElem?_take,if_pos hr,List.getElem?_drop,Array.getElem?_toList] at this;exact this
  have hH:HoldsK enc (sz α) w g 0 ys.toArray:=λt ht=>by
   rw[size_flatK] at ht;simp only[List.size_toArray] at ht;have hi:t/sz α<ys.length:=Nat.div_lt_of_lt_mul (by rwa [Nat.mul_comm] at ht);have hr:=Nat.mod_lt t h0;have Rc:t/sz α*sz α+t%sz α=t:=by rw[Nat.mul_comm];exact Nat.div_add_mod t (sz α)
   have h5:=hcell _ hi _ hr;have h6:=Ks hk ys.toArray (i:=t/sz α) (r:=t%sz α) (by simpa using hi) hr;rw[Rc] at h5 h6;refine⟨?_,?_⟩
   ·rw[cell_of_row w g (0+t) cs e (0,0) hc,Nat.zero_add,h5];simp only[List.getElem_toArray] at h6;rw[<-h6,id];rw[getElem!_pos _ t (by rw[size_flatK];simpa using ht),Array.getElem?_eq_getElem]
   ·simp[World.frozen?,hc]
  have Re:CmpLays P g0 #[] enc (sz α) cf g 0 ys.toArray.size w:=λm os dk hd x y=>by
   have h:=hcmp (sortWorldK enc (sz α) w g 0 m dk os) x y;rw[Array.append_empty];refine h.mono ?_;rintro e' w' ⟨u,rfl,rfl,hx⟩;exact⟨rfl,Q_ hx⟩
  have hsort:=AnyQ.slices_SortFunc_total L (sz α) aE zE enc hk h1 cf hO g0 #[] g 0 cap ys.toArray w eg Re hH (yo hc) (by simp;omega) hT;refine hsort.mono ?_;rintro e' w' ⟨rfl,n,os,hw⟩;have xu:=List.mergeSort_perm ys (rZ cf);have hl:=xu.length_eq;have hle: (flatK enc (sz α) (ys.mergeSort (rZ cf)).toArray).size<=cs.size:=by
   rw[size_flatK,h2];simp only[List.size_toArray,hl];exact Nat.mul_le_mul_right _ hcap
  have I_:w'.heap[g]?=some (.cells (putCells id 0 (flatK enc (sz α) (ys.mergeSort (rZ cf)).toArray) cs) e (0,0)):=by
   rw[hw];show(grow (putRow id (Sort.ahead w n) g 0 (flatK enc (sz α) (ys.mergeSort (rZ cf)).toArray)) os).heap[g]?=_;simp only[grow,putRow,mapBlock,Sort.ahead];rw[Array.getElem?_append_left (by simpa using yo hc),Array.getElem?_modify,if_pos rfl,hc];rfl
  have Kt:aH [j] w C w' C:=⟨⟨by rw[hw];rfl,by rw[hw];rfl,by rw[hw];rfl,by
    rw[hw];show w.heap.size<=(grow (putRow id (Sort.ahead w n) g 0 _) os).heap.size;simp[grow,putRow,mapBlock,Sort.ahead],λb hb hn=>by
    have Rf:g≠b:=λe=>hn (by rw[<-e,nF g rfl];simp);rw[hw];show(grow (putRow id (Sort.ahead w n) g 0 _) os).heap[b]?=_;simp only[grow,putRow,mapBlock,Sort.ahead];rw[Array.getElem?_append_left (by simpa using hb),Array.getElem?_modify,if_neg Rf],by
    rw[hw];unfold nW;exact Nat.le_add_right _ _⟩,λ_ _=>rfl⟩
  refine⟨_,rfl,rfl,Kt,⟨.inr ⟨g,cap,_,by rw[hl],hg,I_,by rw[hl];exact hcap,?_,?_⟩,nF⟩,hF.st Kt⟩
  ·simp only[putCells,Array.size_mapIdx];exact h2
  ·intro i hi;refine(uw _ _ _ _).2 ?_;apply List.ext_getElem?;intro r;simp only[cB,List.getElem?_take,List.getElem?_drop,Array.getElem?_toList];split
   ·rename_i hr;have hlt:i*sz α+r<(flatK enc (sz α) (ys.mergeSort (rZ cf)).toArray).size:=by
     rw[size_flatK];simp only[List.size_toArray];have:=Nat.mul_le_mul_right (sz α) (show i+1<=_ from hi);rw[Nat.succ_mul] at this;omega
    rw[Ra hle,if_pos hlt,Ks hk _ (by simpa using hi) hr];simp
   ·rename_i hr;rw[List.getElem?_eq_none (by rw[hk];omega)]
end
end Go.K
namespace Go.K
open bF
section
variable {pr:Int} {av df:List Int} {lo hi hi':Int} {p:Nat} {fl rm:List Int} {ok:Bool}
end
def jd (av df:List Int) (p i:Nat):Int:=av.getD i 0-kE av df p i
def Ku (av df:List Int) (p:Nat) (s:Int) (st:Nat):Nat->Int
 |0=>s
 |i+1=>if st.testBit i=true then Ku av df p s st i+jd av df p i else Ku av df p s st i
def Dg (st:Nat):Nat->Nat
 |0=>0
 |i+1=>if st.testBit i=true then Dg st i+1 else Dg st i
section
variable {av df:List Int} {p n k st:Nat} {s t hi:Int} {gs l m:List dh}
theorem Rg (st:Nat):∀i,Dg st i<=i
 |0=>Nat.le_refl _
 |i+1=>by have:=Rg st i;rw[Dg];split<;>omega
theorem FQ:∀n,(gF av df p n).Pairwise λx y=>x.a<y.a
 |0=>by simp[gF]
 |n+1=>by
  rw[gF];refine List.pairwise_append.2 ⟨FQ n,?_,λx hx y hy=>?_⟩
  ·split<;>simp
  ·split at hy
   ·rw[List.mem_singleton] at hy;subst hy;obtain⟨i,hi,rfl,_⟩:=CK hx;simp only;omega
   ·simp at hy
theorem Kv (h:gp jQ (gF av df p n) gs): (gs.map (·.a)).Nodup:=by
 have h1: ((gF av df p n).map (·.a)).Nodup:=by
  rw[List.nodup_iff_pairwise_ne,List.pairwise_map];exact(FQ n).imp (λh=>by omega)
 exact((h.perm.map (·.a)).nodup_iff).2 h1
end
section
variable {pr:Int} {av df:List Int} {lo hi:Int} {p n:Nat} {fl:List Int} {ok:Bool} {s:Int}
end
section
variable {pr:Int} {av df:List Int} {lo hi:Int} {p n:Nat} {fl:List Int} {s:Int}
end
section
variable {α:Type} {c:α->α->Int}
theorem gp.Kw {ys:List α} {L:List (Fin ys.length)} (xu:L.Perm (List.finRange ys.length)) (xw:L.Pairwise λi j=>iK c ys i.val j.val):gp c ys (L.map λi=>ys[i.val]):=by
 have hlen:L.length=ys.length:=by rw[xu.length_eq,List.length_finRange]
 have p8:L.Nodup:=xu.nodup_iff.2 (List.nodup_finRange _);refine⟨λi=>if h:i<L.length then L[i].val else i,⟨by rw[List.length_map,hlen],λi hi=>?_⟩,⟨λi hi=>?_,λi h1 h2=>?_,λi j e=>?_⟩,λi j h1 h2 h3=>?_⟩
 ·have hi2:i<L.length:=by omega
  rw[dif_pos hi2];refine⟨L[i].isLt,?_⟩;rw[List.getElem?_map,List.getElem?_eq_getElem hi2,List.getElem?_eq_getElem L[i].isLt];rfl
 ·rw[dif_neg (by omega)]
 ·rw[dif_pos (show i<L.length by omega)];exact⟨Nat.zero_le _,L[i].isLt⟩
 ·by_cases hi:i<L.length
  ·by_cases hj:j<L.length
   ·simp only[dif_pos hi,dif_pos hj] at e;rcases Nat.lt_trichotomy i j with h|h|h
    ·exact absurd (Fin.ext e) (List.pairwise_iff_getElem.1 (List.nodup_iff_pairwise_ne.1 p8) i j hi hj h)
    ·exact h
    ·exact absurd (Fin.ext e.symm) (List.pairwise_iff_getElem.1 (List.nodup_iff_pairwise_ne.1 p8) j i hj hi h)
   ·simp only[dif_pos hi,dif_neg hj] at e;have:=L[i].isLt;omega
  ·by_cases hj:j<L.length
   ·simp only[dif_neg hi,dif_pos hj] at e;have:=L[j].isLt;omega
   ·simp only[dif_neg hi,dif_neg hj] at e;exact e
 ·simp only[dif_pos (show i<L.length by omega),dif_pos (show j<L.length by omega)];exact List.pairwise_iff_getElem.1 xw i j (by omega) (by omega) h2
theorem gp.ex (hc:nx c (λ_=>True)) (ys:List α):∃zs,gp c ys zs:=by
 classical
 have hP:∀x∈ys,(λ_:α=>True) x:=λ_ _=>trivial;obtain⟨L,hL⟩:∃L,L=(List.finRange ys.length).mergeSort (λi j=>decide (¬iK c ys j.val i.val)):=⟨_,rfl⟩
 have xu:L.Perm (List.finRange ys.length):=by rw[hL];exact List.mergeSort_perm _ _
 have p8:L.Nodup:=xu.nodup_iff.2 (List.nodup_finRange _);have xw:L.Pairwise λi j=>iK c ys i.val j.val:=by
  have h1:L.Pairwise λi j=>(decide (¬iK c ys j.val i.val))=true:=by
   rw[hL];refine List.pairwise_mergeSort (λi j k h1 h2=>?_) (λi j=>?_) _
   ·simp only[decide_eq_true_eq] at*;intro h3;by_cases e1:i=j
    ·subst e1;exact h2 h3
    ·have h4:=(EM hc hP i.isLt j.isLt (λe=>e1 (Fin.ext e))).resolve_right h1;exact h2 (IL hc hP h3 h4)
   ·simp only[Bool.or_eq_true,decide_eq_true_eq];by_cases h:iK c ys j.val i.val
    ·exact .inr (λh'=>IP hc hP h h')
    ·exact .inl h
  refine(h1.and (List.nodup_iff_pairwise_ne.1 p8)).imp λ{i j} ⟨h2,h3⟩=>?_;simp only[decide_eq_true_eq] at h2;exact(EM hc hP i.isLt j.isLt (λe=>h3 (Fin.ext e))).resolve_right h2
 exact⟨_,gp.Kw xu xw⟩
end
section
variable {av df:List Int} {p n:Nat} {gs:List dh}
theorem Rh (h:gp jQ (gF av df p n) gs) {i j:Nat} (hij:i<j) (hj:j<gs.length):gs[j].b<(gs[i]'(by omega)).b\/(gs[j].b=(gs[i]'(by omega)).b/\(gs[i]'(by omega)).a<gs[j].a):=by
 obtain⟨σ,h1,h2,h3⟩:=h;have hl:=h1.len;obtain⟨a,b,h4⟩:=h3 i j (by omega) hij (by omega);rw[h1.get (show i<(gF av df p n).length by omega),h1.get (show j<(gF av df p n).length by omega)];have xw:=FQ (av:=av) (df:=df) (p:=p) n;unfold jQ at h4;have e1:= @sK ((gF av df p n)[σ j]).b ((gF av df p n)[σ i]).b;have e2:= @tD ((gF av df p n)[σ j]).b ((gF av df p n)[σ i]).b;rcases h4 with h4|⟨h4,h5⟩
 ·exact .inl (e1.1 h4)
 ·exact .inr ⟨e2.1 h4,List.pairwise_iff_getElem.1 xw (σ i) (σ j) a b h5⟩
def nj (gs:List dh) (k i:Nat):Bool:=decide ((i:Int)∈(gs.take k).map (·.a))
structure pz (av df:List Int) (p:Nat) (gs:List dh) (k i:Nat) (b:Int):Prop where
 none_:b<0->b= -1/\∀q,q<i->nj gs k q=true\/jd av df p q<=0
 some_:0<=b->b.toNat<i/\nj gs k b.toNat=false/\0<jd av df p b.toNat/\∀q,q<i->nj gs k q=true\/jd av df p q<=0\/jd av df p q<jd av df p b.toNat\/(jd av df p q=jd av df p b.toNat/\b.toNat<=q)
theorem pz.start {k:Nat}:pz av df p gs k 0 (-1):=⟨λ_=>⟨rfl,λq h=>by omega⟩,λh=>by omega⟩
theorem pz.take {k i:Nat} {b:Int} (h:pz av df p gs k i b) (h1:nj gs k i=false) (h2:0<jd av df p i) (h3:b<0\/jd av df p b.toNat<jd av df p i):pz av df p gs k (i+1) i:=by
 refine⟨λe=>by omega,λ_=>?_⟩;rw[Int.toNat_natCast];refine⟨by omega,h1,h2,λq hq=>?_⟩;by_cases e:q=i
 ·subst e;exact .inr (.inr (.inr ⟨rfl,Nat.le_refl _⟩))
 ·by_cases hb:b<0
  ·rcases(h.none_ hb).2 q (by omega) with h4|h4
   ·exact .inl h4
   ·exact .inr (.inl h4)
  ·have h3:=h3.resolve_left hb;rcases(h.some_ (by omega)).2.2.2 q (by omega) with h4|h4|h4|⟨h4,_⟩
   ·exact .inl h4
   ·exact .inr (.inl h4)
   ·exact .inr (.inr (.inl (by omega)))
   ·exact .inr (.inr (.inl (by omega)))
theorem pz.skip {k i:Nat} {b:Int} (h:pz av df p gs k i b) (h1:nj gs k i=true\/jd av df p i<=0\/(0<=b/\jd av df p i<=jd av df p b.toNat)):pz av df p gs k (i+1) b:=by
 refine⟨λe=>⟨(h.none_ e).1,λq hq=>?_⟩,λe=>?_⟩
 ·by_cases eq:q=i
  ·subst eq;rcases h1 with h1|h1|h1
   ·exact .inl h1
   ·exact .inr h1
   ·omega
  ·exact(h.none_ e).2 q (by omega)
 ·obtain⟨a1,a2,a3,a4⟩:=h.some_ e;refine⟨by omega,a2,a3,λq hq=>?_⟩;by_cases eq:q=i
  ·subst eq;rcases h1 with h1|h1|⟨_,h1⟩
   ·exact .inl h1
   ·exact .inr (.inl h1)
   ·by_cases iA:jd av df p q<jd av df p b.toNat
    ·exact .inr (.inr (.inl iA))
    ·exact .inr (.inr (.inr ⟨by omega,by omega⟩))
  ·exact a4 q (by omega)
theorem Ri (h:gp jQ (gF av df p n) gs) {i:Nat}: (⟨(i:Int),jd av df p i⟩:dh)∈gs↔i<n/\0<jd av df p i:=by
 rw[h.perm.mem_iff];have key:∀n,(⟨(i:Int),jd av df p i⟩:dh)∈gF av df p n↔i<n/\0<jd av df p i:=by
  intro n
  induction n with
  |zero=>simp[gF]
  |succ n ih=>
   rw[gF,List.mem_append,ih];by_cases e:i=n
   ·subst e;unfold jd;split
    ·rename_i hp;exact⟨λ_=>⟨by omega,hp⟩,λ_=> .inr (List.mem_singleton.2 rfl)⟩
    ·rename_i hp;exact⟨λh=>by(rcases h with h|h);omega;simp at h,λh=>by omega⟩
   ·constructor
    ·rintro(h1|h1)
     ·exact⟨by omega,h1.2⟩
     ·split at h1
      ·rw[List.mem_singleton] at h1;injection h1 with h2 _;omega
      ·simp at h1
    ·rintro⟨h1,h2⟩;exact .inl ⟨by omega,h2⟩
 exact key n
theorem FR (h:gp jQ (gF av df p n) gs) {j:Nat} (hj:j<gs.length):∃i:Nat,i<n/\gs[j]=⟨(i:Int),jd av df p i⟩/\0<jd av df p i:=by
 obtain⟨i,h1,h2,h3⟩:=CK (h.perm.mem_iff.1 (List.getElem_mem hj));exact⟨i,h1,h2,h3⟩
theorem Kx {k i:Nat} (hk:k<=gs.length):nj gs k i=true↔∃j,∃h:j<k,(gs[j]'(by omega)).a=i:=by
 unfold nj;rw[decide_eq_true_eq,List.mem_map];constructor
 ·rintro⟨x,hx,e⟩;obtain⟨j,hj,rfl⟩:=List.getElem_of_mem hx;rw[List.length_take] at hj;exact⟨j,by omega,by rw[<-e,List.getElem_take]⟩
 ·rintro⟨j,hj,e⟩;refine⟨gs[j]'(by omega),?_,e⟩;rw[List.mem_take_iff_getElem];exact⟨j,by omega,rfl⟩
theorem Ky (h:gp jQ (gF av df p n) gs) {k j:Nat} (hk:k<=j) (hj:j<gs.length) {i:Nat} (e:gs[j].a=i):nj gs k i=false:=by
 rw[Bool.eq_false_iff];intro ht;obtain⟨q,hq,e2⟩:=(Kx (by omega)).1 ht;have p8:=Kv h;have:=List.pairwise_iff_getElem.1 (List.nodup_iff_pairwise_ne.1 p8) q j (by rw[List.length_map];omega) (by rw[List.length_map];omega) (by omega);rw[List.getElem_map,List.getElem_map] at this;exact this (by rw[e,e2])
theorem pz.Rj (h:gp jQ (gF av df p n) gs) {k:Nat} (hk:k<=gs.length) {b:Int} (hb:pz av df p gs k n b) (h0:b<0):k=gs.length:=by
 apply Classical.byContradiction;intro hne;obtain⟨i,h1,h2,h3⟩:=FR h (show k<gs.length by omega);rcases(hb.none_ h0).2 i h1 with h4|h4
 ·rw[Ky h (Nat.le_refl k) (by omega) (by rw[h2])] at h4;cases h4
 ·omega
theorem pz.fin (h:gp jQ (gF av df p n) gs) {k:Nat} (hk:k<=gs.length) {b:Int} (hb:pz av df p gs k n b) (h0:0<=b):∃hk':k<gs.length,gs[k]=⟨b,jd av df p b.toNat⟩:=by
 obtain⟨a1,a2,a3,a4⟩:=hb.some_ h0;obtain⟨m,rfl⟩:∃m:Nat,b=m:=⟨b.toNat,by omega⟩
 rw[Int.toNat_natCast] at*;obtain⟨j,hj,FT⟩:=List.getElem_of_mem ((Ri h).2 ⟨a1,a3⟩);have hkj:k<=j:=by
  apply Classical.byContradiction;intro hn;have:=(Kx hk).2 ⟨j,by omega,by rw[FT]⟩;rw[this] at a2;cases a2
 refine⟨by omega,?_⟩;by_cases e:k=j
 ·subst e;exact FT
 ·exfalso;obtain⟨i,h1,h2,h3⟩:=FR h (show k<gs.length by omega);have ho:=Rh h (show k<j by omega) hj;rw[h2,FT] at ho;simp only at ho;rcases a4 i h1 with h4|h4|h4|⟨h4,h5⟩
  ·rw[Ky h (Nat.le_refl k) (by omega) (by rw[h2])] at h4;cases h4
  ·omega
  ·omega
  ·omega
theorem Rk (h:gp jQ (gF av df p n) gs) {k:Nat} (hk:k<gs.length) {b:Nat} (e:gs[k].a=b) (i:Nat):nj gs (k+1) i=if i=b then true else nj gs k i:=by
 unfold nj;rw[List.take_succ_eq_append_getElem hk,List.map_append,List.map_cons,List.map_nil,e];split
 ·rename_i h2;subst h2;simp
 ·rename_i h2;rw[decide_eq_decide,List.mem_append,List.mem_singleton];exact⟨λh=>h.resolve_right (by omega),.inl⟩
def oH (gs:List dh) (k:Nat) (i:Nat):List Int:=((List.range i).filter (nj gs k)).map λq:Nat=>(q:Int)
theorem Kz {k i:Nat}:oH gs k (i+1)=oH gs k i++if nj gs k i=true then[(i:Int)] else[]:=by
 unfold oH;rw[List.range_succ,List.filter_append,List.map_append];congr 1;by_cases h:nj gs k i=true
 ·rw[List.filter_cons_of_pos h,if_pos h];rfl
 ·rw[List.filter_cons_of_neg h,if_neg h];rfl
theorem Rl (gs:List dh) (k i:Nat): (oH gs k i).length<=i:=by
 unfold oH;rw[List.length_map];have:=List.length_filter_le (nj gs k) (List.range i);rwa [List.length_range] at this
theorem KA (gs:List dh) (k i:Nat): (oH gs k i).Pairwise (·<·):=by
 unfold oH;rw[List.pairwise_map];exact(List.pairwise_lt_range.sublist List.filter_sublist).imp λh=>by omega
theorem Rm (h:gp jQ (gF av df p n) gs) {k:Nat} (hk:k<=gs.length):gp gn ((gs.take k).map (·.a)) (oH gs k n):=by
 obtain⟨zs,hz⟩:=gp.ex yR ((gs.take k).map (·.a));have p8: ((gs.take k).map (·.a)).Nodup:=by
  have:=Kv h;rw[List.map_take];exact this.sublist (List.take_sublist _ _)
 have hp: (oH gs k n).Perm ((gs.take k).map (·.a)):=by
  refine(List.perm_ext_iff_of_nodup ?_ p8).2 λx=>?_
  ·exact List.nodup_iff_pairwise_ne.2 ((KA gs k n).imp λh=>by omega)
  ·unfold oH;simp only[List.mem_map,List.mem_filter,List.mem_range];constructor
   ·rintro⟨q,⟨_,h2⟩,rfl⟩;unfold nj at h2;rw[decide_eq_true_eq] at h2;exact List.mem_map.1 h2
   ·rintro⟨y,hy,rfl⟩;obtain⟨j,hj,e⟩:=List.getElem_of_mem (List.mem_of_mem_take hy);obtain⟨i,h1,h2,h3⟩:=FR h hj;refine⟨i,⟨h1,?_⟩,by rw[<-e,h2]⟩;unfold nj;rw[decide_eq_true_eq];exact List.mem_map.2 ⟨y,hy,by rw[<-e,h2]⟩
 have hzs:zs.Pairwise (·<·):=by
  have Rn:zs.Nodup:=hz.perm.nodup_iff.2 p8;refine List.pairwise_iff_getElem.2 λi j hi hj hij=>?_;have h1:=hz.le hij hj;have h2:=List.pairwise_iff_getElem.1 (List.nodup_iff_pairwise_ne.1 Rn) i j hi hj hij;have h3:= @ud zs[i] zs[j];omega
 have:oH gs k n=zs:=List.Perm.eq_of_pairwise (λa b _ _ h1 h2=>by omega) (KA gs k n) hzs (hp.trans hz.perm.symm);rw[this];exact hz
end
end Go.K
namespace Go.K
open bF Go.Proofs Go.Shelf Go.Sort
@[reducible] def Bi {β:Type} [bF β] (ys:List β) (enc:β->List Value) (hk:∀x,(enc x).length=sz β) (h1:∀x,∀u∈enc x,u.oneCell'=true):bF (Fin ys.length) where
 sz:=sz β
 agg:=true
 flat h:=by cases h
 rep _ _ i vs:=vs=enc ys[i.val]
 len h:=by subst h;exact hk _
 one h:=by subst h;exact h1 _
 keep h _:=h
 sub h _:=h
section
variable {P:Program} {ρ:Ren} {β:Type} [bF β] {enc:β->List Value} {cf:β->β->Int} {w:World} {C:Nat->Nat} {j g0:Nat} {e:TypeId} {v:Value} {ys:List β}
theorem Ro (hk:∀x,(enc x).length=sz β) (h1:∀x,∀u∈enc x,u.oneCell'=true) (uw:∀h M x vs,rep (α:=β) h M x vs↔vs=enc x) (h:cC w C j e v ys): @cC _ (Bi ys enc hk h1) w C j e v (List.finRange ys.length):=by
 letI:bF (Fin ys.length):=Bi ys enc hk h1
 obtain⟨hown,nF⟩:=h;refine⟨?_,nF⟩;rcases hown with⟨hv,hy⟩|⟨g,cap,cs,hv,hg,hc,hcap,h2,h3⟩
 ·left;refine⟨hv,?_⟩;rw[hy];rfl
 ·refine .inr ⟨g,cap,cs,by rw[List.length_finRange];exact hv,hg,hc,by rw[List.length_finRange];exact hcap,h2,λi hi=>?_⟩;have hi2:i<ys.length:=by rwa [List.length_finRange] at hi
  have:=(uw _ _ _ _).1 (h3 i hi2);show cB cs (i*sz β) (sz β)=enc _;rw[this];congr 1;simp
theorem Rp (hk:∀x,(enc x).length=sz β) (h1:∀x,∀u∈enc x,u.oneCell'=true) (uw:∀h M x vs,rep (α:=β) h M x vs↔vs=enc x) {L:List (Fin ys.length)} (h: @cC _ (Bi ys enc hk h1) w C j e v L):cC w C j e v (L.map λi=>ys[i.val]):=by
 letI:bF (Fin ys.length):=Bi ys enc hk h1
 obtain⟨hown,nF⟩:=h;refine⟨?_,nF⟩;rcases hown with⟨hv,hy⟩|⟨g,cap,cs,hv,hg,hc,hcap,h2,h3⟩
 ·left;exact⟨hv,by rw[hy];rfl⟩
 ·refine .inr ⟨g,cap,cs,by rw[List.length_map];exact hv,hg,hc,by rw[List.length_map];exact hcap,h2,λi hi=>?_⟩;have hi2:i<L.length:=by rwa [List.length_map] at hi
  have:=h3 i hi2;refine(uw _ _ _ _).2 ?_;rw[List.getElem_map];exact this
theorem Rq (L:SlLaysF0.n6 P ρ) (aE:∀w,(isAgg (ρ.t 24)).run P w=.ok true w) (zE:∀w,(Go.sizeOf (ρ.t 24)).run P w=.ok (sz β) w)
  (uw:∀h M x vs,rep (α:=β) h M x vs↔vs=enc x) (hk:∀x:β,(enc x).length=sz β) (h0:0<sz β) (h1:∀x,∀u∈enc x,u.oneCell'=true)
  (zw:nx cf (λ_=>True)) (hd:∀i k (hi:i<ys.length) (hk:k<ys.length),i≠k->cf ys[i] ys[k]≠0)
  (eg:∀args w,(callFunc g0 args).run P w=.ok (.enter g0 args) w)
  (hcmp:∀W x y,Calls P g0 #[.agg (enc x).toArray,.agg (enc y).toArray] W (bW λu w'=>u=.int .i64 (cf x y)/\Ext (λ_=>False) W w'))
  (hF:bA w C) (ho:cC w C j e v ys) (hlen:ys.length<=140737488355328):
  Calls P (ρ.f 6) #[v,.func (.func g0) #[] #[]] w (bW λu w'=>u=.tuple #[]/\∃zs,gp cf ys zs/\aH [j] w C w' C/\cC w' C j e v zs/\bA w' C):=by
 by_cases hne:ys=[]
 ·subst hne;obtain⟨hown,nF⟩:=ho;have hst:gp cf ([]:List β) []:=gp.self λi j hij hj=>by simp at hj
  rcases hown with⟨rfl,_⟩|⟨g,cap,cs,rfl,hg,hc,hcap,h2,h3⟩
  ·refine(AnyF.slices_SortFunc_none (P:=P) (ρ:=ρ) {L with} none 0 (.func (.func g0) #[] #[]) w).mono ?_;rintro e' w' ⟨rfl,rfl⟩;exact⟨_,rfl,rfl,[],hst,aH.refl _ _ _,cC.nil,hF⟩
  ·refine(AnyF.slices_SortFunc_none (P:=P) (ρ:=ρ) {L with} (some ⟨g,0,none⟩) cap (.func (.func g0) #[] #[]) w).mono ?_;rintro e' w' ⟨rfl,rfl⟩;exact⟨_,rfl,rfl,[],hst,aH.refl _ _ _,⟨.inr ⟨g,cap,cs,rfl,hg,hc,hcap,h2,h3⟩,nF⟩,hF⟩
 have hpos:0<ys.length:=List.length_pos_iff.2 hne
 letI:bF (Fin ys.length):=Bi ys enc hk h1
 haveI:Inhabited (Fin ys.length):=⟨⟨0,hpos⟩⟩
 obtain⟨tJ,KB⟩:∃tJ:Fin ys.length->Fin ys.length->Int,tJ=λi k=>cf ys[i.val] ys[k.val]:=⟨_,rfl⟩
 have hlt:∀i k:Fin ys.length,(ltOf tJ) i k=decide (cf ys[i.val] ys[k.val]<0):=λi k=>by unfold ltOf;rw[KB]
 have anti:∀x y:β,cf x y<0↔0<cf y x:=λx y=>zw.anti x y trivial trivial;have Rr:∀x:β,cf x x=0:=λx=>by have:=anti x x;omega
 have hO:SWO (ltOf tJ):=⟨λx=>by rw[hlt,Rr];rfl,λx y z h h'=>by
   rw[hlt] at*;simp only[decide_eq_true_eq] at*;exact zw.IK trivial trivial trivial h (by omega),λx y z h h'=>by
   rw[hlt] at*;simp only[decide_eq_false_iff_not] at*;have a:=anti ys[x.val] ys[y.val];have a2:=anti ys[y.val] ys[x.val];have b:=anti ys[y.val] ys[z.val];have b2:=anti ys[z.val] ys[y.val];have c:=zw.trans ys[z.val] ys[y.val] ys[x.val] trivial trivial trivial (by omega) (by omega);have d:=anti ys[x.val] ys[z.val];omega⟩
 have hT:∀x y,(ltOf tJ) x y=false->(ltOf tJ) y x=false->x=y:=λx y h h'=>by
  rw[hlt] at h h';simp only[decide_eq_false_iff_not] at h h';apply Classical.byContradiction;intro hxy;have h2:=hd x.val y.val x.isLt y.isLt (λe=>hxy (Fin.ext e));have:=anti ys[y.val] ys[x.val];omega
 have key:=Rb (P:=P) (ρ:=ρ) (α:=Fin ys.length) (enc:=λi=>enc ys[i.val]) (cf:=tJ) L aE zE (λh M x vs=>Iff.rfl) (λx=>hk _) h0 (λx=>h1 _) hO hT eg (λW x y=>by rw[KB];exact hcmp W _ _) hF (Ro hk h1 uw ho) (by rw[List.length_finRange];exact hlen);refine key.mono (bW.mono ?_);rintro u w' ⟨rfl,hs,ho',Rs⟩;refine⟨rfl,_,gp.Kw (List.mergeSort_perm _ _) ?_,hs,Rp hk h1 uw ho',Rs⟩;have xw: ((List.finRange ys.length).mergeSort (rZ tJ)).Pairwise λa b=>rZ tJ a b=true:=by
  refine List.pairwise_mergeSort (λi k l h h'=>?_) (λi k=>?_) _
  ·unfold rZ at*;rw[hlt] at*;simp only[Bool.not_eq_true',decide_eq_false_iff_not] at*;have a:=anti ys[k.val] ys[i.val];have a2:=anti ys[i.val] ys[k.val];have b:=anti ys[l.val] ys[k.val];have b2:=anti ys[k.val] ys[l.val];have c:=zw.trans ys[i.val] ys[k.val] ys[l.val] trivial trivial trivial (by omega) (by omega);have d:=anti ys[l.val] ys[i.val];omega
  ·unfold rZ;rw[hlt,hlt];simp only[Bool.or_eq_true,Bool.not_eq_true',decide_eq_false_iff_not];have a:=anti ys[k.val] ys[i.val];have a2:=anti ys[i.val] ys[k.val];omega
 have p8: ((List.finRange ys.length).mergeSort (rZ tJ)).Nodup:=(List.mergeSort_perm _ _).nodup_iff.2 (List.nodup_finRange _);refine(xw.and (List.nodup_iff_pairwise_ne.1 p8)).imp λ{i k} ⟨h,hne⟩=>⟨i.isLt,k.isLt,.inl ?_⟩
 unfold rZ at h;rw[hlt] at h;simp only[Bool.not_eq_true',decide_eq_false_iff_not] at h;have h2:=hd i.val k.val i.isLt k.isLt (λe=>hne (Fin.ext e));have a:=anti ys[k.val] ys[i.val];have a2:=anti ys[i.val] ys[k.val];omega
end
end Go.K
namespace Go.K
open bF
def r8 (f:Nat->Int):Nat->Int
 |0=>0
 |n+1=>if r8 f n≠0 then r8 f n else f n
theorem zx {f:Nat->Int}:∀{n:Nat},(∀k,k<n->f k=0)->r8 f n=0
 |0,_=>rfl
 |n+1,h=>by rw[r8,if_neg (by rw[zx (λk hk=>h k (by omega))];simp)];exact h n (by omega)
theorem FU {f:Nat->Int} {i:Nat} (h0:∀k,k<i->f k=0) (hf:f i≠0):∀{n:Nat},i<n->r8 f n=f i
 |0,h=>absurd h (by omega)
 |n+1,h=>by
  rw[r8];by_cases e:i=n
  ·subst e;rw[if_neg (by rw[zx h0];simp)]
  ·rw[if_pos (by rw[FU h0 hf (show i<n by omega)];exact hf),FU h0 hf (by omega)]
theorem FV {f:Nat->Int}:∀{n:Nat},r8 f n=0->∀k,k<n->f k=0
 |0,_,k,h=>absurd h (by omega)
 |n+1,h,k,hk=>by
  rw[r8] at h;split at h
  ·rename_i h1;exact absurd h h1
  ·rename_i h1;by_cases e:k=n
   ·subst e;exact h
   ·exact FV (Classical.not_not.1 h1) k (by omega)
theorem vG {f:Nat->Int} {i n:Nat} {e:Int} (h0:∀k,k<i->f k=0) (hi:i<n) (he:f i=e) (hne:e≠0):r8 f n=e:=by
 rw[FU h0 (by rw[he];exact hne) hi,he]
theorem vH {f:Nat->Int} {i:Nat} (h0:∀k,k<i->f k=0) (he:f i=0):∀k,k<i+1->f k=0:=λk hk=>by
 by_cases e:k=i
 ·subst e;exact he
 ·exact h0 k (by omega)
theorem tK (x y:dh):nH x y=if x=y then 0 else if qP x y then-1 else 1:=by
 rw[O4];by_cases e:x=y
 ·subst e;simp
 ·rw[if_neg e];unfold qP;have h:¬(x.a=y.a/\x.b=y.b):=λh=>e (IG h.1 h.2)
  (repeat' split)<;>first|rfl|omega
theorem r9 (x y:Int):gn x y=if x=y then 0 else if x<y then-1 else 1:=by
 unfold gn;(repeat' split)<;>first|rfl|omega
section
variable {w:World} {M:Nat->Prop} {b o:Nat}
theorem dF.Rt {x:bP} (h:dF w M x b o):dF w M x.A b o:=dF.fst (p:=(x.A,(x.B,(x.aI,(x.ek,x.same))))) h
theorem dF.KC {x:bP} (h:dF w M x b o):dF w M (x.B,(x.aI,(x.ek,x.same))) b (o+2):=dF.snd (p:=(x.A,(x.B,(x.aI,(x.ek,x.same))))) h
theorem dF.Ru {x:bP} (h:dF w M x b o):dF w M x.B b (o+2):=dF.fst (p:=(x.B,(x.aI,(x.ek,x.same)))) h.KC
theorem dF.KD {x:bP} (h:dF w M x b o):dF w M (x.aI,(x.ek,x.same)) b (o+4):=dF.snd (p:=(x.B,(x.aI,(x.ek,x.same)))) h.KC
theorem dF.KE {x:bP} (h:dF w M x b o):dF w M x.aI b (o+4):=dF.fst (p:=(x.aI,(x.ek,x.same))) h.KD
theorem dF.Rv {x:bP} (h:dF w M x b o):dF w M (x.ek,x.same) b (o+5):=dF.snd (p:=(x.aI,(x.ek,x.same))) h.KD
theorem dF.KF {x:bP} (h:dF w M x b o):dF w M x.ek b (o+5):=dF.fst (p:=(x.ek,x.same)) h.Rv
theorem dF.ak {x:bZ} (h:dF w M x b o):dF w M x.r b o:=dF.fst (p:=(x.r,(x.ver,(x.eF,x.ch)))) h
theorem dF.KG {x:bZ} (h:dF w M x b o):dF w M (x.ver,(x.eF,x.ch)) b (o+2):=dF.snd (p:=(x.r,(x.ver,(x.eF,x.ch)))) h
theorem dF.KH {x:bZ} (h:dF w M x b o):dF w M x.ver b (o+2):=dF.fst (p:=(x.ver,(x.eF,x.ch))) h.KG
theorem dF.Rw {x:bZ} (h:dF w M x b o):dF w M (x.eF,x.ch) b (o+3):=dF.snd (p:=(x.ver,(x.eF,x.ch))) h.KG
theorem dF.Rx {x:bZ} (h:dF w M x b o):dF w M x.eF b (o+3):=dF.fst (p:=(x.eF,x.ch)) h.Rw
end
def rq (l:List bP) (i:Nat):Int:=
 if iO (l.getD i default).A (l.getD i default).B=false then 41 else if(fV (l.getD i default).aI&&fV (l.getD i default).ek)=false then 42
 else if 0<i/\¬fZ (l.getD (i-1) default) (l.getD i default)<0 then 12 else 0
def oJ (l:List bP):Int:=if 4096<l.length then 1 else r8 (rq l) l.length
theorem KI {l:List bP} {i:Nat} (hi:i<l.length) (h:iO l[i].A l[i].B=false):rq l i=41:=by unfold rq;rw[iJ hi,if_pos h]
theorem KJ {l:List bP} {i:Nat} (hi:i<l.length) (h:iO l[i].A l[i].B=true) (h2: (fV l[i].aI&&fV l[i].ek)=false):rq l i=42:=by
 unfold rq;rw[iJ hi,if_neg (by rw[h];simp),if_pos h2]
theorem KK {l:List bP} {i:Nat} (hi:i<l.length) (h:iO l[i].A l[i].B=true) (h2: (fV l[i].aI&&fV l[i].ek)=true) (h0:0<i) (h3:¬fZ (l[i-1]'(by omega)) l[i]<0):rq l i=12:=by
 unfold rq;rw[iJ hi,iJ (show i-1<l.length by omega),if_neg (by rw[h];simp),if_neg (by rw[h2];simp),if_pos ⟨h0,h3⟩]
theorem Bj {l:List bP} {i:Nat} (hi:i<l.length) (h:iO l[i].A l[i].B=true) (h2: (fV l[i].aI&&fV l[i].ek)=true) (h3:∀h0:0<i,fZ (l[i-1]'(by omega)) l[i]<0):rq l i=0:=by
 unfold rq;rw[iJ hi,iJ (show i-1<l.length by omega),if_neg (by rw[h];simp),if_neg (by rw[h2];simp),if_neg (λe=>e.2 (h3 e.1))]
theorem KL {l:List bP} {i:Nat} (hi:i<l.length) (h:rq l i=0):AX l[i]/\∀h0:0<i,fZ (l[i-1]'(by omega)) l[i]<0:=by
 unfold rq at h;rw[iJ hi,iJ (show i-1<l.length by omega)] at h;split at h
 ·exact absurd h (by decide)
 ·rename_i h1;split at h
  ·exact absurd h (by decide)
  ·rename_i h2;split at h
   ·exact absurd h (by decide)
   ·rename_i h3;have qI: (fV l[i].aI&&fV l[i].ek)=true:=by simpa using h2
    rw[Bool.and_eq_true] at qI;exact⟨⟨by simpa using h1,qI.1,qI.2⟩,λh0=>Classical.byContradiction λhn=>h3 ⟨h0,hn⟩⟩
theorem Ry {l:List bP} (h:oJ l=0):l.length<=4096/\(∀i (hi:i<l.length),AX l[i])/\∀i (hi:i+1<l.length),fZ l[i] l[i+1]<0:=by
 unfold oJ at h;split at h
 ·exact absurd h (by decide)
 ·have hz:=FV h;refine⟨by omega,λi hi=>(KL hi (hz i hi)).1,λi hi=>(KL hi (hz (i+1) hi)).2 (by omega)⟩
def oK (x:bZ):Bool:=fV x.ver&&decide (0<=x.eF)&&decide (x.eF<5)&&decide (0<=x.ch)&&decide (x.ch<=64)
theorem ux {x:bZ} (h:¬(fV x.ver=true/\0<=x.eF/\x.eF<5/\0<=x.ch/\x.ch<=64)):oK x=false:=Bool.eq_false_iff.2 λe=>h (by
 unfold oK at e;simp only[Bool.and_eq_true,decide_eq_true_eq] at e;exact⟨e.1.1.1.1,e.1.1.1.2,e.1.1.2,e.1.2,e.2⟩)
theorem KM {x:bZ} (h1:fV x.ver=true) (h2:0<=x.eF) (h3:x.eF<5) (h4:0<=x.ch): (!oK x)=decide (64<x.ch):=by
 unfold oK;rw[h1,decide_eq_true h2,decide_eq_true h3,decide_eq_true h4,Bool.true_and,Bool.true_and,Bool.true_and,Bool.true_and];by_cases h:x.ch<=64
 ·rw[decide_eq_true h,decide_eq_false (by omega)];rfl
 ·rw[decide_eq_false h,decide_eq_true (by omega)];rfl
theorem KN {n:Int} (h:1<=n/\n<=1048576):fV n=true:=decide_eq_true h
theorem Dh {n:Int} (h:¬(1<=n/\n<=1048576)):¬fV n=true:=λe=>h (of_decide_eq_true e)
def oL (l:List bZ) (i:Nat):Int:=
 if iU (l.getD i default).r=false then 41 else if oK (l.getD i default)=false then 50
 else if 0<i/\¬iF (l.getD (i-1) default) (l.getD i default)<0 then 12 else 0
theorem KO {l:List bZ} {i:Nat} (hi:i<l.length) (h:iU l[i].r=false):oL l i=41:=by unfold oL;rw[iJ hi,if_pos h]
theorem KP {l:List bZ} {i:Nat} (hi:i<l.length) (h:iU l[i].r=true) (h2:oK l[i]=false):oL l i=50:=by
 unfold oL;rw[iJ hi,if_neg (by rw[h];simp),if_pos h2]
theorem KQ {l:List bZ} {i:Nat} (hi:i<l.length) (h:iU l[i].r=true) (h2:oK l[i]=true) (h0:0<i) (h3:¬iF (l[i-1]'(by omega)) l[i]<0):oL l i=12:=by
 unfold oL;rw[iJ hi,iJ (show i-1<l.length by omega),if_neg (by rw[h];simp),if_neg (by rw[h2];simp),if_pos ⟨h0,h3⟩]
theorem Bk {l:List bZ} {i:Nat} (hi:i<l.length) (h:iU l[i].r=true) (h2:oK l[i]=true) (h3:∀h0:0<i,iF (l[i-1]'(by omega)) l[i]<0):oL l i=0:=by
 unfold oL;rw[iJ hi,iJ (show i-1<l.length by omega),if_neg (by rw[h];simp),if_neg (by rw[h2];simp),if_neg (λe=>e.2 (h3 e.1))]
theorem KR {l:List bZ} {i:Nat} (hi:i<l.length) (h:oL l i=0):CM l[i]/\∀h0:0<i,iF (l[i-1]'(by omega)) l[i]<0:=by
 unfold oL at h;rw[iJ hi,iJ (show i-1<l.length by omega)] at h;split at h
 ·exact absurd h (by decide)
 ·rename_i h1;split at h
  ·exact absurd h (by decide)
  ·rename_i h2;split at h
   ·exact absurd h (by decide)
   ·rename_i h3;have qI:oK l[i]=true:=by simpa using h2
    unfold oK at qI;simp only[Bool.and_eq_true,decide_eq_true_eq] at qI;exact⟨⟨by simpa using h1,qI.1.1.1.1,qI.1.1.1.2,qI.1.1.2,qI.1.2,qI.2⟩,λh0=>Classical.byContradiction λhn=>h3 ⟨h0,hn⟩⟩
def lp (aK:Int) (sh:List bZ) (ds:List bP):Int:=
 if aK<0\/65536<aK then 2 else if 4096<sh.length then 1 else if r8 (oL sh) sh.length≠0 then r8 (oL sh) sh.length else oJ ds
theorem KS {aK:Int} {sh:List bZ} {ds:List bP} (h:aK<0\/65536<aK):lp aK sh ds=2:=by unfold lp;rw[if_pos h]
theorem KT {aK:Int} {sh:List bZ} {ds:List bP} (h:¬(aK<0\/65536<aK)) (h2:4096<sh.length):lp aK sh ds=1:=by unfold lp;rw[if_neg h,if_pos h2]
theorem zy {aK:Int} {sh:List bZ} {ds:List bP} {i:Nat} {e:Int} (h:¬(aK<0\/65536<aK)) (h2:¬4096<sh.length) (h0:∀k,k<i->oL sh k=0) (hi:i<sh.length) (he:oL sh i=e) (hne:e≠0):lp aK sh ds=e:=by
 unfold lp;rw[if_neg h,if_neg h2,if_pos (by rw[vG h0 hi he hne];exact hne),vG h0 hi he hne]
theorem FW {aK:Int} {sh:List bZ} {ds:List bP} (h:¬(aK<0\/65536<aK)) (h2:¬4096<sh.length) (h0:∀k,k<sh.length->oL sh k=0):lp aK sh ds=oJ ds:=by
 unfold lp;rw[if_neg h,if_neg h2,if_neg (by rw[zx h0];simp)]
theorem Rz {aK:Int} {sh:List bZ} {ds:List bP} (h:lp aK sh ds=0):u_ aK sh ds:=by
 unfold lp at h;split at h
 ·exact absurd h (by decide)
 ·rename_i h1;split at h
  ·exact absurd h (by decide)
  ·rename_i h2;split at h
   ·rename_i h3;exact absurd h h3
   ·rename_i h3;have hz:=FV (Classical.not_not.1 h3);obtain⟨d1,d2,d3⟩:=Ry h;exact⟨by omega,by omega,by omega,d1,λi hi=>(KR hi (hz i hi)).1,λi hi=>(KR hi (hz (i+1) hi)).2 (by omega),d2,d3⟩
def nA (pr:Int) (av df:List Int):Prop:=av.length<1\/5<av.length\/df.length≠av.length\/¬gY pr
instance (pr:Int) (av df:List Int):Decidable (nA pr av df):=by unfold nA;infer_instance
theorem KU {pr:Int} {av df:List Int} (hA:¬av.length<1) (hB:¬5<av.length) (hC:df.length=av.length):decide (nA pr av df)=!decide (gY pr):=by
 by_cases fH:gY pr
 ·have h:¬nA pr av df:=λh=>by
   unfold nA at h;rcases h with h|h|h|h
   ·exact hA h
   ·exact hB h
   ·exact h hC
   ·exact h fH
  rw[decide_eq_false h,decide_eq_true fH];rfl
 ·rw[decide_eq_true (show nA pr av df from Or.inr (Or.inr (Or.inr fH))),decide_eq_false fH];rfl
theorem KV {pr:Int} {av df:List Int} (h:¬nA pr av df) (h2:∀k (hk:k<av.length) (hk2:k<df.length),gY av[k]/\gY df[k]):gA pr av df:=by
 unfold nA at h;have h5:¬¬gY pr:=λe=>h (.inr (.inr (.inr e)));have hl:¬av.length<1:=λe=>h (.inl e);have KW:¬5<av.length:=λe=>h (.inr (.inl e));have wY:¬df.length≠av.length:=λe=>h (.inr (.inr (.inl e)));exact⟨by omega,by omega,by omega,Classical.not_not.1 h5,λi hi=>(h2 i hi (by omega)).1,λi hi=>(h2 i (by omega) hi).2⟩
open Classical in
noncomputable def p9 (pr:Int) (av df:List Int):Int:=if gA pr av df then 0 else 40
theorem FX {pr:Int} {av df:List Int} (h:gA pr av df):p9 pr av df=0:=by unfold p9;rw[if_pos h]
theorem FY {pr:Int} {av df:List Int} (h:¬gA pr av df):p9 pr av df=40:=by unfold p9;rw[if_neg h]
def jv (lo hh:Int):Prop:=hh<1\/65536<hh\/lo< -65536\/hh<lo
instance (lo hh:Int):Decidable (jv lo hh):=by unfold jv;infer_instance
def od (lo hh:Int):Int:=if jv lo hh then 2 else 0
theorem KX {lo hh:Int} (h:¬jv lo hh):wP lo hh:=by unfold jv at h;constructor<;>omega
open Classical in
noncomputable def nk (pr:Int) (av df:List Int) (p:Int):Int:=if gA pr av df then(if p<0\/((3^av.length:Nat):Int)<=p then 2 else 0) else 40
theorem FZ {pr:Int} {av df:List Int} {p:Int} (h:¬gA pr av df):nk pr av df p=40:=by unfold nk;rw[if_neg h]
theorem F0 {pr:Int} {av df:List Int} {p:Int} (h:gA pr av df) (h2:p<0\/((3^av.length:Nat):Int)<=p):nk pr av df p=2:=by unfold nk;rw[if_pos h,if_pos h2]
theorem F1 {pr:Int} {av df:List Int} {p:Int} (h:gA pr av df) (h2:¬(p<0\/((3^av.length:Nat):Int)<=p)):nk pr av df p=0:=by unfold nk;rw[if_pos h,if_neg h2]
theorem KY {pr:Int} {av df:List Int} {p:Int} (h:nk pr av df p=0):gA pr av df/\∃q:Nat,p=q/\q<3^av.length:=by
 by_cases hW:gA pr av df
 ·by_cases h2:p<0\/((3^av.length:Nat):Int)<=p
  ·rw[F0 hW h2] at h;exact absurd h (by decide)
  ·exact⟨hW,p.toNat,by omega,by omega⟩
 ·rw[FZ hW] at h;exact absurd h (by decide)
def uy (pr:Int) (av df:List Int) (lo hh:Int) (p:Int) (fl:List Int) (ok:Bool):Prop:=
 ((nk pr av df p≠0\/jv lo hh)/\ok=false/\fl=[])\/((nk pr av df p=0/\¬jv lo hh)/\sL pr av df lo hh p.toNat fl ok)
theorem uy.uniq {pr:Int} {av df:List Int} {lo hh:Int} {p:Int} {fl rm:List Int} {ok zu:Bool} (h:uy pr av df lo hh p fl ok) (h':uy pr av df lo hh p rm zu):fl=rm/\ok=zu:=by
 rcases h with⟨a,rfl,rfl⟩|⟨a,b⟩<;>rcases h' with⟨a',rfl,rfl⟩|⟨a',b'⟩
 ·exact⟨rfl,rfl⟩
 ·exact absurd a (by rintro(h|h);exact h a'.1;exact a'.2 h)
 ·exact absurd a' (by rintro(h|h);exact h a.1;exact a.2 h)
 ·exact b.uniq b'
def kG (av:List Int) (ver:Int) (vals:List ByteArray):Bool:=decide (vals.length=av.length)&&fV ver&&!(vals.any λs=>decide (64<s.size))
theorem RB {av:List Int} {ver:Int} {vals:List ByteArray} (h:vals.length≠av.length):kG av ver vals=false:=by unfold kG;rw[decide_eq_false h];rfl
theorem RC {av:List Int} {ver:Int} {vals:List ByteArray} (h:¬fV ver=true):kG av ver vals=false:=by unfold kG;rw[Bool.eq_false_iff.2 h];simp
theorem F2 {av:List Int} {ver:Int} {vals:List ByteArray} (h:vals.length=av.length) (h2:fV ver=true):kG av ver vals=!(vals.any λs=>decide (64<s.size)):=by unfold kG;rw[decide_eq_true h,h2];rfl
theorem Di {av:List Int} {ver:Int} {vals:List ByteArray} (h:kG av ver vals=true):vals.length=av.length/\fV ver=true/\∀i (hi:i<vals.length),(vals[i]).size<=64:=by
 unfold kG at h;simp only[Bool.and_eq_true,decide_eq_true_eq,Bool.not_eq_true',List.any_eq_false] at h;exact⟨h.1.1,h.1.2,λi hi=>by have:=h.2 _ (List.getElem_mem hi);omega⟩
def p_ (A B:dh) (dy dJ:Int):Bool:=iO A B&&decide (A.b=dy)&&decide (B.b=dJ)
theorem Dj {A B:dh} {dy dJ:Int} (h:¬iO A B=true):p_ A B dy dJ=false:=by unfold p_;rw[Bool.eq_false_iff.2 h];rfl
theorem KZ {A B:dh} {dy dJ:Int} (h:A.b≠dy):p_ A B dy dJ=false:=by unfold p_;rw[decide_eq_false h];simp
theorem K0 {A B:dh} {dy dJ:Int} (h:iO A B=true) (h1:¬A.b≠dy): (!p_ A B dy dJ)=decide (B.b≠dJ):=by
 unfold p_;rw[h,decide_eq_true (Classical.not_not.1 h1),Bool.true_and,Bool.true_and];by_cases e:B.b=dJ
 ·rw[decide_eq_true e,decide_eq_false (by simp[e])];rfl
 ·rw[decide_eq_false e,decide_eq_true e];rfl
theorem RD {A B:dh} {dy dJ:Int} (h:p_ A B dy dJ=true):iO A B=true/\A.b=dy/\B.b=dJ:=by
 unfold p_ at h;simp only[Bool.and_eq_true,decide_eq_true_eq] at h;exact⟨h.1.1,h.1.2,h.2⟩
theorem RE {A B:dh} (h:¬iU A=true):¬iO A B=true:=λe=>h (by unfold iO at e;simp only[Bool.and_eq_true] at e;exact e.1.1)
theorem RF {A B:dh} (h:¬iU B=true):¬iO A B=true:=λe=>h (by unfold iO at e;simp only[Bool.and_eq_true] at e;exact e.1.2)
theorem RG {A B:dh} (h:B.a<=A.a):¬iO A B=true:=λe=>by unfold iO at e;simp only[Bool.and_eq_true,decide_eq_true_eq] at e;omega
theorem RH {A B:dh} (h:iU A=true) (h2:iU B=true) (h3:¬B.a<=A.a):iO A B=true:=by unfold iO;rw[h,h2,decide_eq_true (by omega)];rfl
noncomputable def mS (aK:Int) (sh:List bZ) (ds:List bP) (pr:Int) (av df:List Int) (lo hh:Int) (A B:dh) (dy bH:Int) (cw:List ByteArray) (dJ bJ:Int) (cu:List ByteArray):Int:=
 if lp aK sh ds≠0 then lp aK sh ds else if p9 pr av df≠0 then p9 pr av df else if od lo hh≠0 then od lo hh
 else if p_ A B dy dJ=false then 41 else if(kG av bH cw&&kG av bJ cu)=false then 7 else 0
section
variable {aK:Int} {sh:List bZ} {ds:List bP} {pr:Int} {av df:List Int} {lo hh p:Int} {A B:dh} {dy bH:Int} {cw:List ByteArray} {dJ bJ:Int} {cu:List ByteArray} {fl rm:List Int} {e e':Int}
theorem Bl (h:lp aK sh ds≠0):mS aK sh ds pr av df lo hh A B dy bH cw dJ bJ cu=lp aK sh ds:=by unfold mS;rw[if_pos h]
theorem Bm (h:¬lp aK sh ds≠0) (h2:p9 pr av df≠0):mS aK sh ds pr av df lo hh A B dy bH cw dJ bJ cu=p9 pr av df:=by unfold mS;rw[if_neg h,if_pos h2]
theorem Bn (h:¬lp aK sh ds≠0) (h2:¬p9 pr av df≠0) (h3:od lo hh≠0):mS aK sh ds pr av df lo hh A B dy bH cw dJ bJ cu=od lo hh:=by unfold mS;rw[if_neg h,if_neg h2,if_pos h3]
theorem Bo (h:¬lp aK sh ds≠0) (h2:¬p9 pr av df≠0) (h3:¬od lo hh≠0) (h4: (!p_ A B dy dJ)=true):mS aK sh ds pr av df lo hh A B dy bH cw dJ bJ cu=41:=by
 unfold mS;rw[if_neg h,if_neg h2,if_neg h3,if_pos (by rw[Bool.not_eq_true'] at h4;exact h4)]
theorem Bp (h:¬lp aK sh ds≠0) (h2:¬p9 pr av df≠0) (h3:¬od lo hh≠0) (h4: (!p_ A B dy dJ)=false) (h5: (!(kG av bH cw&&kG av bJ cu))=true):mS aK sh ds pr av df lo hh A B dy bH cw dJ bJ cu=7:=by
 rw[Bool.not_eq_false'] at h4;rw[Bool.not_eq_true'] at h5;unfold mS;rw[if_neg h,if_neg h2,if_neg h3,if_neg (by rw[h4];simp),if_pos h5]
theorem Bq (h:¬lp aK sh ds≠0) (h2:¬p9 pr av df≠0) (h3:¬od lo hh≠0) (h4: (!p_ A B dy dJ)=false) (h5: (!(kG av bH cw&&kG av bJ cu))=false):mS aK sh ds pr av df lo hh A B dy bH cw dJ bJ cu=0:=by
 rw[Bool.not_eq_false'] at h4;rw[Bool.not_eq_false'] at h5;unfold mS;rw[if_neg h,if_neg h2,if_neg h3,if_neg (by rw[h4];simp),if_neg (by rw[h5];simp)]
theorem RI (h:mS aK sh ds pr av df lo hh A B dy bH cw dJ bJ cu=0):u_ aK sh ds/\gA pr av df/\¬jv lo hh/\(iO A B=true/\A.b=dy/\B.b=dJ)/\
  (cw.length=av.length/\fV bH=true/\∀i (hi:i<cw.length),(cw[i]).size<=64)/\(cu.length=av.length/\fV bJ=true/\∀i (hi:i<cu.length),(cu[i]).size<=64):=by
 by_cases h1:lp aK sh ds=0
 ·by_cases h2:p9 pr av df=0
  ·by_cases h3:od lo hh=0
   ·cases h4:p_ A B dy dJ with
    |false=>rw[Bo (by simp[h1]) (by simp[h2]) (by simp[h3]) (by rw[h4];rfl)] at h;exact absurd h (by decide)
    |true=>
     cases h5: (kG av bH cw&&kG av bJ cu) with
     |false=>rw[Bp (by simp[h1]) (by simp[h2]) (by simp[h3]) (by rw[h4];rfl) (by rw[h5];rfl)] at h;exact absurd h (by decide)
     |true=>
      rw[Bool.and_eq_true] at h5;refine⟨Rz h1,Classical.byContradiction λhn=>?_,λhb=>?_,RD h4,Di h5.1,Di h5.2⟩
      ·rw[FY hn] at h2;exact absurd h2 (by decide)
      ·unfold od at h3;rw[if_pos hb] at h3;exact absurd h3 (by decide)
   ·rw[Bn (by simp[h1]) (by simp[h2]) h3] at h;exact absurd h h3
  ·rw[Bm (by simp[h1]) h2] at h;exact absurd h h2
 ·rw[Bl h1] at h;exact absurd h h1
end
def tL (E:Int) (pr:Int) (av df:List Int) (lo hh p:Int) (fl:List Int) (e:Int):Prop:=
 (E≠0/\e=E/\fl=[])\/(E=0/\∃ok:Bool,uy pr av df lo hh p fl ok/\e=if ok then 0 else 13)
theorem tL.uniq {E pr:Int} {av df:List Int} {lo hh p:Int} {fl rm:List Int} {e e':Int} (h:tL E pr av df lo hh p fl e) (h':tL E pr av df lo hh p rm e'):fl=rm/\e=e':=by
 rcases h with⟨a,rfl,rfl⟩|⟨a,ok,b,rfl⟩<;>rcases h' with⟨a',rfl,rfl⟩|⟨a',zu,b',rfl⟩
 ·exact⟨rfl,rfl⟩
 ·exact absurd a' a
 ·exact absurd a a'
 ·obtain⟨rfl,rfl⟩:=b.uniq b';exact⟨rfl,rfl⟩
theorem uy.no {pr:Int} {av df:List Int} {lo hh p:Int} {fl:List Int} (h:uy pr av df lo hh p fl false):fl=[]:=by
 rcases h with⟨_,_,h⟩|⟨_,h⟩
 ·exact h
 ·exact sL.no h
section
variable {av df:List Int} {p n:Nat} {gs:List dh}
def oe (gs:List dh) (k n:Nat):List Bool:=(List.range n).map (nj gs k)
theorem mT (gs:List dh) (k n:Nat): (oe gs k n).length=n:=by simp[oe]
theorem uz {k i:Nat} (h:i<(oe gs k n).length): (oe gs k n)[i]=nj gs k i:=by simp[oe]
theorem RJ:List.replicate n false=oe gs 0 n:=by
 apply List.ext_getElem
 ·simp[oe]
 ·intro i h1 h2;rw[List.getElem_replicate,uz];simp[nj]
theorem RK (h:gp jQ (gF av df p n) gs) {k:Nat} (hk:k<gs.length) {b:Nat} (e:gs[k].a=b): (oe gs k n).set b true=oe gs (k+1) n:=by
 apply List.ext_getElem
 ·simp[oe]
 ·intro i h1 h2;rw[List.getElem_set,uz,uz,Rk h hk e];by_cases h3:b=i
  ·rw[if_pos h3,if_pos h3.symm]
  ·rw[if_neg h3,if_neg (λe=>h3 e.symm)]
end
section
variable {sh z m:List bZ} {r r2 A B:dh} {ver bJ bH:Int} {vals cw cu:List ByteArray} {fl:List Int} {k:Nat}
theorem K1 (h:∀f:Int,jE z r ver f=jE sh r ver f):∀k,dw z r ver vals fl k=dw sh r ver vals fl k
 |0=>rfl
 |k+1=>by rw[dw,dw,K1 h k,h]
theorem K2 (hne:r≠r2) (hp:z.Perm (sh++dw sh r ver vals fl k)) {cu:List ByteArray} {j:Nat}:dw z r2 bJ cu fl j=dw sh r2 bJ cu fl j:=
 K1 (λf=>by
  rw[Q8 hp,Q9];have:jE (dw sh r ver vals fl k) r2 bJ f=false:=Bool.eq_false_iff.2 λe=>by
   obtain⟨x,h1,h2,_⟩:=De.1 e;obtain⟨_,_,_,_,rfl⟩:=Dc.1 h1;exact hne h2
  rw[this,Bool.or_false]) j
def qa (l:List bZ):Prop:=l.Pairwise λx y=>iF x y<0
theorem qa.of (h:∀i (h:i+1<sh.length),iF sh[i] sh[i+1]<0):qa sh:=
 List.pairwise_iff_getElem.2 λi j hi hj hij=>Kp h hij hj
theorem qa.uniq (h:qa sh) (h':qa z) (hp:sh.Perm z):sh=z:=by
 classical
 refine IE (le:=λx y=>decide (ow x y)) (λx y h1 h2=>?_) hp (h.imp λe=>decide_eq_true (pT.1 e)) (h'.imp λe=>decide_eq_true (pT.1 e));have h1:=pT.2 (of_decide_eq_true h1);have h2:=wU.2 (of_decide_eq_true h2);omega
def mU:List bZ->bZ->List bZ
 |[],x=>[x]
 |y::l,x=>if iF y x<0 then y::mU l x else x::y::l
theorem K3:∀{l:List bZ} {x:bZ} {k:Nat},k<=l.length->(∀i (hi:i<k) (h:i<l.length),iF l[i] x<0)->(∀h:k<l.length,¬iF l[k] x<0)->l.take k++x::l.drop k=mU l x
 |[],x,k,_,_,_=>by simp[mU]
 |y::l,x,0,_,_,h=>by
  have:=h (by simp);rw[mU,if_neg (show¬iF y x<0 from this)];rfl
 |y::l,x,k+1,hk,h0,h=>by
  have h1:=h0 0 (by omega) (by simp);rw[mU,if_pos (show iF y x<0 from h1),<-K3 (l:=l) (x:=x) (k:=k) (by simpa using hk) (λi hi hl=>h0 (i+1) (by omega) (by simp;omega)) (λhl=>h (by simp;omega))];rfl
theorem Dl:∀(l:List bZ) (x:bZ),(mU l x).Perm (x::l)
 |[],x=> .refl _
 |y::l,x=>by
  rw[mU];split
  ·exact((Dl l x).cons y).trans (List.Perm.swap x y l)
  ·exact .refl _
theorem F4 (l:List bZ) (x:bZ): (mU l x).length=l.length+1:=by rw[(Dl l x).length_eq];rfl
theorem K4:∀{l:List bZ} {x:bZ},qa l->(∀y∈l,iF y x≠0)->qa (mU l x)
 |[],x,_,_=>by simp[mU,qa]
 |y::l,x,h,hn=>by
  have hc:=List.pairwise_cons.1 h;rw[mU];split
  ·rename_i hl;refine List.pairwise_cons.2 ⟨λu hu=>?_,K4 hc.2 λu hu=>hn u (by simp[hu])⟩;rcases List.mem_cons.1 ((Dl l x).mem_iff.1 hu) with rfl|hu
   ·exact hl
   ·exact hc.1 u hu
  ·rename_i hl;have hxy:iF x y<0:=by
    have h0:=hn y (by simp);exact pT.2 (wU.1 (by omega))
   refine List.pairwise_cons.2 ⟨λu hu=>?_,h⟩;rcases List.mem_cons.1 hu with rfl|hu
   ·exact hxy
   ·exact pT.2 (Kn (pT.1 hxy) (pT.1 (hc.1 u hu)))
theorem F5:∀{now l:List bZ},qa l->mR (l++now)->qa (now.foldl mU l)/\(now.foldl mU l).Perm (l++now)
 |[],l,h,_=>⟨h,by simp⟩
 |x::now,l,h,hd=>by
  have hp: (mU l x++now).Perm (l++x::now):=((Dl l x).append_right now).trans (by simpa using(List.perm_middle (a:=x) (l₁:=l) (l₂:=now)).symm);have hd2:mR (mU l x++now):=(hp.pairwise_iff (λ{a b} (h:¬_) e=>h ⟨e.1.symm,e.2.1.symm,e.2.2.symm⟩)).2 hd;have ha:qa (mU l x):=K4 h λy hy e=>(List.pairwise_append.1 hd).2.2 y hy x (by simp) (Db.1 e);exact⟨(F5 ha hd2).1,(F5 ha hd2).2.trans hp⟩
theorem K5:∀(now l:List bZ),(now.foldl mU l).length=l.length+now.length
 |[],l=>rfl
 |x::now,l=>by rw[List.foldl_cons,K5 now,F4,List.length_cons];omega
end
def vI (E:Int) (pr:Int) (av df:List Int) (lo hh p:Int) (aK:Int) (sh:List bZ) (ds:List bP) (A B:dh) (cw cu:List ByteArray) (bH bJ:Int) (iD:Int) (ia:List bZ) (ds':List bP) (now:List bZ) (e:Int):Prop:=
 ∃fl iw,tL E pr av df lo hh p fl iw/\
  ((iw≠0/\e=iw/\iD=0/\ia=[]/\ds'=[]/\now=[])\/
   (iw=0/\aK<eP (dw sh A bH cw fl cw.length)+eP (dw sh B bJ cu fl cu.length)/\e=45/\iD=0/\ia=[]/\ds'=[]/\now=[])\/
   (iw=0/\¬aK<eP (dw sh A bH cw fl cw.length)+eP (dw sh B bJ cu fl cu.length)/\e=0/\iD=aK-(eP (dw sh A bH cw fl cw.length)+eP (dw sh B bJ cu fl cu.length))/\ds'=ds/\
    now=dw sh A bH cw fl cw.length++dw sh B bJ cu fl cu.length/\qa ia/\ia.Perm (sh++now)))
section
variable {E pr:Int} {av df:List Int} {lo hh p aK:Int} {sh:List bZ} {ds:List bP} {A B:dh} {cw cu:List ByteArray} {bH bJ iD zz:Int} {ia zC now K6:List bZ} {ds' xx:List bP} {e e':Int} {fl:List Int}
theorem vI.uniq (h:vI E pr av df lo hh p aK sh ds A B cw cu bH bJ iD ia ds' now e) (h':vI E pr av df lo hh p aK sh ds A B cw cu bH bJ zz zC xx K6 e'):
  iD=zz/\ia=zC/\ds'=xx/\now=K6/\e=e':=by
 obtain⟨fl,iw,hc,h⟩:=h;obtain⟨rm,K7,rJ,h'⟩:=h';obtain⟨rfl,rfl⟩:=hc.uniq rJ;rcases h with⟨a,rfl,rfl,rfl,rfl,rfl⟩|⟨a,b,rfl,rfl,rfl,rfl,rfl⟩|⟨a,b,rfl,rfl,rfl,rfl,c,d⟩<;>
  rcases h' with⟨a',rfl,rfl,rfl,rfl,rfl⟩|⟨a',b',rfl,rfl,rfl,rfl,rfl⟩|⟨a',b',rfl,rfl,rfl,rfl,c',d'⟩<;>
  first
  |exact⟨rfl,rfl,rfl,rfl,rfl⟩
  |exact absurd a' a
  |exact absurd a a'
  |exact absurd b b'
  |exact absurd b' b
  |exact⟨rfl,c.uniq c' (d.trans d'.symm),rfl,rfl,rfl⟩
theorem vI.len (h:vI E pr av df lo hh p aK sh ds A B cw cu bH bJ iD ia ds' now e):ia.length<=sh.length+(cw.length+cu.length)/\ds'.length<=ds.length/\now.length<=cw.length+cu.length:=by
 obtain⟨fl,iw,hc,h⟩:=h;have l1:=uc sh A bH cw fl cw.length;have l2:=uc sh B bJ cu fl cu.length;rcases h with⟨a,rfl,rfl,rfl,rfl,rfl⟩|⟨a,b,rfl,rfl,rfl,rfl,rfl⟩|⟨a,b,rfl,rfl,rfl,rfl,c,d⟩
 ·simp
 ·simp
 ·have:=d.length_eq;simp only[List.length_append] at*;omega
theorem tL.fine {aK:Int} {sh:List bZ} {ds:List bP} {dy dJ:Int} (h:tL (mS aK sh ds pr av df lo hh A B dy bH cw dJ bJ cu) pr av df lo hh p fl 0):u_ aK sh ds/\gA pr av df/\A≠B/\I7 av cw bH/\I7 av cu bJ/\sL pr av df lo hh p.toNat fl true:=by
 rcases h with⟨a,b,_⟩|⟨a,ok,b,c⟩
 ·exact absurd b.symm a
 ·obtain⟨r,w,t,⟨hc,_,_⟩,q1,q2⟩:=RI a;cases ok with
  |false=>exact absurd c (by decide)
  |true=>
   refine⟨r,w,λe=>?_,q1,q2,?_⟩
   ·subst e;unfold iO at hc;simp at hc
   ·rcases b with⟨_,x,_⟩|⟨_,x⟩
    ·cases x
    ·exact x
end
def og (cs:Array Value) (o:Nat) (news:List Value):Array Value:=(cs.toList.take o++news++cs.toList.drop (o+news.length)).toArray
section
variable {cs lg:Array Value} {news:List Value} {o q n p L r:Nat}
theorem sV (h:p+L<=cs.size): (cB cs p L).length=L:=by simp only[cB,List.length_take,List.length_drop,Array.length_toList];omega
theorem Dm (h:o+news.length<=cs.size): (og cs o news).size=cs.size:=by
 simp only[og,List.size_toArray,List.length_append,List.length_take,List.length_drop,Array.length_toList];omega
theorem Dn (hb:o+news.length<=cs.size) (h:o<=q) (hk:q+n<=o+news.length):cB (og cs o news) q n=(news.drop (q-o)).take n:=by
 have nY: (cs.toList.take o).length=o:=by rw[List.length_take,Array.length_toList];omega
 apply List.ext_getElem?;intro j;simp only[cB,og,List.getElem?_take,List.getElem?_drop];split
 ·rw[List.append_assoc,List.getElem?_append_right (by omega),List.getElem?_append_left (by omega),nY];congr 1;omega
 ·rfl
theorem zD (hb:o+news.length<=cs.size) (h:q+n<=o\/o+news.length<=q):cB (og cs o news) q n=cB cs q n:=by
 have nY: (cs.toList.take o).length=o:=by rw[List.length_take,Array.length_toList];omega
 apply List.ext_getElem?;intro j;simp only[cB,og,List.getElem?_take,List.getElem?_drop];split
 ·rename_i hj;rcases h with h|h
  ·rw[List.append_assoc,List.getElem?_append_left (by omega),List.getElem?_take,if_pos (by omega)]
  ·rw[List.getElem?_append_right (by rw[List.length_append];omega),List.length_append,nY,List.getElem?_drop];congr 1;omega
 ·rfl
theorem K8 (h:r+n<=L): ((cB cs p L).drop r).take n=cB cs (p+r) n:=by
 apply List.ext_getElem?;intro j;simp only[cB,List.getElem?_take,List.getElem?_drop];split
 ·rw[if_pos (by omega)];congr 1;omega
 ·rfl
theorem cells_one (hn:0<n) (m:Nat) (hs:p+m*n<=cs.size) (h:∀k,k<m->∀u∈cB cs (p+k*n) n,u.oneCell'=true):∀u∈cB cs p (m*n),u.oneCell'=true:=λu hu=>by
 obtain⟨q,hq,rfl⟩:=List.mem_iff_getElem.1 hu;have K9:q<m*n:=by rw[sV hs] at hq;exact hq
 have hk:q/n<m:=(Nat.div_lt_iff_lt_mul hn).2 K9;refine h (q/n) hk _ ?_;apply List.mem_iff_getElem?.2;have hmod:=Nat.mod_lt q hn;refine⟨q%n,?_⟩;have e: (cB cs p (m*n))[q]?=some (cB cs p (m*n))[q]:=List.getElem?_eq_getElem hq;rw[<-e];simp only[cB,List.getElem?_take,if_pos hmod,if_pos K9,List.getElem?_drop];congr 1;have:=Nat.div_add_mod q n;rw[Nat.mul_comm] at this;omega
end
section
variable {P:Program} {N:Nat} {env:Env} {w:World} {C:Nat->Nat} {t ti e e':TypeId} {y z:Operand} {g g2 o p dl Dp sl sc m n bytes j k l c:Nat} {cs lg:Array Value} {kd:IntKind} {zJ:Int}
theorem Dq (hx:ev env y=some (.slice (some ⟨g,o,none⟩) dl Dp)) (hy:ev env z=some (.slice (some ⟨g2,p,none⟩) sl sc)) (hrow:o_ P t e n bytes=true) (hg:ck w C j g (.cells cs e)) (hg2:w.heap[g2]?=some (.cells lg e)) (hm:Nat.min sl dl=m)
  (hfit:o+m*n<=cs.size) (K_:p+m*n<=lg.size) (h1:∀u∈cB lg p (m*n),u.oneCell'=true):
  iY P N env (.call {callee:=.builtin .copy,args:=#[y,z],argTypes:=#[t,t]}) w (λv w'=>aH [j] w C w' C/\ck w' C j g (.cells (og cs o (cB lg p (m*n))) e)/\∀b,b≠g->w'.heap[b]?=w.heap[b]?):=qm λρ hρ gi ic=>by
 obtain⟨i,fW,hu,hi,hsi,hby,hz,hzs⟩:=sB hrow;have hl: (cB lg p (m*n)).length=m*i.size:=by rw[sV K_,hsi]
 have hf:=run_firstCells_some (P:=P) w i.size m ⟨g2,p,none⟩ sl sc (cB lg p (m*n)) hl (λq u hq=>by
  have CX:q<m*n:=by rw[<-sV K_];exact(List.getElem?_eq_some_iff.1 hq).1
  rw[oW,cell_of_row w g2 (p+q) lg e (0,0) hg2,<-hq];simp only[cB,List.getElem?_take,if_pos CX,List.getElem?_drop];simp)
 have hst:=run_storeCells_at P g o e (cB lg p (m*n)) 0 cs w hg.at_ (by rw[hl,hsi];simpa using hfit) h1;simp only[Nat.add_zero] at hst;have yt:=EA (w:=w) (cs:=og cs o (cB lg p (m*n))) hg.at_;refine⟨goInt m,w.setRow g (og cs o (cB lg p (m*n))),.inl ?_,⟨yt.ext.mono (λb hb h=>by rw[show b=g from h,hg.col];simp),λ_ _=>rfl⟩,⟨hg.col,yt.at_⟩,λb hb=>setRow_other w g b _ hb⟩;unfold execOp;rw[ic];simp[hρ _ _ hx,hρ _ _ hy,resolve,invoke,builtin,Builtin.copy_,run_underlying hu,sizeOf,typeInfo,hi,Builtin.lenOf,hm,hf,hst,og]
theorem vJ (hy:ev env y=some (.slice (some ⟨g,0,none⟩) l c)) (hf:nE P t=some (e',n)) (hz:ev env z=some (.int kd zJ)) (F6:zJ=k) (h1:k<=l) (h2:k<c) (w':World):
  ew P N env (.slice t y (some z) none none) w' (.slice (some ⟨g,k*n,none⟩) (l-k) (c-k)):=mk' λρ hρ gi ho=>by
 subst F6;unfold nE at hf;split at hf
 ·rename_i e1 hu;split at hf
  ·rename_i n' hn;simp only[Option.some.injEq,Prod.mk.injEq] at hf;obtain⟨rfl,rfl⟩:=hf;have hb:=Cu (P:=P) (kd:=kd) (i:=(k:Int)) (y:=l) (code:=.sliceB) (w:=w') (by omega) (by omega);have hne:¬c=k:=by omega
   unfold execOp;rw[ho];simp[hρ _ _ hy,hρ _ _ hz,Instr.sliceAt,Instr.slice,Instr.sliceBounds,run_underlying hu,oq hn,hb,hne,oW]
  ·cases hf
 ·cases hf
theorem La (hy:ev env y=some (.slice (some ⟨g,0,none⟩) l c)) (hf:nE P t=some (e',n)) (hz:ev env z=some (.int kd zJ)) (F6:zJ=k) (h1:k<=c) (w':World):
  ew P N env (.slice t y none (some z) none) w' (.slice (some ⟨g,0,none⟩) k c):=mk' λρ hρ gi ho=>by
 subst F6;unfold nE at hf;split at hf
 ·rename_i e1 hu;split at hf
  ·rename_i n' hn;simp only[Option.some.injEq,Prod.mk.injEq] at hf;obtain⟨rfl,rfl⟩:=hf;have hb:=Cu (P:=P) (kd:=kd) (i:=(k:Int)) (y:=c) (code:=.sliceAcap) (w:=w') (by omega) (by omega);unfold execOp;rw[ho];simp[hρ _ _ hy,hρ _ _ hz,Instr.sliceAt,Instr.slice,Instr.sliceBounds,run_underlying hu,oq hn,hb,oW]
  ·cases hf
 ·cases hf
theorem RL {r:Nat} (hF:bA w C) (hy:ev env y=some (.slice (some ⟨g,0,none⟩) k c)) (hz:ev env z=some (.int .i64 zJ)) (RM:zJ=r) (hrow:o_ P t e n bytes=true) (E3:P.underlying ti=some (.int .i64)) (hg:w.heap[g]?=some (.cells cs e)) (hk:k*n<=cs.size)
  (hn:0<n) (h0:0<r) (q_:c<k+r) (xy: (k+r)*bytes<=140737488355328) (h63:k+r<=140737488355328) (j:Nat):
  iY P N env (.call {callee:=.builtin .append,args:=#[y,z],argTypes:=#[t,ti]}) w (λv w'=>∃bL g2 c2 lg,v=.slice (some ⟨g2,0,none⟩) (k+r) c2/\aH [] w C w' bL/\bA w' bL/\ck w' bL j g2 (.cells lg e)/\w.heap.size<=g2/\lg.size=c2*n/\k+r<=c2/\
   ∀q,q+n<=k*n->cB lg q n=cB cs q n):=qm λρ hρ gi ic=>by
 subst RM;obtain⟨i,fW,hu,hi,hsi,hby,yD,hzs⟩:=sB hrow;have hl: (cB cs 0 (k*n)).length=k*i.size:=by rw[sV (by omega),hsi]
 have hold:=run_firstCells_some (P:=P) w.drew i.size k ⟨g,0,none⟩ k c (cB cs 0 (k*n)) hl (λq u hq=>by
  have CX:q<k*n:=by rw[<-sV (cs:=cs) (p:=0) (L:=k*n) (by omega)];exact(List.getElem?_eq_some_iff.1 hq).1
  rw[oW,show w.drew.cell? ⟨g,0+q,none⟩=w.cell? ⟨g,0+q,none⟩ from rfl,cell_of_row w g (0+q) cs e (0,0) hg,<-hq];simp only[cB,List.getElem?_take,if_pos CX,List.getElem?_drop];simp)
 have RN:r*i.bytes<=281474976710656:=by
  have:r*i.bytes<=(k+r)*i.bytes:=Nat.mul_le_mul_right _ (by omega);rw[hby] at this⊢;omega
 have hr:=Lib.run_append_grow_zeros (P:=P) w t ti gi.type e i fW .i64 .i64 hu E3 hi yD (some ⟨g,0,none⟩) k c (cB cs 0 (k*n)) hold r h0 (by rw[hsi];exact hn) q_ (by omega) RN (growslice_fits q_ (by rw[hby];exact xy));have hge:=grownCap_ge w (k+r) c e;obtain⟨cap,hcap⟩:∃cap,cap=grownCap w (k+r) c e:=⟨_,rfl⟩
 rw[<-hcap] at hr hge;have wT:=tW w (.cells ((cB cs 0 (k*n)).toArray++Builtin.zeroCells fW.cells r++Builtin.zeroCells fW.cells (cap-(k+r))) e (0,0));obtain⟨bL,h1,h2,h3⟩:=wT.own hF j;refine⟨_,_,.inl ?_,bL,_,cap,_,rfl,h1,h3,h2,Nat.le_refl _,?_,hge,λq hq=>?_⟩
 ·unfold execOp;rw[ic];simp[hρ _ _ hy,hρ _ _ hz,resolve,invoke,builtin,hr]
 ·rw[Array.size_append,Array.size_append,size_zeroCells,size_zeroCells,hzs,List.size_toArray,sV (by omega),<-Nat.add_mul,<-Nat.add_mul];congr 1;omega
 ·have yQ: (cB cs 0 (k*n)).length=k*n:=sV (by omega);apply List.ext_getElem?;intro x;simp only[cB,List.getElem?_take,List.getElem?_drop];split
  ·rw[Array.toList_append,Array.toList_append,List.append_assoc,List.getElem?_append_left (by simp only[cB] at yQ;rw[yQ];omega)];rw[List.getElem?_take,if_pos (by omega),List.getElem?_drop];congr 1;omega
  ·rfl
theorem RO {f:FuncId} {fn:Func} {ts:Array TypeId} {tR:TypeId} {cx:Array Value} {aP la ca:Nat} (hf:P.funcs[f]?=some fn) (hname: (fn.name=="runtime.NumGoroutine")=false) (hb:fn.body.isNone=true) (hn:Extern.findNext fn=none) (he:Extern.find fn=some (Extern.SlicesOverlaps.overlaps #[t,t] #[tR]))
  (hx:ev env y=some (.slice (some ⟨aP,0,none⟩) la ca)) (hy:ev env z=some (.slice (some ⟨g,o,none⟩) dl Dp)) (hne:aP≠g) (hrow:o_ P t e n bytes=true) (zK:w.heap[aP]?=some (.cells cx e)) (hg:w.heap[g]?=some (.cells cs e)) (hcs:cs.size≠0):
  iY P N env (.call {callee:=.value (.func f),args:=#[y,z],argTypes:=ts}) w (λv w'=>v=.bool false/\w'=w):=qm λρ hρ gi ic=>by
 obtain⟨i,fW,hu,hi,hsi,hby,hz,hzs⟩:=sB hrow;have hr:=Lib.run_overlaps_apart (P:=P) w t tR e hu n (λw=>by simp[sizeOf,typeInfo,hi,hsi]) ⟨aP,0,none⟩ ⟨g,o,none⟩ la ca dl Dp hne e e cx.size cs.size
  (by simp[World.shape?,zK]) (by simp[World.shape?,hg]) hcs (frozen_of_row w aP 0 cx e zK) (frozen_of_row w aP cx.size cx e zK)
 refine⟨_,_,.inl ?_,rfl,rfl⟩;unfold execOp;rw[ic];have hc: (callFunc f #[.slice (some ⟨aP,0,none⟩) la ca,.slice (some ⟨g,o,none⟩) dl Dp]).run P w=.ok (.value (.bool false)) w:=by
  rw[run_callFunc_extern hf hname hb hn he,hr];rfl
 simp[hρ _ _ hx,hρ _ _ hy,hρ (.func f) (.func (.func f) #[] #[]) rfl,resolve,Deferred.ofValue,invoke,hc]
end
end Go.K
namespace Go.K
open bF
section
variable {w:World} {C:Nat->Nat} {j g cap T i:Nat} {cs F:Array Value} {l:List bP} {x:bP}
theorem Lb (hg:ck w C j g (.cells cs T)) (hj:j≠0) (hle:l.length<=cap) (hsz:cs.size=cap*7) (hrow:∀k (hk:k<l.length),cB cs (k*7) 7=fk l[k]):cC w C j T (.slice (some ⟨g,0,none⟩) l.length cap) l:=
 ⟨.inr ⟨g,cap,cs,rfl,by unfold aA;rw[hg.col];exact hj,hg.at_,hle,hsz,λk hk=>tC.2 (hrow k hk)⟩,λb hb=>by simp only[fE,Value.ownBlock,Option.some.injEq] at hb;subst hb;exact hg.col⟩
theorem Lc (hi:i<l.length) (hrow:∀k (hk:k<l.length),cB cs (k*7) 7=fk l[k]) (h1:∀k,k<i->cB F (k*7) 7=cB cs (k*7) 7) (h2:cB F (i*7) 7=fk x)
  (h3:∀k,i<=k->k<l.length->cB F ((k+1)*7) 7=cB cs (k*7) 7):∀k (hk:k<(l.take i++[x]++l.drop i).length),cB F (k*7) 7=fk (l.take i++[x]++l.drop i)[k]:=λk hk=>by
 have nY: (l.take i).length=i:=by rw[List.length_take];omega
 by_cases e1:k<i
 ·rw[h1 k e1,hrow k (by omega)];congr 1;rw[List.getElem_append_left (by simp only[List.length_append,nY,List.length_cons,List.length_nil];omega),List.getElem_append_left (by omega),List.getElem_take]
 ·by_cases e2:k=i
  ·subst e2;rw[h2];congr 1;rw[List.getElem_append_left (by simp only[List.length_append,nY,List.length_cons,List.length_nil];omega),List.getElem_append_right (by omega)];simp
  ·have dQ:k-1<l.length:=by simp only[List.length_append,nY,List.length_cons,List.length_nil,List.length_drop] at hk;omega
   have:=h3 (k-1) (by omega) dQ;rw[show k-1+1=k from by omega] at this;rw[this,hrow (k-1) dQ];congr 1;rw[List.getElem_append_right (by simp only[List.length_append,nY,List.length_cons,List.length_nil];omega),List.getElem_drop];simp only[List.length_append,nY,List.length_cons,List.length_nil];congr 1;omega
theorem Br (hi:i<l.length): (l.take i++[x]++l.drop i).length=l.length+1:=by simp only[List.length_append,List.length_take,List.length_cons,List.length_nil,List.length_drop];omega
theorem Ds:∀u∈fk x,u.oneCell'=true:=λu hu=>by
 unfold fk at hu;simp only[List.mem_cons,List.not_mem_nil,or_false] at hu;rcases hu with rfl|rfl|rfl|rfl|rfl|rfl|rfl<;>rfl
end
end Go.K
namespace Go.K
open bF
section
variable {α:Type} [bF α] {P:Program} {N:Nat} {env:Env} {w:World} {C:Nat->Nat} {t e:TypeId}
theorem Ld {n bytes:Nat} {parts:Array (Nat×Operand)} {ys:List α} (hF:bA w C) (hrow:o_ P t e (sz α) bytes=true) (hn:n=ys.length) (OP:n*sz α<=16777216) (hsz:0<sz α)
  (hp:Cp env w (aA C) 0 parts.toList ys):
  iY P N env (.buildSlice t n parts) w (λv w'=>aH [] w C w' C/\aF w' (aA C) ys v/\bA w' C/\∃aP xs,v=.slice (some ⟨aP,0,none⟩) n n/\ck w' C 0 aP (.cells xs e)/\xs.size=n*sz α/\∀i (hi:i<ys.length),rep w'.heap (aA C) ys[i] (cB xs (i*sz α) (sz α))):=qm λρ hρ gi ic=>by
 subst hn;obtain⟨i,z,hu,hi,hsi,hby,hz,hzs⟩:=sB hrow
 let zs:List Value:=((Array.range (ys.length*sz α)).map λj=>(if ys.length*sz α=0 then(#[]:Array Value) else z.cells)[j%(if ys.length*sz α=0 then(#[]:Array Value) else z.cells).size]!).toList
 obtain⟨ez,news,h1,h2,h3,h4⟩:=EH (k:=0) [] zs hp (by simp) (by simp[zs]);simp only[List.nil_append] at h2;have hmap:=sG.map hρ h1;have nG:=fill_eq _ (parts.toList.map λp=>(p.1,ρ p.2)) ez zs news (by rw[<-hmap]) h2;have hnew:=yq w (.cells news.toArray e);have hrun: (Instr.buildSlice t ys.length (parts.map λx=>(x.1,ρ x.2))).run P w=.ok (.slice (some ⟨w.heap.size,0,none⟩) ys.length ys.length) (w.alloc (.cells news.toArray e)):=by
  have hle:¬(ys.length*sz α>2^24):=by omega
  have yz: (parts.map λx=>(x.1,ρ x.2)).toList=parts.toList.map λp=>(p.1,ρ p.2):=by simp
  have AA: (sizeOf e).run P w=.ok (sz α) w:=by simp[sizeOf,typeInfo,hi,hsi]
  unfold Instr.buildSlice;simp only[Sem.run_bind,run_underlying hu,Result.andThen_ok,AA,if_neg hle,Sem.run_pure,yz];by_cases h0:ys.length*sz α=0
  ·have sC:zs=((Array.range (ys.length*sz α)).map λj=>(#[]:Array Value)[j%(#[]:Array Value).size]!).toList:=by simp only[zs,h0,if_true]
   rw[sC] at nG;simp only[h0,if_true,Sem.run_bind,Sem.run_pure,Result.andThen_ok] at nG⊢;simp only[Array.toArray_toList] at nG;rw[nG];simp[newRow]
  ·have sC:zs=((Array.range (ys.length*sz α)).map λj=>z.cells[j%z.cells.size]!).toList:=by simp only[zs,h0,if_false]
   rw[sC] at nG;have cK: (zeroValue e).run P w=.ok z w:=by simp[zeroValue,typeInfo,hi,hz]
   simp only[h0,if_false,Sem.run_bind,cK,Sem.run_pure,Result.andThen_ok];simp only[Array.toArray_toList] at nG;rw[nG];simp[newRow]
 refine⟨.slice (some ⟨w.heap.size,0,none⟩) ys.length ys.length,w.alloc (.cells news.toArray e),.inl ?_,hnew.st C,?_,hF.st (hnew.st C),_,news.toArray,rfl,⟨?_,hnew.at_⟩,by simp only[List.size_toArray,h3],λi hi=>bF.keep (h4 i hi) (λb hb hm=>hnew.ext.block b hb (λh=>h))⟩
 ·unfold execOp;rw[ic];simp only[Sem.run_bind];rw[show(parts.map λx=>match x with|(i,x)=>(i,ρ x))=(parts.map λx=>(x.1,ρ x.2)) from rfl,hrun];rfl
 ·refine mL.2 ⟨_,_,rfl,Nat.le_refl _,?_,.inr ⟨w.heap.size,0,rfl,λhm=>?_,news.toArray,e,(0,0),hnew.at_,?_,λi hi=>?_⟩⟩
  ·have:ys.length<=ys.length*sz α:=Nat.le_mul_of_pos_right _ hsz;omega
  ·have:=hF _ hm;omega
  ·simp only[Nat.zero_add,List.size_toArray,h3];exact Nat.le_refl _
  ·have:=h4 i hi;rw[Nat.zero_add];exact bF.keep this (λb hb hm=>hnew.ext.block b hb (λh=>h))
 ·apply Classical.byContradiction;intro hm;have:=hF _ hm;omega
end
section
variable {l:List bP} {y z:bP} {i j:Nat}
theorem Bs (h:oG l y i i) (ha:∀i (h:i+1<l.length),fZ l[i] l[i+1]<0) (hn:¬∃hk:i<l.length,fZ l[i] y=0):∀k (hk:k<l.length),i<=k->0<fZ l[k] y:=λk hk hik=>by
 have hil:i<l.length:=by omega
 have h0:=h.hi i (Nat.le_refl _) hil;have h1:0<fZ l[i] y:=by
  rcases Int.lt_or_eq_of_le h0 with h|h
  ·exact h
  ·exact absurd ⟨hil,h.symm⟩ hn
 by_cases e:k=i
 ·subst e;exact h1
 ·exact tI.2.2 (Bh (tI.2.1 h1) (Da ha (show i<k by omega) hk))
theorem Dt (h:oG l y i i) (ha:∀i (h:i+1<l.length),fZ l[i] l[i+1]<0) (hn:¬∃hk:i<l.length,fZ l[i] y=0):¬∃d∈l,fZ d y=0:=λ⟨d,hd,e⟩=>by
 obtain⟨k,hk,rfl⟩:=List.getElem_of_mem hd;by_cases h1:k<i
 ·have:=h.lo k h1 hk;omega
 ·have:=Bs h ha hn k hk (by omega);omega
theorem RP (ha:∀i (h:i+1<l.length),fZ l[i] l[i+1]<0) (hi:i<=l.length) (h0:∀k,k<i->(h:k<l.length)->fZ l[k] y<0) (h1:∀h:i<l.length,¬fZ l[i] y<0):oG l y i i:=
 ⟨Nat.le_refl _,hi,h0,λk hk hl=>by
  by_cases e:k=i
  ·subst e;have:=h1 hl;omega
  ·apply Classical.byContradiction;intro hn;exact h1 (by omega) (tI.1.2 (Bh (Da ha (show i<k by omega) hl) (tI.1.1 (show fZ l[k] y<0 by omega))))⟩
end
def ru (E:Int) (pr:Int) (av df:List Int) (lo hh p:Int) (aK:Int) (sh:List bZ) (ds:List bP) (A B:dh) (bH bJ:Int) (same:Bool) (iD:Int) (ia:List bZ) (ds':List bP) (e:Int):Prop:=
 ∃fl iw,tL E pr av df lo hh p fl iw/\
  ((iw≠0/\e=iw/\iD=0/\ia=[]/\ds'=[])\/
   (iw=0/\¬sU sh A B bH bJ fl/\e=50/\iD=0/\ia=[]/\ds'=[])\/
   (iw=0/\sU sh A B bH bJ fl/\(∃d∈ds,fZ d ⟨A,B,bH,bJ,same⟩=0)/\e=42/\iD=0/\ia=[]/\ds'=[])\/
   (iw=0/\sU sh A B bH bJ fl/\(¬∃d∈ds,fZ d ⟨A,B,bH,bJ,same⟩=0)/\e=0/\iD=aK/\ia=sh/\∃i,oG ds ⟨A,B,bH,bJ,same⟩ i i/\(∀k (hk:k<ds.length),i<=k->0<fZ ds[k] ⟨A,B,bH,bJ,same⟩)/\ds'=ds.take i++[⟨A,B,bH,bJ,same⟩]++ds.drop i))
section
variable {E pr:Int} {av df:List Int} {lo hh p aK:Int} {sh:List bZ} {ds:List bP} {A B:dh} {bH bJ iD zz:Int} {ia zC:List bZ} {ds' xx:List bP} {e e':Int} {fl:List Int} {same RQ:Bool}
theorem RR {l:List bP} {y:bP} {i j:Nat} (h:oG l y i i) (h1:∀k (hk:k<l.length),i<=k->0<fZ l[k] y) (h':oG l y j j) (EI:∀k (hk:k<l.length),j<=k->0<fZ l[k] y):i=j:=by
 have e1:=h.zq;have e2:=h'.zq;apply Classical.byContradiction;intro hne;rcases Nat.lt_or_gt_of_ne hne with hlt|hlt
 ·have:=h'.lo i hlt (by omega);have:=h1 i (by omega) (Nat.le_refl _);omega
 ·have:=h.lo j hlt (by omega);have:=EI j (by omega) (Nat.le_refl _);omega
theorem ru.uniq (h:ru E pr av df lo hh p aK sh ds A B bH bJ same iD ia ds' e) (h':ru E pr av df lo hh p aK sh ds A B bH bJ same zz zC xx e'):
  iD=zz/\ia=zC/\ds'=xx/\e=e':=by
 obtain⟨fl,iw,hc,h⟩:=h;obtain⟨rm,K7,rJ,h'⟩:=h';obtain⟨rfl,rfl⟩:=hc.uniq rJ;rcases h with⟨a,rfl,rfl,rfl,rfl⟩|⟨a,b,rfl,rfl,rfl,rfl⟩|⟨a,b,c,rfl,rfl,rfl,rfl⟩|⟨a,b,c,rfl,rfl,rfl,i,d1,d2,rfl⟩<;>
  rcases h' with⟨a',rfl,rfl,rfl,rfl⟩|⟨a',b',rfl,rfl,rfl,rfl⟩|⟨a',b',c',rfl,rfl,rfl,rfl⟩|⟨a',b',c',rfl,rfl,rfl,i',d1',d2',rfl⟩<;>
  first
  |exact⟨rfl,rfl,rfl,rfl⟩
  |exact absurd a' a
  |exact absurd a a'
  |exact absurd b b'
  |exact absurd b' b
  |exact absurd c c'
  |exact absurd c' c
  |(obtain rfl:=RR d1 d2 d1' d2';exact⟨rfl,rfl,rfl,rfl⟩)
theorem ru.len (h:ru E pr av df lo hh p aK sh ds A B bH bJ same iD ia ds' e):ds'.length=if e=0 then ds.length+1 else 0:=by
 obtain⟨fl,iw,hc,h⟩:=h;rcases h with⟨a,rfl,rfl,rfl,rfl⟩|⟨a,b,rfl,rfl,rfl,rfl⟩|⟨a,b,c,rfl,rfl,rfl,rfl⟩|⟨a,b,c,rfl,rfl,rfl,i,d1,d2,rfl⟩
 ·rw[if_neg a];rfl
 ·rfl
 ·rfl
 ·have:=d1.zq;rw[if_pos rfl];simp only[List.length_append,List.length_take,List.length_cons,List.length_nil,List.length_drop];omega
theorem ru.alike (h:ru E pr av df lo hh p aK sh ds A B bH bJ same iD ia ds' e) (h':ru E pr av df lo hh p aK sh ds A B bH bJ RQ zz zC xx e'):e=e'/\ds'.length=xx.length:=by
 have he:e=e':=by
  obtain⟨fl,iw,hc,h⟩:=h;obtain⟨rm,K7,rJ,h'⟩:=h';obtain⟨rfl,rfl⟩:=hc.uniq rJ;rcases h with⟨a,rfl,_⟩|⟨a,b,rfl,_⟩|⟨a,b,c,rfl,_⟩|⟨a,b,c,rfl,_⟩<;>
   rcases h' with⟨a',rfl,_⟩|⟨a',b',rfl,_⟩|⟨a',b',c',rfl,_⟩|⟨a',b',c',rfl,_⟩<;>
   first
   |rfl
   |exact absurd a' a
   |exact absurd a a'
   |exact absurd b b'
   |exact absurd b' b
   |exact absurd c c'
   |exact absurd c' c
 exact⟨he,by rw[h.len,h'.len,he]⟩
end
section
variable {P:Program} {N:Nat} {env:Env} {x y:Operand} {t u:TypeId} {a b:Bool} {w:World}
theorem RS (ht:P.underlying t=some .bool) (op:BinOp) (a b:Bool): (eqGuard op t x y (.bool a) (.bool b)).run P w=.ok () w:=by
 have h8: (Op.eqGuardIn Op.maxDepth t (.bool a) (.bool b)).run P w=.ok false w:=by
  rw[show Op.maxDepth=(Op.maxDepth-1)+1 from rfl,Op.eqGuardIn];simp[run_underlying ht]
 unfold eqGuard;cases op<;>simp[Sem.run_bind,Sem.run_pure,Sem.run_ite,run_program,Result.andThen_ok,h8]<;>(cases P.eqGuardType P.depth t<;>simp[h8])
theorem RT (ht:P.underlying t=some .bool) (hx:ev env x=some (.bool a)) (hy:ev env y=some (.bool b)):ew P N env (.binOp .neq t x y u) w (.bool (decide (a≠b))):=mk' λρ hρ o ho=>by
 have h7: (Op.equal t (.bool a) (.bool b)).run P w=.ok (a==b) w:=Go.run_equal_bool w t a b ht;have ou: (binOp .neq t (.bool a) (.bool b)).run P w=.ok (.bool (decide (a≠b))) w:=by
  show(Op.equal t (.bool a) (.bool b)>>=λz=>pure (Value.bool (!z))).run P w=_;rw[Sem.run_bind,h7];cases a<;>cases b<;>rfl
 unfold execOp;rw[ho];simp only[hρ _ _ hx,hρ _ _ hy];simp[Sem.run_bind,RS ht,ou]
end
section
variable {jA β:Type} [DecidableEq jA] {kv:jA->Value} {eV:β->Value} {m:List (jA×β)} {w:World} {C:Nat->Nat} {j b:Nat}
variable {P:Program} {N:Nat} {env:Env} {x y z:Operand} {t kt et:TypeId}
end
section
variable {α:Type} [bF α] {w:World} {C:Nat->Nat} {j:Nat} {xs:List α} {v:Value} {e:TypeId} {g i off k:Nat}
variable {P:Program} {N:Nat} {env:Env} {y z:Operand} {t:TypeId} {u:Value} {us:List Value}
theorem RU {cs:List Value} {p s:Nat} (hp:p+s<=cs.length) (hl:us.length=k) (ho:off+k<=s):
  cB (cs.take (p+off)++us++cs.drop (p+off+k)).toArray p s=(cB cs.toArray p s).take off++us++(cB cs.toArray p s).drop (off+k):=by
 have l1: (cs.take (p+off)).length=p+off:=by rw[List.length_take];omega
 have l2: (cB cs.toArray p s).length=s:=by simp only[cB,List.length_take,List.length_drop];omega
 have hA:∀m,m<s->(cB cs.toArray p s)[m]?=cs[p+m]?:=λm hm=>by simp only[cB,List.getElem?_take,List.getElem?_drop,if_pos hm]
 generalize W3:cB cs.toArray p s=A at*;have l3: (A.take off).length=off:=by rw[List.length_take];omega
 apply List.ext_getElem?;intro m;simp only[cB,List.getElem?_take,List.getElem?_drop];by_cases h3:m<s
 ·rw[if_pos h3];by_cases h1:m<off
  ·rw[List.append_assoc,List.append_assoc,List.getElem?_append_left (by omega),List.getElem?_append_left (by omega),List.getElem?_take,if_pos (by omega),List.getElem?_take,if_pos h1,hA m h3]
  ·by_cases h2:m<off+k
   ·rw[List.append_assoc,List.append_assoc,List.getElem?_append_right (by omega),List.getElem?_append_right (l₁:=A.take off) (by omega),List.getElem?_append_left (by omega),List.getElem?_append_left (by omega)];congr 1;omega
   ·rw[List.getElem?_append_right (by rw[List.length_append];omega),List.getElem?_append_right (l₁:=A.take off++us) (by rw[List.length_append];omega),List.getElem?_drop,List.getElem?_drop,List.length_append,List.length_append,l1,l3,hl,hA _ (by omega)];congr 1;omega
 ·rw[if_neg h3,List.getElem?_eq_none];simp only[List.length_append,List.length_drop];omega
theorem Le {x0:α} (h:cC w C j e v xs) (hg:fE v g) (hi:i<xs.length) (hy:ev env y=some (.pointer (some ⟨g,i*sz α+off,none⟩))) (hz:ev env z=some u) (hs:iy P t=some k)
  (hv:u.cells=us.toArray) (hl:us.length=k) (h1:∀u∈us,u.oneCell'=true) (ho:off+k<=sz α)
  (hr:∀vs,rep w.heap (aA C) xs[i] vs->rep w.heap (aA C) x0 (vs.take off++us++vs.drop (off+k))):
  iY P N env (.store t y z) w (λu' w'=>u'=undef/\aH [j] w C w' C/\cC w' C j e v (xs.set i x0)):=λa ha gi ic=>by
 obtain⟨g',cap,cs,rfl,nF,pO,hc,hcap,h2,h3⟩:=h.yG (by omega);simp only[fE,Value.ownBlock,Option.some.injEq] at hg;subst hg;have hb: (i+1)*sz α<=cap*sz α:=Nat.mul_le_mul_right _ (by omega);rw[Nat.succ_mul] at hb;obtain⟨u',w',k1,k2,tY⟩:=Cj (P:=P) (N:=N) (cs:=cs.toList) (n:=k) (vs:=us) hy hz hs hv hl h1 (by simpa using hc) (by simp only[Array.length_toList];omega) a ha gi ic;have hst:aH [j] w C w' C:=⟨tY.ext.mono (λb _ hb=>by rw[show b=g' from hb,nF];simp),λ_ _=>rfl⟩
 have keep:∀{x:α} {vs:List Value},rep w.heap (aA C) x vs->rep w'.heap (aA C) x vs:=λhr=>bF.keep hr (λb hb hn=>tY.ext.block b hb (λe=>hn (by rw[show b=g' from e];exact pO)));refine⟨u',w',k1,k2,hst,⟨.inr ⟨g',cap,_,by rw[List.length_set],pO,tY.at_,by rw[List.length_set];exact hcap,?_,λq hk=>?_⟩,h.col⟩⟩
 ·simp only[List.size_toArray,List.length_append,List.length_take,List.length_drop,Array.length_toList,hl];omega
 ·rw[List.length_set] at hk;rw[List.getElem_set];split
  ·rename_i hik;subst hik;rw[RU (by simp only[Array.length_toList];omega) hl ho];exact keep (hr _ (by simpa using h3 i hi))
  ·rename_i hik;have:cB (cs.toList.take (i*sz α+off)++us++cs.toList.drop (i*sz α+off+k)).toArray (q*sz α) (sz α)=cB cs (q*sz α) (sz α):=sA (λm hm=>by
    rw[show∀(l:List Value) (p:Nat),l.toArray[p]?=l[p]? from λl p=>by simp,<-Array.getElem?_toList];rcases Nat.lt_or_ge q i with hlt|hge
    ·have:=Nat.mul_le_mul_right (sz α) (show q+1<=i from hlt);rw[Nat.succ_mul] at this;rw[List.append_assoc,List.getElem?_append_left (by simp only[List.length_take,Array.length_toList];omega),List.getElem?_take,if_pos (by omega)]
    ·have:=Nat.mul_le_mul_right (sz α) (show i+1<=q by omega);rw[Nat.succ_mul] at this;rw[List.getElem?_append_right (by simp only[List.length_append,List.length_take,Array.length_toList,hl];omega),List.getElem?_drop];congr 1;simp only[List.length_append,List.length_take,Array.length_toList,hl];omega)
   rw[this];exact keep (h3 q hk)
end
section
variable {P:Program} {t j4 ti:TypeId} {n0 n1 n2 qK qL xA qM qN xB:String} {e0 e1 e2:Bool} {y0 y1 r_:Nat} {N:Nat} {env:Env} {x y:Operand} {u:TypeId} {w:World}
end
section
variable {P:Program} {t j4 ti tb:TypeId} {n0 n1 n2 n3 Bt qK qL xA zL F7 qM qN xB zM Ga:String} {e0 e1 e2 iA mq:Bool} {y0 y1 r_ rT Gb:Nat} {N:Nat} {env:Env} {x y:Operand} {u:TypeId} {w:World}
theorem RW (h:P.underlying t=some (.struct #[⟨n0,j4,0,e0,qK,qM,y0⟩,⟨n1,ti,2,e1,qL,qN,y1⟩,⟨n2,ti,3,e2,xA,xB,r_⟩,⟨n3,ti,4,iA,zL,zM,rT⟩])) (h0:n0≠"_") (h1:n1≠"_") (h2:n2≠"_") (h3:n3≠"_") (hS:P.stoodInHeld t=false)
  (hE:AG P j4 iC) (hi:P.underlying ti=some (.int .i64)) (ha:iW P j4=some true) (hs:iy P j4=some 2) (a b:bZ):
  (Op.equalIn 10000 t (.agg (fP a).toArray) (.agg (fP b).toArray)).run P w=.ok (decide (a=b)) w:=by
 have hf:P.fieldsOf t=#[⟨n0,j4,0,e0,qK,qM,y0⟩,⟨n1,ti,2,e1,qL,qN,y1⟩,⟨n2,ti,3,e2,xA,xB,r_⟩,⟨n3,ti,4,iA,zL,zM,rT⟩]:=by simp[Program.fieldsOf,h]
 have rK:∀c:bZ,(part j4 (fP c).toArray 0).run P w=.ok (iC c.r) w:=λc=>by
  unfold part;simp only[Sem.run_bind,tV ha,Result.andThen_ok,if_true,oq hs,Sem.run_pure];rfl
 have p1:∀c:bZ,(part ti (fP c).toArray 2).run P w=.ok (.int .i64 c.ver) w:=λc=>run_part_plain w (by simp[Program.plainKey,hi]) rfl;have p2:∀c:bZ,(part ti (fP c).toArray 3).run P w=.ok (.int .i64 c.eF) w:=λc=>run_part_plain w (by simp[Program.plainKey,hi]) rfl;have p3:∀c:bZ,(part ti (fP c).toArray 4).run P w=.ok (.int .i64 c.ch) w:=λc=>run_part_plain w (by simp[Program.plainKey,hi]) rfl;have he:∀a b:dh,(Op.equalIn 9999 j4 (iC a) (iC b)).run P w=.ok (decide (a=b)) w:=λ(a b:dh)=>hE 9991 a b w;have hn:∀x y:Int,(Op.equalIn 9999 ti (.int .i64 x) (.int .i64 y)).run P w=.ok (x==y) w:=λ(x y:Int)=>run_equalIn_int (P:=P) w 9998 ti .i64 .i64 x y hi;rw[show(10000:Nat)=9999+1 from rfl,run_equalIn_struct w 9999 t _ _ (by rw[hf];exact h) hS,hf];have hd: (decide (a=b))=(((decide (a.r=b.r)&&(a.ver==b.ver))&&(a.eF==b.eF))&&(a.ch==b.ch)):=by
  cases a;cases b;simp only[bZ.mk.injEq,Bool.decide_and,Bool.and_assoc];rfl
 simp only[Op.eqFields,Sem.run_bind,Sem.run_ite,h0,h1,h2,h3,ne_eq,not_false_eq_true,if_true,rK,p1,p2,p3,Result.andThen_ok,hd,he,hn];cases decide (a.r=b.r)<;>cases (a.ver==b.ver)<;>cases (a.eF==b.eF)<;>cases (a.ch==b.ch)<;>simp[rK,p1,p2,p3,he,hn]
theorem RX (h:P.underlying t=some (.struct #[⟨n0,j4,0,e0,qK,qM,y0⟩,⟨n1,ti,2,e1,qL,qN,y1⟩,⟨n2,ti,3,e2,xA,xB,r_⟩,⟨n3,ti,4,iA,zL,zM,rT⟩])) (h0:n0≠"_") (h1:n1≠"_") (h2:n2≠"_") (h3:n3≠"_") (hS:P.stoodInHeld t=false)
  (hE:AG P j4 iC) (hi:P.underlying ti=some (.int .i64)) (ha:iW P j4=some true) (hs:iy P j4=some 2) (hg:P.eqGuardType P.depth t=false) {a b:bZ} (hx:ev env x=some (.agg (fP a).toArray)) (hy:ev env y=some (.agg (fP b).toArray)):
  ew P N env (.binOp .neq t x y u) w (.bool (decide (a≠b))):=mk' λρ hρ o ho=>by
 unfold execOp;rw[ho];simp only[hρ _ _ hx,hρ _ _ hy,Sem.run_bind,run_eqGuard_agg _ _ _ _ _ _ _ hg,Result.andThen_ok,run_neq_struct,RW h h0 h1 h2 h3 hS hE hi ha hs,Sem.run_pure];simp
theorem run_equalIn_bool (d:Nat) (p r:Bool) (ht:P.underlying tb=some .bool): (Op.equalIn (d+1) tb (.bool p) (.bool r)).run P w=.ok (decide (p=r)) w:=by
 unfold Op.equalIn;cases p<;>cases r<;>simp[run_underlying ht,go_sem]
theorem RY (h:P.underlying t=some (.struct #[⟨n0,j4,0,e0,qK,qM,y0⟩,⟨n1,j4,2,e1,qL,qN,y1⟩,⟨n2,ti,4,e2,xA,xB,r_⟩,⟨n3,ti,5,iA,zL,zM,rT⟩,⟨Bt,tb,6,mq,F7,Ga,Gb⟩])) (h0:n0≠"_") (h1:n1≠"_") (h2:n2≠"_") (h3:n3≠"_") (h4:Bt≠"_") (hS:P.stoodInHeld t=false)
  (hE:AG P j4 iC) (hi:P.underlying ti=some (.int .i64)) (hb:P.underlying tb=some .bool) (ha:iW P j4=some true) (hs:iy P j4=some 2) (a b:bP):
  (Op.equalIn 10000 t (.agg (fk a).toArray) (.agg (fk b).toArray)).run P w=.ok (decide (a=b)) w:=by
 have hf:P.fieldsOf t=#[⟨n0,j4,0,e0,qK,qM,y0⟩,⟨n1,j4,2,e1,qL,qN,y1⟩,⟨n2,ti,4,e2,xA,xB,r_⟩,⟨n3,ti,5,iA,zL,zM,rT⟩,⟨Bt,tb,6,mq,F7,Ga,Gb⟩]:=by simp[Program.fieldsOf,h]
 have rK:∀c:bP,(part j4 (fk c).toArray 0).run P w=.ok (iC c.A) w:=λc=>by
  unfold part;simp only[Sem.run_bind,tV ha,Result.andThen_ok,if_true,oq hs,Sem.run_pure];rfl
 have p1:∀c:bP,(part j4 (fk c).toArray 2).run P w=.ok (iC c.B) w:=λc=>by
  unfold part;simp only[Sem.run_bind,tV ha,Result.andThen_ok,if_true,oq hs,Sem.run_pure];rfl
 have p2:∀c:bP,(part ti (fk c).toArray 4).run P w=.ok (.int .i64 c.aI) w:=λc=>run_part_plain w (by simp[Program.plainKey,hi]) rfl;have p3:∀c:bP,(part ti (fk c).toArray 5).run P w=.ok (.int .i64 c.ek) w:=λc=>run_part_plain w (by simp[Program.plainKey,hi]) rfl;have Bu:∀c:bP,(part tb (fk c).toArray 6).run P w=.ok (.bool c.same) w:=λc=>run_part_plain w (by simp[Program.plainKey,hb]) rfl;have he:∀a b:dh,(Op.equalIn 9999 j4 (iC a) (iC b)).run P w=.ok (decide (a=b)) w:=λ(a b:dh)=>hE 9991 a b w;have hn:∀x y:Int,(Op.equalIn 9999 ti (.int .i64 x) (.int .i64 y)).run P w=.ok (x==y) w:=λ(x y:Int)=>run_equalIn_int (P:=P) w 9998 ti .i64 .i64 x y hi;have Lf:∀x y:Bool,(Op.equalIn 9999 tb (.bool x) (.bool y)).run P w=.ok (decide (x=y)) w:=λx y=>run_equalIn_bool (P:=P) 9998 x y hb;rw[show(10000:Nat)=9999+1 from rfl,run_equalIn_struct w 9999 t _ _ (by rw[hf];exact h) hS,hf];have hd: (decide (a=b))=((((decide (a.A=b.A)&&decide (a.B=b.B))&&(a.aI==b.aI))&&(a.ek==b.ek))&&decide (a.same=b.same)):=by
  cases a;cases b;simp only[bP.mk.injEq,Bool.decide_and,Bool.and_assoc];rfl
 simp only[Op.eqFields,Sem.run_bind,Sem.run_ite,h0,h1,h2,h3,h4,ne_eq,not_false_eq_true,if_true,rK,p1,p2,p3,Bu,Result.andThen_ok,hd,he,hn,Lf];cases decide (a.A=b.A)<;>cases decide (a.B=b.B)<;>cases (a.aI==b.aI)<;>cases (a.ek==b.ek)<;>cases decide (a.same=b.same)<;>simp[rK,p1,p2,p3,Bu,he,hn,Lf]
theorem RZ (h:P.underlying t=some (.struct #[⟨n0,j4,0,e0,qK,qM,y0⟩,⟨n1,j4,2,e1,qL,qN,y1⟩,⟨n2,ti,4,e2,xA,xB,r_⟩,⟨n3,ti,5,iA,zL,zM,rT⟩,⟨Bt,tb,6,mq,F7,Ga,Gb⟩])) (h0:n0≠"_") (h1:n1≠"_") (h2:n2≠"_") (h3:n3≠"_") (h4:Bt≠"_") (hS:P.stoodInHeld t=false)
  (hE:AG P j4 iC) (hi:P.underlying ti=some (.int .i64)) (hb:P.underlying tb=some .bool) (ha:iW P j4=some true) (hs:iy P j4=some 2) (hg:P.eqGuardType P.depth t=false) {a b:bP} (hx:ev env x=some (.agg (fk a).toArray)) (hy:ev env y=some (.agg (fk b).toArray)):
  ew P N env (.binOp .neq t x y u) w (.bool (decide (a≠b))):=mk' λρ hρ o ho=>by
 unfold execOp;rw[ho];simp only[hρ _ _ hx,hρ _ _ hy,Sem.run_bind,run_eqGuard_agg _ _ _ _ _ _ _ hg,Result.andThen_ok,run_neq_struct,RY h h0 h1 h2 h3 h4 hS hE hi hb ha hs,Sem.run_pure];simp
end
theorem Lg {α:Type} (f:α->Nat) (N:Nat):∀(l:List α) (lo:Nat),l.Pairwise (λx y=>f x<f y)->(∀x∈l,lo<=f x/\f x<N)->l.length<=N-lo
 |[],_,_,_=>Nat.zero_le _
 |x::l,lo,hp,h=>by
  obtain⟨h1,h2⟩:=List.pairwise_cons.1 hp;have hx:=h x (by simp);have ih:=Lg f N l (f x+1) h2 (λy hy=>⟨h1 y hy,(h y (by simp[hy])).2⟩);simp only[List.length_cons];omega
def pE (R I:Nat) (x:bP):Prop:=0<=x.A.a/\x.A.a<x.B.a/\x.B.a<R/\1<=x.A.b/\x.A.b<=I/\1<=x.B.b/\x.B.b<=I/\1<=x.aI/\x.aI<=2/\1<=x.ek/\x.ek<=4
def ry (r i s k:Nat) (x:bP):Prop:=x.A.a<r\/x.A.a=r/\(x.A.b<i\/x.A.b=i/\(x.B.a<s\/x.B.a=s/\x.B.b<k))
def oh (R I r i s k:Nat) (l:List bP):Prop:=(∀x∈l,pE R I x/\ry r i s k x)/\l.Pairwise rj
theorem oh.nil (R I r i s k:Nat):oh R I r i s k []:=⟨λx h=>by simp at h,List.Pairwise.nil⟩
theorem oh.to {R I r i s k r' i' s' k':Nat} {l:List bP} (h:oh R I r i s k l) (hc:∀x,pE R I x->ry r i s k x->ry r' i' s' k' x):oh R I r' i' s' k' l:=
 ⟨λx hx=>⟨(h.1 x hx).1,hc x (h.1 x hx).1 (h.1 x hx).2⟩,h.2⟩
theorem oh.len {R I r i s k:Nat} {l:List bP} (h:oh R I r i s k l) (hR:R<=4) (hI:I<=4):l.length<=2048:=by
 have hb:∀x∈l,pE R I x:=λx hx=>(h.1 x hx).1;have:=Lg (λx:bP=>(x.A.a*512+(x.A.b-1)*128+x.B.a*32+(x.B.b-1)*8+(x.aI-1)*4+(x.ek-1)).toNat) 2048 l 0 (h.2.imp_of_mem λ{x y} hx hy hxy=>by
  have h1:=hb x hx;have h2:=hb y hy;unfold pE at h1 h2;unfold rj at hxy;show(x.A.a*512+(x.A.b-1)*128+x.B.a*32+(x.B.b-1)*8+(x.aI-1)*4+(x.ek-1)).toNat<(y.A.a*512+(y.A.b-1)*128+y.B.a*32+(y.B.b-1)*8+(y.aI-1)*4+(y.ek-1)).toNat;omega) (λx hx=>by
  have h1:=hb x hx;unfold pE at h1;show 0<=_/\(x.A.a*512+(x.A.b-1)*128+x.B.a*32+(x.B.b-1)*8+(x.aI-1)*4+(x.ek-1)).toNat<2048;omega)
 simpa using this
theorem oh.push {R I r i s k:Nat} {l:List bP} {x:bP} (h:oh R I r i s k l) (hx:pE R I x) (h1:x.A.a=r/\x.A.b=i/\x.B.a=s/\x.B.b=k):oh R I r i s (k+1) (l++[x]):=by
 refine⟨λy hy=>?_,?_⟩
 ·rcases List.mem_append.1 hy with hy|hy
  ·obtain⟨h3,h4⟩:=h.1 y hy;refine⟨h3,?_⟩;unfold ry at*;omega
  ·simp only[List.mem_singleton] at hy;subst hy;exact⟨hx,by unfold ry;omega⟩
 ·rw[List.pairwise_append];refine⟨h.2,by simp,λy hy z hz=>?_⟩;simp only[List.mem_singleton] at hz;subst hz;obtain⟨h3,h4⟩:=h.1 y hy;unfold ry at h4;unfold rj;omega
theorem oh.R1 {R I r i s k:Nat} {l:List bP} {x y:bP} (h:oh R I r i s k l) (hx:pE R I x) (hy:pE R I y) (h1:x.A.a=r/\x.A.b=i/\x.B.a=s/\x.B.b=k) (h2:y.A=x.A/\y.B=x.B/\y.aI=x.aI/\x.ek<y.ek):oh R I r i s (k+1) (l++[x]++[y]):=by
 have h3:=h.push hx h1;obtain⟨Lh,Li,W4,W5⟩:=h2;refine⟨λz hz=>?_,?_⟩
 ·rcases List.mem_append.1 hz with hz|hz
  ·exact h3.1 z hz
  ·simp only[List.mem_singleton] at hz;subst hz;exact⟨hy,by unfold ry;rw[Lh,Li];omega⟩
 ·rw[List.pairwise_append];refine⟨h3.2,by simp,λu hu z hz=>?_⟩;simp only[List.mem_singleton] at hz;subst hz;unfold rj;rw[Lh,Li];rcases List.mem_append.1 hu with hu|hu
  ·have h4:=(List.pairwise_append.1 h3.2).2.2 u hu x (by simp);unfold rj at h4;obtain⟨h5,h6⟩:=h.1 u hu;unfold ry at h6;omega
  ·simp only[List.mem_singleton] at hu;subst hu;omega
theorem dF.cast {w:World} {M:Nat->Prop} {b o:Nat} {α:Type} [bF α] {x y:α} (h:dF w M x b o) (e:y=x):dF w M y b o:=e▸h
theorem Lj {aK:Int} {sh:List bZ} {ds:List bP} (h:u_ aK sh ds):lp aK sh ds=0:=by
 have h0:=h.b0;have h1:=h.b1;have h2:=h.ls;have h3:=h.ld;rw[FW (by omega) (by omega) (λk hk=>by
  obtain⟨a1,a2,a3,a4,a5,a6⟩:=h.so k hk;refine Bk hk a1 (by unfold oK;simp only[a2,decide_eq_true a3,decide_eq_true a4,decide_eq_true a5,decide_eq_true a6];rfl) (λh0=>?_);have:=h.sa (k-1) (by omega);simp only[show k-1+1=k from by omega] at this;exact this)]
 unfold oJ;rw[if_neg (by omega),zx (λk hk=>by
  obtain⟨a1,a2,a3⟩:=h.Pq k hk;refine Bj hk a1 (by rw[a2,a3];rfl) (λh0=>?_);have:=h.da (k-1) (by omega);simp only[show k-1+1=k from by omega] at this;exact this)]
abbrev vK:List ByteArray:=[⟨#[120]⟩,⟨#[97,98,99]⟩]
abbrev vL:List ByteArray:=[⟨#[121]⟩,⟨#[97,98]⟩]
theorem Gc:gA 0 [20,30] [0,0]:=⟨by decide,by decide,rfl,by decide,λi h=>(by decide:∀x∈([20,30]:List Int),gY x) _ (List.getElem_mem h),λi h=>(by decide:∀x∈([0,0]:List Int),gY x) _ (List.getElem_mem h)⟩
theorem R2:wP 0 25:=⟨by decide,by decide,by decide,by decide⟩
theorem Lk:u_ 9 [] []:=⟨by decide,by decide,by decide,by decide,λi h=>by simp at h,λi h=>by simp at h,λi h=>by simp at h,λi h=>by simp at h⟩
theorem Ll:sL 0 [20,30] [0,0] 0 25 4 [1] true:=by
 have hs:jC 0 [20,30] [0,0] 4 ([20,30]:List Int).length=0:=by decide
 have hg:gF [20,30] [0,0] 4 ([20,30]:List Int).length=[⟨0,20⟩,⟨1,30⟩]:=by decide
 refine .inr ⟨by rw[hs];decide,[⟨1,30⟩,⟨0,20⟩],1,?_,by decide,λj hj=>?_,.inr ⟨?_,rfl,?_⟩⟩
 ·rw[hg];refine⟨λi=>if i=0 then 1 else if i=1 then 0 else i,⟨rfl,λi hi=>?_⟩,⟨λi hi=>?_,λi h1 h2=>?_,λi j e=>?_⟩,λi j h1 h2 h3=>?_⟩
  ·rcases i with _|_|i
   ·exact⟨by decide,rfl⟩
   ·exact⟨by decide,rfl⟩
   ·simp at hi;omega
  ·simp only[List.length_cons,List.length_nil] at hi;split<;>(try split)<;>omega
  ·simp only[List.length_cons,List.length_nil] at*;split<;>(try split)<;>omega
  ·replace e: (if i=0 then 1 else if i=1 then 0 else i)=(if j=0 then 1 else if j=1 then 0 else j):=e;split at e<;>(try split at e)<;>(try split at e)<;>(try split at e)<;>omega
  ·simp only[List.length_cons,List.length_nil] at h3;obtain rfl:i=0:=by omega
   obtain rfl:j=1:=by omega
   exact⟨by decide,by decide,.inl (by decide)⟩
 ·obtain rfl:j=0:=by omega
  rw[hs];decide
 ·rw[hs];decide
 ·exact gp.self λi j hij hj=>by simp at hj;omega
theorem Lm:¬sU [] ⟨0,1⟩ ⟨1,2⟩ 1 3 [1]:=λh=>by have:=(h 1 (by simp)).1;simp[jE] at this
theorem Gd {aK:Int} {sh:List bZ} {ds:List bP} (h:u_ aK sh ds):mS aK sh ds 0 [20,30] [0,0] 0 25 ⟨0,1⟩ ⟨1,2⟩ 1 1 vK 2 3 vL=0:=
 Bq (by rw[Lj h];decide) (by rw[FX Gc];decide) (by unfold od jv;decide) (by decide) (by decide)
theorem Ge {fl:List Int} {iw:Int} (h:tL 0 0 [20,30] [0,0] 0 25 4 fl iw):fl=[1]/\iw=0:=by
 rcases h with⟨a,_⟩|⟨_,ok,b,c⟩
 ·exact absurd rfl a
 ·have h2:uy 0 [20,30] [0,0] 0 25 4 [1] true:=.inr ⟨⟨F1 Gc (by decide),by unfold jv;decide⟩,Ll⟩;obtain⟨rfl,rfl⟩:=b.uniq h2;exact⟨rfl,c⟩
abbrev sW:List bZ:=[⟨⟨0,1⟩,1,1,3⟩,⟨⟨1,2⟩,3,1,2⟩]
abbrev Gf:bP:=⟨⟨0,1⟩,⟨1,2⟩,1,3,true⟩
theorem Du:u_ 4 sW []:=⟨by decide,by decide,by decide,by decide,λi h=>(by unfold CM;decide:∀x∈sW,CM x) _ (List.getElem_mem h),λi h=>by
 have e:i=0:=by simp at h;omega
 subst e;exact(by decide:iF (⟨⟨0,1⟩,1,1,3⟩:bZ) ⟨⟨1,2⟩,3,1,2⟩<0),λi h=>by simp at h,λi h=>by simp at h⟩
theorem R3:u_ 4 sW [Gf]:=⟨by decide,by decide,by decide,by decide,Du.so,Du.sa,λi h=>(by unfold AX;decide:∀x∈[Gf],AX x) _ (List.getElem_mem h),λi h=>by simp at h⟩
theorem R4 {iD e:Int} {ia now:List bZ} {ds':List bP} (h:vI 0 0 [20,30] [0,0] 0 25 4 9 [] [] ⟨0,1⟩ ⟨1,2⟩ vK vL 1 3 iD ia ds' now e):iD=4/\ia=sW/\ds'=[]/\now=sW/\e=0:=by
 obtain⟨fl,iw,hc,h⟩:=h;obtain⟨rfl,rfl⟩:=Ge hc;have e1:dw [] ⟨0,1⟩ 1 vK [1] vK.length=[⟨⟨0,1⟩,1,1,3⟩]:=by decide
 have e2:dw [] ⟨1,2⟩ 3 vL [1] vL.length=[⟨⟨1,2⟩,3,1,2⟩]:=by decide
 rw[e1,e2] at h;rcases h with⟨a,_⟩|⟨_,a,_⟩|⟨_,_,rfl,rfl,rfl,rfl,c,d⟩
 ·exact absurd rfl a
 ·exact absurd a (by decide)
 ·exact⟨by decide,c.uniq (qa.of Du.sa) (by simpa using d),rfl,rfl,rfl⟩
theorem R5 {iD e:Int} {ia:List bZ} {ds':List bP} (h:ru 0 0 [20,30] [0,0] 0 25 4 9 [] [] ⟨0,1⟩ ⟨1,2⟩ 1 3 true iD ia ds' e):e=50:=by
 obtain⟨fl,iw,hc,h⟩:=h;obtain⟨rfl,rfl⟩:=Ge hc;rcases h with⟨a,_⟩|⟨_,_,h,_⟩|⟨_,a,_⟩|⟨_,a,_⟩
 ·exact absurd rfl a
 ·exact h
 ·exact absurd a Lm
 ·exact absurd a Lm
theorem R6:sU sW ⟨0,1⟩ ⟨1,2⟩ 1 3 [1]:=λf hf=>by
 rw[List.mem_singleton] at hf;subst hf;exact⟨by decide,by decide⟩
theorem R7 {iD e:Int} {ia:List bZ} {ds':List bP} (h:ru 0 0 [20,30] [0,0] 0 25 4 4 sW [] ⟨0,1⟩ ⟨1,2⟩ 1 3 true iD ia ds' e):e=0/\iD=4/\ia=sW/\ds'=[Gf]:=by
 obtain⟨fl,iw,hc,h⟩:=h;obtain⟨rfl,rfl⟩:=Ge hc;rcases h with⟨a,_⟩|⟨_,a,_⟩|⟨_,_,⟨d,hd,_⟩,_⟩|⟨_,_,_,rfl,rfl,rfl,i,_,_,rfl⟩
 ·exact absurd rfl a
 ·exact absurd R6 a
 ·simp at hd
 ·exact⟨rfl,rfl,rfl,by simp⟩
structure uA where
 aK:Int
 sh:List bZ
 ds:List bP
instance:bF uA:=bF.via (λx:uA=>(x.aK,(x.sh,x.ds)))
structure xC where
 pr:Int
 av:List Int
 df:List Int
 lo:Int
 hh:Int
 A:dh
 B:dh
 p:Int
 wt:Int
 dy:Int
 bH:Int
 cw:List ByteArray
 dJ:Int
 bJ:Int
 cu:List ByteArray
instance:bF xC:=bF.via (λx:xC=>((x.pr,(x.av,x.df)),((x.lo,x.hh),((x.A,(x.B,(x.p,x.wt))),((x.dy,(x.bH,x.cw)),(x.dJ,(x.bJ,x.cu)))))))
section
variable {w:World} {M:Nat->Prop} {v:Value}
theorem Ln {h:Array Obj} {x:uA} {vs:List Value}:rep h M x vs↔∃p q,vs=[.int .i64 x.aK,p,q]/\rep h M x.sh [p]/\rep h M x.ds [q]:=by
 constructor
 ·rintro⟨us,ws,rfl,h1,wR,AU,rfl,h2,h3⟩;obtain⟨p,rfl⟩:=List.length_eq_one_iff.1 (bF.len h2);obtain⟨q,rfl⟩:=List.length_eq_one_iff.1 (bF.len h3);have e1:us=[.int .i64 x.aK]:=h1;subst e1;exact⟨p,q,rfl,h2,h3⟩
 ·rintro⟨p,q,rfl,h1,h2⟩;exact⟨[_],[p,q],rfl,rfl,[p],[q],rfl,h1,h2⟩
theorem xD {x:uA}:aF w M x v↔∃p q,v=.agg #[.int .i64 x.aK,p,q]/\aF w M x.sh p/\aF w M x.ds q:=by
 constructor
 ·rintro⟨vs,h,hv⟩;obtain⟨p,q,rfl,h2,h3⟩:=Ln.1 h;exact⟨p,q,hv,qk h2 rfl,qk h3 rfl⟩
 ·rintro⟨p,q,rfl,h,h2⟩;exact⟨_,Ln.2 ⟨p,q,rfl,h.yp rfl,h2.yp rfl⟩,rfl⟩
abbrev Lp (x:xC) (a d u1 u2:Value):List Value:=[.int .i64 x.pr,a,d,.int .i64 x.lo,.int .i64 x.hh,.int .i64 x.A.a,.int .i64 x.A.b,.int .i64 x.B.a,.int .i64 x.B.b,.int .i64 x.p,.int .i64 x.wt,.int .i64 x.dy,.int .i64 x.bH,u1,.int .i64 x.dJ,.int .i64 x.bJ,u2]
theorem Lq {h:Array Obj} {x:xC} {vs:List Value}:rep h M x vs↔∃a d u1 u2,vs=Lp x a d u1 u2/\rep h M x.av [a]/\rep h M x.df [d]/\rep h M x.cw [u1]/\rep h M x.cu [u2]:=by
 constructor
 ·rintro⟨u,t,rfl,⟨w1,w2,rfl,hw,w3,w4,rfl,Dv,hdf⟩,tt,t2,rfl,⟨l1,l2,rfl,hlo,R8⟩,c,t3,rfl,⟨c1,c2,rfl,hA,c3,W6,rfl,hB,R9,R_,rfl,hp,Sb⟩,r1,r2,rfl,⟨a1,a2,rfl,h1,a3,a4,rfl,h2,h3⟩,b1,b2,rfl,g1,b3,b4,rfl,g2,g3⟩;obtain⟨a,rfl⟩:=List.length_eq_one_iff.1 (bF.len Dv);obtain⟨d,rfl⟩:=List.length_eq_one_iff.1 (bF.len hdf);obtain⟨u1,rfl⟩:=List.length_eq_one_iff.1 (bF.len h3);obtain⟨u2,rfl⟩:=List.length_eq_one_iff.1 (bF.len g3);have e1:w1=[.int .i64 x.pr]:=hw;have e2:l1=[.int .i64 x.lo]:=hlo;have iA:l2=[.int .i64 x.hh]:=R8;have mq:=qO.1 hA;have AW:=qO.1 hB;have tM:R9=[.int .i64 x.p]:=hp;have Gg:R_=[.int .i64 x.wt]:=Sb;have Lr:a1=[.int .i64 x.dy]:=h1;have Gh:a3=[.int .i64 x.bH]:=h2;have Sc:b1=[.int .i64 x.dJ]:=g1;have Sd:b3=[.int .i64 x.bJ]:=g2;subst e1 e2 iA mq AW tM Gg Lr Gh Sc Sd;exact⟨a,d,u1,u2,rfl,Dv,hdf,h3,g3⟩
 ·rintro⟨a,d,u1,u2,rfl,Dv,hdf,h3,g3⟩;exact⟨[_,a,d],_,rfl,⟨[_],[a,d],rfl,rfl,[a],[d],rfl,Dv,hdf⟩,[_,_],_,rfl,⟨[_],[_],rfl,rfl,rfl⟩,[_,_,_,_,_,_],_,rfl,⟨[_,_],_,rfl,qO.2 rfl,[_,_],_,rfl,qO.2 rfl,[_],[_],rfl,rfl,rfl⟩,
   [_,_,u1],_,rfl,⟨[_],_,rfl,rfl,[_],[u1],rfl,rfl,h3⟩,[_],_,rfl,rfl,[_],[u2],rfl,rfl,g3⟩
theorem Bv {x:xC}:aF w M x v↔∃a d u1 u2,v=.agg (Lp x a d u1 u2).toArray/\aF w M x.av a/\aF w M x.df d/\aF w M x.cw u1/\aF w M x.cu u2:=by
 constructor
 ·rintro⟨vs,h,hv⟩;obtain⟨a,d,u1,u2,rfl,h2,h3,h4,h5⟩:=Lq.1 h;exact⟨a,d,u1,u2,hv,qk h2 rfl,qk h3 rfl,qk h4 rfl,qk h5 rfl⟩
 ·rintro⟨a,d,u1,u2,rfl,h2,h3,h4,h5⟩;exact⟨_,Lq.2 ⟨a,d,u1,u2,rfl,h2.yp rfl,h3.yp rfl,h4.yp rfl,h5.yp rfl⟩,rfl⟩
end
theorem ck.Se {w:World} {C:Nat->Nat} {j b n:Nat} {iz:Obj} (h:ck w C j b iz) (hj:n<=j):ck w (K.cD n C) 0 b iz:=⟨by unfold K.cD;rw[h.col,if_pos hj],h.at_⟩
instance:Inhabited uA:=⟨⟨0,[],[]⟩⟩
def j5:Nat->Nat:=λ_=>0
theorem Sf (w:World):bA w j5:=λb h=>absurd rfl h
theorem aH.below {w w':World} (h:aH [] w j5 w' j5):Go.RowKit.Below w.heap.size w w':=h.ext.below (Nat.le_refl _) (λb hb=>by simp at hb)
def pF {H:Type} (enc:TypeId×Value->H) (P:Program) (w:World) (base:Nat) (spare:Nat->Bool) (held:Bool) (α:Type) [bF α] (t:TypeId):Prop:=
 P.cellsOf t=sz α/\∀(fuel:Nat) (cs:List Value) (x:DataW H×List MemPlace),DataW.trod enc P w base spare held fuel t cs=some x->∃a:α,rep w.heap (aA j5) a cs
section
variable {H:Type} {enc:TypeId×Value->H} {P:Program} {w:World} {base:Nat} {spare:Nat->Bool} {held:Bool} {α β γ:Type} [bF α] [bF β] [bF γ] {t e:TypeId}
theorem Sg (ht:P.underlying t=some (.int .i64)) (hc:P.cellsOf t=1):pF enc P w base spare held Int t:=⟨hc,λfuel cs x h=>by
 obtain⟨n,rfl,_⟩:=DataW.trod_int ht h;exact⟨n,rfl⟩⟩
theorem Sh (ht:P.underlying t=some .bool) (hc:P.cellsOf t=1):pF enc P w base spare held Bool t:=⟨hc,λfuel cs x h=>by
 obtain⟨b,rfl,_⟩:=DataW.trod_bool ht h;exact⟨b,rfl⟩⟩
theorem Si (ht:P.underlying t=some .string) (hc:P.cellsOf t=1):pF enc P w base spare held ByteArray t:=⟨hc,λfuel cs x h=>by
 obtain⟨s,rfl,_,hs⟩:=DataW.trod_string ht h;exact⟨s,rfl,by unfold maxLen at hs;omega⟩⟩
theorem Sj (ht:P.underlying t=some (.slice e)) (hc:P.cellsOf t=1) (hsz:0<sz α) (he:pF enc P w base spare held α e):pF enc P w base spare held (List α) t:=⟨hc,λfuel cs x h=>by
 rcases Go.Deep.open_slice ht h with⟨rfl,_⟩|⟨a,len,cap,m,n,D,Pl,rfl,hb,hl,hm,Gi,hx,hcell⟩
 ·exact⟨[],none,0,rfl,Nat.le_refl _,by simp,.inl rfl⟩
 ·have Sk:len<=m:=by rw[Gi];split<;>omega
  have key:∀k,k<=len->∃xs:List α,xs.length=k/\∀i (hi:i<xs.length),∃cs',w.cells? base (a.add (i*sz α)) (sz α)=some cs'/\rep w.heap (aA j5) xs[i] cs':=by
   intro k
   induction k with
   |zero=>exact λ_=>⟨[],rfl,λi hi=>by simp at hi⟩
   |succ k ih=>
    intro hk;obtain⟨xs,lq,hxs⟩:=ih (by omega);obtain⟨cs',h1,h2⟩:=hcell k (by omega);obtain⟨y,hy⟩:=he.2 _ _ _ h2;rw[he.1] at h1;refine⟨xs++[y],by simp[lq],λi hi=>?_⟩;by_cases hik:i<xs.length
    ·rw[List.getElem_append_left hik];exact hxs i hik
    ·have Gj:i=k:=by simp at hi;omega
     subst Gj;rw[List.getElem_append_right (by omega)];exact⟨cs',h1,by simpa[lq] using hy⟩
  obtain⟨xs,lq,hxs⟩:=key len (Nat.le_refl _);refine⟨xs,some a,cap,by rw[lq],by omega,by unfold maxLen at hm;omega,?_⟩;by_cases h0:len=0
  ·left;exact List.length_eq_zero_iff.1 (by omega)
  ·right;have hall:∀i (hi:i<xs.length),∃cs',cs'.length=sz α/\(∀j (hj:j<cs'.length),w.cell? (a.add (i*sz α+j))=some cs'[j])/\rep w.heap (aA j5) xs[i] cs':=λi hi=>by
    obtain⟨cs',h1,h2⟩:=hxs i hi;obtain⟨_,h3,h4⟩:=World.cells?_some h1;refine⟨cs',h3,λj hj=>?_,h2⟩;have h5:=h4 j (by omega);rw[Addr.add_add] at h5;rw[h5];exact List.getElem?_eq_getElem hj
   obtain⟨c0,Sl,hc0,_⟩:=hall 0 (by omega);have oM:=hc0 0 (by omega);obtain⟨b,off,spot⟩:=a;have Gk:spot=none:=by simpa[Addr.add] using World.cell?_spot oM
   subst Gk;refine⟨b,off,rfl,?_⟩;simp only[oW] at hall oM;unfold World.cell? at oM;simp only at oM;cases hbk:w.heap[b]? with
   |none=>rw[hbk] at oM;cases oM
   |some iz=>
    cases iz with
    |cells c ty fL=>
     have sD:∀i (hi:i<xs.length),∃cs',cs'.length=sz α/\(∀j (hj:j<cs'.length),c[off+(i*sz α+j)]?=some cs'[j])/\rep w.heap (aA j5) xs[i] cs':=λi hi=>by
      obtain⟨cs',h1,h2,h3⟩:=hall i hi;refine⟨cs',h1,λj hj=>?_,h3⟩;have h4:=h2 j hj;unfold World.cell? at h4;simp only[hbk] at h4;simpa using h4
     refine⟨λh=>h rfl,c,ty,fL,hbk,?_,λi hi=>?_⟩
     ·obtain⟨cs',h1,h2,_⟩:=sD (len-1) (by omega);have h3:=(Array.getElem?_eq_some_iff.1 (h2 (sz α-1) (by omega))).1;have h4:len*sz α=(len-1)*sz α+sz α:=by
       have:len=(len-1)+1:=by omega
       rw[this,Nat.succ_mul];simp
      rw[lq,h4];omega
     ·obtain⟨cs',h1,h2,h3⟩:=sD i hi;have:cB c (off+i*sz α) (sz α)=cs':=by
       apply List.ext_getElem?;intro r;simp only[cB,List.getElem?_take,List.getElem?_drop,Array.getElem?_toList];by_cases hr:r<sz α
       ·rw[if_pos hr,List.getElem?_eq_getElem (by omega),Nat.add_assoc];exact h2 r (by omega)
       ·rw[if_neg hr,List.getElem?_eq_none (by omega)]
      rw[this];exact h3
    |_=>rw[hbk] at oM;cases oM⟩
theorem Sm {f0 f1:Field} (ht:P.underlying t=some (.struct #[f0,f1])) (hc:P.cellsOf t=sz α+sz β) (o0:f0.offset=0) (o1:f1.offset=sz α)
  (h0:pF enc P w base spare held α f0.type) (h1:pF enc P w base spare held β f1.type)
  (fuel:Nat) (cs:List Value) (x:DataW H×List MemPlace) (h:DataW.trod enc P w base spare held fuel t cs=some x):∃a:α×β,rep w.heap (aA j5) a cs:=by
 obtain⟨xs,n,_,_,hl,lq,hf⟩:=DataW.trod_struct ht h;have hx2:xs.length=2:=lq;have e0:=hf 0 f0 rfl;have e1:=hf 1 f1 rfl;rw[o0,h0.1,List.drop_zero,List.getElem?_eq_getElem (by omega)] at e0;rw[o1,h1.1,List.take_of_length_le (by rw[List.length_drop];omega),List.getElem?_eq_getElem (by omega)] at e1;obtain⟨a,ha⟩:=h0.2 _ _ _ e0;obtain⟨b,hb⟩:=h1.2 _ _ _ e1;exact⟨(a,b),_,_,(List.take_append_drop (sz α) cs).symm,ha,hb⟩
theorem pF.rv (h:pF enc P w base spare held α t) (hx:bF.agg α=false) {fuel:Nat} {v:Value} {x:DataW H×List MemPlace} (ht:DataW.trod enc P w base spare held fuel t [v]=some x):∃a:α,aF w (aA j5) a v:=by
 obtain⟨a,ha⟩:=h.2 _ _ _ ht;exact⟨a,qk ha hx⟩
end
def ji {H:Type} (enc:TypeId×Value->H) (P:Program) (w:World) (base:Nat) (spare:Nat->Bool) (held:Bool) (α:Type) [bF α] (t:TypeId) (Q:α->Prop):Prop:=
 P.cellsOf t=sz α/\∀(fuel:Nat) (cs:List Value) (x:DataW H×List MemPlace),DataW.trod enc P w base spare held fuel t cs=some x->(∀n∈x.1.weights P t,n<=reachBytes)->∃a:α,rep w.heap (aA j5) a cs/\Q a
theorem Ls {H:Type} {P:Program} {e:TypeId} {d:DataW H} {n:Nat}:∀{l:List (DataW H)},d∈l->n∈d.weights P e->n∈DataW.weightsAll P e l
 |[],h,_=>by cases h
 |a::l,h,hn=>by
  simp only[DataW.weightsAll,List.mem_append];rcases List.mem_cons.1 h with rfl|h
  ·exact .inl hn
  ·exact .inr (Ls h hn)
section
variable {H:Type} {enc:TypeId×Value->H} {P:Program} {w:World} {base:Nat} {spare:Nat->Bool} {held:Bool} {α β γ:Type} [bF α] [bF β] [bF γ] {t e:TypeId}
theorem pF.q (h:pF enc P w base spare held α t):ji enc P w base spare held α t (λ_=>True):=⟨h.1,λfuel cs x hx _=>by
 obtain⟨a,ha⟩:=h.2 fuel cs x hx;exact⟨a,ha,trivial⟩⟩
theorem ji.mono {Q R:α->Prop} (h:ji enc P w base spare held α t Q) (Sn:∀a,Q a->R a):ji enc P w base spare held α t R:=⟨h.1,λfuel cs x hx hn=>by
 obtain⟨a,ha,hq⟩:=h.2 fuel cs x hx hn;exact⟨a,ha,Sn a hq⟩⟩
theorem Dw {Q:α->Prop} {nb:Nat} (ht:P.underlying t=some (.slice e)) (hc:P.cellsOf t=1) (hsz:0<sz α) (hnb:P.bytesOf e=nb) (he:ji enc P w base spare held α e Q):ji enc P w base spare held (List α) t (λl=>l.length*nb<=reachBytes/\∀y∈l,Q y):=⟨hc,λfuel cs x h hq=>by
 rcases Go.Deep.open_slice ht h with⟨rfl,rfl⟩|⟨a,len,cap,m,n,D,Pl,rfl,hb,hl,hm,Gi,rfl,hcell⟩
 ·exact⟨[],⟨none,0,rfl,Nat.le_refl _,by simp,.inl rfl⟩,by simp,λy hy=>by cases hy⟩
 ·have Sk:len<=m:=by rw[Gi];split<;>omega
  have hw0: (len+(m-len))*nb<=reachBytes:=hq _ (by simp[DataW.weights,ht,hnb]);have hwi:∀i,i<len->∀n∈(D i).weights P e,n<=reachBytes:=λi hi n hn=>hq n (by
   simp only[DataW.weights,ht,List.mem_cons,List.mem_append];exact .inr (.inl (Ls (List.mem_map.2 ⟨i,List.mem_range.2 hi,rfl⟩) hn)))
  have key:∀k,k<=len->∃xs:List α,xs.length=k/\(∀y∈xs,Q y)/\∀i (hi:i<xs.length),∃cs',w.cells? base (a.add (i*sz α)) (sz α)=some cs'/\rep w.heap (aA j5) xs[i] cs':=by
   intro k
   induction k with
   |zero=>exact λ_=>⟨[],rfl,λy hy=>(by cases hy),λi hi=>by simp at hi⟩
   |succ k ih=>
    intro hk;obtain⟨xs,lq,Gl,hxs⟩:=ih (by omega);obtain⟨cs',h1,h2⟩:=hcell k (by omega);obtain⟨y,hy,Sp⟩:=he.2 _ _ _ h2 (hwi k (by omega));rw[he.1] at h1;refine⟨xs++[y],by simp[lq],λz hz=>(List.mem_append.1 hz).elim (Gl z) (λhz=>by rw[List.mem_singleton.1 hz];exact Sp),λi hi=>?_⟩;by_cases hik:i<xs.length
    ·rw[List.getElem_append_left hik];exact hxs i hik
    ·have Gj:i=k:=by simp at hi;omega
     subst Gj;rw[List.getElem_append_right (by omega)];exact⟨cs',h1,by simpa[lq] using hy⟩
  obtain⟨xs,lq,Gl,hxs⟩:=key len (Nat.le_refl _);refine⟨xs,?_,by rw[lq];exact Nat.le_trans (Nat.mul_le_mul_right _ (by omega)) hw0,Gl⟩;refine⟨some a,cap,by rw[lq],by omega,by unfold maxLen at hm;omega,?_⟩;by_cases h0:len=0
  ·left;exact List.length_eq_zero_iff.1 (by omega)
  ·right;have hall:∀i (hi:i<xs.length),∃cs',cs'.length=sz α/\(∀j (hj:j<cs'.length),w.cell? (a.add (i*sz α+j))=some cs'[j])/\rep w.heap (aA j5) xs[i] cs':=λi hi=>by
    obtain⟨cs',h1,h2⟩:=hxs i hi;obtain⟨_,h3,h4⟩:=World.cells?_some h1;refine⟨cs',h3,λj hj=>?_,h2⟩;have h5:=h4 j (by omega);rw[Addr.add_add] at h5;rw[h5];exact List.getElem?_eq_getElem hj
   obtain⟨c0,Sl,hc0,_⟩:=hall 0 (by omega);have oM:=hc0 0 (by omega);obtain⟨b,off,spot⟩:=a;have Gk:spot=none:=by simpa[Addr.add] using World.cell?_spot oM
   subst Gk;refine⟨b,off,rfl,?_⟩;simp only[oW] at hall oM;unfold World.cell? at oM;simp only at oM;cases hbk:w.heap[b]? with
   |none=>rw[hbk] at oM;cases oM
   |some iz=>
    cases iz with
    |cells c ty fL=>
     have sD:∀i (hi:i<xs.length),∃cs',cs'.length=sz α/\(∀j (hj:j<cs'.length),c[off+(i*sz α+j)]?=some cs'[j])/\rep w.heap (aA j5) xs[i] cs':=λi hi=>by
      obtain⟨cs',h1,h2,h3⟩:=hall i hi;refine⟨cs',h1,λj hj=>?_,h3⟩;have h4:=h2 j hj;unfold World.cell? at h4;simp only[hbk] at h4;simpa using h4
     refine⟨λh=>h rfl,c,ty,fL,hbk,?_,λi hi=>?_⟩
     ·obtain⟨cs',h1,h2,_⟩:=sD (len-1) (by omega);have h3:=(Array.getElem?_eq_some_iff.1 (h2 (sz α-1) (by omega))).1;have h4:len*sz α=(len-1)*sz α+sz α:=by
       have:len=(len-1)+1:=by omega
       rw[this,Nat.succ_mul];simp
      rw[lq,h4];omega
     ·obtain⟨cs',h1,h2,h3⟩:=sD i hi;have:cB c (off+i*sz α) (sz α)=cs':=by
       apply List.ext_getElem?;intro r;simp only[cB,List.getElem?_take,List.getElem?_drop,Array.getElem?_toList];by_cases hr:r<sz α
       ·rw[if_pos hr,List.getElem?_eq_getElem (by omega),Nat.add_assoc];exact h2 r (by omega)
       ·rw[if_neg hr,List.getElem?_eq_none (by omega)]
      rw[this];exact h3
    |_=>rw[hbk] at oM;cases oM⟩
theorem zP {ts:List TypeId} {ds:List (DataW H)} (h: (DataW.weightsEach P ts ds).all (·<=reachBytes)=true) {j:Nat} {d:DataW H} (ht:ts[j]?=some t) (hd:ds[j]?=some d):∀n∈d.weights P t,n<=reachBytes:=λn hn=>by
 have:=List.all_eq_true.1 h _ (DataW.weights_mem_each ht hd n hn);simpa using this
end
section
variable {H:Type} {enc:TypeId×Value->H} {P:Program} {w:World} {base:Nat} {spare:Nat->Bool} {held:Bool} {α β γ δ ε:Type} [bF α] [bF β] [bF γ] [bF δ] [bF ε] {t e:TypeId}
theorem Sq {sX:α->Prop} {Q1:β->Prop} {f0 f1:Field} (ht:P.underlying t=some (.struct #[f0,f1])) (hc:P.cellsOf t=sz α+sz β) (o0:f0.offset=0) (o1:f1.offset=sz α) (h0:ji enc P w base spare held α f0.type sX) (h1:ji enc P w base spare held β f1.type Q1)
  (fuel:Nat) (cs:List Value) (x:DataW H×List MemPlace) (h:DataW.trod enc P w base spare held fuel t cs=some x) (hq:∀n∈x.1.weights P t,n<=reachBytes):∃a:α×β,rep w.heap (aA j5) a cs/\sX a.1/\Q1 a.2:=by
 obtain⟨xs,n,_,rfl,hl,lq,hf⟩:=DataW.trod_struct ht h;have Gm:xs.length=2:=lq;have hw:∀(j:Nat) (hj:j<xs.length) (t':TypeId),[f0.type,f1.type][j]?=some t'->∀m∈(xs[j]).1.weights P t',m<=reachBytes:=λj hj t' ht' m hm=>hq m (by
  simp only[DataW.weights,ht];exact DataW.weights_mem_each (j:=j) ht' (by rw[List.getElem?_map,List.getElem?_eq_getElem hj];rfl) m hm)
 have e0:=hf 0 f0 rfl;have e1:=hf 1 f1 rfl;rw[o0,h0.1,List.drop_zero,List.getElem?_eq_getElem (by omega)] at e0;rw[o1,h1.1,List.take_of_length_le (by rw[List.length_drop];omega),List.getElem?_eq_getElem (by omega)] at e1;obtain⟨a0,vM,q0⟩:=h0.2 _ _ _ e0 (hw 0 (by omega) _ rfl);obtain⟨a1,r1,q1⟩:=h1.2 _ _ _ e1 (hw 1 (by omega) _ rfl);refine⟨(a0,a1),⟨cs.take (sz α),cs.drop (sz α),(List.take_append_drop (sz α) _).symm,?_,?_⟩,q0,q1⟩
 ·exact vM
 ·exact r1
theorem Gn {sX:α->Prop} {Q1:β->Prop} {Q2:γ->Prop} {f0 f1 f2:Field} (ht:P.underlying t=some (.struct #[f0,f1,f2])) (hc:P.cellsOf t=sz α+(sz β+sz γ)) (o0:f0.offset=0) (o1:f1.offset=sz α) (o2:f2.offset=sz α+sz β) (h0:ji enc P w base spare held α f0.type sX) (h1:ji enc P w base spare held β f1.type Q1) (h2:ji enc P w base spare held γ f2.type Q2)
  (fuel:Nat) (cs:List Value) (x:DataW H×List MemPlace) (h:DataW.trod enc P w base spare held fuel t cs=some x) (hq:∀n∈x.1.weights P t,n<=reachBytes):∃a:α×β×γ,rep w.heap (aA j5) a cs/\sX a.1/\Q1 a.2.1/\Q2 a.2.2:=by
 obtain⟨xs,n,_,rfl,hl,lq,hf⟩:=DataW.trod_struct ht h;have Gm:xs.length=3:=lq;have hw:∀(j:Nat) (hj:j<xs.length) (t':TypeId),[f0.type,f1.type,f2.type][j]?=some t'->∀m∈(xs[j]).1.weights P t',m<=reachBytes:=λj hj t' ht' m hm=>hq m (by
  simp only[DataW.weights,ht];exact DataW.weights_mem_each (j:=j) ht' (by rw[List.getElem?_map,List.getElem?_eq_getElem hj];rfl) m hm)
 have e0:=hf 0 f0 rfl;have e1:=hf 1 f1 rfl;have e2:=hf 2 f2 rfl;rw[o0,h0.1,List.drop_zero,List.getElem?_eq_getElem (by omega)] at e0;rw[o1,h1.1,List.getElem?_eq_getElem (by omega)] at e1;rw[o2,h2.1,List.take_of_length_le (by rw[List.length_drop];omega),List.getElem?_eq_getElem (by omega)] at e2;obtain⟨a0,vM,q0⟩:=h0.2 _ _ _ e0 (hw 0 (by omega) _ rfl);obtain⟨a1,r1,q1⟩:=h1.2 _ _ _ e1 (hw 1 (by omega) _ rfl);obtain⟨a2,r2,q2⟩:=h2.2 _ _ _ e2 (hw 2 (by omega) _ rfl);refine⟨(a0,a1,a2),⟨cs.take (sz α),cs.drop (sz α),(List.take_append_drop (sz α) _).symm,?_,(cs.drop (sz α)).take (sz β),(cs.drop (sz α)).drop (sz β),(List.take_append_drop (sz β) _).symm,?_,?_⟩,q0,q1,q2⟩
 ·exact vM
 ·exact r1
 ·rw[List.drop_drop];exact r2
theorem Lt {sX:α->Prop} {Q1:β->Prop} {Q2:γ->Prop} {Q3:δ->Prop} {f0 f1 f2 f3:Field} (ht:P.underlying t=some (.struct #[f0,f1,f2,f3])) (hc:P.cellsOf t=sz α+(sz β+(sz γ+sz δ))) (o0:f0.offset=0) (o1:f1.offset=sz α) (o2:f2.offset=sz α+sz β) (AY:f3.offset=sz α+sz β+sz γ) (h0:ji enc P w base spare held α f0.type sX) (h1:ji enc P w base spare held β f1.type Q1) (h2:ji enc P w base spare held γ f2.type Q2) (h3:ji enc P w base spare held δ f3.type Q3)
  (fuel:Nat) (cs:List Value) (x:DataW H×List MemPlace) (h:DataW.trod enc P w base spare held fuel t cs=some x) (hq:∀n∈x.1.weights P t,n<=reachBytes):∃a:α×β×γ×δ,rep w.heap (aA j5) a cs/\sX a.1/\Q1 a.2.1/\Q2 a.2.2.1/\Q3 a.2.2.2:=by
 obtain⟨xs,n,_,rfl,hl,lq,hf⟩:=DataW.trod_struct ht h;have Gm:xs.length=4:=lq;have hw:∀(j:Nat) (hj:j<xs.length) (t':TypeId),[f0.type,f1.type,f2.type,f3.type][j]?=some t'->∀m∈(xs[j]).1.weights P t',m<=reachBytes:=λj hj t' ht' m hm=>hq m (by
  simp only[DataW.weights,ht];exact DataW.weights_mem_each (j:=j) ht' (by rw[List.getElem?_map,List.getElem?_eq_getElem hj];rfl) m hm)
 have e0:=hf 0 f0 rfl;have e1:=hf 1 f1 rfl;have e2:=hf 2 f2 rfl;have iA:=hf 3 f3 rfl;rw[o0,h0.1,List.drop_zero,List.getElem?_eq_getElem (by omega)] at e0;rw[o1,h1.1,List.getElem?_eq_getElem (by omega)] at e1;rw[o2,h2.1,List.getElem?_eq_getElem (by omega)] at e2;rw[AY,h3.1,List.take_of_length_le (by rw[List.length_drop];omega),List.getElem?_eq_getElem (by omega)] at iA;obtain⟨a0,vM,q0⟩:=h0.2 _ _ _ e0 (hw 0 (by omega) _ rfl);obtain⟨a1,r1,q1⟩:=h1.2 _ _ _ e1 (hw 1 (by omega) _ rfl);obtain⟨a2,r2,q2⟩:=h2.2 _ _ _ e2 (hw 2 (by omega) _ rfl);obtain⟨a3,r3,pG⟩:=h3.2 _ _ _ iA (hw 3 (by omega) _ rfl);refine⟨(a0,a1,a2,a3),⟨cs.take (sz α),cs.drop (sz α),(List.take_append_drop (sz α) _).symm,?_,(cs.drop (sz α)).take (sz β),(cs.drop (sz α)).drop (sz β),(List.take_append_drop (sz β) _).symm,?_,((cs.drop (sz α)).drop (sz β)).take (sz γ),((cs.drop (sz α)).drop (sz β)).drop (sz γ),(List.take_append_drop (sz γ) _).symm,?_,?_⟩,q0,q1,q2,pG⟩
 ·exact vM
 ·exact r1
 ·rw[List.drop_drop];exact r2
 ·rw[List.drop_drop,List.drop_drop];simpa only[Nat.add_assoc] using r3
theorem Sr {sX:α->Prop} {Q1:β->Prop} {Q2:γ->Prop} {Q3:δ->Prop} {Q4:ε->Prop} {f0 f1 f2 f3 f4:Field} (ht:P.underlying t=some (.struct #[f0,f1,f2,f3,f4])) (hc:P.cellsOf t=sz α+(sz β+(sz γ+(sz δ+sz ε)))) (o0:f0.offset=0) (o1:f1.offset=sz α) (o2:f2.offset=sz α+sz β) (AY:f3.offset=sz α+sz β+sz γ) (qY:f4.offset=sz α+sz β+sz γ+sz δ) (h0:ji enc P w base spare held α f0.type sX) (h1:ji enc P w base spare held β f1.type Q1) (h2:ji enc P w base spare held γ f2.type Q2) (h3:ji enc P w base spare held δ f3.type Q3) (h4:ji enc P w base spare held ε f4.type Q4)
  (fuel:Nat) (cs:List Value) (x:DataW H×List MemPlace) (h:DataW.trod enc P w base spare held fuel t cs=some x) (hq:∀n∈x.1.weights P t,n<=reachBytes):∃a:α×β×γ×δ×ε,rep w.heap (aA j5) a cs/\sX a.1/\Q1 a.2.1/\Q2 a.2.2.1/\Q3 a.2.2.2.1/\Q4 a.2.2.2.2:=by
 obtain⟨xs,n,_,rfl,hl,lq,hf⟩:=DataW.trod_struct ht h;have Gm:xs.length=5:=lq;have hw:∀(j:Nat) (hj:j<xs.length) (t':TypeId),[f0.type,f1.type,f2.type,f3.type,f4.type][j]?=some t'->∀m∈(xs[j]).1.weights P t',m<=reachBytes:=λj hj t' ht' m hm=>hq m (by
  simp only[DataW.weights,ht];exact DataW.weights_mem_each (j:=j) ht' (by rw[List.getElem?_map,List.getElem?_eq_getElem hj];rfl) m hm)
 have e0:=hf 0 f0 rfl;have e1:=hf 1 f1 rfl;have e2:=hf 2 f2 rfl;have iA:=hf 3 f3 rfl;have mq:=hf 4 f4 rfl;rw[o0,h0.1,List.drop_zero,List.getElem?_eq_getElem (by omega)] at e0;rw[o1,h1.1,List.getElem?_eq_getElem (by omega)] at e1;rw[o2,h2.1,List.getElem?_eq_getElem (by omega)] at e2;rw[AY,h3.1,List.getElem?_eq_getElem (by omega)] at iA;rw[qY,h4.1,List.take_of_length_le (by rw[List.length_drop];omega),List.getElem?_eq_getElem (by omega)] at mq;obtain⟨a0,vM,q0⟩:=h0.2 _ _ _ e0 (hw 0 (by omega) _ rfl);obtain⟨a1,r1,q1⟩:=h1.2 _ _ _ e1 (hw 1 (by omega) _ rfl);obtain⟨a2,r2,q2⟩:=h2.2 _ _ _ e2 (hw 2 (by omega) _ rfl);obtain⟨a3,r3,pG⟩:=h3.2 _ _ _ iA (hw 3 (by omega) _ rfl);obtain⟨a4,Lu,xE⟩:=h4.2 _ _ _ mq (hw 4 (by omega) _ rfl);refine⟨(a0,a1,a2,a3,a4),⟨cs.take (sz α),cs.drop (sz α),(List.take_append_drop (sz α) _).symm,?_,(cs.drop (sz α)).take (sz β),(cs.drop (sz α)).drop (sz β),(List.take_append_drop (sz β) _).symm,?_,((cs.drop (sz α)).drop (sz β)).take (sz γ),((cs.drop (sz α)).drop (sz β)).drop (sz γ),(List.take_append_drop (sz γ) _).symm,?_,(((cs.drop (sz α)).drop (sz β)).drop (sz γ)).take (sz δ),(((cs.drop (sz α)).drop (sz β)).drop (sz γ)).drop (sz δ),(List.take_append_drop (sz δ) _).symm,?_,?_⟩,q0,q1,q2,pG,xE⟩
 ·exact vM
 ·exact r1
 ·rw[List.drop_drop];exact r2
 ·rw[List.drop_drop,List.drop_drop];simpa only[Nat.add_assoc] using r3
 ·rw[List.drop_drop,List.drop_drop,List.drop_drop];simpa only[Nat.add_assoc] using Lu
end
section
variable {h:Array Obj} {M:Nat->Prop} {vs:List Value} {w:World} {cs:Array Value} {α β:Type} [bF α] [bF β]
theorem zQ {l:List Value} (e:cs.toList=l):cs=l.toArray:=by rw[<-e]
theorem Lv {a:Int×List α×List β} (hr:rep h M a vs):∃p q,vs=[.int .i64 a.1,p,q]/\rep h M a.2.1 [p]/\rep h M a.2.2 [q]:=by
 obtain⟨us,ws,rfl,h1,wR,AU,rfl,h2,h3⟩:=hr;obtain⟨p,rfl⟩:=List.length_eq_one_iff.1 (bF.len h2);obtain⟨q,rfl⟩:=List.length_eq_one_iff.1 (bF.len h3);have e1:us=[.int .i64 a.1]:=h1;subst e1;exact⟨p,q,rfl,h2,h3⟩
theorem Lw {a:Int×Int×List α} (hr:rep h M a vs):∃p,vs=[.int .i64 a.1,.int .i64 a.2.1,p]/\rep h M a.2.2 [p]:=by
 obtain⟨us,ws,rfl,h1,wR,AU,rfl,h2,h3⟩:=hr;obtain⟨p,rfl⟩:=List.length_eq_one_iff.1 (bF.len h3);have e1:us=[.int .i64 a.1]:=h1;have e2:wR=[.int .i64 a.2.1]:=h2;subst e1 e2;exact⟨p,rfl,h3⟩
theorem Ss {a:Int×Int} (hr:rep h M a vs):vs=[.int .i64 a.1,.int .i64 a.2]:=by
 obtain⟨us,ws,rfl,h1,h2⟩:=hr;have e1:us=[.int .i64 a.1]:=h1;have e2:ws=[.int .i64 a.2]:=h2;subst e1 e2;rfl
theorem Sw {a:dh×dh×Int×Int} (hr:rep h M a vs):vs=[.int .i64 a.1.a,.int .i64 a.1.b,.int .i64 a.2.1.a,.int .i64 a.2.1.b,.int .i64 a.2.2.1,.int .i64 a.2.2.2]:=by
 obtain⟨us,ws,rfl,h1,wR,AU,rfl,h2,AV,CL,rfl,h3,h4⟩:=hr;have e1:=qO.1 h1;have e2:=qO.1 h2;have iA:AV=[.int .i64 a.2.2.1]:=h3;have mq:CL=[.int .i64 a.2.2.2]:=h4;subst e1 e2 iA mq;rfl
end
end Go.K
