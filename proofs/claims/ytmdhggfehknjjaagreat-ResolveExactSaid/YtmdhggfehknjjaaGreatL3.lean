/- The document's persons: the search, the greedy way, their order. Plain. -/
import Derived.Test.YtmdhggfehknjjaaGreatL2
import Derived.Test.YtmdhggfehknjjaaGreatL1
import Derived.RangeFuncLeaves
import Derived.RangeFuncNested
import Derived.WalkKit
import Derived.ProofKit
import Derived.OpenShut
import Derived.ChangeSlices
import Derived.Below
import Derived.Carry
import Derived.Deep.Slices
import Derived.WideShapes
import Derived.ChangeArms
import Derived.SizedLaws
set_option linter.unusedVariables false
set_option linter.unusedSimpArgs false
set_option linter.unusedSectionVars false
namespace Go.K
open aZ
def tg (d:bC) (a b:ak):Bool:=!d.same&&(decide (d.A=a/\d.B=b)||decide (d.A=b/\d.B=a))
theorem Sq (l:List bC) (a b:ak):l.any (λd=>tg d a b)=(jw l a b||jw l b a):=by
 unfold jw;rw[Bool.eq_iff_iff,Bool.or_eq_true,List.any_eq_true,List.any_eq_true,List.any_eq_true];unfold tg;constructor
 ·rintro⟨d,hd,h⟩;rw[Bool.and_eq_true,Bool.or_eq_true] at h;rcases h.2 with h2|h2
  ·exact .inl ⟨d,hd,by rw[h.1,h2];rfl⟩
  ·exact .inr ⟨d,hd,by rw[h.1,h2];rfl⟩
 ·rintro(⟨d,hd,h⟩|⟨d,hd,h⟩)<;>rw[Bool.and_eq_true] at h<;>refine⟨d,hd,?_⟩<;>rw[h.1,h.2]<;>simp
noncomputable def iO (l:List aD) (ds:List bC):Int:=if gD l≠0 then gD l else jY ds
theorem nY {s:List ak} {c:ak} (h:c∈s): (0:Int)<=idxOf (λx=>decide (c=x)) s:=by have:=xy.2 h;rw[<-xx] at this;exact of_decide_eq_true this
theorem qK {s:List ak} {c:ak} (h:c∉s):¬(0:Int)<=idxOf (λx=>decide (c=x)) s:=λe=>h (xy.1 (by rw[<-xx];exact decide_eq_true e))
theorem nT.put {l:List aD} {s zs:List ak} (h:nT l s zs) (hs:zs.Pairwise λx y=>oC x y=true) {x:aD} (hx:x∈l) (hA:x.A∈s) (hB:x.B∈s) (hne: (x.A∈zs/\x.B∉zs)\/(x.A∉zs/\x.B∈zs)):
  nT l s (fM (fM zs x.A) x.B)/\((fM (fM zs x.A) x.B).Pairwise λx y=>oC x y=true)/\(fM (fM zs x.A) x.B).length=zs.length+1:=by
 obtain⟨r,hr,kZ⟩:∃r,nT l s (zs++[r])/\∀y,y∈fM (fM zs x.A) x.B↔y∈zs++[r]:=by
  rcases hne with⟨h1,h2⟩|⟨h1,h2⟩
  ·refine⟨x.B,h.add hx hA hB (.inr ⟨rfl,h1⟩) h2,λy=>?_⟩;rw[A5,A5,List.mem_append,List.mem_singleton];exact⟨λe=>e.elim .inr (λe=>e.elim (λe=> .inl (e▸h1)) .inl),λe=>e.elim (λe=> .inr (.inr e)) .inl⟩
  ·refine⟨x.A,h.add hx hA hB (.inl ⟨rfl,h2⟩) h1,λy=>?_⟩;rw[A5,A5,List.mem_append,List.mem_singleton];exact⟨λe=>e.elim (λe=> .inl (e▸h2)) (λe=>e.elim .inr .inl),λe=>e.elim (λe=> .inr (.inr e)) (λe=> .inr (.inl e))⟩
 have Sr:=H9 (c:=x.B) (H9 (c:=x.A) hs);have jv: (fM (fM zs x.A) x.B).Nodup:=AF (Sr.imp λh=>by rw[ET] at h;exact h);refine⟨⟨jv,λy hy=>hr.sub y ((kZ y).1 hy),(kZ _).2 hr.first,λy hy=>hr.same y ((kZ y).1 hy)⟩,Sr,?_⟩;have:=((List.perm_ext_iff_of_nodup jv hr.nd).2 kZ).length_eq;rw[this,List.length_append];rfl
def kC:List (List ak)->List ak->List (List ak)
 |[],s=>[s]
 |p::out,s=>if fQ p s<0 then p::kC out s else s::p::out
def iZ (sets:List (List ak)):List (List ak):=(gQ sets).foldl kC []
section
variable {out ys zs sets:List (List ak)} {s:List ak}
theorem Me:∀{out:List (List ak)} {k:Nat},k<=out.length->(∀i (hi:i<k) (h:i<out.length),fQ out[i] s<0)->(∀h:k<out.length,¬fQ out[k] s<0)->out.take k++s::out.drop k=kC out s
 |[],k,hk,_,_=>by simp[kC]
 |p::out,0,_,_,h2=>by
  have:=h2 aF;simp only[List.getElem_cons_zero] at this;simp[kC,this]
 |p::out,k+1,hk,h1,h2=>by
  have h0:=h1 0 ah aF;simp only[List.getElem_cons_zero] at h0;have ih:=Me (out:=out) (k:=k) (by simpa using hk) (λi hi h=>by have:=h1 (i+1) ah (by simpa using h);simpa using this) (λh=>by have:=h2 (by simpa using h);simpa using this);simp only[kC,h0,if_true,List.take_succ_cons,List.drop_succ_cons,List.cons_append,ih]
theorem Io:∀(out:List (List ak)) (s:List ak),(kC out s).Perm (s::out)
 |[],s=>List.Perm.refl _
 |p::out,s=>by
  unfold kC;split
  ·exact((Io out s).cons p).trans (List.Perm.swap s p out)
  ·exact List.Perm.refl _
theorem Ip (out:List (List ak)) (s:List ak): (kC out s).length=out.length+1:=by rw[(Io out s).length_eq];rfl
theorem vv {x y z:List ak} (h:fQ x y<=0) (h':fQ y z<=0):fQ x z<=0:=A4.2 x y z trivial trivial trivial h h'
theorem zJ (x y:List ak):fQ x y<0↔0<fQ y x:=A4.1 x y trivial trivial
theorem Ss:∀{out:List (List ak)},out.Pairwise (λp q=>fQ p q<=0)->(kC out s).Pairwise λp q=>fQ p q<=0
 |[],_=>by simp[kC]
 |p::out,h=>by
  obtain⟨h1,h2⟩:=List.pairwise_cons.1 h;unfold kC;split
  ·rename_i hlt;refine List.pairwise_cons.2 ⟨λq hq=>?_,Ss h2⟩;rcases List.mem_cons.1 ((Io out s).mem_iff.1 hq) with e|hq
   ·subst e;omega
   ·exact h1 q hq
  ·rename_i hn;have hsp:fQ s p<=0:=by have:=zJ p s;omega
   refine List.pairwise_cons.2 ⟨λq hq=>?_,h⟩;rcases List.mem_cons.1 hq with e|hq
   ·subst e;exact hsp
   ·exact vv hsp (h1 q hq)
theorem Iq:∀(ys out:List (List ak)),out.Pairwise (λp q=>fQ p q<=0)->(ys.foldl kC out).Pairwise (λp q=>fQ p q<=0)/\(ys.foldl kC out).Perm (out++ys)
 |[],out,h=>⟨h,by simp⟩
 |y::ys,out,h=>by
  obtain⟨h1,h2⟩:=Iq ys (kC out y) (Ss h);refine⟨h1,h2.trans (((Io out y).append_right ys).trans ?_)⟩;exact(List.perm_middle (l₁:=out) (l₂:=ys) (a:=y)).symm
theorem dO (ys:List (List ak)): (ys.foldl kC []).length=ys.length:=by have:=(Iq ys [] List.Pairwise.nil).2.length_eq;simpa using this
theorem Ir (hp:ys.Perm zs) (hz:zs.Pairwise λp q=>fQ p q<0):ys.foldl kC []=zs:=by
 obtain⟨h1,h2⟩:=Iq ys [] List.Pairwise.nil;have Sw: (ys.foldl kC []).Perm zs:=h2.trans (by simpa using hp);refine List.Perm.eq_of_pairwise (le:=λp q=>fQ p q<=0) (λa b ha hb h3 h4=>?_) h1 (hz.imp λh=>by omega) Sw;have ha:=Sw.mem_iff.1 ha;obtain⟨i,hi,rfl⟩:=List.getElem_of_mem ha;obtain⟨j,hj,rfl⟩:=List.getElem_of_mem hb;rcases Nat.lt_trichotomy i j with h|h|h
 ·have:=List.pairwise_iff_getElem.1 hz i j hi hj h;have h5:=zJ zs[i] zs[j];omega
 ·subst h;rfl
 ·have:=List.pairwise_iff_getElem.1 hz j i hj hi h;have h5:=zJ zs[j] zs[i];omega
theorem xM (h:ys.Pairwise λp q=>er (p.headD ⟨0,0⟩) (q.headD ⟨0,0⟩)):ys.Pairwise λp q=>fQ p q<0:=h.imp λh=>t_.2 h
theorem κ {l:List aD} {ds:List bC} (h:eG l ds ys):gQ ys=ys:=List.filter_eq_self.2 λp hp=>decide_eq_true (h.len p hp)
theorem Is {l:List aD} {ds:List bC} (h:eG l ds ys):iZ ys=ys:=by
 unfold iZ;rw[κ h];exact Ir (List.Perm.refl _) (xM h.heads)
theorem Iu {l:List aD} {ds:List bC} (h:eG l ds zs) (hs:fH fQ ys zs):iZ ys=zs:=by
 have hb:gQ ys=ys:=List.filter_eq_self.2 λp hp=>decide_eq_true (h.len p (hs.perm.mem_iff.2 hp));unfold iZ;rw[hb];exact Ir hs.perm.symm (xM h.heads)
end
def rK (l:List aD) (st:iW) (sets:List (List ak)):iW:=
 if sets.all (k4 l)=true/\(st.found=false\/st.val<e9 l sets) then⟨true,sets,e9 l sets⟩ else st
def sE (l:List aD) (ds:List bC) (rs:List ak) (sets:List (List ak)) (st:iW):iW:=(pg ds rs sets).foldl (rK l) st
def pJ (l:List aD) (ds:List bC) (r:ak) (rs:List ak) (sets:List (List ak)) (st:iW):Nat->iW
 |0=>st
 |k+1=>if oy ds (sets.getD k []) r then sE l ds rs (sets.set k (sets.getD k []++[r])) (pJ l ds r rs sets st k) else pJ l ds r rs sets st k
theorem Sy (l:List aD) (ds:List bC) (r:ak) (rs:List ak) (sets:List (List ak)) (st:iW):∀k,pJ l ds r rs sets st k=((List.range k).flatMap λk=>if oy ds (sets.getD k []) r then pg ds rs (sets.set k (sets.getD k []++[r])) else[]).foldl (rK l) st
 |0=>rfl
 |k+1=>by
  rw[List.range_succ,List.flatMap_append,List.foldl_append,<-Sy l ds r rs sets st k,pJ];simp only[List.flatMap_cons,List.flatMap_nil,List.append_nil];split
  ·rfl
  ·rfl
theorem Mf (l:List aD) (ds:List bC) (r:ak) (rs:List ak) (sets:List (List ak)) (st:iW):sE l ds (r::rs) sets st=sE l ds rs (sets++[[r]]) (pJ l ds r rs sets st sets.length):=by
 unfold sE;rw[pg,List.foldl_append,<-Sy]
section
variable {l:List aD} {ds:List bC} {sets:List (List ak)} {a b:iW}
theorem τ (x:ak):k4 l [x]=true:=by simp[k4]
theorem sk (hne:∀x∈l,x.A≠x.B) (sets:List (List ak)):e9 l (gQ sets)=e9 l sets:=by
 unfold e9;refine congrArg (λq:List aD=>(q.map (·.w)).sum) (List.filter_congr λx hx=>?_);rw[Bool.eq_iff_iff,List.any_eq_true,List.any_eq_true];constructor
 ·rintro⟨p,hp,h⟩;exact⟨p,(List.mem_filter.1 hp).1,h⟩
 ·rintro⟨p,hp,h⟩;have h2:x.A∈p/\x.B∈p:=of_decide_eq_true h;exact⟨p,List.mem_filter.2 ⟨hp,decide_eq_true (Zb h2.1 h2.2 (hne x hx))⟩,h⟩
theorem dA (hs:∀s∈sets,s≠[]):sets.all (k4 l)=oA l sets:=by
 unfold oA;rw[Bool.eq_iff_iff,List.all_eq_true,List.all_eq_true];constructor
 ·exact λh s hm=>h s (List.mem_filter.1 hm).1
 ·intro h s hm;by_cases e:2<=s.length
  ·exact h s (List.mem_filter.2 ⟨hm,decide_eq_true e⟩)
  ·match s,hs s hm,e with
   |[x],_,_=>exact τ x
   |[],h0,_=>exact absurd rfl h0
   |x::y::t,_,e=>simp at e
def Fc (a b:iW):Prop:=a.found=b.found/\gQ a.best=b.best/\a.val=b.val
theorem qs (hne:∀x∈l,x.A≠x.B) (hs:∀s∈sets,s≠[]) (h:Fc a b):Fc (rK l a sets) (nj l b sets):=by
 obtain⟨h1,h2,h3⟩:=h;unfold rK nj;rw[dA hs,h1,h3,sk hne];split
 ·exact⟨rfl,rfl,rfl⟩
 ·exact⟨h1,h2,h3⟩
theorem Sz (hne:∀x∈l,x.A≠x.B):∀(L:List (List (List ak))) {a b:iW},(∀sets∈L,∀s∈sets,s≠[])->Fc a b->Fc (L.foldl (rK l) a) (L.foldl (nj l) b)
 |[],_,_,_,h=>h
 |x::L,_,_,hs,h=>Sz hne L (λs hm=>hs s (List.mem_cons_of_mem _ hm)) (qs hne (hs x List.mem_cons_self) h)
theorem dF (hne:∀x∈l,x.A≠x.B) (ds:List bC):iZ (sE l ds (aO l) [] rE).best=qg l ds:=by
 have h:Fc (sE l ds (aO l) [] rE) (sw l ds (aO l) [] rE):=Sz hne _ (λs hs=>(EJ kN.nil s hs).ne) ⟨rfl,rfl,rfl⟩;have he:qg l ds=gQ (sE l ds (aO l) [] rE).best:=h.2.1.symm;have hP:=RG l ds;unfold iZ;rw[<-he];exact Ir (List.Perm.refl _) (xM hP.heads)
end
def Dg (l:List aD) (i:Nat):Int:=(l.getD i ⟨⟨0,0⟩,⟨0,0⟩,0⟩).w
def hv (l:List aD) (i k:Nat):Prop:=Dg l k<Dg l i\/Dg l i=Dg l k/\i<k
instance (l:List aD) (i k:Nat):Decidable (hv l i k):=by unfold hv;infer_instance
structure Ord (l:List aD) (is:List Nat):Prop where
 nd:is.Nodup
 lt:∀i∈is,i<l.length
 pw:is.Pairwise (hv l)
 rest:∀i∈is,∀q,q<l.length->q∉is->hv l i q
structure tj (l:List aD) (is:List Nat) (i:Nat) (b:Int):Prop where
 none_:b<0->b= -1/\∀q,q<i->q∈is
 some_:0<=b->b.toNat<i/\b.toNat∉is/\∀q,q<i->q∈is\/q=b.toNat\/hv l b.toNat q
section
variable {l:List aD} {is:List Nat} {i:Nat} {b:Int}
theorem zK (h:i<l.length):Dg l i=l[i].w:=by unfold Dg;rw[List.getD_eq_getElem?_getD,List.getElem?_eq_getElem h];rfl
theorem w5 {i j k:Nat} (h:hv l i j) (h':hv l j k):hv l i k:=by unfold hv at*;omega
theorem Ord.nil:Ord l []:=⟨List.nodup_nil,λi h=>by(cases h),List.Pairwise.nil,λi h=>by(cases h)⟩
theorem tj.start:tj l is 0 (-1):=⟨λ_=>⟨rfl,λq h=>by omega⟩,λh=>by omega⟩
theorem tj.skip (h:tj l is i b) (h1:i∈is\/0<=b/\¬hv l i b.toNat):tj l is (i+1) b:=by
 refine⟨λe=>⟨(h.none_ e).1,λq hq=>?_⟩,λe=>?_⟩
 ·by_cases eq:q=i
  ·subst eq;exact h1.resolve_right (λh=>by omega)
  ·exact(h.none_ e).2 q ah
 ·obtain⟨a1,a2,a3⟩:=h.some_ e;refine⟨by omega,a2,λq hq=>?_⟩;by_cases eq:q=i
  ·subst eq;rcases h1 with h1|⟨_,h1⟩
   ·exact .inl h1
   ·refine .inr (.inr ?_);unfold hv at*;omega
  ·exact a3 q ah
theorem tj.take (h:tj l is i b) (h1:i∉is) (h2:b<0\/hv l i b.toNat):tj l is (i+1) i:=by
 refine⟨λe=>by omega,λ_=>?_⟩;rw[Int.toNat_natCast];refine⟨by omega,h1,λq hq=>?_⟩;by_cases eq:q=i
 ·exact .inr (.inl eq)
 ·rcases h2 with h2|h2
  ·exact .inl ((h.none_ h2).2 q ah)
  ·by_cases hb:b<0
   ·exact .inl ((h.none_ hb).2 q ah)
   ·rcases(h.some_ ah).2.2 q ah with h3|h3|h3
    ·exact .inl h3
    ·subst h3;exact .inr (.inr h2)
    ·exact .inr (.inr (w5 h2 h3))
theorem Ord.len (h:Ord l is):is.length<=l.length:=by
 have:=h.nd.length_le_of_subset (l₂:=List.range l.length) (λi hi=>List.mem_range.2 (h.lt i hi));rwa [List.length_range] at this
theorem Ord.full (h:Ord l is) (hn:∀q,q<l.length->q∈is):l.length<=is.length:=by
 have:=List.nodup_range.length_le_of_subset (l₁:=List.range l.length) (l₂:=is) (λq hq=>hn q (List.mem_range.1 hq));rwa [List.length_range] at this
theorem Ord.some (h:Ord l is) (hl:is.length<l.length) (hb:tj l is l.length b):0<=b:=by
 apply Classical.byContradiction;intro hn;have:=h.full (hb.none_ ah).2;omega
theorem Ord.add (h:Ord l is) (h0:0<=b) (hb:tj l is l.length b):Ord l (is++[b.toNat]):=by
 obtain⟨a1,a2,a3⟩:=hb.some_ h0;refine⟨List.nodup_append.2 ⟨h.nd,by simp,λx hx y hy e=>?_⟩,λi hi=>?_,List.pairwise_append.2 ⟨h.pw,by simp,λx hx y hy=>?_⟩,λi hi q hq hn=>?_⟩
 ·rw[List.mem_singleton] at hy;subst hy;subst e;exact a2 hx
 ·rcases List.mem_append.1 hi with hi|hi
  ·exact h.lt i hi
  ·rw[List.mem_singleton] at hi;omega
 ·rw[List.mem_singleton] at hy;subst hy;exact h.rest x hx _ a1 a2
 ·rw[List.mem_append,List.mem_singleton] at hn;rcases List.mem_append.1 hi with hi|hi
  ·exact h.rest i hi q hq (λe=>hn (.inl e))
  ·rw[List.mem_singleton] at hi;subst hi;rcases a3 q hq with h3|h3|h3
   ·exact absurd (.inl h3) hn
   ·exact absurd (.inr h3) hn
   ·exact h3
def wo (l:List aD) (i:Nat):aD:=l.getD i ⟨⟨0,0⟩,⟨0,0⟩,0⟩
theorem Mg (h:i<l.length):wo l i=l[i]:=by unfold wo;rw[List.getD_eq_getElem?_getD,List.getElem?_eq_getElem h];rfl
theorem Ord.fin (h:Ord l is) (hl:is.length=l.length):fH iL l (is.map (wo l)):=by
 have hL: ((is.pmap (λi h=>(⟨i,h⟩:Fin l.length)) h.lt).map λi=>l[i.val])=is.map (wo l):=by
  rw[List.map_pmap];apply List.ext_getElem
  ·simp
  ·intro k h1 h2;rw[List.getElem_pmap,List.getElem_map];exact(Mg (h.lt _ (List.getElem_mem _))).symm
 rw[<-hL];refine fH.LR ((List.perm_ext_iff_of_nodup ?_ (List.nodup_finRange _)).2 λx=>⟨λ_=>List.mem_finRange x,λ_=>?_⟩) ?_
 ·exact(List.pairwise_pmap h.lt).2 (h.nd.imp λhne _ _ e=>hne (by injection e))
 ·rw[List.mem_pmap];refine⟨x.val,?_,rfl⟩;apply Classical.byContradiction;intro hn;have h1: (x.val::is).Nodup:=List.nodup_cons.2 ⟨hn,h.nd⟩;have h2:=h1.length_le_of_subset (l₂:=List.range l.length) (λi hi=>List.mem_range.2 (by
   rcases List.mem_cons.1 hi with e|e
   ·subst e;exact x.isLt
   ·exact h.lt i e))
  rw[List.length_range,List.length_cons] at h2;omega
 ·refine(List.pairwise_pmap h.lt).2 (h.pw.imp λ{i k} hik hi hk=>?_);refine⟨hi,hk,?_⟩;unfold iL;unfold hv at hik;rw[zK hi,zK hk] at hik;rcases hik with e|⟨e,e2⟩
  ·exact .inl (CP.2 e)
  ·exact .inr ⟨EG.2 e.symm,e2⟩
def qk (l:List aD) (is:List Nat):List Bool:=(List.range l.length).map λi=>decide (i∈is)
theorem ag:List.replicate l.length false=qk l []:=by
 apply List.ext_getElem
 ·simp[qk]
 ·intro i h1 h2;simp[qk]
theorem xN (l:List aD) (is:List Nat): (qk l is).length=l.length:=by simp[qk]
theorem Fe (h:i<(qk l is).length): (qk l is)[i]=decide (i∈is):=by simp[qk]
theorem yy (l:List aD) (is:List Nat) (k:Nat): (qk l is).set k true=qk l (is++[k]):=by
 apply List.ext_getElem
 ·simp[qk]
 ·intro i h1 h2;rw[List.getElem_set,Fe,Fe];by_cases e:k=i
  ·rw[if_pos e];subst e;simp
  ·rw[if_neg e,decide_eq_decide,List.mem_append,List.mem_singleton];exact⟨.inl,λh=>h.resolve_right (λe2=>e e2.symm)⟩
end
def Dh (ds:List bC) (p q:List ak):Bool:=p.all λx=>q.all λy=>!eU ds x y
def wq (ds:List bC) (sets:List (List ak)) (b:aD):List (List ak):=
 let i:=(qd sets b.A).toNat
 let k:=(qd sets b.B).toNat
 if qd sets b.A=qd sets b.B then sets else if Dh ds (sets.getD i []) (sets.getD k [])=true then(sets.set i ((sets.getD k []).foldl fM (sets.getD i []))).set k [] else sets
structure oE (refs:List ak) (g:ak->List ak) (sets:List (List ak)):Prop where
 SA:∀r∈refs,∃i,∃h:i<sets.length,r∈sets[i]
 eq:∀i (h:i<sets.length),∀r∈sets[i],r∈refs/\sets[i]=jJ (g r)
 wu:∀i j (hi:i<sets.length) (hj:j<sets.length) (r:ak),r∈sets[i]->r∈sets[j]->i=j
section
variable {refs:List ak} {g:ak->List ak} {sets:List (List ak)} {l:List aD} {ds:List bC} {b:aD}
theorem PV {p q p' q':List ak} (hp:∀r,r∈p↔r∈p') (hq:∀r,r∈q↔r∈q'):Dh ds p q=!vQ ds p' q':=by
 unfold Dh vQ;rw[Bool.eq_iff_iff,Bool.not_eq_true',List.all_eq_true,List.any_eq_false];constructor
 ·intro h r hr;rw[Bool.not_eq_true,List.any_eq_false];intro o ho;have:=List.all_eq_true.1 (h r ((hp r).2 hr)) o ((hq o).2 ho);simpa using this
 ·intro h r hr;rw[List.all_eq_true];intro o ho;have:=h r ((hp r).1 hr);rw[Bool.not_eq_true,List.any_eq_false] at this;simpa using this o ((hq o).1 ho)
theorem oE.start (refs:List ak) (hn:refs.Nodup):oE refs (λr=>[r]) (refs.map λr=>[r]):=by
 refine⟨λr hr=>?_,λi h r hr=>?_,λi j hi hj r h1 h2=>?_⟩
 ·obtain⟨i,hi,rfl⟩:=List.getElem_of_mem hr;exact⟨i,by simpa using hi,by simp⟩
 ·rw[List.getElem_map,List.mem_singleton] at hr;rw[List.getElem_map];subst hr;exact⟨List.getElem_mem _,by simp[jJ]⟩
 ·rw[List.getElem_map,List.mem_singleton] at h1 h2;have hi':i<refs.length:=by simpa using hi
  have hj':j<refs.length:=by simpa using hj
  rcases Nat.lt_trichotomy i j with h|h|h
  ·exact absurd (h1.symm.trans h2) (List.pairwise_iff_getElem.1 (List.nodup_iff_pairwise_ne.1 hn) i j hi' hj' h)
  ·exact h
  ·exact absurd (h2.symm.trans h1) (List.pairwise_iff_getElem.1 (List.nodup_iff_pairwise_ne.1 hn) j i hj' hi' h)
theorem oE.find (h:oE refs g sets) {r:ak} (hr:r∈refs):∃i:Nat,∃hi:i<sets.length,qd sets r=i/\r∈sets[i]/\sets[i]=jJ (g r):=by
 obtain⟨i,hi,hm⟩:=h.SA r hr;refine⟨i,hi,AH hi (λj hj=>Bool.eq_false_iff.2 λhp=>?_) (xy.2 hm),hm,(h.eq i hi r hm).2⟩;have:=h.wu j i ah hi r (xy.1 hp) hm;omega
theorem SB {x y:ak}:oC x y=true↔er x y:=by rw[ET];rfl
theorem jb {p q:List ak} (hp:p.Pairwise er) {both:List ak} (hn:both.Nodup) (hm:∀r,r∈both↔r∈p\/r∈q):q.foldl fM p=jJ both:=by
 obtain⟨h1,h2⟩:=LS q p (hp.imp λh=>SB.2 h);refine Ht (h1.imp λh=>SB.1 h) (HW _ hn) λr=>?_;rw[h2,lM,hm]
theorem oE.step (jZ:jN l ds g) (h:oE refs g sets) (hA:b.A∈refs) (hB:b.B∈refs):oE refs (pn ds g b) (wq ds sets b)/\(wq ds sets b).length=sets.length:=by
 obtain⟨i,hi,e1,m1,s1⟩:=h.find hA;obtain⟨k,hk,e2,m2,s2⟩:=h.find hB;have hik:i=k↔b.B∈g b.A:=by
  constructor
  ·intro e;subst e;rw[s1,lM] at m2;exact m2
  ·intro e;exact h.wu i k hi hk b.B (by rw[s1,lM];exact e) m2
 unfold wq;simp only[e1,e2,Int.toNat_natCast];by_cases Mh:i=k
 ·rw[if_pos (by rw[Mh]),H7 (.inl (hik.1 Mh))];exact⟨h,rfl⟩
 ·have SC:b.B∉g b.A:=λe=>Mh (hik.2 e);rw[if_neg ah,qe hi,qe hk,PV (p':=g b.A) (q':=g b.B) (λr=>by rw[s1,lM]) (λr=>by rw[s2,lM])];by_cases es:vQ ds (g b.A) (g b.B)=true
  ·rw[if_neg (by rw[es];decide),H7 (.inr es)];exact⟨h,rfl⟩
  ·rw[if_pos (by rw[Bool.not_eq_true] at es;rw[es];rfl)];have hst:pn ds g b=λr=>if r∈g b.A++g b.B then g b.A++g b.B else g r:=by
    unfold pn;rw[if_neg (λe=>e.elim SC es)]
   have hap:=jZ.apart SC;have jv: (g b.A++g b.B).Nodup:=List.nodup_append.2 ⟨jZ.nd _,jZ.nd _,λx hx y hy e=>hap x hx (e▸hy)⟩;have iD:sets[k].foldl fM sets[i]=jJ (g b.A++g b.B):=jb (by rw[s1];exact HW _ (jZ.nd _)) jv (λr=>by rw[List.mem_append,s1,s2,lM,lM]);rw[hst,iD];refine⟨⟨λr hr=>?_,λj hj r hr=>?_,λj1 j2 h1 h2 r Mi kZ=>?_⟩,by simp⟩
   ·obtain⟨j,hj,hm⟩:=h.SA r hr;by_cases hjk:j=k
    ·subst hjk;refine⟨i,by simpa using hi,?_⟩;rw[List.getElem_set_ne ah,List.getElem_set_self,lM,List.mem_append];rw[s2,lM] at hm;exact .inr hm
    ·by_cases hji:j=i
     ·subst hji;refine⟨j,by simpa using hi,?_⟩;rw[List.getElem_set_ne ah,List.getElem_set_self,lM,List.mem_append];rw[s1,lM] at hm;exact .inl hm
     ·exact⟨j,by simpa using hj,by rw[List.getElem_set_ne ah,List.getElem_set_ne ah];exact hm⟩
   ·have hj':j<sets.length:=by simpa using hj
    by_cases hjk:j=k
    ·subst hjk;rw[List.getElem_set_self] at hr;cases hr
    ·rw[List.getElem_set_ne ah] at hr⊢;by_cases hji:j=i
     ·subst hji;rw[List.getElem_set_self] at hr⊢;rw[lM] at hr;refine⟨?_,by rw[if_pos hr]⟩;rcases List.mem_append.1 hr with hr|hr
      ·exact(h.eq j hi r (by rw[s1,lM];exact hr)).1
      ·exact(h.eq k hk r (by rw[s2,lM];exact hr)).1
     ·rw[List.getElem_set_ne ah] at hr⊢;obtain⟨h3,h4⟩:=h.eq j hj' r hr;refine⟨h3,?_⟩;rw[if_neg (λhm=>?_)];exact h4;rcases List.mem_append.1 hm with hm|hm
      ·exact hji (h.wu j i hj' hi r hr (by rw[s1,lM];exact hm))
      ·exact hjk (h.wu j k hj' hk r hr (by rw[s2,lM];exact hm))
   ·have key:∀j (hj:j<((sets.set i (jJ (g b.A++g b.B))).set k []).length),r∈((sets.set i (jJ (g b.A++g b.B))).set k [])[j]->j≠k/\((j=i/\(r∈sets[i]\/r∈sets[k]))\/(j≠i/\∃hj':j<sets.length,r∈sets[j])):=λj hj hr=>by
     have hj':j<sets.length:=by simpa using hj
     by_cases hjk:j=k
     ·subst hjk;rw[List.getElem_set_self] at hr;cases hr
     ·rw[List.getElem_set_ne ah] at hr;refine⟨hjk,?_⟩;by_cases hji:j=i
      ·subst hji;rw[List.getElem_set_self,lM,List.mem_append] at hr;exact .inl ⟨rfl,by rw[s1,s2,lM,lM];exact hr⟩
      ·rw[List.getElem_set_ne ah] at hr;exact .inr ⟨hji,hj',hr⟩
    obtain⟨n1,c1⟩:=key j1 h1 Mi;obtain⟨n2,c2⟩:=key j2 h2 kZ;rcases c1 with⟨a1,c1⟩|⟨a1,b1,c1⟩<;>rcases c2 with⟨a2,c2⟩|⟨a2,b2,c2⟩
    ·omega
    ·rcases c1 with c1|c1
     ·exact absurd (h.wu j2 i b2 hi r c2 c1) a2
     ·exact absurd (h.wu j2 k b2 hk r c2 c1) n2
    ·rcases c2 with c2|c2
     ·exact absurd (h.wu j1 i b1 hi r c1 c2) a1
     ·exact absurd (h.wu j1 k b1 hk r c1 c2) n1
    ·exact h.wu j1 j2 b1 b2 r c1 c2
theorem oE.fold:∀(ord:List aD) {g:ak->List ak} {sets:List (List ak)},(∀b∈ord,b∈l)->jN l ds g->oE (aO l) g sets->oE (aO l) (ord.foldl (pn ds) g) (ord.foldl (wq ds) sets)/\(ord.foldl (wq ds) sets).length=sets.length
 |[],_,_,_,_,h=>⟨h,rfl⟩
 |b::ord,g,sets,ho,jZ,h=>by
  have hb:=ho b List.mem_cons_self;obtain⟨h1,h2⟩:=h.step jZ (jB.2 ⟨b,hb,.inl rfl⟩) (jB.2 ⟨b,hb,.inr rfl⟩);obtain⟨h3,h4⟩:=oE.fold ord (λx hx=>ho x (List.mem_cons_of_mem _ hx)) (jZ.step hb) h1;exact⟨h3,by rw[List.foldl_cons,h4,h2]⟩
theorem oE.out (jZ:jN l ds g) (h:oE (aO l) g sets):iZ sets=nq (aO l) g:=by
 have hP:=jZ.out (xu l);refine Ir ?_ (xM hP.heads);have hz: (nq (aO l) g).Nodup:=List.nodup_iff_pairwise_ne.2 ((xM hP.heads).imp λ{p q} hlt e=>by subst e;have:=zJ p p;omega);have hy: (gQ sets).Nodup:=by
  unfold gQ;rw[List.nodup_iff_pairwise_ne,List.pairwise_filter,List.pairwise_iff_getElem];intro i j hi hj hij h1 h2 e;have h1:2<=sets[i].length:=of_decide_eq_true h1;have hm:=List.getElem_mem (l:=sets[i]) (n:=0) ah;have:=h.wu i j hi hj _ hm (e▸hm);omega
 refine(List.perm_ext_iff_of_nodup hy hz).2 λs=>?_;unfold gQ nq;rw[List.mem_filter,List.mem_map];constructor
 ·rintro⟨hs,h2⟩;have h2:2<=s.length:=of_decide_eq_true h2;obtain⟨i,hi,rfl⟩:=List.getElem_of_mem hs;obtain⟨r,hr⟩:∃r,sets[i].head?=some r:=by
   rw[List.head?_eq_getElem?,List.getElem?_eq_getElem ah];exact⟨_,rfl⟩
  have hm:r∈sets[i]:=List.mem_of_mem_head? hr;obtain⟨h3,h4⟩:=h.eq i hi r hm;refine⟨r,List.mem_filter.2 ⟨h3,?_⟩,h4.symm⟩;unfold vS;rw[decide_eq_true_eq,<-h4];exact⟨by omega,hr⟩
 ·rintro⟨r,hr,rfl⟩;obtain⟨h1,h2⟩:=List.mem_filter.1 hr;unfold vS at h2;have h2:=of_decide_eq_true h2;obtain⟨i,hi,_,_,h4⟩:=h.find h1;exact⟨h4▸List.getElem_mem hi,decide_eq_true ah⟩
theorem vr {is:List Nat} (h:Ord l is) (hl:is.length=l.length):iZ ((is.map (wo l)).foldl (wq ds) ((aO l).map λr=>[r]))=rG l ds:=by
 have hS:=h.fin hl;have e:=hS.eq uo (λ_ _=>trivial);have hsub:∀b∈is.map (wo l),b∈l:=λb hb=>hS.sub b hb;obtain⟨h1,_⟩:=oE.fold (ds:=ds) _ hsub (jN.start) (oE.start (aO l) (vI l));have h2:=h1.out (jN.fold _ jN.start hsub);rw[h2];unfold rG dW;rw[e]
end
section
variable {α:Type} [aZ α] {P:Program} {N:Nat} {env:Env} {w:World} {C:Nat->Nat} {t e:TypeId} {s v:Value} {y z:Operand} {zs:List α} {j:Nat}
theorem Iv {bytes:Nat} (hF:aL w C) (hj:j≠0) (hx:ev env y=some (.slice none 0 0)) (hy:ev env z=some s) (hrow:qu P t e (sz α) bytes=true) (hsz:0<sz α)
  (hsrc:av w (au C) zs s) (hlen:zs.length*bytes<=140737488355328) (h63:zs.length<=140737488355328):
  ig P N env (.call {callee:=.builtin .append,args:=#[y,z],argTypes:=#[t,t]}) w (λv' w'=>∃aQ,ax [] w C w' aQ/\bg w' aQ j e v' zs/\aL w' aQ/\∀b,c9 v' b->w.heap.size<=b):=λa ha fN ij=>by
 have Iw:bg w C j e (.slice none 0 0) ([]:List α):=bg.nil;have hno:∀b,¬c9 (.slice none 0 0) b:=λb h=>by cases h
 obtain⟨v',w',h1,h2,h3,h4⟩:=Ko (P:=P) (N:=N) hx hy hrow hsz Iw.own hsrc (by simpa using hlen) (by simpa using h63) a ha fN ij;rw[List.nil_append] at h2;have hnew:∀b,c9 v' b->w.heap.size<=b:=λb hb=>(h4 b hb).resolve_left (hno b);have kr:∀b,b<w.heap.size->gN C v' j b=C b:=λb hb=>by
  unfold gN;split
  ·rename_i e;have:=hnew b e;omega
  ·rfl
 refine⟨v',w',h1,gN C v' j,⟨h3.mono (λb _ hb=>absurd hb (hno b)),kr⟩,⟨h2.sub (λb hb hc=>?_) (λb hb=>?_),λb hb=>?_⟩,λb hb=>?_,hnew⟩
 ·by_cases ho:c9 v' b
  ·exact .inl ho
  ·right;unfold au gN at hc;rw[if_neg (show¬v'.ownBlock=some b from ho)] at hc;exact hc
 ·unfold au gN;rw[if_pos (show v'.ownBlock=some b from hb)];exact hj
 ·unfold gN;rw[if_pos (show v'.ownBlock=some b from hb)]
 ·by_cases ho:c9 v' b
  ·exact(h2.fh b ho).2
  ·unfold gN at hb;rw[if_neg (show¬v'.ownBlock=some b from ho)] at hb;exact Nat.lt_of_lt_of_le (hF b hb) h3.size
end
section
variable {α:Type} [aZ α] {w:World} {C:Nat->Nat} {e qE:TypeId} {v:Value} {us:List Value} {rows:List (List α)} {j n:Nat}
theorem fI.fz (h:fI w C j e us rows):∀k (hk:k<us.length),us[k].oneCell'=true:=λk hk=>((h.own k hk (by rw[<-h.len];exact hk)).one).2
theorem fI.SD (h:fI w C j e us rows) (hj:n<=j) (hl:∀r∈rows,r.length<=9223372036854775807):∀k (hk:k<us.length) (hk':k<rows.length),av w (au (K.bu n C)) rows[k] us[k]:=λk hk hk'=>(h.own k hk hk').bu hj (hl _ (List.getElem_mem _))
theorem Mj (ho:bg w C 6 qE v (us.map gC.mk)) (hr:fI w C 7 e us rows) (hl:∀r∈rows,r.length<=9223372036854775807) (hn:rows.length<=9223372036854775807):av w (au (K.bu 6 C)) rows v:=by
 have h1:=hr.len;have h2:av w (au (K.bu 6 C)) (us.map gC.mk) v:=ho.bu ai (by rw[List.length_map];omega);refine av.KY h2 rfl (by rw[List.length_map];exact h1.symm) λi hi hi2=>?_;rw[List.getElem_map];exact hr.SD ai hl i (by rw[h1];exact hi) hi
theorem Mk {s:Value} {x:List α} (ho:bg w C 6 qE v ((us.map gC.mk)++[⟨s⟩])) (hr:fI w C 7 e us rows) (hs:av w (au (K.bu 6 C)) x s) (hl:∀r∈rows,r.length<=9223372036854775807) (hn:rows.length<=922337203685477580):av w (au (K.bu 6 C)) (rows++[x]) v:=by
 have h1:=hr.len;have h2:av w (au (K.bu 6 C)) ((us.map gC.mk)++[⟨s⟩]) v:=ho.bu ai sV;refine av.KY h2 rfl (by simp[h1]) λi hi hi2=>?_;by_cases e:i<us.length
 ·rw[List.getElem_append_left ah,List.getElem_append_left (by rw[List.length_map];exact e),List.getElem_map];exact hr.SD ai hl i e ah
 ·have:i=us.length:=by simp at hi2;omega
  subst this;rw[List.getElem_append_right ah,List.getElem_append_right aF];simpa[h1] using hs
theorem cE.ob {w:World} {C:Nat->Nat} {j b n:Nat} {fh:Obj} (h:cE w C j b fh) (hj:n<=j):cE w (K.bu n C) 0 b fh:=⟨by unfold K.bu;rw[h.col,if_pos hj],h.at_⟩
theorem SF {s:List ak} {p:ak->Bool} {k:Nat} (hk:k<s.length): (!(s.take (k+1)).any p)=((!(s.take k).any p)&&!p s[k]):=by
 rw[List.take_succ_eq_append_getElem hk,List.any_append];simp
end
def ql (n:Nat) (C aQ:Nat->Nat):Nat->Nat:=λb=>if b<n then C b else if aQ b=6\/aQ b=7 then aQ b else 0
section
variable {α:Type} [aZ α] {w w':World} {C aQ:Nat->Nat} {e:TypeId} {v:Value} {ys:List α} {us:List Value} {rows:List (List α)} {j:Nat}
theorem ax.ql (h:ax [6,7] w (bk C) w' aQ):ax [] w C w' (K.ql w.heap.size C aQ):=
 ⟨h.ext.mono (λb _ hc=>by
  simp only[List.mem_cons,List.not_mem_nil,or_false] at hc⊢;unfold K.bk at hc;split at hc<;>omega),λb hb=>by unfold K.ql;rw[if_pos hb]⟩
theorem SG (h:ax [6,7] w (bk C) w' aQ):∀b,au (ql w.heap.size C aQ) b->au aQ b:=λb hb=>by
 unfold au K.ql at*;by_cases hlt:b<w.heap.size
 ·rw[if_pos hlt] at hb;rw[h.col b hlt];unfold bk;rw[if_neg hb];decide
 ·rw[if_neg hlt] at hb;split at hb<;>omega
theorem ax.e3 (h:ax [6,7] w (bk C) w' aQ) (hF:aL w C) (LN:aL w' aQ):aL w' (K.ql w.heap.size C aQ):=λb hb=>LN b (SG h b hb)
theorem SH (h:ax [6,7] w (bk C) w' aQ) {b:Nat} (hj:j=6\/j=7) (hb:aQ b=j):ql w.heap.size C aQ b=j:=by
 unfold K.ql;by_cases hlt:b<w.heap.size
 ·have h1:=h.col b hlt;rw[hb] at h1;unfold bk at h1;split at h1<;>omega
 ·rw[if_neg hlt,hb,if_pos hj]
theorem bg.ql (ho:bg w' aQ j e v ys) (h:ax [6,7] w (bk C) w' aQ) (hF:aL w C) (hj:j=6\/j=7):bg w' (K.ql w.heap.size C aQ) j e v ys:=
 ⟨ho.own.sub (λb _ hb=>SG h b hb) (λb hb=>by unfold au;rw[SH h hj (ho.col b hb)];omega),λb hb=>SH h hj (ho.col b hb)⟩
theorem fI.ql (hr:fI w' aQ j e us rows) (h:ax [6,7] w (bk C) w' aQ) (hF:aL w C) (hj:j=6\/j=7):fI w' (K.ql w.heap.size C aQ) j e us rows:=⟨hr.len,λk h1 h2=>(hr.own k h1 h2).ql h hF hj,hr.uq⟩
end
section
variable {l:List aD} {ds:List bC} {r:ak} {rs:List ak} {rows:List (List ak)} {st:iW} {k:Nat}
theorem Iy (l:List aD) (ds:List bC) (sets:List (List ak)) (st:iW):sE l ds [] sets st=rK l st sets:=rfl
theorem w6 (hk:k<rows.length) (h:oy ds rows[k] r=true) (rs:List ak):pJ l ds r rs rows st (k+1)=sE l ds rs (rows.set k (rows[k]++[r])) (pJ l ds r rs rows st k):=by
 rw[pJ,qe hk,if_pos h]
theorem vn (hk:k<rows.length) (h:oy ds rows[k] r=false) (rs:List ak):pJ l ds r rs rows st (k+1)=pJ l ds r rs rows st k:=by
 rw[pJ,qe hk,if_neg (by rw[h];decide)]
theorem oo {q:Nat} (hq:q<rows.length) (h:k4 l rows[q]=false):rK l st rows=st:=by
 unfold rK;rw[if_neg];rintro⟨h2,_⟩;have:=List.all_eq_true.1 h2 _ (List.getElem_mem hq);rw[h] at this;cases this
theorem zN (h:∀q (hq:q<rows.length),k4 l rows[q]=true):rows.all (k4 l)=true:=List.all_eq_true.2 λx hx=>by
 obtain⟨q,hq,rfl⟩:=List.getElem_of_mem hx;exact h q hq
theorem w8 (h:st.found=true) (h2:e9 l rows<=st.val):rK l st rows=st:=by
 unfold rK;rw[if_neg];rintro⟨_,h3|h3⟩
 ·rw[h] at h3;cases h3
 ·omega
theorem SI {n:Nat}:∀(L:List (List (List ak))) {st:iW},(∀s∈L,s.length<=n)->st.best.length<=n->(L.foldl (rK l) st).best.length<=n
 |[],_,_,h=>h
 |x::L,st,hs,h=>by
  rw[List.foldl_cons];refine SI L (λs hm=>hs s (List.mem_cons_of_mem _ hm)) ?_;unfold rK;split
  ·exact hs x List.mem_cons_self
  ·exact h
theorem PL (l:List aD) (ds:List bC): (sE l ds (aO l) [] rE).best.length<=(aO l).length:=
 SI _ (λs hs=>by
  have h:=(EJ kN.nil s hs).heads.length_le;rw[List.length_map] at h;simpa using h) (by simp[rE])
theorem Ml {α:Type} {s:List α} {p:α->Bool} {k:Nat} (hk:k<s.length): (s.take (k+1)).all p=((s.take k).all p&&p s[k]):=by
 rw[List.take_succ_eq_append_getElem hk,List.all_append];simp
theorem dL (q:List ak):∀p:List ak,(q.foldl fM p).length<=p.length+q.length:=by
 induction q with
 |nil=>intro p;simp
 |cons c q ih=>intro p;have h1:=ih (fM p c);have h2:=zk c p;rw[List.foldl_cons,List.length_cons];omega
theorem SJ {p:List ak} (h:p∈iZ rows):2<=p.length:=by
 unfold iZ at h;have:=(Iq (gQ rows) [] List.Pairwise.nil).2.mem_iff.1 h;rw[List.nil_append] at this;exact of_decide_eq_true (List.mem_filter.1 this).2
theorem SK (rows:List (List ak)): (iZ rows).length<=rows.length:=by unfold iZ;rw[dO];exact List.length_filter_le _ _
theorem SL (h:k<rows.length):iZ (rows.take (k+1))=if 2<=rows[k].length then kC (iZ (rows.take k)) rows[k] else iZ (rows.take k):=by
 unfold iZ;rw[RU h];split
 ·rw[List.foldl_append];rfl
 ·rfl
structure qL (l:List aD) (ds:List bC) (is:List Nat) (sets:List (List ak)):Prop where
 ord:Ord l is
 eq:sets=(is.map (wo l)).foldl (wq ds) ((aO l).map λr=>[r])
theorem qL.nil:qL l ds [] ((aO l).map λr=>[r]):=⟨Ord.nil,rfl⟩
theorem qL.gr {is:List Nat} {sets:List (List ak)} (h:qL l ds is sets):∃g,jN l ds g/\oE (aO l) g sets/\sets.length=(aO l).length:=by
 have hsub:∀b∈is.map (wo l),b∈l:=λb hb=>by
  obtain⟨i,hi,rfl⟩:=List.mem_map.1 hb;rw[Mg (h.ord.lt i hi)];exact List.getElem_mem _
 obtain⟨h1,h2⟩:=oE.fold (ds:=ds) (l:=l) _ hsub jN.start (oE.start (aO l) (vI l));exact⟨_,jN.fold _ jN.start hsub,h.eq▸h1,by rw[h.eq,h2];simp⟩
theorem qL.add {is:List Nat} {sets:List (List ak)} (h:qL l ds is sets) {m:Nat} (ho:Ord l (is++[m])):qL l ds (is++[m]) (wq ds sets (wo l m)):=⟨ho,by rw[List.map_append,List.foldl_append,<-h.eq];rfl⟩
theorem qL.fin {is:List Nat} {sets:List (List ak)} (h:qL l ds is sets) (hl:is.length=l.length):iZ sets=rG l ds:=by rw[h.eq];exact vr h.ord hl
theorem qL.dZ {is:List Nat} {sets:List (List ak)} (h:qL l ds is sets):∀s∈sets,s.length<=2*l.length:=by
 obtain⟨g,jZ,hR,_⟩:=h.gr;intro s hs;obtain⟨i,hi,rfl⟩:=List.getElem_of_mem hs;by_cases e:sets[i].length=0
 ·omega
 ·obtain⟨h1,h2⟩:=hR.eq i hi _ (List.getElem_mem (show 0<sets[i].length by omega));have h3:=jZ.len h1;rw[h2,(xq _).length_eq];exact h3
theorem qL.at_ {is:List Nat} {sets:List (List ak)} (h:qL l ds is sets) {m:Nat} (hm:m<l.length):∃(i k:Nat) (hi:i<sets.length) (hk:k<sets.length),qd sets l[m].A=i/\qd sets l[m].B=k/\
  wq ds sets (wo l m)=if(i:Int)=(k:Int) then sets else if Dh ds sets[i] sets[k]=true then(sets.set i (sets[k].foldl fM sets[i])).set k [] else sets:=by
 obtain⟨g,jZ,hR,_⟩:=h.gr;obtain⟨i,hi,e1,_,_⟩:=hR.find (jB.2 ⟨l[m],List.getElem_mem hm,.inl rfl⟩);obtain⟨k,hk,e2,_,_⟩:=hR.find (jB.2 ⟨l[m],List.getElem_mem hm,.inr rfl⟩);refine⟨i,k,hi,hk,e1,e2,?_⟩;unfold wq;rw[Mg hm];simp only[e1,e2,Int.toNat_natCast,qe hi,qe hk]
theorem SM (h:rows.all (k4 l)=true) (h2:st.found=false\/st.val<e9 l rows):rK l st rows=⟨true,rows,e9 l rows⟩:=by unfold rK;rw[if_pos ⟨h,h2⟩]
end
section
variable {l:List aD} {ds:List bC} {wf:List aD->List (List ak)×Int} {zs:List (List ak)}
theorem h9 {α:Type} (d:α) (ps:List α):ps=(List.range ps.length).map λi=>ps.getD i d:=by
 apply List.ext_getElem
 ·simp
 ·intro i h1 h2;simp[List.getD_eq_getElem?_getD,h1]
def partOf (wf:List aD->List (List ak)×Int) (l:List aD) (i:Nat):List (List ak):=(wf ((aP l).getD i [])).1
theorem Mm {i:Nat} (h:i<(aP l).length):partOf wf l i=(wf (aP l)[i]).1:=by unfold partOf;rw[List.getD_eq_getElem?_getD,List.getElem?_eq_getElem h];rfl
theorem SN:eu wf (aP l)=(List.range (aP l).length).flatMap (partOf wf l):=by
 unfold eu;rw[h9 [] (aP l),List.flatMap_map];simp only[List.length_map,List.length_range];congr 1
theorem SP (hQ:∀i (h:i<(aP l).length),eG (aP l)[i] ds (wf (aP l)[i]).1): (eu wf (aP l)).flatten.Nodup:=by
 rw[SN];have SQ:∀i (h:i<(aP l).length),eG (aP l)[i] ds (partOf wf l i):=λi h=>by rw[Mm h];exact hQ i h
 have key:∀k,k<=(aP l).length->((List.range k).flatMap (partOf wf l)).flatten.Nodup/\∀r∈((List.range k).flatMap (partOf wf l)).flatten,∃i,∃h:i<(aP l).length,i<k/\r∈aO (aP l)[i]:=by
  intro k
  induction k with
  |zero=>intro _;simp
  |succ k ih=>
   intro hk;obtain⟨h1,h2⟩:=ih ah;have aA:k<(aP l).length:=by omega
   have e: ((List.range (k+1)).flatMap (partOf wf l)).flatten=((List.range k).flatMap (partOf wf l)).flatten++(partOf wf l k).flatten:=by
    rw[List.range_succ,List.flatMap_append,List.flatten_append];simp
   have hin:∀r∈(partOf wf l k).flatten,r∈aO (aP l)[k]:=λr hr=>by
    obtain⟨p,hp,hr⟩:=List.mem_flatten.1 hr;exact(SQ k aA).refs hp hr
   rw[e];refine⟨List.nodup_append.2 ⟨h1,(SQ k aA).vP,λa ha b hb e2=>?_⟩,λr hr=>?_⟩
   ·subst e2;obtain⟨i,hi,hik,h3⟩:=h2 a ha;have:=LG hi aA h3 (hin a hb);omega
   ·rcases List.mem_append.1 hr with h3|h3
    ·obtain⟨i,hi,hik,h4⟩:=h2 r h3;exact⟨i,hi,by omega,h4⟩
    ·exact⟨k,aA,by omega,hin r h3⟩
 exact(key _ (Nat.le_refl _)).1
theorem Mn {p:List ak} (hp:p∈eu wf (aP l)):∃i,∃h:i<(aP l).length,p∈(wf (aP l)[i]).1:=by
 unfold eu at hp;obtain⟨q,hq,h2⟩:=List.mem_flatMap.1 hp;obtain⟨i,hi,rfl⟩:=List.getElem_of_mem hq;exact⟨i,hi,h2⟩
theorem Di (hQ:∀i (h:i<(aP l).length),eG (aP l)[i] ds (wf (aP l)[i]).1):∀p∈eu wf (aP l),2<=p.length:=λp hp=>by
 obtain⟨i,h,h2⟩:=Mn hp;exact(hQ i h).len p h2
theorem Iz:∀{ps:List (List ak)},(∀p∈ps,2<=p.length)->2*ps.length<=ps.flatten.length
 |[],_=>by simp
 |p::ps,h=>by
  have h1:=h p List.mem_cons_self;have h2:=Iz (ps:=ps) (λq hq=>h q (List.mem_cons_of_mem _ hq));simp only[List.flatten_cons,List.length_append,List.length_cons];omega
theorem zL (hQ:∀i (h:i<(aP l).length),eG (aP l)[i] ds (wf (aP l)[i]).1):2*(eu wf (aP l)).length<=(aO l).length:=by
 refine Nat.le_trans (Iz (Di hQ)) ((SP hQ).length_le_of_subset λr hr=>?_);obtain⟨p,hp,hr⟩:=List.mem_flatten.1 hr;obtain⟨i,h,h2⟩:=Mn hp;exact((ta h).1 ((hQ i h).refs h2 hr)).1
theorem SR:∀{ps:List (List ak)},ps.flatten.Nodup->ps.Pairwise λp q=>∀x∈p,x∉q
 |[],_=>List.Pairwise.nil
 |p::ps,h=>by
  rw[List.flatten_cons,List.nodup_append] at h;exact List.pairwise_cons.2 ⟨λq hq x hx hx2=>h.2.2 x hx x (List.mem_flatten.2 ⟨q,hq,hx2⟩) rfl,SR h.2.1⟩
theorem ia (hQ:∀i (h:i<(aP l).length),eG (aP l)[i] ds (wf (aP l)[i]).1) (h:fH fQ (eu wf (aP l)) zs):zs.Pairwise λp q=>er (p.headD ⟨0,0⟩) (q.headD ⟨0,0⟩):=by
 have hn:zs.flatten.Nodup:=(h.perm.flatten.nodup_iff).2 (SP hQ);have hd:=SR hn;rw[List.pairwise_iff_getElem] at hd⊢;intro i j hi hj hij;have h1:=h.le hij hj;have h2:=hd i j hi hj hij;have l1:=Di hQ _ (h.perm.mem_iff.1 (List.getElem_mem hi));have l2:=Di hQ _ (h.perm.mem_iff.1 (List.getElem_mem hj));have hm:∀{s:List ak},2<=s.length->s.headD ⟨0,0⟩∈s:=λ{s} h=>by cases s with|nil=>simp at h|cons a t=>simp
 refine t_.1 ?_;unfold fQ at h1;rcases Int.lt_or_eq_of_le h1 with h3|h3
 ·exact h3
 ·have h4:=(zg (x:=zs[i].headD ⟨0,0⟩) (y:=zs[j].headD ⟨0,0⟩)).2.1.1 h3;have h5:zs[i].headD ⟨0,0⟩=zs[j].headD ⟨0,0⟩:=by
   generalize zs[i].headD ⟨0,0⟩=a at h4;generalize zs[j].headD ⟨0,0⟩=b at h4;obtain⟨a1,a2⟩:=a;obtain⟨b1,b2⟩:=b;obtain⟨e1,e2⟩:=h4;simp only at e1 e2;subst e1 e2;rfl
  exact absurd (h5▸hm l2:zs[i].headD ⟨0,0⟩∈zs[j]) (h2 _ (hm l1))
theorem gd (hQ:∀i (h:i<(aP l).length),eG (aP l)[i] ds (wf (aP l)[i]).1) (h:fH fQ (eu wf (aP l)) zs):
  eG l ds zs/\∀i (h:i<(aP l).length),e9 (aP l)[i] zs=e9 (aP l)[i] (wf (aP l)[i]).1:=by
 obtain⟨h1,h2⟩:=Ze (Q:=partOf wf l) (λi hi=>by rw[Mm hi];exact hQ i hi) (by rw[<-SN];exact h.perm) (ia hQ h);exact⟨h1,λi hi=>by rw[h2 i hi,Mm hi]⟩
theorem ZN {α:Type} {c:α->α->Int} {ys:List α}:∀x∈s6 c ys,x∈ys:=λx hx=>by
 unfold s6 at hx;split at hx
 ·rename_i h;exact h.choose_spec.sub x hx
 ·exact hx
theorem Mp (l:List aD) (ds:List bC):eG l ds (rG l ds):=Zh l ds ZN
theorem SS (l:List aD) (ds:List bC):eG l ds []:=⟨by simp,by simp,by simp,by simp,by simp,by simp⟩
theorem bw (ds:List bC) (l:List aD):eG l ds (ER ds l).1:=Mp l ds
theorem uD (ds:List bC) (l:List aD):eG l ds (dJ ds l).1:=by
 unfold dJ;split
 ·exact RG l ds
 ·exact Mp l ds
theorem SU {i:Nat} (h:i<(aP l).length): (aP l)[i]≠[]:=λe=>by
 have hq:=List.getElem_mem (AY h);have hr: (eC (b8 l) (aO l))[i]'(AY h)∈aO l:=(AG _ _).subset hq;have:=(ta h).2 ⟨hr,rfl⟩;rw[e] at this;obtain⟨x,hx,_⟩:=jB.1 this;cases hx
theorem Ff {i:Nat} (h:i<(aP l).length): (aP l)[i].length<=l.length:=by
 rw[EB];exact List.length_filter_le _ _
theorem Sv {i:Nat} (h:i<(aP l).length): (aO (aP l)[i]).length<=(aO l).length:=
 (vI _).length_le_of_subset λr hr=>((ta h).1 hr).1
end
def Fg (x y:aD):Prop:=y.w<x.w\/(x.w=y.w/\gZ x y)
section
variable {l zs ord:List aD} {ds:List bC} {x y:aD}
theorem w9 (h:Fg x y):¬Fg y x:=λh'=>by
 unfold Fg gZ er at*;by_cases e:x.A=y.A
 ·rw[e] at h h';omega
 ·have hne:x.A.a≠y.A.a\/x.A.b≠y.A.b:=Classical.byContradiction λhn=>e (Es ah ah);have e2:¬y.A=x.A:=λe2=>e e2.symm;simp only[e,e2,false_and,or_false] at h h';omega
theorem SV (hl:l.Pairwise gZ) (h:fH iL l zs):zs.Pairwise Fg:=by
 obtain⟨σ,h1,h2,h3⟩:=h;have hlen:=h1.len;refine List.pairwise_iff_getElem.2 λi j hi hj hij=>?_;obtain⟨a,b,h4⟩:=h3 i j ah hij ah;rw[h1.get (show i<l.length by omega),h1.get (show j<l.length by omega)];unfold iL at h4;rcases h4 with h4|⟨h4,h5⟩
 ·exact .inl (CP.1 h4)
 ·exact .inr ⟨(EG.1 h4).symm,List.pairwise_iff_getElem.1 hl (σ i) (σ j) a b h5⟩
theorem Fh (l:List aD):fH iL l (s6 iL l):=by
 obtain⟨zs,hz⟩:=fH.ex uo l;rw[<-hz.eq uo (λ_ _=>trivial)];exact hz
theorem vq (hl:l.Pairwise gZ) (p:aD->Bool):s6 iL (l.filter p)=(s6 iL l).filter p:=
 List.Perm.eq_of_pairwise (le:=Fg) (λa b _ _ h h'=>absurd h' (w9 h)) (SV (hl.sublist List.filter_sublist) (Fh _)) ((SV hl (Fh l)).sublist List.filter_sublist)
  ((Fh _).perm.trans ((Fh l).perm.filter p).symm)
theorem SX (xs:List aD) (b:aD):dW ds (xs++[b])=pn ds (dW ds xs) b:=by unfold dW;rw[List.foldl_append];rfl
theorem SY (sF:ak->ak) (ho:∀b∈ord,sF b.A=sF b.B):∀k,k<=ord.length->∀r,dW ds (ord.take k) r=dW ds ((ord.take k).filter λb=>decide (sF b.A=sF r)) r/\∀q∈dW ds (ord.take k) r,sF q=sF r
 |0,_,r=>by
  refine⟨by simp,λq hq=>?_⟩;rw[List.take_zero] at hq;have:q∈[r]:=hq;rw[List.mem_singleton.1 this]
 |k+1,hk,r=>by
  have ih:=SY sF ho k ah;have hb:=ho _ (List.getElem_mem (show k<ord.length by omega));rw[List.take_succ_eq_append_getElem ah,List.filter_append,SX];obtain⟨b,vf⟩:∃b,b=ord[k]:=⟨_,rfl⟩
  rw[<-vf] at hb⊢;by_cases e:sF b.A=sF r
  ·rw[List.filter_cons_of_pos (by rw[decide_eq_true_eq];exact e),List.filter_nil,SX];have key:∀s,sF s=sF r->dW ds ((ord.take k).filter λb=>decide (sF b.A=sF r)) s=dW ds (ord.take k) s:=λs hs=>by rw[(ih s).1,hs]
   have hA:=key b.A e;have hB:=key b.B (hb▸e);have hr:=key r rfl;unfold pn;rw[hA,hB];split
   ·exact⟨hr.symm,(ih r).2⟩
   ·simp only[];split
    ·refine⟨rfl,λq hq=>?_⟩;rcases List.mem_append.1 hq with h|h
     ·rw[(ih b.A).2 q h,e]
     ·rw[(ih b.B).2 q h,<-hb,e]
    ·exact⟨hr.symm,(ih r).2⟩
  ·rw[List.filter_cons_of_neg (by rw[decide_eq_true_eq];exact e),List.filter_nil,List.append_nil];have hno:r∉dW ds (ord.take k) b.A++dW ds (ord.take k) b.B:=λhm=>by
    rcases List.mem_append.1 hm with h|h
    ·exact e ((ih b.A).2 r h).symm
    ·exact e (by rw[hb];exact((ih b.B).2 r h).symm)
   have hst:pn ds (dW ds (ord.take k)) b r=dW ds (ord.take k) r:=by
    unfold pn;split
    ·rfl
    ·simp only[];rw[if_neg hno]
   rw[hst];exact ih r
theorem SZ (hv:ow l) {i:Nat} (h:i<(aP l).length) {r:ak} (hr:r∈aO (aP l)[i]):dW ds (s6 iL (aP l)[i]) r=dW ds (s6 iL l) r:=by
 have hs:=(ta h).1 hr;rw[EB,vq hv.2.2];have:=(SY (ds:=ds) (ord:=s6 iL l) (b8 l) (λb hb=>xw ((Fh l).sub b hb)) (s6 iL l).length (Nat.le_refl _) r).1;rw[List.take_length] at this;rw[this,hs.2]
theorem Bj {wf:List aD->List (List ak)×Int} (hQ:∀i (h:i<(aP l).length),eG (aP l)[i] ds (wf (aP l)[i]).1) {zs:List (List ak)} (hz:fH fQ (eu wf (aP l)) zs):eG l ds zs:=(gd hQ hz).1
theorem agq (hv:ow l):iZ (eu (ER ds) (aP l))=rG l ds:=by
 have hE:=Mp l ds;have hQ:∀i (h:i<(aP l).length),eG (aP l)[i] ds (ER ds (aP l)[i]).1:=λi h=>bw ds _;obtain⟨zs,hz⟩:=fH.ex A4 (eu (ER ds) (aP l));have hzs:=Bj hQ hz;rw[Iu hzs hz];have jv:∀{ys:List (List ak)},eG l ds ys->ys.Nodup:=λ{ys} h=>List.nodup_iff_pairwise_ne.2 ((xM h.heads).imp λ{p q} hlt e=>by subst e;have:=zJ p p;omega);refine List.Perm.eq_of_pairwise (le:=λp q=>fQ p q<0) (λa b _ _ h h'=>?_) (xM hzs.heads) (xM hE.heads) ((List.perm_ext_iff_of_nodup (jv hzs) (jv hE)).2 λp=>?_)
 ·have:=zJ a b;omega
 ·rw[hz.perm.mem_iff];unfold eu ER;rw[List.mem_flatMap];constructor
  ·rintro⟨part,hp,hm⟩;obtain⟨i,hi,rfl⟩:=List.getElem_of_mem hp;unfold rG nq at hm⊢;obtain⟨r,hr,rfl⟩:=List.mem_map.1 hm;obtain⟨h1,h2⟩:=List.mem_filter.1 hr;have e:=SZ (ds:=ds) hv hi h1;unfold vS at h2;rw[e] at h2⊢;exact List.mem_map.2 ⟨r,List.mem_filter.2 ⟨((ta hi).1 h1).1,h2⟩,rfl⟩
  ·intro hm;unfold rG nq at hm;obtain⟨r,hr,rfl⟩:=List.mem_map.1 hm;obtain⟨h1,h2⟩:=List.mem_filter.1 hr;obtain⟨i,hi,h3⟩:=Zd h1;have e:=SZ (ds:=ds) hv hi h3;refine⟨_,List.getElem_mem hi,?_⟩;unfold rG nq;refine List.mem_map.2 ⟨r,List.mem_filter.2 ⟨h3,?_⟩,by rw[e]⟩;unfold vS at h2⊢;rw[e];exact h2
end
theorem S0 {α:Type} {r:α->α->Prop} (ht:∀a b c,r a b->r b c->r a c) {l:List α} (h:∀i (hi:i+1<l.length),r l[i] l[i+1]):l.Pairwise r:=by
 refine List.pairwise_iff_getElem.2 λi j hi hj hij=>?_;obtain⟨d,rfl⟩:∃d,j=i+1+d:=⟨j-i-1,by omega⟩
 clear hij
 induction d with
 |zero=>exact h i hj
 |succ d ih=>exact ht _ _ _ (ih ah) (h (i+1+d) hj)
theorem hM {x y z:aD} (h:gZ x y) (h':gZ y z):gZ x z:=by
 unfold gZ at*;rcases h with h|⟨e,h⟩<;>rcases h' with h'|⟨e',h'⟩
 ·exact .inl (vH h h')
 ·exact .inl (e'▸h)
 ·exact .inl (e▸h')
 ·exact .inr ⟨e.trans e',vH h h'⟩
theorem Dj {l:List aD} (h:gD l=0):ow l:=by
 obtain⟨h1,h2⟩:=QD h;have key:∀k (hk:k<l.length),okB l[k]/\∀h0:0<k,gZ (l[k-1]'ah) l[k]:=λk hk=>by
  have e:=h2 k hk;rw[K0 hk] at e;by_cases c1:jK l[k].A l[k].B=false
  ·rw[if_pos c1] at e;cases e
  ·rw[if_neg c1] at e;by_cases c2:l[k].w<1\/1048576<l[k].w
   ·rw[if_pos c2] at e;cases e
   ·rw[if_neg c2] at e;refine⟨⟨by simpa using c1,by omega,by omega⟩,λh0=>Classical.byContradiction λhn=>?_⟩;rw[if_pos ⟨h0,hn⟩] at e;cases e
 refine⟨h1,λx hx=>?_,S0 (r:=gZ) (λ_ _ _ h h'=>hM h h') λi hi=>(key (i+1) hi).2 ah⟩;obtain⟨k,hk,rfl⟩:=List.getElem_of_mem hx;exact(key k hk).1
theorem IA {l:List aD} (hv:ow l):∀x∈l,1<=x.w/\x.w<=1048576:=λx hx=>(hv.2.1 x hx).2
theorem Dk {l:List aD} (hv:ow l):∀x∈l,x.A≠x.B:=λx hx=>Zc (hv.2.1 x hx)
section
variable {l:List aD} {ds:List bC} {ps eo:List (List ak)} {p:List ak}
theorem IB {a b:List ak} (h1:0<a.length) (h2:0<b.length):er a[0] b[0]↔er (a.headD ⟨0,0⟩) (b.headD ⟨0,0⟩):=by
 rw[List.headD_eq_head?_getD,List.headD_eq_head?_getD,List.head?_eq_getElem?,List.head?_eq_getElem?,List.getElem?_eq_getElem h1,List.getElem?_eq_getElem h2];rfl
theorem eG.take (h:eG l ds ps) (i:Nat):eG l ds (ps.take i):=
 have hs:=List.take_sublist i ps
 ⟨λp hp=>h.kz p (hs.subset hp),λp hp=>h.len p (hs.subset hp),λp hp=>h.bar p (hs.subset hp),λp hp=>h.join p (hs.subset hp),h.vP.sublist (EK hs),h.heads.sublist hs⟩
theorem eG.next {i:Nat} (h:eG l ds (ps.take i)) (hi:i<ps.length) (ha:ps[i].Pairwise er) (hp:nU l ds ps[i]=true) (hf:∀r∈ps[i],r∉(ps.take i).flatten) (hh:∀h0:0<i,er ((ps[i-1]'ah).headD ⟨0,0⟩) (ps[i].headD ⟨0,0⟩)):eG l ds (ps.take (i+1)):=by
 unfold nU at hp;rw[Bool.and_eq_true,Bool.and_eq_true,decide_eq_true_eq] at hp;rw[List.take_succ_eq_append_getElem hi];have hm:∀q,q∈ps.take i++[ps[i]]->q∈ps.take i\/q=ps[i]:=λq hq=>by rw[List.mem_append,List.mem_singleton] at hq;exact hq
 refine⟨λq hq=>?_,λq hq=>?_,λq hq=>?_,λq hq=>?_,?_,?_⟩
 ·rcases hm q hq with hq|rfl
  ·exact h.kz q hq
  ·exact ha
 ·rcases hm q hq with hq|rfl
  ·exact h.len q hq
  ·exact hp.1.1
 ·rcases hm q hq with hq|rfl
  ·exact h.bar q hq
  ·exact HX.1 hp.1.2
 ·rcases hm q hq with hq|rfl
  ·exact h.join q hq
  ·exact LB.1 hp.2
 ·rw[List.flatten_append];refine List.nodup_append.2 ⟨h.vP,by simpa using AF ha,λx hx y hy e=>?_⟩;subst e;exact hf x (by simpa using hy) hx
 ·refine List.pairwise_append.2 ⟨h.heads,by simp,λq hq y hy=>?_⟩;rw[List.mem_singleton] at hy;subst hy;obtain⟨j,hj,rfl⟩:=List.getElem_of_mem hq;rw[List.length_take] at hj;have hl:=hh ah;by_cases e:j=i-1
  ·subst e;rw[List.getElem_take];exact hl
  ·have h3:=List.pairwise_iff_getElem.1 h.heads j (i-1) rT rT ah;rw[List.getElem_take,List.getElem_take] at h3;rw[List.getElem_take];exact vH h3 hl
theorem S1 {p:List ak} (h:∀q (hq:q<p.length),∀h0:0<q,er (p[q-1]'ah) p[q]):p.Pairwise er:=S0 (r:=er) (λ_ _ _ h h'=>vH h h') λi hi=>h (i+1) hi ah
theorem S2 {p:List ak} {q:Nat} (hq:q<p.length) (h0:0<q) (h:¬er (p[q-1]'ah) p[q]):¬p.Pairwise er:=λhp=>h (List.pairwise_iff_getElem.1 hp (q-1) q ah hq ah)
theorem S3 {l:List (List ak)} {c:ak} (h:0<=qd l c):c∈l.flatten:=by
 have h2: (l.any λp=>p.any λx=>decide (c=x))=true:=by rw[<-xx];exact decide_eq_true h
 obtain⟨q,hq,h3⟩:=List.any_eq_true.1 h2;exact List.mem_flatten.2 ⟨q,hq,xy.1 h3⟩
theorem S4 {l:List (List ak)} {c:ak} (h:¬0<=qd l c):c∉l.flatten:=λhm=>by
 obtain⟨q,hq,h3⟩:=List.mem_flatten.1 hm;refine h (of_decide_eq_true ?_);unfold qd;rw[xx];exact List.any_eq_true.2 ⟨q,hq,xy.2 h3⟩
open Classical in
noncomputable def ny (l:List aD) (ds:List bC) (ps:List (List ak)):Int:=if iO l ds≠0 then iO l ds else if eG l ds ps then 0 else 44
theorem Mq (h:iO l ds≠0):ny l ds ps=iO l ds:=by unfold ny;rw[if_pos h]
theorem IC (h:iO l ds=0) (hp:eG l ds ps):ny l ds ps=0:=by unfold ny;rw[if_neg (by rw[h];simp),if_pos hp]
theorem xO (h:iO l ds=0) (hp:¬eG l ds ps):ny l ds ps=44:=by unfold ny;rw[if_neg (by rw[h];simp),if_neg hp]
theorem eG.HZ (h:eG l ds ps) {i j:Nat} (hi:i<ps.length) (hj:j<ps[i].length):ps[i][j]∉(ps.take i).flatten:=λhm=>h.fresh hi hj (List.mem_append.2 (.inl hm))
theorem eG.S5 (h:eG l ds ps) {i:Nat} (h0:0<i) (hi:i<ps.length):er ((ps[i-1]'ah).headD ⟨0,0⟩) (ps[i].headD ⟨0,0⟩):=List.pairwise_iff_getElem.1 h.heads (i-1) i ah hi ah
end
noncomputable def h_ (wf:List aD->List (List ak)×Int) (l:List aD) (ds:List bC):List (List ak)×Int×Int:=
 if iO l ds≠0 then([],0,iO l ds) else if(aP l).all (λp=>decide ((wf p).2=0))=true then(iZ (eu wf (aP l)),e9 l (iZ (eu wf (aP l))),0) else([],0,1)
section
variable {l:List aD} {ds:List bC} {wf:List aD->List (List ak)×Int}
theorem IE (h:iO l ds≠0):h_ wf l ds=([],0,iO l ds):=by unfold h_;rw[if_pos h]
theorem Fi (h:iO l ds=0) (h2:∀k (hk:k<(aP l).length),(wf (aP l)[k]).2=0):h_ wf l ds=(iZ (eu wf (aP l)),e9 l (iZ (eu wf (aP l))),0):=by
 unfold h_;rw[if_neg (by rw[h];simp),if_pos (List.all_eq_true.2 λp hp=>by obtain⟨k,hk,rfl⟩:=List.getElem_of_mem hp;exact decide_eq_true (h2 k hk))]
theorem xP (h:iO l ds=0):gD l=0/\jY ds=0:=by
 unfold iO at h;by_cases e:gD l=0
 ·rw[if_neg (by rw[e];simp)] at h;exact⟨e,h⟩
 ·rw[if_pos e] at h;exact absurd h e
theorem Fj (ds:List bC) (l:List aD): (dJ ds l).2=0:=by unfold dJ;split<;>rfl
theorem S6 (hQ:∀i (h:i<(aP l).length),eG (aP l)[i] ds (wf (aP l)[i]).1):∀i k (hi:i<(eu wf (aP l)).length) (hk:k<(eu wf (aP l)).length),i≠k->fQ (eu wf (aP l))[i] (eu wf (aP l))[k]≠0:=by
 obtain⟨zs,hz⟩:=fH.ex A4 (eu wf (aP l));have qG:=xM (Bj hQ hz).heads;have hnz:zs.Nodup:=List.nodup_iff_pairwise_ne.2 (qG.imp λ{p q} hlt e=>by subst e;have:=zJ p p;omega);have jv:=hz.perm.nodup_iff.1 hnz;intro i k hi hk hne;obtain⟨a,ha,ea⟩:=List.getElem_of_mem (hz.perm.mem_iff.2 (List.getElem_mem hi));obtain⟨b,hb,eb⟩:=List.getElem_of_mem (hz.perm.mem_iff.2 (List.getElem_mem hk));rw[<-ea,<-eb];rcases Nat.lt_trichotomy a b with h|h|h
 ·have:=List.pairwise_iff_getElem.1 qG a b ha hb h;omega
 ·subst h;exfalso;have e:=ea.symm.trans eb;rcases Nat.lt_trichotomy i k with h|h|h
  ·exact List.pairwise_iff_getElem.1 (List.nodup_iff_pairwise_ne.1 jv) i k hi hk h e
  ·exact hne h
  ·exact List.pairwise_iff_getElem.1 (List.nodup_iff_pairwise_ne.1 jv) k i hk hi h e.symm
 ·have:=List.pairwise_iff_getElem.1 qG b a hb ha h;have h2:=zJ zs[b] zs[a];omega
end
end Go.K
namespace Go.K
theorem IF (x:Int):IntKind.i64.wrap x=(x+9223372036854775808)%18446744073709551616-9223372036854775808:=by
 have e1: (2^IntKind.i64.bits:Int)=18446744073709551616:=by decide
 have e2: (2^(IntKind.i64.bits-1):Int)=9223372036854775808:=by decide
 unfold IntKind.wrap;simp only[e1,e2,show IntKind.i64.signed=true from rfl,Bool.true_and];by_cases h:x%18446744073709551616>=9223372036854775808
 ·rw[if_pos (decide_eq_true h)];omega
 ·rw[if_neg (by rw[decide_eq_false h];simp)];omega
theorem S7 (a b:Int):IntKind.i64.wrap (IntKind.i64.wrap a+b)=IntKind.i64.wrap (a+b):=by
 rw[IF,IF,IF];omega
theorem Mr {a:Int} (h:0<=a) (h2:a<=9223372036854775807):IntKind.i64.wrap a=a:=by rw[IF];omega
end Go.K
namespace Go.K
open aZ Go.RowKit
def nZ (N:Nat) (env:Env) (a:Act):Prop:=kV N env {a with defers:=[]}
theorem nZ.of {N:Nat} {env:Env} {a:Act} (h:kV N env a):nZ N env a:=by
 obtain⟨t,d⟩:=a;have:=h.defers;simp only at this;subst this;exact h
theorem nZ.back {N:Nat} {env:Env} {a:Act} (h:nZ N env a) (hd:a.defers=[]):kV N env a:=by
 obtain⟨t,d⟩:=a;simp only at hd;subst hd;exact h
theorem nZ.put {N:Nat} {env:Env} {a:Act} (h:nZ N env a) {d:Option Nat} (hd:vi N d=true) (v:Value):nZ N (tO d v env) (a.put d v):=by
 have:=kV.put h hd v;cases d<;>exact this
theorem put_defers (a:Act) (d:Option Nat) (v:Value): (a.put d v).defers=a.defers:=by cases d<;>rfl
def wv (F:Fence) (n:Nat) (P:Program) (N:Nat) (Q:Exit->Act->World->Prop) (ops:Array Oper) (D:List Deferred) (is:List Nat) (env:Env) (w:World):Prop:=
 ∀a,nZ N env a->a.defers=D->wpOpsIn F n P ops Q is a w
section
variable {F:Fence} {n:Nat} {P:Program} {N:Nat} {Q:Exit->Act->World->Prop} {ops:Array Oper} {D:List Deferred} {is:List Nat} {env:Env} {w w':World} {i t:Nat} {d:Option Nat} {op:Op} {v:Value}
theorem Fk (h:∀a,nZ N env a->a.defers=D->Q .normal a w):wv F n P N Q ops D [] env w:=h
theorem Bk {T:Value->World->Prop} (hF:∀f,F.fn f) (hop:cv ops i=some (d,op,none)) (jv:∀c,op≠ .defer c) (hd:vi N d=true)
  (hy:ig P N env op w T) (h:∀v w',T v w'->wv F n P N Q ops D is (tO d v env) w'):wv F n P N Q ops D (i::is) env w:=λa ha hD=>by
 obtain⟨o,ho,rfl,rfl,hg⟩:=Aq hop;obtain⟨v,w',hrun,hT⟩:=hy _ ha o rfl;have e:execOp a.eval o=execOp ({a with defers:=[]}:Act).eval o:=rfl;simp only[wpOpsIn,ho,Region.wanted,hg,if_true];unfold Oper.wpIn;rw[Oper.semAt_eq _ _ _ jv,e];refine⟨λf _=>hF f,?_⟩;rcases hrun with hrun|⟨hrun,rfl⟩
 ·rw[hrun];exact h v w' hT _ (ha.put hd v) (by rw[put_defers];exact hD)
 ·rw[hrun];exact h undef w' hT _ (ha.put hd undef) (by rw[put_defers];exact hD)
theorem xQ (hF:∀f,F.fn f) (hop:cv ops i=some (some t,op,none)) (jv:∀c,op≠ .defer c) (ht:Nat.blt t N=true)
  (hv:cZ P N env op w v) (h:wv F n P N Q ops D is ((t,v)::env) w):wv F n P N Q ops D (i::is) env w:=
 Bk hF hop jv ht (T:=λu w'=>u=v/\w'=w) (λa ha o ho=>⟨v,w,.inl (hv a ha o ho),rfl,rfl⟩) (λu w' hT=>by obtain⟨rfl,rfl⟩:=hT;exact h)
theorem kq {l:Nat} {y z:Operand} {tys:Array TypeId} {lU:Value} {T:Ending->World->Prop} (hF:∀f,F.fn f) (C3:F.depth=none) (hop:cv ops i=some (some t,.call {callee:=.value y,args:=#[z],argTypes:=tys},none)) (ht:Nat.blt t N=true)
  (hy:ev env y=some (.func (.yield l) #[] #[])) (hz:ev env z=some lU) (hY:YieldAt F (n-1) P l #[lU] w T)
  (h:∀e w',T e w'->∃v,e=.returned v/\wv F n P N Q ops D is ((t,v)::env) w'):wv F n P N Q ops D (i::is) env w:=λa ha hD=>by
 obtain⟨o,ho,sG,S8,hg⟩:=Aq hop;obtain⟨fn,tmps,assign,body,hrun,Ms⟩:=hY;have e:execOp a.eval o=execOp ({a with defers:=[]}:Act).eval o:=rfl;have hy':=kV.ev ha hy;have C0:=kV.ev ha hz;have hex: (execOp ({a with defers:=[]}:Act).eval o).run P w=.ok (.round l fn tmps assign body) w:=by
  unfold execOp;rw[S8];simp[hy',C0,resolve,invoke,Deferred.ofValue,Sem.run_bind,Sem.run_pure,Result.andThen,hrun]
 simp only[wpOpsIn,ho,Region.wanted,hg,if_true];unfold Oper.wpIn;rw[Oper.semAt_eq _ _ _ (by rw[S8];intro c e;cases e),e,hex];refine⟨λf _=>hF f,(λhs=>by rw[C3] at hs;cases hs),Ms.mono λe w' hT=>?_⟩;obtain⟨v,rfl,hW⟩:=h e w' hT;rw[sG];exact hW _ (ha.put (d:=some t) ht v) (by rw[put_defers];exact hD)
end
section
variable {P:Program} {f:FuncId} {N:Nat} {k:List Item} {env:Env} {w:World} {R:Value->World->Prop}
theorem bA {c:Code} (n:Nat) (h:wv Fence.wide n P N (ve P f k R) (di c) [] (List.range (di c).size) env w) (hc:Ej c false=true:=by kernel_rfl):Run P f N (.code c::k) env w R:=λa ha=>by
 obtain⟨id,e⟩:=Ky hc;rw[e];exact D4 (wpIn_wide.1 (wpIn_region (h a (.of ha) ha.defers)))
theorem dI {n:Nat} {ops:Array Oper} (h:Run P f N k env w R):wv Fence.wide n P N (ve P f k R) ops [] [] env w:=λa ha hd=>h a (ha.back hd)
end
def Mt (c:Code) (t:Nat):Bool:=match c with| .rangeFunc (.tmp j) _ _ _=>Nat.beq j t|_=>false
def Bl (c:Code):Array Tmp:=match c with| .rangeFunc _ ps _ _=>ps|_=>#[]
def Fl (c:Code):Code:=match c with| .rangeFunc _ _ a _=>a|_=> .skip
def Fm (c:Code):Code:=match c with| .rangeFunc _ _ _ b=>b|_=> .skip
theorem B3 {c:Code} {t:Nat} (h:Mt c t=true):c=.rangeFunc (.tmp t) (Bl c) (Fl c) (Fm c):=by
 cases c with
 |rangeFunc g ps a b=>cases g with
  |tmp j=>simp only[Mt] at h;rw[Nat.eq_of_beq_eq_true h];rfl
  |_=>cases h
 |_=>cases h
def IG (n0:Nat) (A B:World):Prop:=∃l o o',n0<=l/\A.heap[l]?=some o/\o.isCells=false/\B=A.putObj l o'
def Mu (n0:Nat) (A B:World):Prop:=∀b o,n0<=b->A.heap[b]?=some o->o.isCells=false->B.heap[b]?=some o
theorem Bm {W:World} {b:Nat} {o:Obj} (h:W.heap[b]?=some o):b<W.heap.size:=(Array.getElem?_eq_some_iff.1 h).1
theorem Sx {W:World} {b:Nat} {o o':Obj} (h:W.heap[b]?=some o): (W.alloc o').heap[b]?=some o:=(Below.heap_alloc W o' b (Bm h)).trans h
theorem Fo {A B:World} {b:Nat} {o:Obj} (h:A.heap[b]?=some o) (hE:Ext No A B):B.heap[b]?=some o:=(hE.block b (Bm h) (λh=>h)).trans h
theorem Fp {W:World} {l b:Nat} {o o':Obj} (h:W.heap[b]?=some o) (hne:b≠l): (W.putObj l o').heap[b]?=some o:=(World.putObj_heap_other hne).trans h
theorem yl {P:Program} {n:Nat} {c:Code} {Q:Exit->Act->World->Prop} {a:Act} {w:World} {t gf:Nat} {lb:Array Value} {α:Type} {encs:α->Array Value} {xs:List α} {I:List α->World->Prop}
  (hc:Mt c t=true) (e4:a.eval (.tmp t)=.func (.func gf) #[] lb) (eg:∀args w,(callFunc gf args).run P w=.ok (.enter gf args) w) (hps:∀x,(encs x).size=(Bl c).size)
  (Mv:∀pre A B,I pre A->Ext No A B->I pre B) (Mw:∀pre A B,I pre A->IG w.heap.size A B->I pre B) (h0:I [] w)
  (Ms:∀l k (hk:k<xs.length) A,I (xs.take k) A->(Fl c).wpIn (Fence.wide.inRound l) 0 P
   (Exit.then (λa1 Bn=>Mu w.heap.size A Bn/\I (xs.take k) Bn/\∀II,IG w.heap.size Bn II->I (xs.take k) II->(Fm c).wpIn (Fence.wide.inRound l) 0 P (λe _ Mx=>e=.normal/\Mu w.heap.size II Mx/\I (xs.take (k+1)) Mx) a1 II) (λ_ _ _=>False))
   {tmps:=((Bl c).zip (encs xs[k])).foldl (λt (p,v)=>t.setIfInBounds p v) a.tmps,defers:=[]} A)
  (hseq:∀l sH (J:List α->World->Prop),(∀pre A B,J pre A->Ext No A B->J pre B)->(∀pre A,J pre A->I pre A)->
   (∀k (hk:k<xs.length) A,J (xs.take k) A->YieldAt Fence.wide 0 P l (encs xs[k]) A (λe W'=>e=.returned (.bool true)/\J (xs.take (k+1)) W'))->J [] sH->Calls P gf (#[.func (.yield l) #[] #[]]++lb) sH (bH λ_ w'=>J xs w'))
  (hdone:∀D W,w.heap.size<=D->I xs W->W.heap[D]?=some (.deferred (some []))->Q .normal {a with defers:={target:=.collected D,args:=#[]}::a.defers} W):c.wpIn Fence.wide n P Q a w:=by
 rw[B3 hc];refine wpIn_rangeFunc λfn _=>?_;obtain⟨rec,Bo⟩:∃rec:LoopState->Option Code->Loop,rec=λst GI=>{state:=st,pending:=GI,fn:=fn,tmps:=a.tmps,params:=Bl c,assign:=Fl c,body:=Fm c,defers:=w.heap.size}:=⟨_,rfl⟩
 obtain⟨sH,wz⟩:∃sH,(w.alloc (.deferred (some []))).alloc (.loop (rec .ready none))=sH:=⟨_,rfl⟩
 have Dm:sH.heap[w.heap.size+1]?=some (.loop (rec .ready none)):=by
  rw[<-wz];have:=World.alloc_heap_new (w.alloc (.deferred (some []))) (.loop (rec .ready none));rwa [World.size_alloc] at this
 have um:sH.heap[w.heap.size]?=some (.deferred (some [])):=by
  rw[<-wz];exact Sx (World.alloc_heap_new w _)
 have hG:I [] sH:=by rw[<-wz];exact Mv _ _ _ (Mv _ _ _ h0 (xd _ _).ext) (xd _ _).ext
 obtain⟨J,hJ⟩:∃J:List α->World->Prop,J=λpre W=>I pre W/\W.heap[w.heap.size+1]?=some (.loop (rec .ready none))/\W.heap[w.heap.size]?=some (.deferred (some [])):=⟨_,rfl⟩
 have xR:∀pre A,J pre A↔(I pre A/\A.heap[w.heap.size+1]?=some (.loop (rec .ready none))/\A.heap[w.heap.size]?=some (.deferred (some []))):=λpre A=>by rw[hJ]
 have yS:∀k (hk:k<xs.length) A,J (xs.take k) A->YieldAt Fence.wide 0 P (w.heap.size+1) (encs xs[k]) A (λe W'=>e=.returned (.bool true)/\J (xs.take (k+1)) W'):=λk hk A h=>by
  obtain⟨hi,hl,hkk⟩:=(xR _ _).1 h;have hy:=run_yield (P:=P) (args:=encs xs[k]) hl (by rw[Bo];exact hps _);have e1: (rec .ready none).fn=fn/\(rec .ready none).tmps=a.tmps/\(rec .ready none).params=Bl c/\(rec .ready none).assign=Fl c/\(rec .ready none).body=Fm c:=by rw[Bo];exact⟨rfl,rfl,rfl,rfl,rfl⟩
  rw[e1.1,e1.2.1,e1.2.2.1,e1.2.2.2.1,e1.2.2.2.2] at hy;refine⟨fn,_,Fl c,Fm c,hy,roundIn_of_wpIn (n:=0) trivial (wpIn_mono (Ms (w.heap.size+1) k hk A hi) ?_)⟩;intro e a1 Bn hq;cases e with
  |normal=>
   obtain⟨S9,hi1,hbody⟩:=hq;have My:=S9 _ _ ah hl rfl;have qA:=S9 _ _ (Nat.le_refl _) hkk rfl;obtain⟨o2,dK⟩:∃o2:Loop,o2={rec .ready none with state:=.busy}:=⟨_,rfl⟩
   have Mz:=run_beginRound (P:=P) My (by rw[Bo]);rw[<-dK] at Mz;refine⟨_,Mz,?_⟩;have hT:IG w.heap.size Bn (Bn.putObj (w.heap.size+1) (.loop o2)):=⟨_,_,_,by omega,My,rfl,rfl⟩
   have k9: (Bn.putObj (w.heap.size+1) (.loop o2)).heap[w.heap.size+1]?=some (.loop o2):=World.putObj_heap_same (Bm My);have hk2:=Fp (o':=.loop o2) qA (show w.heap.size≠w.heap.size+1 by omega);refine wpIn_mono (hbody _ hT (Mw _ _ _ hi1 hT)) ?_;intro e a3 Mx hp;obtain⟨rfl,S_,sn⟩:=hp;have MA:=S_ _ _ ah k9 rfl;have PI:=S_ _ _ (Nat.le_refl _) hk2 rfl;have hend:=run_endRound (P:=P) none MA;have fA: ({o2 with state:=if(none:Option Code).isNone then .ready else .done,pending:=none}:Loop)=rec .ready none:=by rw[dK,Bo];rfl
   rw[fA] at hend;refine⟨_,_,hend,rfl,(xR _ _).2 ⟨Mw _ _ _ sn ⟨_,_,_,by omega,MA,rfl,rfl⟩,World.putObj_heap_same (Bm MA),Fp PI ah⟩⟩
  |exit id=>exact hq.elim
  |ret=>exact hq.elim
  |goto t=>exact hq.elim
  |panic ch=>exact hq.elim
  |outgrown=>exact hq.elim
 have ja:=hseq (w.heap.size+1) sH J (λpre A B h hE=>(xR _ _).2 ⟨Mv _ _ _ ((xR _ _).1 h).1 hE,Fo ((xR _ _).1 h).2.1 hE,Fo ((xR _ _).1 h).2.2 hE⟩) (λpre A h=>((xR _ _).1 h).1) yS ((xR _ _).2 ⟨hG,Dm,um⟩);refine⟨w.heap.size+1,[{target:=.collected w.heap.size,args:=#[]}],sH,{target:=.fn (.func gf) lb,args:=#[.func (.yield (w.heap.size+1)) #[] #[]]},sH,gf,
  #[.func (.yield (w.heap.size+1)) #[] #[]]++lb,sH,?_,?_,?_,?_,?_,?_⟩
 ·rw[<-wz,Bo];exact run_enterLoop_outer _ _ _ _ _
 ·simp only[resolve,e4];simp[go_sem]
 ·intro _ _;trivial
 ·simp[invoke,go_sem,eg]
 ·intro h;simp[Fence.wide] at h
 ·refine callsIn_wide.2 (ja.mono ?_);rintro e agr ⟨v,rfl,hj⟩;obtain⟨hi,hl,hk⟩:=(xR _ _).1 hj;have:=run_endLoop (P:=P) hl (by rw[Bo];simp);rw[Bo] at this;exact⟨none,_,this,hdone _ _ (Nat.le_refl _) (Mw _ _ _ hi ⟨_,_,_,by omega,hl,rfl,rfl⟩) (Fp hk ah)⟩
section
variable {F:Fence} {n:Nat} {P:Program} {N:Nat} {Q:Exit->Act->World->Prop} {D:List Deferred} {env:Env} {w:World} {a:Act} {c:Code}
theorem IJ (h: (cl c).wpIn F n P (Exit.then ((aC c).wpIn F n P Q) Q) a w) (hc:PO c=true:=by kernel_rfl):c.wpIn F n P Q a w:=by
 have e:c=.seq (cl c) (aC c):=by cases c with|seq a b=>rfl|_=>cases hc
 rw[e];exact wpIn_seq h
theorem Ta (id:Nat) (h: (cl c).wpIn F n P (Exit.inBlock id Q) a w) (hc:G0 c id=true:=by kernel_rfl):c.wpIn F n P Q a w:=by
 have e:c=.block id (cl c):=by cases c with|block a b=>simp only[G0] at hc;rw[Nat.eq_of_beq_eq_true hc];rfl|_=>cases hc
 rw[e];exact wpIn_block h
theorem Fq (ha:nZ N env a) (hD:a.defers=D) (h:wv F n P N Q (di c) D (List.range (di c).size) env w) (hc:Ej c false=true:=by kernel_rfl):c.wpIn F n P Q a w:=by
 obtain⟨id,e⟩:=Ky hc;rw[e];exact wpIn_region (h a ha hD)
def St (c:Code):Bool:=match c with| .ret=>true|_=>false
theorem dB (h:Q .ret a w) (hc:St c=true:=by kernel_rfl):c.wpIn F n P Q a w:=by
 have e:c=.ret:=by cases c with|ret=>rfl|_=>cases hc
 rw[e];exact wpIn_ret h
end
theorem vu {P:Program} {f:FuncId} {fn:Func} {c:Code} (args:List Value) {N n:Nat} {w:World} {R:Value->World->Prop}
  (hf:P.funcs[f]?=some fn) (hb:fn.body=some c) (hN:fn.ntmps=N) (hsz:Nat.ble args.length N=true)
  (h:∀a,nZ N (Ar 0 args) a->a.defers=[]->c.wpIn Fence.wide n P (bodyPostM Fence.wide n P fn (bH R)) a w):Calls P f args.toArray w (bH R):=by
 refine callsIn_wide.1 (callsIn_of_wp_marks (n:=n) hf hb trivial (h _ ⟨?_,rfl,λt v ht=>?_⟩ rfl) rfl)
 ·have:=Nat.le_of_ble_eq_true hsz;simp[hN];omega
 ·have h1:=(Kg args 0 t v ht).2;simp only[Nat.sub_zero] at h1;have h2:t<args.length:=by
   rcases Nat.lt_or_ge t args.length with h|h
   ·exact h
   ·rw[List.getElem?_eq_none h] at h1;cases h1
  simp only;rw[Array.getElem?_append_left (by simpa using h2)];simpa using h1
theorem nZ.ev {N:Nat} {env:Env} {a:Act} (h:nZ N env a) {x:Operand} {v:Value} (hx:K.ev env x=some v):a.eval x=v:=by
 have:=kV.ev h hx;cases x<;>exact this
theorem nZ.yield {N:Nat} {env:Env} {a:Act} (h:nZ N env a) {t:Nat} (ht:Nat.blt t N=true) (v:Value):nZ N ((t,v)::env) {tmps:=((#[t]:Array Tmp).zip #[v]).foldl (λt (p,v)=>t.setIfInBounds p v) a.tmps,defers:=[]}:=by
 have:=nZ.put h (d:=some t) ht v;unfold nZ at this⊢;simpa[Act.put,tO] using this
def rL (bo:Nat) (v:Value):Nat->Nat:=λb=>if b=bo then 2 else if v.ownBlock=some b then 5 else 0
def AS (qE pq:Nat) (w₀:World) (n1 bo:Nat) (pre:List ak) (W:World):Prop:=
 ∃v,Ext No w₀ W/\W.heap[bo]?=some (.cells [v].toArray qE)/\bg W (rL bo v) 5 pq v pre/\∀b,c9 v b->n1<=b
section
variable {w w' w₀ W A B:World} {C aQ:Nat->Nat} {j j' e qE pq n0 n1 bo:Nat} {v:Value} {ys pre:List ak}
theorem bg.any (h:bg W C j e v ys) (hh:∀b,c9 v b->w'.heap[b]?=W.heap[b]?) (hc:∀b,c9 v b->aQ b=j') (hj:j'≠0):bg w' aQ j' e v ys:=by
 refine⟨?_,hc⟩;rcases h.own with⟨rfl,rfl⟩|⟨g,cap,cs,hv,iD,hcs,h1,h2,h3⟩
 ·exact .inl ⟨rfl,rfl⟩
 ·subst hv;exact .inr ⟨g,cap,cs,rfl,by unfold au;rw[hc g rfl];exact hj,(hh g rfl).trans hcs,h1,h2,λi hi=>qb.2 (qb.1 (h3 i hi))⟩
theorem bg.cells (h:bg W C j e v ys) {b:Nat} (hb:c9 v b):∃cs,W.heap[b]?=some (.cells cs e):=by
 rcases h.own with⟨rfl,rfl⟩|⟨g,cap,cs,hv,iD,hcs,h1,h2,h3⟩
 ·cases hb
 ·subst hv;cases hb;exact⟨cs,hcs⟩
theorem Tb {l:Nat} {o:Obj} (h:Ext No w₀ A) (hl:w₀.heap.size<=l):Ext No w₀ (A.putObj l o):=
 ⟨h.os,h.tape,h.output,by simpa using h.size,λb hb hn=>(World.putObj_heap_other ah).trans (h.block b hb hn),h.drawn⟩
theorem AS.ext (h:AS qE pq w₀ n1 bo pre A) (hE:Ext No A B):AS qE pq w₀ n1 bo pre B:=by
 obtain⟨v,h1,h2,h3,h4⟩:=h;exact⟨v,h1.trans hE (λ_ _ h=>h),Fo h2 hE,h3.any (λb hb=>hE.block b (h3.own.fh b hb).2 (λh=>h)) h3.col ai,h4⟩
theorem AS.turn (h:AS qE pq w₀ n1 bo pre A) (hn:w₀.heap.size<=n0) (hT:IG n0 A B):AS qE pq w₀ n1 bo pre B:=by
 obtain⟨v,h1,h2,h3,h4⟩:=h;obtain⟨l,o,o',hl,ho,hc,rfl⟩:=hT;refine⟨v,Tb h1 ah,Fp h2 (λe=>?_),h3.any (λb hb=>World.putObj_heap_other (λe=>?_)) h3.col ai,h4⟩
 ·subst e;rw[h2] at ho;cases ho;cases hc
 ·subst e;obtain⟨cs,hcs⟩:=h3.cells hb;rw[hcs] at ho;cases ho;cases hc
theorem AS.lim {v:Value} (h2:W.heap[bo]?=some (.cells [v].toArray qE)) (h3:bg W (rL bo v) 5 pq v pre):aL W (rL bo v):=λb hb=>by
 unfold rL at hb;split at hb
 ·rename_i e;subst e;exact Bm h2
 ·split at hb
  ·rename_i e;exact(h3.own.fh b e).2
  ·exact absurd rfl hb
theorem AS.close {v v':Value} {aQ:Nat->Nat} {ys:List ak} (h1:Ext No w₀ A) (h2:A.heap[bo]?=some (.cells [v].toArray qE)) (h3:bg A (rL bo v) 5 pq v pre) (h4:∀b,c9 v b->n1<=b) (qM:w₀.heap.size<=bo) (hn:w₀.heap.size<=n1) (hA:n1<=A.heap.size)
  (hs:ax [2,5] A (rL bo v) B aQ) (g2:cE B aQ 2 bo (.cells [v'].toArray qE)) (g3:bg B aQ 5 pq v' ys):Mu n0 A B/\AS qE pq w₀ n1 bo ys B:=by
 have MB:∀b,rL bo v b∈[2,5]->b=bo\/c9 v b:=λb hb=>by
  unfold rL at hb;split at hb
  ·left;assumption
  ·split at hb
   ·right;assumption
   ·simp at hb
 refine⟨λb o hb ho hc=>(hs.ext.block b (Bm ho) (λhm=>?_)).trans ho,v',⟨hs.ext.os.trans h1.os,hs.ext.tape.trans h1.tape,hs.ext.output.trans h1.output,Nat.le_trans h1.size hs.ext.size,λb hb _=>?_,((Ext.mono (A':=λb=>rL bo v b∈[2,5]) h1 (λb _ hb=>hb.elim)).trans hs.ext (λb _ h=>h) |>.drawn)⟩,g2.at_,g3.any (λ_ _=>rfl) (λb hb=>?_) ai,λb hb=>?_⟩
 ·rcases MB b hm with rfl|h
  ·rw[h2] at ho;cases ho;cases hc
  ·obtain⟨cs,hcs⟩:=h3.cells h;rw[hcs] at ho;cases ho;cases hc
 ·refine(hs.ext.block b (Nat.lt_of_lt_of_le hb h1.size) (λhm=>?_)).trans (h1.block b hb (λh=>h));rcases MB b hm with rfl|h
  ·omega
  ·have:=h4 b h;omega
 ·have:=g3.col b hb;unfold rL;rw[if_neg (λe=>by subst e;rw[g2.col] at this;cases this),if_pos (show v'.ownBlock=some b from hb)]
 ·have hc:=g3.col b hb;rcases Nat.lt_or_ge b A.heap.size with hlt|hge
  ·rw[hs.col b hlt] at hc;rcases MB b (by rw[hc];simp) with rfl|h
   ·have:=g2.col;rw[hs.col b hlt] at this;omega
   ·exact h4 b h
  ·omega
end
end Go.K
namespace Go.K
open aZ
section
variable {α:Type} {ys zs us:List α} {σ dU ρ:Nat->Nat} {a b m i j k n x s r d:Nat} {c:α->α->Int} {P:α->Prop} {T:Nat->Nat->Prop}
theorem fT.comp (h:fT ys σ zs) (h':fT zs dU us):fT ys (λi=>σ (dU i)) us:=
 ⟨by rw[h'.len,h.len],λi hi=>by
  have h1:=h'.at_ i (by rw[h.len];exact hi);have h2:=h.at_ (dU i) (by rw[<-h.len];exact h1.1);exact⟨h2.1,h1.2.trans h2.2⟩⟩
theorem fT.congr (h:fT ys σ zs) (e:∀x,σ x=dU x):fT ys dU zs:=(funext e:σ=dU)▸h
def n4 (a b k:Nat):Nat->Nat:=λx=>if a<=x/\x<a+k then x-a+b else if b<=x/\x<b+k then x-b+a else x
theorem Dn (h:a<=x) (h2:x<a+k):n4 a b k x=x-a+b:=by unfold n4;rw[if_pos ⟨h,h2⟩]
theorem Dp (h:b<=x) (h2:x<b+k) (h3:a+k<=b):n4 a b k x=x-b+a:=by unfold n4;rw[if_neg ah,if_pos ⟨h,h2⟩]
theorem wA (h:¬(a<=x/\x<a+k)) (h2:¬(b<=x/\x<b+k)):n4 a b k x=x:=by unfold n4;rw[if_neg h,if_neg h2]
theorem zv:n4 a b 0 x=x:=wA ah ah
theorem Tc (h:a+k<b):mN (n4 a b k) (a+k) (b+k) x=n4 a b (k+1) x:=by
 unfold mN;by_cases e1:x=a+k
 ·rw[if_pos e1,wA ah ah,Dn ah ah];omega
 ·rw[if_neg e1];by_cases e2:x=b+k
  ·rw[if_pos e2,wA ah ah,Dp ah ah ah];omega
  ·rw[if_neg e2];by_cases fA:a<=x/\x<a+k
   ·rw[Dn fA.1 fA.2,Dn fA.1 ah]
   ·by_cases jL:b<=x/\x<b+k
    ·rw[Dp jL.1 jL.2 ah,Dp jL.1 ah ah]
    ·rw[wA fA jL,wA ah ah]
def ro (a m b:Nat):Nat->Nat:=λx=>if a<=x/\x<a+(b-m) then x+(m-a) else if a+(b-m)<=x/\x<b then x-(b-m) else x
theorem xS (h:a<=x) (h2:x<a+(b-m)):ro a m b x=x+(m-a):=by unfold ro;rw[if_pos ⟨h,h2⟩]
theorem xT (h:a+(b-m)<=x) (h2:x<b):ro a m b x=x-(b-m):=by unfold ro;rw[if_neg ah,if_pos ⟨h,h2⟩]
theorem tq (h:¬(a<=x/\x<b)) (hm:a<=m) (h2:m<=b):ro a m b x=x:=by unfold ro;rw[if_neg ah,if_neg ah]
theorem dY (h:a<=m) (h2:m<=b) (h3:a=m\/m=b):ro a m b x=x:=by
 by_cases e:a<=x/\x<b
 ·by_cases e2:x<a+(b-m)
  ·rw[xS e.1 e2];omega
  ·rw[xT ah e.2];omega
 ·exact tq e h h2
theorem vR (h:a<=m) (h2:m<=b):f_ (ro a m b) a b:=by
 refine⟨λi hi=>tq hi h h2,λi h3 h4=>?_,λi j e=>?_⟩
 ·by_cases e2:i<a+(b-m)
  ·rw[xS h3 e2];omega
  ·rw[xT ah h4];omega
 ·have hx:∀x,(a<=x/\x<a+(b-m)/\ro a m b x=x+(m-a))\/(a+(b-m)<=x/\x<b/\ro a m b x=x-(b-m))\/(¬(a<=x/\x<b)/\ro a m b x=x):=λx=>by
   by_cases e:a<=x/\x<b
   ·by_cases e2:x<a+(b-m)
    ·exact .inl ⟨e.1,e2,xS e.1 e2⟩
    ·exact .inr (.inl ⟨by omega,e.2,xT ah e.2⟩)
   ·exact .inr (.inr ⟨e,tq e h h2⟩)
  have h5:=hx i;have h6:=hx j;omega
theorem bB (hj:j<i) (hi:i<=m):n4 (m-i) m j (ro (m-i+j) m (m+j) x)=ro (m-i) m (m+j) x:=by
 by_cases e1:m-i<=x/\x<m-i+j
 ·rw[xS (a:=m-i) e1.1 ah,tq ah ah ah,Dn e1.1 e1.2];omega
 ·by_cases e2:m-i+j<=x/\x<m+j
  ·rw[xT (a:=m-i) ah e2.2];by_cases fA:x<m-i+j+j
   ·rw[xS e2.1 ah,Dp ah ah ah];omega
   ·rw[xT ah e2.2,wA ah ah]
  ·rw[tq (a:=m-i+j) ah ah ah,tq (a:=m-i) ah ah ah,wA ah ah]
theorem GM (hj:i<j) (hi:i<=m):n4 (m-i) (m+j-i) i (ro (m-i) m (m+(j-i)) x)=ro (m-i) m (m+j) x:=by
 by_cases e1:m-i<=x/\x<m-i+j
 ·rw[xS (b:=m+j) e1.1 ah];by_cases e2:x<m-i+(j-i)
  ·rw[xS e1.1 ah,wA ah ah]
  ·rw[xT ah ah,Dn ah ah];omega
 ·by_cases e2:m-i+j<=x/\x<m+j
  ·rw[xT (b:=m+j) ah e2.2,tq ah ah ah,Dp ah ah ah];omega
  ·rw[tq (b:=m+(j-i)) ah ah ah,tq (b:=m+j) ah ah ah,wA ah ah]
theorem p0 (hi:i<=m):n4 (m-i) m i x=ro (m-i) m (m+i) x:=by
 by_cases e1:m-i<=x/\x<m
 ·rw[Dn e1.1 ah,xS e1.1 ah];omega
 ·by_cases e2:m<=x/\x<m+i
  ·rw[Dp e2.1 e2.2 ah,xT ah e2.2];omega
  ·rw[wA ah ah,tq ah ah ah]
structure tu (zs us:List α) (a m b i j:Nat):Prop where
 ex:∃dU,fT zs dU us/\∀x,dU (ro (m-i) m (m+j) x)=ro a m b x
 b1:1<=i/\i<=m-a
 b2:1<=j/\j<=b-m
theorem tu.start (h1:a<m) (h2:m<b):tu zs zs a m b (m-a) (b-m):=by
 refine⟨⟨λx=>x,fT.id _,λx=>?_⟩,by omega,by omega⟩;rw[show m-(m-a)=a by omega,show m+(b-m)=b by omega]
theorem tu.more {vs:List α} (h:tu zs us a m b i j) (hj:j<i) (hv:fT us (n4 (m-i) m j) vs):tu zs vs a m b (i-j) j:=by
 obtain⟨⟨dU,h1,h2⟩,h3,h4⟩:=h;refine⟨⟨_,h1.comp hv,λx=>?_⟩,by omega,h4⟩;rw[show m-(i-j)=m-i+j by omega,bB hj ah];exact h2 x
theorem tu.less {vs:List α} (h:tu zs us a m b i j) (hj:i<j) (hv:fT us (n4 (m-i) (m+j-i) i) vs):tu zs vs a m b i (j-i):=by
 obtain⟨⟨dU,h1,h2⟩,h3,h4⟩:=h;refine⟨⟨_,h1.comp hv,λx=>?_⟩,h3,by omega⟩;show dU (n4 (m-i) (m+j-i) i (ro (m-i) m (m+(j-i)) x))=_;rw[GM hj ah];exact h2 x
theorem tu.done {vs:List α} (h:tu zs us a m b i i) (hv:fT us (n4 (m-i) m i) vs):fT zs (ro a m b) vs:=by
 obtain⟨⟨dU,h1,h2⟩,h3,h4⟩:=h;refine(h1.comp hv).congr λx=>?_;show dU (n4 (m-i) m i x)=_;rw[p0 ah];exact h2 x
def nA (a k:Nat):Nat->Nat:=λx=>if a<=x/\x<k then x+1 else if x=k then a else x
def nB (m k:Nat):Nat->Nat:=λx=>if x=k then m else if k<x/\x<=m then x-1 else x
theorem Dq (h:a<=x) (h2:x<k):nA a k x=x+1:=by unfold nA;rw[if_pos ⟨h,h2⟩]
theorem Ds:nA a k k=a:=by unfold nA;rw[if_neg ah,if_pos rfl]
theorem xU (h:x<a\/k<x) (hk:a<=k):nA a k x=x:=by unfold nA;rw[if_neg ah,if_neg ah]
theorem Dt:nB m k k=m:=by unfold nB;rw[if_pos rfl]
theorem zM (h:k<x) (h2:x<=m):nB m k x=x-1:=by unfold nB;rw[if_neg ah,if_pos ⟨h,h2⟩]
theorem Bp (h:x<k\/m<x) (hk:k<=m):nB m k x=x:=by unfold nB;rw[if_neg ah,if_neg ah]
theorem Dd:nA a a x=x:=by
 by_cases e:x=a
 ·rw[e,Ds]
 ·exact xU ah (Nat.le_refl _)
theorem Dr:nB m m x=x:=by
 by_cases e:x=m
 ·rw[e,Dt]
 ·exact Bp ah (Nat.le_refl _)
theorem Td (h:a<=k):mN (λx=>σ (nA a k x)) k (k+1) x=σ (nA a (k+1) x):=by
 unfold mN;by_cases e1:x=k
 ·rw[if_pos e1,e1];show σ (nA a k (k+1))=_;rw[xU ah h,Dq ah ah]
 ·rw[if_neg e1];by_cases e2:x=k+1
  ·rw[if_pos e2,e2];show σ (nA a k k)=_;rw[Ds,Ds]
  ·rw[if_neg e2];show σ (nA a k x)=_;by_cases fA:a<=x/\x<k
   ·rw[Dq fA.1 fA.2,Dq fA.1 ah]
   ·rw[xU ah h,xU ah ah]
theorem Te (h:k<=m) (h1:1<=k):mN (λx=>σ (nB m k x)) k (k-1) x=σ (nB m (k-1) x):=by
 unfold mN;by_cases e1:x=k
 ·rw[if_pos e1,e1];show σ (nB m k (k-1))=_;rw[Bp ah h,zM ah h]
 ·rw[if_neg e1];by_cases e2:x=k-1
  ·rw[if_pos e2,e2];show σ (nB m k k)=_;rw[Dt,Dt]
  ·rw[if_neg e2];show σ (nB m k x)=_;by_cases fA:k<x/\x<=m
   ·rw[zM fA.1 fA.2,zM ah fA.2]
   ·rw[Bp ah h,Bp ah ah]
theorem dN (h:a<=k) (h2:k<b):f_ (nA a k) a b:=by
 have hx:∀x,(a<=x/\x<k/\nA a k x=x+1)\/(x=k/\nA a k x=a)\/((x<a\/k<x)/\nA a k x=x):=λx=>by
  by_cases e:x=k
  ·subst e;exact .inr (.inl ⟨rfl,Ds⟩)
  ·by_cases e2:a<=x/\x<k
   ·exact .inl ⟨e2.1,e2.2,Dq e2.1 e2.2⟩
   ·exact .inr (.inr ⟨by omega,xU ah h⟩)
 exact⟨λi hi=>by have:=hx i;omega,λi h3 h4=>by have:=hx i;omega,λi j e=>by have:=hx i;have:=hx j;omega⟩
theorem GR (h:a<=k) (h2:k<=m) (h3:m<b):f_ (nB m k) a b:=by
 have hx:∀x,(x=k/\nB m k x=m)\/(k<x/\x<=m/\nB m k x=x-1)\/((x<k\/m<x)/\nB m k x=x):=λx=>by
  by_cases e:x=k
  ·subst e;exact .inl ⟨rfl,Dt⟩
  ·by_cases e2:k<x/\x<=m
   ·exact .inr (.inl ⟨e2.1,e2.2,zM e2.1 e2.2⟩)
   ·exact .inr (.inr ⟨by omega,Bp ah h2⟩)
 exact⟨λi hi=>by have:=hx i;omega,λi h3 h4=>by have:=hx i;omega,λi j e=>by have:=hx i;have:=hx j;omega⟩
structure n5 (c:α->α->Int) (ys:List α) (σ:Nat->Nat) (a m b:Nat):Prop where
 lt:a<m/\m<b/\b<=ys.length
 l:jM (fB c ys) σ a m
 r:jM (fB c ys) σ m b
 d:∀p q,a<=p->p<m->m<=q->q<b->fB c ys (σ p) (σ q)\/∃(hq:σ q<ys.length) (hp:σ p<ys.length),c ys[σ q] ys[σ p]<0
theorem n5.yes (h:n5 c ys σ a m b) (hL:fT ys σ zs) {p q:Nat} (hp:p<zs.length) (hq:q<zs.length) (hc:c zs[q] zs[p]<0):fB c ys (σ q) (σ p):=by
 have hl:=hL.len;refine⟨(hL.at_ q ah).1,(hL.at_ p ah).1,.inl ?_⟩;rw[<-hL.get (by omega:q<ys.length),<-hL.get (by omega:p<ys.length)];exact hc
theorem n5.no (h:n5 c ys σ a m b) (hL:fT ys σ zs) {p q:Nat} (h1:a<=p) (h2:p<m) (h3:m<=q) (h4:q<b) (hp:p<zs.length) (hq:q<zs.length) (hc:¬c zs[q] zs[p]<0):fB c ys (σ p) (σ q):=by
 have hl:=hL.len;rcases h.d p q h1 h2 h3 h4 with h5|⟨ags,agt,h5⟩
 ·exact h5
 ·rw[<-hL.get (by omega:q<ys.length),<-hL.get (by omega:p<ys.length)] at h5;exact absurd h5 hc
abbrev Bq (T:Nat->Nat->Prop):Prop:=∀x y z,T x y->T y z->T x z
structure tv (T:Nat->Nat->Prop) (σ:Nat->Nat) (a m b i j:Nat):Prop where
 le:m<=i/\i<=j/\j<=b
 lo:∀q,m<=q->q<i->T (σ q) (σ a)
 hi:∀q,j<=q->q<b->T (σ a) (σ q)
theorem tv.start (h:m<=b):tv T σ a m b m b:=⟨by omega,λq h1 h2=>by omega,λq h1 h2=>by omega⟩
theorem tv.up {h:Nat} (ht:Bq T) (hA:jM T σ m b) (hB:tv T σ a m b i j) (h1:i<=h) (h2:h<j) (hT:T (σ h) (σ a)):tv T σ a m b (h+1) j:=by
 have hl:=hB.le;refine⟨by omega,λq h3 h4=>?_,hB.hi⟩;by_cases e:q=h
 ·rw[e];exact hT
 ·exact ht _ _ _ (hA q h h3 ah ah) hT
theorem tv.down {h:Nat} (ht:Bq T) (hA:jM T σ m b) (hB:tv T σ a m b i j) (h1:i<=h) (h2:h<j) (hT:T (σ a) (σ h)):tv T σ a m b i h:=by
 have hl:=hB.le;refine⟨by omega,hB.lo,λq h3 h4=>?_⟩;by_cases e:q=h
 ·rw[e];exact hT
 ·exact ht _ _ _ hT (hA h q ah ah ah)
theorem tv.done (hB:tv T σ a m b i i) (hm:m=a+1) (hA:jM T σ m b):jM T (λx=>σ (nA a (i-1) x)) a b:=by
 have hl:=hB.le;intro p q h1 h2 h3;show T (σ (nA a (i-1) p)) (σ (nA a (i-1) q));rcases Nat.lt_trichotomy p (i-1) with e|e|e
 ·rw[Dq h1 e];rcases Nat.lt_trichotomy q (i-1) with f|f|f
  ·rw[Dq ah f];exact hA _ _ ah ah ah
  ·rw[f,Ds];exact hB.lo _ ah ah
  ·rw[xU ah ah];exact hA _ _ ah ah ah
 ·rw[e,Ds,xU ah ah];exact hB.hi _ ah ah
 ·rw[xU ah ah,xU ah ah];exact hA _ _ ah ah ah
structure tw (T:Nat->Nat->Prop) (σ:Nat->Nat) (a m i j:Nat):Prop where
 le:a<=i/\i<=j/\j<=m
 lo:∀q,a<=q->q<i->T (σ q) (σ m)
 hi:∀q,j<=q->q<m->T (σ m) (σ q)
theorem tw.start (h:a<=m):tw T σ a m a m:=⟨by omega,λq h1 h2=>by omega,λq h1 h2=>by omega⟩
theorem tw.up {h:Nat} (ht:Bq T) (hA:jM T σ a m) (hB:tw T σ a m i j) (h1:i<=h) (h2:h<j) (hT:T (σ h) (σ m)):tw T σ a m (h+1) j:=by
 have hl:=hB.le;refine⟨by omega,λq h3 h4=>?_,hB.hi⟩;by_cases e:q=h
 ·rw[e];exact hT
 ·exact ht _ _ _ (hA q h h3 ah ah) hT
theorem tw.down {h:Nat} (ht:Bq T) (hA:jM T σ a m) (hB:tw T σ a m i j) (h1:i<=h) (h2:h<j) (hT:T (σ m) (σ h)):tw T σ a m i h:=by
 have hl:=hB.le;refine⟨by omega,hB.lo,λq h3 h4=>?_⟩;by_cases e:q=h
 ·rw[e];exact hT
 ·exact ht _ _ _ hT (hA h q ah ah ah)
theorem tw.done (hB:tw T σ a m i i) (hm:b=m+1) (hA:jM T σ a m):jM T (λx=>σ (nB m i x)) a b:=by
 have hl:=hB.le;intro p q h1 h2 h3;show T (σ (nB m i p)) (σ (nB m i q));rcases Nat.lt_trichotomy p i with e|e|e
 ·rw[Bp (.inl e) ah];rcases Nat.lt_trichotomy q i with f|f|f
  ·rw[Bp (.inl f) ah];exact hA _ _ ah ah ah
  ·rw[f,Dt];exact hB.lo _ ah ah
  ·rw[zM ah ah];exact hA _ _ ah ah ah
 ·rw[e,Dt,zM ah ah];exact hB.hi _ ah ah
 ·rw[zM ah ah,zM ah ah];exact hA _ _ ah ah ah
structure jD (T:Nat->Nat->Prop) (σ:Nat->Nat) (a m b d s r:Nat):Prop where
 mid:a<d/\d<b/\2*d<=a+b/\a+b<=2*d+1/\a<m/\m<b
 le:s<=r
 lo: (m<=d->a<=s)/\(d<m->d+m-b<=s)
 hi: (m<=d->r<=m)/\(d<m->r<=d)
 aK: ((m<=d/\s=a)\/(d<m/\s=d+m-b))\/(1<=s/\T (σ (s-1)) (σ (d+m-s)))
 e7: ((m<=d/\r=m)\/(d<m/\r=d))\/T (σ (d+m-1-r)) (σ r)
theorem jD.Dl (h:a<d/\d<b/\2*d<=a+b/\a+b<=2*d+1/\a<m/\m<b) (h2:d<m):jD T σ a m b d (d+m-b) d:=
 ⟨h,by omega,⟨λe=>by omega,λ_=>Nat.le_refl _⟩,⟨λe=>by omega,λ_=>Nat.le_refl _⟩,.inl (.inr ⟨h2,rfl⟩),.inl (.inr ⟨h2,rfl⟩)⟩
theorem jD.TF (h:a<d/\d<b/\2*d<=a+b/\a+b<=2*d+1/\a<m/\m<b) (h2:m<=d):jD T σ a m b d a m:=
 ⟨h,by omega,⟨λ_=>Nat.le_refl _,λe=>by omega⟩,⟨λ_=>Nat.le_refl _,λe=>by omega⟩,.inl (.inl ⟨h2,rfl⟩),.inl (.inl ⟨h2,rfl⟩)⟩
theorem jD.Le (h:jD T σ a m b d s r) {q:Nat} (h1:s<=q) (h2:q<r):a<=q/\q<m/\m<=d+m-1-q/\d+m-1-q<b/\q<=d+m-1:=by
 obtain⟨h3,h4,⟨h5,h6⟩,⟨h7,h8⟩,_,_⟩:=h;omega
theorem jD.up (h:jD T σ a m b d s r) {q:Nat} (h1:s<=q) (h2:q<r) (hT:T (σ q) (σ (d+m-1-q))):jD T σ a m b d (q+1) r:=by
 obtain⟨h3,h4,⟨h5,h6⟩,⟨h7,h8⟩,gi,jd⟩:=h;exact⟨h3,by omega,by omega,by omega,.inr ⟨by omega,by rw[show q+1-1=q by omega,show d+m-(q+1)=d+m-1-q by omega];exact hT⟩,jd⟩
theorem jD.down (h:jD T σ a m b d s r) {q:Nat} (h1:s<=q) (h2:q<r) (hT:T (σ (d+m-1-q)) (σ q)):jD T σ a m b d s q:=by
 obtain⟨h3,h4,⟨h5,h6⟩,⟨h7,h8⟩,gi,jd⟩:=h;exact⟨h3,by omega,by omega,by omega,gi,.inr hT⟩
theorem jD.ends (h:jD T σ a m b d s s):a<=s/\s<=m/\s<=d/\m<=d+m-s/\d<=d+m-s/\d+m-s<=b/\s+(d+m-s-m)=d:=by
 obtain⟨h3,h4,⟨h5,h6⟩,⟨h7,h8⟩,gi,jd⟩:=h;omega
theorem jD.at_ (h:jD T σ a m b d s s) (x:Nat): (a<=x->x<s->ro s m (d+m-s) x=x)/\(s<=x->x<d->ro s m (d+m-s) x=x+(m-s))/\(d<=x->x<d+m-s->ro s m (d+m-s) x=x-(d-s))/\(d+m-s<=x->ro s m (d+m-s) x=x):=by
 have he:=h.ends;refine⟨λh1 h2=>tq ah ah ah,λh1 h2=>xS ah ah,λh1 h2=>?_,λh1=>tq ah ah ah⟩;rw[xT ah ah];omega
theorem jD.Gd (ht:Bq T) (h:jD T σ a m b d s s) (hl:jM T σ a m) (hr:jM T σ m b):∀p q,a<=p->p<d->d<=q->q<b->T (σ (ro s m (d+m-s) p)) (σ (ro s m (d+m-s) q)):=by
 have he:=h.ends;have hm:=h.mid;have MC:∀p q,a<=p->p<q->q<m->T (σ p) (σ q):=hl;have MD:∀p q,m<=p->p<q->q<b->T (σ p) (σ q):=hr;have lL:∀p q,a<=p->p<s->d+m-s<=q->q<b->T (σ p) (σ q):=λp q h1 h2 h3 h4=>by
  rcases h.aK with h5|⟨_,h5⟩
  ·exfalso;omega
  ·have h6:T (σ (s-1)) (σ q):=by
    by_cases e:q=d+m-s
    ·rw[e];exact h5
    ·exact ht _ _ _ h5 (MD _ _ ah ah h4)
   by_cases e:p=s-1
   ·rw[e];exact h6
   ·exact ht _ _ _ (MC p (s-1) h1 ah ah) h6
 have dQ:∀p q,s<=p->p<m->m<=q->q<d+m-s->T (σ q) (σ p):=λp q h1 h2 h3 h4=>by
  rcases h.e7 with h5|h5
  ·exfalso;omega
  ·have h6:T (σ q) (σ s):=by
    by_cases e:q=d+m-1-s
    ·rw[e];exact h5
    ·exact ht _ _ _ (MD q (d+m-1-s) h3 ah ah) h5
   by_cases e:p=s
   ·rw[e];exact h6
   ·exact ht _ _ _ h6 (MC s p ah ah h2)
 intro p q h1 h2 h3 h4;have hp:=h.at_ p;have hq:=h.at_ q;by_cases e:p<s
 ·rw[hp.1 h1 e];by_cases f:q<d+m-s
  ·rw[hq.2.2.1 h3 f];exact MC _ _ h1 ah ah
  ·rw[hq.2.2.2 ah];exact lL _ _ h1 e ah h4
 ·rw[hp.2.1 ah h2];by_cases f:q<d+m-s
  ·rw[hq.2.2.1 h3 f];exact dQ _ _ ah ah ah ah
  ·rw[hq.2.2.2 ah];exact MD _ _ ah ah h4
theorem jD.left (h:jD (fB c ys) σ a m b d s s) (hS:n5 c ys σ a m b) (h1:a<s) (h2:s<d):n5 c ys (λx=>σ (ro s m (d+m-s) x)) a s d:=by
 have he:=h.ends;have hlt:=hS.lt;refine⟨⟨h1,h2,by omega⟩,λp q h3 h4 h5=>?_,λp q h3 h4 h5=>?_,λp q h3 h4 h5 h6=>?_⟩
 ·try simp only
  rw[(h.at_ p).1 h3 ah,(h.at_ q).1 ah h5];exact hS.l _ _ h3 h4 ah
 ·try simp only
  rw[(h.at_ p).2.1 h3 ah,(h.at_ q).2.1 ah h5];exact hS.r _ _ ah ah ah
 ·try simp only
  rw[(h.at_ p).1 h3 h4,(h.at_ q).2.1 h5 h6];exact hS.d _ _ h3 ah ah ah
theorem jD.c8 (h:jD (fB c ys) σ a m b d s s) (hS:n5 c ys σ a m b) (h1:¬(a<s/\s<d)):jM (fB c ys) (λx=>σ (ro s m (d+m-s) x)) a d:=by
 have he:=h.ends;intro p q h3 h4 h5;try simp only
 by_cases e:s=a
 ·rw[(h.at_ p).2.1 ah ah,(h.at_ q).2.1 ah h5];exact hS.r _ _ ah ah ah
 ·rw[(h.at_ p).1 h3 ah,(h.at_ q).1 ah ah];exact hS.l _ _ h3 h4 ah
theorem jD.right (h:jD (fB c ys) σ a m b d s s) (hS:n5 c ys σ a m b) (h1:d<d+m-s) (h2:d+m-s<b):n5 c ys (λx=>σ (ro s m (d+m-s) x)) d (d+m-s) b:=by
 have he:=h.ends;have hlt:=hS.lt;refine⟨⟨h1,h2,by omega⟩,λp q h3 h4 h5=>?_,λp q h3 h4 h5=>?_,λp q h3 h4 h5 h6=>?_⟩
 ·try simp only
  rw[(h.at_ p).2.2.1 h3 ah,(h.at_ q).2.2.1 ah h5];exact hS.l _ _ ah ah ah
 ·try simp only
  rw[(h.at_ p).2.2.2 h3,(h.at_ q).2.2.2 ah];exact hS.r _ _ ah h4 h5
 ·try simp only
  rw[(h.at_ p).2.2.1 h3 h4,(h.at_ q).2.2.2 h5];exact hS.d _ _ ah ah ah h6
theorem jD.bl (h:jD (fB c ys) σ a m b d s s) (hS:n5 c ys σ a m b) (h1:¬(d<d+m-s/\d+m-s<b)):jM (fB c ys) (λx=>σ (ro s m (d+m-s) x)) d b:=by
 have he:=h.ends;intro p q h3 h4 h5;try simp only
 by_cases e:d+m-s=b
 ·rw[(h.at_ p).2.2.1 h3 ah,(h.at_ q).2.2.1 ah ah];exact hS.l _ _ ah ah ah
 ·rw[(h.at_ p).2.2.2 ah,(h.at_ q).2.2.2 ah];exact hS.r _ _ ah h4 h5
theorem n5.keep (h:n5 c ys σ a m b) (e:∀x,a<=x->x<b->dU x=σ x):n5 c ys dU a m b:=by
 have hlt:=h.lt;refine⟨hlt,λp q h3 h4 h5=>?_,λp q h3 h4 h5=>?_,λp q h3 h4 h5 h6=>?_⟩
 ·rw[e p ah ah,e q ah ah];exact h.l _ _ h3 h4 h5
 ·rw[e p ah ah,e q ah ah];exact h.r _ _ h3 h4 h5
 ·have e1:=e p ah ah;have e2:=e q ah ah;rw[e1,e2];exact h.d _ _ h3 h4 h5 h6
structure Du (c:α->α->Int) (ys:List α) (σ:Nat->Nat) (a b:Nat) (us:List α) (dU:Nat->Nat):Prop where
 pl:fT ys (λx=>σ (dU x)) us
 wi:f_ dU a b
 kz:jM (fB c ys) (λx=>σ (dU x)) a b
theorem jD.merge {Fs Ft:Nat->Nat} (hT:Bq (fB c ys)) (h:jD (fB c ys) σ a m b d s s) (hS:n5 c ys σ a m b) (h1:f_ Fs a d) (yV:jM (fB c ys) (λx=>σ (ro s m (d+m-s) (Fs x))) a d) (h2:f_ Ft d b) (IK:jM (fB c ys) (λx=>σ (ro s m (d+m-s) (Fs (Ft x)))) d b) (hp:fT ys (λx=>σ (ro s m (d+m-s) (Fs (Ft x)))) us):
  Du c ys σ a b us (λx=>ro s m (d+m-s) (Fs (Ft x))):=by
 have he:=h.ends;have hm:=h.mid;refine⟨hp,?_,λp q h3 h4 h5=>?_⟩
 ·exact((vR ah ah).mono he.1 he.2.2.2.2.2.1).comp ((h1.mono (Nat.le_refl _) ah).comp (h2.mono ah (Nat.le_refl _)))
 ·try simp only
  by_cases e:q<d
  ·rw[h2.out p ah,h2.out q ah];exact yV p q h3 h4 e
  ·by_cases f:p<d
   ·rw[h2.out p ah];have i1:=h1.lK p h3 f;have i2:=h2.lK q ah h5;rw[h1.out (Ft q) ah];exact h.Gd hT hS.l hS.r _ _ i1.1 i1.2 i2.1 i2.2
   ·exact IK p q ah h4 h5
theorem TL (hc:mA c P) (hP:∀x∈ys,P x):Bq (fB c ys):=λ_ _ _ h1 h2=>Lc hc hP h1 h2
structure mh (c:α->α->Int) (ys:List α) (σ:Nat->Nat) (a e:Nat):Prop where
 lK:∀x,a<=x->x<e->a<=σ x/\σ x<e
 kz:jM (fB c ys) σ a e
theorem mh.nil (h:b<=a):mh c ys σ a b:=⟨λx h1 h2=>by omega,λp q h1 h2 h3=>by omega⟩
theorem mh.keep (h:mh c ys σ a b) (e:∀x,a<=x->x<b->dU x=x):mh c ys (λx=>σ (dU x)) a b:=
 ⟨λx h1 h2=>by show a<=σ (dU x)/\σ (dU x)<b;rw[e x h1 h2];exact h.lK x h1 h2,λp q h1 h2 h3=>by
  show fB c ys (σ (dU p)) (σ (dU q));rw[e p h1 ah,e q ah h3];exact h.kz p q h1 h2 h3⟩
theorem n5.Tf (hc:mA c P) (hP:∀x∈ys,P x) (hL:fT ys σ zs) (h1:mh c ys σ a m) (h2:mh c ys σ m b) (hl:a<m) (hr:m<b) (hb:b<=ys.length):n5 c ys σ a m b:=by
 refine⟨⟨hl,hr,hb⟩,h1.kz,h2.kz,λp q h3 h4 h5 h6=>?_⟩;have i1:=h1.lK p h3 h4;have i2:=h2.lK q h5 h6;have b1:=(hL.at_ p ah).1;have b2:=(hL.at_ q ah).1;have p1:=hP _ (List.getElem_mem b1);have p2:=hP _ (List.getElem_mem b2);by_cases e:c ys[σ q] ys[σ p]<0
 ·exact .inr ⟨b2,b1,e⟩
 ·have a1:=hc.anti _ _ p1 p2;have a2:=hc.anti _ _ p2 p1;refine .inl ⟨b1,b2,?_⟩;by_cases f:c ys[σ p] ys[σ q]<0
  ·exact .inl f
  ·exact .inr ⟨by omega,by omega⟩
theorem Du.seg (h:Du c ys σ a b us dU) (h1:mh c ys σ a m) (h2:mh c ys σ m b) (hm:a<=m/\m<=b):mh c ys (λx=>σ (dU x)) a b:=by
 refine⟨λx h3 h4=>?_,h.kz⟩;have h5:=h.wi.lK x h3 h4;show a<=σ (dU x)/\σ (dU x)<b;by_cases e:dU x<m
 ·have:=h1.lK _ h5.1 e;omega
 ·have:=h2.lK _ ah h5.2;omega
theorem mh.Tg (hL:fT ys σ zs) (hid:∀x,a<=x->σ x=x) (hw:f_ dU a b) (ha:jM (fB c zs) dU a b) (hb:b<=ys.length):mh c ys (λx=>σ (dU x)) a b:=by
 refine⟨λx h1 h2=>?_,λp q h1 h2 h3=>?_⟩
 ·have:=hw.lK x h1 h2;show a<=σ (dU x)/\σ (dU x)<b;rw[hid _ this.1];exact this
 ·have i1:=hw.lK p h1 ah;have i2:=hw.lK q ah h3;show fB c ys (σ (dU p)) (σ (dU q));rw[hid _ i1.1,hid _ i2.1];obtain⟨e1,e2,fA⟩:=ha p q h1 h2 h3;have g1:=hL.get (show dU p<ys.length by omega);have g2:=hL.get (show dU q<ys.length by omega);simp only[hid _ i1.1] at g1;simp only[hid _ i2.1] at g2;rw[g1,g2] at fA;exact⟨by omega,by omega,fA⟩
def xV (c:α->α->Int) (ys:List α) (σ:Nat->Nat) (k:Nat):Prop:=∀k',k'<k->mh c ys σ (k'*20) (k'*20+20)
def zP (c:α->α->Int) (ys:List α) (σ:Nat->Nat) (d n:Nat):Prop:=∀k',mh c ys σ (k'*d) (min (k'*d+d) n)
def qN (c:α->α->Int) (ys:List α) (σ:Nat->Nat) (d n k:Nat):Prop:=(∀k',k'<k->mh c ys σ (k'*(2*d)) (k'*(2*d)+2*d))/\∀k',2*k<=k'->mh c ys σ (k'*d) (min (k'*d+d) n)
theorem xV.zero:xV c ys σ 0:=λk' h=>by omega
theorem xV.next (h:xV c ys σ k) (ha:a=k*20) (hL:fT ys σ zs) (hW:f_ σ 0 a) (hw:f_ dU a (a+20)) (hA:jM (fB c zs) dU a (a+20)) (hb:a+20<=ys.length):xV c ys (λx=>σ (dU x)) (k+1):=by
 intro k' hk;by_cases e:k'=k
 ·subst e;rw[<-ha];exact mh.Tg hL (λx hx=>hW.out x ah) hw hA hb
 ·exact(h k' ah).keep λx h1 h2=>hw.out x ah
theorem xV.all (h:xV c ys σ k) (ha:a=k*20) (hL:fT ys σ zs) (hW:f_ σ 0 a) (hn:n=ys.length) (hw:f_ dU a n) (hA:jM (fB c zs) dU a n) (h1:a<=n) (h2:n<a+20):zP c ys (λx=>σ (dU x)) 20 n:=by
 intro k';rcases Nat.lt_trichotomy k' k with e|e|e
 ·rw[show min (k'*20+20) n=k'*20+20 by omega];exact(h k' e).keep λx h1 h2=>hw.out x ah
 ·subst e;rw[<-ha,show min (a+20) n=n by omega];exact mh.Tg hL (λx hx=>hW.out x ah) hw hA ah
 ·exact mh.nil ah
theorem zP.mix (h:zP c ys σ d n):qN c ys σ d n 0:=⟨λk' hk=>by omega,λk' _=>h k'⟩
theorem zP.done (h:zP c ys σ d n) (hn:n<=d):jM (fB c ys) σ 0 n:=by
 have:=h 0;rw[Nat.zero_mul,show min (0+d) n=n by omega] at this;exact this.kz
theorem IL (k d:Nat):2*k*d=k*(2*d):=by rw[Nat.mul_comm 2 k,Nat.mul_assoc]
theorem qN.fst (h:qN c ys σ d n k) (ha:a=k*(2*d)) (hn:a+d<=n):mh c ys σ a (a+d):=by
 have:=h.2 (2*k) (Nat.le_refl _);rw[IL,<-ha,show min (a+d) n=a+d by omega] at this;exact this
theorem qN.snd (h:qN c ys σ d n k) (ha:a=k*(2*d)):mh c ys σ (a+d) (min (a+2*d) n):=by
 have:=h.2 (2*k+1) ah;rw[Nat.succ_mul,IL,<-ha,show a+d+d=a+2*d by omega] at this;exact this
theorem qN.next (h:qN c ys σ d n k) (ha:a=k*(2*d)) (hn:a+2*d<=n) (hq:Du c ys σ a (a+2*d) us dU):qN c ys (λx=>σ (dU x)) d n (k+1):=by
 have h1:=h.fst ha ah;have h2:=h.snd ha;rw[show min (a+2*d) n=a+2*d by omega] at h2;refine⟨λk' hk=>?_,λk' hk=>?_⟩
 ·by_cases e:k'=k
  ·subst e;rw[<-ha];exact hq.seg h1 h2 ah
  ·have: (k'+1)*(2*d)<=k*(2*d):=Nat.mul_le_mul_right _ ah;rw[Nat.succ_mul] at this;exact(h.1 k' ah).keep λx h3 h4=>hq.wi.out x ah
 ·have: (2*k+2)*d<=k'*d:=Nat.mul_le_mul_right _ ah;rw[Nat.add_mul,IL] at this;exact(h.2 k' ah).keep λx h3 h4=>hq.wi.out x ah
theorem qN.beyond (ha:a=k*(2*d)) (hn:n<a+2*d) {k':Nat} (hk:k<k'):n<=k'*(2*d):=by
 have: (k+1)*(2*d)<=k'*(2*d):=Nat.mul_le_mul_right _ ah;rw[Nat.succ_mul] at this;omega
theorem qN.last (h:qN c ys σ d n k) (ha:a=k*(2*d)) (hn:a+d<n) (hn2:n<a+2*d) (hq:Du c ys σ a n us dU):zP c ys (λx=>σ (dU x)) (2*d) n:=by
 have h1:=h.fst ha ah;have h2:=h.snd ha;rw[show min (a+2*d) n=n by omega] at h2;intro k';rcases Nat.lt_trichotomy k' k with e|e|e
 ·have: (k'+1)*(2*d)<=k*(2*d):=Nat.mul_le_mul_right _ ah;rw[Nat.succ_mul] at this;rw[show min (k'*(2*d)+2*d) n=k'*(2*d)+2*d by omega];exact(h.1 k' e).keep λx h3 h4=>hq.wi.out x ah
 ·subst e;rw[<-ha,show min (a+2*d) n=n by omega];exact hq.seg h1 h2 ah
 ·have:=qN.beyond ha hn2 e;exact mh.nil ah
theorem qN.rest (h:qN c ys σ d n k) (ha:a=k*(2*d)) (hn:n<=a+d) (ha2:a<=n):zP c ys σ (2*d) n:=by
 have h1:=h.2 (2*k) (Nat.le_refl _);rw[IL,<-ha,show min (a+d) n=n by omega] at h1;intro k';rcases Nat.lt_trichotomy k' k with e|e|e
 ·have: (k'+1)*(2*d)<=k*(2*d):=Nat.mul_le_mul_right _ ah;rw[Nat.succ_mul] at this;rw[show min (k'*(2*d)+2*d) n=k'*(2*d)+2*d by omega];exact h.1 k' e
 ·subst e;rw[<-ha,show min (a+2*d) n=n by omega];exact h1
 ·have: (k+1)*(2*d)<=k'*(2*d):=Nat.mul_le_mul_right _ ah;rw[Nat.succ_mul] at this;exact mh.nil ah
end
end Go.K
set_option maxHeartbeats 4000000
namespace Go.K
open aZ Go.Proofs Go.Shelf Go.Sort
section
variable {P:Program} {ρ:Ren} {β:Type} [aZ β] {cf:β->β->Int} {w:World} {C:Nat->Nat} {j g0:Nat} {e:TypeId} {v:Value} {ys:List β}
theorem c7 {α:Type} [Inhabited α] {enc:α->Value} {d:Array α} {cs:Array Value} {t:Nat} (h:t<d.size) (h2:t<cs.size): (putCells enc 0 d cs)[t]?=some (enc d[t]!):=by
 unfold putCells;rw[Array.getElem?_mapIdx,Array.getElem?_eq_getElem h2,Option.map_some,if_pos ⟨Nat.zero_le _,by omega⟩,Nat.sub_zero]
theorem Ti (L:SlLaysF.n6 P ρ) (ME:aZ.agg β=false) (xW:mA cf (λ_=>True)) (hd:∀i k (hi:i<ys.length) (hk:k<ys.length),i≠k->cf ys[i] ys[k]≠0)
  (eg:∀args w,(callFunc g0 args).run P w=.ok (.enter g0 args) w)
  (hcmp:∀W,ax [j] w C W C->aL W C->∀x∈ys,∀y∈ys,∀vx vy,av W (au C) x vx->av W (au C) y vy->Calls P g0 #[vx,vy] W (bH λu w'=>u=.int .i64 (cf x y)/\ax [] W C w' C))
  (hj:j≠0) (hF:aL w C) (ho:bg w C j e v ys) (hlen:ys.length<=140737488355328):
  Calls P (ρ.f 6) #[v,.func (.func g0) #[] #[]] w (bH λu w'=>u=.tuple #[]/\∃zs,fH cf ys zs/\ax [j] w C w' C/\bg w' C j e v zs/\aL w' C):=by
 have s1:sz β=1:=aZ.flat ME;obtain⟨hown,kr⟩:=ho;have Iw:fH cf ([]:List β) []:=fH.self λi j hij hj=>by simp at hj
 rcases hown with⟨rfl,rfl⟩|⟨g,cap,cs,rfl,hg,hc,hcap,h2,h3⟩
 ·refine(AnyF.slices_SortFunc_none (P:=P) (ρ:=ρ) {L with} none 0 (.func (.func g0) #[] #[]) w).mono ?_;rintro e' w' ⟨rfl,rfl⟩;exact⟨_,rfl,rfl,[],Iw,ax.refl _ _ _,bg.nil,hF⟩
 ·have qi:C g=j:=kr g rfl;obtain⟨n,hn⟩:∃n,n=ys.length:=⟨_,rfl⟩
  rcases Nat.eq_zero_or_pos n with hz|hpos
  ·have hy:ys=[]:=List.length_eq_zero_iff.1 ah;subst hy;refine(AnyF.slices_SortFunc_none (P:=P) (ρ:=ρ) {L with} (some ⟨g,0,none⟩) cap (.func (.func g0) #[] #[]) w).mono ?_;rintro e' w' ⟨rfl,rfl⟩;exact⟨_,rfl,rfl,[],Iw,ax.refl _ _ _,⟨.inr ⟨g,cap,cs,rfl,hg,hc,hcap,h2,h3⟩,kr⟩,hF⟩
  rw[s1] at h2 h3;have hcs:n<=cs.size:=by omega
  subst hn
  haveI:Inhabited (Fin ys.length):=⟨⟨0,hpos⟩⟩
  obtain⟨enc,Ew⟩:∃enc:Fin ys.length->Value,enc=λi=>cs[i.val]'ah:=⟨_,rfl⟩
  have tV:∀i:Fin ys.length,rep w.heap (au C) ys[i.val] [enc i]:=λi=>by
   have:=h3 i.val i.isLt;have e1:dh cs (i.val*1) 1=[enc i]:=by
    rw[Ew];simp only[dh,Nat.mul_one];rw[List.drop_eq_getElem_cons (by simpa using(show i.val<cs.size by omega))];simp
   rwa [e1] at this
  have h1:OneCell enc:=λi=>aZ.one (tV i) _ List.mem_cons_self;obtain⟨wB,Tj⟩:∃wB:Fin ys.length->Fin ys.length->Int,wB=λi k=>cf ys[i.val] ys[k.val]:=⟨_,rfl⟩
  have hlt:∀i k:Fin ys.length,(ltOf wB) i k=decide (cf ys[i.val] ys[k.val]<0):=λi k=>by unfold ltOf;rw[Tj]
  have anti:∀x y:β,cf x y<0↔0<cf y x:=λx y=>xW.anti x y trivial trivial;have sv:∀x:β,cf x x=0:=λx=>by have:=anti x x;omega
  have hO:SWO (ltOf wB):=⟨λx=>by rw[hlt,sv];rfl,λx y z h h'=>by
    rw[hlt] at*;simp only[decide_eq_true_eq] at*;exact xW.Q6 trivial trivial trivial h ah,λx y z h h'=>by
    rw[hlt] at*;simp only[decide_eq_false_iff_not] at*;have a:=anti ys[x.val] ys[y.val];have a2:=anti ys[y.val] ys[x.val];have b:=anti ys[y.val] ys[z.val];have b2:=anti ys[z.val] ys[y.val];have c:=xW.trans ys[z.val] ys[y.val] ys[x.val] trivial trivial trivial ah ah;have d:=anti ys[x.val] ys[z.val];omega⟩
  have hT:∀x y,(ltOf wB) x y=false->(ltOf wB) y x=false->x=y:=λx y h h'=>by
   rw[hlt] at h h';simp only[decide_eq_false_iff_not] at h h';apply Classical.byContradiction;intro hxy;have h2:=hd x.val y.val x.isLt y.isLt (λe=>hxy (Fin.ext e));have:=anti ys[y.val] ys[x.val];omega
  obtain⟨d,MF⟩:∃d:Array (Fin ys.length),d=(List.finRange ys.length).toArray:=⟨_,rfl⟩
  have hds:d.size=ys.length:=by rw[MF];simp
  have o6:∀(i:Nat) (hi:i<d.size),(d[i]'hi).val=i:=λi hi=>by subst MF;simp
  have Tk:∀(m:Nat) (dk:Array (Fin ys.length)) (os:Array Obj),ax [j] w C (sortWorld enc w g 0 m dk os) C:=λm dk os=>by
   show ax [j] w C (grow (putRow enc (Sort.ahead w m) g 0 dk) os) C;refine⟨⟨rfl,rfl,rfl,by simp[grow,putRow,mapBlock,Sort.ahead],λb hb hnb=>?_,Nat.le_add_right _ _⟩,λ_ _=>rfl⟩;have K7:g≠b:=λe=>hnb (by rw[<-e,qi];simp);simp only[grow,putRow,mapBlock,Sort.ahead];rw[Array.getElem?_append_left (by simpa using hb),Array.getElem?_modify,if_neg K7]
  have K6:CmpLays1 P g0 #[] enc wB g 0 d.size w:=λm os dk _ x y=>by
   have hst:=Tk m dk os;have hx:av w (au C) ys[x.val] (enc x):=tP (tV x) ME;have hy:av w (au C) ys[y.val] (enc y):=tP (tV y) ME;have h:=hcmp _ hst (hF.st hst) _ (List.getElem_mem _) _ (List.getElem_mem _) _ _ (hx.st hst sV) (hy.st hst sV);rw[Array.append_empty];refine h.mono ?_;rintro e' w' ⟨u,rfl,rfl,hx⟩;exact⟨by rw[Tj],QN (hx.ext.mono (λb _ hb=>by simp at hb))⟩
  have hH:Holds enc w g 0 d:=λt ht=>by
   have ht2:t<cs.size:=by omega
   refine⟨?_,by simp[World.frozen?,hc]⟩;rw[cell_of_row w g (0+t) cs e (0,0) hc,Nat.zero_add,Array.getElem?_eq_getElem ht2,getElem!_pos d t ht,Ew];simp only[o6 t ht]
  have hsort:=Any.slices_SortFunc_total L enc h1 wB hO g0 #[] g 0 cap d w eg K6 hH (rX hc) (by rw[hds];omega) hT;rw[hds] at hsort;refine hsort.mono ?_;rintro e' w' ⟨rfl,m,os,hw⟩;obtain⟨S,hS⟩:∃S,S=d.toList.mergeSort λx y=>!(ltOf wB) y x:=⟨_,rfl⟩
  rw[<-hS] at hw;have ud:S.Perm (List.finRange ys.length):=by
   rw[hS,MF];exact List.mergeSort_perm _ _
  have Tl:S.length=ys.length:=by rw[ud.length_eq,List.length_finRange]
  have hst:ax [j] w C w' C:=by rw[hw];exact Tk m _ os
  have ku:w'.heap[g]?=some (.cells (putCells enc 0 S.toArray cs) e (0,0)):=by
   rw[hw];show(grow (putRow enc (Sort.ahead w m) g 0 S.toArray) os).heap[g]?=_;simp only[grow,putRow,mapBlock,Sort.ahead];rw[Array.getElem?_append_left (by simpa using rX hc),Array.getElem?_modify,if_pos rfl,hc];rfl
  have qG:S.Pairwise λa b=>(!(ltOf wB) b a)=true:=by
   rw[hS];refine List.pairwise_mergeSort (λi k l h h'=>?_) (λi k=>?_) _
   ·rw[hlt] at*;simp only[Bool.not_eq_true',decide_eq_false_iff_not] at*;have a:=anti ys[k.val] ys[i.val];have a2:=anti ys[i.val] ys[k.val];have b:=anti ys[l.val] ys[k.val];have b2:=anti ys[k.val] ys[l.val];have c:=xW.trans ys[i.val] ys[k.val] ys[l.val] trivial trivial trivial ah ah;have d:=anti ys[l.val] ys[i.val];omega
   ·rw[hlt,hlt];simp only[Bool.or_eq_true,Bool.not_eq_true',decide_eq_false_iff_not];have a:=anti ys[k.val] ys[i.val];have a2:=anti ys[i.val] ys[k.val];omega
  have hblk:∀b,b<w.heap.size->¬au C b->w'.heap[b]?=w.heap[b]?:=λb hb hnb=>hst.ext.block b hb (λyY=>hnb (by
   simp only[List.mem_singleton] at yY;unfold au;rw[yY];exact hj))
  have hkeep:∀i:Fin ys.length,rep w'.heap (au C) ys[i.val] [enc i]:=λi=>aZ.keep (tV i) hblk;have jv:S.Nodup:=ud.nodup_iff.2 (List.nodup_finRange _);refine⟨_,rfl,rfl,S.map (λi=>ys[i.val]),fH.LR ud ?_,hst,⟨.inr ⟨g,cap,_,by rw[List.length_map,Tl],hg,ku,by rw[List.length_map,Tl];exact hcap,?_,λi hi=>?_⟩,kr⟩,hF.st hst⟩
  ·refine(qG.and (List.nodup_iff_pairwise_ne.1 jv)).imp λ{i k} ⟨h,hne⟩=>⟨i.isLt,k.isLt,.inl ?_⟩
   rw[hlt] at h;simp only[Bool.not_eq_true',decide_eq_false_iff_not] at h;have h2:=hd i.val k.val i.isLt k.isLt (λe=>hne (Fin.ext e));have a:=anti ys[k.val] ys[i.val];have a2:=anti ys[i.val] ys[k.val];omega
  ·simp only[putCells,Array.size_mapIdx];rw[s1];exact h2
  ·have hi2:i<S.length:=by rwa [List.length_map] at hi
   rw[s1,List.getElem_map];have e1:dh (putCells enc 0 S.toArray cs) (i*1) 1=[enc S[i]]:=by
    have hg1:=c7 (enc:=enc) (d:=S.toArray) (cs:=cs) (t:=i) (by simpa using hi2) ah;have Tm:i<(putCells enc 0 S.toArray cs).size:=by simp only[putCells,Array.size_mapIdx];omega
    rw[Array.getElem?_eq_getElem Tm,Option.some.injEq] at hg1;simp only[dh,Nat.mul_one];rw[List.drop_eq_getElem_cons (by simpa using Tm)];simp only[List.take_succ_cons,List.take_zero,Array.getElem_toList,hg1];rw[getElem!_pos _ i (by simpa using hi2)];simp
   rw[e1];exact hkeep S[i]
end
end Go.K
namespace Go.K
open aZ
theorem AL.more {m:Nat} {J:Nat->Nat->Prop} {pt:Nat->Int} {kM s1 s2 s3:Nat->Bool} {j:Nat} (h:AL m J pt kM s1) (hs2:∀q,s2 q=if j=q then true else s1 q) (h3:AL m J pt s2 s3) (hn:pt j≠-1) (hrow:∀j',j'<m->J (pt j).toNat j'->s3 j'=true):AL m J pt kM s3:=by
 have up:∀q,q<m->s1 q=true->s3 q=true:=λq hq e=>h3.up q hq (by rw[hs2];split<;>first|rfl|exact e);refine⟨λq hq e=>up q hq (h.up q hq e),λq hq fA e0=>?_⟩;cases e2:s2 q with
 |true=>
  rw[hs2] at e2;split at e2
  ·rename_i e;subst e;exact⟨hn,hrow⟩
  ·obtain⟨a,b⟩:=h.full q hq e2 e0;exact⟨a,λj' hj' hJ=>up j' hj' (b j' hj' hJ)⟩
 |false=>exact h3.full q hq fA e2
section
variable {P:Program} {N:Nat} {env:Env} {w:World} {x:Operand} {t u:TypeId}
end
def MG (m:Nat) (st:Nat->Int) (us:List Bool) (k:Nat):Prop:=∀j:Nat,j<m->(YA us j=true↔∃q,q<k/\st q=j)
section
variable {n m k:Nat} {wt:Nat->Nat->Int} {U V:Nat->Int} {st:Nat->Int} {us:List Bool}
theorem MG.skip (h:MG m st us k) (hn:st k<0):MG m st us (k+1):=λj hj=>by
 rw[h j hj];exact⟨λ⟨q,a,b⟩=>⟨q,by omega,b⟩,λ⟨q,a,b⟩=>⟨q,by
  rcases Nat.lt_or_eq_of_le (Nat.le_of_lt_succ a) with h1|h1
  ·exact h1
  ·subst h1;omega,b⟩⟩
end
theorem Br {P:Program} {f:FuncId} {N:Nat} {k:List Item} {env:Env} {w:World} {R:Value->World->Prop} {c:Code} {fn:Func} {t u r:Nat} {v x y:Value} (hc:c=.ret) (hf:P.funcs[f]?=some fn) (hres:fn.results=#[.tmp t,.tmp u,.tmp r]) (hv:look env t=some v) (hx:look env u=some x) (hy:look env r=some y)
  (hR:R (.tuple #[v,x,y]) w):Run P f N (.code c::k) env w R:=λa ha=>by
 subst hc;refine Ao hf ha.defers ?_ hR;have h1:=ha.slot t v hv;have h2:=ha.slot u x hx;have h3:=ha.slot r y hy;simp only[results,hres];simp[h1,h2,h3,Sem.run,pure,Array.getD_eq_getD_getElem?]
section
variable {P:Program} {t ti:TypeId}
theorem MH {N:Nat} {env:Env} {w:World} {parts:Array (Nat×Operand)} {zs cs:List Value} {eo:List (Nat×List Value)} (ht:P.underlying t=some (.array 2 ti)) (hz:vB P t=some zs) (hs: (P.info? ti).isSome=true) (hc:P.cellsOf ti=1)
  (hq:tU env parts.toList eo) (hf:xg (λi=>some (i*1,1)) zs eo=some cs):cZ P N env (.build t parts) w (.agg cs.toArray):=mk' λρ hρ o ho=>by
 obtain⟨i0,hs⟩:=Option.isSome_iff_exists.1 hs;obtain⟨z,h1,h2⟩:=D_ hz w;have hmap:=tU.map hρ hq;have nL:=fill_eq (λi=>some (i*1,1)) (parts.toList.map λp=>(p.1,ρ p.2)) eo zs cs (by rw[<-hmap]) hf;have KA:Instr.fill (λi=>some (i*1,1)) z.cells (parts.map λx=>(x.1,ρ x.2)).toList=some cs.toArray:=by
  rw[h2];have: (parts.map λx=>(x.1,ρ x.2)).toList=parts.toList.map λp=>(p.1,ρ p.2):=by simp
  rw[this,<-nL]
 unfold execOp;rw[ho];simp only[Instr.build,Sem.run_bind,h1,Result.andThen_ok,run_underlying ht,run_sizeOf w hs,hc];rw[show(parts.map λx=>match x with|(i,x)=>(i,ρ x)).toList=(parts.map λx=>(x.1,ρ x.2)).toList from rfl,KA];rfl
end
section
variable {n m:Int} {l:List Edge}
end
end Go.K
namespace Go.K
theorem Tn {x y:ak}:oC x y=decide (er x y):=by rw[Bool.eq_iff_iff,decide_eq_true_iff,ET];rfl
theorem Cg {l:List aD} {r:ak}:r∈mL l↔r∈aO l:=by
 rw[jB];unfold mL;simp only[List.mem_flatMap,List.mem_cons,List.not_mem_nil,or_false]
theorem dz (l:List aD):uu (mL l)=aO l:=by
 obtain⟨h1,h2⟩:=LS (mL l) [] List.Pairwise.nil;refine Ht (h1.imp λ{x y} h=>by rw[Tn] at h;exact of_decide_eq_true h) (xu l) λr=>?_;have:=h2 r;unfold uu;rw[this];simp[Cg]
theorem z1 {l:List aD} {i:Nat} (h:i<l.length):uu (mL (l.take (i+1)))=fM (fM (uu (mL (l.take i))) l[i].A) l[i].B:=by
 rw[QE h,show[l[i].A,l[i].B]=[l[i].A]++[l[i].B] from rfl,<-List.append_assoc,R7,R7]
structure uE (l:List aD) (low:List Nat):Prop where
 len:low.length=(aO l).length
 le:∀i (h:i<low.length),low[i]<=i
 same:∀i (h:i<low.length) (h1:i<(aO l).length) (h2:low[i]<(aO l).length),b8 l (aO l)[low[i]]=b8 l (aO l)[i]
theorem uE.start (l:List aD):uE l (List.range (aO l).length):=⟨List.length_range,λi h=>by simp,λi h h1 h2=>by simp⟩
theorem uE.put {l:List aD} {low:List Nat} (h:uE l low) {a b:Nat} {y:aD} (hy:y∈l) (ha:a<(aO l).length) (hb:b<(aO l).length) (ea: (aO l)[a]=y.A) (eb: (aO l)[b]=y.B) (jV:a<low.length) (hb':b<low.length) (hne:low[a]≠low[b]):
  uE l ((low.set a (min low[a] low[b])).set b (min low[a] low[b]))/\((low.set a (min low[a] low[b])).set b (min low[a] low[b])).sum<low.sum:=by
 have hl:=h.len;have la:=h.le a jV;have lb:=h.le b hb';have hs:b8 l (aO l)[a]=b8 l (aO l)[b]:=by rw[ea,eb];exact xw hy
 have sa:=h.same a jV ha ah;have sb:=h.same b hb' hb ah;have hab:a≠b:=λe=>by subst e;exact hne rfl
 refine⟨⟨by simp only[List.length_set];exact hl,λi hi=>?_,λi hi h1 h2=>?_⟩,?_⟩
 ·simp only[List.length_set] at hi;simp only[List.getElem_set];split
  ·subst i;exact Nat.le_trans (Nat.min_le_right _ _) lb
  ·split
   ·subst i;exact Nat.le_trans (Nat.min_le_left _ _) la
   ·exact h.le i hi
 ·simp only[List.length_set] at hi;have hm:∀(h3:min low[a] low[b]<(aO l).length),b8 l (aO l)[min low[a] low[b]]=b8 l (aO l)[a]:=λh3=>by
   rcases Nat.le_total low[a] low[b] with e|e
   ·simp only[Nat.min_eq_left e];exact sa
   ·simp only[Nat.min_eq_right e];rw[sb,hs]
  have key:∀(n:Nat) (h3:n<(aO l).length),n=(if b=i then min low[a] low[b] else if a=i then min low[a] low[b] else low[i])->b8 l (aO l)[n]=b8 l (aO l)[i]:=λn h3 e=>by
   split at e
   ·rename_i e2;subst e2;subst e;rw[hm h3,hs]
   ·split at e
    ·rename_i e2;subst e2;subst e;exact hm h3
    ·subst e;exact h.same i hi h1 h3
  exact key _ h2 (by simp only[List.getElem_set])
 ·have Tp:∀(l:List Nat) (i v:Nat) (hi:i<l.length),(l.set i v).sum+l[i]=l.sum+v:=by
   intro l
   induction l with
   |nil=>intro i v hi;simp at hi
   |cons x l ih=>
    intro i v hi;cases i with
    |zero=>simp;omega
    |succ i=>simp only[List.set_cons_succ,List.sum_cons,List.getElem_cons_succ];have:=ih i v (by simpa using hi);omega
  have e1:=Tp low a (min low[a] low[b]) jV;have e2:=Tp (low.set a (min low[a] low[b])) b (min low[a] low[b]) (by simpa using hb');rw[List.getElem_set,if_neg hab] at e2;have:=Nat.min_le_left low[a] low[b];have:=Nat.min_le_right low[a] low[b];rcases Nat.lt_or_gt_of_ne hne with e|e
  ·rw[Nat.min_eq_left (Nat.le_of_lt e)] at*;omega
  ·rw[Nat.min_eq_right (Nat.le_of_lt e)] at*;omega
def Fix (l ys:List aD) (low:List Nat):Prop:=∀y∈ys,∀a b (ha:a<(aO l).length) (hb:b<(aO l).length),(aO l)[a]=y.A->(aO l)[b]=y.B->low.getD a 0=low.getD b 0
theorem Tq {l:List aD} {r:ak} (h:r∈aO l):∃a,∃ha:a<(aO l).length,(aO l)[a]=r:=by
 obtain⟨a,ha,e⟩:=List.mem_iff_getElem.1 h;exact⟨a,ha,e⟩
theorem MI {α:Type} {l:List α} (h:l.Nodup) {i j:Nat} (hi:i<l.length) (hj:j<l.length) (e:l[i]=l[j]):i=j:=by
 rcases Nat.lt_trichotomy i j with h1|h1|h1
 ·exact absurd e (List.pairwise_iff_getElem.1 h i j hi hj h1)
 ·exact h1
 ·exact absurd e.symm (List.pairwise_iff_getElem.1 h j i hj hi h1)
open Classical in
theorem Fix.all {l:List aD} {low:List Nat} (h:Fix l l low) {i k:Nat} (hi:i<(aO l).length) (hk:k<(aO l).length) (e:b8 l (aO l)[i]=b8 l (aO l)[k]):low.getD i 0=low.getD k 0:=by
 let p:ak->Nat:=λr=>if h:∃a,∃ha:a<(aO l).length,(aO l)[a]=r then low.getD (Classical.choose h) 0 else 0
 have hp:∀a (ha:a<(aO l).length),p (aO l)[a]=low.getD a 0:=λa ha=>by
  have hx:∃a',∃jV:a'<(aO l).length,(aO l)[a']=(aO l)[a]:=⟨a,ha,rfl⟩
  show(if h:_ then _ else 0)=_;rw[dif_pos hx];obtain⟨h1,h2⟩:=Classical.choose_spec hx;rw[MI (vI l) h1 ha h2]
 have hb:∀x∈l,p x.A=p x.B:=λx hx=>by
  obtain⟨a,ha,ea⟩:=Tq (l:=l) (r:=x.A) (jB.2 ⟨x,hx,.inl rfl⟩);obtain⟨b,hb,eb⟩:=Tq (l:=l) (r:=x.B) (jB.2 ⟨x,hx,.inr rfl⟩);rw[<-ea,<-eb,hp a ha,hp b hb];exact h x hx a b ha hb ea eb
 rw[<-hp i hi,<-hp k hk,<-sZ hb (aO l)[i],e,sZ hb]
theorem Ts {l:List aD} {low:List Nat} (hw:uE l low) (hx:Fix l l low) {i:Nat} (hi:i<(aO l).length) (hil:i<low.length):low[i]=i↔∀q∈(aO l).take i,b8 l q≠b8 l (aO l)[i]:=by
 have gq:∀k (hk:k<low.length),low.getD k 0=low[k]:=λk hk=>by rw[List.getD_eq_getElem?_getD,List.getElem?_eq_getElem hk];rfl
 have hl:=hw.len;constructor
 ·intro e q hq hr;obtain⟨k,hk,rfl⟩:=List.mem_iff_getElem.1 hq;rw[List.length_take] at hk;rw[List.getElem_take] at hr;have h1:=hx.all ah hi hr;rw[gq k ah,gq i hil,e] at h1;have:=hw.le k ah;omega
 ·intro h;have h1:=hw.le i hil;have h2:=hw.same i hil hi ah;rcases Nat.lt_or_eq_of_le h1 with h3|h3
  ·exact absurd h2 (h _ (by rw[List.mem_iff_getElem];exact⟨low[i],by rw[List.length_take];omega,by rw[List.getElem_take]⟩))
  ·exact h3
theorem Tt {l:List aD} {low:List Nat} (hw:uE l low) (hx:Fix l l low) {i k:Nat} (hi:i<(aO l).length) (hk:k<(aO l).length) (hil:i<low.length) (aA:k<low.length) (e:low[i]=i):low[k]=i↔b8 l (aO l)[k]=b8 l (aO l)[i]:=by
 have gq:∀k (hk:k<low.length),low.getD k 0=low[k]:=λk hk=>by rw[List.getD_eq_getElem?_getD,List.getElem?_eq_getElem hk];rfl
 constructor
 ·intro h;have:=hw.same k aA hk ah;simp only[h] at this;exact this.symm
 ·intro h;have:=hx.all hk hi h;rw[gq k aA,gq i hil,e] at this;exact this
def tA (l:List aD) (i:Nat):List (List ak):=(eC (b8 l) ((aO l).take i)).map λq=>(aO l).filter λr=>decide (b8 l r=b8 l q)
theorem W1 (l:List aD):tA l (aO l).length=dM l:=by unfold tA;rw[List.take_length];rfl
theorem Tr (l:List aD):tA l 0=[]:=by unfold tA;simp[eC]
theorem B1 (l:List aD) (i:Nat): (tA l i).length<=(aO l).length:=by
 unfold tA;rw[List.length_map];exact Nat.le_trans (AG _ _).length_le rT
theorem B2 {l:List aD} {low:List Nat} (hw:uE l low) (hx:Fix l l low) {i:Nat} (hi:i<(aO l).length) (hil:i<low.length):
  tA l (i+1)=if low[i]=i then tA l i++[(aO l).filter λr=>decide (b8 l r=b8 l (aO l)[i])] else tA l i:=by
 unfold tA;rw[List.take_succ_eq_append_getElem hi,CD];by_cases h:low[i]=i
 ·rw[if_pos h,if_neg]
  ·simp
  ·intro ha;obtain⟨q,hq,e⟩:=Hu.1 ha;exact(Ts hw hx hi hil).1 h q hq e
 ·rw[if_neg h,if_pos];apply Classical.byContradiction;intro hn;exact h ((Ts hw hx hi hil).2 λq hq e=>hn (Hu.2 ⟨q,hq,e⟩))
theorem vk {α:Type} (p:α->Bool) {l:List α} {k:Nat} (h:k<l.length): (l.take (k+1)).filter p=if p l[k]=true then(l.take k).filter p++[l[k]] else(l.take k).filter p:=by
 rw[List.take_succ_eq_append_getElem h,List.filter_append];by_cases e:p l[k]=true<;>simp[e]
end Go.K
namespace Go.K
open aZ
section
variable {l l':List aD} {ds ds':List bC} {ps zs us:List (List ak)}
theorem nS (h:∀a b,jw ds a b=true->jw ds' a b=true) {a b:ak} (hb:eU ds' a b=false):eU ds a b=false:=by
 unfold eU at*;simp only[Bool.or_eq_false_iff] at*;refine⟨⟨hb.1.1,?_⟩,?_⟩
 ·rw[Bool.eq_false_iff];intro e;rw[h _ _ e] at hb;exact absurd hb.1.2 ai
 ·rw[Bool.eq_false_iff];intro e;rw[h _ _ e] at hb;exact absurd hb.2 ai
theorem eG.more (h:∀x∈l,x∈l') (hP:eG l ds ps):eG l' ds ps:=
 ⟨hP.kz,hP.len,hP.bar,λp hp=>RI h (hP.join p hp),hP.vP,hP.heads⟩
theorem eG.free (h:∀a b,jw ds a b=true->jw ds' a b=true) (hP:eG l ds' ps):eG l ds ps:=
 ⟨hP.kz,hP.len,λp hp=>(hP.bar p hp).imp λh1=>nS h h1,hP.join,hP.vP,hP.heads⟩
theorem fH.map {α β:Type} {c:α->α->Int} {c':β->β->Int} {f:α->β} (hc:∀x y,(c' (f x) (f y)<0↔c x y<0)/\(c' (f x) (f y)=0↔c x y=0)) {ys zs:List α} (h:fH c ys zs):fH c' (ys.map f) (zs.map f):=by
 obtain⟨σ,h1,h2,h3⟩:=h;refine⟨σ,⟨by rw[List.length_map,List.length_map,h1.len],λi hi=>?_⟩,by rw[List.length_map];exact h2,λi j a b d=>?_⟩
 ·rw[List.length_map] at hi;have:=h1.at_ i hi;exact⟨by rw[List.length_map];exact this.1,by rw[List.getElem?_map,List.getElem?_map,this.2]⟩
 ·rw[List.length_map] at d;obtain⟨e1,e2,fA⟩:=h3 i j a b d;refine⟨by rw[List.length_map];exact e1,by rw[List.length_map];exact e2,?_⟩;rw[List.getElem_map,List.getElem_map,(hc _ _).1,(hc _ _).2];exact fA
end
def MJ (p:Nat) (x:aD):Prop:=x.A.a=0/\1<=x.A.b/\x.A.b<p/\x.B.a=1/\(x.B.b=x.A.b\/x.B.b=x.A.b+1)/\1<=x.w/\x.w<=9
structure MK (p:Nat) (l:List aD):Prop where
 ok:∀x∈l,MJ p x
 kz:l.Pairwise gZ
 len:l.length=2*(p-1)
 e1:∀i:Nat,1<=i->i<p->∃w,(⟨⟨0,i⟩,⟨1,i⟩,w⟩:aD)∈l
 e2:∀i:Nat,1<=i->i<p->∃w,(⟨⟨0,i⟩,⟨1,i+1⟩,w⟩:aD)∈l
theorem MK.push {p:Nat} {l:List aD} {q1 q2:Nat} (h:MK p l) (hp:1<=p) (h1: (q1:Int)<9) (h2: (q2:Int)<9):MK (p+1) (l++[⟨⟨0,p⟩,⟨1,p⟩,1+q1⟩,⟨⟨0,p⟩,⟨1,p+1⟩,1+q2⟩]):=by
 refine⟨λx hx=>?_,?_,?_,λi h3 h4=>?_,λi h3 h4=>?_⟩
 ·rcases List.mem_append.1 hx with hx|hx
  ·have:=h.ok x hx;unfold MJ at*;omega
  ·simp only[List.mem_cons,List.not_mem_nil,or_false] at hx;rcases hx with rfl|rfl
   ·exact⟨rfl,by show(1:Int)<=p;omega,by show(p:Int)<(p+1:Nat);omega,rfl,.inl rfl,by show(1:Int)<=1+q1;omega,by show(1:Int)+q1<=9;omega⟩
   ·exact⟨rfl,by show(1:Int)<=p;omega,by show(p:Int)<(p+1:Nat);omega,rfl,.inr rfl,by show(1:Int)<=1+q2;omega,by show(1:Int)+q2<=9;omega⟩
 ·rw[List.pairwise_append];refine⟨h.kz,?_,λx hx y hy=>?_⟩
  ·rw[List.pairwise_cons];refine⟨λy hy=>?_,List.pairwise_singleton _ _⟩;simp only[List.mem_singleton] at hy;subst hy;exact .inr ⟨rfl,.inr ⟨rfl,by show(p:Int)<p+1;omega⟩⟩
  ·have h3:=h.ok x hx;unfold MJ at h3;simp only[List.mem_cons,List.not_mem_nil,or_false] at hy;rcases hy with rfl|rfl
   ·exact .inl (.inr ⟨h3.1,h3.2.2.1⟩)
   ·exact .inl (.inr ⟨h3.1,h3.2.2.1⟩)
 ·rw[List.length_append,h.len];simp only[List.length_cons,List.length_nil];omega
 ·by_cases e:i=p
  ·subst e;exact⟨1+q1,by simp⟩
  ·obtain⟨w,hw⟩:=h.e1 i h3 ah;exact⟨w,List.mem_append.2 (.inl hw)⟩
 ·by_cases e:i=p
  ·subst e;exact⟨1+q2,by simp⟩
  ·obtain⟨w,hw⟩:=h.e2 i h3 ah;exact⟨w,List.mem_append.2 (.inl hw)⟩
section
variable {p:Nat} {l:List aD}
end
def pK (R I:Nat) (x:bC):Prop:=0<=x.A.a/\x.A.a<x.B.a/\x.B.a<R/\1<=x.A.b/\x.A.b<=I/\1<=x.B.b/\x.B.b<=I/\1<=x.cR/\x.cR<=2/\1<=x.bz/\x.bz<=4
def sI (r i s k:Nat) (x:bC):Prop:=x.A.a<r\/x.A.a=r/\(x.A.b<i\/x.A.b=i/\(x.B.a<s\/x.B.a=s/\x.B.b<k))
def nC (R I r i s k:Nat) (l:List bC):Prop:=(∀x∈l,pK R I x/\sI r i s k x)/\l.Pairwise zf
structure Tv (R I:Nat) (l:List bC):Prop where
 ok:∀i (h:i<l.length),uj l[i]
 kz:∀i (h:i+1<l.length),lZ l[i] l[i+1]<0
 len:l.length<=4096
theorem nC.nil (R I r i s k:Nat):nC R I r i s k []:=⟨λx h=>by simp at h,List.Pairwise.nil⟩
theorem nC.to {R I r i s k r' i' s' k':Nat} {l:List bC} (h:nC R I r i s k l) (hc:∀x,pK R I x->sI r i s k x->sI r' i' s' k' x):nC R I r' i' s' k' l:=
 ⟨λx hx=>⟨(h.1 x hx).1,hc x (h.1 x hx).1 (h.1 x hx).2⟩,h.2⟩
theorem nC.len {R I r i s k:Nat} {l:List bC} (h:nC R I r i s k l) (hR:R<=4) (hI:I<=4):l.length<=2048:=by
 have hb:∀x∈l,pK R I x:=λx hx=>(h.1 x hx).1;have:=Hz (λx:bC=>(x.A.a*512+(x.A.b-1)*128+x.B.a*32+(x.B.b-1)*8+(x.cR-1)*4+(x.bz-1)).toNat) 2048 l 0 (h.2.imp_of_mem λ{x y} hx hy hxy=>by
  have h1:=hb x hx;have h2:=hb y hy;unfold pK at h1 h2;unfold zf at hxy;show(x.A.a*512+(x.A.b-1)*128+x.B.a*32+(x.B.b-1)*8+(x.cR-1)*4+(x.bz-1)).toNat<(y.A.a*512+(y.A.b-1)*128+y.B.a*32+(y.B.b-1)*8+(y.cR-1)*4+(y.bz-1)).toNat;omega) (λx hx=>by
  have h1:=hb x hx;unfold pK at h1;show 0<=_/\(x.A.a*512+(x.A.b-1)*128+x.B.a*32+(x.B.b-1)*8+(x.cR-1)*4+(x.bz-1)).toNat<2048;omega)
 simpa using this
theorem nC.push {R I r i s k:Nat} {l:List bC} {x:bC} (h:nC R I r i s k l) (hx:pK R I x) (h1:x.A.a=r/\x.A.b=i/\x.B.a=s/\x.B.b=k):nC R I r i s (k+1) (l++[x]):=by
 refine⟨λy hy=>?_,?_⟩
 ·rcases List.mem_append.1 hy with hy|hy
  ·obtain⟨h3,h4⟩:=h.1 y hy;refine⟨h3,?_⟩;unfold sI at*;omega
  ·simp only[List.mem_singleton] at hy;subst hy;exact⟨hx,by unfold sI;omega⟩
 ·rw[List.pairwise_append];refine⟨h.2,by simp,λy hy z hz=>?_⟩;simp only[List.mem_singleton] at hz;subst hz;obtain⟨h3,h4⟩:=h.1 y hy;unfold sI at h4;unfold zf;omega
theorem nC.RM {R I r i s k:Nat} {l:List bC} {x y:bC} (h:nC R I r i s k l) (hx:pK R I x) (hy:pK R I y) (h1:x.A.a=r/\x.A.b=i/\x.B.a=s/\x.B.b=k) (h2:y.A=x.A/\y.B=x.B/\y.cR=x.cR/\x.bz<y.bz):nC R I r i s (k+1) (l++[x]++[y]):=by
 have h3:=h.push hx h1;obtain⟨IK,Tw,agu,agv⟩:=h2;refine⟨λz hz=>?_,?_⟩
 ·rcases List.mem_append.1 hz with hz|hz
  ·exact h3.1 z hz
  ·simp only[List.mem_singleton] at hz;subst hz;exact⟨hy,by unfold sI;rw[IK,Tw];omega⟩
 ·rw[List.pairwise_append];refine⟨h3.2,by simp,λu hu z hz=>?_⟩;simp only[List.mem_singleton] at hz;subst hz;unfold zf;rw[IK,Tw];rcases List.mem_append.1 hu with hu|hu
  ·have h4:=(List.pairwise_append.1 h3.2).2.2 u hu x aF;unfold zf at h4;obtain⟨h5,h6⟩:=h.1 u hu;unfold sI at h6;omega
  ·simp only[List.mem_singleton] at hu;subst hu;omega
theorem nC.fin {R I r i s k:Nat} {l:List bC} (h:nC R I r i s k l) (hR:R<=4) (hI:I<=4):Tv R I l:=by
 refine⟨λi hi=>?_,λi hi=>?_,by have:=h.len hR hI;omega⟩
 ·have h1:=(h.1 _ (List.getElem_mem hi)).1;unfold pK at h1;unfold uj jK mK jt;simp only[Bool.and_eq_true,decide_eq_true_eq];omega
 ·exact YY.1.2 (List.pairwise_iff_getElem.1 h.2 i (i+1) ah hi ah)
section
variable {l l':List aD} {ds:List bC} {zs us ps:List (List ak)}
theorem QT {i:Nat} (h:i<(aP l).length):∀a∈aO (aP l)[i],∀b∈aO (aP l)[i],b8 (aP l)[i] a=b8 (aP l)[i] b:=λa ha b hb=>by
 have key:=λr=>sZ (p:=λr=>if r∈aO (aP l)[i] then some (b8 (aP l)[i] r) else none) (l:=l) (λx hx=>by
  by_cases hp:x∈(aP l)[i]
  ·rw[if_pos (jB.2 ⟨x,hp,.inl rfl⟩),if_pos (jB.2 ⟨x,hp,.inr rfl⟩),xw hp]
  ·rw[if_neg (λhm=>hp ((LD h).2 ⟨hx,((ta h).1 hm).2⟩)),if_neg (λhm=>hp ((LD h).2 ⟨hx,by rw[xw hx];exact((ta h).1 hm).2⟩))]) r
 have e:b8 l a=b8 l b:=((ta h).1 ha).2.trans ((ta h).1 hb).2.symm;have h1:=key a;have h2:=key b;rw[e] at h1;have h3:=h1.symm.trans h2;rw[if_pos ha,if_pos hb] at h3;exact Option.some.inj h3
theorem Lw (hne:l≠[]) (hc:∀a∈aO l,∀b∈aO l,b8 l a=b8 l b):aP l=[l]:=by
 obtain⟨x,hx⟩:∃x,x∈l:=List.exists_mem_of_ne_nil _ hne;have hr:x.A∈aO l:=jB.2 ⟨x,hx,.inl rfl⟩;obtain⟨q,hq,_⟩:=K3 (f:=b8 l) hr;have hn:=K4 (b8 l) (aO l);have hs:=(AG (b8 l) (aO l)).subset;have hf:eC (b8 l) (aO l)=[q]:=by
  generalize eC (b8 l) (aO l)=fs at*
  match fs,hq,hn,hs with
  |[a],hq,_,_=>rw[List.mem_singleton.1 hq]
  |a::b::t,_,hn,hs=>
   have:=hc a (hs aF) b (hs aF);simp[this] at hn
 unfold aP;rw[hf,List.map_cons,List.map_nil];congr 1;refine List.filter_eq_self.2 λy hy=>decide_eq_true ?_;exact hc _ (jB.2 ⟨y,hy,.inl rfl⟩) _ (hs (by rw[hf];simp))
theorem C5 {i:Nat} (h:i<(aP l).length):aP (aP l)[i]=[(aP l)[i]]:=Lw (SU h) (QT h)
end
section
variable {l:List aD} {ds ds':List bC} {R:List ak}
theorem QK (h:∀a∈R,∀b∈R,jw ds a b=jw ds' a b) {a b:ak} (ha:a∈R) (hb:b∈R):eU ds a b=eU ds' a b:=by unfold eU;rw[h a ha b hb,h b hb a ha]
end
def n9 (s:List ak) (l:List aD):List aD:=l.filter λx=>decide (x.A∈s\/x.B∈s)
def Dv (d1 d2:List bC) (s:List ak):Prop:=∀a∈s,∀b∈s,jw d1 a b=jw d2 a b
instance (d1 d2:List bC) (s:List ak):Decidable (Dv d1 d2 s):=by unfold Dv;exact inferInstance
def jk (old:List aD) (d1 d2:List bC) (s:List ak) (bs:List aD):Bool:=decide (n9 s old=bs/\Dv d1 d2 s)
section
variable {old aW:List aD} {d1 d2:List bC} {zs us ys out:List (List ak)}
theorem Tx {s:List ak} {l:List aD} {x:aD}:x∈n9 s l↔x∈l/\(x.A∈s\/x.B∈s):=by unfold n9;rw[List.mem_filter,decide_eq_true_eq]
theorem Ty {α:Type} {r:α->α->Prop} (hr:∀x y,r x y->r y x->False):∀{a b:List α},a.Perm b->a.Pairwise r->b.Pairwise r->a=b
 |[],b,hp,_,_=>hp.nil_eq
 |x::a,b,hp,ha,hb=>by
  cases b with
  |nil=>exact absurd hp.length_eq aF
  |cons y b=>
   have hxy:x=y:=by
    rcases List.mem_cons.1 (hp.mem_iff.1 (List.mem_cons_self:x∈x::a)) with e|hx
    ·exact e
    ·rcases List.mem_cons.1 (hp.mem_iff.2 (List.mem_cons_self:y∈y::b)) with e|hy
     ·exact e.symm
     ·exact(hr x y ((List.pairwise_cons.1 ha).1 y hy) ((List.pairwise_cons.1 hb).1 x hx)).elim
   subst hxy;rw[Ty hr (List.Perm.cons_inv hp) (List.pairwise_cons.1 ha).2 (List.pairwise_cons.1 hb).2]
theorem cS {s:List ak} (h:2<=s.length):s.headD ⟨0,0⟩∈s:=by cases s with|nil=>simp at h|cons a t=>simp
def nD (old:List aD) (d1 d2:List bC) (aW:List aD) (k:Nat):List (List ak):=(((aP aW).take k).filter λp=>!jk old d1 d2 (aO p) p).map aO
theorem IP {k:Nat} (h:k<(aP aW).length):nD old d1 d2 aW (k+1)=if jk old d1 d2 (aO (aP aW)[k]) (aP aW)[k]=true then nD old d1 d2 aW k else nD old d1 d2 aW k++[aO (aP aW)[k]]:=by
 unfold nD;rw[List.take_succ_eq_append_getElem h,List.filter_append,List.map_append];by_cases e:jk old d1 d2 (aO (aP aW)[k]) (aP aW)[k]=true
 ·rw[if_pos e,List.filter_cons_of_neg (by simp[e])];simp
 ·rw[if_neg e,List.filter_cons_of_pos (by simpa using e)];simp
theorem Dw (k:Nat): (nD old d1 d2 aW k).length<=(aP aW).length:=by
 unfold nD;rw[List.length_map];exact Nat.le_trans (List.length_filter_le _ _) rT
end
def tB (m:Int) (x:aD):Prop:=0<=x.A.a/\x.A.a<x.B.a/\x.B.a<3/\1<=x.A.b/\x.A.b<=4/\1<=x.B.b/\x.B.b<=4/\1<=x.w/\x.w<=m
def pL (m:Int) (l:List aD):Prop:=(∀x∈l,tB m x)/\l.Pairwise gZ
section
variable {m:Int} {l sl:List aD}
theorem pL.of (h:Lb 3 3 l):pL 9 l:=⟨λx hx=>by have:=h.1 x hx;unfold rA at this;unfold tB;omega,h.2.1⟩
theorem pL.mono {m':Int} (h:pL m l) (hm:m<=m'):pL m' l:=⟨λx hx=>by have:=h.1 x hx;unfold tB at*;omega,h.2⟩
theorem pL.nil:pL m []:=⟨by simp,List.Pairwise.nil⟩
theorem pL.len (h:pL m l):l.length<=256:=by
 have:=Hz (λx:aD=>(x.A.a*64+(x.A.b-1)*16+x.B.a*4+(x.B.b-1)).toNat) 256 l 0 (h.2.imp_of_mem λ{x y} hx hy hxy=>by
  have h1:=h.1 x hx;have h2:=h.1 y hy;unfold tB at h1 h2;have e:er x.A y.A\/(x.A.a=y.A.a/\x.A.b=y.A.b)/\er x.B y.B:=by
   rcases hxy with e|⟨e1,e2⟩
   ·exact .inl e
   ·exact .inr ⟨by rw[e1];exact⟨rfl,rfl⟩,e2⟩
  unfold er at e;show(x.A.a*64+(x.A.b-1)*16+x.B.a*4+(x.B.b-1)).toNat<(y.A.a*64+(y.A.b-1)*16+y.B.a*4+(y.B.b-1)).toNat;omega) (λx hx=>by
  have h1:=h.1 x hx;unfold tB at h1;show 0<=_/\(x.A.a*64+(x.A.b-1)*16+x.B.a*4+(x.B.b-1)).toNat<256;omega)
 simpa using this
structure wC (m:Int) (l sl:List aD) (i:Nat):Prop where
 gq:pL m sl
 from_:∀x∈sl,∃y∈l.take i,y.A=x.A/\y.B=x.B
 len:sl.length<=i
theorem wC.nil (m:Int) (l:List aD):wC m l [] 0:=⟨pL.nil,by simp,by simp⟩
theorem wC.skip {i:Nat} (h:wC m l sl i) (hi:i<l.length):wC m l sl (i+1):=⟨h.gq,λx hx=>by
 obtain⟨y,hy,e⟩:=h.from_ x hx;exact⟨y,by rw[List.take_succ_eq_append_getElem hi];exact List.mem_append.2 (.inl hy),e⟩,by have:=h.len;omega⟩
theorem wC.push {i:Nat} (h:wC m l sl i) (hi:i<l.length) (hp:l.Pairwise gZ) {x:aD} (hx:tB m x) (hA: (l[i]'hi).A=x.A) (hB: (l[i]'hi).B=x.B):wC m l (sl++[x]) (i+1):=by
 refine⟨⟨λy hy=>?_,?_⟩,λy hy=>?_,by have:=h.len;simp only[List.length_append,List.length_cons,List.length_nil];omega⟩
 ·rcases List.mem_append.1 hy with hy|hy
  ·exact h.gq.1 y hy
  ·rw[List.mem_singleton] at hy;subst hy;exact hx
 ·refine List.pairwise_append.2 ⟨h.gq.2,by simp,λy hy z hz=>?_⟩;rw[List.mem_singleton] at hz;subst hz;obtain⟨u,hu,e1,e2⟩:=h.from_ y hy;obtain⟨k,hk,rfl⟩:=List.getElem_of_mem hu;rw[List.length_take] at hk;rw[List.getElem_take] at e1 e2;have:=List.pairwise_iff_getElem.1 hp k i ah hi ah;unfold gZ at this⊢;rw[<-e1,<-e2,<-hA,<-hB];exact this
 ·rw[List.take_succ_eq_append_getElem hi];rcases List.mem_append.1 hy with hy|hy
  ·obtain⟨u,hu,e⟩:=h.from_ y hy;exact⟨u,List.mem_append.2 (.inl hu),e⟩
  ·rw[List.mem_singleton] at hy;subst hy;exact⟨l[i],List.mem_append.2 (.inr aF),hA,hB⟩
theorem pL.insert {x:aD} {k:Nat} (h:pL m l) (hx:tB m x) (hk:k<=l.length) (h0:∀i (hi:i<k) (h2:i<l.length),gZ l[i] x) (h1:∀(hk:k<l.length),¬gZ l[k] x/\¬(l[k].A=x.A/\l[k].B=x.B)):pL m (l.take k++[x]++l.drop k):=by
 have hle:∀y∈l.drop k,gZ x y:=λy hy=>by
  obtain⟨i,hi,rfl⟩:=List.getElem_of_mem hy;rw[List.length_drop] at hi;rw[List.getElem_drop];obtain⟨g1,g2⟩:=h1 ah;have Fu:gZ x l[k]:=by
   unfold gZ at g1⊢;rcases CA l[k].A x.A with e|e|e
   ·exact absurd (.inl e) g1
   ·rcases CA l[k].B x.B with f|f|f
    ·exact absurd (.inr ⟨e,f⟩) g1
    ·exact absurd ⟨e,f⟩ g2
    ·exact .inr ⟨e.symm,f⟩
   ·exact .inl e
  by_cases e:i=0
  ·subst e;exact Fu
  ·have:=List.pairwise_iff_getElem.1 h.2 k (k+i) ah ah ah;unfold gZ at this Fu⊢;rcases Fu with a|⟨a1,a2⟩
   ·rcases this with b|⟨b1,b2⟩
    ·exact .inl (vH a b)
    ·exact .inl (by rw[<-b1];exact a)
   ·rcases this with b|⟨b1,b2⟩
    ·exact .inl (by rw[a1];exact b)
    ·exact .inr ⟨a1.trans b1,vH a2 b2⟩
 refine⟨λy hy=>?_,?_⟩
 ·rcases List.mem_append.1 hy with hy|hy
  ·rcases List.mem_append.1 hy with hy|hy
   ·exact h.1 y (List.mem_of_mem_take hy)
   ·rw[List.mem_singleton] at hy;subst hy;exact hx
  ·exact h.1 y (List.mem_of_mem_drop hy)
 ·rw[List.append_assoc,List.pairwise_append];refine⟨h.2.sublist (List.take_sublist _ _),?_,λy hy z hz=>?_⟩
  ·rw[List.singleton_append,List.pairwise_cons];exact⟨hle,h.2.sublist (List.drop_sublist _ _)⟩
  ·obtain⟨i,hi,rfl⟩:=List.getElem_of_mem hy;rw[List.length_take] at hi;rw[List.getElem_take];rcases List.mem_append.1 hz with hz|hz
   ·rw[List.mem_singleton] at hz;subst hz;exact h0 i ah ah
   ·obtain⟨j,hj,rfl⟩:=List.getElem_of_mem hz;rw[List.length_drop] at hj;rw[List.getElem_drop];exact List.pairwise_iff_getElem.1 h.2 i (k+j) ah ah ah
end
section
variable {old aW:List aD}
end
abbrev CC:=ak×ak
def qO (x:CC):List Value:=[.int .i64 x.1.a,.int .i64 x.1.b,.int .i64 x.2.a,.int .i64 x.2.b]
theorem IQ {h:Array Obj} {M:Nat->Prop} {x:CC} {vs:List Value}:rep h M x vs↔vs=qO x:=by
 constructor
 ·rintro⟨us,ws,rfl,h1,h2⟩;have h1:=qb.1 h1;have h2:=qb.1 h2;subst h1 h2;rfl
 ·intro e;exact⟨bh x.1,bh x.2,e,qb.2 rfl,qb.2 rfl⟩
theorem Bs {w:World} {M:Nat->Prop} {x:CC} {v:Value}:av w M x v↔v=.agg (qO x).toArray:=by
 constructor
 ·rintro⟨vs,h,e⟩;rw[IQ.1 h] at e;exact e
 ·intro e;exact⟨_,IQ.2 rfl,e⟩
def wD (x y:CC):Int:=iV [jq x.1 y.1,jq x.2 y.2]
def qP (x y:CC):Prop:=er x.1 y.1\/x.1=y.1/\er x.2 y.2
theorem Pv {x y:CC}:wD x y<0↔qP x y:=by
 have:=QA (x:=⟨x.1,x.2,0⟩) (y:=⟨y.1,y.2,0⟩);unfold r8 gZ at this;unfold wD qP;simp only at this;constructor
 ·intro h;exact Classical.not_not.1 λhn=>absurd (this.2 hn) ah
 ·intro h;exact Int.not_le.1 λhn=>this.1 hn h
theorem Dx (x:CC):¬qP x x:=by unfold qP;rintro(h|⟨_,h⟩)<;>exact Cz _ h
theorem Fw {x y z:CC} (h1:qP x y) (h2:qP y z):qP x z:=by
 unfold qP at*;rcases h1 with a|⟨a1,a2⟩
 ·rcases h2 with b|⟨b1,_⟩
  ·exact .inl (vH a b)
  ·exact .inl (by rw[<-b1];exact a)
 ·rcases h2 with b|⟨b1,b2⟩
  ·exact .inl (by rw[a1];exact b)
  ·exact .inr ⟨a1.trans b1,vH a2 b2⟩
theorem IU (x y:CC):qP x y\/x=y\/qP y x:=by
 obtain⟨a,b⟩:=x;obtain⟨c,d⟩:=y;unfold qP;simp only[Prod.mk.injEq];rcases CA a c with h|h|h
 ·exact .inl (.inl h)
 ·rcases CA b d with g|g|g
  ·exact .inl (.inr ⟨h,g⟩)
  ·exact .inr (.inl ⟨h,g⟩)
  ·exact .inr (.inr (.inr ⟨h.symm,g⟩))
 ·exact .inr (.inr (.inl h))
def qQ (x y:CC):Bool:=!decide (wD y x<0)
theorem wE {x y:CC}:qQ x y=true↔¬qP y x:=by unfold qQ;rw[<-Pv];simp
theorem Tz (x y:CC) (h:qQ x y=true) (h':qQ y x=true):x=y:=by
 rcases IU x y with g|g|g
 ·exact absurd g (wE.1 h')
 ·exact g
 ·exact absurd g (wE.1 h)
theorem TA (x y z:CC) (h:qQ x y=true) (h':qQ y z=true):qQ x z=true:=wE.2 λg=>by
 rcases IU x y with a|a|a
 ·exact wE.1 h' (Fw g a)
 ·subst a;exact wE.1 h' g
 ·exact wE.1 h a
theorem π (x y:CC): (qQ x y||qQ y x)=true:=by
 rw[Bool.or_eq_true,wE,wE];rcases IU x y with a|a|a
 ·exact .inl λh=>Dx _ (Fw a h)
 ·subst a;exact .inl (Dx _)
 ·exact .inr λh=>Dx _ (Fw a h)
def sortCC (l:List CC):List CC:=l.mergeSort qQ
theorem o4 (l:List CC): (sortCC l).Pairwise (λx y=>qQ x y=true):=List.pairwise_mergeSort TA π l
theorem TB (l:List CC): (sortCC l).Perm l:=List.mergeSort_perm l qQ
theorem TC (l:List CC): (sortCC l).length=l.length:=(TB l).length_eq
def zQ (s:List ak) (d:bC):Bool:=!d.same&&decide (d.A∈s)&&decide (d.B∈s)
def tC (s:List ak) (ds:List bC):List CC:=(ds.filter (zQ s)).map λd=>(d.A,d.B)
def tD (s:List ak) (ds:List bC):List CC:=iG (sortCC (tC s ds))
section
variable {s:List ak} {ds d1 d2:List bC}
theorem Cm {k:Nat} (h:k<ds.length):tC s (ds.take (k+1))=if zQ s ds[k]=true then tC s (ds.take k)++[(ds[k].A,ds[k].B)] else tC s (ds.take k):=by
 unfold tC;rw[List.take_succ_eq_append_getElem h,List.filter_append,List.map_append];by_cases e:zQ s ds[k]=true
 ·rw[if_pos e,List.filter_cons_of_pos e];simp
 ·rw[if_neg e,List.filter_cons_of_neg e];simp
theorem TD (k:Nat): (tC s (ds.take k)).length<=ds.length:=by
 unfold tC;rw[List.length_map];exact Nat.le_trans (List.length_filter_le _ _) rT
theorem o9: (tD s ds).length<=ds.length:=by
 unfold tD;have h1:=(Er (sortCC (tC s ds))).length_le;rw[TC] at h1;have:=TD (s:=s) (ds:=ds) ds.length;rw[List.take_length] at this;omega
theorem IV {p:CC}:p∈tD s ds↔p.1∈s/\p.2∈s/\jw ds p.1 p.2=true:=by
 unfold tD;rw[Hp,(TB _).mem_iff];unfold tC jw zQ;rw[List.mem_map,List.any_eq_true];constructor
 ·rintro⟨d,hd,rfl⟩;obtain⟨hm,hc⟩:=List.mem_filter.1 hd;simp only[Bool.and_eq_true,Bool.not_eq_true',decide_eq_true_eq] at hc;exact⟨hc.1.2,hc.2,d,hm,by simp[hc.1.1]⟩
 ·rintro⟨h1,h2,d,hm,hc⟩;simp only[Bool.and_eq_true,Bool.not_eq_true',decide_eq_true_eq] at hc;obtain⟨hs,hA,hB⟩:=hc;refine⟨d,List.mem_filter.2 ⟨hm,?_⟩,?_⟩
  ·simp only[Bool.and_eq_true,Bool.not_eq_true',decide_eq_true_eq];exact⟨⟨hs,hA▸h1⟩,hB▸h2⟩
  ·obtain⟨a,b⟩:=p;simp only at hA hB;rw[hA,hB]
theorem IW: (tD s ds).Pairwise qP:=by
 unfold tD;have h1:=o4 (tC s ds);have h2:=KW (le:=λx y=>qQ x y=true) Tz h1;have h3:=h1.sublist (Er _);refine(h3.and h2).imp λ{x y} ⟨h4,h5⟩=>?_;rcases IU x y with h|h|h
 ·exact h
 ·exact absurd h h5
 ·exact absurd h (wE.1 h4)
theorem TE:tD s d1=tD s d2↔Dv d1 d2 s:=by
 constructor
 ·intro h a ha b hb;have h1:=IV (s:=s) (ds:=d1) (p:=(a,b));have h2:=IV (s:=s) (ds:=d2) (p:=(a,b));rw[h] at h1;have h3:=h1.symm.trans h2;rw[Bool.eq_iff_iff];exact⟨λg=>(h3.1 ⟨ha,hb,g⟩).2.2,λg=>(h3.2 ⟨ha,hb,g⟩).2.2⟩
 ·intro h;have nd:∀{l:List CC},l.Pairwise qP->l.Nodup:=λh=>h.imp λ{x y} hxy e=>by subst e;exact Dx _ hxy
  refine Ty (λx y a b=>Dx _ (Fw a b)) ((List.perm_ext_iff_of_nodup (nd IW) (nd IW)).2 λp=>?_) IW IW;rw[IV,IV];constructor
  ·rintro⟨h1,h2,h3⟩;exact⟨h1,h2,by rw[<-h _ h1 _ h2];exact h3⟩
  ·rintro⟨h1,h2,h3⟩;exact⟨h1,h2,by rw[h _ h1 _ h2];exact h3⟩
theorem TG {l:List aD} {k:Nat} (h:k<l.length):n9 s (l.take (k+1))=if l[k].A∈s\/l[k].B∈s then n9 s (l.take k)++[l[k]] else n9 s (l.take k):=by
 unfold n9;rw[List.take_succ_eq_append_getElem h,List.filter_append];by_cases e:l[k].A∈s\/l[k].B∈s
 ·rw[if_pos e];simp[List.filter_cons,e]
 ·rw[if_neg e];simp[List.filter_cons,e]
theorem TH {l:List aD} (k:Nat): (n9 s (l.take k)).length<=l.length:=by
 unfold n9;exact Nat.le_trans (List.length_filter_le _ _) rT
end
section
variable {P:Program} {t:TypeId} {N:Nat} {env:Env} {x y:Operand} {u:TypeId} {w:World}
theorem ML {aY ti:TypeId} {n0 n1 m0 m1 p6 p7 EL EM p8 p9 EN EO:String} {e0 e1 f0 f1:Bool} {y0 y1 x0 x1:Nat} (h:P.underlying t=some (.struct #[⟨m0,aY,0,f0,EL,EN,x0⟩,⟨m1,aY,2,f1,EM,EO,x1⟩])) (g0:m0≠"_") (g1:m1≠"_") (hS:P.stoodInHeld t=false)
  (hr:P.underlying aY=some (.struct #[⟨n0,ti,0,e0,p6,p8,y0⟩,⟨n1,ti,1,e1,p7,p9,y1⟩])) (h0:n0≠"_") (h1:n1≠"_") (LH:P.stoodInHeld aY=false)
  (hi:P.underlying ti=some (.int .i64)) (ha:gM P aY=some true) (hs:gX P aY=some 2):xl P t xD:=λd a b w=>by
 have hf:P.fieldsOf t=#[⟨m0,aY,0,f0,EL,EN,x0⟩,⟨m1,aY,2,f1,EM,EO,x1⟩]:=by simp[Program.fieldsOf,h]
 have nh:∀(c:ak×ak) w,(part aY #[.int .i64 c.1.a,.int .i64 c.1.b,.int .i64 c.2.a,.int .i64 c.2.b] 0).run P w=.ok (dH c.1) w:=λc w=>by
  unfold part;simp only[Sem.run_bind,tQ ha,Result.andThen_ok,if_true,nc hs,Sem.run_pure];rfl
 have p1:∀(c:ak×ak) w,(part aY #[.int .i64 c.1.a,.int .i64 c.1.b,.int .i64 c.2.a,.int .i64 c.2.b] 2).run P w=.ok (dH c.2) w:=λc w=>by
  unfold part;simp only[Sem.run_bind,tQ ha,Result.andThen_ok,if_true,nc hs,Sem.run_pure];rfl
 have he:=λ(x y:ak)=>RL hr h0 h1 LH hi (d+5) x y w;rw[show d+8=(d+7)+1 from rfl,run_equalIn_struct w (d+7) t _ _ (by rw[hf];exact h) hS,hf];have hd: (decide (a=b))=(decide (a.1=b.1)&&decide (a.2=b.2)):=by
  cases a;cases b;simp only[Prod.mk.injEq,Bool.decide_and]
 simp only[Op.eqFields,Sem.run_bind,Sem.run_ite,g0,g1,ne_eq,not_false_eq_true,if_true,nh,p1,Result.andThen_ok,he,hd,show d+7=d+5+2 from rfl];cases decide (a.1=b.1)<;>cases decide (a.2=b.2)<;>simp[he,show d+7=d+5+2 from rfl,nh,p1]
theorem TI (hK:xl P t xD) (a b:CC): (Op.equalIn 10000 t (.agg (qO a).toArray) (.agg (qO b).toArray)).run P w=.ok (decide (a=b)) w:=hK 9992 a b w
theorem TJ (hK:xl P t xD) (hg:P.eqGuardType P.depth t=false) {a b:CC} (hx:ev env x=some (.agg (qO a).toArray)) (hy:ev env y=some (.agg (qO b).toArray)):
  cZ P N env (.binOp .neq t x y u) w (.bool (decide (a≠b))):=mk' λρ hρ o ho=>by
 unfold execOp;rw[ho];simp only[hρ _ _ hx,hρ _ _ hy,Sem.run_bind,run_eqGuard_agg _ _ _ _ _ _ _ hg,Result.andThen_ok,run_neq_struct,TI hK,Sem.run_pure];simp
theorem oz (hK:xl P t xD) (hg:P.eqGuardType P.depth t=false) {a b:CC} (hx:ev env x=some (.agg (qO a).toArray)) (hy:ev env y=some (.agg (qO b).toArray)):
  cZ P N env (.binOp .eql t x y u) w (.bool (decide (a=b))):=mk' λρ hρ o ho=>by
 unfold execOp;rw[ho];simp only[hρ _ _ hx,hρ _ _ hy,Sem.run_bind,run_eqGuard_agg _ _ _ _ _ _ _ hg,Result.andThen_ok,run_eql_struct,TI hK,Sem.run_pure]
end
theorem q3 {h:Array Obj} {M:Nat->Prop}:rep h M (⟨⟨0,0⟩,⟨0,0⟩⟩:CC) [.int .i64 0,.int .i64 0,.int .i64 0,.int .i64 0]:=IQ.2 rfl
theorem MN {α:Type} [DecidableEq α] {l m:List α} (hl:l.length=m.length) (h:∀i (h1:i<l.length) (h2:i<m.length),l[i]=m[i]):l=m:=List.ext_getElem hl h
section
variable {old aW:List aD} {d1 d2:List bC} {zs:List (List ak)}
def pM (old:List aD) (d1 d2:List bC) (aW:List aD) (k:Nat):List Bool:=((aP aW).take k).map λp=>jk old d1 d2 (aO p) p
theorem C4 {k:Nat} (h:k<(aP aW).length):pM old d1 d2 aW (k+1)=pM old d1 d2 aW k++[jk old d1 d2 (aO (aP aW)[k]) (aP aW)[k]]:=by
 unfold pM;rw[List.take_succ_eq_append_getElem h,List.map_append];rfl
theorem sy (k:Nat): (pM old d1 d2 aW k).length<=(aP aW).length:=by unfold pM;rw[List.length_map,List.length_take];omega
theorem TK: (pM old d1 d2 aW (aP aW).length).length=(aP aW).length:=by unfold pM;rw[List.length_map,List.length_take];omega
theorem TM {k:Nat} (h:k<(aP aW).length) (h':k<(pM old d1 d2 aW (aP aW).length).length): (pM old d1 d2 aW (aP aW).length)[k]=jk old d1 d2 (aO (aP aW)[k]) (aP aW)[k]:=by
 unfold pM;simp
theorem L0 {s:List ak} {bs:List aD} (h:n9 s old=bs):decide (tD s d1=tD s d2)=jk old d1 d2 s bs:=by
 unfold jk;exact decide_eq_decide.2 ⟨λe=>⟨h,TE.1 e⟩,λe=>TE.2 e.2⟩
theorem v7 {s:List ak} {bs:List aD} (h:¬n9 s old=bs):false=jk old d1 d2 s bs:=by
 unfold jk;exact(decide_eq_false λe=>h e.1).symm
def n_ (zs:List (List ak)) (s:List ak):List (List ak):=zs.filter λp=>decide (p.headD ⟨0,0⟩∈s)
theorem TN {s:List ak} {k:Nat} (h:k<zs.length):n_ (zs.take (k+1)) s=if zs[k].headD ⟨0,0⟩∈s then n_ (zs.take k) s++[zs[k]] else n_ (zs.take k) s:=by
 unfold n_;rw[List.take_succ_eq_append_getElem h,List.filter_append];by_cases e:zs[k].headD ⟨0,0⟩∈s
 ·rw[if_pos e,List.filter_cons,if_pos (decide_eq_true e),List.filter_nil]
 ·rw[if_neg e,List.filter_cons,if_neg (by rw[decide_eq_true_eq];exact e),List.filter_nil,List.append_nil]
theorem TP {s:List ak} (k:Nat): (n_ (zs.take k) s).length<=zs.length:=by
 unfold n_;exact Nat.le_trans (List.length_filter_le _ _) rT
theorem TQ {p:List ak} (h:0<p.length):p.headD ⟨0,0⟩=p[0]:=by cases p with|nil=>simp at h|cons a t=>rfl
end
section
variable {l:List aD} {ds:List bC} {out us zs:List (List ak)}
end
section
variable {old aW:List aD} {d1 d2:List bC} {zs:List (List ak)}
theorem k3 {s p:List ak}:p∈n_ zs s↔p∈zs/\p.headD ⟨0,0⟩∈s:=by unfold n_;rw[List.mem_filter,decide_eq_true_eq]
theorem Zs {s p:List ak} {bs:List aD} (hk:n9 s old=bs) (hs:s=aO bs) (hj:rC old p) (h2:2<=p.length) (hh:p.headD ⟨0,0⟩∈s):∀x∈p,x∈s:=λx hx=>by
 have hinv:=λr=>sZ (p:=λr=>decide (r∈s)) (l:=jh old p) (λy hy=>by
  have TR:y∈old:=(List.mem_filter.1 hy).1;refine decide_eq_decide.2 ⟨λhm=>?_,λhm=>?_⟩
  ·have:y∈bs:=by rw[<-hk];exact Tx.2 ⟨TR,.inl hm⟩
   rw[hs];exact jB.2 ⟨y,this,.inr rfl⟩
  ·have:y∈bs:=by rw[<-hk];exact Tx.2 ⟨TR,.inr hm⟩
   rw[hs];exact jB.2 ⟨y,this,.inl rfl⟩) r
 have h1:=hinv x;rw[hj x hx _ (cS h2),hinv,decide_eq_true hh] at h1;exact of_decide_eq_true h1.symm
theorem r0 (hP:eG old d1 zs) {s:List ak} {bs:List aD} (hk:jk old d1 d2 s bs=true) (hs:s=aO bs):eG bs d2 (n_ zs s):=by
 obtain⟨h1,h2⟩:=of_decide_eq_true hk;have hsub: (n_ zs s).Sublist zs:=List.filter_sublist;have hin:∀p∈n_ zs s,∀x∈p,x∈s:=λp hp=>by
  obtain⟨hz,hh⟩:=k3.1 hp;exact Zs h1 hs (hP.join p hz) (hP.len p hz) hh
 refine⟨λp hp=>hP.kz p (hsub.subset hp),λp hp=>hP.len p (hsub.subset hp),λp hp=>?_,λp hp=>?_,hP.vP.sublist (EK hsub),hP.heads.sublist hsub⟩
 ·exact List.Pairwise.imp_of_mem (λ{a b} ha hb hab=>by rw[<-QK h2 (hin p hp a ha) (hin p hp b hb)];exact hab) (hP.bar p (hsub.subset hp))
 ·have e:jh bs p=jh old p:=by
   rw[<-h1];unfold jh n9;rw[List.filter_filter];refine List.filter_congr λy hy=>?_;by_cases hw:y.A∈p/\y.B∈p
   ·rw[decide_eq_true hw,decide_eq_true (.inl (hin p hp _ hw.1))];rfl
   ·rw[decide_eq_false hw];rfl
  unfold rC;rw[e];exact hP.join p (hsub.subset hp)
noncomputable def j8 (old:List aD) (d1:List bC) (zs:List (List ak)) (d2:List bC) (p:List aD):List (List ak)×Int:=(if jk old d1 d2 (aO p) p=true then n_ zs (aO p) else(dJ d2 p).1,0)
theorem Fx {p:List aD} (h:jk old d1 d2 (aO p) p=true): (j8 old d1 zs d2 p).1=n_ zs (aO p):=by unfold j8;rw[if_pos h]
theorem IX {p:List aD} (h:¬jk old d1 d2 (aO p) p=true): (j8 old d1 zs d2 p).1=(dJ d2 p).1:=by unfold j8;rw[if_neg h]
theorem TT (hP:eG old d1 zs) {i:Nat} (h:i<(aP aW).length):eG (aP aW)[i] d2 (j8 old d1 zs d2 (aP aW)[i]).1:=by
 by_cases hk:jk old d1 d2 (aO (aP aW)[i]) (aP aW)[i]=true
 ·rw[Fx hk];exact r0 hP hk rfl
 ·rw[IX hk];exact uD d2 _
end
noncomputable def iP (old:List aD) (d1:List bC) (zs:List (List ak)) (aW:List aD) (d2:List bC):Int:=if ny old d1 zs≠0 then ny old d1 zs else if gD aW≠0 then gD aW else jY d2
section
variable {old aW:List aD} {d1 d2:List bC} {zs:List (List ak)}
theorem MO (h:ny old d1 zs≠0):iP old d1 zs aW d2=ny old d1 zs:=by unfold iP;rw[if_pos h]
theorem MP (h:ny old d1 zs=0) (h2:gD aW≠0):iP old d1 zs aW d2=gD aW:=by unfold iP;rw[if_neg (by rw[h];simp),if_pos h2]
theorem Dy (h:ny old d1 zs=0) (h2:gD aW=0):iP old d1 zs aW d2=jY d2:=by unfold iP;rw[if_neg (by rw[h];simp),if_neg (by rw[h2];simp)]
theorem A1 (h:ny old d1 zs=0):gD old=0/\jY d1=0/\eG old d1 zs:=by
 by_cases e:iO old d1=0
 ·by_cases hp:eG old d1 zs
  ·exact⟨(xP e).1,(xP e).2,hp⟩
  ·rw[xO e hp] at h;exact absurd h ai
 ·rw[Mq e] at h;exact absurd h e
theorem Fy (h:iP old d1 zs aW d2=0): (ow old/\jY d1=0/\eG old d1 zs)/\ow aW/\jY d2=0:=by
 by_cases e:ny old d1 zs=0
 ·by_cases e2:gD aW=0
  ·rw[Dy e e2] at h;have:=A1 e;exact⟨⟨Dj this.1,this.2⟩,Dj e2,h⟩
  ·rw[MP e e2] at h;exact absurd h e2
 ·rw[MO e] at h;exact absurd h e
end
noncomputable def zR (old:List aD) (d1:List bC) (zs:List (List ak)) (aW:List aD) (d2:List bC):List (List ak):=if iP old d1 zs aW d2≠0 then[] else iZ (eu (j8 old d1 zs d2) (aP aW))
noncomputable def zS (old:List aD) (d1:List bC) (zs:List (List ak)) (aW:List aD) (d2:List bC):List aD:=if iP old d1 zs aW d2≠0 then[] else aW
noncomputable def tE (old:List aD) (d1:List bC) (zs:List (List ak)) (aW:List aD) (d2:List bC):Int:=if iP old d1 zs aW d2≠0 then 0 else IntKind.i64.wrap (e9 aW (iZ (eu (j8 old d1 zs d2) (aP aW))))
noncomputable def zU (old:List aD) (d1:List bC) (zs:List (List ak)) (aW:List aD) (d2:List bC):Nat:=if iP old d1 zs aW d2≠0 then 0 else(nD old d1 d2 aW (aP aW).length).length
noncomputable def Dz (old:List aD) (d1:List bC) (zs:List (List ak)) (aW:List aD) (d2:List bC):List (List ak):=if iP old d1 zs aW d2≠0 then[] else nD old d1 d2 aW (aP aW).length
section
variable {old aW:List aD} {d1 d2:List bC} {zs:List (List ak)}
theorem IY (h:iP old d1 zs aW d2≠0):zR old d1 zs aW d2=[]/\zS old d1 zs aW d2=[]/\tE old d1 zs aW d2=0/\zU old d1 zs aW d2=0/\Dz old d1 zs aW d2=[]:=by
 unfold zR zS tE zU Dz;simp only[if_pos h];exact⟨trivial,trivial,trivial,trivial,trivial⟩
theorem DA (h:iP old d1 zs aW d2=0):zR old d1 zs aW d2=iZ (eu (j8 old d1 zs d2) (aP aW))/\zS old d1 zs aW d2=aW/\tE old d1 zs aW d2=IntKind.i64.wrap (e9 aW (iZ (eu (j8 old d1 zs d2) (aP aW))))/\zU old d1 zs aW d2=(nD old d1 d2 aW (aP aW).length).length/\Dz old d1 zs aW d2=nD old d1 d2 aW (aP aW).length:=by
 have h':¬iP old d1 zs aW d2≠0:=by rw[h];simp
 unfold zR zS tE zU Dz;simp only[if_neg h'];exact⟨trivial,trivial,trivial,trivial,trivial⟩
end
end Go.K
namespace Go.K
open aZ
noncomputable def qR (l:List aD) (ds:List bC):List aD:=if(h_ (dJ ds) l ds).2.2≠0 then[] else l
noncomputable def oF (l:List aD) (ds:List bC):List (List ak):=if(h_ (dJ ds) l ds).2.2≠0 then[] else(h_ (dJ ds) l ds).1
noncomputable def j9 (l:List aD) (ds:List bC):Int:=if(h_ (dJ ds) l ds).2.2≠0 then 0 else(h_ (dJ ds) l ds).2.1
section
variable {l:List aD} {ds:List bC}
theorem Bt (h: (h_ (dJ ds) l ds).2.2≠0):qR l ds=[]/\oF l ds=[]/\j9 l ds=0/\True:=by unfold qR oF j9;simp only[if_pos h];exact⟨trivial,trivial,trivial,trivial⟩
theorem zV (h: (h_ (dJ ds) l ds).2.2=0):qR l ds=l/\oF l ds=(h_ (dJ ds) l ds).1/\j9 l ds=(h_ (dJ ds) l ds).2.1:=by
 have h':¬(h_ (dJ ds) l ds).2.2≠0:=by rw[h];simp
 unfold qR oF j9;simp only[if_neg h'];exact⟨trivial,trivial,trivial⟩
theorem TU (h: (h_ (dJ ds) l ds).2.2=0):l.length<=4096:=by
 by_cases e:iO l ds=0
 ·exact(Dj (xP e).1).1
 ·rw[IE e] at h;exact absurd h e
end
end Go.K
namespace Go.K
open aZ
def Bu {α:Type} (f:Int) (l:List α):List α:=if f≠0 then[] else l
theorem xX {α:Type} {f:Int} {l:List α} (h:f≠0):Bu f l=[]:=by unfold Bu;rw[if_pos h]
theorem Fz {α:Type} {f:Int} {l:List α} (h:f=0):Bu f l=l:=by unfold Bu;rw[if_neg (by rw[h];simp)]
theorem MQ {ds:List bC} (h:jY ds=0):ds.length<=4096:=(Lv h).1
theorem IZ {l:List aD} {ds:List bC} (hv:ow l) (hd:jY ds=0):iO l ds=0:=by unfold iO;rw[hv.check,if_neg aF];exact hd
theorem TV {aW:List aD} {ds:List bC} (hv:ow aW) (hd:jY ds=0) {i:Nat} (h:i<(aP aW).length): (h_ (dJ ds) (aP aW)[i] ds).1=(dJ ds (aP aW)[i]).1:=by
 have e:eu (dJ ds) (aP (aP aW)[i])=(dJ ds (aP aW)[i]).1:=by rw[C5 h];unfold eu;simp
 rw[Fi (IZ (CH hv h) hd) (λk hk=>Fj ds _),e];exact Is (uD ds _)
end Go.K
namespace Go.K
open aZ
theorem Cb {l:List aD} {ds:List bC} {wf:List aD->List (List ak)×Int} (hQ:∀i (h:i<(aP l).length),eG (aP l)[i] ds (wf (aP l)[i]).1):∀p∈eu wf (aP l),p.length<=(aO l).length:=λp hp=>by
 obtain⟨i,hi,h2⟩:=Mn hp;exact Nat.le_trans (((hQ i hi).nodup h2).length_le_of_subset λr hr=>(hQ i hi).refs h2 hr) (Sv hi)
theorem eG.MR {l:List aD} {ds:List bC} {ps:List (List ak)} (h:eG l ds ps): (∀p∈ps,p.length<=2*l.length)/\2*ps.length<=2*l.length:=by
 refine⟨λp hp=>Nat.le_trans ((h.nodup hp).length_le_of_subset λr hr=>h.refs hp hr) (lJ l),Nat.le_trans (Iz h.len) (Nat.le_trans (h.vP.length_le_of_subset λr hr=>?_) (lJ l))⟩;obtain⟨p,hp,hr⟩:=List.mem_flatten.1 hr;exact h.refs hp hr
end Go.K
set_option maxRecDepth 100000
namespace Go.K
open aZ
def MS:aD:=⟨⟨0,1⟩,⟨1,1⟩,3⟩
def DB:aD:=⟨⟨0,2⟩,⟨1,2⟩,4⟩
def ic:List aD:=[MS,DB]
def jx:List aD:=[MS]
def nE:List (List ak):=[[⟨0,1⟩,⟨1,1⟩],[⟨0,2⟩,⟨1,2⟩]]
def qm:List (List ak):=[[⟨0,1⟩,⟨1,1⟩]]
theorem az {s:List ak} (h: (s.Pairwise λa b=>jq a b<0)):s.Pairwise er:=h.imp λh=>t_.1 h
theorem MT {l:List aD} {s:List ak} (h1:s.Pairwise λa b=>jq a b<0) (h2:∀x∈l,x.A∈s/\x.B∈s) (h3:∀r∈s,∃x∈l,r=x.A\/r=x.B):aO l=s:=
 Ht (xu l) (az h1) λr=>by
  rw[jB];exact⟨λ⟨x,hx,e⟩=>e.elim (λe=>e▸(h2 x hx).1) (λe=>e▸(h2 x hx).2),h3 r⟩
theorem Zr:aO ic=[⟨0,1⟩,⟨0,2⟩,⟨1,1⟩,⟨1,2⟩]:=MT (by decide+kernel) (by decide+kernel) (by decide+kernel)
theorem xY:aO jx=[⟨0,1⟩,⟨1,1⟩]:=MT (by decide+kernel) (by decide+kernel) (by decide+kernel)
theorem I1:aO [DB]=[⟨0,2⟩,⟨1,2⟩]:=MT (by decide+kernel) (by decide+kernel) (by decide+kernel)
theorem MU:aP ic=[jx,[DB]]:=by unfold aP;rw[Zr];decide+kernel
theorem MV:aP jx=[jx]:=by unfold aP;rw[xY];decide+kernel
theorem o3:qg jx []=[[⟨0,1⟩,⟨1,1⟩]]:=by unfold qg;rw[xY];decide+kernel
theorem me:qg [DB] []=[[⟨0,2⟩,⟨1,2⟩]]:=by unfold qg;rw[I1];decide+kernel
theorem TW:dJ [] jx=([[⟨0,1⟩,⟨1,1⟩]],0):=by unfold dJ;rw[xY,if_pos ai,o3]
theorem TX:dJ [] [DB]=([[⟨0,2⟩,⟨1,2⟩]],0):=by unfold dJ;rw[I1,if_pos ai,me]
theorem TY:eu (dJ []) (aP ic)=nE:=by
 rw[MU];unfold eu;simp only[List.flatMap_cons,List.flatMap_nil,List.append_nil,TW,TX];rfl
theorem ep:eu (dJ []) (aP jx)=qm:=by
 rw[MV];unfold eu;simp only[List.flatMap_cons,List.flatMap_nil,List.append_nil,TW];rfl
theorem cN:fH fQ nE nE:=fH.self λi j hij hj=>by
 have hj:j<2:=hj;obtain⟨rfl,rfl⟩:i=0/\j=1:=by omega
 exact(show fQ [⟨0,1⟩,⟨1,1⟩] [⟨0,2⟩,⟨1,2⟩]<0 by decide+kernel)
theorem kg:fH fQ qm qm:=fH.self λi j hij hj=>by
 have hj:j<1:=hj;omega
theorem ZG:fH fQ (eu (dJ []) (aP ic)) nE:=by rw[TY];exact cN
theorem wm:fH fQ (eu (dJ []) (aP jx)) qm:=by rw[ep];exact kg
theorem T0:e9 ic nE=7:=by decide+kernel
theorem ua:e9 jx qm=3:=by decide+kernel
theorem I2:ow ic:=by
 refine⟨by decide,λx hx=>?_,?_⟩
 ·simp only[ic,List.mem_cons,List.not_mem_nil,or_false] at hx;rcases hx with rfl|rfl<;>exact⟨by decide,by decide,by decide⟩
 ·unfold ic MS DB gZ er;decide
theorem T1:ow jx:=I2.sub (by unfold ic jx;exact List.Sublist.cons_cons _ (List.nil_sublist _))
theorem RB: (((nD ic [] [] jx (aP jx).length).length:Nat):Int)=0:=by
 unfold nD;rw[MV];simp only[List.length_cons,List.length_nil,List.take_succ_cons,List.take_zero];rw[List.filter_cons,if_neg (by unfold jk;rw[xY];decide+kernel)];rfl
theorem Q0: (((nD jx [] [] ic (aP ic).length).length:Nat):Int)=1:=by
 unfold nD;rw[MU];simp only[List.length_cons,List.length_nil,List.take_succ_cons,List.take_zero];rw[List.filter_cons,if_neg (by unfold jk;rw[xY];decide+kernel),List.filter_cons,if_pos (by unfold jk;rw[I1];decide+kernel)];rfl
theorem FA:jY []=0:=by unfold jY;rw[if_neg aF,CV (λk hk=>absurd hk aF)]
theorem MW:eG ic [] nE:=Bj (λi hi=>uD [] _) ZG
theorem T2:eG jx [] qm:=Bj (λi hi=>uD [] _) wm
theorem b9:eu (j8 ic [] nE []) (aP jx)=qm:=by
 rw[MV];unfold eu;simp only[List.flatMap_cons,List.flatMap_nil,List.append_nil];rw[Fx (by rw[xY];unfold jk;decide+kernel),xY];decide+kernel
theorem vg:eu (j8 jx [] qm []) (aP ic)=nE:=by
 rw[MU];unfold eu;simp only[List.flatMap_cons,List.flatMap_nil,List.append_nil];rw[Fx (by rw[xY];unfold jk;decide+kernel),IX (by rw[I1];unfold jk;decide+kernel),xY,TX];decide+kernel
theorem MX:iP ic [] nE jx []=0:=by rw[Dy (IC (IZ I2 FA) MW) T1.check];exact FA
theorem MY:iP jx [] qm ic []=0:=by rw[Dy (IC (IZ T1 FA) T2) I2.check];exact FA
theorem zW:zS ic [] nE jx []=jx/\zR ic [] nE jx []=qm/\tE ic [] nE jx []=3/\((zU ic [] nE jx []:Nat):Int)=0:=by
 obtain⟨h1,h2,h3,h4,_⟩:=DA MX;rw[h1,h2,h3,h4,b9,Is T2,ua];exact⟨rfl,rfl,by decide+kernel,RB⟩
theorem zX:zS jx [] qm ic []=ic/\zR jx [] qm ic []=nE/\tE jx [] qm ic []=7/\((zU jx [] qm ic []:Nat):Int)=1:=by
 obtain⟨h1,h2,h3,h4,_⟩:=DA MY;rw[h1,h2,h3,h4,vg,Is MW,T0];exact⟨rfl,rfl,by decide+kernel,Q0⟩
theorem T3:h_ (dJ []) ic []=(nE,7,0):=by
 rw[Fi (IZ I2 FA) (λk hk=>Fj [] _),TY,Is MW,T0]
theorem I3:qR ic []=ic/\oF ic []=nE/\j9 ic []=7/\(h_ (dJ []) ic []).2.2=0:=by
 have h: (h_ (dJ []) ic []).2.2=0:=by rw[T3]
 obtain⟨h1,h2,h3⟩:=zV h;rw[h1,h2,h3,T3];exact⟨rfl,rfl,rfl,rfl⟩
end Go.K
namespace Go.K
open aZ
section
variable {α:Type} [aZ α] {P:Program} {N:Nat} {env:Env} {w:World} {C:Nat->Nat} {t e:TypeId} {s:Value} {y z:Operand} {ys zs:List α} {j:Nat} {a:Option Addr}
end
section
variable {l:List aD} {ds:List bC} {ps:List (List ak)} {m:Nat}
theorem eG.lens (h:eG l ds ps): (∀p∈ps,p.length<=2*l.length)/\2*ps.length<=2*l.length:=by
 refine⟨λp hp=>Nat.le_trans ((h.nodup hp).length_le_of_subset λr hr=>h.refs hp hr) (lJ l),Nat.le_trans (Iz h.len) (Nat.le_trans (h.vP.length_le_of_subset λr hr=>?_) (lJ l))⟩;obtain⟨p,hp,hr⟩:=List.mem_flatten.1 hr;exact h.refs hp hr
theorem vt: (∀p∈(h_ (dJ ds) l ds).1,1<=p.length)/\(∀p∈(h_ (dJ ds) l ds).1,p.length<=2*l.length)/\(h_ (dJ ds) l ds).1.length<=l.length:=by
 unfold h_;split
 ·exact⟨λp hp=>(by cases hp),λp hp=>(by cases hp),Nat.zero_le _⟩
 ·split
  ·have hQ:∀i (h:i<(aP l).length),eG (aP l)[i] ds (dJ ds (aP l)[i]).1:=λi h=>uD ds _;obtain⟨zs,hz⟩:=fH.ex A4 (eu (dJ ds) (aP l));have hzs:=Bj hQ hz;simp only;rw[Iu hzs hz];have h2:=hzs.lens;exact⟨λp hp=>by have:=hzs.len p hp;omega,h2.1,by omega⟩
  ·exact⟨λp hp=>(by cases hp),λp hp=>(by cases hp),Nat.zero_le _⟩
end
abbrev FB:=List aD×List (List ak)×Int
abbrev I4:=List bC×List bC
section
variable {w:World} {M:Nat->Prop} {v bz bX v1 v2:Value}
theorem cT {a:FB} (h:av w M a v):∃bz bX,v=.agg #[bz,bX,.int .i64 a.2.2]/\av w M a.1 bz/\av w M a.2.1 bX:=by
 obtain⟨vs,⟨us,ws,rfl,h1,KX,Cy,rfl,h2,h3⟩,hv⟩:=h;obtain⟨p,rfl⟩:=List.length_eq_one_iff.1 (aZ.len h1);obtain⟨q,rfl⟩:=List.length_eq_one_iff.1 (aZ.len h2);have e:Cy=[.int .i64 a.2.2]:=h3;subst e;exact⟨p,q,hv,tP h1 rfl,tP h2 rfl⟩
theorem MZ {l:List aD} {zs:List (List ak)} {t:Int} (h1:av w M l bz) (h2:av w M zs bX):av w M ((l,zs,t):FB) (.agg #[bz,bX,.int .i64 t]):=
 ⟨[bz,bX,.int .i64 t],⟨[bz],[bX,.int .i64 t],rfl,h1.D9 rfl,[bX],[.int .i64 t],rfl,h2.D9 rfl,rfl⟩,rfl⟩
theorem zF {a:I4} (h:av w M a v):∃v1 v2,v=.agg #[v1,v2]/\av w M a.1 v1/\av w M a.2 v2:=by
 obtain⟨vs,⟨us,ws,rfl,h1,h2⟩,hv⟩:=h;obtain⟨p,rfl⟩:=List.length_eq_one_iff.1 (aZ.len h1);obtain⟨q,rfl⟩:=List.length_eq_one_iff.1 (aZ.len h2);exact⟨p,q,hv,tP h1 rfl,tP h2 rfl⟩
theorem M0 {a b:List bC} (h1:av w M a v1) (h2:av w M b v2):av w M ((a,b):I4) (.agg #[v1,v2]):=
 ⟨[v1,v2],⟨[v1],[v2],rfl,h1.D9 rfl,h2.D9 rfl⟩,rfl⟩
end
end Go.K
namespace Go.K
open aZ
theorem M1 {l:List aD} {ds:List bC} {m:Nat} (hm:2*l.length<=m):∀p∈oF l ds,p.length<=m:=λp hp=>by
 by_cases h: (h_ (dJ ds) l ds).2.2=0
 ·rw[(zV h).2.1] at hp;have:=vt.2.1 p hp;omega
 ·rw[(Bt h).2.1] at hp;cases hp
end Go.K
namespace Go.K
open aZ
theorem Zo {h:Array Obj} {M:Nat->Prop} {vs:List Value} {a:FB} (hr:rep h M a vs):∃p q,vs=[p,q,.int .i64 a.2.2]/\rep h M a.1 [p]/\rep h M a.2.1 [q]:=by
 obtain⟨us,ws,rfl,h1,KX,Cy,rfl,h2,h3⟩:=hr;obtain⟨p,rfl⟩:=List.length_eq_one_iff.1 (aZ.len h1);obtain⟨q,rfl⟩:=List.length_eq_one_iff.1 (aZ.len h2);have e:Cy=[.int .i64 a.2.2]:=h3;subst e;exact⟨p,q,rfl,h1,h2⟩
def k_:Nat->Nat:=λ_=>0
theorem WI (w:World):aL w k_:=λb h=>absurd rfl h
theorem ax.below {w w':World} (h:ax [] w k_ w' k_):Go.RowKit.Below w.heap.size w w':=h.ext.below (Nat.le_refl _) (λb hb=>by simp at hb)
def oG {H:Type} (enc:TypeId×Value->H) (P:Program) (w:World) (base:Nat) (spare:Nat->Bool) (held:Bool) (α:Type) [aZ α] (t:TypeId):Prop:=
 P.cellsOf t=sz α/\∀(fuel:Nat) (cs:List Value) (x:DataW H×List MemPlace),DataW.trod enc P w base spare held fuel t cs=some x->∃a:α,rep w.heap (au k_) a cs
section
variable {H:Type} {enc:TypeId×Value->H} {P:Program} {w:World} {base:Nat} {spare:Nat->Bool} {held:Bool} {α β γ:Type} [aZ α] [aZ β] [aZ γ] {t e:TypeId}
theorem A2 (ht:P.underlying t=some (.int .i64)) (hc:P.cellsOf t=1):oG enc P w base spare held Int t:=⟨hc,λfuel cs x h=>by
 obtain⟨n,rfl,_⟩:=DataW.trod_int ht h;exact⟨n,rfl⟩⟩
theorem X3 (ht:P.underlying t=some .bool) (hc:P.cellsOf t=1):oG enc P w base spare held Bool t:=⟨hc,λfuel cs x h=>by
 obtain⟨b,rfl,_⟩:=DataW.trod_bool ht h;exact⟨b,rfl⟩⟩
theorem C6 (ht:P.underlying t=some (.slice e)) (hc:P.cellsOf t=1) (hsz:0<sz α) (he:oG enc P w base spare held α e):oG enc P w base spare held (List α) t:=⟨hc,λfuel cs x h=>by
 rcases Go.Deep.open_slice ht h with⟨rfl,_⟩|⟨a,len,cap,m,n,D,Pl,rfl,hb,hl,hm,M3,hx,hcell⟩
 ·exact⟨[],none,0,rfl,Nat.le_refl _,by simp,.inl rfl⟩
 ·have A0:len<=m:=by rw[M3];split<;>omega
  have key:∀k,k<=len->∃xs:List α,xs.length=k/\∀i (hi:i<xs.length),∃cs',w.cells? base (a.add (i*sz α)) (sz α)=some cs'/\rep w.heap (au k_) xs[i] cs':=by
   intro k
   induction k with
   |zero=>exact λ_=>⟨[],rfl,λi hi=>by simp at hi⟩
   |succ k ih=>
    intro hk;obtain⟨xs,mU,hxs⟩:=ih ah;obtain⟨cs',h1,h2⟩:=hcell k ah;obtain⟨y,hy⟩:=he.2 _ _ _ h2;rw[he.1] at h1;refine⟨xs++[y],by simp[mU],λi hi=>?_⟩;by_cases hik:i<xs.length
    ·rw[List.getElem_append_left hik];exact hxs i hik
    ·have En:i=k:=by simp at hi;omega
     subst En;rw[List.getElem_append_right ah];exact⟨cs',h1,by simpa[mU] using hy⟩
  obtain⟨xs,mU,hxs⟩:=key len (Nat.le_refl _);refine⟨xs,some a,cap,by rw[mU],by omega,by unfold maxLen at hm;omega,?_⟩;by_cases h0:len=0
  ·left;exact List.length_eq_zero_iff.1 ah
  ·right;have hall:∀i (hi:i<xs.length),∃cs',cs'.length=sz α/\(∀j (hj:j<cs'.length),w.cell? (a.add (i*sz α+j))=some cs'[j])/\rep w.heap (au k_) xs[i] cs':=λi hi=>by
    obtain⟨cs',h1,h2⟩:=hxs i hi;obtain⟨_,h3,h4⟩:=World.cells?_some h1;refine⟨cs',h3,λj hj=>?_,h2⟩;have h5:=h4 j ah;rw[Addr.add_add] at h5;rw[h5];exact List.getElem?_eq_getElem hj
   obtain⟨c0,F3,hc0,_⟩:=hall 0 ah;have pN:=hc0 0 ah;obtain⟨b,off,spot⟩:=a;have M4:spot=none:=by simpa[Addr.add] using World.cell?_spot pN
   subst M4;refine⟨b,off,rfl,?_⟩;simp only[qt] at hall pN;unfold World.cell? at pN;simp only at pN;cases hbk:w.heap[b]? with
   |none=>rw[hbk] at pN;cases pN
   |some fh=>
    cases fh with
    |cells c ty e8=>
     have mI:∀i (hi:i<xs.length),∃cs',cs'.length=sz α/\(∀j (hj:j<cs'.length),c[off+(i*sz α+j)]?=some cs'[j])/\rep w.heap (au k_) xs[i] cs':=λi hi=>by
      obtain⟨cs',h1,h2,h3⟩:=hall i hi;refine⟨cs',h1,λj hj=>?_,h3⟩;have h4:=h2 j hj;unfold World.cell? at h4;simp only[hbk] at h4;simpa using h4
     refine⟨λh=>h rfl,c,ty,e8,hbk,?_,λi hi=>?_⟩
     ·obtain⟨cs',h1,h2,_⟩:=mI (len-1) ah;have h3:=(Array.getElem?_eq_some_iff.1 (h2 (sz α-1) ah)).1;have h4:len*sz α=(len-1)*sz α+sz α:=by
       have:len=(len-1)+1:=by omega
       rw[this,Nat.succ_mul];simp
      rw[mU,h4];omega
     ·obtain⟨cs',h1,h2,h3⟩:=mI i hi;have:dh c (off+i*sz α) (sz α)=cs':=by
       apply List.ext_getElem?;intro r;simp only[dh,List.getElem?_take,List.getElem?_drop,Array.getElem?_toList];by_cases hr:r<sz α
       ·rw[if_pos hr,List.getElem?_eq_getElem ah,Nat.add_assoc];exact h2 r ah
       ·rw[if_neg hr,List.getElem?_eq_none ah]
      rw[this];exact h3
    |_=>rw[hbk] at pN;cases pN⟩
theorem oq {f0 f1:Field} (ht:P.underlying t=some (.struct #[f0,f1])) (hc:P.cellsOf t=sz α+sz β) (o0:f0.offset=0) (o1:f1.offset=sz α)
  (h0:oG enc P w base spare held α f0.type) (h1:oG enc P w base spare held β f1.type)
  (fuel:Nat) (cs:List Value) (x:DataW H×List MemPlace) (h:DataW.trod enc P w base spare held fuel t cs=some x):∃a:α×β,rep w.heap (au k_) a cs:=by
 obtain⟨xs,n,_,_,hl,mU,hf⟩:=DataW.trod_struct ht h;have hx2:xs.length=2:=mU;have e0:=hf 0 f0 rfl;have e1:=hf 1 f1 rfl;rw[o0,h0.1,List.drop_zero,List.getElem?_eq_getElem ah] at e0;rw[o1,h1.1,List.take_of_length_le GQ,List.getElem?_eq_getElem ah] at e1;obtain⟨a,ha⟩:=h0.2 _ _ _ e0;obtain⟨b,hb⟩:=h1.2 _ _ _ e1;exact⟨(a,b),_,_,(List.take_append_drop (sz α) cs).symm,ha,hb⟩
theorem j3 {f0 f1 f2:Field} (ht:P.underlying t=some (.struct #[f0,f1,f2])) (hc:P.cellsOf t=sz α+(sz β+sz γ)) (o0:f0.offset=0) (o1:f1.offset=sz α) (o2:f2.offset=sz α+sz β)
  (h0:oG enc P w base spare held α f0.type) (h1:oG enc P w base spare held β f1.type) (h2:oG enc P w base spare held γ f2.type)
  (fuel:Nat) (cs:List Value) (x:DataW H×List MemPlace) (h:DataW.trod enc P w base spare held fuel t cs=some x):∃a:α×β×γ,rep w.heap (au k_) a cs:=by
 obtain⟨xs,n,_,_,hl,mU,hf⟩:=DataW.trod_struct ht h;have T4:xs.length=3:=mU;have e0:=hf 0 f0 rfl;have e1:=hf 1 f1 rfl;have e2:=hf 2 f2 rfl;rw[o0,h0.1,List.drop_zero,List.getElem?_eq_getElem ah] at e0;rw[o1,h1.1,List.getElem?_eq_getElem ah] at e1;rw[o2,h2.1,List.take_of_length_le GQ,List.getElem?_eq_getElem ah] at e2;obtain⟨a,ha⟩:=h0.2 _ _ _ e0;obtain⟨b,hb⟩:=h1.2 _ _ _ e1;obtain⟨c,yY⟩:=h2.2 _ _ _ e2;refine⟨(a,b,c),_,_,(List.take_append_drop (sz α) cs).symm,ha,(cs.drop (sz α)).take (sz β),(cs.drop (sz α)).drop (sz β),(List.take_append_drop (sz β) _).symm,hb,?_⟩;rw[List.drop_drop];exact yY
theorem oG.rv (h:oG enc P w base spare held α t) (hx:aZ.agg α=false) {fuel:Nat} {v:Value} {x:DataW H×List MemPlace} (ht:DataW.trod enc P w base spare held fuel t [v]=some x):∃a:α,av w (au k_) a v:=by
 obtain⟨a,ha⟩:=h.2 _ _ _ ht;exact⟨a,tP ha hx⟩
end
def mF {H:Type} (enc:TypeId×Value->H) (P:Program) (w:World) (base:Nat) (spare:Nat->Bool) (held:Bool) (α:Type) [aZ α] (t:TypeId) (Q:α->Prop):Prop:=
 P.cellsOf t=sz α/\∀(fuel:Nat) (cs:List Value) (x:DataW H×List MemPlace),DataW.trod enc P w base spare held fuel t cs=some x->(∀n∈x.1.weights P t,n<=reachBytes)->∃a:α,rep w.heap (au k_) a cs/\Q a
theorem T5 {H:Type} {P:Program} {e:TypeId} {d:DataW H} {n:Nat}:∀{l:List (DataW H)},d∈l->n∈d.weights P e->n∈DataW.weightsAll P e l
 |[],h,_=>by cases h
 |a::l,h,hn=>by
  simp only[DataW.weightsAll,List.mem_append];rcases List.mem_cons.1 h with rfl|h
  ·exact .inl hn
  ·exact .inr (T5 h hn)
section
variable {H:Type} {enc:TypeId×Value->H} {P:Program} {w:World} {base:Nat} {spare:Nat->Bool} {held:Bool} {α β γ:Type} [aZ α] [aZ β] [aZ γ] {t e:TypeId}
theorem oG.q (h:oG enc P w base spare held α t):mF enc P w base spare held α t (λ_=>True):=⟨h.1,λfuel cs x hx _=>by
 obtain⟨a,ha⟩:=h.2 fuel cs x hx;exact⟨a,ha,trivial⟩⟩
theorem mF.mono {Q R:α->Prop} (h:mF enc P w base spare held α t Q) (HU:∀a,Q a->R a):mF enc P w base spare held α t R:=⟨h.1,λfuel cs x hx hn=>by
 obtain⟨a,ha,hq⟩:=h.2 fuel cs x hx hn;exact⟨a,ha,HU a hq⟩⟩
theorem I5 {Q:α->Prop} {nb:Nat} (ht:P.underlying t=some (.slice e)) (hc:P.cellsOf t=1) (hsz:0<sz α) (hnb:P.bytesOf e=nb) (he:mF enc P w base spare held α e Q):mF enc P w base spare held (List α) t (λl=>l.length*nb<=reachBytes/\∀y∈l,Q y):=⟨hc,λfuel cs x h hq=>by
 rcases Go.Deep.open_slice ht h with⟨rfl,rfl⟩|⟨a,len,cap,m,n,D,Pl,rfl,hb,hl,hm,M3,rfl,hcell⟩
 ·exact⟨[],⟨none,0,rfl,Nat.le_refl _,by simp,.inl rfl⟩,by simp,λy hy=>by cases hy⟩
 ·have A0:len<=m:=by rw[M3];split<;>omega
  have hw0: (len+(m-len))*nb<=reachBytes:=hq _ (by simp[DataW.weights,ht,hnb]);have hwi:∀i,i<len->∀n∈(D i).weights P e,n<=reachBytes:=λi hi n hn=>hq n (by
   simp only[DataW.weights,ht,List.mem_cons,List.mem_append];exact .inr (.inl (T5 (List.mem_map.2 ⟨i,List.mem_range.2 hi,rfl⟩) hn)))
  have key:∀k,k<=len->∃xs:List α,xs.length=k/\(∀y∈xs,Q y)/\∀i (hi:i<xs.length),∃cs',w.cells? base (a.add (i*sz α)) (sz α)=some cs'/\rep w.heap (au k_) xs[i] cs':=by
   intro k
   induction k with
   |zero=>exact λ_=>⟨[],rfl,λy hy=>(by cases hy),λi hi=>by simp at hi⟩
   |succ k ih=>
    intro hk;obtain⟨xs,mU,M5,hxs⟩:=ih ah;obtain⟨cs',h1,h2⟩:=hcell k ah;obtain⟨y,hy,aS⟩:=he.2 _ _ _ h2 (hwi k ah);rw[he.1] at h1;refine⟨xs++[y],by simp[mU],λz hz=>(List.mem_append.1 hz).elim (M5 z) (λhz=>by rw[List.mem_singleton.1 hz];exact aS),λi hi=>?_⟩;by_cases hik:i<xs.length
    ·rw[List.getElem_append_left hik];exact hxs i hik
    ·have En:i=k:=by simp at hi;omega
     subst En;rw[List.getElem_append_right ah];exact⟨cs',h1,by simpa[mU] using hy⟩
  obtain⟨xs,mU,M5,hxs⟩:=key len (Nat.le_refl _);refine⟨xs,?_,by rw[mU];exact Nat.le_trans (Nat.mul_le_mul_right _ ah) hw0,M5⟩;refine⟨some a,cap,by rw[mU],by omega,by unfold maxLen at hm;omega,?_⟩;by_cases h0:len=0
  ·left;exact List.length_eq_zero_iff.1 ah
  ·right;have hall:∀i (hi:i<xs.length),∃cs',cs'.length=sz α/\(∀j (hj:j<cs'.length),w.cell? (a.add (i*sz α+j))=some cs'[j])/\rep w.heap (au k_) xs[i] cs':=λi hi=>by
    obtain⟨cs',h1,h2⟩:=hxs i hi;obtain⟨_,h3,h4⟩:=World.cells?_some h1;refine⟨cs',h3,λj hj=>?_,h2⟩;have h5:=h4 j ah;rw[Addr.add_add] at h5;rw[h5];exact List.getElem?_eq_getElem hj
   obtain⟨c0,F3,hc0,_⟩:=hall 0 ah;have pN:=hc0 0 ah;obtain⟨b,off,spot⟩:=a;have M4:spot=none:=by simpa[Addr.add] using World.cell?_spot pN
   subst M4;refine⟨b,off,rfl,?_⟩;simp only[qt] at hall pN;unfold World.cell? at pN;simp only at pN;cases hbk:w.heap[b]? with
   |none=>rw[hbk] at pN;cases pN
   |some fh=>
    cases fh with
    |cells c ty e8=>
     have mI:∀i (hi:i<xs.length),∃cs',cs'.length=sz α/\(∀j (hj:j<cs'.length),c[off+(i*sz α+j)]?=some cs'[j])/\rep w.heap (au k_) xs[i] cs':=λi hi=>by
      obtain⟨cs',h1,h2,h3⟩:=hall i hi;refine⟨cs',h1,λj hj=>?_,h3⟩;have h4:=h2 j hj;unfold World.cell? at h4;simp only[hbk] at h4;simpa using h4
     refine⟨λh=>h rfl,c,ty,e8,hbk,?_,λi hi=>?_⟩
     ·obtain⟨cs',h1,h2,_⟩:=mI (len-1) ah;have h3:=(Array.getElem?_eq_some_iff.1 (h2 (sz α-1) ah)).1;have h4:len*sz α=(len-1)*sz α+sz α:=by
       have:len=(len-1)+1:=by omega
       rw[this,Nat.succ_mul];simp
      rw[mU,h4];omega
     ·obtain⟨cs',h1,h2,h3⟩:=mI i hi;have:dh c (off+i*sz α) (sz α)=cs':=by
       apply List.ext_getElem?;intro r;simp only[dh,List.getElem?_take,List.getElem?_drop,Array.getElem?_toList];by_cases hr:r<sz α
       ·rw[if_pos hr,List.getElem?_eq_getElem ah,Nat.add_assoc];exact h2 r ah
       ·rw[if_neg hr,List.getElem?_eq_none ah]
      rw[this];exact h3
    |_=>rw[hbk] at pN;cases pN⟩
theorem mF.rv {Q:α->Prop} (h:mF enc P w base spare held α t Q) (hx:aZ.agg α=false) {fuel:Nat} {v:Value} {x:DataW H×List MemPlace} (ht:DataW.trod enc P w base spare held fuel t [v]=some x) (hn:∀n∈x.1.weights P t,n<=reachBytes):∃a:α,av w (au k_) a v/\Q a:=by
 obtain⟨a,ha,hq⟩:=h.2 _ _ _ ht hn;exact⟨a,tP ha hx,hq⟩
theorem I6 {ts:List TypeId} {ds:List (DataW H)} (h: (DataW.weightsEach P ts ds).all (·<=reachBytes)=true) {j:Nat} {d:DataW H} (ht:ts[j]?=some t) (hd:ds[j]?=some d):∀n∈d.weights P t,n<=reachBytes:=λn hn=>by
 have:=List.all_eq_true.1 h _ (DataW.weights_mem_each ht hd n hn);simpa using this
end
section
variable {H:Type} {enc:TypeId×Value->H} {P:Program} {w:World} {base:Nat} {spare:Nat->Bool} {held:Bool} {α β γ δ ε:Type} [aZ α] [aZ β] [aZ γ] [aZ δ] [aZ ε] {t e:TypeId}
theorem aN {FC:α->Prop} {Q1:β->Prop} {Q2:γ->Prop} {f0 f1 f2:Field} (ht:P.underlying t=some (.struct #[f0,f1,f2])) (hc:P.cellsOf t=sz α+(sz β+sz γ)) (o0:f0.offset=0) (o1:f1.offset=sz α) (o2:f2.offset=sz α+sz β) (h0:mF enc P w base spare held α f0.type FC) (h1:mF enc P w base spare held β f1.type Q1) (h2:mF enc P w base spare held γ f2.type Q2)
  (fuel:Nat) (cs:List Value) (x:DataW H×List MemPlace) (h:DataW.trod enc P w base spare held fuel t cs=some x) (hq:∀n∈x.1.weights P t,n<=reachBytes):∃a:α×β×γ,rep w.heap (au k_) a cs/\FC a.1/\Q1 a.2.1/\Q2 a.2.2:=by
 obtain⟨xs,n,_,rfl,hl,mU,hf⟩:=DataW.trod_struct ht h;have zT:xs.length=3:=mU;have hw:∀(j:Nat) (hj:j<xs.length) (t':TypeId),[f0.type,f1.type,f2.type][j]?=some t'->∀m∈(xs[j]).1.weights P t',m<=reachBytes:=λj hj t' ht' m hm=>hq m (by
  simp only[DataW.weights,ht];exact DataW.weights_mem_each (j:=j) ht' (by rw[List.getElem?_map,List.getElem?_eq_getElem hj];rfl) m hm)
 have e0:=hf 0 f0 rfl;have e1:=hf 1 f1 rfl;have e2:=hf 2 f2 rfl;rw[o0,h0.1,List.drop_zero,List.getElem?_eq_getElem ah] at e0;rw[o1,h1.1,List.getElem?_eq_getElem ah] at e1;rw[o2,h2.1,List.take_of_length_le GQ,List.getElem?_eq_getElem ah] at e2;obtain⟨a0,AJ,q0⟩:=h0.2 _ _ _ e0 (hw 0 ah _ rfl);obtain⟨a1,r1,q1⟩:=h1.2 _ _ _ e1 (hw 1 ah _ rfl);obtain⟨a2,r2,q2⟩:=h2.2 _ _ _ e2 (hw 2 ah _ rfl);refine⟨(a0,a1,a2),⟨cs.take (sz α),cs.drop (sz α),(List.take_append_drop (sz α) _).symm,?_,(cs.drop (sz α)).take (sz β),(cs.drop (sz α)).drop (sz β),(List.take_append_drop (sz β) _).symm,?_,?_⟩,q0,q1,q2⟩
 ·exact AJ
 ·exact r1
 ·rw[List.drop_drop];exact r2
theorem Pt {FC:α->Prop} {Q1:β->Prop} {Q2:γ->Prop} {Q3:δ->Prop} {Q4:ε->Prop} {f0 f1 f2 f3 f4:Field} (ht:P.underlying t=some (.struct #[f0,f1,f2,f3,f4])) (hc:P.cellsOf t=sz α+(sz β+(sz γ+(sz δ+sz ε)))) (o0:f0.offset=0) (o1:f1.offset=sz α) (o2:f2.offset=sz α+sz β) (Cx:f3.offset=sz α+sz β+sz γ) (vY:f4.offset=sz α+sz β+sz γ+sz δ) (h0:mF enc P w base spare held α f0.type FC) (h1:mF enc P w base spare held β f1.type Q1) (h2:mF enc P w base spare held γ f2.type Q2) (h3:mF enc P w base spare held δ f3.type Q3) (h4:mF enc P w base spare held ε f4.type Q4)
  (fuel:Nat) (cs:List Value) (x:DataW H×List MemPlace) (h:DataW.trod enc P w base spare held fuel t cs=some x) (hq:∀n∈x.1.weights P t,n<=reachBytes):∃a:α×β×γ×δ×ε,rep w.heap (au k_) a cs/\FC a.1/\Q1 a.2.1/\Q2 a.2.2.1/\Q3 a.2.2.2.1/\Q4 a.2.2.2.2:=by
 obtain⟨xs,n,_,rfl,hl,mU,hf⟩:=DataW.trod_struct ht h;have zT:xs.length=5:=mU;have hw:∀(j:Nat) (hj:j<xs.length) (t':TypeId),[f0.type,f1.type,f2.type,f3.type,f4.type][j]?=some t'->∀m∈(xs[j]).1.weights P t',m<=reachBytes:=λj hj t' ht' m hm=>hq m (by
  simp only[DataW.weights,ht];exact DataW.weights_mem_each (j:=j) ht' (by rw[List.getElem?_map,List.getElem?_eq_getElem hj];rfl) m hm)
 have e0:=hf 0 f0 rfl;have e1:=hf 1 f1 rfl;have e2:=hf 2 f2 rfl;have fA:=hf 3 f3 rfl;have jL:=hf 4 f4 rfl;rw[o0,h0.1,List.drop_zero,List.getElem?_eq_getElem ah] at e0;rw[o1,h1.1,List.getElem?_eq_getElem ah] at e1;rw[o2,h2.1,List.getElem?_eq_getElem ah] at e2;rw[Cx,h3.1,List.getElem?_eq_getElem ah] at fA;rw[vY,h4.1,List.take_of_length_le GQ,List.getElem?_eq_getElem ah] at jL;obtain⟨a0,AJ,q0⟩:=h0.2 _ _ _ e0 (hw 0 ah _ rfl);obtain⟨a1,r1,q1⟩:=h1.2 _ _ _ e1 (hw 1 ah _ rfl);obtain⟨a2,r2,q2⟩:=h2.2 _ _ _ e2 (hw 2 ah _ rfl);obtain⟨a3,r3,xZ⟩:=h3.2 _ _ _ fA (hw 3 ah _ rfl);obtain⟨a4,T6,T7⟩:=h4.2 _ _ _ jL (hw 4 ah _ rfl);refine⟨(a0,a1,a2,a3,a4),⟨cs.take (sz α),cs.drop (sz α),(List.take_append_drop (sz α) _).symm,?_,(cs.drop (sz α)).take (sz β),(cs.drop (sz α)).drop (sz β),(List.take_append_drop (sz β) _).symm,?_,((cs.drop (sz α)).drop (sz β)).take (sz γ),((cs.drop (sz α)).drop (sz β)).drop (sz γ),(List.take_append_drop (sz γ) _).symm,?_,(((cs.drop (sz α)).drop (sz β)).drop (sz γ)).take (sz δ),(((cs.drop (sz α)).drop (sz β)).drop (sz γ)).drop (sz δ),(List.take_append_drop (sz δ) _).symm,?_,?_⟩,q0,q1,q2,xZ,T7⟩
 ·exact AJ
 ·exact r1
 ·rw[List.drop_drop];exact r2
 ·rw[List.drop_drop,List.drop_drop];simpa only[Nat.add_assoc] using r3
 ·rw[List.drop_drop,List.drop_drop,List.drop_drop];simpa only[Nat.add_assoc] using T6
end
section
variable {h:Array Obj} {M:Nat->Prop} {vs:List Value} {w:World} {cs:Array Value} {α β:Type} [aZ α] [aZ β]
theorem dS {l:List Value} (e:cs.toList=l):cs=l.toArray:=by rw[<-e]
end
end Go.K
