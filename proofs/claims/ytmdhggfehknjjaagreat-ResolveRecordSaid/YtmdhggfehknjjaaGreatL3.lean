/- Solving again what is touched. Plain. -/
import Derived.Test.YtmdhggfehknjjaaGreatL2
import Derived.Test.YtmdhggfehknjjaaGreatL1
import Derived.Shelf.SlSortCmp.NoneTotal
import Derived.RangeFuncLeaves
import Derived.RangeFuncNested
import Derived.WalkKit
import Derived.ProofKit
import Derived.OpenShut
import Derived.ChangeSlices
import Derived.Below
import Derived.Carry
import Derived.Deep.Slices
import Derived.WideShapes
import Derived.ChangeArms
set_option linter.unusedVariables false
set_option linter.unusedSimpArgs false
set_option linter.unusedSectionVars false
namespace Go.K
open aY
section
variable {l:List bk} {ds ds':List cC} {R:List av}
theorem N6 (h:∀a∈R,∀b∈R,iU ds a b=iU ds' a b) {a b:av} (ha:a∈R) (hb:b∈R):fJ ds a b=fJ ds' a b:=by unfold fJ;rw[h a ha b hb,h b hb a ha]
theorem any_congr {α:Type} {p q:α->Bool}:∀{s:List α},(∀x∈s,p x=q x)->s.any p=s.any q
 |[],_=>rfl
 |a::t,h=>by rw[List.any_cons,List.any_cons,h a (by simp),any_congr λx hx=>h x (by simp[hx])]
theorem XT (h:∀a∈R,∀b∈R,iU ds a b=iU ds' a b) {s:List av} {r:av} (hs:∀x∈s,x∈R) (hr:r∈R):oC ds s r=oC ds' s r:=by
 unfold oC;rw[any_congr λx hx=>N6 h (hs x hx) hr]
theorem N7 {sets:List (List av)} (hs:∀s∈sets,∀x∈s,x∈R) (k:Nat):∀x∈sets.getD k [],x∈R:=λx hx=>by
 have hk:=VB hx;rw[tP hk] at hx;exact hs _ (List.getElem_mem hk) x hx
theorem Iq (h:∀a∈R,∀b∈R,iU ds a b=iU ds' a b):∀(rs:List av) (sets:List (List av)),(∀r∈rs,r∈R)->(∀s∈sets,∀x∈s,x∈R)->mC ds rs sets=mC ds' rs sets
 |[],_,_,_=>rfl
 |r::rs,sets,hr,hs=>by
  have Ir:=hr r (by simp);have jK:∀x∈rs,x∈R:=λx hx=>hr x (by simp[hx]);rw[mC,mC,Iq h rs (sets++[[r]]) jK (λs hm x hx=>by
   rcases List.mem_append.1 hm with hm|hm
   ·exact hs s hm x hx
   ·rw[List.mem_singleton] at hm;subst hm;rw[List.mem_singleton] at hx;subst hx;exact Ir)]
  congr 2;funext k;rw[XT h (N7 hs k) Ir];split
  ·refine Iq h rs _ jK λs hm x hx=>?_;rcases List.mem_or_eq_of_mem_set hm with hm|hm
   ·exact hs s hm x hx
   ·subst hm;rcases List.mem_append.1 hx with hx|hx
    ·exact N7 hs k x hx
    ·rw[List.mem_singleton] at hx;subst hx;exact Ir
  ·rfl
theorem XU (h:∀a∈bg l,∀b∈bg l,iU ds a b=iU ds' a b):oD l ds=oD l ds':=by
 unfold oD qn;rw[Iq h _ _ (λr hr=>hr) (by simp)]
theorem XV (h:∀a∈R,∀b∈R,iU ds a b=iU ds' a b) {g:av->List av} (hg:∀r∈R,∀x∈g r,x∈R) {b:bk} (hA:b.A∈R) (hB:b.B∈R):
  nT ds g b=nT ds' g b/\∀r∈R,∀x∈nT ds g b r,x∈R:=by
 have e:sU ds (g b.A) (g b.B)=sU ds' (g b.A) (g b.B):=by
  unfold sU;exact any_congr λx hx=>any_congr λy hy=>N6 h (hg _ hA x hx) (hg _ hB y hy)
 refine⟨by unfold nT;rw[e],λr hr x hx=>?_⟩;unfold nT at hx;split at hx
 ·exact hg r hr x hx
 ·simp only at hx;split at hx
  ·rcases List.mem_append.1 hx with hx|hx
   ·exact hg _ hA x hx
   ·exact hg _ hB x hx
  ·exact hg r hr x hx
theorem N8 (h:∀a∈R,∀b∈R,iU ds a b=iU ds' a b):∀(ord:List bk) (g:av->List av),(∀r∈R,∀x∈g r,x∈R)->(∀b∈ord,b.A∈R/\b.B∈R)->ord.foldl (nT ds) g=ord.foldl (nT ds') g
 |[],_,_,_=>rfl
 |b::ord,g,hg,hb=>by
  obtain⟨e,hg2⟩:=XV h hg (hb b (by simp)).1 (hb b (by simp)).2;rw[List.foldl_cons,List.foldl_cons,<-e];exact N8 h ord _ hg2 λc hc=>hb c (by simp[hc])
theorem XW (h:∀a∈bg l,∀b∈bg l,iU ds a b=iU ds' a b):xB l ds=xB l ds':=by
 unfold xB d_;rw[N8 h _ _ (λr hr x hx=>by rw[List.mem_singleton] at hx;subst hx;exact hr) λb hb=>⟨ji.2 ⟨b,HY b hb,.inl rfl⟩,ji.2 ⟨b,HY b hb,.inr rfl⟩⟩]
theorem XX (h:∀a∈bg l,∀b∈bg l,iU ds a b=iU ds' a b):fc ds l=fc ds' l:=by unfold fc;rw[XU h,XW h]
end
def nW (s:List av) (l:List bk):List bk:=l.filter λx=>decide (x.A∈s\/x.B∈s)
def EC (d1 d2:List cC) (s:List av):Prop:=∀a∈s,∀b∈s,iU d1 a b=iU d2 a b
instance (d1 d2:List cC) (s:List av):Decidable (EC d1 d2 s):=by unfold EC;exact inferInstance
def nX (old:List bk) (d1 d2:List cC) (s:List av) (bs:List bk):Bool:=decide (nW s old=bs/\EC d1 d2 s)
section
variable {old b_:List bk} {d1 d2:List cC} {zs us ys out:List (List av)}
theorem ED {s:List av} {l:List bk} {x:bk}:x∈nW s l↔x∈l/\(x.A∈s\/x.B∈s):=by unfold nW;rw[List.mem_filter,decide_eq_true_eq]
theorem XY {i:Nat} (h:i<(a_ b_).length) (hk:nW (bg (a_ b_)[i]) old=(a_ b_)[i]):∃j,∃hj:j<(a_ old).length,(a_ old)[j]=(a_ b_)[i]:=by
 obtain⟨P,hP⟩:∃P,P=(a_ b_)[i]:=⟨_,rfl⟩
 have hne:P≠[]:=by rw[hP];exact HZ h
 have hc:∀a∈bg P,∀b∈bg P,cv P a=cv P b:=by rw[hP];exact NA h
 rw[<-hP] at hk⊢;obtain⟨x,hx⟩:∃x,x∈P:=List.exists_mem_of_ne_nil _ hne;have xK:∀y∈P,y∈old:=λy hy=>by rw[<-hk] at hy;exact(ED.1 hy).1
 have N9:x.A∈bg P:=ji.2 ⟨x,hx,.inl rfl⟩;obtain⟨j,hj,XZ⟩:=Wq (ji.2 ⟨x,xK x hx,.inl rfl⟩:x.A∈bg old);refine⟨j,hj,?_⟩;have hq:=((qM hj).1 XZ).2;have hinv:=λr=>vi (p:=λr=>decide (r∈bg P)) (l:=old) (λy hy=>by
  refine decide_eq_decide.2 ⟨λhm=>?_,λhm=>?_⟩
  ·have:y∈P:=by rw[<-hk];exact ED.2 ⟨hy,.inl hm⟩
   exact ji.2 ⟨y,this,.inr rfl⟩
  ·have:y∈P:=by rw[<-hk];exact ED.2 ⟨hy,.inr hm⟩
   exact ji.2 ⟨y,this,.inl rfl⟩) r
 rw[<-hk];rw[BM];unfold nW;refine List.filter_congr λy hy=>?_;rw[<-hq];refine decide_eq_decide.2 ⟨λe=> .inl ?_,λe=>?_⟩
 ·have h1:=hinv y.A;have h2:=hinv x.A;rw[e] at h1;have h3:=h1.symm.trans h2;rw[decide_eq_true N9] at h3;exact of_decide_eq_true h3
 ·have hy2:y∈P:=by rw[<-hk];exact ED.2 ⟨hy,e⟩
  exact DZ xK (hc _ (ji.2 ⟨y,hy2,.inl rfl⟩) _ N9)
theorem Is {α:Type} {r:α->α->Prop} (hr:∀x y,r x y->r y x->False):∀{a b:List α},a.Perm b->a.Pairwise r->b.Pairwise r->a=b
 |[],b,hp,_,_=>hp.nil_eq
 |x::a,b,hp,ha,hb=>by
  cases b with
  |nil=>exact absurd hp.length_eq (by simp)
  |cons y b=>
   have hxy:x=y:=by
    rcases List.mem_cons.1 (hp.mem_iff.1 (List.mem_cons_self:x∈x::a)) with e|hx
    ·exact e
    ·rcases List.mem_cons.1 (hp.mem_iff.2 (List.mem_cons_self:y∈y::b)) with e|hy
     ·exact e.symm
     ·exact(hr x y ((List.pairwise_cons.1 ha).1 y hy) ((List.pairwise_cons.1 hb).1 x hx)).elim
   subst hxy;rw[Is hr (List.Perm.cons_inv hp) (List.pairwise_cons.1 ha).2 (List.pairwise_cons.1 hb).2]
theorem N_ {A:List (List av)} (hl:∀p∈A,2<=p.length) (hd:A.flatten.Nodup) (h:eB eW A zs):zs.Pairwise λp q=>gH (p.headD ⟨0,0⟩) (q.headD ⟨0,0⟩):=by
 have hn:zs.flatten.Nodup:=(h.perm.flatten.nodup_iff).2 hd;have hd:=HX hn;rw[List.pairwise_iff_getElem] at hd⊢;intro i j hi hj hij;have h1:=h.le hij hj;have h2:=hd i j hi hj hij;have l1:=hl _ (h.perm.mem_iff.1 (List.getElem_mem hi));have l2:=hl _ (h.perm.mem_iff.1 (List.getElem_mem hj));have hm:∀{s:List av},2<=s.length->s.headD ⟨0,0⟩∈s:=λ{s} h=>by cases s with|nil=>simp at h|cons a t=>simp
 refine wY.1 ?_;unfold eW at h1;rcases Int.lt_or_eq_of_le h1 with h3|h3
 ·exact h3
 ·have h5:=Gi.1 h3;exact absurd (h5▸hm l2:zs[i].headD ⟨0,0⟩∈zs[j]) (h2 _ (hm l1))
theorem X0 {A B:List (List av)} (hp:A.Perm B) (hl:∀p∈B,2<=p.length) (hd:B.flatten.Nodup) (h1:eB eW A us) (h2:eB eW B ys):us=ys:=by
 have hA:∀p∈A,2<=p.length:=λp hm=>hl p (hp.mem_iff.1 hm);have X7:A.flatten.Nodup:=(hp.flatten.nodup_iff).2 hd;refine Is (r:=λp q=>gH (p.headD ⟨0,0⟩) (q.headD ⟨0,0⟩)) (λx y a b=>wX _ (Bl a b)) (h1.perm.trans (hp.trans h2.perm.symm)) (N_ hA X7 h1) (N_ hl hd h2)
theorem X8 {α β:Type} {f:α->List β} {L:List α} {j:Nat} (hj:j<L.length) (h:∀i (hi:i<L.length),i≠j->f L[i]=[]):L.flatMap f=f L[j]:=by
 have e:L=L.take j++L[j]::L.drop (j+1):=by rw[<-List.drop_eq_getElem_cons hj,List.take_append_drop]
 have h1: (L.take j).flatMap f=[]:=List.flatMap_eq_nil_iff.2 λx hx=>by
  obtain⟨i,hi,rfl⟩:=List.getElem_of_mem hx;rw[List.length_take] at hi;rw[List.getElem_take];exact h i (by omega) (by omega)
 have h2: (L.drop (j+1)).flatMap f=[]:=List.flatMap_eq_nil_iff.2 λx hx=>by
  obtain⟨i,hi,rfl⟩:=List.getElem_of_mem hx;rw[List.length_drop] at hi;rw[List.getElem_drop];exact h _ (by omega) (by omega)
 conv=>lhs;rw[e]
 rw[List.flatMap_append,List.flatMap_cons,h1,h2];simp
theorem Oa {s:List av} (h:2<=s.length):s.headD ⟨0,0⟩∈s:=by cases s with|nil=>simp at h|cons a t=>simp
theorem X9 (hS:eB eW (eS (fc d1) (a_ old)) zs) {i:Nat} (h:i<(a_ b_).length) (hk:nX old d1 d2 (bg (a_ b_)[i]) (a_ b_)[i]=true):
  (zs.filter λp=>decide (p.headD ⟨0,0⟩∈bg (a_ b_)[i])).Perm (fc d2 (a_ b_)[i]).1:=by
 obtain⟨nR,hk2⟩:=of_decide_eq_true hk;obtain⟨j,hj,e⟩:=XY h nR;rw[<-XX hk2,<-e];refine(hS.perm.filter _).trans (List.Perm.of_eq ?_);unfold eS;rw[List.filter_flatMap,X8 hj]
 ·refine List.filter_eq_self.2 λp hp=>decide_eq_true ?_;have hP:=qP d1 (a_ old)[j];exact hP.refs hp (Oa (hP.len p hp))
 ·intro k aC hne;refine List.filter_eq_nil_iff.2 λp hp hm=>hne ?_;have hP:=qP d1 (a_ old)[k];exact Ep aC hj (hP.refs hp (Oa (hP.len p hp))) (of_decide_eq_true hm)
theorem X_ {i:Nat} (h:i<(a_ b_).length) (hS:eB eW (eS (fc d2) (a_ (a_ b_)[i])) us):us.Perm (fc d2 (a_ b_)[i]).1:=by
 have:=hS.perm;rw[Xo h] at this;simpa[eS] using this
def qt (old:List bk) (d1 d2:List cC) (b_:List bk) (k:Nat):List (List av):=(((a_ b_).take k).filter λp=>!nX old d1 d2 (bg p) p).map bg
theorem Ya {k:Nat} (h:k<(a_ b_).length):qt old d1 d2 b_ (k+1)=if nX old d1 d2 (bg (a_ b_)[k]) (a_ b_)[k]=true then qt old d1 d2 b_ k else qt old d1 d2 b_ k++[bg (a_ b_)[k]]:=by
 unfold qt;rw[List.take_succ_eq_append_getElem h,List.filter_append,List.map_append];by_cases e:nX old d1 d2 (bg (a_ b_)[k]) (a_ b_)[k]=true
 ·rw[if_pos e,List.filter_cons_of_neg (by simp[e])];simp
 ·rw[if_neg e,List.filter_cons_of_pos (by simpa using e)];simp
theorem Oc (k:Nat): (qt old d1 d2 b_ k).length<=(a_ b_).length:=by
 unfold qt;rw[List.length_map];exact Nat.le_trans (List.length_filter_le _ _) (by rw[List.length_take];omega)
theorem Yb (hp:out.Perm (eS (fc d2) (a_ b_))) (h1:eB eW out us) (h2:eB eW (eS (fc d2) (a_ b_)) ys):us=ys:=
 X0 hp (zw λi hi=>qP d2 _) (HU λi hi=>qP d2 _) h1 h2
end
section
variable {l:List bk} {g c:av} {zs us:List (List av)}
end
theorem Yc {n:Nat} (h:n<=3): (([800,500,300]:List Int).take n).length=n:=by rw[List.length_take];simp only[List.length_cons,List.length_nil];omega
theorem Yd {n:Nat}:∀x∈([800,500,300]:List Int).take n,0<=x/\x<=1000:=λx hx=>by
 have h1:∀x∈([800,500,300]:List Int),0<=x/\x<=1000:=by simp
 exact h1 x (List.mem_of_mem_take hx)
section
variable {sh:List (List ej)} {l:List ej} {n k r i:Nat}
theorem qk.Ye (h:qk n k l) (i:Nat):qk n k (l.take i++l.drop (i+1)):=by
 have hs: (l.take i++l.drop (i+1)).Sublist l:=by
  rw[<-List.eraseIdx_eq_take_drop_succ];exact List.eraseIdx_sublist l i
 exact⟨Nat.le_trans hs.length_le h.len,λx hx=>h.all x (hs.subset hx),h.jj.sublist hs⟩
theorem kJ.Iu (h:kJ n k sh) {l:List ej} (hl:qk n k l):kJ n k (sh.set r l):=
 ⟨by rw[List.length_set];exact h.len,λx hx=>by
  rcases List.mem_or_eq_of_mem_set hx with hx|rfl
  ·exact h.all x hx
  ·exact hl⟩
end
section
variable {α:Type} [aY α] {w w1:World} {C:Nat->Nat} {P:Program} {N:Nat} {Q:Exit->Act->World->Prop} {env:Env} {ops:Array Oper} {S:World->Prop} {i t:Nat} {L:List (Nat×Bool)} {v:Value} {y z:Operand} {T e e':TypeId} {xs:List α} {j k:Nat} {kd:IntKind}
theorem Yf (hop:cq ops i=some (some t,.slice T y none (some z) none,none)) (h:aX w1 C j e v xs) (hy:ev env y=some v) (hf:h_ P T=some (e',sz α)) (hz:ev env z=some (.int kd k)) (h1:k<xs.length) (ht:Nat.blt t N=true)
  (c:∀v1,HA v v1 k->bK P N Q ops S L ((t,v1)::env) w):bK P N Q ops S ((i,true)::L) env w:=by
 obtain⟨v1,hc,hv⟩:=h.Wj (P:=P) (N:=N) hy hf hz h1;exact eG hop rfl ht (λw' _=>hv w') (c v1 hc)
theorem Yg {n:Int} (hop:cq ops i=some (some t,.slice T y (some z) none none,none)) (h:aX w1 C j e v xs) (hy:ev env y=some v) (hf:h_ P T=some (e',sz α)) (hz:ev env z=some (.int kd n)) (hn:n=((k+1:Nat):Int)) (h1:k<xs.length) (ht:Nat.blt t N=true)
  (c:∀v2,HB (sz α) v v2 (k+1)->bK P N Q ops S L ((t,v2)::env) w):bK P N Q ops S ((i,true)::L) env w:=by
 subst hn;obtain⟨v2,hc,hv⟩:=h.Wk (P:=P) (N:=N) hy hf hz (by omega) (by omega) (by omega);exact eG hop rfl ht (λw' _=>hv w') (c v2 hc)
end
section
variable {n k i r:Nat} {l:List ej} {x:ej} {sh:List (List ej)}
theorem qk.put (h:qk n k l) (hi:i<l.length) (hx:rT n k x) (he:x.rc.id=l[i].rc.id):qk n k (l.set i x):=by
 refine⟨by rw[List.length_set];exact h.len,λy hy=>?_,?_⟩
 ·rcases List.mem_or_eq_of_mem_set hy with hy|rfl
  ·exact h.all y hy
  ·exact hx
 ·have e: (l.set i x).map (λy=>y.rc.id)=l.map λy=>y.rc.id:=by
   rw[List.map_set,he];refine List.ext_getElem (by simp) λj h1 h2=>?_;rw[List.getElem_set];split
   ·rename_i e;subst e;simp
   ·rfl
  have h1: (l.map λy=>y.rc.id).Pairwise (·<·):=List.pairwise_map.2 h.jj;rw[<-e] at h1;exact List.pairwise_map.1 h1
theorem rT.up (h:rT n k x) (hv:x.rc.ver<=2):rT n k ⟨⟨x.rc.id,x.rc.ver+1,x.rc.eL⟩,x.hs,x.has⟩:=⟨h.id,⟨by have:=h.ver.1;show 1<=x.rc.ver+1;omega,by show x.rc.ver+1<=1048576;omega⟩,h.fl,h.fo,h.hl,h.ha⟩
theorem rT.hash (h:rT n k x) (u:iM) (b:Bool):rT n k ⟨x.rc,x.hs.set 0 u,x.has.set 0 b⟩:=⟨h.id,h.ver,h.fl,h.fo,by rw[List.length_set];exact h.hl,by rw[List.length_set];exact h.ha⟩
theorem qk.uniq {i j:Nat} (h:qk n k l) (hi:i<l.length) (hj:j<l.length) (e:l[j].rc.id=l[i].rc.id):j=i:=by
 have hp:=List.pairwise_iff_getElem.1 h.jj;rcases Nat.lt_trichotomy j i with h1|h1|h1
 ·have:=hp j i hj hi h1;omega
 ·exact h1
 ·have:=hp i j hi hj h1;omega
def EE (sh:List (List ej)) (c:av) (r i:Nat):Prop:=∃(hr:r<sh.length) (hi:i<sh[r].length),c=⟨(r:Int),sh[r][i].rc.id⟩
structure B8 (sh:List (List ej)) (k:Nat) (p:List av) (q r i jY kN hw:Nat):Prop where
 ne:jY≠q
 ld:jY<p.length
 lh:hw<k
 it:∃s,EE sh p[jY] s kN/\∀(hs:s<sh.length) (hj:kN<sh[s].length) (hr:r<sh.length) (hi:i<sh[r].length),pL sh[s][kN] sh[r][i] hw=true
theorem Od {x y:ej} (hx:rT n k x) (hy:rT n k y) (h:nM x y=true):∃q,q<k/\pL x y q=true:=by
 unfold nM at h;rw[G7 hx.hl hx.ha hy.hl hy.ha,List.any_eq_true] at h;obtain⟨q,hq,e⟩:=h;exact⟨q,List.mem_range.1 hq,e⟩
theorem Yh {x y:ej} {q:Nat}:pL x y q=pL y x q:=by
 unfold pL;rw[Bool.and_comm (x.has.getD q false)];congr 1;exact decide_eq_decide.2 eq_comm
theorem Oe {s:Nat} {x:ej} (hs:s<sh.length) (h:x∈lW sh s):∃i,∃hi:i<sh[s].length,sh[s][i]=x:=by
 unfold lW at h;rw[List.getD_eq_getElem?_getD,List.getElem?_eq_getElem hs,Option.getD_some] at h;obtain⟨i,hi,e⟩:=List.getElem_of_mem h;exact⟨i,hi,e⟩
theorem Og {m:tO} {hi:Int} {ds:List cC} {ps:List (List av)} (hS:kJ n k sh) (h:iE (kW hi (jD m sh sh.length)) ds ps) {p:List av} (hp:p∈ps) {q:Nat} (hq:q<p.length):
  ∃r i jY kN hw,EE sh p[q] r i/\B8 sh k p q r i jY kN hw:=by
 obtain⟨d,hd,hne,r,s,x,y,hr,hs,hx,hy,hc,Yi,_,k5⟩:=VW h hp (List.getElem_mem hq);obtain⟨i,hi,rfl⟩:=Oe hr hx;obtain⟨j,hj,rfl⟩:=Oe hs hy;obtain⟨jY,Oh,rfl⟩:=List.getElem_of_mem hd;have Oi:=(hS.all _ (List.getElem_mem hr)).all _ (List.getElem_mem hi);have Oj:=(hS.all _ (List.getElem_mem hs)).all _ (List.getElem_mem hj);have hg:∃z,z<k/\pL sh[s][j] sh[r][i] z=true:=by
  rcases k5 with k5|k5
  ·obtain⟨z,h1,h2⟩:=Od Oi Oj k5;exact⟨z,h1,by rw[Yh];exact h2⟩
  ·exact Od Oj Oi k5
 obtain⟨z,hz,hg⟩:=hg;exact⟨r,i,jY,j,z,⟨hr,hi,hc⟩,λe=>hne (by subst e;rfl),Oh,hz,s,⟨hs,hj,Yi⟩,λ_ _ _ _=>hg⟩
theorem B8.lt {p:List av} {q r i jY kN hw e r1 i1:Nat} (W:B8 sh k p q r i jY kN hw) (he:e<p.length) (hl:EE sh p[e] r1 i1) (iW:r1<sh.length) (h1:jY=e):kN<sh[r1].length:=by
 subst h1;obtain⟨s,⟨hs,hj,e1⟩,h⟩:=W.it;obtain⟨_,_,e2⟩:=hl;have eU:r1=s:=by rw[e1] at e2;simp only[av.mk.injEq] at e2;omega
 subst eU;exact hj
theorem B8.here {p:List av} {q r i jY kN hw e r1 i1 y:Nat} (W:B8 sh k p q r i jY kN hw) (he:e<p.length) (hl:EE sh p[e] r1 i1) (iW:r1<sh.length) (hy:y<sh[r1].length) (hr:r<sh.length) (hi:i<sh[r].length) (h1:jY=e) (h2:kN=y):
  sh[r1][y].rc.id=p[e].b/\pL sh[r1][y] sh[r][i] hw=true:=by
 subst h1;subst h2;obtain⟨s,⟨hs,hj,e1⟩,h⟩:=W.it;obtain⟨_,_,e2⟩:=hl;have eU:r1=s:=by rw[e1] at e2;simp only[av.mk.injEq] at e2;omega
 subst eU;exact⟨by rw[e1],h _ hy hr hi⟩
end
end Go.K
namespace Go.K
open aY Go.Proofs Go.Shelf Go.Sort
theorem Yj {W w':World} (h:Ext (λ_=>False) W w'):∃q os',w'=grow (W.drewN q) os':=by
 refine⟨w'.drawn-W.drawn,w'.heap.extract W.heap.size w'.heap.size,?_⟩;obtain⟨h1,h2,h3,h4,h5,h6⟩:=h;obtain⟨hp,tp,aag,os,out⟩:=w';simp only at h1 h2 h3 h4 h5 h6;unfold lP at h6;simp only at h6;subst h1 h2 h3;simp only[grow,World.drewN,World.mk.injEq,and_true,true_and];refine⟨?_,by omega⟩;apply Array.ext_getElem?;intro b;rw[Array.getElem?_append];split
 ·rename_i hb;exact h5 b hb (λh=>h)
 ·rename_i hb;rw[Array.getElem?_extract];simp only[Nat.min_self];split
  ·congr 1;omega
  ·rw[Array.getElem?_eq_none (by omega)]
section
variable {P:Program} {ρ:Ren} {α:Type} [Inhabited α] [aY α] {enc:α->List Value} {cf:α->α->Int} {w:World} {C:Nat->Nat} {j g0:Nat} {e:TypeId} {v:Value} {ys:List α}
def zR (cf:α->α->Int):α->α->Bool:=λx y=>!(ltOf cf) y x
theorem Yk {F cs:Array Value} (h:F.size<=cs.size) (t:Nat): (putCells id 0 F cs)[t]?=if t<F.size then F[t]? else cs[t]?:=by
 unfold putCells;rw[Array.getElem?_mapIdx];by_cases ht:t<cs.size
 ·rw[Array.getElem?_eq_getElem ht];simp only[Option.map_some,Nat.zero_le,true_and,Nat.zero_add,Nat.sub_zero,id];split
  ·rename_i h1;rw[Array.getElem?_eq_getElem h1,getElem!_pos F t h1]
  ·rfl
 ·rw[Array.getElem?_eq_none (by omega),if_neg (by omega)];rfl
theorem Ol {k:Nat} (hk:∀x,(enc x).length=k) (d:Array α) {i r:Nat} (hi:i<d.size) (hr:r<k): (flatK enc k d)[i*k+r]?=(enc d[i])[r]?:=by
 have hlt:i*k+r<d.size*k:=by
  have:=Nat.mul_le_mul_right k (show i+1<=d.size from hi);rw[Nat.succ_mul] at this;omega
 have hdiv: (i*k+r)/k=i:=by rw[Nat.mul_comm,Nat.mul_add_div (by omega),Nat.div_eq_of_lt hr];rfl
 have hmod: (i*k+r)%k=r:=by rw[Nat.mul_comm,Nat.mul_add_mod,Nat.mod_eq_of_lt hr]
 have h:=get_flatK enc k d (i*k+r) hlt;rw[hdiv,hmod,getElem!_pos d i hi,getElem!_pos (flatK enc k d) _ (by rw[size_flatK];exact hlt),getElem!_pos (enc d[i]) r (by rw[hk];exact hr)] at h;rw[Array.getElem?_eq_getElem (by rw[size_flatK];exact hlt),h,List.getElem?_eq_getElem]
theorem Om (L:SlLaysF0.n6 P ρ) (aE:∀w,(isAgg (ρ.t 24)).run P w=.ok true w) (zE:∀w,(Go.sizeOf (ρ.t 24)).run P w=.ok (sz α) w)
  (On:∀h M x vs,rep h M x vs↔vs=enc x) (hk:∀x:α,(enc x).length=sz α) (h0:0<sz α) (h1:∀x,∀u∈enc x,u.oneCell'=true) (hO:SWO (ltOf cf)) (hT:∀x y,(ltOf cf) x y=false->(ltOf cf) y x=false->x=y)
  (eg:∀args w,(callFunc g0 args).run P w=.ok (.enter g0 args) w)
  (hcmp:∀W x y,Calls P g0 #[.agg (enc x).toArray,.agg (enc y).toArray] W (bI λu w'=>u=.int .i64 (cf x y)/\Ext (λ_=>False) W w'))
  (hF:aL w C) (ho:aX w C j e v ys) (hlen:ys.length<=140737488355328):
  Calls P (ρ.f 6) #[v,.func (.func g0) #[] #[]] w (bI λu w'=>u=.tuple #[]/\aA [j] w C w' C/\aX w' C j e v (ys.mergeSort (zR cf))/\aL w' C):=by
 obtain⟨hown,ki⟩:=ho;rcases hown with⟨rfl,rfl⟩|⟨g,cap,cs,rfl,hg,hc,hcap,h2,h3⟩
 ·refine(AnyF.slices_SortFunc_none (P:=P) (ρ:=ρ) {L with} none 0 (.func (.func g0) #[] #[]) w).mono ?_;rintro e' w' ⟨rfl,rfl⟩;exact⟨_,rfl,rfl,aA.refl _ _ _,by simpa using(aX.nil (α:=α)),hF⟩
 ·have hcell:∀i (hi:i<ys.length) r,r<sz α->cs[i*sz α+r]?=(enc ys[i])[r]?:=λi hi r hr=>by
   have h:=(On _ _ _ _).1 (h3 i hi);have:=congrArg (λl=>l[r]?) h;simp only[cL,List.getElem?_take,if_pos hr,List.getElem?_drop,Array.getElem?_toList] at this;exact this
  have hH:HoldsK enc (sz α) w g 0 ys.toArray:=λt ht=>by
   rw[size_flatK] at ht;simp only[List.size_toArray] at ht;have hi:t/sz α<ys.length:=Nat.div_lt_of_lt_mul (by rwa [Nat.mul_comm] at ht);have hr:=Nat.mod_lt t h0;have Yl:t/sz α*sz α+t%sz α=t:=by rw[Nat.mul_comm];exact Nat.div_add_mod t (sz α)
   have h5:=hcell _ hi _ hr;have h6:=Ol hk ys.toArray (i:=t/sz α) (r:=t%sz α) (by simpa using hi) hr;rw[Yl] at h5 h6;refine⟨?_,?_⟩
   ·rw[cell_of_row w g (0+t) cs e (0,0) hc,Nat.zero_add,h5];simp only[List.getElem_toArray] at h6;rw[<-h6,id];rw[getElem!_pos _ t (by rw[size_flatK];simpa using ht),Array.getElem?_eq_getElem]
   ·simp[World.frozen?,hc]
  have Ym:CmpLays P g0 #[] enc (sz α) cf g 0 ys.toArray.size w:=λm os dk hd x y=>by
   have h:=hcmp (sortWorldK enc (sz α) w g 0 m dk os) x y;rw[Array.append_empty];refine h.mono ?_;rintro e' w' ⟨u,rfl,rfl,hx⟩;exact⟨rfl,Yj hx⟩
  have hsort:=AnyQ.slices_SortFunc_total L (sz α) aE zE enc hk h1 cf hO g0 #[] g 0 cap ys.toArray w eg Ym hH (qx hc) (by simp;omega) hT;refine hsort.mono ?_;rintro e' w' ⟨rfl,n,os,hw⟩;have xL:=List.mergeSort_perm ys (zR cf);have hl:=xL.length_eq;have hle: (flatK enc (sz α) (ys.mergeSort (zR cf)).toArray).size<=cs.size:=by
   rw[size_flatK,h2];simp only[List.size_toArray,hl];exact Nat.mul_le_mul_right _ hcap
  have jl:w'.heap[g]?=some (.cells (putCells id 0 (flatK enc (sz α) (ys.mergeSort (zR cf)).toArray) cs) e (0,0)):=by
   rw[hw];show(grow (putRow id (Sort.ahead w n) g 0 (flatK enc (sz α) (ys.mergeSort (zR cf)).toArray)) os).heap[g]?=_;simp only[grow,putRow,mapBlock,Sort.ahead];rw[Array.getElem?_append_left (by simpa using qx hc),Array.getElem?_modify,if_pos rfl,hc];rfl
  have tI:aA [j] w C w' C:=⟨⟨by rw[hw];rfl,by rw[hw];rfl,by rw[hw];rfl,by
    rw[hw];show w.heap.size<=(grow (putRow id (Sort.ahead w n) g 0 _) os).heap.size;simp[grow,putRow,mapBlock,Sort.ahead],λb hb hn=>by
    have Yn:g≠b:=λe=>hn (by rw[<-e,ki g rfl];simp);rw[hw];show(grow (putRow id (Sort.ahead w n) g 0 _) os).heap[b]?=_;simp only[grow,putRow,mapBlock,Sort.ahead];rw[Array.getElem?_append_left (by simpa using hb),Array.getElem?_modify,if_neg Yn],by
    rw[hw];unfold lP;exact Nat.le_add_right _ _⟩,λ_ _=>rfl⟩
  refine⟨_,rfl,rfl,tI,⟨.inr ⟨g,cap,_,by rw[hl],hg,jl,by rw[hl];exact hcap,?_,?_⟩,ki⟩,hF.st tI⟩
  ·simp only[putCells,Array.size_mapIdx];exact h2
  ·intro i hi;refine(On _ _ _ _).2 ?_;apply List.ext_getElem?;intro r;simp only[cL,List.getElem?_take,List.getElem?_drop,Array.getElem?_toList];split
   ·rename_i hr;have hlt:i*sz α+r<(flatK enc (sz α) (ys.mergeSort (zR cf)).toArray).size:=by
     rw[size_flatK];simp only[List.size_toArray];have:=Nat.mul_le_mul_right (sz α) (show i+1<=_ from hi);rw[Nat.succ_mul] at this;omega
    rw[Yk hle,if_pos hlt,Ol hk _ (by simpa using hi) hr];simp
   ·rename_i hr;rw[List.getElem?_eq_none (by rw[hk];omega)]
end
end Go.K
namespace Go.K
open aY Go.RowKit
def lY (N:Nat) (env:Env) (a:Act):Prop:=gY N env {a with defers:=[]}
theorem lY.of {N:Nat} {env:Env} {a:Act} (h:gY N env a):lY N env a:=by
 obtain⟨t,d⟩:=a;have:=h.defers;simp only at this;subst this;exact h
theorem lY.back {N:Nat} {env:Env} {a:Act} (h:lY N env a) (hd:a.defers=[]):gY N env a:=by
 obtain⟨t,d⟩:=a;simp only at hd;subst hd;exact h
theorem lY.put {N:Nat} {env:Env} {a:Act} (h:lY N env a) {d:Option Nat} (hd:qw N d=true) (v:Value):lY N (pZ d v env) (a.put d v):=by
 have:=gY.put h hd v;cases d<;>exact this
theorem put_defers (a:Act) (d:Option Nat) (v:Value): (a.put d v).defers=a.defers:=by cases d<;>rfl
def sZ (F:Fence) (n:Nat) (P:Program) (N:Nat) (Q:Exit->Act->World->Prop) (ops:Array Oper) (D:List Deferred) (is:List Nat) (env:Env) (w:World):Prop:=
 ∀a,lY N env a->a.defers=D->wpOpsIn F n P ops Q is a w
section
variable {F:Fence} {n:Nat} {P:Program} {N:Nat} {Q:Exit->Act->World->Prop} {ops:Array Oper} {D:List Deferred} {is:List Nat} {env:Env} {w w':World} {i t:Nat} {d:Option Nat} {op:Op} {v:Value}
theorem B9 (h:∀a,lY N env a->a.defers=D->Q .normal a w):sZ F n P N Q ops D [] env w:=h
theorem xM {T:Value->World->Prop} (hF:∀f,F.fn f) (hop:cq ops i=some (d,op,none)) (gW:∀c,op≠ .defer c) (hd:qw N d=true)
  (hy:gM P N env op w T) (h:∀v w',T v w'->sZ F n P N Q ops D is (pZ d v env) w'):sZ F n P N Q ops D (i::is) env w:=λa ha hD=>by
 obtain⟨o,ho,rfl,rfl,hg⟩:=rC hop;obtain⟨v,w',hrun,hT⟩:=hy _ ha o rfl;have e:execOp a.eval o=execOp ({a with defers:=[]}:Act).eval o:=rfl;simp only[wpOpsIn,ho,Region.wanted,hg,if_true];unfold Oper.wpIn;rw[Oper.semAt_eq _ _ _ gW,e];refine⟨λf _=>hF f,?_⟩;rcases hrun with hrun|⟨hrun,rfl⟩
 ·rw[hrun];exact h v w' hT _ (ha.put hd v) (by rw[put_defers];exact hD)
 ·rw[hrun];exact h undef w' hT _ (ha.put hd undef) (by rw[put_defers];exact hD)
theorem ue (hF:∀f,F.fn f) (hop:cq ops i=some (some t,op,none)) (gW:∀c,op≠ .defer c) (ht:Nat.blt t N=true)
  (hv:cH P N env op w v) (h:sZ F n P N Q ops D is ((t,v)::env) w):sZ F n P N Q ops D (i::is) env w:=
 xM hF hop gW ht (T:=λu w'=>u=v/\w'=w) (λa ha o ho=>⟨v,w,.inl (hv a ha o ho),rfl,rfl⟩) (λu w' hT=>by obtain⟨rfl,rfl⟩:=hT;exact h)
theorem Yo {l:Nat} {y z:Operand} {tys:Array TypeId} {j_:Value} {T:Ending->World->Prop} (hF:∀f,F.fn f) (Yp:F.depth=none) (hop:cq ops i=some (some t,.call {callee:=.value y,args:=#[z],argTypes:=tys},none)) (ht:Nat.blt t N=true)
  (hy:ev env y=some (.func (.yield l) #[] #[])) (hz:ev env z=some j_) (hY:YieldAt F (n-1) P l #[j_] w T)
  (h:∀e w',T e w'->∃v,e=.returned v/\sZ F n P N Q ops D is ((t,v)::env) w'):sZ F n P N Q ops D (i::is) env w:=λa ha hD=>by
 obtain⟨o,ho,xN,Oo,hg⟩:=rC hop;obtain⟨fn,tmps,assign,body,hrun,Iv⟩:=hY;have e:execOp a.eval o=execOp ({a with defers:=[]}:Act).eval o:=rfl;have hy':=gY.ev ha hy;have Yq:=gY.ev ha hz;have hex: (execOp ({a with defers:=[]}:Act).eval o).run P w=.ok (.round l fn tmps assign body) w:=by
  unfold execOp;rw[Oo];simp[hy',Yq,resolve,invoke,Deferred.ofValue,Sem.run_bind,Sem.run_pure,Result.andThen,hrun]
 simp only[wpOpsIn,ho,Region.wanted,hg,if_true];unfold Oper.wpIn;rw[Oper.semAt_eq _ _ _ (by rw[Oo];intro c e;cases e),e,hex];refine⟨λf _=>hF f,(λhs=>by rw[Yp] at hs;cases hs),Iv.mono λe w' hT=>?_⟩;obtain⟨v,rfl,hW⟩:=h e w' hT;rw[xN];exact hW _ (ha.put (d:=some t) ht v) (by rw[put_defers];exact hD)
end
section
variable {P:Program} {f:FuncId} {N:Nat} {k:List Item} {env:Env} {w:World} {R:Value->World->Prop}
theorem Yr {c:Code} (n:Nat) (h:sZ Fence.wide n P N (pY P f k R) (dL c) [] (List.range (dL c).size) env w) (hc:Bd c false=true:=by kernel_rfl):Run P f N (.code c::k) env w R:=λa ha=>by
 obtain⟨id,e⟩:=FY hc;rw[e];exact wI (wpIn_wide.1 (wpIn_region (h a (.of ha) ha.defers)))
theorem Ys {n:Nat} {ops:Array Oper} (h:Run P f N k env w R):sZ Fence.wide n P N (pY P f k R) ops [] [] env w:=λa ha hd=>h a (ha.back hd)
end
def Iw (c:Code) (t:Nat):Bool:=match c with| .rangeFunc (.tmp j) _ _ _=>Nat.beq j t|_=>false
def xO (c:Code):Array Tmp:=match c with| .rangeFunc _ ps _ _=>ps|_=>#[]
def B_ (c:Code):Code:=match c with| .rangeFunc _ _ a _=>a|_=> .skip
def Ca (c:Code):Code:=match c with| .rangeFunc _ _ _ b=>b|_=> .skip
theorem Yt {c:Code} {t:Nat} (h:Iw c t=true):c=.rangeFunc (.tmp t) (xO c) (B_ c) (Ca c):=by
 cases c with
 |rangeFunc g ps a b=>cases g with
  |tmp j=>simp only[Iw] at h;rw[Nat.eq_of_beq_eq_true h];rfl
  |_=>cases h
 |_=>cases h
def EF (n0:Nat) (A B:World):Prop:=∃l o o',n0<=l/\A.heap[l]?=some o/\o.isCells=false/\B=A.putObj l o'
def Iy (n0:Nat) (A B:World):Prop:=∀b o,n0<=b->A.heap[b]?=some o->o.isCells=false->B.heap[b]?=some o
theorem xP {W:World} {b:Nat} {o:Obj} (h:W.heap[b]?=some o):b<W.heap.size:=(Array.getElem?_eq_some_iff.1 h).1
theorem Yu {W:World} {b:Nat} {o o':Obj} (h:W.heap[b]?=some o): (W.alloc o').heap[b]?=some o:=(Below.heap_alloc W o' b (xP h)).trans h
theorem Cc {A B:World} {b:Nat} {o:Obj} (h:A.heap[b]?=some o) (hE:Ext No A B):B.heap[b]?=some o:=(hE.block b (xP h) (λh=>h)).trans h
theorem Ce {W:World} {l b:Nat} {o o':Obj} (h:W.heap[b]?=some o) (hne:b≠l): (W.putObj l o').heap[b]?=some o:=(World.putObj_heap_other hne).trans h
theorem Yv {P:Program} {n:Nat} {c:Code} {Q:Exit->Act->World->Prop} {a:Act} {w:World} {t gf:Nat} {lb:Array Value} {α:Type} {encs:α->Array Value} {xs:List α} {I:List α->World->Prop}
  (hc:Iw c t=true) (Yw:a.eval (.tmp t)=.func (.func gf) #[] lb) (eg:∀args w,(callFunc gf args).run P w=.ok (.enter gf args) w) (hps:∀x,(encs x).size=(xO c).size)
  (Iz:∀pre A B,I pre A->Ext No A B->I pre B) (IA:∀pre A B,I pre A->EF w.heap.size A B->I pre B) (h0:I [] w)
  (Iv:∀l k (hk:k<xs.length) A,I (xs.take k) A->(B_ c).wpIn (Fence.wide.inRound l) 0 P
   (Exit.then (λa1 xQ=>Iy w.heap.size A xQ/\I (xs.take k) xQ/\∀EG,EF w.heap.size xQ EG->I (xs.take k) EG->(Ca c).wpIn (Fence.wide.inRound l) 0 P (λe _ IB=>e=.normal/\Iy w.heap.size EG IB/\I (xs.take (k+1)) IB) a1 EG) (λ_ _ _=>False))
   {tmps:=((xO c).zip (encs xs[k])).foldl (λt (p,v)=>t.setIfInBounds p v) a.tmps,defers:=[]} A)
  (hseq:∀l qu (J:List α->World->Prop),(∀pre A B,J pre A->Ext No A B->J pre B)->(∀pre A,J pre A->I pre A)->
   (∀k (hk:k<xs.length) A,J (xs.take k) A->YieldAt Fence.wide 0 P l (encs xs[k]) A (λe W'=>e=.returned (.bool true)/\J (xs.take (k+1)) W'))->J [] qu->Calls P gf (#[.func (.yield l) #[] #[]]++lb) qu (bI λ_ w'=>J xs w'))
  (hdone:∀D W,w.heap.size<=D->I xs W->W.heap[D]?=some (.deferred (some []))->Q .normal {a with defers:={target:=.collected D,args:=#[]}::a.defers} W):c.wpIn Fence.wide n P Q a w:=by
 rw[Yt hc];refine wpIn_rangeFunc λfn _=>?_;obtain⟨rec,xR⟩:∃rec:LoopState->Option Code->Loop,rec=λst Yx=>{state:=st,pending:=Yx,fn:=fn,tmps:=a.tmps,params:=xO c,assign:=B_ c,body:=Ca c,defers:=w.heap.size}:=⟨_,rfl⟩
 obtain⟨qu,s7⟩:∃qu,(w.alloc (.deferred (some []))).alloc (.loop (rec .ready none))=qu:=⟨_,rfl⟩
 have zS:qu.heap[w.heap.size+1]?=some (.loop (rec .ready none)):=by
  rw[<-s7];have:=World.alloc_heap_new (w.alloc (.deferred (some []))) (.loop (rec .ready none));rwa [World.size_alloc] at this
 have Yy:qu.heap[w.heap.size]?=some (.deferred (some [])):=by
  rw[<-s7];exact Yu (World.alloc_heap_new w _)
 have Yz:I [] qu:=by rw[<-s7];exact Iz _ _ _ (Iz _ _ _ h0 (tB _ _).ext) (tB _ _).ext
 obtain⟨J,hJ⟩:∃J:List α->World->Prop,J=λpre W=>I pre W/\W.heap[w.heap.size+1]?=some (.loop (rec .ready none))/\W.heap[w.heap.size]?=some (.deferred (some [])):=⟨_,rfl⟩
 have uj:∀pre A,J pre A↔(I pre A/\A.heap[w.heap.size+1]?=some (.loop (rec .ready none))/\A.heap[w.heap.size]?=some (.deferred (some []))):=λpre A=>by rw[hJ]
 have YA:∀k (hk:k<xs.length) A,J (xs.take k) A->YieldAt Fence.wide 0 P (w.heap.size+1) (encs xs[k]) A (λe W'=>e=.returned (.bool true)/\J (xs.take (k+1)) W'):=λk hk A h=>by
  obtain⟨hi,hl,hkk⟩:=(uj _ _).1 h;have hy:=run_yield (P:=P) (args:=encs xs[k]) hl (by rw[xR];exact hps _);have e1: (rec .ready none).fn=fn/\(rec .ready none).tmps=a.tmps/\(rec .ready none).params=xO c/\(rec .ready none).assign=B_ c/\(rec .ready none).body=Ca c:=by rw[xR];exact⟨rfl,rfl,rfl,rfl,rfl⟩
  rw[e1.1,e1.2.1,e1.2.2.1,e1.2.2.2.1,e1.2.2.2.2] at hy;refine⟨fn,_,B_ c,Ca c,hy,roundIn_of_wpIn (n:=0) trivial (wpIn_mono (Iv (w.heap.size+1) k hk A hi) ?_)⟩;intro e a1 xQ hq;cases e with
  |normal=>
   obtain⟨Oq,hi1,hbody⟩:=hq;have zQ:=Oq _ _ (by omega) hl rfl;have nR:=Oq _ _ (Nat.le_refl _) hkk rfl;obtain⟨o2,zM⟩:∃o2:Loop,o2={rec .ready none with state:=.busy}:=⟨_,rfl⟩
   have IC:=run_beginRound (P:=P) zQ (by rw[xR]);rw[<-zM] at IC;refine⟨_,IC,?_⟩;have hT:EF w.heap.size xQ (xQ.putObj (w.heap.size+1) (.loop o2)):=⟨_,_,_,by omega,zQ,rfl,rfl⟩
   have sS: (xQ.putObj (w.heap.size+1) (.loop o2)).heap[w.heap.size+1]?=some (.loop o2):=World.putObj_heap_same (xP zQ);have hk2:=Ce (o':=.loop o2) nR (show w.heap.size≠w.heap.size+1 by omega);refine wpIn_mono (hbody _ hT (IA _ _ _ hi1 hT)) ?_;intro e a3 IB hp;obtain⟨rfl,Ot,YB⟩:=hp;have IE:=Ot _ _ (by omega) sS rfl;have xy:=Ot _ _ (Nat.le_refl _) hk2 rfl;have hend:=run_endRound (P:=P) none IE;have eU: ({o2 with state:=if(none:Option Code).isNone then .ready else .done,pending:=none}:Loop)=rec .ready none:=by rw[zM,xR];rfl
   rw[eU] at hend;refine⟨_,_,hend,rfl,(uj _ _).2 ⟨IA _ _ _ YB ⟨_,_,_,by omega,IE,rfl,rfl⟩,World.putObj_heap_same (xP IE),Ce xy (by omega)⟩⟩
  |exit id=>exact hq.elim
  |ret=>exact hq.elim
  |goto t=>exact hq.elim
  |panic ch=>exact hq.elim
  |outgrown=>exact hq.elim
 have lM:=hseq (w.heap.size+1) qu J (λpre A B h hE=>(uj _ _).2 ⟨Iz _ _ _ ((uj _ _).1 h).1 hE,Cc ((uj _ _).1 h).2.1 hE,Cc ((uj _ _).1 h).2.2 hE⟩) (λpre A h=>((uj _ _).1 h).1) YA ((uj _ _).2 ⟨Yz,zS,Yy⟩);refine⟨w.heap.size+1,[{target:=.collected w.heap.size,args:=#[]}],qu,{target:=.fn (.func gf) lb,args:=#[.func (.yield (w.heap.size+1)) #[] #[]]},qu,gf,
  #[.func (.yield (w.heap.size+1)) #[] #[]]++lb,qu,?_,?_,?_,?_,?_,?_⟩
 ·rw[<-s7,xR];exact run_enterLoop_outer _ _ _ _ _
 ·simp only[resolve,Yw];simp[go_sem]
 ·intro _ _;trivial
 ·simp[invoke,go_sem,eg]
 ·intro h;simp[Fence.wide] at h
 ·refine callsIn_wide.2 (lM.mono ?_);rintro e aah ⟨v,rfl,hj⟩;obtain⟨hi,hl,hk⟩:=(uj _ _).1 hj;have:=run_endLoop (P:=P) hl (by rw[xR];simp);rw[xR] at this;exact⟨none,_,this,hdone _ _ (Nat.le_refl _) (IA _ _ _ hi ⟨_,_,_,by omega,hl,rfl,rfl⟩) (Ce hk (by omega))⟩
section
variable {F:Fence} {n:Nat} {P:Program} {N:Nat} {Q:Exit->Act->World->Prop} {D:List Deferred} {env:Env} {w:World} {a:Act} {c:Code}
theorem EH (h: (cl c).wpIn F n P (Exit.then ((aH c).wpIn F n P Q) Q) a w) (hc:KZ c=true:=by kernel_rfl):c.wpIn F n P Q a w:=by
 have e:c=.seq (cl c) (aH c):=by cases c with|seq a b=>rfl|_=>cases hc
 rw[e];exact wpIn_seq h
theorem Ou (id:Nat) (h: (cl c).wpIn F n P (Exit.inBlock id Q) a w) (hc:DH c id=true:=by kernel_rfl):c.wpIn F n P Q a w:=by
 have e:c=.block id (cl c):=by cases c with|block a b=>simp only[DH] at hc;rw[Nat.eq_of_beq_eq_true hc];rfl|_=>cases hc
 rw[e];exact wpIn_block h
theorem Cf (ha:lY N env a) (hD:a.defers=D) (h:sZ F n P N Q (dL c) D (List.range (dL c).size) env w) (hc:Bd c false=true:=by kernel_rfl):c.wpIn F n P Q a w:=by
 obtain⟨id,e⟩:=FY hc;rw[e];exact wpIn_region (h a ha hD)
def YC (c:Code):Bool:=match c with| .ret=>true|_=>false
theorem YD (h:Q .ret a w) (hc:YC c=true:=by kernel_rfl):c.wpIn F n P Q a w:=by
 have e:c=.ret:=by cases c with|ret=>rfl|_=>cases hc
 rw[e];exact wpIn_ret h
end
theorem YE {P:Program} {f:FuncId} {fn:Func} {c:Code} (args:List Value) {N n:Nat} {w:World} {R:Value->World->Prop}
  (hf:P.funcs[f]?=some fn) (hb:fn.body=some c) (hN:fn.ntmps=N) (hsz:Nat.ble args.length N=true)
  (h:∀a,lY N (yO 0 args) a->a.defers=[]->c.wpIn Fence.wide n P (bodyPostM Fence.wide n P fn (bI R)) a w):Calls P f args.toArray w (bI R):=by
 refine callsIn_wide.1 (callsIn_of_wp_marks (n:=n) hf hb trivial (h _ ⟨?_,rfl,λt v ht=>?_⟩ rfl) rfl)
 ·have:=Nat.le_of_ble_eq_true hsz;simp[hN];omega
 ·have h1:=(FO args 0 t v ht).2;simp only[Nat.sub_zero] at h1;have h2:t<args.length:=by
   rcases Nat.lt_or_ge t args.length with h|h
   ·exact h
   ·rw[List.getElem?_eq_none h] at h1;cases h1
  simp only;rw[Array.getElem?_append_left (by simpa using h2)];simpa using h1
theorem lY.ev {N:Nat} {env:Env} {a:Act} (h:lY N env a) {x:Operand} {v:Value} (hx:K.ev env x=some v):a.eval x=v:=by
 have:=gY.ev h hx;cases x<;>exact this
theorem lY.yield {N:Nat} {env:Env} {a:Act} (h:lY N env a) {t:Nat} (ht:Nat.blt t N=true) (v:Value):lY N ((t,v)::env) {tmps:=((#[t]:Array Tmp).zip #[v]).foldl (λt (p,v)=>t.setIfInBounds p v) a.tmps,defers:=[]}:=by
 have:=lY.put h (d:=some t) ht v;unfold lY at this⊢;simpa[Act.put,pZ] using this
def pT (bo:Nat) (v:Value):Nat->Nat:=λb=>if b=bo then 2 else if v.ownBlock=some b then 5 else 0
def AS (qO mX:Nat) (w₀:World) (n1 bo:Nat) (pre:List av) (W:World):Prop:=
 ∃v,Ext No w₀ W/\W.heap[bo]?=some (.cells [v].toArray qO)/\aX W (pT bo v) 5 mX v pre/\∀b,c4 v b->n1<=b
section
variable {w w' w₀ W A B:World} {C aP:Nat->Nat} {j j' e qO mX n0 n1 bo:Nat} {v:Value} {ys pre:List av}
theorem aX.any (h:aX W C j e v ys) (hh:∀b,c4 v b->w'.heap[b]?=W.heap[b]?) (hc:∀b,c4 v b->aP b=j') (hj:j'≠0):aX w' aP j' e v ys:=by
 refine⟨?_,hc⟩;rcases h.own with⟨rfl,rfl⟩|⟨g,cap,cs,hv,fA,hcs,h1,h2,h3⟩
 ·exact .inl ⟨rfl,rfl⟩
 ·subst hv;exact .inr ⟨g,cap,cs,rfl,by unfold ax;rw[hc g rfl];exact hj,(hh g rfl).trans hcs,h1,h2,λi hi=>lz.2 (lz.1 (h3 i hi))⟩
theorem aX.cells (h:aX W C j e v ys) {b:Nat} (hb:c4 v b):∃cs,W.heap[b]?=some (.cells cs e):=by
 rcases h.own with⟨rfl,rfl⟩|⟨g,cap,cs,hv,fA,hcs,h1,h2,h3⟩
 ·cases hb
 ·subst hv;cases hb;exact⟨cs,hcs⟩
theorem Ov {l:Nat} {o:Obj} (h:Ext No w₀ A) (hl:w₀.heap.size<=l):Ext No w₀ (A.putObj l o):=
 ⟨h.os,h.tape,h.output,by simpa using h.size,λb hb hn=>(World.putObj_heap_other (by omega)).trans (h.block b hb hn),h.drawn⟩
theorem AS.ext (h:AS qO mX w₀ n1 bo pre A) (hE:Ext No A B):AS qO mX w₀ n1 bo pre B:=by
 obtain⟨v,h1,h2,h3,h4⟩:=h;exact⟨v,h1.trans hE (λ_ _ h=>h),Cc h2 hE,h3.any (λb hb=>hE.block b (h3.own.ga b hb).2 (λh=>h)) h3.col (by decide),h4⟩
theorem AS.turn (h:AS qO mX w₀ n1 bo pre A) (hn:w₀.heap.size<=n0) (hT:EF n0 A B):AS qO mX w₀ n1 bo pre B:=by
 obtain⟨v,h1,h2,h3,h4⟩:=h;obtain⟨l,o,o',hl,ho,hc,rfl⟩:=hT;refine⟨v,Ov h1 (by omega),Ce h2 (λe=>?_),h3.any (λb hb=>World.putObj_heap_other (λe=>?_)) h3.col (by decide),h4⟩
 ·subst e;rw[h2] at ho;cases ho;cases hc
 ·subst e;obtain⟨cs,hcs⟩:=h3.cells hb;rw[hcs] at ho;cases ho;cases hc
theorem AS.lim {v:Value} (h2:W.heap[bo]?=some (.cells [v].toArray qO)) (h3:aX W (pT bo v) 5 mX v pre):aL W (pT bo v):=λb hb=>by
 unfold pT at hb;split at hb
 ·rename_i e;subst e;exact xP h2
 ·split at hb
  ·rename_i e;exact(h3.own.ga b e).2
  ·exact absurd rfl hb
theorem AS.close {v v':Value} {aP:Nat->Nat} {ys:List av} (h1:Ext No w₀ A) (h2:A.heap[bo]?=some (.cells [v].toArray qO)) (h3:aX A (pT bo v) 5 mX v pre) (h4:∀b,c4 v b->n1<=b) (oO:w₀.heap.size<=bo) (hn:w₀.heap.size<=n1) (hA:n1<=A.heap.size)
  (hs:aA [2,5] A (pT bo v) B aP) (g2:cz B aP 2 bo (.cells [v'].toArray qO)) (g3:aX B aP 5 mX v' ys):Iy n0 A B/\AS qO mX w₀ n1 bo ys B:=by
 have IF:∀b,pT bo v b∈[2,5]->b=bo\/c4 v b:=λb hb=>by
  unfold pT at hb;split at hb
  ·left;assumption
  ·split at hb
   ·right;assumption
   ·simp at hb
 refine⟨λb o hb ho hc=>(hs.ext.block b (xP ho) (λhm=>?_)).trans ho,v',⟨hs.ext.os.trans h1.os,hs.ext.tape.trans h1.tape,hs.ext.output.trans h1.output,Nat.le_trans h1.size hs.ext.size,λb hb _=>?_,((Ext.mono (A':=λb=>pT bo v b∈[2,5]) h1 (λb _ hb=>hb.elim)).trans hs.ext (λb _ h=>h) |>.drawn)⟩,g2.at_,g3.any (λ_ _=>rfl) (λb hb=>?_) (by decide),λb hb=>?_⟩
 ·rcases IF b hm with rfl|h
  ·rw[h2] at ho;cases ho;cases hc
  ·obtain⟨cs,hcs⟩:=h3.cells h;rw[hcs] at ho;cases ho;cases hc
 ·refine(hs.ext.block b (Nat.lt_of_lt_of_le hb h1.size) (λhm=>?_)).trans (h1.block b hb (λh=>h));rcases IF b hm with rfl|h
  ·omega
  ·have:=h4 b h;omega
 ·have:=g3.col b hb;unfold pT;rw[if_neg (λe=>by subst e;rw[g2.col] at this;cases this),if_pos (show v'.ownBlock=some b from hb)]
 ·have hc:=g3.col b hb;rcases Nat.lt_or_ge b A.heap.size with hlt|hge
  ·rw[hs.col b hlt] at hc;rcases IF b (by rw[hc];simp) with rfl|h
   ·have:=g2.col;rw[hs.col b hlt] at this;omega
   ·exact h4 b h
  ·omega
end
end Go.K
namespace Go.K
open aY
section
variable {α:Type} {ys zs us:List α} {σ dz ρ:Nat->Nat} {a b m i j k n x s r d:Nat} {c:α->α->Int} {P:α->Prop} {T:Nat->Nat->Prop}
theorem eA.comp (h:eA ys σ zs) (h':eA zs dz us):eA ys (λi=>σ (dz i)) us:=
 ⟨by rw[h'.len,h.len],λi hi=>by
  have h1:=h'.at_ i (by rw[h.len];exact hi);have h2:=h.at_ (dz i) (by rw[<-h.len];exact h1.1);exact⟨h2.1,h1.2.trans h2.2⟩⟩
theorem eA.congr (h:eA ys σ zs) (e:∀x,σ x=dz x):eA ys dz zs:=(funext e:σ=dz)▸h
def lZ (a b k:Nat):Nat->Nat:=λx=>if a<=x/\x<a+k then x-a+b else if b<=x/\x<b+k then x-b+a else x
theorem zU (h:a<=x) (h2:x<a+k):lZ a b k x=x-a+b:=by unfold lZ;rw[if_pos ⟨h,h2⟩]
theorem zV (h:b<=x) (h2:x<b+k) (h3:a+k<=b):lZ a b k x=x-b+a:=by unfold lZ;rw[if_neg (by omega),if_pos ⟨h,h2⟩]
theorem s8 (h:¬(a<=x/\x<a+k)) (h2:¬(b<=x/\x<b+k)):lZ a b k x=x:=by unfold lZ;rw[if_neg h,if_neg h2]
theorem YF:lZ a b 0 x=x:=s8 (by omega) (by omega)
theorem Ow (h:a+k<b):jV (lZ a b k) (a+k) (b+k) x=lZ a b (k+1) x:=by
 unfold jV;by_cases e1:x=a+k
 ·rw[if_pos e1,s8 (by omega) (by omega),zU (by omega) (by omega)];omega
 ·rw[if_neg e1];by_cases e2:x=b+k
  ·rw[if_pos e2,s8 (by omega) (by omega),zV (by omega) (by omega) (by omega)];omega
  ·rw[if_neg e2];by_cases eU:a<=x/\x<a+k
   ·rw[zU eU.1 eU.2,zU eU.1 (by omega)]
   ·by_cases jr:b<=x/\x<b+k
    ·rw[zV jr.1 jr.2 (by omega),zV jr.1 (by omega) (by omega)]
    ·rw[s8 eU jr,s8 (by omega) (by omega)]
def ro (a m b:Nat):Nat->Nat:=λx=>if a<=x/\x<a+(b-m) then x+(m-a) else if a+(b-m)<=x/\x<b then x-(b-m) else x
theorem uk (h:a<=x) (h2:x<a+(b-m)):ro a m b x=x+(m-a):=by unfold ro;rw[if_pos ⟨h,h2⟩]
theorem uo (h:a+(b-m)<=x) (h2:x<b):ro a m b x=x-(b-m):=by unfold ro;rw[if_neg (by omega),if_pos ⟨h,h2⟩]
theorem qT (h:¬(a<=x/\x<b)) (hm:a<=m) (h2:m<=b):ro a m b x=x:=by unfold ro;rw[if_neg (by omega),if_neg (by omega)]
theorem YG (h:a<=m) (h2:m<=b) (h3:a=m\/m=b):ro a m b x=x:=by
 by_cases e:a<=x/\x<b
 ·by_cases e2:x<a+(b-m)
  ·rw[uk e.1 e2];omega
  ·rw[uo (by omega) e.2];omega
 ·exact qT e h h2
theorem YH (h:a<=m) (h2:m<=b):eR (ro a m b) a b:=by
 refine⟨λi hi=>qT hi h h2,λi h3 h4=>?_,λi j e=>?_⟩
 ·by_cases e2:i<a+(b-m)
  ·rw[uk h3 e2];omega
  ·rw[uo (by omega) h4];omega
 ·have hx:∀x,(a<=x/\x<a+(b-m)/\ro a m b x=x+(m-a))\/(a+(b-m)<=x/\x<b/\ro a m b x=x-(b-m))\/(¬(a<=x/\x<b)/\ro a m b x=x):=λx=>by
   by_cases e:a<=x/\x<b
   ·by_cases e2:x<a+(b-m)
    ·exact .inl ⟨e.1,e2,uk e.1 e2⟩
    ·exact .inr (.inl ⟨by omega,e.2,uo (by omega) e.2⟩)
   ·exact .inr (.inr ⟨e,qT e h h2⟩)
  have h5:=hx i;have h6:=hx j;omega
theorem YI (hj:j<i) (hi:i<=m):lZ (m-i) m j (ro (m-i+j) m (m+j) x)=ro (m-i) m (m+j) x:=by
 by_cases e1:m-i<=x/\x<m-i+j
 ·rw[uk (a:=m-i) e1.1 (by omega),qT (by omega) (by omega) (by omega),zU e1.1 e1.2];omega
 ·by_cases e2:m-i+j<=x/\x<m+j
  ·rw[uo (a:=m-i) (by omega) e2.2];by_cases eU:x<m-i+j+j
   ·rw[uk e2.1 (by omega),zV (by omega) (by omega) (by omega)];omega
   ·rw[uo (by omega) e2.2,s8 (by omega) (by omega)]
  ·rw[qT (a:=m-i+j) (by omega) (by omega) (by omega),qT (a:=m-i) (by omega) (by omega) (by omega),s8 (by omega) (by omega)]
theorem YJ (hj:i<j) (hi:i<=m):lZ (m-i) (m+j-i) i (ro (m-i) m (m+(j-i)) x)=ro (m-i) m (m+j) x:=by
 by_cases e1:m-i<=x/\x<m-i+j
 ·rw[uk (b:=m+j) e1.1 (by omega)];by_cases e2:x<m-i+(j-i)
  ·rw[uk e1.1 (by omega),s8 (by omega) (by omega)]
  ·rw[uo (by omega) (by omega),zU (by omega) (by omega)];omega
 ·by_cases e2:m-i+j<=x/\x<m+j
  ·rw[uo (b:=m+j) (by omega) e2.2,qT (by omega) (by omega) (by omega),zV (by omega) (by omega) (by omega)];omega
  ·rw[qT (b:=m+(j-i)) (by omega) (by omega) (by omega),qT (b:=m+j) (by omega) (by omega) (by omega),s8 (by omega) (by omega)]
theorem YK (hi:i<=m):lZ (m-i) m i x=ro (m-i) m (m+i) x:=by
 by_cases e1:m-i<=x/\x<m
 ·rw[zU e1.1 (by omega),uk e1.1 (by omega)];omega
 ·by_cases e2:m<=x/\x<m+i
  ·rw[zV e2.1 e2.2 (by omega),uo (by omega) e2.2];omega
  ·rw[s8 (by omega) (by omega),qT (by omega) (by omega) (by omega)]
structure qU (zs us:List α) (a m b i j:Nat):Prop where
 ex:∃dz,eA zs dz us/\∀x,dz (ro (m-i) m (m+j) x)=ro a m b x
 b1:1<=i/\i<=m-a
 b2:1<=j/\j<=b-m
theorem qU.start (h1:a<m) (h2:m<b):qU zs zs a m b (m-a) (b-m):=by
 refine⟨⟨λx=>x,eA.id _,λx=>?_⟩,by omega,by omega⟩;rw[show m-(m-a)=a by omega,show m+(b-m)=b by omega]
theorem qU.more {vs:List α} (h:qU zs us a m b i j) (hj:j<i) (hv:eA us (lZ (m-i) m j) vs):qU zs vs a m b (i-j) j:=by
 obtain⟨⟨dz,h1,h2⟩,h3,h4⟩:=h;refine⟨⟨_,h1.comp hv,λx=>?_⟩,by omega,h4⟩;rw[show m-(i-j)=m-i+j by omega,YI hj (by omega)];exact h2 x
theorem qU.less {vs:List α} (h:qU zs us a m b i j) (hj:i<j) (hv:eA us (lZ (m-i) (m+j-i) i) vs):qU zs vs a m b i (j-i):=by
 obtain⟨⟨dz,h1,h2⟩,h3,h4⟩:=h;refine⟨⟨_,h1.comp hv,λx=>?_⟩,h3,by omega⟩;show dz (lZ (m-i) (m+j-i) i (ro (m-i) m (m+(j-i)) x))=_;rw[YJ hj (by omega)];exact h2 x
theorem qU.done {vs:List α} (h:qU zs us a m b i i) (hv:eA us (lZ (m-i) m i) vs):eA zs (ro a m b) vs:=by
 obtain⟨⟨dz,h1,h2⟩,h3,h4⟩:=h;refine(h1.comp hv).congr λx=>?_;show dz (lZ (m-i) m i x)=_;rw[YK (by omega)];exact h2 x
def lE (a k:Nat):Nat->Nat:=λx=>if a<=x/\x<k then x+1 else if x=k then a else x
def lF (m k:Nat):Nat->Nat:=λx=>if x=k then m else if k<x/\x<=m then x-1 else x
theorem zW (h:a<=x) (h2:x<k):lE a k x=x+1:=by unfold lE;rw[if_pos ⟨h,h2⟩]
theorem zX:lE a k k=a:=by unfold lE;rw[if_neg (by omega),if_pos rfl]
theorem uq (h:x<a\/k<x) (hk:a<=k):lE a k x=x:=by unfold lE;rw[if_neg (by omega),if_neg (by omega)]
theorem zY:lF m k k=m:=by unfold lF;rw[if_pos rfl]
theorem vX (h:k<x) (h2:x<=m):lF m k x=x-1:=by unfold lF;rw[if_neg (by omega),if_pos ⟨h,h2⟩]
theorem xS (h:x<k\/m<x) (hk:k<=m):lF m k x=x:=by unfold lF;rw[if_neg (by omega),if_neg (by omega)]
theorem YL:lE a a x=x:=by
 by_cases e:x=a
 ·rw[e,zX]
 ·exact uq (by omega) (Nat.le_refl _)
theorem YM:lF m m x=x:=by
 by_cases e:x=m
 ·rw[e,zY]
 ·exact xS (by omega) (Nat.le_refl _)
theorem Ox (h:a<=k):jV (λx=>σ (lE a k x)) k (k+1) x=σ (lE a (k+1) x):=by
 unfold jV;by_cases e1:x=k
 ·rw[if_pos e1,e1];show σ (lE a k (k+1))=_;rw[uq (by omega) h,zW (by omega) (by omega)]
 ·rw[if_neg e1];by_cases e2:x=k+1
  ·rw[if_pos e2,e2];show σ (lE a k k)=_;rw[zX,zX]
  ·rw[if_neg e2];show σ (lE a k x)=_;by_cases eU:a<=x/\x<k
   ·rw[zW eU.1 eU.2,zW eU.1 (by omega)]
   ·rw[uq (by omega) h,uq (by omega) (by omega)]
theorem Oy (h:k<=m) (h1:1<=k):jV (λx=>σ (lF m k x)) k (k-1) x=σ (lF m (k-1) x):=by
 unfold jV;by_cases e1:x=k
 ·rw[if_pos e1,e1];show σ (lF m k (k-1))=_;rw[xS (by omega) h,vX (by omega) h]
 ·rw[if_neg e1];by_cases e2:x=k-1
  ·rw[if_pos e2,e2];show σ (lF m k k)=_;rw[zY,zY]
  ·rw[if_neg e2];show σ (lF m k x)=_;by_cases eU:k<x/\x<=m
   ·rw[vX eU.1 eU.2,vX (by omega) eU.2]
   ·rw[xS (by omega) h,xS (by omega) (by omega)]
theorem YN (h:a<=k) (h2:k<b):eR (lE a k) a b:=by
 have hx:∀x,(a<=x/\x<k/\lE a k x=x+1)\/(x=k/\lE a k x=a)\/((x<a\/k<x)/\lE a k x=x):=λx=>by
  by_cases e:x=k
  ·subst e;exact .inr (.inl ⟨rfl,zX⟩)
  ·by_cases e2:a<=x/\x<k
   ·exact .inl ⟨e2.1,e2.2,zW e2.1 e2.2⟩
   ·exact .inr (.inr ⟨by omega,uq (by omega) h⟩)
 exact⟨λi hi=>by have:=hx i;omega,λi h3 h4=>by have:=hx i;omega,λi j e=>by have:=hx i;have:=hx j;omega⟩
theorem YO (h:a<=k) (h2:k<=m) (h3:m<b):eR (lF m k) a b:=by
 have hx:∀x,(x=k/\lF m k x=m)\/(k<x/\x<=m/\lF m k x=x-1)\/((x<k\/m<x)/\lF m k x=x):=λx=>by
  by_cases e:x=k
  ·subst e;exact .inl ⟨rfl,zY⟩
  ·by_cases e2:k<x/\x<=m
   ·exact .inr (.inl ⟨e2.1,e2.2,vX e2.1 e2.2⟩)
   ·exact .inr (.inr ⟨by omega,xS (by omega) h2⟩)
 exact⟨λi hi=>by have:=hx i;omega,λi h3 h4=>by have:=hx i;omega,λi j e=>by have:=hx i;have:=hx j;omega⟩
structure l6 (c:α->α->Int) (ys:List α) (σ:Nat->Nat) (a m b:Nat):Prop where
 lt:a<m/\m<b/\b<=ys.length
 l:gV (dQ c ys) σ a m
 r:gV (dQ c ys) σ m b
 d:∀p q,a<=p->p<m->m<=q->q<b->dQ c ys (σ p) (σ q)\/∃(hq:σ q<ys.length) (hp:σ p<ys.length),c ys[σ q] ys[σ p]<0
theorem l6.yes (h:l6 c ys σ a m b) (hL:eA ys σ zs) {p q:Nat} (hp:p<zs.length) (hq:q<zs.length) (hc:c zs[q] zs[p]<0):dQ c ys (σ q) (σ p):=by
 have hl:=hL.len;refine⟨(hL.at_ q (by omega)).1,(hL.at_ p (by omega)).1,.inl ?_⟩;rw[<-hL.get (by omega:q<ys.length),<-hL.get (by omega:p<ys.length)];exact hc
theorem l6.no (h:l6 c ys σ a m b) (hL:eA ys σ zs) {p q:Nat} (h1:a<=p) (h2:p<m) (h3:m<=q) (h4:q<b) (hp:p<zs.length) (hq:q<zs.length) (hc:¬c zs[q] zs[p]<0):dQ c ys (σ p) (σ q):=by
 have hl:=hL.len;rcases h.d p q h1 h2 h3 h4 with h5|⟨aai,aaj,h5⟩
 ·exact h5
 ·rw[<-hL.get (by omega:q<ys.length),<-hL.get (by omega:p<ys.length)] at h5;exact absurd h5 hc
abbrev xT (T:Nat->Nat->Prop):Prop:=∀x y z,T x y->T y z->T x z
structure qV (T:Nat->Nat->Prop) (σ:Nat->Nat) (a m b i j:Nat):Prop where
 le:m<=i/\i<=j/\j<=b
 lo:∀q,m<=q->q<i->T (σ q) (σ a)
 hi:∀q,j<=q->q<b->T (σ a) (σ q)
theorem qV.start (h:m<=b):qV T σ a m b m b:=⟨by omega,λq h1 h2=>by omega,λq h1 h2=>by omega⟩
theorem qV.up {h:Nat} (ht:xT T) (hA:gV T σ m b) (hB:qV T σ a m b i j) (h1:i<=h) (h2:h<j) (hT:T (σ h) (σ a)):qV T σ a m b (h+1) j:=by
 have hl:=hB.le;refine⟨by omega,λq h3 h4=>?_,hB.hi⟩;by_cases e:q=h
 ·rw[e];exact hT
 ·exact ht _ _ _ (hA q h h3 (by omega) (by omega)) hT
theorem qV.down {h:Nat} (ht:xT T) (hA:gV T σ m b) (hB:qV T σ a m b i j) (h1:i<=h) (h2:h<j) (hT:T (σ a) (σ h)):qV T σ a m b i h:=by
 have hl:=hB.le;refine⟨by omega,hB.lo,λq h3 h4=>?_⟩;by_cases e:q=h
 ·rw[e];exact hT
 ·exact ht _ _ _ hT (hA h q (by omega) (by omega) (by omega))
theorem qV.done (hB:qV T σ a m b i i) (hm:m=a+1) (hA:gV T σ m b):gV T (λx=>σ (lE a (i-1) x)) a b:=by
 have hl:=hB.le;intro p q h1 h2 h3;show T (σ (lE a (i-1) p)) (σ (lE a (i-1) q));rcases Nat.lt_trichotomy p (i-1) with e|e|e
 ·rw[zW h1 e];rcases Nat.lt_trichotomy q (i-1) with f|f|f
  ·rw[zW (by omega) f];exact hA _ _ (by omega) (by omega) (by omega)
  ·rw[f,zX];exact hB.lo _ (by omega) (by omega)
  ·rw[uq (by omega) (by omega)];exact hA _ _ (by omega) (by omega) (by omega)
 ·rw[e,zX,uq (by omega) (by omega)];exact hB.hi _ (by omega) (by omega)
 ·rw[uq (by omega) (by omega),uq (by omega) (by omega)];exact hA _ _ (by omega) (by omega) (by omega)
structure qW (T:Nat->Nat->Prop) (σ:Nat->Nat) (a m i j:Nat):Prop where
 le:a<=i/\i<=j/\j<=m
 lo:∀q,a<=q->q<i->T (σ q) (σ m)
 hi:∀q,j<=q->q<m->T (σ m) (σ q)
theorem qW.start (h:a<=m):qW T σ a m a m:=⟨by omega,λq h1 h2=>by omega,λq h1 h2=>by omega⟩
theorem qW.up {h:Nat} (ht:xT T) (hA:gV T σ a m) (hB:qW T σ a m i j) (h1:i<=h) (h2:h<j) (hT:T (σ h) (σ m)):qW T σ a m (h+1) j:=by
 have hl:=hB.le;refine⟨by omega,λq h3 h4=>?_,hB.hi⟩;by_cases e:q=h
 ·rw[e];exact hT
 ·exact ht _ _ _ (hA q h h3 (by omega) (by omega)) hT
theorem qW.down {h:Nat} (ht:xT T) (hA:gV T σ a m) (hB:qW T σ a m i j) (h1:i<=h) (h2:h<j) (hT:T (σ m) (σ h)):qW T σ a m i h:=by
 have hl:=hB.le;refine⟨by omega,hB.lo,λq h3 h4=>?_⟩;by_cases e:q=h
 ·rw[e];exact hT
 ·exact ht _ _ _ hT (hA h q (by omega) (by omega) (by omega))
theorem qW.done (hB:qW T σ a m i i) (hm:b=m+1) (hA:gV T σ a m):gV T (λx=>σ (lF m i x)) a b:=by
 have hl:=hB.le;intro p q h1 h2 h3;show T (σ (lF m i p)) (σ (lF m i q));rcases Nat.lt_trichotomy p i with e|e|e
 ·rw[xS (.inl e) (by omega)];rcases Nat.lt_trichotomy q i with f|f|f
  ·rw[xS (.inl f) (by omega)];exact hA _ _ (by omega) (by omega) (by omega)
  ·rw[f,zY];exact hB.lo _ (by omega) (by omega)
  ·rw[vX (by omega) (by omega)];exact hA _ _ (by omega) (by omega) (by omega)
 ·rw[e,zY,vX (by omega) (by omega)];exact hB.hi _ (by omega) (by omega)
 ·rw[vX (by omega) (by omega),vX (by omega) (by omega)];exact hA _ _ (by omega) (by omega) (by omega)
structure iH (T:Nat->Nat->Prop) (σ:Nat->Nat) (a m b d s r:Nat):Prop where
 mid:a<d/\d<b/\2*d<=a+b/\a+b<=2*d+1/\a<m/\m<b
 le:s<=r
 lo: (m<=d->a<=s)/\(d<m->d+m-b<=s)
 hi: (m<=d->r<=m)/\(d<m->r<=d)
 aK: ((m<=d/\s=a)\/(d<m/\s=d+m-b))\/(1<=s/\T (σ (s-1)) (σ (d+m-s)))
 kL: ((m<=d/\r=m)\/(d<m/\r=d))\/T (σ (d+m-1-r)) (σ r)
theorem iH.YP (h:a<d/\d<b/\2*d<=a+b/\a+b<=2*d+1/\a<m/\m<b) (h2:d<m):iH T σ a m b d (d+m-b) d:=
 ⟨h,by omega,⟨λe=>by omega,λ_=>Nat.le_refl _⟩,⟨λe=>by omega,λ_=>Nat.le_refl _⟩,.inl (.inr ⟨h2,rfl⟩),.inl (.inr ⟨h2,rfl⟩)⟩
theorem iH.YQ (h:a<d/\d<b/\2*d<=a+b/\a+b<=2*d+1/\a<m/\m<b) (h2:m<=d):iH T σ a m b d a m:=
 ⟨h,by omega,⟨λ_=>Nat.le_refl _,λe=>by omega⟩,⟨λ_=>Nat.le_refl _,λe=>by omega⟩,.inl (.inl ⟨h2,rfl⟩),.inl (.inl ⟨h2,rfl⟩)⟩
theorem iH.YR (h:iH T σ a m b d s r) {q:Nat} (h1:s<=q) (h2:q<r):a<=q/\q<m/\m<=d+m-1-q/\d+m-1-q<b/\q<=d+m-1:=by
 obtain⟨h3,h4,⟨h5,h6⟩,⟨h7,h8⟩,_,_⟩:=h;omega
theorem iH.up (h:iH T σ a m b d s r) {q:Nat} (h1:s<=q) (h2:q<r) (hT:T (σ q) (σ (d+m-1-q))):iH T σ a m b d (q+1) r:=by
 obtain⟨h3,h4,⟨h5,h6⟩,⟨h7,h8⟩,gx,jq⟩:=h;exact⟨h3,by omega,by omega,by omega,.inr ⟨by omega,by rw[show q+1-1=q by omega,show d+m-(q+1)=d+m-1-q by omega];exact hT⟩,jq⟩
theorem iH.down (h:iH T σ a m b d s r) {q:Nat} (h1:s<=q) (h2:q<r) (hT:T (σ (d+m-1-q)) (σ q)):iH T σ a m b d s q:=by
 obtain⟨h3,h4,⟨h5,h6⟩,⟨h7,h8⟩,gx,jq⟩:=h;exact⟨h3,by omega,by omega,by omega,gx,.inr hT⟩
theorem iH.ends (h:iH T σ a m b d s s):a<=s/\s<=m/\s<=d/\m<=d+m-s/\d<=d+m-s/\d+m-s<=b/\s+(d+m-s-m)=d:=by
 obtain⟨h3,h4,⟨h5,h6⟩,⟨h7,h8⟩,gx,jq⟩:=h;omega
theorem iH.at_ (h:iH T σ a m b d s s) (x:Nat): (a<=x->x<s->ro s m (d+m-s) x=x)/\(s<=x->x<d->ro s m (d+m-s) x=x+(m-s))/\(d<=x->x<d+m-s->ro s m (d+m-s) x=x-(d-s))/\(d+m-s<=x->ro s m (d+m-s) x=x):=by
 have he:=h.ends;refine⟨λh1 h2=>qT (by omega) (by omega) (by omega),λh1 h2=>uk (by omega) (by omega),λh1 h2=>?_,λh1=>qT (by omega) (by omega) (by omega)⟩;rw[uo (by omega) (by omega)];omega
theorem iH.YS (ht:xT T) (h:iH T σ a m b d s s) (hl:gV T σ a m) (hr:gV T σ m b):∀p q,a<=p->p<d->d<=q->q<b->T (σ (ro s m (d+m-s) p)) (σ (ro s m (d+m-s) q)):=by
 have he:=h.ends;have hm:=h.mid;have IG:∀p q,a<=p->p<q->q<m->T (σ p) (σ q):=hl;have II:∀p q,m<=p->p<q->q<b->T (σ p) (σ q):=hr;have lL:∀p q,a<=p->p<s->d+m-s<=q->q<b->T (σ p) (σ q):=λp q h1 h2 h3 h4=>by
  rcases h.aK with h5|⟨_,h5⟩
  ·exfalso;omega
  ·have h6:T (σ (s-1)) (σ q):=by
    by_cases e:q=d+m-s
    ·rw[e];exact h5
    ·exact ht _ _ _ h5 (II _ _ (by omega) (by omega) h4)
   by_cases e:p=s-1
   ·rw[e];exact h6
   ·exact ht _ _ _ (IG p (s-1) h1 (by omega) (by omega)) h6
 have YT:∀p q,s<=p->p<m->m<=q->q<d+m-s->T (σ q) (σ p):=λp q h1 h2 h3 h4=>by
  rcases h.kL with h5|h5
  ·exfalso;omega
  ·have h6:T (σ q) (σ s):=by
    by_cases e:q=d+m-1-s
    ·rw[e];exact h5
    ·exact ht _ _ _ (II q (d+m-1-s) h3 (by omega) (by omega)) h5
   by_cases e:p=s
   ·rw[e];exact h6
   ·exact ht _ _ _ h6 (IG s p (by omega) (by omega) h2)
 intro p q h1 h2 h3 h4;have hp:=h.at_ p;have hq:=h.at_ q;by_cases e:p<s
 ·rw[hp.1 h1 e];by_cases f:q<d+m-s
  ·rw[hq.2.2.1 h3 f];exact IG _ _ h1 (by omega) (by omega)
  ·rw[hq.2.2.2 (by omega)];exact lL _ _ h1 e (by omega) h4
 ·rw[hp.2.1 (by omega) h2];by_cases f:q<d+m-s
  ·rw[hq.2.2.1 h3 f];exact YT _ _ (by omega) (by omega) (by omega) (by omega)
  ·rw[hq.2.2.2 (by omega)];exact II _ _ (by omega) (by omega) h4
theorem iH.left (h:iH (dQ c ys) σ a m b d s s) (hS:l6 c ys σ a m b) (h1:a<s) (h2:s<d):l6 c ys (λx=>σ (ro s m (d+m-s) x)) a s d:=by
 have he:=h.ends;have hlt:=hS.lt;refine⟨⟨h1,h2,by omega⟩,λp q h3 h4 h5=>?_,λp q h3 h4 h5=>?_,λp q h3 h4 h5 h6=>?_⟩
 ·try simp only
  rw[(h.at_ p).1 h3 (by omega),(h.at_ q).1 (by omega) h5];exact hS.l _ _ h3 h4 (by omega)
 ·try simp only
  rw[(h.at_ p).2.1 h3 (by omega),(h.at_ q).2.1 (by omega) h5];exact hS.r _ _ (by omega) (by omega) (by omega)
 ·try simp only
  rw[(h.at_ p).1 h3 h4,(h.at_ q).2.1 h5 h6];exact hS.d _ _ h3 (by omega) (by omega) (by omega)
theorem iH.YU (h:iH (dQ c ys) σ a m b d s s) (hS:l6 c ys σ a m b) (h1:¬(a<s/\s<d)):gV (dQ c ys) (λx=>σ (ro s m (d+m-s) x)) a d:=by
 have he:=h.ends;intro p q h3 h4 h5;try simp only
 by_cases e:s=a
 ·rw[(h.at_ p).2.1 (by omega) (by omega),(h.at_ q).2.1 (by omega) h5];exact hS.r _ _ (by omega) (by omega) (by omega)
 ·rw[(h.at_ p).1 h3 (by omega),(h.at_ q).1 (by omega) (by omega)];exact hS.l _ _ h3 h4 (by omega)
theorem iH.right (h:iH (dQ c ys) σ a m b d s s) (hS:l6 c ys σ a m b) (h1:d<d+m-s) (h2:d+m-s<b):l6 c ys (λx=>σ (ro s m (d+m-s) x)) d (d+m-s) b:=by
 have he:=h.ends;have hlt:=hS.lt;refine⟨⟨h1,h2,by omega⟩,λp q h3 h4 h5=>?_,λp q h3 h4 h5=>?_,λp q h3 h4 h5 h6=>?_⟩
 ·try simp only
  rw[(h.at_ p).2.2.1 h3 (by omega),(h.at_ q).2.2.1 (by omega) h5];exact hS.l _ _ (by omega) (by omega) (by omega)
 ·try simp only
  rw[(h.at_ p).2.2.2 h3,(h.at_ q).2.2.2 (by omega)];exact hS.r _ _ (by omega) h4 h5
 ·try simp only
  rw[(h.at_ p).2.2.1 h3 h4,(h.at_ q).2.2.2 h5];exact hS.d _ _ (by omega) (by omega) (by omega) h6
theorem iH.YV (h:iH (dQ c ys) σ a m b d s s) (hS:l6 c ys σ a m b) (h1:¬(d<d+m-s/\d+m-s<b)):gV (dQ c ys) (λx=>σ (ro s m (d+m-s) x)) d b:=by
 have he:=h.ends;intro p q h3 h4 h5;try simp only
 by_cases e:d+m-s=b
 ·rw[(h.at_ p).2.2.1 h3 (by omega),(h.at_ q).2.2.1 (by omega) (by omega)];exact hS.l _ _ (by omega) (by omega) (by omega)
 ·rw[(h.at_ p).2.2.2 (by omega),(h.at_ q).2.2.2 (by omega)];exact hS.r _ _ (by omega) h4 h5
theorem l6.keep (h:l6 c ys σ a m b) (e:∀x,a<=x->x<b->dz x=σ x):l6 c ys dz a m b:=by
 have hlt:=h.lt;refine⟨hlt,λp q h3 h4 h5=>?_,λp q h3 h4 h5=>?_,λp q h3 h4 h5 h6=>?_⟩
 ·rw[e p (by omega) (by omega),e q (by omega) (by omega)];exact h.l _ _ h3 h4 h5
 ·rw[e p (by omega) (by omega),e q (by omega) (by omega)];exact h.r _ _ h3 h4 h5
 ·have e1:=e p (by omega) (by omega);have e2:=e q (by omega) (by omega);rw[e1,e2];exact h.d _ _ h3 h4 h5 h6
structure zZ (c:α->α->Int) (ys:List α) (σ:Nat->Nat) (a b:Nat) (us:List α) (dz:Nat->Nat):Prop where
 pl:eA ys (λx=>σ (dz x)) us
 wi:eR dz a b
 jj:gV (dQ c ys) (λx=>σ (dz x)) a b
theorem iH.merge {Ch Ci:Nat->Nat} (hT:xT (dQ c ys)) (h:iH (dQ c ys) σ a m b d s s) (hS:l6 c ys σ a m b) (h1:eR Ch a d) (YW:gV (dQ c ys) (λx=>σ (ro s m (d+m-s) (Ch x))) a d) (h2:eR Ci d b) (YX:gV (dQ c ys) (λx=>σ (ro s m (d+m-s) (Ch (Ci x)))) d b) (hp:eA ys (λx=>σ (ro s m (d+m-s) (Ch (Ci x)))) us):
  zZ c ys σ a b us (λx=>ro s m (d+m-s) (Ch (Ci x))):=by
 have he:=h.ends;have hm:=h.mid;refine⟨hp,?_,λp q h3 h4 h5=>?_⟩
 ·exact((YH (by omega) (by omega)).mono he.1 he.2.2.2.2.2.1).comp ((h1.mono (Nat.le_refl _) (by omega)).comp (h2.mono (by omega) (Nat.le_refl _)))
 ·try simp only
  by_cases e:q<d
  ·rw[h2.out p (by omega),h2.out q (by omega)];exact YW p q h3 h4 e
  ·by_cases f:p<d
   ·rw[h2.out p (by omega)];have i1:=h1.j5 p h3 f;have i2:=h2.j5 q (by omega) h5;rw[h1.out (Ci q) (by omega)];exact h.YS hT hS.l hS.r _ _ i1.1 i1.2 i2.1 i2.2
   ·exact YX p q (by omega) h4 h5
theorem YY (hc:kT c P) (hP:∀x∈ys,P x):xT (dQ c ys):=λ_ _ _ h1 h2=>GA hc hP h1 h2
structure kC (c:α->α->Int) (ys:List α) (σ:Nat->Nat) (a e:Nat):Prop where
 j5:∀x,a<=x->x<e->a<=σ x/\σ x<e
 jj:gV (dQ c ys) σ a e
theorem kC.nil (h:b<=a):kC c ys σ a b:=⟨λx h1 h2=>by omega,λp q h1 h2 h3=>by omega⟩
theorem kC.keep (h:kC c ys σ a b) (e:∀x,a<=x->x<b->dz x=x):kC c ys (λx=>σ (dz x)) a b:=
 ⟨λx h1 h2=>by show a<=σ (dz x)/\σ (dz x)<b;rw[e x h1 h2];exact h.j5 x h1 h2,λp q h1 h2 h3=>by
  show dQ c ys (σ (dz p)) (σ (dz q));rw[e p h1 (by omega),e q (by omega) h3];exact h.jj p q h1 h2 h3⟩
theorem l6.Oz (hc:kT c P) (hP:∀x∈ys,P x) (hL:eA ys σ zs) (h1:kC c ys σ a m) (h2:kC c ys σ m b) (hl:a<m) (hr:m<b) (hb:b<=ys.length):l6 c ys σ a m b:=by
 refine⟨⟨hl,hr,hb⟩,h1.jj,h2.jj,λp q h3 h4 h5 h6=>?_⟩;have i1:=h1.j5 p h3 h4;have i2:=h2.j5 q h5 h6;have b1:=(hL.at_ p (by omega)).1;have b2:=(hL.at_ q (by omega)).1;have p1:=hP _ (List.getElem_mem b1);have p2:=hP _ (List.getElem_mem b2);by_cases e:c ys[σ q] ys[σ p]<0
 ·exact .inr ⟨b2,b1,e⟩
 ·have a1:=hc.anti _ _ p1 p2;have a2:=hc.anti _ _ p2 p1;refine .inl ⟨b1,b2,?_⟩;by_cases f:c ys[σ p] ys[σ q]<0
  ·exact .inl f
  ·exact .inr ⟨by omega,by omega⟩
theorem zZ.seg (h:zZ c ys σ a b us dz) (h1:kC c ys σ a m) (h2:kC c ys σ m b) (hm:a<=m/\m<=b):kC c ys (λx=>σ (dz x)) a b:=by
 refine⟨λx h3 h4=>?_,h.jj⟩;have h5:=h.wi.j5 x h3 h4;show a<=σ (dz x)/\σ (dz x)<b;by_cases e:dz x<m
 ·have:=h1.j5 _ h5.1 e;omega
 ·have:=h2.j5 _ (by omega) h5.2;omega
theorem kC.OA (hL:eA ys σ zs) (hid:∀x,a<=x->σ x=x) (hw:eR dz a b) (ha:gV (dQ c zs) dz a b) (hb:b<=ys.length):kC c ys (λx=>σ (dz x)) a b:=by
 refine⟨λx h1 h2=>?_,λp q h1 h2 h3=>?_⟩
 ·have:=hw.j5 x h1 h2;show a<=σ (dz x)/\σ (dz x)<b;rw[hid _ this.1];exact this
 ·have i1:=hw.j5 p h1 (by omega);have i2:=hw.j5 q (by omega) h3;show dQ c ys (σ (dz p)) (σ (dz q));rw[hid _ i1.1,hid _ i2.1];obtain⟨e1,e2,eU⟩:=ha p q h1 h2 h3;have g1:=hL.get (show dz p<ys.length by omega);have g2:=hL.get (show dz q<ys.length by omega);simp only[hid _ i1.1] at g1;simp only[hid _ i2.1] at g2;rw[g1,g2] at eU;exact⟨by omega,by omega,eU⟩
def ur (c:α->α->Int) (ys:List α) (σ:Nat->Nat) (k:Nat):Prop:=∀k',k'<k->kC c ys σ (k'*20) (k'*20+20)
def vY (c:α->α->Int) (ys:List α) (σ:Nat->Nat) (d n:Nat):Prop:=∀k',kC c ys σ (k'*d) (min (k'*d+d) n)
def oP (c:α->α->Int) (ys:List α) (σ:Nat->Nat) (d n k:Nat):Prop:=(∀k',k'<k->kC c ys σ (k'*(2*d)) (k'*(2*d)+2*d))/\∀k',2*k<=k'->kC c ys σ (k'*d) (min (k'*d+d) n)
theorem ur.zero:ur c ys σ 0:=λk' h=>by omega
theorem ur.next (h:ur c ys σ k) (ha:a=k*20) (hL:eA ys σ zs) (hW:eR σ 0 a) (hw:eR dz a (a+20)) (hA:gV (dQ c zs) dz a (a+20)) (hb:a+20<=ys.length):ur c ys (λx=>σ (dz x)) (k+1):=by
 intro k' hk;by_cases e:k'=k
 ·subst e;rw[<-ha];exact kC.OA hL (λx hx=>hW.out x (by omega)) hw hA hb
 ·exact(h k' (by omega)).keep λx h1 h2=>hw.out x (by omega)
theorem ur.all (h:ur c ys σ k) (ha:a=k*20) (hL:eA ys σ zs) (hW:eR σ 0 a) (hn:n=ys.length) (hw:eR dz a n) (hA:gV (dQ c zs) dz a n) (h1:a<=n) (h2:n<a+20):vY c ys (λx=>σ (dz x)) 20 n:=by
 intro k';rcases Nat.lt_trichotomy k' k with e|e|e
 ·rw[show min (k'*20+20) n=k'*20+20 by omega];exact(h k' e).keep λx h1 h2=>hw.out x (by omega)
 ·subst e;rw[<-ha,show min (a+20) n=n by omega];exact kC.OA hL (λx hx=>hW.out x (by omega)) hw hA (by omega)
 ·exact kC.nil (by omega)
theorem vY.mix (h:vY c ys σ d n):oP c ys σ d n 0:=⟨λk' hk=>by omega,λk' _=>h k'⟩
theorem vY.done (h:vY c ys σ d n) (hn:n<=d):gV (dQ c ys) σ 0 n:=by
 have:=h 0;rw[Nat.zero_mul,show min (0+d) n=n by omega] at this;exact this.jj
theorem EI (k d:Nat):2*k*d=k*(2*d):=by rw[Nat.mul_comm 2 k,Nat.mul_assoc]
theorem oP.fst (h:oP c ys σ d n k) (ha:a=k*(2*d)) (hn:a+d<=n):kC c ys σ a (a+d):=by
 have:=h.2 (2*k) (Nat.le_refl _);rw[EI,<-ha,show min (a+d) n=a+d by omega] at this;exact this
theorem oP.snd (h:oP c ys σ d n k) (ha:a=k*(2*d)):kC c ys σ (a+d) (min (a+2*d) n):=by
 have:=h.2 (2*k+1) (by omega);rw[Nat.succ_mul,EI,<-ha,show a+d+d=a+2*d by omega] at this;exact this
theorem oP.next (h:oP c ys σ d n k) (ha:a=k*(2*d)) (hn:a+2*d<=n) (hq:zZ c ys σ a (a+2*d) us dz):oP c ys (λx=>σ (dz x)) d n (k+1):=by
 have h1:=h.fst ha (by omega);have h2:=h.snd ha;rw[show min (a+2*d) n=a+2*d by omega] at h2;refine⟨λk' hk=>?_,λk' hk=>?_⟩
 ·by_cases e:k'=k
  ·subst e;rw[<-ha];exact hq.seg h1 h2 (by omega)
  ·have: (k'+1)*(2*d)<=k*(2*d):=Nat.mul_le_mul_right _ (by omega);rw[Nat.succ_mul] at this;exact(h.1 k' (by omega)).keep λx h3 h4=>hq.wi.out x (by omega)
 ·have: (2*k+2)*d<=k'*d:=Nat.mul_le_mul_right _ (by omega);rw[Nat.add_mul,EI] at this;exact(h.2 k' (by omega)).keep λx h3 h4=>hq.wi.out x (by omega)
theorem oP.beyond (ha:a=k*(2*d)) (hn:n<a+2*d) {k':Nat} (hk:k<k'):n<=k'*(2*d):=by
 have: (k+1)*(2*d)<=k'*(2*d):=Nat.mul_le_mul_right _ (by omega);rw[Nat.succ_mul] at this;omega
theorem oP.last (h:oP c ys σ d n k) (ha:a=k*(2*d)) (hn:a+d<n) (hn2:n<a+2*d) (hq:zZ c ys σ a n us dz):vY c ys (λx=>σ (dz x)) (2*d) n:=by
 have h1:=h.fst ha (by omega);have h2:=h.snd ha;rw[show min (a+2*d) n=n by omega] at h2;intro k';rcases Nat.lt_trichotomy k' k with e|e|e
 ·have: (k'+1)*(2*d)<=k*(2*d):=Nat.mul_le_mul_right _ (by omega);rw[Nat.succ_mul] at this;rw[show min (k'*(2*d)+2*d) n=k'*(2*d)+2*d by omega];exact(h.1 k' e).keep λx h3 h4=>hq.wi.out x (by omega)
 ·subst e;rw[<-ha,show min (a+2*d) n=n by omega];exact hq.seg h1 h2 (by omega)
 ·have:=oP.beyond ha hn2 e;exact kC.nil (by omega)
theorem oP.rest (h:oP c ys σ d n k) (ha:a=k*(2*d)) (hn:n<=a+d) (ha2:a<=n):vY c ys σ (2*d) n:=by
 have h1:=h.2 (2*k) (Nat.le_refl _);rw[EI,<-ha,show min (a+d) n=n by omega] at h1;intro k';rcases Nat.lt_trichotomy k' k with e|e|e
 ·have: (k'+1)*(2*d)<=k*(2*d):=Nat.mul_le_mul_right _ (by omega);rw[Nat.succ_mul] at this;rw[show min (k'*(2*d)+2*d) n=k'*(2*d)+2*d by omega];exact h.1 k' e
 ·subst e;rw[<-ha,show min (a+2*d) n=n by omega];exact h1
 ·have: (k+1)*(2*d)<=k'*(2*d):=Nat.mul_le_mul_right _ (by omega);rw[Nat.succ_mul] at this;exact kC.nil (by omega)
end
section
variable {P:Program} {N:Nat} {env:Env} {w:World} {x:Operand} {t u:TypeId}
end
section
variable {n m k:Nat} {wt:Nat->Nat->Int} {U V:Nat->Int} {st:Nat->Int} {us:List Bool}
end
theorem IJ {P:Program} {f:FuncId} {N:Nat} {k:List Item} {env:Env} {w:World} {R:Value->World->Prop} {c:Code} {fn:Func} {t u r:Nat} {v x y:Value} (hc:c=.ret) (hf:P.funcs[f]?=some fn) (hres:fn.results=#[.tmp t,.tmp u,.tmp r]) (hv:look env t=some v) (hx:look env u=some x) (hy:look env r=some y)
  (hR:R (.tuple #[v,x,y]) w):Run P f N (.code c::k) env w R:=λa ha=>by
 subst hc;refine wJ hf ha.defers ?_ hR;have h1:=ha.slot t v hv;have h2:=ha.slot u x hx;have h3:=ha.slot r y hy;simp only[results,hres];simp[h1,h2,h3,Sem.run,pure,Array.getD_eq_getD_getElem?]
section
variable {P:Program} {t ti:TypeId}
end
section
variable {n m:Int} {l:List Edge}
end
section
variable {m:Int} {l sl:List bk}
end
section
variable {old b_:List bk}
end
abbrev CC:=av×av
def l7 (x:CC):List Value:=[.int .i64 x.1.a,.int .i64 x.1.b,.int .i64 x.2.a,.int .i64 x.2.b]
theorem EJ {h:Array Obj} {M:Nat->Prop} {x:CC} {vs:List Value}:rep h M x vs↔vs=l7 x:=by
 constructor
 ·rintro⟨us,ws,rfl,h1,h2⟩;have h1:=lz.1 h1;have h2:=lz.1 h2;subst h1 h2;rfl
 ·intro e;exact⟨bJ x.1,bJ x.2,e,lz.2 rfl,lz.2 rfl⟩
theorem xU {w:World} {M:Nat->Prop} {x:CC} {v:Value}:aB w M x v↔v=.agg (l7 x).toArray:=by
 constructor
 ·rintro⟨vs,h,e⟩;rw[EJ.1 h] at e;exact e
 ·intro e;exact⟨_,EJ.2 rfl,e⟩
def s9 (x y:CC):Int:=iT [i_ x.1 y.1,i_ x.2 y.2]
def oQ (x y:CC):Prop:=gH x.1 y.1\/x.1=y.1/\gH x.2 y.2
theorem YZ {x y:CC}:s9 x y<0↔oQ x y:=by
 have:=Gj (x:=⟨x.1,x.2,0⟩) (y:=⟨y.1,y.2,0⟩);unfold u9 rJ at this;unfold s9 oQ;simp only at this;constructor
 ·intro h;exact Classical.not_not.1 λhn=>absurd (this.2 hn) (by omega)
 ·intro h;exact Int.not_le.1 λhn=>this.1 hn h
theorem z6 (x:CC):¬oQ x x:=by unfold oQ;rintro(h|⟨_,h⟩)<;>exact wX _ h
theorem Cj {x y z:CC} (h1:oQ x y) (h2:oQ y z):oQ x z:=by
 unfold oQ at*;rcases h1 with a|⟨a1,a2⟩
 ·rcases h2 with b|⟨b1,_⟩
  ·exact .inl (Bl a b)
  ·exact .inl (by rw[<-b1];exact a)
 ·rcases h2 with b|⟨b1,b2⟩
  ·exact .inl (by rw[a1];exact b)
  ·exact .inr ⟨a1.trans b1,Bl a2 b2⟩
theorem EK (x y:CC):oQ x y\/x=y\/oQ y x:=by
 obtain⟨a,b⟩:=x;obtain⟨c,d⟩:=y;unfold oQ;simp only[Prod.mk.injEq];rcases DX a c with h|h|h
 ·exact .inl (.inl h)
 ·rcases DX b d with g|g|g
  ·exact .inl (.inr ⟨h,g⟩)
  ·exact .inr (.inl ⟨h,g⟩)
  ·exact .inr (.inr (.inr ⟨h.symm,g⟩))
 ·exact .inr (.inr (.inl h))
def oT (x y:CC):Bool:=!decide (s9 y x<0)
theorem ta {x y:CC}:oT x y=true↔¬oQ y x:=by unfold oT;rw[<-YZ];simp
theorem OB (x y:CC) (h:oT x y=true) (h':oT y x=true):x=y:=by
 rcases EK x y with g|g|g
 ·exact absurd g (ta.1 h')
 ·exact g
 ·exact absurd g (ta.1 h)
theorem OC (x y z:CC) (h:oT x y=true) (h':oT y z=true):oT x z=true:=ta.2 λg=>by
 rcases EK x y with a|a|a
 ·exact ta.1 h' (Cj g a)
 ·subst a;exact ta.1 h' g
 ·exact ta.1 h a
theorem Y0 (x y:CC): (oT x y||oT y x)=true:=by
 rw[Bool.or_eq_true,ta,ta];rcases EK x y with a|a|a
 ·exact .inl λh=>z6 _ (Cj a h)
 ·subst a;exact .inl (z6 _)
 ·exact .inr λh=>z6 _ (Cj a h)
def sortCC (l:List CC):List CC:=l.mergeSort oT
theorem Y1 (l:List CC): (sortCC l).Pairwise (λx y=>oT x y=true):=List.pairwise_mergeSort OC Y0 l
theorem OD (l:List CC): (sortCC l).Perm l:=List.mergeSort_perm l oT
theorem OE (l:List CC): (sortCC l).length=l.length:=(OD l).length_eq
def vZ (s:List av) (d:cC):Bool:=!d.same&&decide (d.A∈s)&&decide (d.B∈s)
def qX (s:List av) (ds:List cC):List CC:=(ds.filter (vZ s)).map λd=>(d.A,d.B)
def qY (s:List av) (ds:List cC):List CC:=gG (sortCC (qX s ds))
section
variable {s:List av} {ds d1 d2:List cC}
theorem Y2 {k:Nat} (h:k<ds.length):qX s (ds.take (k+1))=if vZ s ds[k]=true then qX s (ds.take k)++[(ds[k].A,ds[k].B)] else qX s (ds.take k):=by
 unfold qX;rw[List.take_succ_eq_append_getElem h,List.filter_append,List.map_append];by_cases e:vZ s ds[k]=true
 ·rw[if_pos e,List.filter_cons_of_pos e];simp
 ·rw[if_neg e,List.filter_cons_of_neg e];simp
theorem OG (k:Nat): (qX s (ds.take k)).length<=ds.length:=by
 unfold qX;rw[List.length_map];exact Nat.le_trans (List.length_filter_le _ _) (by rw[List.length_take];omega)
theorem Y3: (qY s ds).length<=ds.length:=by
 unfold qY;have h1:=(Bj (sortCC (qX s ds))).length_le;rw[OE] at h1;have:=OG (s:=s) (ds:=ds) ds.length;rw[List.take_length] at this;omega
theorem EL {p:CC}:p∈qY s ds↔p.1∈s/\p.2∈s/\iU ds p.1 p.2=true:=by
 unfold qY;rw[DU,(OD _).mem_iff];unfold qX iU vZ;rw[List.mem_map,List.any_eq_true];constructor
 ·rintro⟨d,hd,rfl⟩;obtain⟨hm,hc⟩:=List.mem_filter.1 hd;simp only[Bool.and_eq_true,Bool.not_eq_true',decide_eq_true_eq] at hc;exact⟨hc.1.2,hc.2,d,hm,by simp[hc.1.1]⟩
 ·rintro⟨h1,h2,d,hm,hc⟩;simp only[Bool.and_eq_true,Bool.not_eq_true',decide_eq_true_eq] at hc;obtain⟨hs,hA,hB⟩:=hc;refine⟨d,List.mem_filter.2 ⟨hm,?_⟩,?_⟩
  ·simp only[Bool.and_eq_true,Bool.not_eq_true',decide_eq_true_eq];exact⟨⟨hs,hA▸h1⟩,hB▸h2⟩
  ·obtain⟨a,b⟩:=p;simp only at hA hB;rw[hA,hB]
theorem EM: (qY s ds).Pairwise oQ:=by
 unfold qY;have h1:=Y1 (qX s ds);have h2:=Gh (le:=λx y=>oT x y=true) OB h1;have h3:=h1.sublist (Bj _);refine(h3.and h2).imp λ{x y} ⟨h4,h5⟩=>?_;rcases EK x y with h|h|h
 ·exact h
 ·exact absurd h h5
 ·exact absurd h (ta.1 h4)
theorem OH:qY s d1=qY s d2↔EC d1 d2 s:=by
 constructor
 ·intro h a ha b hb;have h1:=EL (s:=s) (ds:=d1) (p:=(a,b));have h2:=EL (s:=s) (ds:=d2) (p:=(a,b));rw[h] at h1;have h3:=h1.symm.trans h2;rw[Bool.eq_iff_iff];exact⟨λg=>(h3.1 ⟨ha,hb,g⟩).2.2,λg=>(h3.2 ⟨ha,hb,g⟩).2.2⟩
 ·intro h;have nd:∀{l:List CC},l.Pairwise oQ->l.Nodup:=λh=>h.imp λ{x y} hxy e=>by subst e;exact z6 _ hxy
  refine Is (λx y a b=>z6 _ (Cj a b)) ((List.perm_ext_iff_of_nodup (nd EM) (nd EM)).2 λp=>?_) EM EM;rw[EL,EL];constructor
  ·rintro⟨h1,h2,h3⟩;exact⟨h1,h2,by rw[<-h _ h1 _ h2];exact h3⟩
  ·rintro⟨h1,h2,h3⟩;exact⟨h1,h2,by rw[h _ h1 _ h2];exact h3⟩
theorem Y4 {l:List bk} {k:Nat} (h:k<l.length):nW s (l.take (k+1))=if l[k].A∈s\/l[k].B∈s then nW s (l.take k)++[l[k]] else nW s (l.take k):=by
 unfold nW;rw[List.take_succ_eq_append_getElem h,List.filter_append];by_cases e:l[k].A∈s\/l[k].B∈s
 ·rw[if_pos e];simp[List.filter_cons,e]
 ·rw[if_neg e];simp[List.filter_cons,e]
theorem Y5 {l:List bk} (k:Nat): (nW s (l.take k)).length<=l.length:=by
 unfold nW;exact Nat.le_trans (List.length_filter_le _ _) (by rw[List.length_take];omega)
end
section
variable {pr:Int} {bL df:List Int} {lo hi hi':Int} {p:Nat} {fl Xh:List Int} {ok:Bool}
end
section
variable {bL df:List Int} {p n k st:Nat} {s t hi:Int} {gs l m:List av}
end
section
variable {pr:Int} {bL df:List Int} {lo hi:Int} {p n:Nat} {fl:List Int} {ok:Bool} {s:Int}
end
section
variable {pr:Int} {bL df:List Int} {lo hi:Int} {p n:Nat} {fl:List Int} {s:Int}
end
section
variable {α:Type} {c:α->α->Int}
theorem eB.Y6 {ys:List α} {L:List (Fin ys.length)} (xL:L.Perm (List.finRange ys.length)) (z7:L.Pairwise λi j=>dQ c ys i.val j.val):eB c ys (L.map λi=>ys[i.val]):=by
 have hlen:L.length=ys.length:=by rw[xL.length_eq,List.length_finRange]
 have gW:L.Nodup:=xL.nodup_iff.2 (List.nodup_finRange _);refine⟨λi=>if h:i<L.length then L[i].val else i,⟨by rw[List.length_map,hlen],λi hi=>?_⟩,⟨λi hi=>?_,λi h1 h2=>?_,λi j e=>?_⟩,λi j h1 h2 h3=>?_⟩
 ·have hi2:i<L.length:=by omega
  rw[dif_pos hi2];refine⟨L[i].isLt,?_⟩;rw[List.getElem?_map,List.getElem?_eq_getElem hi2,List.getElem?_eq_getElem L[i].isLt];rfl
 ·rw[dif_neg (by omega)]
 ·rw[dif_pos (show i<L.length by omega)];exact⟨Nat.zero_le _,L[i].isLt⟩
 ·by_cases hi:i<L.length
  ·by_cases hj:j<L.length
   ·simp only[dif_pos hi,dif_pos hj] at e;rcases Nat.lt_trichotomy i j with h|h|h
    ·exact absurd (Fin.ext e) (List.pairwise_iff_getElem.1 (List.nodup_iff_pairwise_ne.1 gW) i j hi hj h)
    ·exact h
    ·exact absurd (Fin.ext e.symm) (List.pairwise_iff_getElem.1 (List.nodup_iff_pairwise_ne.1 gW) j i hj hi h)
   ·simp only[dif_pos hi,dif_neg hj] at e;have:=L[i].isLt;omega
  ·by_cases hj:j<L.length
   ·simp only[dif_neg hi,dif_pos hj] at e;have:=L[j].isLt;omega
   ·simp only[dif_neg hi,dif_neg hj] at e;exact e
 ·simp only[dif_pos (show i<L.length by omega),dif_pos (show j<L.length by omega)];exact List.pairwise_iff_getElem.1 z7 i j (by omega) (by omega) h2
theorem eB.ex (hc:kT c (λ_=>True)) (ys:List α):∃zs,eB c ys zs:=by
 classical
 have hP:∀x∈ys,(λ_:α=>True) x:=λ_ _=>trivial;obtain⟨L,hL⟩:∃L,L=(List.finRange ys.length).mergeSort (λi j=>decide (¬dQ c ys j.val i.val)):=⟨_,rfl⟩
 have xL:L.Perm (List.finRange ys.length):=by rw[hL];exact List.mergeSort_perm _ _
 have gW:L.Nodup:=xL.nodup_iff.2 (List.nodup_finRange _);have z7:L.Pairwise λi j=>dQ c ys i.val j.val:=by
  have h1:L.Pairwise λi j=>(decide (¬dQ c ys j.val i.val))=true:=by
   rw[hL];refine List.pairwise_mergeSort (λi j k h1 h2=>?_) (λi j=>?_) _
   ·simp only[decide_eq_true_eq] at*;intro h3;by_cases e1:i=j
    ·subst e1;exact h2 h3
    ·have h4:=(GB hc hP i.isLt j.isLt (λe=>e1 (Fin.ext e))).resolve_right h1;exact h2 (GA hc hP h3 h4)
   ·simp only[Bool.or_eq_true,decide_eq_true_eq];by_cases h:dQ c ys j.val i.val
    ·exact .inr (λh'=>LI hc hP h h')
    ·exact .inl h
  refine(h1.and (List.nodup_iff_pairwise_ne.1 gW)).imp λ{i j} ⟨h2,h3⟩=>?_;simp only[decide_eq_true_eq] at h2;exact(GB hc hP i.isLt j.isLt (λe=>h3 (Fin.ext e))).resolve_right h2
 exact⟨_,eB.Y6 xL z7⟩
end
section
variable {bL df:List Int} {p n:Nat} {gs:List av}
end
section
variable {P:Program} {t:TypeId} {N:Nat} {env:Env} {x y:Operand} {u:TypeId} {w:World}
theorem IK {fT ti:TypeId} {n0 n1 m0 m1 nG nH BU BV nI nJ BW BX:String} {e0 e1 f0 f1:Bool} {y0 y1 x0 x1:Nat} (h:P.underlying t=some (.struct #[⟨m0,fT,0,f0,BU,BW,x0⟩,⟨m1,fT,2,f1,BV,BX,x1⟩])) (g0:m0≠"_") (g1:m1≠"_") (hS:P.stoodInHeld t=false)
  (hr:P.underlying fT=some (.struct #[⟨n0,ti,0,e0,nG,nI,y0⟩,⟨n1,ti,1,e1,nH,nJ,y1⟩])) (h0:n0≠"_") (h1:n1≠"_") (tX:P.stoodInHeld fT=false)
  (hi:P.underlying ti=some (.int .i64)) (ha:iw P fT=some true) (hs:gN P fT=some 2):tJ P t qq:=λd a b w=>by
 have hf:P.fieldsOf t=#[⟨m0,fT,0,f0,BU,BW,x0⟩,⟨m1,fT,2,f1,BV,BX,x1⟩]:=by simp[Program.fieldsOf,h]
 have iA:∀(c:av×av) w,(part fT #[.int .i64 c.1.a,.int .i64 c.1.b,.int .i64 c.2.a,.int .i64 c.2.b] 0).run P w=.ok (cV c.1) w:=λc w=>by
  unfold part;simp only[Sem.run_bind,qz ha,Result.andThen_ok,if_true,j0 hs,Sem.run_pure];rfl
 have p1:∀(c:av×av) w,(part fT #[.int .i64 c.1.a,.int .i64 c.1.b,.int .i64 c.2.a,.int .i64 c.2.b] 2).run P w=.ok (cV c.2) w:=λc w=>by
  unfold part;simp only[Sem.run_bind,qz ha,Result.andThen_ok,if_true,j0 hs,Sem.run_pure];rfl
 have he:=λ(x y:av)=>M6 hr h0 h1 tX hi (d+5) x y w;rw[show d+8=(d+7)+1 from rfl,run_equalIn_struct w (d+7) t _ _ (by rw[hf];exact h) hS,hf];have hd: (decide (a=b))=(decide (a.1=b.1)&&decide (a.2=b.2)):=by
  cases a;cases b;simp only[Prod.mk.injEq,Bool.decide_and]
 simp only[Op.eqFields,Sem.run_bind,Sem.run_ite,g0,g1,ne_eq,not_false_eq_true,if_true,iA,p1,Result.andThen_ok,he,hd,show d+7=d+5+2 from rfl];cases decide (a.1=b.1)<;>cases decide (a.2=b.2)<;>simp[he,show d+7=d+5+2 from rfl,iA,p1]
theorem OI (hK:tJ P t qq) (a b:CC): (Op.equalIn 10000 t (.agg (l7 a).toArray) (.agg (l7 b).toArray)).run P w=.ok (decide (a=b)) w:=hK 9992 a b w
theorem OJ (hK:tJ P t qq) (hg:P.eqGuardType P.depth t=false) {a b:CC} (hx:ev env x=some (.agg (l7 a).toArray)) (hy:ev env y=some (.agg (l7 b).toArray)):
  cH P N env (.binOp .neq t x y u) w (.bool (decide (a≠b))):=mk' λρ hρ o ho=>by
 unfold execOp;rw[ho];simp only[hρ _ _ hx,hρ _ _ hy,Sem.run_bind,run_eqGuard_agg _ _ _ _ _ _ _ hg,Result.andThen_ok,run_neq_struct,OI hK,Sem.run_pure];simp
theorem Y7 (hK:tJ P t qq) (hg:P.eqGuardType P.depth t=false) {a b:CC} (hx:ev env x=some (.agg (l7 a).toArray)) (hy:ev env y=some (.agg (l7 b).toArray)):
  cH P N env (.binOp .eql t x y u) w (.bool (decide (a=b))):=mk' λρ hρ o ho=>by
 unfold execOp;rw[ho];simp only[hρ _ _ hx,hρ _ _ hy,Sem.run_bind,run_eqGuard_agg _ _ _ _ _ _ _ hg,Result.andThen_ok,run_eql_struct,OI hK,Sem.run_pure]
end
theorem Y8 {h:Array Obj} {M:Nat->Prop}:rep h M (⟨⟨0,0⟩,⟨0,0⟩⟩:CC) [.int .i64 0,.int .i64 0,.int .i64 0,.int .i64 0]:=EJ.2 rfl
theorem OL {α:Type} [DecidableEq α] {l m:List α} (hl:l.length=m.length) (h:∀i (h1:i<l.length) (h2:i<m.length),l[i]=m[i]):l=m:=List.ext_getElem hl h
section
variable {old b_:List bk} {d1 d2:List cC} {zs:List (List av)}
def oU (old:List bk) (d1 d2:List cC) (b_:List bk) (k:Nat):List Bool:=((a_ b_).take k).map λp=>nX old d1 d2 (bg p) p
theorem Y9 {k:Nat} (h:k<(a_ b_).length):oU old d1 d2 b_ (k+1)=oU old d1 d2 b_ k++[nX old d1 d2 (bg (a_ b_)[k]) (a_ b_)[k]]:=by
 unfold oU;rw[List.take_succ_eq_append_getElem h,List.map_append];rfl
theorem Y_ (k:Nat): (oU old d1 d2 b_ k).length<=(a_ b_).length:=by unfold oU;rw[List.length_map,List.length_take];omega
theorem Za: (oU old d1 d2 b_ (a_ b_).length).length=(a_ b_).length:=by unfold oU;rw[List.length_map,List.length_take];omega
theorem Zb {k:Nat} (h:k<(a_ b_).length) (h':k<(oU old d1 d2 b_ (a_ b_).length).length): (oU old d1 d2 b_ (a_ b_).length)[k]=nX old d1 d2 (bg (a_ b_)[k]) (a_ b_)[k]:=by
 unfold oU;simp
theorem Zc {s:List av} {bs:List bk} (h:nW s old=bs):decide (qY s d1=qY s d2)=nX old d1 d2 s bs:=by
 unfold nX;exact decide_eq_decide.2 ⟨λe=>⟨h,OH.1 e⟩,λe=>OH.2 e.2⟩
theorem Zd {s:List av} {bs:List bk} (h:¬nW s old=bs):false=nX old d1 d2 s bs:=by
 unfold nX;exact(decide_eq_false λe=>h e.1).symm
def uv (zs:List (List av)) (s:List av):List (List av):=zs.filter λp=>decide (p.headD ⟨0,0⟩∈s)
theorem Ze {s:List av} {k:Nat} (h:k<zs.length):uv (zs.take (k+1)) s=if zs[k].headD ⟨0,0⟩∈s then uv (zs.take k) s++[zs[k]] else uv (zs.take k) s:=by
 unfold uv;rw[List.take_succ_eq_append_getElem h,List.filter_append];by_cases e:zs[k].headD ⟨0,0⟩∈s
 ·rw[if_pos e,List.filter_cons,if_pos (decide_eq_true e),List.filter_nil]
 ·rw[if_neg e,List.filter_cons,if_neg (by rw[decide_eq_true_eq];exact e),List.filter_nil,List.append_nil]
theorem Zf {s:List av} (k:Nat): (uv (zs.take k) s).length<=zs.length:=by
 unfold uv;exact Nat.le_trans (List.length_filter_le _ _) (by rw[List.length_take];omega)
theorem Zg {p:List av} (h:0<p.length):p.headD ⟨0,0⟩=p[0]:=by cases p with|nil=>simp at h|cons a t=>rfl
theorem OM {wf:List bk->List (List av)×Int} {out us:List (List av)} {k:Nat} (h:k<(a_ b_).length) (hp:out.Perm (eS wf ((a_ b_).take k))) (hu:us.Perm (wf (a_ b_)[k]).1): (out++us).Perm (eS wf ((a_ b_).take (k+1))):=by
 rw[Nu h];exact hp.append hu
end
section
variable {l:List bk} {ds:List cC} {out us zs:List (List av)}
theorem Zh {p:List av} (hp:p∈eS (fc ds) (a_ l)):p.length<=(bg l).length:=by
 obtain⟨i,h,h2⟩:=HV hp;have hP:=qP ds (a_ l)[i];exact(hP.nodup h2).length_le_of_subset λr hr=>((qM h).1 (hP.refs h2 hr)).1
theorem OO (h:eB eW (eS (fc ds) (a_ l)) zs):2*zs.length<=(bg l).length:=by rw[h.len];exact HW λi hi=>qP ds _
theorem Zi (hp:out.Perm (eS (fc ds) (a_ l))) (h:eB eW out us):eB eW (eS (fc ds) (a_ l)) us:=by
 obtain⟨ys,hy⟩:=eB.ex rW (eS (fc ds) (a_ l));rw[Yb hp h hy];exact hy
end
end Go.K
set_option maxRecDepth 100000
namespace Go.K
open aY
def IL:bk:=⟨⟨0,1⟩,⟨1,1⟩,3⟩
def z8:bk:=⟨⟨0,2⟩,⟨1,2⟩,4⟩
def l8:List bk:=[IL,z8]
def lG:List bk:=[IL]
def v8:List (List av):=[[⟨0,1⟩,⟨1,1⟩],[⟨0,2⟩,⟨1,2⟩]]
def z_:List (List av):=[[⟨0,1⟩,⟨1,1⟩]]
theorem Zj {s:List av} (h: (s.Pairwise λa b=>i_ a b<0)):s.Pairwise gH:=h.imp λh=>wY.1 h
theorem IP {l:List bk} {s:List av} (h1:s.Pairwise λa b=>i_ a b<0) (h2:∀x∈l,x.A∈s/\x.B∈s) (h3:∀r∈s,∃x∈l,r=x.A\/r=x.B):bg l=s:=
 Ls (wZ l) (Zj h1) λr=>by
  rw[ji];exact⟨λ⟨x,hx,e⟩=>e.elim (λe=>e▸(h2 x hx).1) (λe=>e▸(h2 x hx).2),h3 r⟩
theorem Aa:bg l8=[⟨0,1⟩,⟨0,2⟩,⟨1,1⟩,⟨1,2⟩]:=IP (by decide+kernel) (by decide+kernel) (by decide+kernel)
theorem uw:bg lG=[⟨0,1⟩,⟨1,1⟩]:=IP (by decide+kernel) (by decide+kernel) (by decide+kernel)
theorem IQ:bg [z8]=[⟨0,2⟩,⟨1,2⟩]:=IP (by decide+kernel) (by decide+kernel) (by decide+kernel)
theorem OP:a_ l8=[lG,[z8]]:=by unfold a_;rw[Aa];decide+kernel
theorem OQ:a_ lG=[lG]:=by unfold a_;rw[uw];decide+kernel
theorem Zk:oD lG []=[[⟨0,1⟩,⟨1,1⟩]]:=by unfold oD;rw[uw];decide+kernel
theorem Zl:oD [z8] []=[[⟨0,2⟩,⟨1,2⟩]]:=by unfold oD;rw[IQ];decide+kernel
theorem OS:fc [] lG=([[⟨0,1⟩,⟨1,1⟩]],0):=by unfold fc;rw[uw,if_pos (by decide),Zk]
theorem Zm:fc [] [z8]=([[⟨0,2⟩,⟨1,2⟩]],0):=by unfold fc;rw[IQ,if_pos (by decide),Zl]
theorem OT:eS (fc []) (a_ l8)=v8:=by
 rw[OP];unfold eS;simp only[List.flatMap_cons,List.flatMap_nil,List.append_nil,OS,Zm];rfl
theorem OU:eS (fc []) (a_ lG)=z_:=by
 rw[OQ];unfold eS;simp only[List.flatMap_cons,List.flatMap_nil,List.append_nil,OS];rfl
theorem OV:eB eW v8 v8:=eB.self λi j hij hj=>by
 have hj:j<2:=hj;obtain⟨rfl,rfl⟩:i=0/\j=1:=by omega
 exact(show eW [⟨0,1⟩,⟨1,1⟩] [⟨0,2⟩,⟨1,2⟩]<0 by decide+kernel)
theorem OW:eB eW z_ z_:=eB.self λi j hij hj=>by
 have hj:j<1:=hj;omega
theorem IU {zs:List (List av)} (h:eB eW (eS (fc []) (a_ l8)) zs):zs=v8:=by rw[OT] at h;exact h.uniq rW (λ_ _=>trivial) OV
theorem OX {zs:List (List av)} (h:eB eW (eS (fc []) (a_ lG)) zs):zs=z_:=by rw[OU] at h;exact h.uniq rW (λ_ _=>trivial) OW
theorem OY:eB eW (eS (fc []) (a_ l8)) v8:=by rw[OT];exact OV
theorem OZ:eB eW (eS (fc []) (a_ lG)) z_:=by rw[OU];exact OW
theorem IV:fh l8 v8=7:=by decide+kernel
theorem O1:fh lG z_=3:=by decide+kernel
theorem Ab:mR l8:=by
 refine⟨by decide,λx hx=>?_,?_⟩
 ·simp only[l8,List.mem_cons,List.not_mem_nil,or_false] at hx;rcases hx with rfl|rfl<;>exact⟨by decide,by decide,by decide⟩
 ·unfold l8 IL z8 rJ gH;decide
theorem EN:mR lG:=Ab.sub (by unfold l8 lG;exact List.Sublist.cons_cons _ (List.nil_sublist _))
theorem O2: (((qt l8 [] [] lG (a_ lG).length).length:Nat):Int)=0:=by
 unfold qt;rw[OQ];simp only[List.length_cons,List.length_nil,List.take_succ_cons,List.take_zero];rw[List.filter_cons,if_neg (by unfold nX;rw[uw];decide+kernel)];rfl
theorem O4: (((qt lG [] [] l8 (a_ l8).length).length:Nat):Int)=1:=by
 unfold qt;rw[OP];simp only[List.length_cons,List.length_nil,List.take_succ_cons,List.take_zero];rw[List.filter_cons,if_neg (by unfold nX;rw[uw];decide+kernel),List.filter_cons,if_pos (by unfold nX;rw[IQ];decide+kernel)];rfl
end Go.K
namespace Go.K
open aY
def r4:Nat->Nat:=λ_=>0
theorem Zn (w:World):aL w r4:=λb h=>absurd rfl h
theorem aA.below {w w':World} (h:aA [] w r4 w' r4):Go.RowKit.Below w.heap.size w w':=h.ext.below (Nat.le_refl _) (λb hb=>by simp at hb)
def xV {H:Type} (enc:TypeId×Value->H) (P:Program) (w:World) (base:Nat) (spare:Nat->Bool) (held:Bool) (α:Type) [aY α] (t:TypeId):Prop:=
 P.cellsOf t=sz α/\∀(fuel:Nat) (cs:List Value) (x:DataW H×List MemPlace),DataW.trod enc P w base spare held fuel t cs=some x->∃a:α,rep w.heap (ax r4) a cs
section
variable {H:Type} {enc:TypeId×Value->H} {P:Program} {w:World} {base:Nat} {spare:Nat->Bool} {held:Bool} {α β γ:Type} [aY α] [aY β] [aY γ] {t e:TypeId}
theorem Zo (ht:P.underlying t=some (.int .i64)) (hc:P.cellsOf t=1):xV enc P w base spare held Int t:=⟨hc,λfuel cs x h=>by
 obtain⟨n,rfl,_⟩:=DataW.trod_int ht h;exact⟨n,rfl⟩⟩
theorem Zp (ht:P.underlying t=some (.slice e)) (hc:P.cellsOf t=1) (hsz:0<sz α) (he:xV enc P w base spare held α e):xV enc P w base spare held (List α) t:=⟨hc,λfuel cs x h=>by
 rcases Go.Deep.open_slice ht h with⟨rfl,_⟩|⟨a,len,cap,m,n,D,Pl,rfl,hb,hl,hm,ja,hx,hcell⟩
 ·exact⟨[],none,0,rfl,Nat.le_refl _,by simp,.inl rfl⟩
 ·have BZ:len<=m:=by rw[ja];split<;>omega
  have key:∀k,k<=len->∃xs:List α,xs.length=k/\∀i (hi:i<xs.length),∃cs',w.cells? base (a.add (i*sz α)) (sz α)=some cs'/\rep w.heap (ax r4) xs[i] cs':=by
   intro k
   induction k with
   |zero=>exact λ_=>⟨[],rfl,λi hi=>by simp at hi⟩
   |succ k ih=>
    intro hk;obtain⟨xs,Ck,hxs⟩:=ih (by omega);obtain⟨cs',h1,h2⟩:=hcell k (by omega);obtain⟨y,hy⟩:=he.2 _ _ _ h2;rw[he.1] at h1;refine⟨xs++[y],by simp[Ck],λi hi=>?_⟩;by_cases hik:i<xs.length
    ·rw[List.getElem_append_left hik];exact hxs i hik
    ·have F6:i=k:=by simp at hi;omega
     subst F6;rw[List.getElem_append_right (by omega)];exact⟨cs',h1,by simpa[Ck] using hy⟩
  obtain⟨xs,Ck,hxs⟩:=key len (Nat.le_refl _);refine⟨xs,some a,cap,by rw[Ck],by omega,by unfold maxLen at hm;omega,?_⟩;by_cases h0:len=0
  ·left;exact List.length_eq_zero_iff.1 (by omega)
  ·right;have hall:∀i (hi:i<xs.length),∃cs',cs'.length=sz α/\(∀j (hj:j<cs'.length),w.cell? (a.add (i*sz α+j))=some cs'[j])/\rep w.heap (ax r4) xs[i] cs':=λi hi=>by
    obtain⟨cs',h1,h2⟩:=hxs i hi;obtain⟨_,h3,h4⟩:=World.cells?_some h1;refine⟨cs',h3,λj hj=>?_,h2⟩;have h5:=h4 j (by omega);rw[Addr.add_add] at h5;rw[h5];exact List.getElem?_eq_getElem hj
   obtain⟨c0,aak,hc0,_⟩:=hall 0 (by omega);have wh:=hc0 0 (by omega);obtain⟨b,off,spot⟩:=a;have Zq:spot=none:=by simpa[Addr.add] using World.cell?_spot wh
   subst Zq;refine⟨b,off,rfl,?_⟩;simp only[mq] at hall wh;unfold World.cell? at wh;simp only at wh;cases hbk:w.heap[b]? with
   |none=>rw[hbk] at wh;cases wh
   |some ga=>
    cases ga with
    |cells c ty eF=>
     have kS:∀i (hi:i<xs.length),∃cs',cs'.length=sz α/\(∀j (hj:j<cs'.length),c[off+(i*sz α+j)]?=some cs'[j])/\rep w.heap (ax r4) xs[i] cs':=λi hi=>by
      obtain⟨cs',h1,h2,h3⟩:=hall i hi;refine⟨cs',h1,λj hj=>?_,h3⟩;have h4:=h2 j hj;unfold World.cell? at h4;simp only[hbk] at h4;simpa using h4
     refine⟨λh=>h rfl,c,ty,eF,hbk,?_,λi hi=>?_⟩
     ·obtain⟨cs',h1,h2,_⟩:=kS (len-1) (by omega);have h3:=(Array.getElem?_eq_some_iff.1 (h2 (sz α-1) (by omega))).1;have h4:len*sz α=(len-1)*sz α+sz α:=by
       have:len=(len-1)+1:=by omega
       rw[this,Nat.succ_mul];simp
      rw[Ck,h4];omega
     ·obtain⟨cs',h1,h2,h3⟩:=kS i hi;have:cL c (off+i*sz α) (sz α)=cs':=by
       apply List.ext_getElem?;intro r;simp only[cL,List.getElem?_take,List.getElem?_drop,Array.getElem?_toList];by_cases hr:r<sz α
       ·rw[if_pos hr,List.getElem?_eq_getElem (by omega),Nat.add_assoc];exact h2 r (by omega)
       ·rw[if_neg hr,List.getElem?_eq_none (by omega)]
      rw[this];exact h3
    |_=>rw[hbk] at wh;cases wh⟩
theorem xV.rv (h:xV enc P w base spare held α t) (hx:aY.agg α=false) {fuel:Nat} {v:Value} {x:DataW H×List MemPlace} (ht:DataW.trod enc P w base spare held fuel t [v]=some x):∃a:α,aB w (ax r4) a v:=by
 obtain⟨a,ha⟩:=h.2 _ _ _ ht;exact⟨a,qy ha hx⟩
end
end Go.K
