/- Missed matches: plain. -/
import Derived.Test.YtdmgmlmlielfbaaGreatL1
import Derived.Laws.Small
import Derived.Lib.AppendZeros
import Derived.RangeFuncLeaves
import Derived.RangeFuncNested
set_option linter.unusedVariables false
set_option linter.unusedSimpArgs false
set_option linter.unusedSectionVars false
namespace Go.K
open bg
structure Key where
 comps:List av
instance:bg Key where
 sz:=1
 agg:=true
 flat h:=by cases h
 rep h M x vs:=rep h M x.comps vs
 len h:=bg.len (α:=List av) h
 one h:=bg.one (α:=List av) h
 keep h hk:=bg.keep (α:=List av) h hk
 sub h hk:=bg.sub (α:=List av) h hk
structure SL where
 val:Value
 one:val.oneCell'=true
instance:bg SL where
 sz:=1
 agg:=false
 flat _:=rfl
 rep _ _ x vs:=vs=[x.val]
 len h:=by subst h;rfl
 one h:=by subst h;rename_i x;intro v hv;simp at hv;subst hv;exact x.one
 keep h _:=h
 sub h _:=h
section
variable {w:World} {M:Nat->Prop} {b o:Nat} {v:Value}
end
def idxOf {α:Type} (p:α->Bool) (l:List α):Int:=if l.any p then(l.findIdx p:Int) else-1
theorem wD {α:Type} {p:α->Bool} {l:List α} {k:Nat} (h:k<l.length) (h0:∀i (hi:i<k),p (l[i]'(by omega))=false) (hp:p l[k]=true):idxOf p l=k:=by
 unfold idxOf;rw[if_pos (List.any_eq_true.2 ⟨l[k],List.getElem_mem h,hp⟩)];have:l.findIdx p=k:=(List.findIdx_eq h).2 ⟨hp,λj hj=>by simpa using h0 j hj⟩;rw[this]
theorem Az {α:Type} {p:α->Bool} {l:List α} (h0:∀i (hi:i<l.length),p l[i]=false):idxOf p l= -1:=by
 unfold idxOf;rw[if_neg];intro h;obtain⟨x,hx,hp⟩:=List.any_eq_true.1 h;obtain⟨i,hi,rfl⟩:=List.mem_iff_getElem.1 hx;rw[h0 i hi] at hp;cases hp
theorem tH {α:Type} {p:α->Bool} {l:List α}:decide (0<=idxOf p l)=l.any p:=by
 unfold idxOf;cases h:l.any p
 ·rfl
 ·simp only[if_true];exact decide_eq_true (by omega)
theorem Le {l:List av} {c:av} (h:c∈l):∃i:Nat,idxOf (λx=>decide (c=x)) l=(i:Int)/\∃hi:i<l.length,l[i]=c:=by
 have ha:l.any (λx=>decide (c=x))=true:=List.any_eq_true.2 ⟨c,h,by simp⟩;refine⟨_,by unfold idxOf;rw[if_pos ha],?_⟩;have hlt:l.findIdx (λx=>decide (c=x))<l.length:=List.findIdx_lt_length.2 ⟨c,h,by simp⟩;refine⟨hlt,?_⟩;have:=List.findIdx_getElem (w:=hlt);simpa[eq_comm] using this
def nN (l:List (List av)) (c:av):Int:=idxOf (λp=>p.any λx=>decide (c=x)) l
theorem nP {α:Type} {l:List (List α)} {i:Nat} (h:i<l.length):l.getD i []=l[i]:=by rw[List.getD_eq_getElem?_getD,List.getElem?_eq_getElem h];rfl
theorem SM {α:Type} {l:List (List α)} {i:Nat} {r:α} (h:r∈l.getD i []):i<l.length:=by
 rcases Nat.lt_or_ge i l.length with h1|h1
 ·exact h1
 ·rw[List.getD_eq_getElem?_getD,List.getElem?_eq_none h1] at h;simp at h
theorem tI {l:List av} {c:av}: (l.any λx=>decide (c=x))=true↔c∈l:=by
 rw[List.any_eq_true];exact⟨λ⟨x,hx,e⟩=>by rw[of_decide_eq_true e];exact hx,λh=>⟨c,h,by simp⟩⟩
theorem SN {l:List aO} {r:av} {i:Nat} (h:r∈(dO l).getD i []):nN (dO l) r=i:=by
 have hi:=SM h;refine wD hi (λj hj=>Bool.eq_false_iff.2 λhp=>?_) ?_
 ·have:=KR (l:=l) (i:=j) (by rw[nP (show j<(dO l).length by omega)];exact tI.1 hp) h;omega
 ·rw[nP hi] at h;exact tI.2 h
theorem AA {l:List aO} {i:Nat} (h:i<(a_ l).length): (a_ l)[i]=l.filter λx=>decide (b_ l x.A=b_ l ((dP (b_ l) (aW l))[i]'(by simpa[a_] using h))):=by simp[a_]
theorem Lf {l:List aO} {i:Nat} (h:i<(dO l).length): (dO l)[i]=(aW l).filter λr=>decide (b_ l r=b_ l ((dP (b_ l) (aW l))[i]'(by unfold dO at h;rwa [mK] at h))):=Ap h
theorem SP {l:List aO} {i:Nat} (h:i<(a_ l).length) (h':i<(dO l).length):aW (a_ l)[i]=(dO l)[i]:=by
 rw[AA,Lf];refine An (tB _) ((tB l).filter _) λr=>?_;rw[jM,List.mem_filter,jM,decide_eq_true_eq];constructor
 ·rintro⟨x,hx,e⟩;obtain⟨hx,h2⟩:=List.mem_filter.1 hx;refine⟨⟨x,hx,e⟩,?_⟩;have h2:=of_decide_eq_true h2;rcases e with rfl|rfl
  ·exact h2
  ·rw[<-wz hx];exact h2
 ·rintro⟨⟨x,hx,e⟩,h2⟩;refine⟨x,List.mem_filter.2 ⟨hx,decide_eq_true ?_⟩,e⟩;rcases e with rfl|rfl
  ·exact h2
  ·rw[wz hx];exact h2
theorem uU {l:List aO} (hv:oT l) {i:Nat} (h:i<(a_ l).length):oT (a_ l)[i]:=by
 rw[AA];exact hv.sub List.filter_sublist
section
variable {P:Program} {N:Nat} {env:Env} {x y:Operand} {t u:TypeId} {a b:Bool} {w:World}
theorem SQ (ht:P.underlying t=some .bool) (op:BinOp) (a b:Bool): (eqGuard op t x y (.bool a) (.bool b)).run P w=.ok () w:=by
 have h8: (Op.eqGuardIn Op.maxDepth t (.bool a) (.bool b)).run P w=.ok false w:=by
  rw[show Op.maxDepth=(Op.maxDepth-1)+1 from rfl,Op.eqGuardIn];simp[run_underlying ht]
 unfold eqGuard;cases op<;>simp[Sem.run_bind,Sem.run_pure,Sem.run_ite,run_program,Result.andThen_ok,h8]<;>(cases P.eqGuardType P.depth t<;>simp[h8])
theorem Db (ht:P.underlying t=some .bool) (hx:ev env x=some (.bool a)) (hy:ev env y=some (.bool b)):c5 P N env (.binOp .neq t x y u) w (.bool (decide (a≠b))):=mk' λρ hρ o ho=>by
 have h7: (Op.equal t (.bool a) (.bool b)).run P w=.ok (a==b) w:=Go.run_equal_bool w t a b ht;have jm: (binOp .neq t (.bool a) (.bool b)).run P w=.ok (.bool (decide (a≠b))) w:=by
  show(Op.equal t (.bool a) (.bool b)>>=λz=>pure (Value.bool (!z))).run P w=_;rw[Sem.run_bind,h7];cases a<;>cases b<;>rfl
 unfold execOp;rw[ho];simp only[hρ _ _ hx,hρ _ _ hy];simp[Sem.run_bind,SQ ht,jm]
end
section
variable {de β:Type} [DecidableEq de] {kv:de->Value} {cV:β->Value} {m:List (de×β)} {w:World} {C:Nat->Nat} {j b:Nat}
variable {P:Program} {N:Nat} {env:Env} {x y z:Operand} {t kt et:TypeId}
end
section
variable {α:Type} [bg α] {w:World} {C:Nat->Nat} {j:Nat} {xs:List α} {v:Value} {e:TypeId} {g i off k:Nat}
variable {P:Program} {N:Nat} {env:Env} {y z:Operand} {t:TypeId} {u:Value} {us:List Value}
theorem SR {cs:List Value} {p s:Nat} (hp:p+s<=cs.length) (hl:us.length=k) (ho:off+k<=s):
  cH (cs.take (p+off)++us++cs.drop (p+off+k)).toArray p s=(cH cs.toArray p s).take off++us++(cH cs.toArray p s).drop (off+k):=by
 have l1: (cs.take (p+off)).length=p+off:=by rw[List.length_take];omega
 have l2: (cH cs.toArray p s).length=s:=by simp only[cH,List.length_take,List.length_drop];omega
 have hA:∀m,m<s->(cH cs.toArray p s)[m]?=cs[p+m]?:=λm hm=>by simp only[cH,List.getElem?_take,List.getElem?_drop,if_pos hm]
 generalize Mc:cH cs.toArray p s=A at*;have l3: (A.take off).length=off:=by rw[List.length_take];omega
 apply List.ext_getElem?;intro m;simp only[cH,List.getElem?_take,List.getElem?_drop];by_cases h3:m<s
 ·rw[if_pos h3];by_cases h1:m<off
  ·rw[List.append_assoc,List.append_assoc,List.getElem?_append_left (by omega),List.getElem?_append_left (by omega),List.getElem?_take,if_pos (by omega),List.getElem?_take,if_pos h1,hA m h3]
  ·by_cases h2:m<off+k
   ·rw[List.append_assoc,List.append_assoc,List.getElem?_append_right (by omega),List.getElem?_append_right (l₁:=A.take off) (by omega),List.getElem?_append_left (by omega),List.getElem?_append_left (by omega)];congr 1;omega
   ·rw[List.getElem?_append_right (by rw[List.length_append];omega),List.getElem?_append_right (l₁:=A.take off++us) (by rw[List.length_append];omega),List.getElem?_drop,List.getElem?_drop,List.length_append,List.length_append,l1,l3,hl,hA _ (by omega)];congr 1;omega
 ·rw[if_neg h3,List.getElem?_eq_none];simp only[List.length_append,List.length_drop];omega
theorem AB {x0:α} (h:bn w C j e v xs) (hg:cI v g) (hi:i<xs.length) (hy:ev env y=some (.pointer (some ⟨g,i*sz α+off,none⟩))) (hz:ev env z=some u) (hs:jg P t=some k)
  (hv:u.cells=us.toArray) (hl:us.length=k) (h1:∀u∈us,u.oneCell'=true) (ho:off+k<=sz α)
  (hr:∀vs,rep w.heap (aB C) xs[i] vs->rep w.heap (aB C) x0 (vs.take off++us++vs.drop (off+k))):
  gZ P N env (.store t y z) w (λu' w'=>u'=undef/\ay [j] w C w' C/\bn w' C j e v (xs.set i x0)):=λa ha eY gu=>by
 obtain⟨g',cap,cs,rfl,kr,gI,hc,hcap,h2,h3⟩:=h.sn (by omega);simp only[cI,Value.ownBlock,Option.some.injEq] at hg;subst hg;have hb: (i+1)*sz α<=cap*sz α:=Nat.mul_le_mul_right _ (by omega);rw[Nat.succ_mul] at hb;obtain⟨u',w',k1,k2,tu⟩:=Cx (P:=P) (N:=N) (cs:=cs.toList) (n:=k) (vs:=us) hy hz hs hv hl h1 (by simpa using hc) (by simp only[Array.length_toList];omega) a ha eY gu;have hst:ay [j] w C w' C:=⟨tu.ext.mono (λb _ hb=>by rw[show b=g' from hb,kr];simp),λ_ _=>rfl⟩
 have keep:∀{x:α} {vs:List Value},rep w.heap (aB C) x vs->rep w'.heap (aB C) x vs:=λhr=>bg.keep hr (λb hb hn=>tu.ext.block b hb (λe=>hn (by rw[show b=g' from e];exact gI)));refine⟨u',w',k1,k2,hst,⟨.inr ⟨g',cap,_,by rw[List.length_set],gI,tu.at_,by rw[List.length_set];exact hcap,?_,λq hk=>?_⟩,h.col⟩⟩
 ·simp only[List.size_toArray,List.length_append,List.length_take,List.length_drop,Array.length_toList,hl];omega
 ·rw[List.length_set] at hk;rw[List.getElem_set];split
  ·rename_i hik;subst hik;rw[SR (by simp only[Array.length_toList];omega) hl ho];exact keep (hr _ (by simpa using h3 i hi))
  ·rename_i hik;have:cH (cs.toList.take (i*sz α+off)++us++cs.toList.drop (i*sz α+off+k)).toArray (q*sz α) (sz α)=cH cs (q*sz α) (sz α):=pP (λm hm=>by
    rw[show∀(l:List Value) (p:Nat),l.toArray[p]?=l[p]? from λl p=>by simp,<-Array.getElem?_toList];rcases Nat.lt_or_ge q i with hlt|hge
    ·have:=Nat.mul_le_mul_right (sz α) (show q+1<=i from hlt);rw[Nat.succ_mul] at this;rw[List.append_assoc,List.getElem?_append_left (by simp only[List.length_take,Array.length_toList];omega),List.getElem?_take,if_pos (by omega)]
    ·have:=Nat.mul_le_mul_right (sz α) (show i+1<=q by omega);rw[Nat.succ_mul] at this;rw[List.getElem?_append_right (by simp only[List.length_append,List.length_take,Array.length_toList,hl];omega),List.getElem?_drop];congr 1;simp only[List.length_append,List.length_take,Array.length_toList,hl];omega)
   rw[this];exact keep (h3 q hk)
end
section
variable {P:Program} {t nw ti:TypeId} {n0 n1 n2 q_ ri pX rj rm yA:String} {e0 e1 e2:Bool} {y0 y1 vl:Nat} {N:Nat} {env:Env} {x y:Operand} {u:TypeId} {w:World}
end
section
variable {α:Type} {ys zs us:List α} {σ dD:Nat->Nat} {a b i j n:Nat}
structure fC (ys:List α) (σ:Nat->Nat) (zs:List α):Prop where
 len:zs.length=ys.length
 at_:∀i,i<ys.length->σ i<ys.length/\zs[i]?=ys[σ i]?
theorem fC.id (ys:List α):fC ys (λi=>i) ys:=⟨rfl,λi h=>⟨h,rfl⟩⟩
theorem fC.get (h:fC ys σ zs) (hi:i<ys.length):zs[i]'(by rw[h.len];exact hi)=ys[σ i]'(h.at_ i hi).1:=by
 have:=(h.at_ i hi).2;rw[List.getElem?_eq_getElem (by rw[h.len];exact hi),List.getElem?_eq_getElem (h.at_ i hi).1] at this;exact Option.some.inj this
def lB (σ:Nat->Nat) (i j:Nat):Nat->Nat:=λk=>if k=i then σ j else if k=j then σ i else σ k
theorem fC.swap (h:fC ys σ zs) (hi:i<ys.length) (hj:j<ys.length) {x y:α} (hx:x=zs[j]'(by rw[h.len];exact hj)) (hy:y=zs[i]'(by rw[h.len];exact hi)):fC ys (lB σ i j) ((zs.set i x).set j y):=by
 subst hx hy;have hl:=h.len;refine⟨by simp[h.len],λk hk=>?_⟩;have hki:=h.at_ i hi;have hkj:=h.at_ j hj;have hkk:=h.at_ k hk;unfold lB;rw[List.getElem?_set,List.getElem?_set];by_cases e1:k=i
 ·subst e1;rw[if_pos rfl];refine⟨hkj.1,?_⟩;by_cases e2:j=k
  ·subst e2;simp[hl,hk,<-hkk.2,List.getElem?_eq_getElem (show j<zs.length by omega)]
  ·rw[if_neg e2];simp[hl,hk,<-hkj.2,List.getElem?_eq_getElem (show j<zs.length by omega)]
 ·rw[if_neg e1];by_cases e2:k=j
  ·subst e2;rw[if_pos rfl];refine⟨hki.1,?_⟩;simp[hl,hk,<-hki.2,List.getElem?_eq_getElem (show i<zs.length by omega)]
  ·rw[if_neg e2];refine⟨hkk.1,?_⟩;simp[Ne.symm e1,Ne.symm e2,hkk.2]
structure fD (σ:Nat->Nat) (a b:Nat):Prop where
 out:∀i,¬(a<=i/\i<b)->σ i=i
 kA:∀i,a<=i->i<b->a<=σ i/\σ i<b
 inj:∀i j,σ i=σ j->i=j
theorem fD.id (a b:Nat):fD (λi=>i) a b:=⟨λ_ _=>rfl,λ_ h1 h2=>⟨h1,h2⟩,λ_ _ h=>h⟩
theorem fD.swap (h:fD σ a b) (hi:a<=i/\i<b) (hj:a<=j/\j<b):fD (lB σ i j) a b:=by
 refine⟨λk hk=>?_,λk h1 h2=>?_,λk k' e=>?_⟩
 ·unfold lB;rw[if_neg (by intro e;subst e;exact hk hi),if_neg (by intro e;subst e;exact hk hj)];exact h.out k hk
 ·unfold lB;split
  ·exact h.kA j hj.1 hj.2
  ·split
   ·exact h.kA i hi.1 hi.2
   ·exact h.kA k h1 h2
 ·unfold lB at e;by_cases e1:k=i
  ·by_cases e2:k'=i
   ·omega
   ·rw[if_pos e1,if_neg e2] at e;by_cases fV:k'=j
    ·rw[if_pos fV] at e;have:=h.inj _ _ e;omega
    ·rw[if_neg fV] at e;have:=h.inj _ _ e;omega
  ·rw[if_neg e1] at e;by_cases nQ:k=j
   ·rw[if_pos nQ] at e;by_cases e2:k'=i
    ·rw[if_pos e2] at e;have:=h.inj _ _ e;omega
    ·rw[if_neg e2] at e;by_cases fV:k'=j
     ·omega
     ·rw[if_neg fV] at e;have:=h.inj _ _ e;omega
   ·rw[if_neg nQ] at e;by_cases e2:k'=i
    ·rw[if_pos e2] at e;have:=h.inj _ _ e;omega
    ·rw[if_neg e2] at e;by_cases fV:k'=j
     ·rw[if_pos fV] at e;have:=h.inj _ _ e;omega
     ·rw[if_neg fV] at e;exact h.inj _ _ e
theorem fD.mono {a' b':Nat} (h:fD σ a b) (ha:a'<=a) (hb:b<=b'):fD σ a' b':=⟨λi hi=>h.out i (λe=>hi ⟨by omega,by omega⟩),λi h1 h2=>by
 by_cases e:a<=i/\i<b
 ·have:=h.kA i e.1 e.2;omega
 ·rw[h.out i e];exact⟨h1,h2⟩,h.inj⟩
theorem fD.comp {dD:Nat->Nat} (h:fD σ a b) (h':fD dD a b):fD (λi=>σ (dD i)) a b:=⟨λi hi=>by show σ (dD i)=i;rw[h'.out i hi,h.out i hi],λi h1 h2=>by
 have:=h'.kA i h1 h2;exact h.kA _ this.1 this.2,λi j e=>h'.inj _ _ (h.inj _ _ e)⟩
def iP (T:Nat->Nat->Prop) (σ:Nat->Nat) (a b:Nat):Prop:=∀i j,a<=i->i<j->j<b->T (σ i) (σ j)
def ez (c:α->α->Int) (ys:List α) (i j:Nat):Prop:=∃(hi:i<ys.length) (hj:j<ys.length),c ys[i] ys[j]<0\/c ys[i] ys[j]=0/\i<j
structure kZ (c:α->α->Int) (P:α->Prop):Prop where
 anti:∀x y,P x->P y->(c x y<0↔0<c y x)
 trans:∀x y z,P x->P y->P z->c x y<=0->c y z<=0->c x z<=0
theorem kZ.eq {c:α->α->Int} {P:α->Prop} (h:kZ c P) {x y:α} (hx:P x) (hy:P y):c x y=0↔c y x=0:=by
 have h1:=h.anti x y hx hy;have h2:=h.anti y x hy hx;omega
theorem kZ.Lg {c:α->α->Int} {P:α->Prop} (h:kZ c P) {x y z:α} (hx:P x) (hy:P y) (hz:P z) (h1:c x y<0) (h2:c y z<=0):c x z<0:=by
 have h3:=h.trans x y z hx hy hz (by omega) h2;have h4:=h.anti x y hx hy;apply Classical.byContradiction;intro hn;have e:c x z=0:=by omega
 have e2:=(h.eq hx hz).1 e;have:=h.trans y z x hy hz hx h2 (by omega);omega
theorem kZ.SS {c:α->α->Int} {P:α->Prop} (h:kZ c P) {x y z:α} (hx:P x) (hy:P y) (hz:P z) (h1:c x y<=0) (h2:c y z<0):c x z<0:=by
 have h3:=h.trans x y z hx hy hz h1 (by omega);have h4:=h.anti y z hy hz;apply Classical.byContradiction;intro hn;have e:c x z=0:=by omega
 have e2:=(h.eq hx hz).1 e;have:=h.trans z x y hz hx hy (by omega) h1;omega
theorem FH {c:α->α->Int} {P:α->Prop} (h:kZ c P) (hP:∀x∈ys,P x) {i j k:Nat} (h1:ez c ys i j) (h2:ez c ys j k):ez c ys i k:=by
 obtain⟨hi,hj,h1⟩:=h1;obtain⟨_,hk,h2⟩:=h2;have p1:=hP _ (List.getElem_mem hi);have p2:=hP _ (List.getElem_mem hj);have p3:=hP _ (List.getElem_mem hk);refine⟨hi,hk,?_⟩;rcases h1 with h1|⟨h1,e1⟩
 ·exact .inl (h.Lg p1 p2 p3 h1 (by rcases h2 with h2|h2<;>omega))
 ·rcases h2 with h2|⟨h2,e2⟩
  ·exact .inl (h.SS p1 p2 p3 (by omega) h2)
  ·refine .inr ⟨?_,by omega⟩;have a:=h.trans _ _ _ p1 p2 p3 (by omega) (by omega);have b:=h.trans _ _ _ p3 p2 p1 (by rw[(h.eq p3 p2).2 h2];omega) (by rw[(h.eq p2 p1).2 h1];omega);have:=h.anti _ _ p1 p3;have:=h.anti _ _ p3 p1;omega
theorem FI {c:α->α->Int} {P:α->Prop} (h:kZ c P) (hP:∀x∈ys,P x) {i j:Nat} (hi:i<ys.length) (hj:j<ys.length) (hne:i≠j):ez c ys i j\/ez c ys j i:=by
 have p1:=hP _ (List.getElem_mem hi);have p2:=hP _ (List.getElem_mem hj);have h1:=h.anti _ _ p1 p2;have h2:=h.anti _ _ p2 p1;by_cases e1:c ys[i] ys[j]<0
 ·exact .inl ⟨hi,hj,.inl e1⟩
 ·by_cases e2:c ys[j] ys[i]<0
  ·exact .inr ⟨hj,hi,.inl e2⟩
  ·have fV:c ys[i] ys[j]=0:=by omega
   have nQ:c ys[j] ys[i]=0:=by omega
   rcases Nat.lt_or_gt_of_ne hne with h|h
   ·exact .inl ⟨hi,hj,.inr ⟨fV,h⟩⟩
   ·exact .inr ⟨hj,hi,.inr ⟨nQ,h⟩⟩
theorem Lh {c:α->α->Int} {P:α->Prop} (h:kZ c P) (hP:∀x∈ys,P x) {i j:Nat} (h1:ez c ys i j) (h2:ez c ys j i):False:=by
 obtain⟨hi,hj,h1⟩:=h1;obtain⟨_,_,h2⟩:=h2;have p1:=hP _ (List.getElem_mem hi);have p2:=hP _ (List.getElem_mem hj);have:=h.anti _ _ p1 p2;have:=h.anti _ _ p2 p1;rcases h1 with h1|h1<;>rcases h2 with h2|h2<;>omega
theorem SU {c:α->α->Int} {P:α->Prop} (h:kZ c P) (hP:∀x∈ys,P x) {i j:Nat} (hi:i<ys.length) (hj:j<ys.length) (hij:i<j):ez c ys j i↔c ys[j] ys[i]<0:=by
 constructor
 ·rintro⟨_,_,h1|h1⟩
  ·exact h1
  ·omega
 ·intro h1;exact⟨hj,hi,.inl h1⟩
structure p5 (c:α->α->Int) (ys:List α) (σ:Nat->Nat) (a i j:Nat):Prop where
 within:fD σ a (i+1)
 le:a<=j/\j<=i
 yo:σ j=i
 lQ:∀p q,a<=p->p<q->q<=i->p≠j->q≠j->ez c ys (σ p) (σ q)
 Li:∀q,j<q->q<=i->ez c ys i (σ q)
theorem p5.start {c:α->α->Int} (h:fD σ a i) (ha:a<=i) (hs:iP (ez c ys) σ a i):p5 c ys σ a i i:=
 ⟨h.mono (Nat.le_refl _) (by omega),⟨ha,Nat.le_refl _⟩,h.out i (by omega),λp q h1 h2 h3 h4 h5=>hs p q h1 h2 (by omega),λq h1 h2=>by omega⟩
theorem p5.step {c:α->α->Int} (h:p5 c ys σ a i j) (hj:a<j) (hlt:ez c ys i (σ (j-1))):p5 c ys (lB σ j (j-1)) a i (j-1):=by
 have e0:lB σ j (j-1) (j-1)=i:=by unfold lB;rw[if_neg (by omega),if_pos rfl];exact h.yo
 have e1:lB σ j (j-1) j=σ (j-1):=by unfold lB;rw[if_pos rfl]
 have e2:∀k,k≠j->k≠j-1->lB σ j (j-1) k=σ k:=λk h1 h2=>by unfold lB;rw[if_neg h1,if_neg h2]
 have hle:=h.le;refine⟨h.within.swap ⟨by omega,by omega⟩ ⟨by omega,by omega⟩,⟨by omega,by omega⟩,e0,λp q h1 h2 h3 h4 h5=>?_,λq h1 h2=>?_⟩
 ·by_cases yp:p=j
  ·subst yp;rw[e1,e2 q (by omega) (by omega)];exact h.lQ (p-1) q (by omega) (by omega) h3 (by omega) (by omega)
  ·by_cases eq:q=j
   ·subst eq;rw[e1,e2 p (by omega) (by omega)];exact h.lQ p (q-1) h1 (by omega) (by omega) (by omega) (by omega)
   ·rw[e2 p yp h4,e2 q eq h5];exact h.lQ p q h1 h2 h3 yp eq
 ·by_cases eq:q=j
  ·subst eq;rw[e1];exact hlt
  ·rw[e2 q eq (by omega)];exact h.Li q (by omega) h2
theorem p5.done {c:α->α->Int} {P:α->Prop} (hc:kZ c P) (hP:∀x∈ys,P x) (h:p5 c ys σ a i j) (hi:i<ys.length) (hj:j=a\/¬ez c ys i (σ (j-1))):fD σ a (i+1)/\iP (ez c ys) σ a (i+1):=by
 have hle:=h.le;refine⟨h.within,λp q h1 h2 h3=>?_⟩;by_cases yp:p=j
 ·subst yp;rw[h.yo];exact h.Li q h2 (by omega)
 ·by_cases eq:q=j
  ·subst eq;rw[h.yo];rcases hj with hj|hj
   ·omega
   ·have hw:=h.within.kA (q-1) (by omega) (by omega);have hne:σ (q-1)≠i:=λe=>by have:=h.within.inj (q-1) q (by rw[e,h.yo]);omega
    have hl:ez c ys (σ (q-1)) i:=(FI hc hP (by omega) hi hne).resolve_right hj;by_cases e:p=q-1
    ·rw[e];exact hl
    ·exact FH hc hP (h.lQ p (q-1) h1 (by omega) (by omega) (by omega) (by omega)) hl
  ·exact h.lQ p q h1 h2 (by omega) yp eq
end
end Go.K
namespace Go.K
theorem Lj:∀(m n:Nat) (f:Nat->Nat),(∀i,i<m->f i<n)->(∀i i',i<m->i'<m->f i=f i'->i=i')->m<=n
 |0,_,_,_,_=>Nat.zero_le _
 |m+1,0,f,h,_=>by have:=h 0 (Nat.succ_pos _);omega
 |m+1,n+1,f,h,hi=>by
  have:=Lj m n (λi=>if f i=n then f m else f i) (λi hm=>by
   have h1:=h i (by omega);have h2:=h m (by omega);split
   ·rename_i e;have:f m≠n:=λe2=>by have:=hi i m (by omega) (by omega) (e.trans e2.symm);omega
    omega
   ·omega) (λi i' hm hm' e=>by
   split at e<;>split at e
   ·rename_i e1 e2;exact hi i i' (by omega) (by omega) (e1.trans e2.symm)
   ·have:=hi m i' (by omega) (by omega) e;omega
   ·have:=hi i m (by omega) (by omega) e;omega
   ·exact hi i i' (by omega) (by omega) e)
  omega
section
variable {k:Nat} {c:Nat->Nat->Int} {W SV:Int} {n at_ T:Nat} {u v u2 v2:Nat->Int} {row way SX:Nat->Nat} {least SY:Nat->Int} {cl:Nat->Bool} {rk:Nat->Nat}
end
section
variable {N M:Nat} {wt:Nat->Nat->Int} {U V:Nat->Int} {f:Nat->Nat}
end
end Go.K
namespace Go.K
open bg
theorem qB {α:Type} {l:List α} {i:Nat} {d:α} (h:i<l.length):l.getD i d=l[i]:=by rw[List.getD_eq_getElem?_getD,List.getElem?_eq_getElem h];rfl
section
variable {P:Program} {N:Nat} {env:Env} {w:World} {x y:Operand} {t u:TypeId} {m n:Int}
end
section
variable {c:Nat->Nat->Int} {u v:Nat->Int} {cl:Nat->Bool} {least RV SY:Nat->Int} {way zN SX:Nat->Nat} {i a k j:Nat} {l1:Nat->Int} {SV delta:Int} {next:Nat}
variable {row:Nat->Nat} {u' v' u2 v2 l l' l2:Nat->Int}
end
structure Edge where
 a:Int
 b:Int
 w:Int
 deriving DecidableEq
instance:bg Edge:=bg.via (λx:Edge=>(x.a,(x.b,x.w)))
instance:Inhabited Edge:=⟨⟨0,0,0⟩⟩
section
variable {w:World} {M:Nat->Prop} {b o:Nat} {v:Value}
end
section
variable {P:Program} {ops:Array Oper} {Q:Exit->Act->World->Prop}
end
theorem FJ {P:Program} {f:FuncId} {N:Nat} {k k':List Item} {env:Env} {w:World} {R:Value->World->Prop} {ι:Type} (I:ι->World->Prop) (e:ι->Env)
 (hr:∀x w,I x w->Run P f N k (e x) w R) (hm: (∀x w,I x w->Run P f N k (e x) w R)->Run P f N k' env w R):Run P f N k' env w R:=hm hr
structure FK where
 n:Int
 m:Int
 U:List Int
 V:List Int
 tot:Int
 edge:List (List Bool)
instance:bg FK:=bg.via (λx:FK=>(x.n,(x.m,(x.U,(x.V,(x.tot,x.edge))))))
section
variable {w w' w₀:World} {M:Nat->Prop} {b o:Nat} {v:Value} {x:FK}
end
section
variable {n m:Nat} {wt:Nat->Nat->Int} {W:Int}
end
section
variable {P:Program} {N:Nat} {env:Env} {y z:Operand} {t e:TypeId} {b o o' n len:Nat} {k:IntKind} {i:Int} {w:World}
end
inductive qC where
 |run (L:List (Nat×Bool))
 |one (A:List Nat) (i:Nat) (t:qC)
 |fork (A:List Nat) (i:Nat) (t:qC) (i':Nat) (t':qC)
 |FL (A:List Nat) (i:Nat) (t:qC) (i':Nat) (t':qC) (i2:Nat) (t2:qC)
def rE (Q:Exit->Act->World->Prop) (K:Act->World->Prop):Exit->Act->World->Prop
 | .normal,a,w=>K a w
 |e,a,w=>Q e a w
def nx (P:Program) (ops:Array Oper) (S:World->Prop) (Q:Exit->Act->World->Prop):qC->Act->World->Prop
 | .run L,a,w=>nc P ops S Q L a w
 | .one A i t,a,w=>nc P ops S (rE Q λa w=>wpOp P ops Q i (λa' w'=>S w'/\nx P ops S Q t a' w') a w) (A.map λj=>(j,true)) a w
 | .fork A i t i' t',a,w=>nc P ops S (rE Q λa w=>wpOp P ops Q i (λa' w'=>S w'/\nx P ops S Q t a' w') a w/\wpOp P ops Q i' (λa' w'=>S w'/\nx P ops S Q t' a' w') a w) (A.map λj=>(j,true)) a w
 | .FL A i t i' t' i2 t2,a,w=>nc P ops S (rE Q λa w=>wpOp P ops Q i (λa' w'=>S w'/\nx P ops S Q t a' w') a w/\wpOp P ops Q i' (λa' w'=>S w'/\nx P ops S Q t' a' w') a w/\wpOp P ops Q i2 (λa' w'=>S w'/\nx P ops S Q t2 a' w') a w) (A.map λj=>(j,true)) a w
def uV (ops:Array Oper) (ei:Nat) (k:Nat->Array Bool->Bool):Nat->Array Bool->List Nat->Bool
 |n,listed,[]=>k n listed
 |0,_,_::_=>false
 |n+1,listed,j::A=>!Nat.beq j ei&&(Nat.ble ops.size ei||needs ops 8 ei j)&&Region.free .any ops listed j&&(Region.ready .any ops listed).contains j&&uV ops ei k n (listed.setIfInBounds j true) A
def uW (ops:Array Oper) (ei:Nat):qC->Nat->Array Bool->Bool
 | .run L,n,listed=>r_ ops ei n listed L
 | .one A i t,n,listed=>uV ops ei (λn l=>match n with|0=>false|n+1=>(Region.ready .any ops l==[i])&&uW ops ei t n (l.setIfInBounds i true)) n listed A
 | .fork A i t i' t',n,listed=>uV ops ei (λn l=>match n with
  |0=>false
  |n+1=>((Region.ready .any ops l==[i,i'])||(Region.ready .any ops l==[i',i]))&&uW ops ei t n (l.setIfInBounds i true)&&uW ops ei t' n (l.setIfInBounds i' true)) n listed A
 | .FL A i t i' t' i2 t2,n,listed=>uV ops ei (λn l=>match n with
  |0=>false
  |n+1=>(Region.ready .any ops l).all (λj=>Nat.beq j i||Nat.beq j i'||Nat.beq j i2)&&(Region.ready .any ops l).contains i&&(Region.ready .any ops l).contains i'&&(Region.ready .any ops l).contains i2&&uW ops ei t n (l.setIfInBounds i true)&&uW ops ei t' n (l.setIfInBounds i' true)&&uW ops ei t2 n (l.setIfInBounds i2 true)) n listed A
section
variable {P:Program} {ops:Array Oper} {S:World->Prop} {Q:Exit->Act->World->Prop}
theorem Dc (hs:Region.noSelect ops=true) (hQ:∀c a d v w,Q (.panic c) (Act.put a d v) w->Q (.panic c) a w) {ei:Nat} {k:Nat->Array Bool->Bool} {K:Act->World->Prop}
  (hk:∀n listed a w,k n listed=true->qq ops listed->S w->K a w->ta P ops Q S ei n listed a w):
  ∀(n:Nat) (listed:Array Bool) (A:List Nat) (a:Act) (w:World),uV ops ei k n listed A=true->qq ops listed->S w->
   nc P ops S (rE Q K) (A.map λj=>(j,true)) a w->ta P ops Q S ei n listed a w
 |n,listed,[],a,w,hc,eO,hS,h=>by
  unfold uV at hc;exact hk n listed a w hc eO hS h
 |0,listed,_::_,a,w,hc,_,_,_=>by simp[uV] at hc
 |n+1,listed,j::A,a,w,hc,eO,hS,h=>by
  simp only[uV,Bool.and_eq_true] at hc;obtain⟨⟨⟨⟨h1,h2⟩,h3⟩,h4⟩,h5⟩:=hc;obtain⟨o,v,hi,hy,h⟩:=h;have hr:j∈Region.ready .any ops listed:=by simpa using h4
  exact EI hi (Region.noSelect_spec hs) (λc a w hq=>hQ c a _ _ w hq) (λe=>by subst e;simp at h1) (EL h2) n listed a w eO (Region.free_spec hi h3) hr hy hS (Dc hs hQ hk n _ A _ w h5 (pK eO hr) hS h)
theorem wE (hs:Region.noSelect ops=true) (hQ:∀c a d v w,Q (.panic c) (Act.put a d v) w->Q (.panic c) a w) {ei:Nat}:
  ∀(t:qC) (n:Nat) (listed:Array Bool) (a:Act) (w:World),uW ops ei t n listed=true->qq ops listed->S w->nx P ops S Q t a w->ta P ops Q S ei n listed a w
 | .run L,n,listed,a,w,hc,eO,hS,h=>xR hs hQ n listed L a w hc eO (λ_=>hS) h
 | .one A i t,n,listed,a,w,hc,eO,hS,h=>by
  refine Dc hs hQ (λn listed a w hk eO hS h=>?_) n listed A a w hc eO hS h;cases n with
  |zero=>cases hk
  |succ n=>
   simp only[Bool.and_eq_true,beq_iff_eq] at hk;obtain⟨h0,h1⟩:=hk;have hr:i∈Region.ready .any ops listed:=by rw[h0];simp
   refine⟨λvV=>(by rw[vV] at h0;cases h0),λj hj=>?_⟩;rw[h0,List.mem_singleton] at hj;subst hj;exact wpOp_mono (λa' w' g=>⟨λ_=>g.1,wE hs hQ t n _ a' w' h1 (pK eO hr) g.1 g.2⟩) h
 | .fork A i t i' t',n,listed,a,w,hc,eO,hS,h=>by
  refine Dc hs hQ (λn listed a w hk eO hS h=>?_) n listed A a w hc eO hS h;cases n with
  |zero=>cases hk
  |succ n=>
   simp only[Bool.and_eq_true,Bool.or_eq_true,beq_iff_eq] at hk;obtain⟨⟨h0,h1⟩,h2⟩:=hk;have hm:∀j,j∈Region.ready .any ops listed↔j=i\/j=i':=λj=>by
    rcases h0 with e|e<;>rw[e]<;>simp[or_comm]
   have hr:i∈Region.ready .any ops listed:=(hm i).2 (.inl rfl);have hr':i'∈Region.ready .any ops listed:=(hm i').2 (.inr rfl);refine⟨λvV=>(by rw[vV] at hr;cases hr),λj hj=>?_⟩;rcases(hm j).1 hj with rfl|rfl
   ·exact wpOp_mono (λa' w' g=>⟨λ_=>g.1,wE hs hQ t n _ a' w' h1 (pK eO hr) g.1 g.2⟩) h.1
   ·exact wpOp_mono (λa' w' g=>⟨λ_=>g.1,wE hs hQ t' n _ a' w' h2 (pK eO hr') g.1 g.2⟩) h.2
 | .FL A i t i' t' i2 t2,n,listed,a,w,hc,eO,hS,h=>by
  refine Dc hs hQ (λn listed a w hk eO hS h=>?_) n listed A a w hc eO hS h;cases n with
  |zero=>cases hk
  |succ n=>
   simp only[Bool.and_eq_true] at hk;obtain⟨⟨⟨⟨⟨⟨h0,r1⟩,r2⟩,r3⟩,h1⟩,h2⟩,h3⟩:=hk;have hr:i∈Region.ready .any ops listed:=by simpa using r1
   have hr':i'∈Region.ready .any ops listed:=by simpa using r2
   have j5:i2∈Region.ready .any ops listed:=by simpa using r3
   refine⟨λvV=>(by rw[vV] at hr;cases hr),λj hj=>?_⟩;have hj2:=List.all_eq_true.1 h0 j hj;simp only[Bool.or_eq_true] at hj2;rcases hj2 with(e|e)|e<;>have e:=Nat.eq_of_beq_eq_true e<;>subst e
   ·exact wpOp_mono (λa' w' g=>⟨λ_=>g.1,wE hs hQ t n _ a' w' h1 (pK eO hr) g.1 g.2⟩) h.1
   ·exact wpOp_mono (λa' w' g=>⟨λ_=>g.1,wE hs hQ t' n _ a' w' h2 (pK eO hr') g.1 g.2⟩) h.2.1
   ·exact wpOp_mono (λa' w' g=>⟨λ_=>g.1,wE hs hQ t2 n _ a' w' h3 (pK eO j5) g.1 g.2⟩) h.2.2
theorem Lk {K:Act->World->Prop} (h:LetsOut (rE Q K)):LetsOut Q:=h
theorem Ll {i:Nat} {a:Act} {w:World} {K X:Act->World->Prop} (h:wpOp P ops (rE Q K) i X a w):wpOp P ops Q i X a w:=by
 unfold wpOp at*;cases ho:ops[i]? with
 |none=>rw[ho] at h;exact h
 |some o=>
  rw[ho] at h;simp only at h⊢;split at h
  ·rename_i hw;rw[if_pos hw];refine h.imp (λh=>?_) (λh=>⟨h.1,Lk h.2⟩);unfold Oper.wp at*;generalize (execOp a.eval o).run P w=r at*;cases r with
   |ok n w'=>
    cases n<;>simp only[Oper.upon] at h⊢<;>first|exact h|exact Calls.mono h (λe w'' he=>by cases e<;>first|exact he|exact Lk he)
   |halt x w'=>cases x<;>simp only[Oper.upon] at h⊢<;>exact h
  ·rename_i hw;rw[if_neg hw];exact h
end
def De (P:Program) (N:Nat) (Q:Exit->Act->World->Prop) (ops:Array Oper) (S:World->Prop) (t:qC) (env:Env) (w:World):Prop:=∀a,jW N env a->nx P ops S Q t a w
section
variable {P:Program} {N:Nat} {Q:Exit->Act->World->Prop} {ops:Array Oper} {S S':World->Prop} {A:List Nat} {i i' i2:Nat} {t t' t2:qC} {L:List (Nat×Bool)} {env:Env} {w:World}
theorem rF (h:bR P N Q ops S L env w):De P N Q ops S (.run L) env w:=h
theorem yq (h:bR P N (rE Q λa w=>wpOp P ops Q i (λa' w'=>S w'/\nx P ops S Q t a' w') a w/\wpOp P ops Q i' (λa' w'=>S w'/\nx P ops S Q t' a' w') a w) ops S (A.map λj=>(j,true)) env w):De P N Q ops S (.fork A i t i' t') env w:=h
theorem yt (h:bR P N (rE Q λa w=>S w/\nx P ops S Q t a w) ops S [(i,false)] env w) (h':bR P N (rE Q λa w=>S w/\nx P ops S Q t' a w) ops S [(i',false)] env w):
  bR P N (rE Q λa w=>wpOp P ops Q i (λa' w'=>S w'/\nx P ops S Q t a' w') a w/\wpOp P ops Q i' (λa' w'=>S w'/\nx P ops S Q t' a' w') a w) ops S [] env w:=λa ha=>by
 show wpOp P ops Q i (λa' w'=>S w'/\nx P ops S Q t a' w') a w/\wpOp P ops Q i' (λa' w'=>S w'/\nx P ops S Q t' a' w') a w;exact⟨wpOp_mono (λa' w' g=>g.2) (Ll (h a ha)),wpOp_mono (λa' w' g=>g.2) (Ll (h' a ha))⟩
theorem qD (hS:S w) (h:De P N Q ops S t env w):bR P N (rE Q λa w=>S w/\nx P ops S Q t a w) ops S' [] env w:=λa ha=>⟨hS,h a ha⟩
variable {f:FuncId} {k:List Item} {R:Value->World->Prop}
theorem AE {c:Code} {id:Nat} (I:List Nat) (C:Nat->Nat) (ei:Nat) (t:qC) (hm:P.follows .mixedOrders=true) (hc:c=.region id ops true)
  (hn:Region.noSelect ops=true) (hk:uW ops ei t ops.size (Array.replicate ops.size false)=true)
  (h:∀w₁,ay [] w C w₁ C->De P N (zQ P f k R) ops (λw'=>Ext (λb=>C b∈I) w₁ w') t env w₁):Run P f N (.code c::k) env w R:=λa ha=>by
 subst hc;exact zR (wp_region_any hm (Cp _ _ _ _ (wE hn (λc a d v w h=>h.elim) t _ _ a _ hk (EM ops) (Ext.refl _ _) (h _ (ay.drew [] w C) a ha))))
end
section
variable {P:Program} {ops:Array Oper} {S:World->Prop} {Q:Exit->Act->World->Prop}
end
section
variable {P:Program} {N:Nat} {Q:Exit->Act->World->Prop} {ops:Array Oper} {S S':World->Prop} {ei:Nat} {cr:List (Nat×Bool)} {env:Env} {w:World}
variable {f:FuncId} {k:List Item} {R:Value->World->Prop}
end
structure Lm where
 pr:Int
 oy:List Int
 df:List Int
instance:bg Lm:=bg.via (λx:Lm=>(x.pr,(x.oy,x.df)))
section
variable {P:Program} {N:Nat} {env:Env} {y z:Operand} {t e:TypeId} {b o o' n len:Nat} {k:IntKind} {i:Int} {w:World} {v:Value} {M:Nat->Prop}
end
def FM (x:Int):Prop:=-65536<=x/\x<=65536
instance (x:Int):Decidable (FM x):=by unfold FM;infer_instance
section
variable {P:Program} {f:FuncId} {N:Nat} {k:List Item} {env:Env} {w:World} {R:Value->World->Prop}
end
section
variable {α:Type} {ys zs:List α} {σ:Nat->Nat} {a b i j:Nat} {c:α->α->Int} {P:α->Prop}
theorem fD.thin (h:fD σ a (a+1)) (hb:a<=b):fD σ a b:=by
 have hid:∀i,σ i=i:=λi=>by
  by_cases e:a<=i/\i<a+1
  ·have:=h.kA i e.1 e.2;omega
  ·exact h.out i e
 exact⟨λi _=>hid i,λi h1 h2=>by rw[hid i];exact⟨h1,h2⟩,h.inj⟩
theorem p5.lt (h:p5 c ys σ a i j) (hj:a<j):σ (j-1)<i:=by
 have hl:=h.le;have h1:=h.within.kA (j-1) (by omega) (by omega);have h2:σ (j-1)≠i:=λe=>by have:=h.within.inj (j-1) j (by rw[e,h.yo]);omega
 omega
theorem p5.ord (hc:kZ c P) (hP:∀x∈ys,P x) (hL:fC ys σ zs) (h:p5 c ys σ a i j) (hj:a<j) (hi:i<ys.length) (h1:j<zs.length) (h2:j-1<zs.length):ez c ys i (σ (j-1))↔c zs[j] zs[j-1]<0:=by
 have hl:=h.le;have e1:=hL.get (show j<ys.length by omega);have e2:=hL.get (show j-1<ys.length by omega);have hlt:=h.lt hj;rw[e1,e2,SU hc hP (by omega) hi hlt];simp only[h.yo]
end
theorem Df {x y:Int}:jZ x y<0↔x<y:=by unfold jZ;split<;>(try split)<;>omega
section
variable {P:Program} {N:Nat} {env:Env} {y z:Operand} {t:TypeId} {k:IntKind} {n:Nat} {s:ByteArray} {b:UInt8} {w:World}
end
section
variable {P:Program} {f:FuncId} {N:Nat} {k:List Item} {env:Env} {w:World} {R:Value->World->Prop}
end
section
variable {α:Type} {ys zs us:List α} {σ dD:Nat->Nat} {c:α->α->Int} {P:α->Prop}
def fk (c:α->α->Int) (ys zs:List α):Prop:=∃σ,fC ys σ zs/\fD σ 0 ys.length/\iP (ez c ys) σ 0 ys.length
theorem SZ {n:Nat} (hc:kZ c P) (hP:∀x∈ys,P x) (hn:n=ys.length) (h1:fD σ 0 n) (h2:iP (ez c ys) σ 0 n) (t1:fD dD 0 n) (t2:iP (ez c ys) dD 0 n):∀i,i<n->σ i=dD i:=by
 intro i
 induction i using Nat.strongRecOn with
 |ind i ih=>
  intro hi;apply Classical.byContradiction;intro hne;have key:∀(ρ sB:Nat->Nat),fD ρ 0 n->iP (ez c ys) ρ 0 n->fD sB 0 n->(∀k,k<i->ρ k=sB k)->ρ i≠sB i->ez c ys (ρ i) (sB i):=by
   intro ρ sB r1 r2 p1 hk hne;have S0:∃m,m<n/\ρ m=sB i:=by
    apply Classical.byContradiction;intro hno;have h1:=p1.kA i (by omega) hi;have:=Lj n (n-1) (λm=>if ρ m<sB i then ρ m else ρ m-1) (λm hm=>by
     have h2:=r1.kA m (by omega) hm;have h3:ρ m≠sB i:=λe=>hno ⟨m,hm,e⟩;split<;>omega) (λm m' hm hm' e=>by
     have h3:ρ m≠sB i:=λe=>hno ⟨m,hm,e⟩;have h4:ρ m'≠sB i:=λe=>hno ⟨m',hm',e⟩;refine r1.inj _ _ ?_;split at e<;>split at e<;>omega)
    omega
   obtain⟨m,hm,e⟩:=S0;have S1:i<m:=by
    rcases Nat.lt_trichotomy m i with h|h|h
    ·have:=hk m h;rw[e] at this;have:=p1.inj _ _ this;omega
    ·subst h;exact absurd e hne
    ·exact h
   rw[<-e];exact r2 i m (by omega) S1 hm
  have a:=key σ dD h1 h2 t1 (λk hk=>ih k hk (by omega)) hne;have b:=key dD σ t1 t2 h1 (λk hk=>(ih k hk (by omega)).symm) (Ne.symm hne);exact Lh hc hP a b
theorem fk.uniq (hc:kZ c P) (hP:∀x∈ys,P x) (h:fk c ys zs) (h':fk c ys us):zs=us:=by
 obtain⟨σ,a1,a2,a3⟩:=h;obtain⟨dD,b1,b2,b3⟩:=h';have he:=SZ hc hP rfl a2 a3 b2 b3;apply List.ext_getElem?;intro i;by_cases hi:i<ys.length
 ·rw[(a1.at_ i hi).2,(b1.at_ i hi).2,he i hi]
 ·rw[List.getElem?_eq_none (by rw[a1.len];omega),List.getElem?_eq_none (by rw[b1.len];omega)]
noncomputable def p6 (c:α->α->Int) (ys:List α):List α:=open Classical in if h:∃zs,fk c ys zs then h.choose else ys
theorem fk.eq (hc:kZ c P) (hP:∀x∈ys,P x) (h:fk c ys zs):zs=p6 c ys:=by
 have he:∃zs,fk c ys zs:=⟨zs,h⟩
 unfold p6;rw[dif_pos he];exact h.uniq hc hP he.choose_spec
end
section
variable {α:Type} {ys zs:List α} {c:α->α->Int}
theorem fk.len (h:fk c ys zs):zs.length=ys.length:=by obtain⟨σ,h1,_⟩:=h;exact h1.len
theorem fk.sub (h:fk c ys zs):∀x∈zs,x∈ys:=λx hx=>by
 obtain⟨σ,h1,_⟩:=h;obtain⟨i,hi,rfl⟩:=List.getElem_of_mem hx;rw[h1.get (by rw[<-h1.len];exact hi)];exact List.getElem_mem _
end
structure wF where
 r:av
 ver:Int
 S2:Int
 ch:Int
 deriving DecidableEq
instance:bg wF:=bg.via (λx:wF=>(x.r,(x.ver,(x.S2,x.ch))))
instance:Inhabited wF:=⟨⟨⟨0,0⟩,0,0,0⟩⟩
structure bG where
 A:av
 B:av
 dJ:Int
 bL:Int
 same:Bool
 deriving DecidableEq
instance:bg bG:=bg.via (λx:bG=>(x.A,(x.B,(x.dJ,(x.bL,x.same)))))
instance:Inhabited bG:=⟨⟨⟨0,0⟩,⟨0,0⟩,0,0,false⟩⟩
abbrev jx (x:bG):List Value:=[.int .i64 x.A.a,.int .i64 x.A.b,.int .i64 x.B.a,.int .i64 x.B.b,.int .i64 x.dJ,.int .i64 x.bL,.bool x.same]
section
variable {w:World} {M:Nat->Prop} {b o:Nat} {v:Value}
theorem yu {h:Array Obj} {x:bG} {vs:List Value}:rep h M x vs↔vs=jx x:=
 ⟨λhr=>by
   obtain⟨us,ws,rfl,h1,Se,Kw,rfl,h2,S3,C',rfl,h3,S4,S5,rfl,h4,h5⟩:=hr;have e1:=(qx (M:=M) (h:=h) (x:=x.A)).1 h1;have e2:=(qx (M:=M) (h:=h) (x:=x.B)).1 h2;have fV:S3=[.int .i64 x.dJ]:=h3;have nQ:S4=[.int .i64 x.bL]:=h4;have S6:S5=[.bool x.same]:=h5;subst e1 e2 fV nQ S6;rfl,
  λhr=>by
   subst hr;exact⟨aZ x.A,aZ x.B++[.int .i64 x.dJ,.int .i64 x.bL,.bool x.same],rfl,(qx (M:=M)).2 rfl,aZ x.B,[_,_,_],rfl,(qx (M:=M)).2 rfl,[_],[_,_],rfl,rfl,[_],[_],rfl,rfl,rfl⟩⟩
theorem tJ {x:bG}:aG w M x v↔v=.agg (jx x).toArray:=
 ⟨λh=>by obtain⟨vs,h1,h2⟩:=h;rw[yu.1 h1] at h2;exact h2,λh=>⟨_,yu.2 rfl,h⟩⟩
end
def lC (x y:bG):Int:=ij [ru x.A x.B y.A y.B,jZ x.dJ y.dJ,jZ x.bL y.bL]
def iG (n:Int):Bool:=decide (1<=n/\n<=1048576)
def rG (x:bG):Prop:=iZ x.A x.B=true/\iG x.dJ=true/\iG x.bL=true
section
variable {α:Type} [bg α] {P:Program} {N:Nat} {env:Env} {w:World} {M:Nat->Prop} {t e e':TypeId} {v s:Value} {x y z q:Operand} {xs ys zs:List α}
theorem Ln {zs:List α} {sb so:Nat} {pR:Array Value} {z6:TypeId} {z7:Nat×Nat} (hsc:w.heap[sb]?=some (.cells pR z6 z7)) (hsl:so+zs.length*sz α<=pR.size)
  (z8:∀k (hk:k<zs.length),rep w.heap M zs[k] (cH pR (so+k*sz α) (sz α))):
  ∃news:List Value,news.length=zs.length*sz α/\(∀j v,news[j]?=some v->w.cell? ((⟨sb,so,none⟩:Addr).add j)=some v)/\∀k (hk:k<zs.length),rep w.heap M zs[k] (cH news.toArray (k*sz α) (sz α)):=by
 obtain⟨news,z_⟩:∃news,news=cH pR so (zs.length*sz α):=⟨_,rfl⟩
 have hnl:news.length=zs.length*sz α:=by
  rw[z_];simp only[cH,List.length_take,List.length_drop,Array.length_toList];omega
 have k8:∀j,j<zs.length*sz α->news[j]?=pR[so+j]?:=λj hj=>by
  rw[z_];simp only[cH,List.getElem?_take,if_pos hj,List.getElem?_drop];simp
 refine⟨news,hnl,λj v hv=>?_,λk hk=>?_⟩
 ·have hj:j<zs.length*sz α:=by rw[<-hnl];exact(List.getElem?_eq_some_iff.1 hv).1
  rw[oO,cell_of_row w sb (so+j) pR z6 z7 hsc,<-k8 j hj,hv]
 ·have:=z8 k hk;rwa [show cH pR (so+k*sz α) (sz α)=cH news.toArray (k*sz α) (sz α) from pP (λj hj=>by
   have hb:k*sz α+j<zs.length*sz α:=by
    have:=Nat.mul_le_mul_right (sz α) (show k+1<=zs.length from hk);rw[Nat.succ_mul] at this;omega
   rw[show∀m,news.toArray[m]?=news[m]? from λm=>by simp,k8 _ hb,Nat.add_assoc])] at this
theorem S7 {bytes:Nat} {a:Option Addr} (hx:ev env x=some (.slice a ys.length ys.length)) (hy:ev env y=some s) (hrow:om P t e (sz α) bytes=true) (hsz:0<sz α)
  (hown:aG w M ys (.slice a ys.length ys.length)) (hsrc:aG w M zs s) (yw:zs≠[]) (hlen: (ys.length+zs.length)*bytes<=140737488355328) (h63:ys.length+zs.length<=140737488355328):
  gZ P N env (.call {callee:=.builtin .append,args:=#[x,y],argTypes:=#[t,t]}) w (λv' w'=>
   jG w' (λb=>cI v' b\/M b) e v' (ys++zs)/\Ext (λ_=>False) w w'/\(∀b,cI v' b->w.heap.size<=b)):=oP λρ hρ eY gu=>by
 obtain⟨i,z,hu,hi,pQ,hby,hz,hzs⟩:=uD hrow;obtain⟨a2,c,rfl,hcap,hl0,Cy⟩:=kF.1 hsrc;have key:∃v' w',(Builtin.append_ #[t,t] eY.type #[.slice a ys.length ys.length,.slice a2 zs.length c]).run P w=.ok v' w'/\
   jG w' (λb=>cI v' b\/M b) e v' (ys++zs)/\Ext (λ_=>False) w w'/\(∀b,cI v' b->w.heap.size<=b):=by
  rcases Cy with h|⟨sb,so,rfl,RF,pR,z6,z7,hsc,hsl,z8⟩
  ·exact absurd h yw
  ·have hm0:0<zs.length:=List.length_pos_iff.2 yw;obtain⟨news,hnl,hnews,Aa⟩:=Ln (w:=w) (M:=M) hsc hsl z8;have uE:news.length=zs.length*i.size:=by rw[hnl,pQ]
   have fresh:∀(olds:List Value) (cap:Nat) (o:Obj),olds.length=ys.length*sz α->(∀k (hk:k<ys.length),rep w.heap M ys[k] (cH olds.toArray (k*sz α) (sz α)))->
     o=.cells (olds.toArray++news.toArray++Builtin.zeroCells z.cells (cap-(ys.length+zs.length))) e (0,0)->ys.length+zs.length<=cap->
     jG (w.drew.alloc o) (λb=>cI (.slice (some ⟨w.heap.size,0,none⟩) (ys.length+zs.length) cap) b\/M b) e (.slice (some ⟨w.heap.size,0,none⟩) (ys.length+zs.length) cap) (ys++zs):=by
    intro olds cap o holds wj ho ET;subst ho;have hnew:=uC w (.cells (olds.toArray++news.toArray++Builtin.zeroCells z.cells (cap-(ys.length+zs.length))) e (0,0));refine .inr ⟨w.heap.size,cap,_,by rw[List.length_append],.inl rfl,hnew.at_,by rw[List.length_append];exact ET,?_,?_⟩
    ·simp only[Array.size_append,List.size_toArray,size_zeroCells,hzs,holds,hnl,<-Nat.add_mul];congr 1;omega
    ·intro k hk;rw[List.length_append] at hk;have hkeep:∀(x:α) (vs:List Value),rep w.heap M x vs->rep (w.drew.alloc (.cells (olds.toArray++news.toArray++Builtin.zeroCells z.cells (cap-(ys.length+zs.length))) e (0,0))).heap
       (λb=>cI (.slice (some ⟨w.heap.size,0,none⟩) (ys.length+zs.length) cap) b\/M b) x vs:=λx vs hr=>
      bg.keep (bg.sub hr (λb hb h=>h.elim (λe=>by simp only[cI,Value.ownBlock,Option.some.injEq] at e;omega) id)) (λb hb _=>hnew.ext.block b hb (λh=>h))
     by_cases q6:k<ys.length
     ·rw[List.getElem_append_left q6];have:=wj k q6;rw[show cH olds.toArray (k*sz α) (sz α)=cH (olds.toArray++news.toArray++Builtin.zeroCells z.cells (cap-(ys.length+zs.length))) (k*sz α) (sz α) from pP (λj hj=>by
       have hb:k*sz α+j<ys.length*sz α:=by
        have:=Nat.mul_le_mul_right (sz α) (show k+1<=ys.length from q6);rw[Nat.succ_mul] at this;omega
       rw[Array.append_assoc,Array.getElem?_append_left (by simpa[holds] using hb)])] at this
      exact hkeep _ _ this
     ·rw[List.getElem_append_right (by omega)];have uF:k-ys.length<zs.length:=by omega
      have:=Aa (k-ys.length) uF;rw[show cH news.toArray ((k-ys.length)*sz α) (sz α)=cH (olds.toArray++news.toArray++Builtin.zeroCells z.cells (cap-(ys.length+zs.length))) (k*sz α) (sz α) from pP (λj hj=>by
       have hb: (k-ys.length)*sz α+j<zs.length*sz α:=by
        have:=Nat.mul_le_mul_right (sz α) (show k-ys.length+1<=zs.length from uF);rw[Nat.succ_mul] at this;omega
       have he:k*sz α=ys.length*sz α+(k-ys.length)*sz α:=by rw[<-Nat.add_mul];congr 1;omega
       rw[Array.getElem?_append_left (by simp only[Array.size_append,List.size_toArray,holds,hnl];omega),Array.getElem?_append_right (by simp only[List.size_toArray,holds];omega)];congr 1;simp only[List.size_toArray,holds];omega)] at this
      exact hkeep _ _ this
   by_cases hys:ys=[]
   ·subst hys;rcases a with _|ab
    case' some=>
     have hr:=run_append_grow (P:=P) w t eY.type e i z hu hi hz ab 0 0 [] (by simp) (λj v hv=>by simp at hv) ⟨sb,so,none⟩ zs.length c news uE hnews (by omega) (by omega)
      (growslice_fits (by omega) (by rw[hby];exact hlen))
     have hfr:=fresh [] (grownCap w (0+zs.length) 0 e) _ (by simp) (λk hk=>by simp at hk) rfl (grownCap_ge w _ _ e);refine⟨_,_,hr,hfr,?_,?_⟩
     ·exact(uC w _).ext.mono (λb hb h=>h.elim)
     ·intro b hb;simp only[cI,Value.ownBlock,Option.some.injEq] at hb;omega
    have hr:=run_append_nil (P:=P) w t eY.type e i z hu hi hz ⟨sb,so,none⟩ zs.length c news uE hnews hm0 (by omega)
     (by rw[hby];simp only[List.length_nil,Nat.zero_add] at hlen;omega)
    have hfr:=fresh [] (grownCap w zs.length 0 e) _ (by simp) (λk hk=>by simp at hk) rfl (by simpa using grownCap_ge w zs.length 0 e);simp only[List.length_nil,Nat.zero_add,List.nil_append] at hfr;refine⟨_,_,hr,?_,?_,?_⟩
    ·simpa using hfr
    ·exact(uC w _).ext.mono (λb hb h=>h.elim)
    ·intro b hb;simp only[cI,Value.ownBlock,Option.some.injEq] at hb;omega
   ·obtain⟨a3,c3,FN,_,_,FO⟩:=kF.1 hown;injection FN with h1 h2 h3;subst h1;rcases FO with h|⟨fA,Lp,yx,Dg,sy,C1,yF,S8,yz,S9⟩
    ·exact absurd h hys
    ·subst yx;obtain⟨olds,tE,holds,wj⟩:=Ln (w:=w) (M:=M) S8 yz S9;have hr:=run_append_grow (P:=P) w t eY.type e i z hu hi hz ⟨fA,Lp,none⟩ ys.length ys.length olds (by rw[pQ];exact tE) holds ⟨sb,so,none⟩ zs.length c news uE hnews (by omega) (by omega)
      (growslice_fits (by omega) (by rw[hby];exact hlen))
     have hfr:=fresh _ (grownCap w (ys.length+zs.length) ys.length e) _ tE wj rfl (grownCap_ge w _ _ e);refine⟨_,_,hr,hfr,?_,?_⟩
     ·exact(uC w _).ext.mono (λb hb h=>h.elim)
     ·intro b hb;simp only[cI,Value.ownBlock,Option.some.injEq] at hb;omega
 obtain⟨v',w',hrun,hpost⟩:=key;refine⟨v',w',.inl ?_,hpost⟩;unfold execOp;rw[gu];simp[hρ _ _ hx,hρ _ _ hy,resolve,invoke,builtin,hrun]
end
section
variable {α:Type} [bg α] {P:Program} {N:Nat} {env:Env} {w w':World} {C aP:Nat->Nat} {I:List Nat} {t e e':TypeId} {v s:Value} {y z:Operand} {xs ys zs:List α} {j b n ty:Nat} {fA vb:Obj}
theorem Dh {bytes:Nat} {a:Option Addr} (hF:aM w C) (hj:j≠0) (hx:ev env y=some (.slice a ys.length ys.length)) (hy:ev env z=some s) (hrow:om P t e (sz α) bytes=true) (hsz:0<sz α)
  (hown:aG w (aB C) ys (.slice a ys.length ys.length)) (hsrc:aG w (aB C) zs s) (yw:zs≠[]) (hlen: (ys.length+zs.length)*bytes<=140737488355328) (h63:ys.length+zs.length<=140737488355328):
  gZ P N env (.call {callee:=.builtin .append,args:=#[y,z],argTypes:=#[t,t]}) w (λv' w'=>∃aP,ay [] w C w' aP/\bn w' aP j e v' (ys++zs)/\aM w' aP):=λa' jv eY gu=>by
 obtain⟨v',w',h1,h2,h3,h4⟩:=S7 (P:=P) (N:=N) hx hy hrow hsz hown hsrc yw hlen h63 a' jv eY gu;have kr:∀b,b<w.heap.size->gj C v' j b=C b:=λb hb=>by
  unfold gj;split
  ·rename_i e;have:=h4 b e;omega
  ·rfl
 refine⟨v',w',h1,gj C v' j,⟨h3.mono (λb _ hb=>hb.elim),kr⟩,⟨h2.sub (λb hb hc=>?_) (λb hb=>?_),λb hb=>?_⟩,λb hb=>?_⟩
 ·by_cases ho:cI v' b
  ·exact .inl ho
  ·right;unfold aB gj at hc;rw[if_neg (show¬v'.ownBlock=some b from ho)] at hc;exact hc
 ·unfold aB gj;rw[if_pos (show v'.ownBlock=some b from hb)];exact hj
 ·unfold gj;rw[if_pos (show v'.ownBlock=some b from hb)]
 ·by_cases ho:cI v' b
  ·exact(h2.fA b ho).2
  ·unfold gj at hb;rw[if_neg (show¬v'.ownBlock=some b from ho)] at hb;exact Nat.lt_of_lt_of_le (hF b hb) h3.size
end
end Go.K
namespace Go.K
open bg
theorem S_ {n:Nat} (h:0<n) (C:Nat->Nat) (b:Nat):bO n C b<n:=by unfold bO;split<;>omega
section
variable {α:Type} [bg α] {w:World} {C:Nat->Nat} {P:Program} {f:FuncId} {N:Nat} {k:List Item} {R:Value->World->Prop} {Q:Exit->Act->World->Prop} {env:Env} {ops:Array Oper} {S:World->Prop} {i t:Nat} {L:List (Nat×Bool)} {v:Value} {y z q:Operand} {gV:Option (Nat×Bool)} {ty e e':TypeId} {xs:List α} {kd AF:IntKind}
end
section
variable {α:Type} [bg α] {P:Program} {N:Nat} {env:Env} {w w':World} {C aP:Nat->Nat} {t e u:TypeId} {v s:Value} {x y z:Operand} {a b:Addr} {l c n:Nat} {M:Nat->Prop}
theorem Lq (hx:ev env x=some (.slice (some b) l c)) (ht:P.underlying t=some (.slice e)):c5 P N env (.binOp .eql t x (.const (.slice none 0 0)) u) w (.bool false):=mk' λρ hρ o ho=>by
 unfold execOp;rw[ho];have hc:ρ (.const (.slice none 0 0))=.slice none 0 0:=hρ _ _ rfl;have h1: (Op.equalIn Op.maxDepth t (.slice (some b) l c) (.slice none 0 0)).run P w=.ok false w:=by rw[show Op.maxDepth=9999+1 from rfl,Op.equalIn];simp[run_underlying ht]
 simp[hρ _ _ hx,hc,go_sem,eqGuard,binOp,Op.equal,h1]
theorem Lr {bytes:Nat} (hF:aM w C) (hrow:om P t e n bytes=true):gZ P N env (.buildSlice t 0 #[]) w (λv w'=>(∃a,v=.slice (some a) 0 0)/\ay [] w C w' C/\aM w' C):=oP λρ hρ eY gu=>by
 obtain⟨i,z,hu,hi,hsi,hby,hz,hzs⟩:=uD hrow;have Ae: (sizeOf e).run P w=.ok n w:=by simp[sizeOf,typeInfo,hi,hsi]
 have hnew:=tf w (.cells #[] e);have hrun: (Instr.buildSlice t 0 #[]).run P w=.ok (.slice (some ⟨w.heap.size,0,none⟩) 0 0) (w.alloc (.cells #[] e)):=by
  unfold Instr.buildSlice;simp[run_underlying hu,Ae,Instr.fill,newRow,show Array.range 0=(#[]:Array Nat) from by simp[Array.range]]
 refine⟨.slice (some ⟨w.heap.size,0,none⟩) 0 0,w.alloc (.cells #[] e),.inl ?_,⟨_,rfl⟩,hnew.st C,hF.st (hnew.st C)⟩;unfold execOp;rw[gu];simp only[Sem.run_bind];rw[show Array.map (λx:Nat×Operand=>(x.fst,ρ x.snd)) #[]=#[] from by simp,hrun];rfl
theorem Ls {a:Addr}:aG w M ([]:List α) (.slice (some a) 0 0):=kF.2 ⟨_,0,rfl,Nat.le_refl _,by simp,.inl rfl⟩
end
section
variable {α:Type} [bg α] {P:Program} {N:Nat} {env:Env} {w:World} {C:Nat->Nat} {t ti e j n l c:Nat} {y z:Operand} {a:Addr}
theorem Ta {bytes:Nat} (hF:aM w C) (hj:j≠0) (hy:ev env y=some (.slice none 0 0)) (hz:ev env z=some (.int .i64 n)) (hrow:om P t e (sz α) bytes=true) (hsz:0<sz α) (hby:bytes<=100000)
  (Tb:P.underlying ti=some (.int .i64)) (h0:0<n) (hn:n<=1000000):
  gZ P N env (.call {callee:=.builtin .append,args:=#[y,z],argTypes:=#[t,ti]}) w (λv w'=>∃aP g cap,v=.slice (some ⟨g,0,none⟩) n cap/\ay [] w C w' aP/\bn w' aP j e (.slice (some ⟨g,0,none⟩) 0 cap) ([]:List α)/\aM w' aP):=oP λρ hρ eY gu=>by
 obtain⟨i,kG,hu,hi,hsi,hb,CH,hzs⟩:=uD hrow;have hr:=Lib.run_append_nil_zeros (P:=P) w t ti eY.type e i kG .i64 .i64 hu Tb hi CH n h0 (by rw[hsi];exact hsz) (by omega) (by rw[hb];have:=Nat.mul_le_mul hn hby;omega);have hge:=grownCap_ge w n 0 e;obtain⟨cap,hcap⟩:∃cap,cap=grownCap w n 0 e:=⟨_,rfl⟩
 rw[<-hcap] at hr hge;have Tc:=uC w (.cells (Builtin.zeroCells kG.cells n++Builtin.zeroCells kG.cells (cap-n)) e (0,0));obtain⟨aP,h1,h2,h3⟩:=Tc.own hF j;refine⟨_,_,.inl ?_,aP,_,cap,rfl,h1,⟨.inr ⟨w.heap.size,cap,_,rfl,?_,h2.at_,Nat.zero_le _,?_,λk hk=>by simp at hk⟩,λb hb=>?_⟩,h3⟩
 ·unfold execOp;rw[gu];simp[hρ _ _ hy,hρ _ _ hz,resolve,invoke,builtin,hr]
 ·unfold aB;rw[h2.col];exact hj
 ·rw[Array.size_append,size_zeroCells,size_zeroCells,hzs,<-Nat.add_mul];congr 1;omega
 ·simp only[cI,Value.ownBlock,Option.some.injEq] at hb;subst hb;exact h2.col
theorem Lt {b:Option Addr} (hx:ev env y=some (.slice b l c)) (ht:P.underlying t=some (.slice e)):
  c5 P N env (.call {callee:=.builtin .cap,args:=#[y],argTypes:=#[t]}) w (.int .i64 c):=mk' λρ hρ o ho=>by
 unfold execOp;rw[ho];simp[hρ _ _ hx,go_sem,resolve,invoke,builtin,Builtin.cap_,run_underlying ht,goInt]
theorem Td (hx:ev env y=some (.slice none 0 0)) (hz:ev env z=some (.int .i64 0)) (hu:P.underlying t=some (.slice e)) (hi: (P.info? e).isSome=true):c5 P N env (.slice t y none (some z) none) w (.slice none 0 0):=mk' λρ hρ o ho=>by
 obtain⟨i,hi⟩:=Option.isSome_iff_exists.1 hi;unfold execOp;rw[ho];simp[hρ _ _ hx,hρ _ _ hz,Instr.sliceAt,Instr.slice,run_underlying hu,Instr.sliceBounds,Instr.sliceBound,asIntOf,sizeOf,typeInfo,hi]
theorem Te {g:Nat} (hx:ev env y=some (.slice (some ⟨g,0,none⟩) l c)) (hz:ev env z=some (.int .i64 0)) (hu:P.underlying t=some (.slice e)) (hi: (P.info? e).isSome=true):c5 P N env (.slice t y none (some z) none) w (.slice (some ⟨g,0,none⟩) 0 c):=mk' λρ hρ o ho=>by
 obtain⟨i,hi⟩:=Option.isSome_iff_exists.1 hi;unfold execOp;rw[ho];simp[hρ _ _ hx,hρ _ _ hz,Instr.sliceAt,Instr.slice,run_underlying hu,Instr.sliceBounds,Instr.sliceBound,asIntOf,sizeOf,typeInfo,hi];exact λ_=>rfl
end
section
variable {α:Type}
theorem Di {ll:List (List α)} {k:Nat} (h:k<ll.length): (ll.take (k+1)).flatten=(ll.take k).flatten++ll[k]:=by
 rw[List.take_succ_eq_append_getElem h,List.flatten_append];simp
theorem uX {ll:List (List α)} (k:Nat): (ll.take k).flatten.length<=ll.flatten.length:=by
 have:ll.flatten.length=(ll.take k).flatten.length+(ll.drop k).flatten.length:=by rw[<-List.length_append,<-List.flatten_append,List.take_append_drop]
 omega
end
theorem Dj {x y:Int}:jZ x y=0↔x=y:=by unfold jZ;split<;>(try split)<;>omega
theorem Lu {x y:Int}:0<jZ x y↔y<x:=by unfold jZ;split<;>(try split)<;>omega
theorem yB (a b c:Int):ij [a,b,c]=if a≠0 then a else if b≠0 then b else c:=by
 unfold ij;by_cases h:a=0
 ·simp[h];unfold ij;by_cases h2:b=0
  ·simp[h2,ij];exact λe=>e.symm
  ·simp[h2]
 ·simp[h]
theorem yD (a b:Int):ij [a,b]=if a≠0 then a else b:=by
 unfold ij;by_cases h:a=0
 ·simp[h,ij];exact λe=>e.symm
 ·simp[h]
section
variable {P:Program} {f:FuncId} {N:Nat} {k:List Item} {env:Env} {w:World} {R:Value->World->Prop}
end
def AG (x y:bG):Prop:=x.A.a<y.A.a\/(x.A.a=y.A.a/\(x.A.b<y.A.b\/(x.A.b=y.A.b/\(x.B.a<y.B.a\/(x.B.a=y.B.a/\(x.B.b<y.B.b\/(x.B.b=y.B.b/\(x.dJ<y.dJ\/(x.dJ=y.dJ/\x.bL<y.bL)))))))))
def yG (x y:av):Prop:=x.a<y.a\/(x.a=y.a/\x.b<y.b)
def Lv (x y:av):Prop:=x.a=y.a/\x.b=y.b
theorem yH {x y:av}: (jJ x y<0↔yG x y)/\(jJ x y=0↔Lv x y)/\(0<jJ x y↔yG y x):=by
 unfold jJ yG Lv;rw[yD];have a1:= @Df x.a y.a;have a2:= @Dj x.a y.a;have a3:= @Lu x.a y.a;have b1:= @Df x.b y.b;have b2:= @Dj x.b y.b;have b3:= @Lu x.b y.b;by_cases h1:jZ x.a y.a=0
 ·rw[if_neg (by omega)];refine⟨?_,?_,?_⟩<;>omega
 ·rw[if_pos h1];refine⟨?_,?_,?_⟩<;>omega
def nR (R I:Nat) (x:bG):Prop:=0<=x.A.a/\x.A.a<x.B.a/\x.B.a<R/\1<=x.A.b/\x.A.b<=I/\1<=x.B.b/\x.B.b<=I/\1<=x.dJ/\x.dJ<=2/\1<=x.bL/\x.bL<=4
def p7 (r i s k:Nat) (x:bG):Prop:=x.A.a<r\/x.A.a=r/\(x.A.b<i\/x.A.b=i/\(x.B.a<s\/x.B.a=s/\x.B.b<k))
def mO (R I r i s k:Nat) (l:List bG):Prop:=(∀x∈l,nR R I x/\p7 r i s k x)/\l.Pairwise AG
theorem mO.nil (R I r i s k:Nat):mO R I r i s k []:=⟨λx h=>by simp at h,List.Pairwise.nil⟩
theorem mO.to {R I r i s k r' i' s' k':Nat} {l:List bG} (h:mO R I r i s k l) (hc:∀x,nR R I x->p7 r i s k x->p7 r' i' s' k' x):mO R I r' i' s' k' l:=
 ⟨λx hx=>⟨(h.1 x hx).1,hc x (h.1 x hx).1 (h.1 x hx).2⟩,h.2⟩
theorem mO.len {R I r i s k:Nat} {l:List bG} (h:mO R I r i s k l) (hR:R<=4) (hI:I<=4):l.length<=2048:=by
 have hb:∀x∈l,nR R I x:=λx hx=>(h.1 x hx).1;have:=Fy (λx:bG=>(x.A.a*512+(x.A.b-1)*128+x.B.a*32+(x.B.b-1)*8+(x.dJ-1)*4+(x.bL-1)).toNat) 2048 l 0 (h.2.imp_of_mem λ{x y} hx hy hxy=>by
  have h1:=hb x hx;have h2:=hb y hy;unfold nR at h1 h2;unfold AG at hxy;show(x.A.a*512+(x.A.b-1)*128+x.B.a*32+(x.B.b-1)*8+(x.dJ-1)*4+(x.bL-1)).toNat<(y.A.a*512+(y.A.b-1)*128+y.B.a*32+(y.B.b-1)*8+(y.dJ-1)*4+(y.bL-1)).toNat;omega) (λx hx=>by
  have h1:=hb x hx;unfold nR at h1;show 0<=_/\(x.A.a*512+(x.A.b-1)*128+x.B.a*32+(x.B.b-1)*8+(x.dJ-1)*4+(x.bL-1)).toNat<2048;omega)
 simpa using this
theorem mO.push {R I r i s k:Nat} {l:List bG} {x:bG} (h:mO R I r i s k l) (hx:nR R I x) (h1:x.A.a=r/\x.A.b=i/\x.B.a=s/\x.B.b=k):mO R I r i s (k+1) (l++[x]):=by
 refine⟨λy hy=>?_,?_⟩
 ·rcases List.mem_append.1 hy with hy|hy
  ·obtain⟨h3,h4⟩:=h.1 y hy;refine⟨h3,?_⟩;unfold p7 at*;omega
  ·simp only[List.mem_singleton] at hy;subst hy;exact⟨hx,by unfold p7;omega⟩
 ·rw[List.pairwise_append];refine⟨h.2,by simp,λy hy z hz=>?_⟩;simp only[List.mem_singleton] at hz;subst hz;obtain⟨h3,h4⟩:=h.1 y hy;unfold p7 at h4;unfold AG;omega
theorem mO.Tf {R I r i s k:Nat} {l:List bG} {x y:bG} (h:mO R I r i s k l) (hx:nR R I x) (hy:nR R I y) (h1:x.A.a=r/\x.A.b=i/\x.B.a=s/\x.B.b=k) (h2:y.A=x.A/\y.B=x.B/\y.dJ=x.dJ/\x.bL<y.bL):mO R I r i s (k+1) (l++[x]++[y]):=by
 have h3:=h.push hx h1;obtain⟨Dm,Lx,RA,vz⟩:=h2;refine⟨λz hz=>?_,?_⟩
 ·rcases List.mem_append.1 hz with hz|hz
  ·exact h3.1 z hz
  ·simp only[List.mem_singleton] at hz;subst hz;exact⟨hy,by unfold p7;rw[Dm,Lx];omega⟩
 ·rw[List.pairwise_append];refine⟨h3.2,by simp,λu hu z hz=>?_⟩;simp only[List.mem_singleton] at hz;subst hz;unfold AG;rw[Dm,Lx];rcases List.mem_append.1 hu with hu|hu
  ·have h4:=(List.pairwise_append.1 h3.2).2.2 u hu x (by simp);unfold AG at h4;obtain⟨h5,h6⟩:=h.1 u hu;unfold p7 at h6;omega
  ·simp only[List.mem_singleton] at hu;subst hu;omega
section
variable {α:Type} [bg α] {P:Program} {N:Nat} {env:Env} {w w':World} {C aP bC D:Nat->Nat} {I:List Nat} {t e:TypeId} {v s:Value} {x y z:Operand} {xs ys zs:List α} {j j1 n:Nat}
end
section
variable {α:Type} [bg α] {w:World} {C:Nat->Nat} {P:Program} {f:FuncId} {N:Nat} {k:List Item} {R:Value->World->Prop} {Q:Exit->Act->World->Prop} {env:Env} {ops:Array Oper} {S:World->Prop} {i t:Nat} {L:List (Nat×Bool)} {v v2:Value} {y z:Operand} {gV:Option (Nat×Bool)} {ty e e':TypeId} {xs:List α} {j g:Nat} {kd:IntKind} {n:Int}
end
section
variable {α:Type} [bg α] {w w':World} {C aP:Nat->Nat} {I:List Nat} {e:TypeId} {v:Value} {ys:List α} {j:Nat}
end
section
variable {α:Type} {ys zs us:List α} {σ dD:Nat->Nat} {c:α->α->Int} {P:α->Prop}
theorem Tg {n:Nat} (h:fD σ 0 n): ((List.range n).map σ).Perm (List.range n):=by
 have iB: ((List.range n).map σ).Nodup:=by
  rw[List.nodup_iff_pairwise_ne,List.pairwise_map];exact(List.nodup_iff_pairwise_ne.1 List.nodup_range).imp (λhne e=>hne (h.inj _ _ e))
 have hsub: (List.range n).map σ⊆List.range n:=λx hx=>by
  obtain⟨i,hi,rfl⟩:=List.mem_map.1 hx;exact List.mem_range.2 (h.kA i (by omega) (List.mem_range.1 hi)).2
 refine(List.perm_ext_iff_of_nodup iB List.nodup_range).2 λa=>⟨λha=>hsub ha,λha=>?_⟩
 apply Classical.byContradiction;intro hn;have h1: (a::(List.range n).map σ).Nodup:=List.nodup_cons.2 ⟨hn,iB⟩;have h2:=h1.length_le_of_subset (l₂:=List.range n) (λx hx=>by
  rcases List.mem_cons.1 hx with rfl|hx
  ·exact ha
  ·exact hsub hx)
 simp at h2;omega
theorem fk.perm (h:fk c ys zs):zs.Perm ys:=by
 obtain⟨σ,h1,h2,h3⟩:=h;have e1:zs.map some=((List.range ys.length).map σ).map (λi=>ys[i]?):=by
  apply List.ext_getElem
  ·simp[h1.len]
  ·intro i hi hj;have hlt:i<ys.length:=by simpa[h1.len] using hi
   simp only[List.getElem_map,List.getElem_range];rw[<-(h1.at_ i hlt).2,List.getElem?_eq_getElem (by rw[h1.len];exact hlt)]
 have e2:ys.map some=(List.range ys.length).map (λi=>ys[i]?):=by
  apply List.ext_getElem
  ·simp
  ·intro i hi hj;simp only[List.getElem_map,List.getElem_range];rw[List.getElem?_eq_getElem (by simpa using hi)]
 have fV: (zs.map some).Perm (ys.map some):=by rw[e1,e2];exact(Tg h2).map _
 have nQ:=fV.filterMap id;simpa using nQ
theorem fk.le (h:fk c ys zs) {i j:Nat} (hij:i<j) (hj:j<zs.length):c (zs[i]'(by omega)) zs[j]<=0:=by
 obtain⟨σ,h1,h2,h3⟩:=h;have hl:=h1.len;rw[h1.get (show i<ys.length by omega),h1.get (show j<ys.length by omega)];obtain⟨_,_,h4⟩:=h3 i j (by omega) hij (by omega);omega
theorem fk.self (h:∀i j (hij:i<j) (hj:j<ys.length),c (ys[i]'(by omega)) ys[j]<0):fk c ys ys:=
 ⟨λi=>i,fC.id ys,fD.id _ _,λi j h1 h2 h3=>⟨Nat.lt_trans h2 h3,h3,.inl (h i j h2 h3)⟩⟩
end
section
variable {sh z:List wF} {r r2:av} {ver Ly:Int} {vals:List ByteArray} {fl:List Int} {k:Nat}
end
section
variable {pr:Int} {oy df:List Int} {lo hi:Int} {p:Nat} {fl Lz:List Int} {ok aT:Bool}
end
section
variable {pr:Int} {oy df:List Int} {lo hh:Int} {p:Nat} {Ti:Int} {sh:List wF} {ds:List bG} {A B:av} {Tj Tk:List ByteArray} {Tl Ly cG e:Int} {yI now:List wF}
end
def sC (f:Nat->Int):Nat->Int
 |0=>0
 |n+1=>if sC f n≠0 then sC f n else f n
theorem yJ {f:Nat->Int}:∀{n:Nat},(∀k,k<n->f k=0)->sC f n=0
 |0,_=>rfl
 |n+1,h=>by rw[sC,if_neg (by rw[yJ (λk hk=>h k (by omega))];simp)];exact h n (by omega)
theorem FP {f:Nat->Int} {i:Nat} (h0:∀k,k<i->f k=0) (hf:f i≠0):∀{n:Nat},i<n->sC f n=f i
 |0,h=>absurd h (by omega)
 |n+1,h=>by
  rw[sC];by_cases e:i=n
  ·subst e;rw[if_neg (by rw[yJ h0];simp)]
  ·rw[if_pos (by rw[FP h0 hf (show i<n by omega)];exact hf),FP h0 hf (by omega)]
theorem LA {f:Nat->Int}:∀{n:Nat},sC f n=0->∀k,k<n->f k=0
 |0,_,k,h=>absurd h (by omega)
 |n+1,h,k,hk=>by
  rw[sC] at h;split at h
  ·rename_i h1;exact absurd h h1
  ·rename_i h1;by_cases e:k=n
   ·subst e;exact h
   ·exact LA (Classical.not_not.1 h1) k (by omega)
theorem yK {f:Nat->Int} {i n:Nat} {e:Int} (h0:∀k,k<i->f k=0) (hi:i<n) (he:f i=e) (hne:e≠0):sC f n=e:=by
 rw[FP h0 (by rw[he];exact hne) hi,he]
theorem Dn {f:Nat->Int} {i:Nat} (h0:∀k,k<i->f k=0) (he:f i=0):∀k,k<i+1->f k=0:=λk hk=>by
 by_cases e:k=i
 ·subst e;exact he
 ·exact h0 k (by omega)
theorem sD (x y:av):jJ x y=if x=y then 0 else if dV x y then-1 else 1:=by
 rw[CP];by_cases e:x=y
 ·subst e;simp
 ·rw[if_neg e];unfold dV;have h:¬(x.a=y.a/\x.b=y.b):=λh=>e (Ak h.1 h.2)
  (repeat' split)<;>first|rfl|omega
theorem qE (x y:Int):jZ x y=if x=y then 0 else if x<y then-1 else 1:=by
 unfold jZ;(repeat' split)<;>first|rfl|omega
section
variable {w:World} {M:Nat->Prop} {b o:Nat}
theorem bP.oZ {x:bG} (h:bP w M x b o):bP w M x.A b o:=bP.fst (p:=(x.A,(x.B,(x.dJ,(x.bL,x.same))))) h
theorem bP.LB {x:bG} (h:bP w M x b o):bP w M (x.B,(x.dJ,(x.bL,x.same))) b (o+2):=bP.snd (p:=(x.A,(x.B,(x.dJ,(x.bL,x.same))))) h
theorem bP.tK {x:bG} (h:bP w M x b o):bP w M x.B b (o+2):=bP.fst (p:=(x.B,(x.dJ,(x.bL,x.same)))) h.LB
theorem bP.LC {x:bG} (h:bP w M x b o):bP w M (x.dJ,(x.bL,x.same)) b (o+4):=bP.snd (p:=(x.B,(x.dJ,(x.bL,x.same)))) h.LB
theorem bP.LD {x:bG} (h:bP w M x b o):bP w M x.dJ b (o+4):=bP.fst (p:=(x.dJ,(x.bL,x.same))) h.LC
theorem bP.LG {x:bG} (h:bP w M x b o):bP w M (x.bL,x.same) b (o+5):=bP.snd (p:=(x.dJ,(x.bL,x.same))) h.LC
theorem bP.Tm {x:bG} (h:bP w M x b o):bP w M x.bL b (o+5):=bP.fst (p:=(x.bL,x.same)) h.LG
theorem bP.uY {x:bG} (h:bP w M x b o):bP w M x.same b (o+6):=bP.snd (p:=(x.bL,x.same)) h.LG
end
def p8 (l:List bG) (i:Nat):Int:=
 if iZ (l.getD i default).A (l.getD i default).B=false then 41 else if(iG (l.getD i default).dJ&&iG (l.getD i default).bL)=false then 42
 else if 0<i/\¬lC (l.getD (i-1) default) (l.getD i default)<0 then 12 else 0
def lD (l:List bG):Int:=if 4096<l.length then 1 else sC (p8 l) l.length
theorem LH {l:List bG} {i:Nat} (hi:i<l.length) (h:iZ l[i].A l[i].B=false):p8 l i=41:=by unfold p8;rw[qB hi,if_pos h]
theorem LI {l:List bG} {i:Nat} (hi:i<l.length) (h:iZ l[i].A l[i].B=true) (h2: (iG l[i].dJ&&iG l[i].bL)=false):p8 l i=42:=by
 unfold p8;rw[qB hi,if_neg (by rw[h];simp),if_pos h2]
theorem LJ {l:List bG} {i:Nat} (hi:i<l.length) (h:iZ l[i].A l[i].B=true) (h2: (iG l[i].dJ&&iG l[i].bL)=true) (h0:0<i) (h3:¬lC (l[i-1]'(by omega)) l[i]<0):p8 l i=12:=by
 unfold p8;rw[qB hi,qB (show i-1<l.length by omega),if_neg (by rw[h];simp),if_neg (by rw[h2];simp),if_pos ⟨h0,h3⟩]
theorem AH {l:List bG} {i:Nat} (hi:i<l.length) (h:iZ l[i].A l[i].B=true) (h2: (iG l[i].dJ&&iG l[i].bL)=true) (h3:∀h0:0<i,lC (l[i-1]'(by omega)) l[i]<0):p8 l i=0:=by
 unfold p8;rw[qB hi,qB (show i-1<l.length by omega),if_neg (by rw[h];simp),if_neg (by rw[h2];simp),if_neg (λe=>e.2 (h3 e.1))]
theorem LK {l:List bG} {i:Nat} (hi:i<l.length) (h:p8 l i=0):rG l[i]/\∀h0:0<i,lC (l[i-1]'(by omega)) l[i]<0:=by
 unfold p8 at h;rw[qB hi,qB (show i-1<l.length by omega)] at h;split at h
 ·exact absurd h (by decide)
 ·rename_i h1;split at h
  ·exact absurd h (by decide)
  ·rename_i h2;split at h
   ·exact absurd h (by decide)
   ·rename_i h3;have wk: (iG l[i].dJ&&iG l[i].bL)=true:=by simpa using h2
    rw[Bool.and_eq_true] at wk;exact⟨⟨by simpa using h1,wk.1,wk.2⟩,λh0=>Classical.byContradiction λhn=>h3 ⟨h0,hn⟩⟩
theorem Dp {l:List bG} (h:lD l=0):l.length<=4096/\(∀i (hi:i<l.length),rG l[i])/\∀i (hi:i+1<l.length),lC l[i] l[i+1]<0:=by
 unfold lD at h;split at h
 ·exact absurd h (by decide)
 ·have hz:=LA h;refine⟨by omega,λi hi=>(LK hi (hz i hi)).1,λi hi=>(LK hi (hz (i+1) hi)).2 (by omega)⟩
def LL (pr:Int) (oy df:List Int):Prop:=oy.length<1\/5<oy.length\/df.length≠oy.length\/¬FM pr
instance (pr:Int) (oy df:List Int):Decidable (LL pr oy df):=by unfold LL;infer_instance
open Classical in
def LM (lo hh:Int):Prop:=hh<1\/65536<hh\/lo< -65536\/hh<lo
instance (lo hh:Int):Decidable (LM lo hh):=by unfold LM;infer_instance
open Classical in
section
variable {Ti:Int} {sh:List wF} {ds:List bG} {pr:Int} {oy df:List Int} {lo hh p:Int} {A B:av} {vm Tl:Int} {Tj:List ByteArray} {iR Ly:Int} {Tk:List ByteArray} {fl Lz:List Int} {e e':Int}
end
def nT (ds:List bG) (a b:av):Bool:=ds.any λd=>!d.same&&decide (d.A=a/\d.B=b)
def eC (ds:List bG) (a b:av):Bool:=decide (a.a=b.a)||nT ds a b||nT ds b a
theorem LN (ds:List bG) (a b:av):eC ds a b=eC ds b a:=by
 unfold eC;rw[show decide (a.a=b.a)=decide (b.a=a.a) from decide_eq_decide.2 ⟨Eq.symm,Eq.symm⟩,Bool.or_assoc,Bool.or_assoc,Bool.or_comm (nT ds a b)]
theorem Tn (ds:List bG) (a:av):eC ds a a=true:=by unfold eC;simp
def i_ (l:List aO) (s:List av):List aO:=l.filter λx=>decide (x.A∈s/\x.B∈s)
theorem Tp {l:List aO} {s s':List av} (h:∀r,r∈s↔r∈s'):i_ l s=i_ l s':=by
 unfold i_;refine List.filter_congr λx _=>?_;rw[decide_eq_decide,h,h]
def qF (l:List aO) (s:List av):Prop:=∀x∈s,∀y∈s,b_ (i_ l s) x=b_ (i_ l s) y
theorem qF.congr {l:List aO} {s s':List av} (h:∀r,r∈s↔r∈s') (hj:qF l s):qF l s':=λx hx y hy=>by
 rw[<-Tp (l:=l) h];exact hj x ((h x).2 hx) y ((h y).2 hy)
def j6 (l:List aO) (s:List av):Bool:=s.all λx=>decide (b_ (i_ l s) x=b_ (i_ l s) (s.headD ⟨0,0⟩))
theorem FQ {l:List aO} {s:List av}:j6 l s=true↔qF l s:=by
 unfold j6 qF;rw[List.all_eq_true];constructor
 ·intro h x hx y hy;have h1:=of_decide_eq_true (h x hx);have h2:=of_decide_eq_true (h y hy);rw[h1,h2]
 ·intro h x hx;rw[decide_eq_true_eq];refine h x hx _ ?_;cases s with
  |nil=>simp at hx
  |cons a s=>simp
def qG (x:aO) (p:List av):Bool:=decide (x.A∈p/\x.B∈p)
def eN (l:List aO) (ps:List (List av)):Int:=((l.filter λx=>ps.any (qG x)).map (·.w)).sum
def gp (sets:List (List av)):List (List av):=sets.filter λs=>decide (2<=s.length)
def mP (ds:List bG) (s:List av) (r:av):Bool:=!(s.any λb=>eC ds b r)
def ny (ds:List bG):List av->List (List av)->List (List (List av))
 |[],sets=>[sets]
 |r::rs,sets=>((List.range sets.length).flatMap λk=>if mP ds (sets.getD k []) r then ny ds rs (sets.set k (sets.getD k []++[r])) else[])++ny ds rs (sets++[[r]])
structure gX where
 found:Bool
 best:List (List av)
 val:Int
def mQ (l:List aO) (sets:List (List av)):Bool:=(gp sets).all (j6 l)
def lR (l:List aO) (st:gX) (sets:List (List av)):gX:=
 if mQ l sets=true/\(st.found=false\/st.val<eN l (gp sets)) then⟨true,gp sets,eN l (gp sets)⟩ else st
def p9 (l:List aO) (ds:List bG) (rs:List av) (sets:List (List av)) (st:gX):gX:=(ny ds rs sets).foldl (lR l) st
def o_:gX:=⟨false,[],0⟩
def nU (l:List aO) (ds:List bG):List (List av):=(p9 l ds (aW l) [] o_).best
def pg (l:List aO) (ds:List bG) (r:av) (rs:List av) (sets:List (List av)) (st:gX):Nat->gX
 |0=>st
 |k+1=>if mP ds (sets.getD k []) r then p9 l ds rs (sets.set k (sets.getD k []++[r])) (pg l ds r rs sets st k) else pg l ds r rs sets st k
theorem LO (l:List aO) (ds:List bG) (r:av) (rs:List av) (sets:List (List av)) (st:gX):∀k,pg l ds r rs sets st k=((List.range k).flatMap λk=>if mP ds (sets.getD k []) r then ny ds rs (sets.set k (sets.getD k []++[r])) else[]).foldl (lR l) st
 |0=>rfl
 |k+1=>by
  rw[List.range_succ,List.flatMap_append,List.foldl_append,<-LO l ds r rs sets st k,pg];simp only[List.flatMap_cons,List.flatMap_nil,List.append_nil];split
  ·rfl
  ·rfl
theorem Tq (l:List aO) (ds:List bG) (r:av) (rs:List av) (sets:List (List av)) (st:gX):p9 l ds (r::rs) sets st=p9 l ds rs (sets++[[r]]) (pg l ds r rs sets st sets.length):=by
 unfold p9;rw[ny,List.foldl_append,<-LO]
theorem Ts (l:List aO) (ds:List bG) (sets:List (List av)) (st:gX):p9 l ds [] sets st=lR l st sets:=rfl
section
variable {l:List aO} {ds:List bG} {rs xs:List av} {sets out:List (List av)} {st:gX}
structure jP (ds:List bG) (xs:List av) (sets:List (List av)):Prop where
 perm:sets.flatten.Perm xs
 ne:∀s∈sets,s≠[]
 sub:∀s∈sets,s.Sublist xs
 bar:∀s∈sets,s.Pairwise λa b=>eC ds a b=false
 heads: (sets.map λs=>s.headD ⟨0,0⟩).Sublist xs
theorem jP.nil:jP ds [] []:=⟨List.Perm.refl _,by simp,by simp,by simp,by simp⟩
theorem LP:∀{sets:List (List av)} {k:Nat} {r:av},k<sets.length->(sets.set k (sets.getD k []++[r])).flatten.Perm (sets.flatten++[r])
 |[],k,r,h=>by simp at h
 |s::ss,0,r,_=>by
  simp only[List.set_cons_zero,List.getD_cons_zero,List.flatten_cons,List.append_assoc];exact List.Perm.append_left s (List.perm_append_comm)
 |s::ss,k+1,r,h=>by
  simp only[List.set_cons_succ,List.getD_cons_succ,List.flatten_cons,List.append_assoc];exact List.Perm.append_left s (LP (by simpa using h))
theorem LQ {s:List av} {r:av}:mP ds s r=true↔∀b∈s,eC ds b r=false:=by
 unfold mP;rw[Bool.not_eq_true',List.any_eq_false];exact⟨λh b hb=>by simpa using h b hb,λh b hb=>by rw[h b hb];decide⟩
theorem jP.put (h:jP ds xs sets) {k:Nat} {r:av} (hk:k<sets.length) (hok:mP ds (sets.getD k []) r=true):jP ds (xs++[r]) (sets.set k (sets.getD k []++[r])):=by
 have hm:sets.getD k []∈sets:=by rw[nP hk];exact List.getElem_mem _
 have hin:∀s∈sets.set k (sets.getD k []++[r]),s∈sets\/s=sets.getD k []++[r]:=λs hs=>by
  rcases List.mem_or_eq_of_mem_set hs with h|h
  ·exact .inl h
  ·exact .inr h
 refine⟨(LP hk).trans (h.perm.append_right _),λs hs=>?_,λs hs=>?_,λs hs=>?_,?_⟩
 ·rcases hin s hs with h1|rfl
  ·exact h.ne s h1
  ·simp
 ·rcases hin s hs with h1|rfl
  ·exact(h.sub s h1).trans (List.sublist_append_left _ _)
  ·exact(h.sub _ hm).append (List.Sublist.refl _)
 ·rcases hin s hs with h1|rfl
  ·exact h.bar s h1
  ·refine List.pairwise_append.2 ⟨h.bar _ hm,List.pairwise_singleton _ _,λa ha b hb=>?_⟩;rw[List.mem_singleton] at hb;subst hb;exact LQ.1 hok a ha
 ·have e: ((sets.set k (sets.getD k []++[r])).map λs=>s.headD ⟨0,0⟩)=sets.map λs=>s.headD ⟨0,0⟩:=by
   apply List.ext_getElem?;intro i;rw[List.getElem?_map,List.getElem?_map,List.getElem?_set];by_cases e:k=i
   ·subst e;rw[if_pos rfl,if_pos hk,List.getElem?_eq_getElem hk];have hne:=h.ne _ hm;rw[nP hk] at hne⊢;cases e2:sets[k] with
    |nil=>exact absurd e2 hne
    |cons a t=>simp
   ·rw[if_neg e]
  rw[e];exact h.heads.trans (List.sublist_append_left _ _)
theorem jP.new (h:jP ds xs sets) (r:av):jP ds (xs++[r]) (sets++[[r]]):=by
 have hin:∀s∈sets++[[r]],s∈sets\/s=[r]:=λs hs=>by
  rcases List.mem_append.1 hs with h|h
  ·exact .inl h
  ·exact .inr (List.mem_singleton.1 h)
 refine⟨by rw[List.flatten_append];simpa using h.perm.append_right [r],λs hs=>?_,λs hs=>?_,λs hs=>?_,?_⟩
 ·rcases hin s hs with h1|rfl
  ·exact h.ne s h1
  ·simp
 ·rcases hin s hs with h1|rfl
  ·exact(h.sub s h1).trans (List.sublist_append_left _ _)
  ·exact List.sublist_append_right _ _
 ·rcases hin s hs with h1|rfl
  ·exact h.bar s h1
  ·exact List.pairwise_singleton _ _
 ·rw[List.map_append];exact h.heads.append (List.Sublist.refl _)
theorem AJ:∀{rs xs:List av} {sets:List (List av)},jP ds xs sets->∀out∈ny ds rs sets,jP ds (xs++rs) out
 |[],xs,sets,h,out,ho=>by
  rw[ny,List.mem_singleton] at ho;subst ho;rw[List.append_nil];exact h
 |r::rs,xs,sets,h,out,ho=>by
  rw[ny,List.mem_append,List.mem_flatMap] at ho;have e:xs++r::rs=(xs++[r])++rs:=by simp
  rw[e];rcases ho with⟨k,hk,ho⟩|ho
  ·split at ho
   ·rename_i hok;exact AJ (h.put (List.mem_range.1 hk) hok) out ho
   ·simp at ho
  ·exact AJ (h.new r) out ho
theorem Tt {sets:List (List av)} {i:Nat} {r:av} (h:i<sets.length):sets.modify i (·++[r])=sets.set i (sets.getD i []++[r]):=by
 apply List.ext_getElem?;intro j;rw[List.getElem?_modify,List.getElem?_set,nP h];by_cases e:i=j
 ·subst e;simp[h]
 ·simp[e]
theorem FR {de:Type} [DecidableEq de] (f:av->de):∀(rs xs:List av),(∀a∈xs++rs,∀b∈xs++rs,a≠b->f a=f b->eC ds a b=false)->(xs++rs).Nodup->gR f (xs++rs)∈ny ds rs (gR f xs)
 |[],xs,_,_=>by rw[List.append_nil,ny,List.mem_singleton]
 |r::rs,xs,hb,hn=>by
  have e:xs++r::rs=(xs++[r])++rs:=by simp
  rw[e] at hb hn⊢;have ih:=FR f rs (xs++[r]) hb hn;rw[ny,List.mem_append,List.mem_flatMap];by_cases hq:∃q∈dP f xs,f q=f r
  ·obtain⟨q,hq,Dq⟩:=hq;obtain⟨i,hi,rfl⟩:=List.getElem_of_mem hq;left;refine⟨i,List.mem_range.2 (by rw[mK];exact hi),?_⟩;have hlt:i<(gR f xs).length:=by rw[mK];exact hi
   rw[if_pos]
   ·have h2:=KK (xs:=xs) (r:=r) hi Dq;rw[h2.2,Tt hlt] at ih;exact ih
   ·rw[LQ];intro b Ds;rw[nP hlt,Ap hlt,List.mem_filter,decide_eq_true_eq] at Ds;refine hb b (by simp[Ds.1]) r (by simp) (λe=>?_) (by rw[Ds.2,Dq]);subst e;have:=(List.nodup_append.1 (List.nodup_append.1 hn).1).2.2 b Ds.1 b (by simp);exact this rfl
  ·right;have h2:=KL (xs:=xs) (r:=r) (f:=f) (λq Tv e=>hq ⟨q,Tv,e⟩);rw[h2.2] at ih;exact ih
end
section
variable {l:List aO} {ds:List bG} {rs xs:List av} {sets out ps:List (List av)} {st:gX}
structure Good (l:List aO) (L:List (List (List av))) (st:gX):Prop where
 no:st.found=false->∀s∈L,mQ l s=false
 yes:st.found=true->(∃s∈L,mQ l s=true/\st.best=gp s/\st.val=eN l (gp s))/\∀s∈L,mQ l s=true->eN l (gp s)<=st.val
theorem Good.step {L:List (List (List av))} (h:Good l L st) (s:List (List av)):Good l (L++[s]) (lR l st s):=by
 unfold lR;by_cases hc:mQ l s=true/\(st.found=false\/st.val<eN l (gp s))
 ·rw[if_pos hc];refine⟨λe=>(by cases e),λ_=>⟨⟨s,by simp,hc.1,rfl,rfl⟩,λs' hs' hf=>?_⟩⟩;rcases List.mem_append.1 hs' with h1|h1
  ·show eN l (gp s')<=eN l (gp s);cases e:st.found with
   |false=>rw[h.no e s' h1] at hf;cases hf
   |true=>
    have h2:=(h.yes e).2 s' h1 hf;have h3:=hc.2.resolve_left (by rw[e];decide);omega
  ·rw[List.mem_singleton] at h1;subst h1;exact Int.le_refl _
 ·rw[if_neg hc];refine⟨λe s' hs'=>?_,λe=>⟨?_,λs' hs' hf=>?_⟩⟩
  ·rcases List.mem_append.1 hs' with h1|h1
   ·exact h.no e s' h1
   ·rw[List.mem_singleton] at h1;subst h1;rw[Bool.eq_false_iff];intro hf;exact hc ⟨hf,.inl e⟩
  ·obtain⟨⟨q,h1,h2⟩,_⟩:=h.yes e;exact⟨q,by simp[h1],h2⟩
  ·rcases List.mem_append.1 hs' with h1|h1
   ·exact(h.yes e).2 s' h1 hf
   ·rw[List.mem_singleton] at h1;subst h1;apply Classical.byContradiction;intro hn;exact hc ⟨hf,.inr (by omega)⟩
theorem Good.fold {uZ:List (List (List av))}:∀(L:List (List (List av))) {st:gX} {uZ:List (List (List av))},Good l uZ st->Good l (uZ++L) (L.foldl (lR l) st)
 |[],st,uZ,h=>by rw[List.append_nil];exact h
 |s::L,st,uZ,h=>by
  have:=Good.fold (uZ:=uZ) L (h.step s);rw[List.append_assoc] at this;exact this
theorem Good.start:Good l [] o_:=⟨λ_ s h=>by simp at h,λe=>by cases e⟩
theorem Tw (f:av->av) (hf:∀a b,f a=f b->a=b) (hn:xs.Nodup):gp (gR f xs)=[]:=by
 unfold gp;rw[List.filter_eq_nil_iff];intro s hs;obtain⟨i,hi,rfl⟩:=List.getElem_of_mem hs;rw[Ap hi];simp only[decide_eq_true_eq];intro h2;have iB:=hn.sublist (List.filter_sublist (p:=λr=>decide (f r=f ((dP f xs)[i]'(by rwa [mK] at hi)))));generalize hL:List.filter (λr=>decide (f r=f ((dP f xs)[i]'(by rwa [mK] at hi)))) xs=L at*;have h0:L[0]∈L:=List.getElem_mem _;have h1:L[1]∈L:=List.getElem_mem _;have e0:f L[0]=f L[1]:=by
  have a:∀z∈L,f z=f ((dP f xs)[i]'(by rwa [mK] at hi)):=λz hz=>by
   rw[<-hL,List.mem_filter] at hz;exact of_decide_eq_true hz.2
  rw[a _ h0,a _ h1]
 have:=List.pairwise_iff_getElem.1 (List.nodup_iff_pairwise_ne.1 iB) 0 1 (by omega) (by omega) (by omega);exact this (hf _ _ e0)
theorem Tx (l:List aO) (ds:List bG):∃s,jP ds (aW l) s/\mQ l s=true/\nU l ds=gp s/\
  (p9 l ds (aW l) [] o_).val=eN l (nU l ds)/\
  ∀{de:Type} [DecidableEq de] (f:av->de),(∀a∈aW l,∀b∈aW l,a≠b->f a=f b->eC ds a b=false)->mQ l (gR f (aW l))=true->eN l (gp (gR f (aW l)))<=eN l (nU l ds):=by
 have j7:Good l (ny ds (aW l) []) (p9 l ds (aW l) [] o_):=by
  have:=Good.fold (uZ:=[]) (ny ds (aW l) []) (Good.start (l:=l));exact this
 have hn:=tC l;have hid:gR (id:av->av) (aW l)∈ny ds (aW l) []:=by
  have:=FR (ds:=ds) (id:av->av) (aW l) [] (λa _ b _ hne e=>absurd e hne) (by simpa using hn);exact this
 have Fx:mQ l (gR (id:av->av) (aW l))=true:=by
  unfold mQ;rw[Tw id (λa b e=>e) hn];rfl
 have hfound: (p9 l ds (aW l) [] o_).found=true:=by
  cases e: (p9 l ds (aW l) [] o_).found with
  |true=>rfl
  |false=>have:=j7.no e _ hid;rw[Fx] at this;cases this
 obtain⟨⟨s,h1,h2,h3,h4⟩,h5⟩:=j7.yes hfound;refine⟨s,by have:=AJ jP.nil s h1;simpa using this,h2,h3,by rw[h4];unfold nU;rw[h3],λf hb oz=>?_⟩;have:=FR (ds:=ds) f (aW l) [] (by simpa using hb) (by simpa using hn);have h6:=h5 _ this oz;rw[h4] at h6;unfold nU;rw[h3];exact h6
theorem Ty {s:List av} {a b:av} (ha:a∈s) (hb:b∈s) (hne:a≠b):2<=s.length:=by
 rcases s with _|⟨x,_|⟨y,t⟩⟩
 ·simp at ha
 ·simp at ha hb;subst ha;exact absurd hb.symm hne
 ·simp
structure e8 (l:List aO) (ds:List bG) (ps:List (List av)):Prop where
 lQ:∀p∈ps,p.Pairwise dV
 len:∀p∈ps,2<=p.length
 bar:∀p∈ps,p.Pairwise λa b=>eC ds a b=false
 join:∀p∈ps,qF l p
 AK:ps.flatten.Nodup
 heads:ps.Pairwise λp q=>dV (p.headD ⟨0,0⟩) (q.headD ⟨0,0⟩)
theorem LR {s:List av} (h:qF l s) (h2:2<=s.length) (hn:s.Nodup) {r:av} (hr:r∈s):r∈aW l:=by
 apply Classical.byContradiction;intro hno;have LS:r∉aW (i_ l s):=λhm=>by
  obtain⟨x,hx,e⟩:=jM.1 hm;exact hno (jM.2 ⟨x,(List.mem_filter.1 hx).1,e⟩)
 obtain⟨q,hq,hne⟩:∃q∈s,q≠r:=by
  have h0:=List.getElem_mem (l:=s) (n:=0) (by omega);have h1:=List.getElem_mem (l:=s) (n:=1) (by omega);have hne:=List.pairwise_iff_getElem.1 (List.nodup_iff_pairwise_ne.1 hn) 0 1 (by omega) (by omega) (by omega);by_cases e:s[0]=r
  ·exact⟨_,h1,λe2=>hne (by rw[e,e2])⟩
  ·exact⟨_,h0,e⟩
 have e1:=h q hq r hr;rw[KH LS] at e1;by_cases j8:q∈aW (i_ l s)
 ·have:=KG.2 j8;rw[e1] at this;exact LS this
 ·rw[KH j8] at e1;exact hne e1
theorem e8.nodup (h:e8 l ds ps) {p:List av} (hp:p∈ps):p.Nodup:=wv (h.lQ p hp)
theorem e8.refs (h:e8 l ds ps) {p:List av} (hp:p∈ps) {r:av} (hr:r∈p):r∈aW l:=LR (h.join p hp) (h.len p hp) (h.nodup hp) hr
theorem Tz {x:aO} (h:okB x):x.A≠x.B:=λe=>by
 have:=h.1;unfold iZ at this;rw[e] at this;simp at this
end
section
variable {l:List aO} {ds:List bG} {ps E:List (List av)}
theorem FT {α:Type}:∀{a b:List (List α)},a.Sublist b->a.flatten.Sublist b.flatten
 |_,_,.slnil=>List.Sublist.refl _
 |_,_,.cons x h=>by rw[List.flatten_cons];exact(FT h).trans (List.sublist_append_right _ _)
 |_,_,.cons_cons x h=>by rw[List.flatten_cons,List.flatten_cons];exact(List.Sublist.refl _).append (FT h)
theorem FU (l:List aO) (ds:List bG):e8 l ds (nU l ds):=by
 obtain⟨s,hI,hf,he,_,_⟩:=Tx l ds;rw[he];have hsub: (gp s).Sublist s:=List.filter_sublist;have hm:∀p∈gp s,p∈s/\2<=p.length:=λp hp=>by
  have:=List.mem_filter.1 hp;exact⟨this.1,of_decide_eq_true this.2⟩
 refine⟨λp hp=>(tB l).sublist (hI.sub p (hm p hp).1),λp hp=>(hm p hp).2,λp hp=>hI.bar p (hm p hp).1,λp hp=>?_,?_,?_⟩
 ·exact FQ.1 (List.all_eq_true.1 hf p hp)
 ·exact(hI.perm.nodup_iff.2 (tC l)).sublist (FT hsub)
 ·have h1: (s.map λp=>p.headD ⟨0,0⟩).Pairwise dV:=(tB l).sublist hI.heads;rw[List.pairwise_map] at h1;exact h1.sublist hsub
theorem wG {i:Nat} (h:i<(a_ l).length):i<(dP (b_ l) (aW l)).length:=by simpa[a_] using h
theorem LU {i:Nat} (h:i<(a_ l).length):i<(dO l).length:=by unfold dO;rw[mK];exact wG h
theorem wH {i:Nat} (h:i<(a_ l).length) {r:av}:r∈aW (a_ l)[i]↔r∈aW l/\b_ l r=b_ l ((dP (b_ l) (aW l))[i]'(wG h)):=by
 rw[SP h (LU h),Lf (LU h),List.mem_filter,decide_eq_true_eq]
theorem TA {i:Nat} (h:i<(a_ l).length) {x:aO}:x∈(a_ l)[i]↔x∈l/\b_ l x.A=b_ l ((dP (b_ l) (aW l))[i]'(wG h)):=by
 rw[AA h,List.mem_filter,decide_eq_true_eq]
theorem FV {i j:Nat} (hi:i<(a_ l).length) (hj:j<(a_ l).length) {r:av} (h1:r∈aW (a_ l)[i]) (h2:r∈aW (a_ l)[j]):i=j:=by
 have a:=(wH hi).1 h1;have b:=(wH hj).1 h2;exact Fw (wG hi) (wG hj) (by rw[<-a.2,b.2])
theorem TB {r:av} (h:r∈aW l):∃i,∃hi:i<(a_ l).length,r∈aW (a_ l)[i]:=by
 obtain⟨q,hq,e⟩:=KI (f:=b_ l) h;obtain⟨i,hi,rfl⟩:=List.getElem_of_mem hq;have hi2:i<(a_ l).length:=by simpa[a_] using hi
 exact⟨i,hi2,(wH hi2).2 ⟨h,e.symm⟩⟩
theorem TC {l l':List aO} {s:List av} (h:∀x∈l,x∈l') (hj:qF l s):qF l' s:=λx hx y hy=>
 Fl (l:=i_ l s) (l':=i_ l' s) (λz hz=>by
  have:=List.mem_filter.1 hz;exact List.mem_filter.2 ⟨h z this.1,this.2⟩) (hj x hx y hy)
theorem TD {Q:Nat->List (List av)} (hQ:∀i (h:i<(a_ l).length),e8 (a_ l)[i] ds (Q i)) (hp:E.Perm ((List.range (a_ l).length).flatMap Q)) (hs:E.Pairwise λp q=>dV (p.headD ⟨0,0⟩) (q.headD ⟨0,0⟩)):
  e8 l ds E/\∀i (h:i<(a_ l).length),eN (a_ l)[i] E=eN (a_ l)[i] (Q i):=by
 have hm:∀p,p∈E↔∃i,∃h:i<(a_ l).length,p∈Q i:=λp=>by
  rw[hp.mem_iff,List.mem_flatMap];exact⟨λ⟨i,h1,h2⟩=>⟨i,List.mem_range.1 h1,h2⟩,λ⟨i,h1,h2⟩=>⟨i,List.mem_range.2 h1,h2⟩⟩
 refine⟨⟨λp hp=>?_,λp hp=>?_,λp hp=>?_,λp hp=>?_,?_,hs⟩,λi h=>?_⟩
 ·obtain⟨i,h,h2⟩:=(hm p).1 hp;exact(hQ i h).lQ p h2
 ·obtain⟨i,h,h2⟩:=(hm p).1 hp;exact(hQ i h).len p h2
 ·obtain⟨i,h,h2⟩:=(hm p).1 hp;exact(hQ i h).bar p h2
 ·obtain⟨i,h,h2⟩:=(hm p).1 hp;exact TC (λx hx=>((TA h).1 hx).1) ((hQ i h).join p h2)
 ·rw[hp.flatten.nodup_iff];have key:∀k,k<=(a_ l).length->((List.range k).flatMap Q).flatten.Nodup/\∀r∈((List.range k).flatMap Q).flatten,∃i,∃h:i<(a_ l).length,i<k/\r∈aW (a_ l)[i]:=by
   intro k
   induction k with
   |zero=>intro _;simp
   |succ k ih=>
    intro hk;obtain⟨h1,h2⟩:=ih (by omega);have aK:k<(a_ l).length:=by omega
    have e: ((List.range (k+1)).flatMap Q).flatten=((List.range k).flatMap Q).flatten++(Q k).flatten:=by
     rw[List.range_succ,List.flatMap_append,List.flatten_append];simp
    have hin:∀r∈(Q k).flatten,r∈aW (a_ l)[k]:=λr hr=>by
     obtain⟨p,hp,hr⟩:=List.mem_flatten.1 hr;exact(hQ k aK).refs hp hr
    rw[e];refine⟨List.nodup_append.2 ⟨h1,(hQ k aK).AK,λa ha b hb e2=>?_⟩,λr hr=>?_⟩
    ·subst e2;obtain⟨i,hi,hik,h3⟩:=h2 a ha;have:=FV hi aK h3 (hin a hb);omega
    ·rcases List.mem_append.1 hr with h3|h3
     ·obtain⟨i,hi,hik,h4⟩:=h2 r h3;exact⟨i,hi,by omega,h4⟩
     ·exact⟨k,aK,by omega,hin r h3⟩
  exact(key _ (Nat.le_refl _)).1
 ·unfold eN;congr 2;refine List.filter_congr λx hx=>?_;rw[Bool.eq_iff_iff,List.any_eq_true,List.any_eq_true];constructor
  ·rintro⟨p,hp,h2⟩;obtain⟨j,hj,h3⟩:=(hm p).1 hp;have hin:=h2;unfold qG at hin;rw[decide_eq_true_eq] at hin;have h4:=(hQ j hj).refs h3 hin.1;have h5:x.A∈aW (a_ l)[i]:=jM.2 ⟨x,hx,.inl rfl⟩;have:=FV hj h h4 h5;subst this;exact⟨p,h3,h2⟩
  ·rintro⟨p,hp,h2⟩;exact⟨p,(hm p).2 ⟨i,h,hp⟩,h2⟩
end
def gF (x y:aO):Int:=jZ y.w x.w
theorem p_:kZ gF (λ_=>True):=⟨λx y _ _=>by unfold gF jZ;split<;>split<;>(try split)<;>(try split)<;>omega,λx y z _ _ _=>by unfold gF jZ;split<;>split<;>(try split)<;>(try split)<;>(try split)<;>omega⟩
def sE (ds:List bG) (p q:List av):Bool:=p.any λr=>q.any (eC ds r)
def nA (ds:List bG) (g:av->List av) (b:aO):av->List av:=
 if b.B∈g b.A\/sE ds (g b.A) (g b.B)=true then g else λr=>if r∈g b.A++g b.B then g b.A++g b.B else g r
def dh (ds:List bG) (ord:List aO):av->List av:=ord.foldl (nA ds) λr=>[r]
def mR (g:av->List av) (r:av):Bool:=decide (1<(iq (g r)).length/\(iq (g r)).head?=some r)
def k5 (refs:List av) (g:av->List av):List (List av):=(refs.filter (mR g)).map λr=>iq (g r)
noncomputable def lE (l:List aO) (ds:List bG):List (List av):=k5 (aW l) (dh ds (p6 gF l))
section
variable {l:List aO} {ds:List bG} {g:av->List av} {refs:List av}
theorem LV {p q:List av}:sE ds p q=false↔∀r∈p,∀o∈q,eC ds r o=false:=by
 unfold sE;rw[List.any_eq_false];constructor
 ·intro h r hr o ho;have:=h r hr;rw[Bool.not_eq_true,List.any_eq_false] at this;simpa using this o ho
 ·intro h r hr;rw[Bool.not_eq_true,List.any_eq_false];intro o ho;simp[h r hr o ho]
structure iQ (l:List aO) (ds:List bG) (g:av->List av):Prop where
 self:∀r,r∈g r
 same:∀r,∀q∈g r,g q=g r
 nd:∀r,(g r).Nodup
 bar:∀r,∀a∈g r,∀b∈g r,a≠b->eC ds a b=false
 join:∀r,qF l (g r)
theorem iQ.start:iQ l ds (λr=>[r]):=
 ⟨λr=>by simp,λr q hq=>by rw[List.mem_singleton.1 hq],λr=>by simp,λr a ha b hb hne=>absurd (by rw[List.mem_singleton.1 ha,List.mem_singleton.1 hb]) hne,λr x hx y hy=>by rw[List.mem_singleton.1 hx,List.mem_singleton.1 hy]⟩
theorem iQ.apart (h:iQ l ds g) {a b:av} (hab:b∉g a):∀r∈g a,r∉g b:=λr h1 h2=>by
 have e1:=h.same a r h1;have e2:=h.same b r h2;exact hab (by rw[<-e1,e2];exact h.self b)
theorem iQ.step (h:iQ l ds g) {b:aO} (hb:b∈l):iQ l ds (nA ds g b):=by
 unfold nA;split
 ·exact h
 ·rename_i hn;have h1:b.B∉g b.A:=λe=>hn (.inl e);have h2:sE ds (g b.A) (g b.B)=false:=Bool.eq_false_iff.2 λe=>hn (.inr e);have hap:=h.apart h1;have hin:∀r q,r∈g b.A++g b.B->(q∈g r->q∈g b.A++g b.B):=λr q hr hq=>by
   rcases List.mem_append.1 hr with h3|h3
   ·rw[h.same _ r h3] at hq;exact List.mem_append.2 (.inl hq)
   ·rw[h.same _ r h3] at hq;exact List.mem_append.2 (.inr hq)
  have hJ:qF l (g b.A++g b.B):=by
   have ka:∀x∈g b.A,∀y∈g b.A,b_ (i_ l (g b.A++g b.B)) x=b_ (i_ l (g b.A++g b.B)) y:=λx hx y hy=>
    Fl (l:=i_ l (g b.A)) (λz hz=>by
     obtain⟨a1,a2⟩:=List.mem_filter.1 hz;rw[decide_eq_true_eq] at a2;exact List.mem_filter.2 ⟨a1,by rw[decide_eq_true_eq];exact⟨List.mem_append.2 (.inl a2.1),List.mem_append.2 (.inl a2.2)⟩⟩) (h.join _ x hx y hy)
   have kb:∀x∈g b.B,∀y∈g b.B,b_ (i_ l (g b.A++g b.B)) x=b_ (i_ l (g b.A++g b.B)) y:=λx hx y hy=>
    Fl (l:=i_ l (g b.B)) (λz hz=>by
     obtain⟨a1,a2⟩:=List.mem_filter.1 hz;rw[decide_eq_true_eq] at a2;exact List.mem_filter.2 ⟨a1,by rw[decide_eq_true_eq];exact⟨List.mem_append.2 (.inr a2.1),List.mem_append.2 (.inr a2.2)⟩⟩) (h.join _ x hx y hy)
   have TE:b_ (i_ l (g b.A++g b.B)) b.A=b_ (i_ l (g b.A++g b.B)) b.B:=
    wz (List.mem_filter.2 ⟨hb,by rw[decide_eq_true_eq];exact⟨List.mem_append.2 (.inl (h.self _)),List.mem_append.2 (.inr (h.self _))⟩⟩)
   have all:∀x∈g b.A++g b.B,b_ (i_ l (g b.A++g b.B)) x=b_ (i_ l (g b.A++g b.B)) b.A:=λx hx=>by
    rcases List.mem_append.1 hx with h3|h3
    ·exact ka x h3 _ (h.self _)
    ·rw[kb x h3 _ (h.self _),TE]
   exact λx hx y hy=>by rw[all x hx,all y hy]
  refine⟨λr=>?_,λr q hq=>?_,λr=>?_,λr a ha c hc hne=>?_,λr=>?_⟩
  ·show r∈(if r∈g b.A++g b.B then g b.A++g b.B else g r);split
   ·rename_i h3;exact h3
   ·exact h.self r
  ·split at hq
   ·rename_i h3;rw[if_pos hq,if_pos h3]
   ·rename_i h3;have h4:q∉g b.A++g b.B:=λe=>by
     have:=hin q r e (by rw[h.same r q hq];exact h.self r);exact h3 this
    rw[if_neg h3,if_neg h4];exact h.same r q hq
  ·split
   ·exact List.nodup_append.2 ⟨h.nd _,h.nd _,λa ha c hc e=>hap a ha (e▸hc)⟩
   ·exact h.nd r
  ·split at ha
   ·rename_i h3;rw[if_pos h3] at hc;rcases List.mem_append.1 ha with h4|h4
    ·rcases List.mem_append.1 hc with h5|h5
     ·exact h.bar _ a h4 c h5 hne
     ·exact LV.1 h2 a h4 c h5
    ·rcases List.mem_append.1 hc with h5|h5
     ·rw[LN];exact LV.1 h2 c h5 a h4
     ·exact h.bar _ a h4 c h5 hne
   ·rename_i h3;rw[if_neg h3] at hc;exact h.bar r a ha c hc hne
  ·split
   ·exact hJ
   ·exact h.join r
theorem iQ.fold:∀(ord:List aO) {g:av->List av},iQ l ds g->(∀b∈ord,b∈l)->iQ l ds (ord.foldl (nA ds) g)
 |[],g,h,_=>h
 |b::ord,g,h,hm=>iQ.fold ord (h.step (hm b (by simp))) λc hc=>hm c (by simp[hc])
theorem j9 {s:List av} {r:av}:r∈iq s↔r∈s:=(tA s).mem_iff
theorem AL (s:List av) (hn:s.Nodup): (iq s).Pairwise dV:=by
 have h1:=Kq s;have h2: (iq s).Nodup:=(tA s).nodup_iff.2 hn;refine(h1.and (List.nodup_iff_pairwise_ne.1 h2)).imp λ{a b} ⟨h3,h4⟩=>?_;rcases Kx a b with h|h|h
 ·exact h
 ·exact absurd h h4
 ·exact absurd h (CQ.1 h3)
theorem iQ.out (h:iQ l ds g) (hr:refs.Pairwise dV):e8 l ds (k5 refs g):=by
 have hm:∀p∈k5 refs g,∃r∈refs,p=iq (g r)/\1<(iq (g r)).length/\(iq (g r)).head?=some r:=λp hp=>by
  obtain⟨r,hr,rfl⟩:=List.mem_map.1 hp;obtain⟨h1,h2⟩:=List.mem_filter.1 hr;exact⟨r,h1,rfl,of_decide_eq_true h2⟩
 have LW:∀r,(iq (g r)).head?=some r->(iq (g r)).headD ⟨0,0⟩=r:=λr e=>by rw[List.headD_eq_head?_getD,e];rfl
 refine⟨λp hp=>?_,λp hp=>?_,λp hp=>?_,λp hp=>?_,?_,?_⟩
 ·obtain⟨r,_,rfl,_⟩:=hm p hp;exact AL _ (h.nd r)
 ·obtain⟨r,_,rfl,h2,_⟩:=hm p hp;exact h2
 ·obtain⟨r,_,rfl,_⟩:=hm p hp;exact List.pairwise_iff_getElem.2 λi j hi hj hij=>h.bar r _ (j9.1 (List.getElem_mem _)) _ (j9.1 (List.getElem_mem _)) (λe=>by
   have:=List.pairwise_iff_getElem.1 (AL _ (h.nd r)) i j hi hj hij;rw[e] at this;exact Aj _ this)
 ·obtain⟨r,_,rfl,_⟩:=hm p hp;exact qF.congr (λq=>j9.symm) (h.join r)
 ·have key:∀rs:List av,rs.Nodup->(∀r∈rs,(iq (g r)).head?=some r)->(rs.map λr=>iq (g r)).flatten.Nodup:=by
   intro rs
   induction rs with
   |nil=>intro _ _;simp
   |cons a t ih=>
    intro hn hh;have hn2:=List.nodup_cons.1 hn;rw[List.map_cons,List.flatten_cons];refine List.nodup_append.2 ⟨(tA _).nodup_iff.2 (h.nd a),ih hn2.2 λr hr=>hh r (by simp[hr]),λx hx y hy e=>?_⟩;subst e;obtain⟨p,hp,TG⟩:=List.mem_flatten.1 hy;obtain⟨r,hr,rfl⟩:=List.mem_map.1 hp;have e1:=h.same a x (j9.1 hx);have e2:=h.same r x (j9.1 TG);have h3:=hh a (by simp);have h4:=hh r (by simp[hr]);rw[<-e1,e2,h4] at h3;injection h3 with h3;subst h3;exact hn2.1 hr
  refine key _ ((wv hr).sublist List.filter_sublist) λr hr=>?_;exact(of_decide_eq_true (List.mem_filter.1 hr).2).2
 ·unfold k5;rw[List.pairwise_map];refine List.Pairwise.imp_of_mem ?_ (hr.sublist List.filter_sublist);intro a b ha hb hab;rw[LW a (of_decide_eq_true (List.mem_filter.1 ha).2).2,LW b (of_decide_eq_true (List.mem_filter.1 hb).2).2];exact hab
theorem TH (l:List aO) (ds:List bG) {ord:List aO} (ho:∀b∈ord,b∈l):e8 l ds (k5 (aW l) (dh ds ord)):=(iQ.fold ord iQ.start ho).out (tB l)
end
abbrev AO:av×av->Value:=λp=> .agg #[.int .i64 p.1.a,.int .i64 p.1.b,.int .i64 p.2.a,.int .i64 p.2.b]
section
variable {P:Program} {t nw ti:TypeId} {n0 n1 m0 m1 q_ ri LX LY rj rm LZ L1:String} {e0 e1 f0 f1:Bool} {y0 y1 x0 x1:Nat}
theorem TI (h:P.underlying nw=some (.struct #[⟨n0,ti,0,e0,q_,rj,y0⟩,⟨n1,ti,1,e1,ri,rm,y1⟩])) (h0:n0≠"_") (h1:n1≠"_") (hS:P.stoodInHeld nw=false)
  (hi:P.underlying ti=some (.int .i64)) (d:Nat) (a b:av) (w:World): (Op.equalIn (d+2) nw (dg a) (dg b)).run P w=.ok (decide (a=b)) w:=by
 have hpt:=λa b i v w=>Ai (P:=P) hi a b i v w;have hf:P.fieldsOf nw=#[⟨n0,ti,0,e0,q_,rj,y0⟩,⟨n1,ti,1,e1,ri,rm,y1⟩]:=by simp[Program.fieldsOf,h]
 have he:=λ(x y:Int)=>run_equalIn_int (P:=P) w d ti .i64 .i64 x y hi;rw[show d+2=(d+1)+1 from rfl,run_equalIn_struct w (d+1) nw _ _ (by rw[hf];exact h) hS,hf];have oQ:∀c:av,(part ti #[.int .i64 c.a,.int .i64 c.b] 0).run P w=.ok (.int .i64 c.a) w:=λc=>hpt _ _ 0 _ w rfl;have p1:∀c:av,(part ti #[.int .i64 c.a,.int .i64 c.b] 1).run P w=.ok (.int .i64 c.b) w:=λc=>hpt _ _ 1 _ w rfl;have hd: (decide (a=b))=((a.a==b.a)&&(a.b==b.b)):=by
  cases a;cases b;simp only[av.mk.injEq,Bool.decide_and];rfl
 simp only[Op.eqFields,Sem.run_bind,Sem.run_ite,h0,h1,ne_eq,not_false_eq_true,if_true,oQ,p1,Result.andThen_ok,he,hd];cases (a.a==b.a)<;>cases (a.b==b.b)<;>simp
theorem yO (h:P.underlying t=some (.struct #[⟨m0,nw,0,f0,LX,LZ,x0⟩,⟨m1,nw,2,f1,LY,L1,x1⟩])) (g0:m0≠"_") (g1:m1≠"_") (hS:P.stoodInHeld t=false)
  (hr:P.underlying nw=some (.struct #[⟨n0,ti,0,e0,q_,rj,y0⟩,⟨n1,ti,1,e1,ri,rm,y1⟩])) (h0:n0≠"_") (h1:n1≠"_") (TJ:P.stoodInHeld nw=false)
  (hi:P.underlying ti=some (.int .i64)) (ha:jF P nw=some true) (hs:jg P nw=some 2):tv P t AO:=by
 have hf:P.fieldsOf t=#[⟨m0,nw,0,f0,LX,LZ,x0⟩,⟨m1,nw,2,f1,LY,L1,x1⟩]:=by simp[Program.fieldsOf,h]
 have oQ:∀(c:av×av) w,(part nw #[.int .i64 c.1.a,.int .i64 c.1.b,.int .i64 c.2.a,.int .i64 c.2.b] 0).run P w=.ok (dg c.1) w:=λc w=>by
  unfold part;simp only[Sem.run_bind,vY ha,Result.andThen_ok,if_true,oh hs,Sem.run_pure];rfl
 have p1:∀(c:av×av) w,(part nw #[.int .i64 c.1.a,.int .i64 c.1.b,.int .i64 c.2.a,.int .i64 c.2.b] 2).run P w=.ok (dg c.2) w:=λc w=>by
  unfold part;simp only[Sem.run_bind,vY ha,Result.andThen_ok,if_true,oh hs,Sem.run_pure];rfl
 refine Kf h (λd a b w=>?_) (λe k w=>?_) (λk=>by simp[Instr.sameBits]) (λa b hab=>?_)
 ·have he:=λ(x y:av)=>TI hr h0 h1 TJ hi (d+5) x y w;rw[show d+8=(d+7)+1 from rfl,run_equalIn_struct w (d+7) t _ _ (by rw[hf];exact h) hS,hf];have hd: (decide (a=b))=(decide (a.1=b.1)&&decide (a.2=b.2)):=by
   cases a;cases b;simp only[Prod.mk.injEq,Bool.decide_and]
  simp only[Op.eqFields,Sem.run_bind,Sem.run_ite,g0,g1,ne_eq,not_false_eq_true,if_true,oQ,p1,Result.andThen_ok,he,hd,show d+7=d+5+2 from rfl];cases decide (a.1=b.1)<;>cases decide (a.2=b.2)<;>simp[he,show d+7=d+5+2 from rfl,oQ,p1]
 ·have q:∀(x:Int),(Instr.checkKey e 9998 ti (.int .i64 x)).run P w=.ok () w:=λx=>by unfold Instr.checkKey;simp[run_underlying hi]
  have hpt:=λa b i v w=>Ai (P:=P) hi a b i v w;have Dt:∀c:av,(part ti #[.int .i64 c.a,.int .i64 c.b] 0).run P w=.ok (.int .i64 c.a) w:=λc=>hpt _ _ 0 _ w rfl;have r1:∀c:av,(part ti #[.int .i64 c.a,.int .i64 c.b] 1).run P w=.ok (.int .i64 c.b) w:=λc=>hpt _ _ 1 _ w rfl;have TK:∀c:av,(Instr.checkKey e 9999 nw (dg c)).run P w=.ok () w:=λc=>by
   rw[show(9999:Nat)=9998+1 from rfl,Instr.checkKey];simp only[Sem.run_bind,run_underlying hr,Result.andThen_ok];rw[<-Array.forIn_toList];simp only[List.forIn_cons,List.forIn_nil,Sem.run_bind,Sem.run_ite,h0,h1,ne_eq,not_false_eq_true,if_true,Dt,r1,q,Result.andThen_ok,Sem.run_pure]
  rw[show(10000:Nat)=9999+1 from rfl,Instr.checkKey];simp only[Sem.run_bind,run_underlying h,Result.andThen_ok];rw[<-Array.forIn_toList];simp only[List.forIn_cons,List.forIn_nil,Sem.run_bind,Sem.run_ite,g0,g1,ne_eq,not_false_eq_true,if_true,oQ,p1,TK,Result.andThen_ok,Sem.run_pure]
 ·obtain⟨⟨a1,a2⟩,⟨a3,a4⟩⟩:=a;obtain⟨⟨b1,b2⟩,⟨b3,b4⟩⟩:=b;simp at hab;simp[hab]
end
def fm (w:World) (M:Nat->Prop) (ds:List bG) (v:Value):Prop:=∃m:List ((av×av)×Bool),q9 w M AO (λb:Bool=> .bool b) m v/\∀a b,(eM m (a,b)).getD false=nT ds a b
section
variable {w w' w₀:World} {C aP jY D:Nat->Nat} {I:List Nat} {ds:List bG} {v:Value}
theorem fm.st (h:fm w (aB C) ds v) (hs:ay I w C w' aP) (h0:0∉I):fm w' (aB aP) ds v:=let⟨m,h1,h2⟩:=h;⟨m,h1.st hs h0,h2⟩
theorem fm.t (h:fm w (aB C) ds v) (hs:ay I w C w' aP) (h0:0∉I:=by first|decide|(simp<;>omega)):fm w' (aB aP) ds v:=h.st hs h0
theorem fm.sub {M M':Nat->Prop} (h:fm w M ds v) (gI:∀b,M' b->M b):fm w M' ds v:=let⟨m,⟨b,h1,h3,h4⟩,h2⟩:=h;⟨m,⟨b,h1,λe=>h3 (gI b e),h4⟩,h2⟩
theorem fm.one {M:Nat->Prop} (h:fm w M ds v):v.cells=#[v]/\v.oneCell'=true:=by obtain⟨m,⟨b,rfl,_⟩,_⟩:=h;exact⟨rfl,rfl⟩
end
theorem TM {ds:List bG} {k:Nat} (h:k<ds.length) (a b:av):nT (ds.take (k+1)) a b=(nT (ds.take k) a b||(!ds[k].same&&decide (ds[k].A=a/\ds[k].B=b))):=by
 unfold nT;rw[List.take_succ_eq_append_getElem h,List.any_append];simp
abbrev iC:Nat->Nat:=λ_=>0
theorem mS (w:World):aM w iC:=λb hb=>absurd rfl hb
section
variable {w w':World} {C D:Nat->Nat}
theorem ay.re (h:ay [] w D w' D) (C:Nat->Nat):ay [] w C w' C:=⟨h.ext.mono (λb _ hb=>by cases hb),λ_ _=>rfl⟩
end
section
variable {α:Type} [bg α] {P:Program} {N:Nat} {env:Env} {w w':World} {C aP D:Nat->Nat} {I:List Nat} {t e:TypeId} {v s:Value} {x y z q:Operand} {xs ys zs:List α} {j n:Nat}
theorem bn.lF (h:bn w C j e v ys) (hl:ys.length<=9223372036854775807):aG w (aB iC) ys v:=h.own.read (λb _ hb=>absurd rfl hb) hl
theorem aG.c0 {M:Nat->Prop} (h:aG w M ys v):aG w (aB iC) ys v:=h.sub (λb _ hb=>absurd rfl hb)
def nV (w:World) (C:Nat->Nat) (j:Nat) (e:TypeId) (v:Value) (ys:List α):Prop:=bn w C j e v ys\/∃a,v=.slice a ys.length ys.length/\aG w (aB C) ys v
theorem nV.st (h:nV w C j e v ys) (hs:ay I w C w' aP) (h0:0∉I) (hj:j∉I):nV w' aP j e v ys:=h.imp (λh=>h.st hs h0 hj) (λ⟨a,h1,h2⟩=>⟨a,h1,h2.st hs h0⟩)
theorem nV.u (h:nV w C j e v ys) (hs:ay I w C w' aP) (h0:0∉I:=by first|decide|(simp<;>omega)) (hj:j∉I:=by first|decide|(simp<;>omega)):nV w' aP j e v ys:=h.st hs h0 hj
theorem nV.lF (h:nV w C j e v ys) (hl:ys.length<=9223372036854775807):aG w (aB iC) ys v:=by
 rcases h with h|⟨a,_,h⟩
 ·exact h.lF hl
 ·exact h.c0
theorem nV.b8 (h:nV w C j e v ys) (hy:ev env y=some v) {d:TypeId} (ht:P.underlying t=some (.slice d)):
  ∀w',c5 P N env (.call {callee:=.builtin .len,args:=#[y],argTypes:=#[t]}) w' (.int .i64 ys.length):=λw'=>by
 rcases h with h|⟨a,rfl,_⟩
 ·exact h.b8 hy ht w'
 ·exact vX hy ht
theorem L3 {bytes:Nat} (hF:aM w C) (hj:j≠0) (hx:ev env y=some v) (hy:ev env z=some s) (hrow:om P t e (sz α) bytes=true) (hsz:0<sz α)
  (hown:nV w C j e v ys) (hsrc:aG w (aB C) zs s) (yw:zs≠[]) (hlen: (ys.length+zs.length)*bytes<=140737488355328) (h63:ys.length+zs.length<=140737488355328):
  gZ P N env (.call {callee:=.builtin .append,args:=#[y,z],argTypes:=#[t,t]}) w (λv' w'=>∃aP,ay [j] w C w' aP/\bn w' aP j e v' (ys++zs)/\aM w' aP):=by
 rcases hown with h|⟨a,rfl,h⟩
 ·exact fU hF hj hx hy hrow hsz h hsrc hlen h63
 ·intro a' jv eY gu;obtain⟨v',w',h1,aP,h2,h3,h4⟩:=Dh (j:=j) (P:=P) (N:=N) (a:=a) hF hj hx hy hrow hsz h hsrc yw hlen h63 a' jv eY gu;exact⟨v',w',h1,aP,h2.mono (λc hc=>by cases hc),h3,h4⟩
theorem aG.TN {M:Nat->Prop} {e':TypeId} {k:Nat} (h:aG w M xs v) (hy:ev env y=some v) {kd AF:IntKind} (hf:jk P t=some (e',sz α)) (hz:ev env z=some (.int kd k)) (hq:ev env q=some (.int AF k)) (hk:k<=xs.length):
  ∃a,aG w M (xs.take k) (.slice a k k)/\∀w',c5 P N env (.slice t y none (some z) (some q)) w' (.slice a k k):=by
 obtain⟨a,c,rfl,hc,hm,hs⟩:=kF.1 h;have pT: (xs.take k).length=k:=by rw[List.length_take];omega
 refine⟨a,?_,λw'=>mk' λρ hρ eY ho=>?_⟩
 ·refine kF.2 ⟨a,k,by rw[pT],by omega,by omega,?_⟩;rcases hs with h|⟨b,o,rfl,hb,cs,ty,eP,hcs,hsz,hr⟩
  ·left;rw[h];simp
  ·right;refine⟨b,o,rfl,hb,cs,ty,eP,hcs,?_,λi hi=>?_⟩
   ·rw[pT];have:=Nat.mul_le_mul_right (sz α) hk;omega
   ·rw[List.getElem_take];exact hr i (by omega)
 ·unfold jk at hf;split at hf
  ·rename_i e1 hu;split at hf
   ·rename_i n' hn;have hb:=wo (P:=P) (kd:=AF) (y:=c) (code:=.slice3Acap) (w:=w') (i:=(k:Int)) (by omega) (by omega);have ff:=wo (P:=P) (kd:=kd) (y:=k) (code:=.slice3B) (w:=w') (i:=(k:Int)) (by omega) (by omega);have jv:a.map (·.add 0)=a:=by
     cases a with
     |none=>simp
     |some a=>simp[Addr.add]
    simp only[Int.toNat_natCast] at hb ff;unfold execOp;rw[ho];simp[hρ _ _ hy,hρ _ _ hz,hρ _ _ hq,Instr.sliceAt,Instr.slice,Instr.sliceBounds,run_underlying hu,oh hn,hb,ff,jv]
   ·cases hf
  ·cases hf
end
section
variable {α:Type} [bg α] {w w':World} {C aP:Nat->Nat} {I:List Nat} {e:TypeId} {v:Value} {ys:List α} {j:Nat}
theorem nV.t (h:nV w C j e v ys) (hs:ay I w C w' aP) (h0:0∉I:=by first|decide|(simp<;>omega)) (hj:j∉I:=by first|decide|(simp<;>omega)):nV w' aP j e v ys:=h.st hs h0 hj
end
section
variable {α:Type} [bg α] {w:World} {C:Nat->Nat} {P:Program} {f:FuncId} {N:Nat} {k:List Item} {R:Value->World->Prop} {Q:Exit->Act->World->Prop} {env:Env} {ops:Array Oper} {S:World->Prop} {i t:Nat} {L:List (Nat×Bool)} {v:Value} {y z q:Operand} {gV:Option (Nat×Bool)} {ty e e':TypeId} {xs:List α} {kd AF:IntKind} {m:Nat}
theorem L4 {M:Nat->Prop} (hop:cZ ops i=some (some t,.slice ty y none (some z) (some q),gV)) (hw:fN ops env gV=some true) (ht:Nat.blt t N=true) (hl:aG w M xs v) (hy:ev env y=some v)
  (hf:jk P ty=some (e',sz α)) (hz:ev env z=some (.int kd m)) (hq:ev env q=some (.int AF m)) (hk:m<=xs.length)
  (h:∀a,aG w M (xs.take m) (.slice a m m)->bR P N Q ops S L ((t,.slice a m m)::env) w):bR P N Q ops S ((i,true)::L) env w:=by
 obtain⟨a,h2,h3⟩:=hl.TN (P:=P) (N:=N) hy hf hz hq hk;exact dH hop hw ht (λw' _=>h3 w') (h a h2)
end
structure mj (l:List aO) (s ys:List av):Prop where
 nd:ys.Nodup
 sub:∀r∈ys,r∈s
 first:s.headD ⟨0,0⟩∈ys
 same:∀r∈ys,b_ (i_ l s) r=b_ (i_ l s) (s.headD ⟨0,0⟩)
section
variable {l:List aO} {s ys:List av}
theorem mj.start (h:1<=s.length):mj l s (s.take 1):=by
 cases s with
 |nil=>simp at h
 |cons a t=>exact⟨by simp,by simp,by simp,by simp⟩
theorem mj.len (h:mj l s ys):ys.length<=s.length:=h.nd.length_le_of_subset h.sub
theorem mj.add (h:mj l s ys) {x:aO} (hx:x∈l) (hA:x.A∈s) (hB:x.B∈s) {r:av} (hr: (r=x.A/\x.B∈ys)\/(r=x.B/\x.A∈ys)) (hn:r∉ys):mj l s (ys++[r]):=by
 have he:b_ (i_ l s) x.A=b_ (i_ l s) x.B:=wz (List.mem_filter.2 ⟨hx,by rw[decide_eq_true_eq];exact⟨hA,hB⟩⟩);have dU:r∈s:=by rcases hr with⟨rfl,_⟩|⟨rfl,_⟩<;>assumption
 have hsame:b_ (i_ l s) r=b_ (i_ l s) (s.headD ⟨0,0⟩):=by
  rcases hr with⟨rfl,h1⟩|⟨rfl,h1⟩
  ·rw[he];exact h.same _ h1
  ·rw[<-he];exact h.same _ h1
 refine⟨List.nodup_append.2 ⟨h.nd,by simp,λa ha b hb e=>?_⟩,λq hq=>?_,List.mem_append.2 (.inl h.first),λq hq=>?_⟩
 ·rw[List.mem_singleton] at hb;subst hb;subst e;exact hn ha
 ·rcases List.mem_append.1 hq with h1|h1
  ·exact h.sub q h1
  ·rw[List.mem_singleton.1 h1];exact dU
 ·rcases List.mem_append.1 hq with h1|h1
  ·exact h.same q h1
  ·rw[List.mem_singleton.1 h1];exact hsame
theorem mj.fin (h:mj l s ys) (hn:s.Nodup) (hc:∀x∈l,x.A∈s->x.B∈s->(x.A∈ys↔x.B∈ys)): (ys.length:Int)=s.length↔j6 l s=true:=by
 have hall:∀r,b_ (i_ l s) r=b_ (i_ l s) (s.headD ⟨0,0⟩)->r∈ys:=λr e=>by
  have hinv:∀x∈i_ l s,decide (x.A∈ys)=decide (x.B∈ys):=λx hx=>by
   obtain⟨h1,h2⟩:=List.mem_filter.1 hx;rw[decide_eq_true_eq] at h2;exact decide_eq_decide.2 (hc x h1 h2.1 h2.2)
  have e1:=uO (p:=λr=>decide (r∈ys)) hinv r;have e2:=uO (p:=λr=>decide (r∈ys)) hinv (s.headD ⟨0,0⟩);have fV:decide (r∈ys)=decide (s.headD ⟨0,0⟩∈ys):=by rw[<-e1,<-e2,e]
  rw[decide_eq_true h.first] at fV;exact of_decide_eq_true fV
 unfold j6;rw[List.all_eq_true];constructor
 ·intro e r hr;rw[decide_eq_true_eq];refine h.same r ?_;apply Classical.byContradiction;intro hno;have h1: (r::ys).Nodup:=List.nodup_cons.2 ⟨hno,h.nd⟩;have h2:=h1.length_le_of_subset (l₂:=s) (λq hq=>by
   rcases List.mem_cons.1 hq with rfl|hq
   ·exact hr
   ·exact h.sub q hq)
  simp only[List.length_cons] at h2;omega
 ·intro TP;have h2:=hn.length_le_of_subset (l₂:=ys) (λq hq=>hall q (of_decide_eq_true (TP q hq)));have:=h.len;omega
end
def jq (w:World) (C:Nat->Nat) (b:Nat) (o:Obj):Prop:=C b<2/\w.heap[b]?=some o
section
variable {w w':World} {I:List Nat} {C aP:Nat->Nat} {b:Nat} {o:Obj}
theorem jq.at_ (h:jq w C b o):w.heap[b]?=some o:=h.2
theorem jq.st (h:jq w C b o) (hs:ay I w C w' aP) (hI:∀c∈I,2<=c):jq w' aP b o:=
 ⟨by rw[hs.col b (pO h.2)];exact h.1,by rw[hs.ext.si h.2 (λhm=>by have:=hI _ hm;have:=h.1;omega)]⟩
theorem jq.t (h:jq w C b o) (hs:ay I w C w' aP) (hI:∀c∈I,2<=c:=by decide):jq w' aP b o:=h.st hs hI
theorem jq.stay (h:jq w C b o) (hS:Ext (λb=>C b∈I) w w') (hI:∀c∈I,2<=c):w'.heap[b]?=some o:=hS.si h.2 (λhm=>by have:=hI _ hm;have:=h.1;omega)
theorem jq.bu (h:jq w C b o) (hS:Ext (λb=>C b∈I) w w') (hI:∀c∈I,2<=c:=by decide):w'.heap[b]?=some o:=h.stay hS hI
theorem jq.of (h:w.heap[b]?=some o) (C:Nat->Nat):jq w (bE C) b o:=⟨by unfold bE;split<;>omega,h⟩
theorem ay.same {D D':Nat->Nat} (hs:ay [] w D w' D') (h:w.heap[b]?=some o):w'.heap[b]?=some o:=hs.ext.si h (λhm=>by cases hm)
end
def wI (ds:List bG) (s:List av):Bool:=(List.range s.length).all λi=>!((s.take i).any λb=>eC ds b (s.getD i ⟨0,0⟩))
def mo (l:List aO) (ds:List bG) (s:List av):Bool:=decide (2<=s.length)&&wI ds s&&j6 l s
theorem Du {ds:List bG} {s:List av}:wI ds s=true↔s.Pairwise λa b=>eC ds a b=false:=by
 unfold wI;rw[List.all_eq_true,List.pairwise_iff_getElem];constructor
 ·intro h i j hi hj hij;have h1:=h j (List.mem_range.2 hj);rw[Bool.not_eq_true',List.any_eq_false] at h1;have h2:=h1 s[i] (by rw[List.mem_take_iff_getElem];exact⟨i,by omega,rfl⟩);rw[qB hj] at h2;simpa using h2
 ·intro h j hj;have hj:=List.mem_range.1 hj;rw[Bool.not_eq_true',List.any_eq_false];intro b hb;obtain⟨i,hi,rfl⟩:=List.mem_take_iff_getElem.1 hb;rw[qB hj,h i j (by omega) hj (by omega)];decide
theorem L5 {ds:List bG} {s:List av} (h:s.Pairwise λa b=>eC ds a b=false):s.Nodup:=List.nodup_iff_pairwise_ne.2 (h.imp λ{a b} h e=>by subst e;rw[Tn] at h;cases h)
theorem L6 {ds:List bG} {s:List av} (h:∀i (hi:i<s.length),(s.take i).any (λb=>eC ds b s[i])=false):wI ds s=true:=by
 unfold wI;rw[List.all_eq_true];intro i hi;have hi:=List.mem_range.1 hi;rw[qB hi,h i hi];rfl
theorem L7 {ds:List bG} {s:List av} {i:Nat} (hi:i<s.length) (h: (s.take i).any (λb=>eC ds b s[i])=true):wI ds s=false:=by
 unfold wI;rw[List.all_eq_false];exact⟨i,List.mem_range.2 hi,by rw[qB hi,h];decide⟩
theorem e8.L8 {l:List aO} {ds:List bG} {ps:List (List av)} (h:e8 l ds ps) {p:List av} (hp:p∈ps):mo l ds p=true:=by
 unfold mo;rw[decide_eq_true (h.len p hp),Du.2 (h.bar p hp),FQ.2 (h.join p hp)];rfl
section
variable {l:List aO} {ds:List bG} {ps:List (List av)}
theorem FW {k:Nat} (h:k<l.length) (ps:List (List av)):eN (l.take (k+1)) ps=if ps.any (qG l[k])=true then eN (l.take k) ps+l[k].w else eN (l.take k) ps:=by
 unfold eN;rw[List.take_succ_eq_append_getElem h,List.filter_append,List.map_append,List.sum_append];by_cases e:ps.any (qG l[k])=true
 ·rw[if_pos e,List.filter_cons_of_pos (p:=λx=>ps.any (qG x)) e];simp
 ·rw[if_neg e,List.filter_cons_of_neg (p:=λx=>ps.any (qG x)) e];simp
theorem wJ (hw:∀x∈l,1<=x.w/\x.w<=1048576) (ps:List (List av)):∀k,k<=l.length->0<=eN (l.take k) ps/\eN (l.take k) ps<=1048576*(k:Int)
 |0,_=>by simp[eN]
 |k+1,hk=>by
  have h1:=wJ hw ps k (by omega);have h2:=hw _ (List.getElem_mem (show k<l.length by omega));rw[FW (by omega)];split<;>omega
theorem u0 (ps:List (List av)):eN (l.take l.length) ps=eN l ps:=by rw[List.take_length]
theorem FX (x:aO) (p:List av):qG x p=(decide (x.A∈p)&&decide (x.B∈p)):=by unfold qG;rw[Bool.decide_and]
def Seen (m:List (av×Bool)) (rs:List av):Prop:=∀r,(eM m r).getD false=true↔r∈rs
theorem Seen.nil:Seen [] []:=λr=>by simp[eM]
theorem Seen.put {m:List (av×Bool)} {rs:List av} (h:Seen m rs) (r:av):Seen (gE m r true) (rs++[r]):=λq=>by
 rw[l9,List.mem_append,List.mem_singleton];by_cases e:r=q
 ·rw[if_pos e];simp[e]
 ·rw[if_neg e,h q];exact⟨.inl,λh=>h.resolve_right (λe2=>e e2.symm)⟩
theorem e8.fresh (h:e8 l ds ps) {i j:Nat} (hi:i<ps.length) (hj:j<ps[i].length):ps[i][j]∉(ps.take i).flatten++ps[i].take j:=λhm=>by
 have hn:=h.AK;have e:ps=ps.take i++ps[i]::ps.drop (i+1):=by rw[<-List.drop_eq_getElem_cons hi,List.take_append_drop]
 rw[e,List.flatten_append,List.flatten_cons,<-List.append_assoc] at hn;have hn2:=(List.nodup_append.1 hn).1;have e2:ps[i]=ps[i].take j++ps[i][j]::ps[i].drop (j+1):=by rw[<-List.drop_eq_getElem_cons hj,List.take_append_drop]
 rcases List.mem_append.1 hm with h1|h1
 ·exact(List.nodup_append.1 hn2).2.2 _ h1 _ (List.getElem_mem hj) rfl
 ·have FY:=(List.nodup_append.1 hn2).2.1;rw[e2] at FY;exact(List.nodup_append.1 FY).2.2 _ h1 _ List.mem_cons_self rfl
theorem TQ {i:Nat} (hi:i<ps.length): (ps.take (i+1)).flatten=(ps.take i).flatten++ps[i].take ps[i].length:=by
 rw[List.take_succ_eq_append_getElem hi,List.flatten_append,List.take_length];simp
theorem L9 (rows:List (List av)): (gp rows).length<=rows.length:=List.length_filter_le _ _
theorem L_ {rows:List (List av)} {i:Nat} (h:i<rows.length):gp (rows.take (i+1))=if 2<=rows[i].length then gp (rows.take i)++[rows[i]] else gp (rows.take i):=by
 unfold gp;rw[List.take_succ_eq_append_getElem h,List.filter_append];by_cases e:2<=rows[i].length
 ·rw[if_pos e,List.filter_cons_of_pos (by rw[decide_eq_true_eq];exact e)];rfl
 ·rw[if_neg e,List.filter_cons_of_neg (by rw[decide_eq_true_eq];exact e)];simp
theorem TR {rows:List (List av)} (h:∀q (hq:q<rows.length),2<=rows[q].length->j6 l rows[q]=true):mQ l rows=true:=by
 unfold mQ;rw[List.all_eq_true];intro s hs;obtain⟨h1,h2⟩:=List.mem_filter.1 hs;obtain⟨q,hq,rfl⟩:=List.getElem_of_mem h1;exact h q hq (of_decide_eq_true h2)
theorem TT {rows:List (List av)} {q:Nat} (hq:q<rows.length) (h2:2<=rows[q].length) (h:j6 l rows[q]=false):mQ l rows=false:=by
 unfold mQ;rw[List.all_eq_false];exact⟨_,List.mem_filter.2 ⟨List.getElem_mem hq,by rw[decide_eq_true_eq];exact h2⟩,by rw[h];decide⟩
theorem TU {rows:List (List av)} {st:gX} (h:mQ l rows=false):lR l st rows=st:=by unfold lR;rw[if_neg (by rw[h];rintro⟨h,_⟩;cases h)]
theorem TV {rows:List (List av)} {st:gX} (h:st.found=true) (h2:eN l (gp rows)<=st.val):lR l st rows=st:=by
 unfold lR;rw[if_neg];rintro⟨_,h3|h3⟩
 ·rw[h] at h3;cases h3
 ·omega
theorem Ma {rows:List (List av)} {st:gX} (h:mQ l rows=true) (h2:st.found=false\/st.val<eN l (gp rows)):lR l st rows=⟨true,gp rows,eN l (gp rows)⟩:=by unfold lR;rw[if_pos ⟨h,h2⟩]
end
structure eT {α:Type} [bg α] (w:World) (C:Nat->Nat) (j:Nat) (e:TypeId) (us:List Value) (rows:List (List α)):Prop where
 len:us.length=rows.length
 own:∀k (h:k<us.length) (h':k<rows.length),bn w C j e us[k] rows[k]
 rH:∀k l (h:k<us.length) (h':l<us.length),k≠l->∀b,cI us[k] b->¬cI us[l] b
section
variable {α:Type} [bg α] {P:Program} {N:Nat} {env:Env} {w w':World} {C aP D:Nat->Nat} {I:List Nat} {t e:TypeId} {v s:Value} {x y z:Operand} {xs ys zs:List α} {us:List Value} {rows:List (List α)} {j k n:Nat}
theorem eT.nil:eT w C j e [] ([]:List (List α)):=⟨rfl,λk h=>by simp at h,λk l h=>by simp at h⟩
theorem eT.st (h:eT w C j e us rows) (hs:ay I w C w' aP) (h0:0∉I) (hj:j∉I):eT w' aP j e us rows:=⟨h.len,λk h1 h2=>(h.own k h1 h2).st hs h0 hj,h.rH⟩
theorem eT.u (h:eT w C j e us rows) (hs:ay I w C w' aP) (h0:0∉I:=by first|decide|(simp<;>omega)) (hj:j∉I:=by first|decide|(simp<;>omega)):eT w' aP j e us rows:=h.st hs h0 hj
theorem eT.lF (h:eT w C j e us rows) (hk:k<us.length) (hk':k<rows.length) (hl:rows[k].length<=9223372036854775807):aG w (aB iC) rows[k] us[k]:=(h.own k hk hk').lF hl
theorem eT.append {bytes:Nat} (h:eT w C j e us rows) (hF:aM w C) (hj:j≠0) (hk:k<us.length) (hk':k<rows.length) (hx:ev env y=some us[k]) (hy:ev env z=some s) (hrow:om P t e (sz α) bytes=true) (hsz:0<sz α)
  (hsrc:aG w (aB C) zs s) (hlen: (rows[k].length+zs.length)*bytes<=140737488355328) (h63:rows[k].length+zs.length<=140737488355328):
  gZ P N env (.call {callee:=.builtin .append,args:=#[y,z],argTypes:=#[t,t]}) w (λv' w'=>∃aP,ay [j] w C w' aP/\aM w' aP/\eT w' aP j e (us.set k v') (rows.set k (rows[k]++zs))):=λa ha eY gu=>by
 have hown:=h.own k hk hk';obtain⟨v',w',h1,h2,h3,h4⟩:=ER (P:=P) (N:=N) hx hy hrow hsz hown.own hsrc hlen h63 a ha eY gu;have kr:∀b,b<w.heap.size->gj C v' j b=C b:=λb hb=>by
  unfold gj;split
  ·rename_i e;rcases h4 b e with h|h
   ·exact(hown.col b h).symm
   ·omega
  ·rfl
 have hS:ay [j] w C w' (gj C v' j):=⟨h3.mono (λb _ hb=>by rw[hown.col b hb];simp),kr⟩
 have hL:aM w' (gj C v' j):=λb hb=>by
  by_cases ho:cI v' b
  ·exact(h2.fA b ho).2
  ·unfold gj at hb;rw[if_neg (show¬v'.ownBlock=some b from ho)] at hb;exact Nat.lt_of_lt_of_le (hF b hb) h3.size
 have hn:bn w' (gj C v' j) j e v' (rows[k]++zs):=⟨h2.sub (λb hb hc=>by
  by_cases ho:cI v' b
  ·exact .inl ho
  ·right;unfold aB gj at hc;rw[if_neg (show¬v'.ownBlock=some b from ho)] at hc;exact hc) (λb hb=>by unfold aB gj;rw[if_pos (show v'.ownBlock=some b from hb)];exact hj),λb hb=>by unfold gj;rw[if_pos (show v'.ownBlock=some b from hb)]⟩
 have FZ:∀l (hl:l<us.length) (hl':l<rows.length),l≠k->bn w' (gj C v' j) j e us[l] rows[l]/\∀b,cI us[l] b->¬cI v' b:=λl hl hl' hlk=>by
  have ho:=h.own l hl hl';have hne:∀b,cI us[l] b->¬cI us[k] b:=h.rH l k hl hk hlk;have hv:∀b,cI us[l] b->¬cI v' b:=λb hb hv=>by
   rcases h4 b hv with h5|h5
   ·exact hne b hb h5
   ·have:=(ho.own.fA b hb).2;omega
  have hold:∀b,b<w.heap.size->cI v' b->aB C b:=λb hb qH=>by
   rcases h4 b qH with h6|h6
   ·unfold aB;rw[hown.col b h6];exact hj
   ·omega
  have h50:jG w (λb=>cI v' b\/aB C b) e us[l] rows[l]:=ho.own.sub (λb hb gI=>gI.elim (hold b hb) id) (λb hb=> .inr (by unfold aB;rw[ho.col b hb];exact hj));have h5:jG w' (λb=>cI v' b\/aB C b) e us[l] rows[l]:=h50.ext h3 (λb hb hA=> .inr (by unfold aB;rw[hown.col b hA];exact hj)) hne;refine⟨⟨h5.sub (λb hb hc=>?_) (λb hb=>?_),λb hb=>?_⟩,hv⟩
  ·by_cases qH:cI v' b
   ·exact .inl qH
   ·right;unfold aB gj at hc;rw[if_neg (show¬v'.ownBlock=some b from qH)] at hc;exact hc
  ·unfold aB gj;rw[if_neg (show¬v'.ownBlock=some b from hv b hb),ho.col b hb];exact hj
  ·unfold gj;rw[if_neg (show¬v'.ownBlock=some b from hv b hb)];exact ho.col b hb
 refine⟨v',w',h1,gj C v' j,hS,hL,⟨by simp[h.len],λl h5 h6=>?_,λl m h5 h6 wK b hb ff=>?_⟩⟩
 ·simp only[List.length_set] at h5 h6;rw[List.getElem_set,List.getElem_set];by_cases e:k=l
  ·subst e;rw[if_pos rfl,if_pos rfl];exact hn
  ·rw[if_neg e,if_neg e];exact(FZ l h5 h6 (Ne.symm e)).1
 ·simp only[List.length_set] at h5 h6;rw[List.getElem_set] at hb ff;by_cases e1:k=l
  ·by_cases e2:k=m
   ·omega
   ·rw[if_pos e1] at hb;rw[if_neg e2] at ff;exact(FZ m h6 (by rw[<-h.len];exact h6) (Ne.symm e2)).2 b ff hb
  ·by_cases e2:k=m
   ·rw[if_neg e1] at hb;rw[if_pos e2] at ff;exact(FZ l h5 (by rw[<-h.len];exact h5) (Ne.symm e1)).2 b hb ff
   ·rw[if_neg e1] at hb;rw[if_neg e2] at ff;exact h.rH l m h5 h6 wK b hb ff
theorem TW {n bytes:Nat} {parts:Array (Nat×Operand)} {ys:List α} (hF:aM w C) (hj:j≠0) (hrow:om P t e (sz α) bytes=true) (hn:n=ys.length) (qu:n*sz α<=16777216) (hsz:0<sz α)
  (hp:CD env w (aB C) 0 parts.toList ys):
  gZ P N env (.buildSlice t n parts) w (λv w'=>∃aP,ay [] w C w' aP/\bn w' aP j e v ys/\aM w' aP/\∀b,cI v b->w.heap.size<=b):=oP λρ hρ eY gu=>by
 subst hn;obtain⟨i,z,hu,hi,hsi,hby,hz,hzs⟩:=uD hrow
 let zs:List Value:=((Array.range (ys.length*sz α)).map λj=>(if ys.length*sz α=0 then(#[]:Array Value) else z.cells)[j%(if ys.length*sz α=0 then(#[]:Array Value) else z.cells).size]!).toList
 obtain⟨eS,news,h1,h2,h3,h4⟩:=E0 (k:=0) [] zs hp (by simp) (by simp[zs]);simp only[List.nil_append] at h2;have hmap:=tj.map hρ h1;have ng:=fill_eq _ (parts.toList.map λp=>(p.1,ρ p.2)) eS zs news (by rw[<-hmap]) h2;have hnew:=tf w (.cells news.toArray e);have hrun: (Instr.buildSlice t ys.length (parts.map λx=>(x.1,ρ x.2))).run P w=.ok (.slice (some ⟨w.heap.size,0,none⟩) ys.length ys.length) (w.alloc (.cells news.toArray e)):=by
  have hle:¬(ys.length*sz α>2^24):=by omega
  have ou: (parts.map λx=>(x.1,ρ x.2)).toList=parts.toList.map λp=>(p.1,ρ p.2):=by simp
  have Ae: (sizeOf e).run P w=.ok (sz α) w:=by simp[sizeOf,typeInfo,hi,hsi]
  unfold Instr.buildSlice;simp only[Sem.run_bind,run_underlying hu,Result.andThen_ok,Ae,if_neg hle,Sem.run_pure,ou];by_cases h0:ys.length*sz α=0
  ·have q5:zs=((Array.range (ys.length*sz α)).map λj=>(#[]:Array Value)[j%(#[]:Array Value).size]!).toList:=by simp only[zs,h0,if_true]
   rw[q5] at ng;simp only[h0,if_true,Sem.run_bind,Sem.run_pure,Result.andThen_ok] at ng⊢;simp only[Array.toArray_toList] at ng;rw[ng];simp[newRow]
  ·have q5:zs=((Array.range (ys.length*sz α)).map λj=>z.cells[j%z.cells.size]!).toList:=by simp only[zs,h0,if_false]
   rw[q5] at ng;have E1: (zeroValue e).run P w=.ok z w:=by simp[zeroValue,typeInfo,hi,hz]
   simp only[h0,if_false,Sem.run_bind,E1,Sem.run_pure,Result.andThen_ok];simp only[Array.toArray_toList] at ng;rw[ng];simp[newRow]
 obtain⟨aP,a1,a2,a3⟩:=hnew.own hF j;refine⟨.slice (some ⟨w.heap.size,0,none⟩) ys.length ys.length,w.alloc (.cells news.toArray e),.inl ?_,aP,a1,⟨.inr ⟨w.heap.size,ys.length,news.toArray,rfl,?_,a2.at_,Nat.le_refl _,?_,λi hi=>?_⟩,λb hb=>?_⟩,a3,λb hb=>?_⟩
 ·unfold execOp;rw[gu];simp only[Sem.run_bind];rw[show(parts.map λx=>match x with|(i,x)=>(i,ρ x))=(parts.map λx=>(x.1,ρ x.2)) from rfl,hrun];rfl
 ·unfold aB;rw[a2.col];exact hj
 ·simp only[List.size_toArray,h3]
 ·have h5:=h4 i hi;refine bg.keep (bg.sub h5 (λb hb hm=>?_)) (λb hb hm=>hnew.ext.block b hb (λh=>h));unfold aB at hm⊢;rw[a1.col b hb] at hm;exact hm
 ·simp only[cI,Value.ownBlock,Option.some.injEq] at hb;subst hb;exact a2.col
 ·simp only[cI,Value.ownBlock,Option.some.injEq] at hb;omega
theorem eT.snoc (h:eT w C j e us rows) (hj:j≠0) {ys:List α} (ho:bn w C j e v ys) (hd:∀k (hk:k<us.length),∀b,cI us[k] b->¬cI v b):eT w C j e (us++[v]) (rows++[ys]):=by
 have hl:=h.len;have hi:∀k (hk:k<(us++[v]).length),k<us.length\/k=us.length:=λk hk=>by simp at hk;omega
 refine⟨by simp[h.len],λk h1 h2=>?_,λk l h1 h2 aK b hb ff=>?_⟩
 ·rcases hi k h1 with h3|h3
  ·rw[List.getElem_append_left h3,List.getElem_append_left (by omega)];exact h.own k h3 (by omega)
  ·subst h3;rw[List.getElem_append_right (by omega),List.getElem_append_right (by omega)];simp only[Nat.sub_self,hl];simpa using ho
 ·rcases hi k h1 with h3|h3
  ·rw[List.getElem_append_left h3] at hb;rcases hi l h2 with h4|h4
   ·rw[List.getElem_append_left h4] at ff;exact h.rH k l h3 h4 aK b hb ff
   ·subst h4;rw[List.getElem_append_right (by omega)] at ff;exact hd k h3 b hb (by simpa using ff)
  ·subst h3;rw[List.getElem_append_right (by omega)] at hb;rcases hi l h2 with h4|h4
   ·rw[List.getElem_append_left h4] at ff;exact hd l h4 b ff (by simpa using hb)
   ·omega
theorem eT.fresh (h:eT w C j e us rows) {w0:World} (hb:∀b,cI v b->w0.heap.size<=b) (hs:∀k (hk:k<us.length),∀b,cI us[k] b->b<w0.heap.size):∀k (hk:k<us.length),∀b,cI us[k] b->¬cI v b:=λk hk b h1 h2=>by
 have:=hb b h2;have:=hs k hk b h1;omega
theorem eT.lt (h:eT w C j e us rows):∀k (hk:k<us.length),∀b,cI us[k] b->b<w.heap.size:=λk hk b hb=>((h.own k hk (by rw[<-h.len];exact hk)).own.fA b hb).2
theorem eT.pop (h:eT w C j e (us++[v]) (rows++[xs])) (hl:us.length=rows.length):eT w C j e us rows:=
 ⟨hl,λk h1 h2=>by
  have:=h.own k (by simp;omega) (by simp;omega);rwa [List.getElem_append_left h1,List.getElem_append_left h2] at this,λk l h1 h2 aK b hb=>by
  have:=h.rH k l (by simp;omega) (by simp;omega) aK b;rw[List.getElem_append_left h1,List.getElem_append_left h2] at this;exact this hb⟩
theorem bn.TX {e':TypeId} (h:bn w C j e v xs) (hy:ev env y=some v) {kd:IntKind} {i:Int} (hf:jk P t=some (e',sz α)) (hz:ev env z=some (.int kd i)) (h0:0<=i) (h1:i<=xs.length) (hne:0<xs.length):
  ∃v2,(∀b,cI v2 b->cI v b)/\bn w C j e v2 (xs.take i.toNat)/\∀w',c5 P N env (.slice t y none (some z) none) w' v2:=by
 obtain⟨g,cap,cs,rfl,kr,gI,hc,hle,hsz,hr⟩:=h.sn hne;have hl: (xs.take i.toNat).length=i.toNat:=by rw[List.length_take];omega
 refine⟨.slice (some ⟨g,0,none⟩) (xs.take i.toNat).length cap,λb hb=>hb,⟨.inr ⟨g,cap,cs,rfl,gI,hc,by omega,hsz,λk hk=>?_⟩,h.col⟩,λw'=>mk' λρ hρ eY ho=>?_⟩
 ·rw[List.getElem_take];exact hr k (by omega)
 ·unfold jk at hf;split at hf
  ·rename_i e1 hu;split at hf
   ·rename_i n' hn;simp only[Option.some.injEq,Prod.mk.injEq] at hf;obtain⟨rfl,rfl⟩:=hf;have hb:=wo (P:=P) (kd:=kd) (y:=cap) (code:=.sliceAcap) (w:=w') h0 (by omega);unfold execOp;rw[ho];rw[hl];simp[hρ _ _ hy,hρ _ _ hz,Instr.sliceAt,Instr.slice,Instr.sliceBounds,run_underlying hu,oh hn,hb,oO]
   ·cases hf
  ·cases hf
theorem eT.cut {e':TypeId} (h:eT w C j e us rows) (hk:k<us.length) (hk':k<rows.length) (hy:ev env y=some us[k]) {kd:IntKind} {i:Int} (hf:jk P t=some (e',sz α)) (hz:ev env z=some (.int kd i)) (h0:0<=i) (h1:i<=rows[k].length) (hne:0<rows[k].length):
  ∃v2,eT w C j e (us.set k v2) (rows.set k (rows[k].take i.toNat))/\∀w',c5 P N env (.slice t y none (some z) none) w' v2:=by
 obtain⟨v2,h2,h3,h4⟩:=(h.own k hk hk').TX (P:=P) (N:=N) hy hf hz h0 h1 hne;refine⟨v2,⟨by simp[h.len],λl h5 h6=>?_,λl m h5 h6 wK b hb ff=>?_⟩,h4⟩
 ·simp only[List.length_set] at h5 h6;rw[List.getElem_set,List.getElem_set];by_cases e:k=l
  ·subst e;rw[if_pos rfl,if_pos rfl];exact h3
  ·rw[if_neg e,if_neg e];exact h.own l h5 h6
 ·simp only[List.length_set] at h5 h6;rw[List.getElem_set] at hb ff;by_cases e1:k=l
  ·by_cases e2:k=m
   ·omega
   ·rw[if_pos e1] at hb;rw[if_neg e2] at ff;exact h.rH k m hk h6 e2 b (h2 b hb) ff
  ·by_cases e2:k=m
   ·rw[if_neg e1] at hb;rw[if_pos e2] at ff;exact h.rH l k h5 hk (Ne.symm e1) b hb (h2 b ff)
   ·rw[if_neg e1] at hb;rw[if_neg e2] at ff;exact h.rH l m h5 h6 wK b hb ff
end
def ey (C:Nat->Nat):Nat->Nat:=λb=>if C b=3\/C b=4\/C b=5 then C b else if C b=0 then 0 else 1
def dZ (n:Nat) (C aP:Nat->Nat):Nat->Nat:=λb=>if b<n then C b else if aP b=3\/aP b=4\/aP b=5 then aP b else 0
section
variable {α:Type} [bg α] {w w' w0:World} {C aP D:Nat->Nat} {I:List Nat} {e:TypeId} {v:Value} {ys:List α} {x:α} {us:List Value} {rows:List (List α)} {j b n:Nat} {o:Obj}
theorem F0 (C:Nat->Nat) (b:Nat):ey C b≠0↔C b≠0:=by unfold ey;split<;>(try split)<;>omega
theorem F1 (C:Nat->Nat):aB (ey C)=aB C:=by funext b;exact propext (F0 C b)
theorem aM.ey (h:aM w C):aM w (K.ey C):=λb hb=>h b ((F0 C b).1 hb)
theorem tL (C:Nat->Nat) (b:Nat):ey C b<6:=by unfold ey;split<;>(try split)<;>omega
theorem Mb {j:Nat} (h:C b=j) (hj:j=3\/j=4\/j=5):ey C b=j:=by unfold ey;rw[h,if_pos hj]
theorem dN.ey (h:dN w C j b o) (hj:j=3\/j=4\/j=5):dN w (K.ey C) j b o:=⟨Mb h.col hj,h.at_⟩
theorem bn.ey (h:bn w C j e v ys) (hj:j=3\/j=4\/j=5):bn w (K.ey C) j e v ys:=⟨by rw[F1];exact h.own,λb hb=>Mb (h.col b hb) hj⟩
theorem eT.ey (h:eT w C j e us rows) (hj:j=3\/j=4\/j=5):eT w (K.ey C) j e us rows:=⟨h.len,λk h1 h2=>(h.own k h1 h2).ey hj,h.rH⟩
theorem ay.dZ (h:ay [3,4,5,6,7] w (ey C) w' aP):ay [3,4,5] w C w' (K.dZ w.heap.size C aP):=
 ⟨h.ext.mono (λb _ hc=>by
  simp only[List.mem_cons,List.not_mem_nil,or_false] at hc⊢;unfold K.ey at hc;split at hc<;>(try split at hc)<;>omega),λb hb=>by unfold K.dZ;rw[if_pos hb]⟩
theorem Dv (h:ay I w (ey C) w' aP) (hF:aM w C):∀b,aB (dZ w.heap.size C aP) b->aB aP b:=λb hb=>by
 unfold aB dZ at*;by_cases hlt:b<w.heap.size
 ·rw[if_pos hlt] at hb;rw[h.col b hlt];exact(F0 C b).2 hb
 ·rw[if_neg hlt] at hb;split at hb<;>omega
theorem qa (h:ay I w (ey C) w' aP) (hF:aM w C) (F2:aM w' aP):aM w' (dZ w.heap.size C aP):=λb hb=>F2 b (Dv h hF b hb)
theorem F4 (h:ay I w (ey C) w' aP) {j:Nat} (hj:j=3\/j=4\/j=5) (hb:aP b=j):dZ w.heap.size C aP b=j:=by
 unfold dZ;by_cases hlt:b<w.heap.size
 ·rw[if_pos hlt];have h1:=h.col b hlt;rw[hb] at h1;unfold ey at h1;split at h1
  ·exact h1.symm
  ·split at h1<;>omega
 ·rw[if_neg hlt,hb,if_pos hj]
theorem dN.dZ (ho:dN w' aP j b o) (h:ay I w (K.ey C) w' aP) (hj:j=3\/j=4\/j=5):dN w' (K.dZ w.heap.size C aP) j b o:=⟨F4 h hj ho.col,ho.at_⟩
theorem bn.dZ (ho:bn w' aP j e v ys) (h:ay I w (K.ey C) w' aP) (hF:aM w C) (hj:j=3\/j=4\/j=5):bn w' (K.dZ w.heap.size C aP) j e v ys:=
 ⟨ho.own.sub (λb _ hb=>Dv h hF b hb) (λb hb=>by unfold aB;rw[F4 h hj (ho.col b hb)];omega),λb hb=>F4 h hj (ho.col b hb)⟩
theorem eT.dZ (hr:eT w' aP j e us rows) (h:ay I w (K.ey C) w' aP) (hF:aM w C) (hj:j=3\/j=4\/j=5):eT w' (K.dZ w.heap.size C aP) j e us rows:=⟨hr.len,λk h1 h2=>(hr.own k h1 h2).dZ h hF hj,hr.rH⟩
theorem aG.dZ (hr:aG w' (aB aP) x v) (h:ay I w (K.ey C) w' aP) (hF:aM w C):aG w' (aB (K.dZ w.heap.size C aP)) x v:=hr.kX (Dv h hF)
theorem aG.ey (hr:aG w (aB C) x v):aG w (aB (K.ey C)) x v:=by rw[F1];exact hr
theorem fm.ey {ds:List bG} (h:fm w (aB C) ds v):fm w (aB (K.ey C)) ds v:=by rw[F1];exact h
theorem bn.Dw {xs:List av} (h:bn w' aP j e v xs) (hs:ay [] w iC w' aP) (hj:j≠0) (hF:aM w D) (hl:xs.length<=9223372036854775807):aG w' (aB D) xs v:=by
 rcases h.own with⟨rfl,rfl⟩|⟨g,cap,cs,hv,hg,hc,h1,h2,h3⟩
 ·exact jE
 ·subst hv;have kr:=h.col g rfl;have hn:¬aB D g:=λhD=>by
   have:=hs.col g (hF g hD);rw[kr] at this;exact hj this
  exact kF.2 ⟨_,cap,rfl,h1,hl,.inr ⟨g,0,rfl,hn,cs,e,_,hc,by rw[Nat.zero_add,h2];exact Nat.mul_le_mul_right _ h1,λi hi=>by rw[Nat.zero_add];exact qx.2 (qx.1 (h3 i hi))⟩⟩
theorem bn.Md (ho:bn w' aP j e v ys) (h:ay I w (K.ey C) w' aP) (hF:aM w C) (hj:6<=j) (hl:ys.length<=9223372036854775807):aG w' (aB (K.dZ w.heap.size C aP)) ys v:=
 ho.own.read (λb _ hb=>⟨Dv h hF b hb,λDg=>by
  have hc:=ho.col b Dg;unfold aB K.dZ at hb;by_cases hlt:b<w.heap.size
  ·have:=h.col b hlt;have h2:=tL C b;omega
  ·rw[if_neg hlt] at hb;split at hb<;>omega⟩) hl
end
def Dx (TY oA nB:Nat) (w:World) (C:Nat->Nat) (b:Nat) (bL b7 e9:Value) (rows:List (List av)) (st:gX):Prop:=
 ∃vs us gY,dN w C 3 b (.cells [bL,b7,e9,vs,.bool st.found,gY,.int .i64 st.val].toArray TY)/\bn w C 4 oA vs (us.map fL.mk)/\eT w C 5 nB us rows/\aG w (aB C) st.best gY
section
variable {w w':World} {C aP:Nat->Nat} {us:List Value} {rows:List (List av)} {nB:Nat}
theorem eT.one (h:eT w C 5 nB us rows):∀k (hk:k<us.length),us[k].oneCell'=true:=λk hk=>((h.own k hk (by rw[<-h.len];exact hk)).one).2
end
theorem fm.c0 {w:World} {M:Nat->Prop} {ds:List bG} {v:Value} (h:fm w M ds v):fm w (aB iC) ds v:=h.sub (λb hb=>absurd rfl hb)
section
variable {l:List aO} {ds:List bG} {rows:List (List av)} {refs:List av} {r:av} {i k:Nat} {st:gX} {C:Nat->Nat} {w:World} {us:List Value} {nB j:Nat} {xs:List av}
theorem Me {s:List av} {r:av}:mP ds s r=!(s.any λx=>eC ds x r):=rfl
theorem T0 (hk:k<rows.length) (hk2:k<(rows.set k (rows[k]++[r])).length) {i:Int} (hi:i=(((rows.set k (rows[k]++[r]))[k]'hk2).length:Int)-1): (rows.set k (rows[k]++[r])).set k (((rows.set k (rows[k]++[r]))[k]'hk2).take i.toNat)=rows:=by
 have e: (rows.set k (rows[k]++[r]))[k]'hk2=rows[k]++[r]:=by rw[List.getElem_set];simp
 rw[e] at hi⊢;have:i.toNat=rows[k].length:=by simp at hi;omega
 rw[this,List.set_set,List.take_left']
 ·simp
 ·rfl
theorem jP.Mf (h:jP ds xs rows):rows.length<=xs.length:=by
 have:=h.heads.length_le;rwa [List.length_map] at this
theorem F5 (hi:i<refs.length):refs.take (i+1)=refs.take i++[refs[i]]:=List.take_succ_eq_append_getElem hi
theorem T1 (hk:k<rows.length) (h:mP ds rows[k] r=true) (rs:List av):pg l ds r rs rows st (k+1)=p9 l ds rs (rows.set k (rows[k]++[r])) (pg l ds r rs rows st k):=by
 rw[pg,nP hk,if_pos h]
theorem T2 (hk:k<rows.length) (h:mP ds rows[k] r=false) (rs:List av):pg l ds r rs rows st (k+1)=pg l ds r rs rows st k:=by
 rw[pg,nP hk,if_neg (by rw[h];decide)]
theorem jP.Mg (h:jP ds (refs.take i) rows) (hi:i<refs.length) (hk:k<rows.length) (hok:mP ds rows[k] refs[i]=true):jP ds (refs.take (i+1)) (rows.set k (rows[k]++[refs[i]])):=by
 rw[F5 hi];have:=h.put hk (r:=refs[i]) (by rw[nP hk];exact hok);rwa [nP hk] at this
theorem jP.new' (h:jP ds (refs.take i) rows) (hi:i<refs.length):jP ds (refs.take (i+1)) (rows++[[refs[i]]]):=by
 rw[F5 hi];exact h.new _
theorem eT.T3 {rows:List (List av)} (h:eT w C j nB us (rows++[xs])) {n:Nat} (hn:n=rows.length):eT w C j nB (us.take n) rows:=by
 have hl:=h.len;simp only[List.length_append,List.length_cons,List.length_nil] at hl;have e:us=us.take n++[us[n]'(by omega)]:=by
  rw[<-List.take_succ_eq_append_getElem];exact(List.take_of_length_le (by omega)).symm
 rw[e] at h;exact h.pop (by rw[List.length_take];omega)
end
section
variable {α:Type} [bg α] {w:World} {C:Nat->Nat} {P:Program} {f:FuncId} {N:Nat} {Q:Exit->Act->World->Prop} {env:Env} {ops:Array Oper} {S:World->Prop} {i t:Nat} {L:List (Nat×Bool)} {y z:Operand} {gV:Option (Nat×Bool)} {ty e e':TypeId} {us:List Value} {rows:List (List α)} {j k:Nat} {kd:IntKind} {n:Int}
theorem eT.T4 (h:eT w C j e us rows) (hop:cZ ops i=some (some t,.slice ty y none (some z) none,gV)) (hw:fN ops env gV=some true) (ht:Nat.blt t N=true) (hk:k<us.length) (hk':k<rows.length) (hy:ev env y=some us[k])
  (hf:jk P ty=some (e',sz α)) (hz:ev env z=some (.int kd n)) (h0:0<=n) (h1:n<=rows[k].length) (hne:0<rows[k].length)
  (hn:∀v2,eT w C j e (us.set k v2) (rows.set k (rows[k].take n.toNat))->bR P N Q ops S L ((t,v2)::env) w):bR P N Q ops S ((i,true)::L) env w:=by
 obtain⟨v2,h2,h3⟩:=h.cut (P:=P) (N:=N) hk hk' hy hf hz h0 h1 hne;exact dH hop hw ht (λw' _=>h3 w') (hn v2 h2)
end
def lG (w:World) (C:Nat->Nat) (m:List (av×fL)) (rs:List av) (g:av->List av):Prop:=∀r∈rs,∃s:fL,eM m r=some s/\aG w (aB C) (g r) s.v
section
variable {w w':World} {C aP:Nat->Nat} {I:List Nat} {m:List (av×fL)} {rs:List av} {g g':av->List av} {l:List aO} {ds:List bG} {v:Value} {both:List av} {b:aO}
theorem lG.st (h:lG w C m rs g) (hs:ay I w C w' aP) (h0:0∉I):lG w' aP m rs g:=λr hr=>let⟨s,h1,h2⟩:=h r hr;⟨s,h1,h2.st hs h0⟩
theorem lG.t (h:lG w C m rs g) (hs:ay I w C w' aP) (h0:0∉I:=by first|decide|(simp<;>omega)):lG w' aP m rs g:=h.st hs h0
theorem lG.nil:lG w C m [] g:=λr hr=>by cases hr
theorem lG.look (h:lG w C m rs g) {r:av} (hr:r∈rs):∃v,((eM m r).getD ⟨.slice none 0 0⟩).v=v/\aG w (aB C) (g r) v:=by
 obtain⟨s,h1,h2⟩:=h r hr;exact⟨s.v,by rw[h1];rfl,h2⟩
theorem lG.put (h:lG w C m rs g) {q:av} (hv:aG w (aB C) both v) (hg:∀r∈rs,g' r=if q=r then both else g r):lG w C (gE m q ⟨v⟩) rs g':=λr hr=>by
 rw[l9,hg r hr];by_cases e:q=r
 ·rw[if_pos e,if_pos e];exact⟨⟨v⟩,rfl,hv⟩
 ·rw[if_neg e,if_neg e];exact h r hr
theorem lG.add (h:lG w C m rs λr=>[r]) {q:av} (hv:aG w (aB C) [q] v):lG w C (gE m q ⟨v⟩) (rs++[q]) λr=>[r]:=λr hr=>by
 rw[l9];by_cases e:q=r
 ·subst e;rw[if_pos rfl];exact⟨⟨v⟩,rfl,hv⟩
 ·rw[if_neg e];rcases List.mem_append.1 hr with h1|h1
  ·exact h r h1
  ·exact absurd (List.mem_singleton.1 h1).symm e
theorem iQ.sub (h:iQ l ds g) {r:av} (hr:r∈aW l):∀q∈g r,q∈aW l:=λq hq=>by
 by_cases h2:2<=(g r).length
 ·exact LR (h.join r) h2 (h.nd r) hq
 ·have hs:=h.self r
  match hg:g r,h2,hs,hq with
  |[x],_,hs,hq=>rw[List.mem_singleton] at hs hq;rw[hq,<-hs];exact hr
  |[],_,hs,_=>cases hs
  |x::y::t,h2,_,_=>simp at h2
theorem iQ.len (h:iQ l ds g) {r:av} (hr:r∈aW l): (g r).length<=2*l.length:=by
 have h1:=(h.nd r).length_le_of_subset (h.sub hr);have:=kW l;omega
def u5 (g:av->List av) (both:List av) (j:Nat):av->List av:=λr=>if r∈both.take j then both else g r
theorem T5:u5 g both 0=g:=by funext r;unfold u5;rw[if_neg (by simp)]
theorem T6 {j:Nat} (hj:j<both.length) (r:av):u5 g both (j+1) r=if both[j]=r then both else u5 g both j r:=by
 unfold u5;rw[List.take_succ_eq_append_getElem hj];by_cases e:both[j]=r
 ·rw[if_pos e,if_pos (by rw[List.mem_append,List.mem_singleton];exact .inr e.symm)]
 ·rw[if_neg e];by_cases h:r∈both.take j
  ·rw[if_pos h,if_pos (List.mem_append.2 (.inl h))]
  ·rw[if_neg h,if_neg (λh2=>(List.mem_append.1 h2).elim h (λh3=>e (List.mem_singleton.1 h3).symm))]
theorem Dy (h:b.B∈g b.A\/sE ds (g b.A) (g b.B)=true):nA ds g b=g:=by unfold nA;rw[if_pos h]
theorem T7 (h1:b.B∉g b.A) (h2:sE ds (g b.A) (g b.B)=false):nA ds g b=u5 g (g b.A++g b.B) (g b.A++g b.B).length:=by
 unfold nA u5;rw[if_neg (λh=>h.elim h1 (λe=>by rw[h2] at e;cases e)),List.take_length]
theorem T8 {ord:List aO} {k:Nat} (h:k<ord.length):dh ds (ord.take (k+1))=nA ds (dh ds (ord.take k)) ord[k]:=by
 unfold dh;rw[List.take_succ_eq_append_getElem h,List.foldl_append];rfl
theorem T9 {refs:List av} {i:Nat} (h:i<refs.length):k5 (refs.take (i+1)) g=if mR g refs[i]=true then k5 (refs.take i) g++[iq (g refs[i])] else k5 (refs.take i) g:=by
 unfold k5;rw[List.take_succ_eq_append_getElem h,List.filter_append];by_cases e:mR g refs[i]=true
 ·rw[if_pos e,List.filter_cons_of_pos e];simp
 ·rw[if_neg e,List.filter_cons_of_neg e];simp
theorem Mh (refs:List av): (k5 refs g).length<=refs.length:=by
 unfold k5;rw[List.length_map];exact List.length_filter_le _ _
end
def fJ (x y:List av):Int:=jJ (x.headD ⟨0,0⟩) (y.headD ⟨0,0⟩)
theorem Mi {x y:List av} (hx:0<x.length) (hy:0<y.length):fJ x y=jJ x[0] y[0]:=by
 unfold fJ;rw[List.headD_eq_head?_getD,List.headD_eq_head?_getD,List.head?_eq_getElem?,List.head?_eq_getElem?,List.getElem?_eq_getElem hx,List.getElem?_eq_getElem hy];rfl
theorem Mj:kZ jJ (λ_=>True):=⟨λx y _ _=>by
 rw[(yH (x:=x) (y:=y)).1,(yH (x:=y) (y:=x)).2.2],λx y z _ _ _ h1 h2=>by
 have a:=(yH (x:=x) (y:=y)).2.2;have b:=(yH (x:=y) (y:=z)).2.2;have c:=(yH (x:=x) (y:=z)).2.2;have uI:¬yG y x:=λh=>by have:=a.2 h;omega
 have wk:¬yG z y:=λh=>by have:=b.2 h;omega
 refine Int.not_lt.1 λh=>?_;have h3:=c.1 h;unfold yG at uI wk h3;omega⟩
theorem yP:kZ fJ (λ_=>True):=⟨λx y _ _=>by unfold fJ;exact Mj.1 _ _ trivial trivial,λx y z _ _ _=>by unfold fJ;exact Mj.2 _ _ _ trivial trivial trivial⟩
section
variable {α:Type} {ys zs:List α} {σ:Nat->Nat}
end
noncomputable def iH (ds:List bG) (l:List aO):List (List av)×Int:=(lE l ds,0)
noncomputable def eW (ds:List bG) (l:List aO):List (List av)×Int:=if((aW l).length:Int)<=8 then(nU l ds,0) else(lE l ds,0)
def fE (ds:List bG) (l:List aO):List (List av)×Int:=if((aW l).length:Int)<=8 then(nU l ds,0) else([],1)
def Dz (P:Program) (g:Nat) (l:List aO) (ds:List bG) (wf:List aO->List (List av)×Int):Prop:=
 ∀(w1:World) (bC:Nat->Nat) (i:Nat) (hi:i<(a_ l).length) (AP bL b7:Value),aM w1 bC->aG w1 (aB bC) (a_ l)[i] AP->fm w1 (aB bC) ds b7->
  Calls P g #[.agg #[bL,b7],AP] w1 (bM λv w'=>∃cu,v=.tuple #[cu,.int .i64 (wf (a_ l)[i]).2]/\ay [] w1 bC w' bC/\aG w' (aB bC) (wf (a_ l)[i]).1 cu)
def dQ (wf:List aO->List (List av)×Int) (ps:List (List aO)):List (List av):=ps.flatMap λp=>(wf p).1
theorem sF {wf:List aO->List (List av)×Int} {ps:List (List aO)} {k:Nat} (h:k<ps.length):dQ wf (ps.take (k+1))=dQ wf (ps.take k)++(wf ps[k]).1:=by
 unfold dQ;rw[List.take_succ_eq_append_getElem h,List.flatMap_append];simp
theorem wL {wf:List aO->List (List av)×Int} {ps:List (List aO)} (k:Nat): (dQ wf (ps.take k)).length<=(dQ wf ps).length:=by
 have:dQ wf ps=dQ wf (ps.take k)++dQ wf (ps.drop k):=by unfold dQ;rw[<-List.flatMap_append,List.take_append_drop]
 rw[this,List.length_append];omega
section
variable {pr:Int} {oy df:List Int} {lo hi hi':Int} {p:Nat} {fl Lz:List Int} {ok:Bool}
end
section
variable {oy df:List Int} {p n k st:Nat} {s t hi:Int} {gs l m:List av}
end
section
variable {pr:Int} {oy df:List Int} {lo hi:Int} {p n:Nat} {fl:List Int} {ok:Bool} {s:Int}
end
section
variable {pr:Int} {oy df:List Int} {lo hi:Int} {p n:Nat} {fl:List Int} {s:Int}
end
section
variable {α:Type} {c:α->α->Int}
theorem fk.F6 {ys:List α} {L:List (Fin ys.length)} (rz:L.Perm (List.finRange ys.length)) (oB:L.Pairwise λi j=>ez c ys i.val j.val):fk c ys (L.map λi=>ys[i.val]):=by
 have hlen:L.length=ys.length:=by rw[rz.length_eq,List.length_finRange]
 have iB:L.Nodup:=rz.nodup_iff.2 (List.nodup_finRange _);refine⟨λi=>if h:i<L.length then L[i].val else i,⟨by rw[List.length_map,hlen],λi hi=>?_⟩,⟨λi hi=>?_,λi h1 h2=>?_,λi j e=>?_⟩,λi j h1 h2 h3=>?_⟩
 ·have hi2:i<L.length:=by omega
  rw[dif_pos hi2];refine⟨L[i].isLt,?_⟩;rw[List.getElem?_map,List.getElem?_eq_getElem hi2,List.getElem?_eq_getElem L[i].isLt];rfl
 ·rw[dif_neg (by omega)]
 ·rw[dif_pos (show i<L.length by omega)];exact⟨Nat.zero_le _,L[i].isLt⟩
 ·by_cases hi:i<L.length
  ·by_cases hj:j<L.length
   ·simp only[dif_pos hi,dif_pos hj] at e;rcases Nat.lt_trichotomy i j with h|h|h
    ·exact absurd (Fin.ext e) (List.pairwise_iff_getElem.1 (List.nodup_iff_pairwise_ne.1 iB) i j hi hj h)
    ·exact h
    ·exact absurd (Fin.ext e.symm) (List.pairwise_iff_getElem.1 (List.nodup_iff_pairwise_ne.1 iB) j i hj hi h)
   ·simp only[dif_pos hi,dif_neg hj] at e;have:=L[i].isLt;omega
  ·by_cases hj:j<L.length
   ·simp only[dif_neg hi,dif_pos hj] at e;have:=L[j].isLt;omega
   ·simp only[dif_neg hi,dif_neg hj] at e;exact e
 ·simp only[dif_pos (show i<L.length by omega),dif_pos (show j<L.length by omega)];exact List.pairwise_iff_getElem.1 oB i j (by omega) (by omega) h2
theorem fk.ex (hc:kZ c (λ_=>True)) (ys:List α):∃zs,fk c ys zs:=by
 classical
 have hP:∀x∈ys,(λ_:α=>True) x:=λ_ _=>trivial;obtain⟨L,hL⟩:∃L,L=(List.finRange ys.length).mergeSort (λi j=>decide (¬ez c ys j.val i.val)):=⟨_,rfl⟩
 have rz:L.Perm (List.finRange ys.length):=by rw[hL];exact List.mergeSort_perm _ _
 have iB:L.Nodup:=rz.nodup_iff.2 (List.nodup_finRange _);have oB:L.Pairwise λi j=>ez c ys i.val j.val:=by
  have h1:L.Pairwise λi j=>(decide (¬ez c ys j.val i.val))=true:=by
   rw[hL];refine List.pairwise_mergeSort (λi j k h1 h2=>?_) (λi j=>?_) _
   ·simp only[decide_eq_true_eq] at*;intro h3;by_cases e1:i=j
    ·subst e1;exact h2 h3
    ·have h4:=(FI hc hP i.isLt j.isLt (λe=>e1 (Fin.ext e))).resolve_right h1;exact h2 (FH hc hP h3 h4)
   ·simp only[Bool.or_eq_true,decide_eq_true_eq];by_cases h:ez c ys j.val i.val
    ·exact .inr (λh'=>Lh hc hP h h')
    ·exact .inl h
  refine(h1.and (List.nodup_iff_pairwise_ne.1 iB)).imp λ{i j} ⟨h2,h3⟩=>?_;simp only[decide_eq_true_eq] at h2;exact(FI hc hP i.isLt j.isLt (λe=>h3 (Fin.ext e))).resolve_right h2
 exact⟨_,fk.F6 rz oB⟩
end
section
variable {oy df:List Int} {p n:Nat} {gs:List av}
end
def mT (x y:av):Bool:=decide (x.a<y.a)||(decide (x.a=y.a)&&decide (x.b<y.b))
theorem AQ {x y:av}:mT x y=true↔x.a<y.a\/(x.a=y.a/\x.b<y.b):=by unfold mT;simp
def eZ:List av->av->List av
 |[],c=>[c]
 |x::l,c=>if mT x c=true then x::eZ l c else if x=c then x::l else c::x::l
theorem Mk {c:av}:∀{l:List av} {k:Nat},k<=l.length->(∀i (hi:i<k) (h:i<l.length),mT l[i] c=true)->(∀h:k<l.length,mT l[k] c=false)->
  eZ l c=if h:k<l.length then(if l[k]=c then l else l.take k++c::l.drop k) else l++[c]
 |[],k,hk,_,_=>by simp at hk;subst hk;simp[eZ]
 |x::l,0,_,_,h2=>by
  have:=h2 (by simp);simp only[List.getElem_cons_zero] at this;simp only[eZ,this,Bool.false_eq_true,if_false];simp
 |x::l,k+1,hk,h1,h2=>by
  have h0:=h1 0 (by omega) (by simp);simp only[List.getElem_cons_zero] at h0;have ih:=Mk (c:=c) (l:=l) (k:=k) (by simpa using hk) (λi hi h=>by have:=h1 (i+1) (by omega) (by simpa using h);simpa using this) (λh=>by have:=h2 (by simpa using h);simpa using this);simp only[eZ,h0,if_true,ih,List.length_cons,Nat.add_lt_add_iff_right,List.getElem_cons_succ,List.take_succ_cons,List.drop_succ_cons];split
  ·split<;>simp
  ·simp
theorem wM {c x:av}:∀{l:List av},x∈eZ l c↔x=c\/x∈l
 |[]=>by simp[eZ]
 |y::l=>by
  have ih:=wM (c:=c) (x:=x) (l:=l);unfold eZ;split
  ·simp only[List.mem_cons,ih];constructor
   ·rintro(h|h|h)<;>simp[h]
   ·rintro(h|h|h)<;>simp[h]
  ·split
   ·rename_i e;subst e;simp
   ·simp
theorem DA {c:av}:∀{l:List av},l.Pairwise (λx y=>mT x y=true)->(eZ l c).Pairwise (λx y=>mT x y=true)
 |[],_=>by simp[eZ]
 |y::l,h=>by
  obtain⟨h1,h2⟩:=List.pairwise_cons.1 h;unfold eZ;split
  ·rename_i hy;refine List.pairwise_cons.2 ⟨λz hz=>?_,DA h2⟩;rcases wM.1 hz with e|hz
   ·rw[e];exact hy
   ·exact h1 z hz
  ·split
   ·exact h
   ·rename_i hn he;have Ml:mT c y=true:=by
     rw[AQ] at hn⊢;by_cases ea:y.a=c.a
     ·by_cases eb:y.b=c.b
      ·exact absurd (by cases y;cases c;simp only at ea eb;rw[ea,eb]) he
      ·omega
     ·omega
    refine List.pairwise_cons.2 ⟨λz hz=>?_,h⟩;rcases List.mem_cons.1 hz with e|hz
    ·rw[e];exact Ml
    ·have:=h1 z hz;rw[AQ] at this Ml⊢;omega
def rI (l:List av):List av:=l.foldl eZ []
theorem Mm (l:List av) (c:av):rI (l++[c])=eZ (rI l) c:=by unfold rI;rw[List.foldl_append];rfl
theorem F7:∀(l:List av) (a:List av),a.Pairwise (λx y=>mT x y=true)->(l.foldl eZ a).Pairwise (λx y=>mT x y=true)/\∀x,x∈l.foldl eZ a↔x∈a\/x∈l
 |[],a,h=>⟨h,λx=>by simp⟩
 |c::l,a,h=>by
  obtain⟨h1,h2⟩:=F7 l (eZ a c) (DA h);refine⟨h1,λx=>?_⟩;rw[List.foldl_cons,h2,wM,List.mem_cons];constructor
  ·rintro((h|h)|h)<;>simp[h]
  ·rintro(h|h|h)<;>simp[h]
theorem u6 (c:av):∀a:List av,(eZ a c).length<=a.length+1
 |[]=>by simp[eZ]
 |y::a=>by
  have:=u6 c a;unfold eZ;split
  ·simp only[List.length_cons];omega
  ·split<;>simp
theorem T_ (l:List av): (rI l).length<=l.length:=by
 have:∀(l a:List av),(l.foldl eZ a).length<=a.length+l.length:=by
  intro l;induction l with
  |nil=>intro a;simp
  |cons c l ih=>
   intro a;have h1:=ih (eZ a c);have h2:=u6 c a;rw[List.foldl_cons,List.length_cons];omega
 have:=this l [];simpa[rI] using this
def qI (d:bG) (a b:av):Bool:=!d.same&&(decide (d.A=a/\d.B=b)||decide (d.A=b/\d.B=a))
theorem Mn (l:List bG) (a b:av):l.any (λd=>qI d a b)=(nT l a b||nT l b a):=by
 unfold nT;rw[Bool.eq_iff_iff,Bool.or_eq_true,List.any_eq_true,List.any_eq_true,List.any_eq_true];unfold qI;constructor
 ·rintro⟨d,hd,h⟩;rw[Bool.and_eq_true,Bool.or_eq_true] at h;rcases h.2 with h2|h2
  ·exact .inl ⟨d,hd,by rw[h.1,h2];rfl⟩
  ·exact .inr ⟨d,hd,by rw[h.1,h2];rfl⟩
 ·rintro(⟨d,hd,h⟩|⟨d,hd,h⟩)<;>rw[Bool.and_eq_true] at h<;>refine⟨d,hd,?_⟩<;>rw[h.1,h.2]<;>simp
noncomputable def fM (l:List aO) (ds:List bG):Int:=if gQ l≠0 then gQ l else lD ds
theorem nW {s:List av} {c:av} (h:c∈s): (0:Int)<=idxOf (λx=>decide (c=x)) s:=by have:=tI.2 h;rw[<-tH] at this;exact of_decide_eq_true this
theorem rJ {s:List av} {c:av} (h:c∉s):¬(0:Int)<=idxOf (λx=>decide (c=x)) s:=λe=>h (tI.1 (by rw[<-tH];exact decide_eq_true e))
theorem mj.put {l:List aO} {s zs:List av} (h:mj l s zs) (hs:zs.Pairwise λx y=>mT x y=true) {x:aO} (hx:x∈l) (hA:x.A∈s) (hB:x.B∈s) (hne: (x.A∈zs/\x.B∉zs)\/(x.A∉zs/\x.B∈zs)):
  mj l s (eZ (eZ zs x.A) x.B)/\((eZ (eZ zs x.A) x.B).Pairwise λx y=>mT x y=true)/\(eZ (eZ zs x.A) x.B).length=zs.length+1:=by
 obtain⟨r,hr,j5⟩:∃r,mj l s (zs++[r])/\∀y,y∈eZ (eZ zs x.A) x.B↔y∈zs++[r]:=by
  rcases hne with⟨h1,h2⟩|⟨h1,h2⟩
  ·refine⟨x.B,h.add hx hA hB (.inr ⟨rfl,h1⟩) h2,λy=>?_⟩;rw[wM,wM,List.mem_append,List.mem_singleton];exact⟨λe=>e.elim .inr (λe=>e.elim (λe=> .inl (e▸h1)) .inl),λe=>e.elim (λe=> .inr (.inr e)) .inl⟩
  ·refine⟨x.A,h.add hx hA hB (.inl ⟨rfl,h2⟩) h1,λy=>?_⟩;rw[wM,wM,List.mem_append,List.mem_singleton];exact⟨λe=>e.elim (λe=> .inl (e▸h2)) (λe=>e.elim .inr .inl),λe=>e.elim (λe=> .inr (.inr e)) (λe=> .inr (.inl e))⟩
 have Mp:=DA (c:=x.B) (DA (c:=x.A) hs);have iB: (eZ (eZ zs x.A) x.B).Nodup:=wv (Mp.imp λh=>by rw[AQ] at h;exact h);refine⟨⟨iB,λy hy=>hr.sub y ((j5 y).1 hy),(j5 _).2 hr.first,λy hy=>hr.same y ((j5 y).1 hy)⟩,Mp,?_⟩;have:=((List.perm_ext_iff_of_nodup iB hr.nd).2 j5).length_eq;rw[this,List.length_append];rfl
def kJ:List (List av)->List av->List (List av)
 |[],s=>[s]
 |p::out,s=>if fJ p s<0 then p::kJ out s else s::p::out
def jQ (sets:List (List av)):List (List av):=(gp sets).foldl kJ []
section
variable {out ys zs sets:List (List av)} {s:List av}
theorem Mq:∀{out:List (List av)} {k:Nat},k<=out.length->(∀i (hi:i<k) (h:i<out.length),fJ out[i] s<0)->(∀h:k<out.length,¬fJ out[k] s<0)->out.take k++s::out.drop k=kJ out s
 |[],k,hk,_,_=>by simp[kJ]
 |p::out,0,_,_,h2=>by
  have:=h2 (by simp);simp only[List.getElem_cons_zero] at this;simp[kJ,this]
 |p::out,k+1,hk,h1,h2=>by
  have h0:=h1 0 (by omega) (by simp);simp only[List.getElem_cons_zero] at h0;have ih:=Mq (out:=out) (k:=k) (by simpa using hk) (λi hi h=>by have:=h1 (i+1) (by omega) (by simpa using h);simpa using this) (λh=>by have:=h2 (by simpa using h);simpa using this);simp only[kJ,h0,if_true,List.take_succ_cons,List.drop_succ_cons,List.cons_append,ih]
theorem DB:∀(out:List (List av)) (s:List av),(kJ out s).Perm (s::out)
 |[],s=>List.Perm.refl _
 |p::out,s=>by
  unfold kJ;split
  ·exact((DB out s).cons p).trans (List.Perm.swap s p out)
  ·exact List.Perm.refl _
theorem Mr (out:List (List av)) (s:List av): (kJ out s).length=out.length+1:=by rw[(DB out s).length_eq];rfl
theorem Ua {x y z:List av} (h:fJ x y<=0) (h':fJ y z<=0):fJ x z<=0:=yP.2 x y z trivial trivial trivial h h'
theorem u7 (x y:List av):fJ x y<0↔0<fJ y x:=yP.1 x y trivial trivial
theorem Ms:∀{out:List (List av)},out.Pairwise (λp q=>fJ p q<=0)->(kJ out s).Pairwise λp q=>fJ p q<=0
 |[],_=>by simp[kJ]
 |p::out,h=>by
  obtain⟨h1,h2⟩:=List.pairwise_cons.1 h;unfold kJ;split
  ·rename_i hlt;refine List.pairwise_cons.2 ⟨λq hq=>?_,Ms h2⟩;rcases List.mem_cons.1 ((DB out s).mem_iff.1 hq) with e|hq
   ·subst e;omega
   ·exact h1 q hq
  ·rename_i hn;have hsp:fJ s p<=0:=by have:=u7 p s;omega
   refine List.pairwise_cons.2 ⟨λq hq=>?_,h⟩;rcases List.mem_cons.1 hq with e|hq
   ·subst e;exact hsp
   ·exact Ua hsp (h1 q hq)
theorem DC:∀(ys out:List (List av)),out.Pairwise (λp q=>fJ p q<=0)->(ys.foldl kJ out).Pairwise (λp q=>fJ p q<=0)/\(ys.foldl kJ out).Perm (out++ys)
 |[],out,h=>⟨h,by simp⟩
 |y::ys,out,h=>by
  obtain⟨h1,h2⟩:=DC ys (kJ out y) (Ms h);refine⟨h1,h2.trans (((DB out y).append_right ys).trans ?_)⟩;exact(List.perm_middle (l₁:=out) (l₂:=ys) (a:=y)).symm
theorem Ub (ys:List (List av)): (ys.foldl kJ []).length=ys.length:=by have:=(DC ys [] List.Pairwise.nil).2.length_eq;simpa using this
theorem DE (hp:ys.Perm zs) (hz:zs.Pairwise λp q=>fJ p q<0):ys.foldl kJ []=zs:=by
 obtain⟨h1,h2⟩:=DC ys [] List.Pairwise.nil;have Mt: (ys.foldl kJ []).Perm zs:=h2.trans (by simpa using hp);refine List.Perm.eq_of_pairwise (le:=λp q=>fJ p q<=0) (λa b ha hb h3 h4=>?_) h1 (hz.imp λh=>by omega) Mt;have ha:=Mt.mem_iff.1 ha;obtain⟨i,hi,rfl⟩:=List.getElem_of_mem ha;obtain⟨j,hj,rfl⟩:=List.getElem_of_mem hb;rcases Nat.lt_trichotomy i j with h|h|h
 ·have:=List.pairwise_iff_getElem.1 hz i j hi hj h;have h5:=u7 zs[i] zs[j];omega
 ·subst h;rfl
 ·have:=List.pairwise_iff_getElem.1 hz j i hj hi h;have h5:=u7 zs[j] zs[i];omega
theorem tM (h:ys.Pairwise λp q=>dV (p.headD ⟨0,0⟩) (q.headD ⟨0,0⟩)):ys.Pairwise λp q=>fJ p q<0:=h.imp λh=>sq.2 h
theorem Uc {l:List aO} {ds:List bG} (h:e8 l ds ys):gp ys=ys:=List.filter_eq_self.2 λp hp=>decide_eq_true (h.len p hp)
theorem Ud {l:List aO} {ds:List bG} (h:e8 l ds ys):jQ ys=ys:=by
 unfold jQ;rw[Uc h];exact DE (List.Perm.refl _) (tM h.heads)
theorem AU {l:List aO} {ds:List bG} (h:e8 l ds zs) (hs:fk fJ ys zs):jQ ys=zs:=by
 have hb:gp ys=ys:=List.filter_eq_self.2 λp hp=>decide_eq_true (h.len p (hs.perm.mem_iff.2 hp));unfold jQ;rw[hb];exact DE hs.perm.symm (tM h.heads)
end
def pn (l:List aO) (st:gX) (sets:List (List av)):gX:=
 if sets.all (j6 l)=true/\(st.found=false\/st.val<eN l sets) then⟨true,sets,eN l sets⟩ else st
def qb (l:List aO) (ds:List bG) (rs:List av) (sets:List (List av)) (st:gX):gX:=(ny ds rs sets).foldl (pn l) st
def nC (l:List aO) (ds:List bG) (r:av) (rs:List av) (sets:List (List av)) (st:gX):Nat->gX
 |0=>st
 |k+1=>if mP ds (sets.getD k []) r then qb l ds rs (sets.set k (sets.getD k []++[r])) (nC l ds r rs sets st k) else nC l ds r rs sets st k
theorem Mu (l:List aO) (ds:List bG) (r:av) (rs:List av) (sets:List (List av)) (st:gX):∀k,nC l ds r rs sets st k=((List.range k).flatMap λk=>if mP ds (sets.getD k []) r then ny ds rs (sets.set k (sets.getD k []++[r])) else[]).foldl (pn l) st
 |0=>rfl
 |k+1=>by
  rw[List.range_succ,List.flatMap_append,List.foldl_append,<-Mu l ds r rs sets st k,nC];simp only[List.flatMap_cons,List.flatMap_nil,List.append_nil];split
  ·rfl
  ·rfl
theorem F8 (l:List aO) (ds:List bG) (r:av) (rs:List av) (sets:List (List av)) (st:gX):qb l ds (r::rs) sets st=qb l ds rs (sets++[[r]]) (nC l ds r rs sets st sets.length):=by
 unfold qb;rw[ny,List.foldl_append,<-Mu]
section
variable {l:List aO} {ds:List bG} {sets:List (List av)} {a b:gX}
theorem Ue (x:av):j6 l [x]=true:=by simp[j6]
theorem Uf (hne:∀x∈l,x.A≠x.B) (sets:List (List av)):eN l (gp sets)=eN l sets:=by
 unfold eN;refine congrArg (λq:List aO=>(q.map (·.w)).sum) (List.filter_congr λx hx=>?_);rw[Bool.eq_iff_iff,List.any_eq_true,List.any_eq_true];constructor
 ·rintro⟨p,hp,h⟩;exact⟨p,(List.mem_filter.1 hp).1,h⟩
 ·rintro⟨p,hp,h⟩;have h2:x.A∈p/\x.B∈p:=of_decide_eq_true h;exact⟨p,List.mem_filter.2 ⟨hp,decide_eq_true (Ty h2.1 h2.2 (hne x hx))⟩,h⟩
theorem Ug (hs:∀s∈sets,s≠[]):sets.all (j6 l)=mQ l sets:=by
 unfold mQ;rw[Bool.eq_iff_iff,List.all_eq_true,List.all_eq_true];constructor
 ·exact λh s hm=>h s (List.mem_filter.1 hm).1
 ·intro h s hm;by_cases e:2<=s.length
  ·exact h s (List.mem_filter.2 ⟨hm,decide_eq_true e⟩)
  ·match s,hs s hm,e with
   |[x],_,_=>exact Ue x
   |[],h0,_=>exact absurd rfl h0
   |x::y::t,_,e=>simp at e
def AV (a b:gX):Prop:=a.found=b.found/\gp a.best=b.best/\a.val=b.val
theorem Uh (hne:∀x∈l,x.A≠x.B) (hs:∀s∈sets,s≠[]) (h:AV a b):AV (pn l a sets) (lR l b sets):=by
 obtain⟨h1,h2,h3⟩:=h;unfold pn lR;rw[Ug hs,h1,h3,Uf hne];split
 ·exact⟨rfl,rfl,rfl⟩
 ·exact⟨h1,h2,h3⟩
theorem Mv (hne:∀x∈l,x.A≠x.B):∀(L:List (List (List av))) {a b:gX},(∀sets∈L,∀s∈sets,s≠[])->AV a b->AV (L.foldl (pn l) a) (L.foldl (lR l) b)
 |[],_,_,_,h=>h
 |x::L,_,_,hs,h=>Mv hne L (λs hm=>hs s (List.mem_cons_of_mem _ hm)) (Uh hne (hs x List.mem_cons_self) h)
theorem Ui (hne:∀x∈l,x.A≠x.B) (ds:List bG):jQ (qb l ds (aW l) [] o_).best=nU l ds:=by
 have h:AV (qb l ds (aW l) [] o_) (p9 l ds (aW l) [] o_):=Mv hne _ (λs hs=>(AJ jP.nil s hs).ne) ⟨rfl,rfl,rfl⟩;have he:nU l ds=gp (qb l ds (aW l) [] o_).best:=h.2.1.symm;have hP:=FU l ds;unfold jQ;rw[<-he];exact DE (List.Perm.refl _) (tM hP.heads)
end
def yQ (l:List aO) (i:Nat):Int:=(l.getD i ⟨⟨0,0⟩,⟨0,0⟩,0⟩).w
def hv (l:List aO) (i k:Nat):Prop:=yQ l k<yQ l i\/yQ l i=yQ l k/\i<k
instance (l:List aO) (i k:Nat):Decidable (hv l i k):=by unfold hv;infer_instance
structure Ord (l:List aO) (is:List Nat):Prop where
 nd:is.Nodup
 lt:∀i∈is,i<l.length
 pw:is.Pairwise (hv l)
 rest:∀i∈is,∀q,q<l.length->q∉is->hv l i q
structure qJ (l:List aO) (is:List Nat) (i:Nat) (b:Int):Prop where
 none_:b<0->b= -1/\∀q,q<i->q∈is
 some_:0<=b->b.toNat<i/\b.toNat∉is/\∀q,q<i->q∈is\/q=b.toNat\/hv l b.toNat q
section
variable {l:List aO} {is:List Nat} {i:Nat} {b:Int}
theorem u9 (h:i<l.length):yQ l i=l[i].w:=by unfold yQ;rw[List.getD_eq_getElem?_getD,List.getElem?_eq_getElem h];rfl
theorem Uj {i j k:Nat} (h:hv l i j) (h':hv l j k):hv l i k:=by unfold hv at*;omega
theorem Ord.nil:Ord l []:=⟨List.nodup_nil,λi h=>by(cases h),List.Pairwise.nil,λi h=>by(cases h)⟩
theorem qJ.start:qJ l is 0 (-1):=⟨λ_=>⟨rfl,λq h=>by omega⟩,λh=>by omega⟩
theorem qJ.skip (h:qJ l is i b) (h1:i∈is\/0<=b/\¬hv l i b.toNat):qJ l is (i+1) b:=by
 refine⟨λe=>⟨(h.none_ e).1,λq hq=>?_⟩,λe=>?_⟩
 ·by_cases eq:q=i
  ·subst eq;exact h1.resolve_right (λh=>by omega)
  ·exact(h.none_ e).2 q (by omega)
 ·obtain⟨a1,a2,a3⟩:=h.some_ e;refine⟨by omega,a2,λq hq=>?_⟩;by_cases eq:q=i
  ·subst eq;rcases h1 with h1|⟨_,h1⟩
   ·exact .inl h1
   ·refine .inr (.inr ?_);unfold hv at*;omega
  ·exact a3 q (by omega)
theorem qJ.take (h:qJ l is i b) (h1:i∉is) (h2:b<0\/hv l i b.toNat):qJ l is (i+1) i:=by
 refine⟨λe=>by omega,λ_=>?_⟩;rw[Int.toNat_natCast];refine⟨by omega,h1,λq hq=>?_⟩;by_cases eq:q=i
 ·exact .inr (.inl eq)
 ·rcases h2 with h2|h2
  ·exact .inl ((h.none_ h2).2 q (by omega))
  ·by_cases hb:b<0
   ·exact .inl ((h.none_ hb).2 q (by omega))
   ·rcases(h.some_ (by omega)).2.2 q (by omega) with h3|h3|h3
    ·exact .inl h3
    ·subst h3;exact .inr (.inr h2)
    ·exact .inr (.inr (Uj h2 h3))
theorem Ord.full (h:Ord l is) (hn:∀q,q<l.length->q∈is):l.length<=is.length:=by
 have:=List.nodup_range.length_le_of_subset (l₁:=List.range l.length) (l₂:=is) (λq hq=>hn q (List.mem_range.1 hq));rwa [List.length_range] at this
theorem Ord.some (h:Ord l is) (hl:is.length<l.length) (hb:qJ l is l.length b):0<=b:=by
 apply Classical.byContradiction;intro hn;have:=h.full (hb.none_ (by omega)).2;omega
theorem Ord.add (h:Ord l is) (h0:0<=b) (hb:qJ l is l.length b):Ord l (is++[b.toNat]):=by
 obtain⟨a1,a2,a3⟩:=hb.some_ h0;refine⟨List.nodup_append.2 ⟨h.nd,by simp,λx hx y hy e=>?_⟩,λi hi=>?_,List.pairwise_append.2 ⟨h.pw,by simp,λx hx y hy=>?_⟩,λi hi q hq hn=>?_⟩
 ·rw[List.mem_singleton] at hy;subst hy;subst e;exact a2 hx
 ·rcases List.mem_append.1 hi with hi|hi
  ·exact h.lt i hi
  ·rw[List.mem_singleton] at hi;omega
 ·rw[List.mem_singleton] at hy;subst hy;exact h.rest x hx _ a1 a2
 ·rw[List.mem_append,List.mem_singleton] at hn;rcases List.mem_append.1 hi with hi|hi
  ·exact h.rest i hi q hq (λe=>hn (.inl e))
  ·rw[List.mem_singleton] at hi;subst hi;rcases a3 q hq with h3|h3|h3
   ·exact absurd (.inl h3) hn
   ·exact absurd (.inr h3) hn
   ·exact h3
def sG (l:List aO) (i:Nat):aO:=l.getD i ⟨⟨0,0⟩,⟨0,0⟩,0⟩
theorem F9 (h:i<l.length):sG l i=l[i]:=by unfold sG;rw[List.getD_eq_getElem?_getD,List.getElem?_eq_getElem h];rfl
theorem Ord.fin (h:Ord l is) (hl:is.length=l.length):fk gF l (is.map (sG l)):=by
 have hL: ((is.pmap (λi h=>(⟨i,h⟩:Fin l.length)) h.lt).map λi=>l[i.val])=is.map (sG l):=by
  rw[List.map_pmap];apply List.ext_getElem
  ·simp
  ·intro k h1 h2;rw[List.getElem_pmap,List.getElem_map];exact(F9 (h.lt _ (List.getElem_mem _))).symm
 rw[<-hL];refine fk.F6 ((List.perm_ext_iff_of_nodup ?_ (List.nodup_finRange _)).2 λx=>⟨λ_=>List.mem_finRange x,λ_=>?_⟩) ?_
 ·exact(List.pairwise_pmap h.lt).2 (h.nd.imp λhne _ _ e=>hne (by injection e))
 ·rw[List.mem_pmap];refine⟨x.val,?_,rfl⟩;apply Classical.byContradiction;intro hn;have h1: (x.val::is).Nodup:=List.nodup_cons.2 ⟨hn,h.nd⟩;have h2:=h1.length_le_of_subset (l₂:=List.range l.length) (λi hi=>List.mem_range.2 (by
   rcases List.mem_cons.1 hi with e|e
   ·subst e;exact x.isLt
   ·exact h.lt i e))
  rw[List.length_range,List.length_cons] at h2;omega
 ·refine(List.pairwise_pmap h.lt).2 (h.pw.imp λ{i k} hik hi hk=>?_);refine⟨hi,hk,?_⟩;unfold gF;unfold hv at hik;rw[u9 hi,u9 hk] at hik;rcases hik with e|⟨e,e2⟩
  ·exact .inl (Df.2 e)
  ·exact .inr ⟨Dj.2 e.symm,e2⟩
def nX (l:List aO) (is:List Nat):List Bool:=(List.range l.length).map λi=>decide (i∈is)
theorem Uk:List.replicate l.length false=nX l []:=by
 apply List.ext_getElem
 ·simp[nX]
 ·intro i h1 h2;simp[nX]
theorem tN (l:List aO) (is:List Nat): (nX l is).length=l.length:=by simp[nX]
theorem AW (h:i<(nX l is).length): (nX l is)[i]=decide (i∈is):=by simp[nX]
theorem Ul (l:List aO) (is:List Nat) (k:Nat): (nX l is).set k true=nX l (is++[k]):=by
 apply List.ext_getElem
 ·simp[nX]
 ·intro i h1 h2;rw[List.getElem_set,AW,AW];by_cases e:k=i
  ·rw[if_pos e];subst e;simp
  ·rw[if_neg e,decide_eq_decide,List.mem_append,List.mem_singleton];exact⟨.inl,λh=>h.resolve_right (λe2=>e e2.symm)⟩
end
def yR (ds:List bG) (p q:List av):Bool:=p.all λx=>q.all λy=>!eC ds x y
def sH (ds:List bG) (sets:List (List av)) (b:aO):List (List av):=
 let i:=(nN sets b.A).toNat
 let k:=(nN sets b.B).toNat
 if nN sets b.A=nN sets b.B then sets else if yR ds (sets.getD i []) (sets.getD k [])=true then(sets.set i ((sets.getD k []).foldl eZ (sets.getD i []))).set k [] else sets
structure mU (refs:List av) (g:av->List av) (sets:List (List av)):Prop where
 Mw:∀r∈refs,∃i,∃h:i<sets.length,r∈sets[i]
 eq:∀i (h:i<sets.length),∀r∈sets[i],r∈refs/\sets[i]=iq (g r)
 sI:∀i j (hi:i<sets.length) (hj:j<sets.length) (r:av),r∈sets[i]->r∈sets[j]->i=j
section
variable {refs:List av} {g:av->List av} {sets:List (List av)} {l:List aO} {ds:List bG} {b:aO}
theorem Um {p q p' q':List av} (hp:∀r,r∈p↔r∈p') (hq:∀r,r∈q↔r∈q'):yR ds p q=!sE ds p' q':=by
 unfold yR sE;rw[Bool.eq_iff_iff,Bool.not_eq_true',List.all_eq_true,List.any_eq_false];constructor
 ·intro h r hr;rw[Bool.not_eq_true,List.any_eq_false];intro o ho;have:=List.all_eq_true.1 (h r ((hp r).2 hr)) o ((hq o).2 ho);simpa using this
 ·intro h r hr;rw[List.all_eq_true];intro o ho;have:=h r ((hp r).1 hr);rw[Bool.not_eq_true,List.any_eq_false] at this;simpa using this o ((hq o).1 ho)
theorem mU.start (refs:List av) (hn:refs.Nodup):mU refs (λr=>[r]) (refs.map λr=>[r]):=by
 refine⟨λr hr=>?_,λi h r hr=>?_,λi j hi hj r h1 h2=>?_⟩
 ·obtain⟨i,hi,rfl⟩:=List.getElem_of_mem hr;exact⟨i,by simpa using hi,by simp⟩
 ·rw[List.getElem_map,List.mem_singleton] at hr;rw[List.getElem_map];subst hr;exact⟨List.getElem_mem _,by simp[iq]⟩
 ·rw[List.getElem_map,List.mem_singleton] at h1 h2;have hi':i<refs.length:=by simpa using hi
  have hj':j<refs.length:=by simpa using hj
  rcases Nat.lt_trichotomy i j with h|h|h
  ·exact absurd (h1.symm.trans h2) (List.pairwise_iff_getElem.1 (List.nodup_iff_pairwise_ne.1 hn) i j hi' hj' h)
  ·exact h
  ·exact absurd (h2.symm.trans h1) (List.pairwise_iff_getElem.1 (List.nodup_iff_pairwise_ne.1 hn) j i hj' hi' h)
theorem mU.find (h:mU refs g sets) {r:av} (hr:r∈refs):∃i:Nat,∃hi:i<sets.length,nN sets r=i/\r∈sets[i]/\sets[i]=iq (g r):=by
 obtain⟨i,hi,hm⟩:=h.Mw r hr;refine⟨i,hi,wD hi (λj hj=>Bool.eq_false_iff.2 λhp=>?_) (tI.2 hm),hm,(h.eq i hi r hm).2⟩;have:=h.sI j i (by omega) hi r (tI.1 hp) hm;omega
theorem Mx {x y:av}:mT x y=true↔dV x y:=by rw[AQ];rfl
theorem Un {p q:List av} (hp:p.Pairwise dV) {both:List av} (hn:both.Nodup) (hm:∀r,r∈both↔r∈p\/r∈q):q.foldl eZ p=iq both:=by
 obtain⟨h1,h2⟩:=F7 q p (hp.imp λh=>Mx.2 h);refine An (h1.imp λh=>Mx.1 h) (AL _ hn) λr=>?_;rw[h2,j9,hm]
theorem mU.step (j7:iQ l ds g) (h:mU refs g sets) (hA:b.A∈refs) (hB:b.B∈refs):mU refs (nA ds g b) (sH ds sets b)/\(sH ds sets b).length=sets.length:=by
 obtain⟨i,hi,e1,m1,s1⟩:=h.find hA;obtain⟨k,hk,e2,m2,s2⟩:=h.find hB;have hik:i=k↔b.B∈g b.A:=by
  constructor
  ·intro e;subst e;rw[s1,j9] at m2;exact m2
  ·intro e;exact h.sI i k hi hk b.B (by rw[s1,j9];exact e) m2
 unfold sH;simp only[e1,e2,Int.toNat_natCast];by_cases Ga:i=k
 ·rw[if_pos (by rw[Ga]),Dy (.inl (hik.1 Ga))];exact⟨h,rfl⟩
 ·have My:b.B∉g b.A:=λe=>Ga (hik.2 e);rw[if_neg (by omega),nP hi,nP hk,Um (p':=g b.A) (q':=g b.B) (λr=>by rw[s1,j9]) (λr=>by rw[s2,j9])];by_cases es:sE ds (g b.A) (g b.B)=true
  ·rw[if_neg (by rw[es];decide),Dy (.inr es)];exact⟨h,rfl⟩
  ·rw[if_pos (by rw[Bool.not_eq_true] at es;rw[es];rfl)];have hst:nA ds g b=λr=>if r∈g b.A++g b.B then g b.A++g b.B else g r:=by
    unfold nA;rw[if_neg (λe=>e.elim My es)]
   have hap:=j7.apart My;have iB: (g b.A++g b.B).Nodup:=List.nodup_append.2 ⟨j7.nd _,j7.nd _,λx hx y hy e=>hap x hx (e▸hy)⟩;have gI:sets[k].foldl eZ sets[i]=iq (g b.A++g b.B):=Un (by rw[s1];exact AL _ (j7.nd _)) iB (λr=>by rw[List.mem_append,s1,s2,j9,j9]);rw[hst,gI];refine⟨⟨λr hr=>?_,λj hj r hr=>?_,λj1 j2 h1 h2 r AX j5=>?_⟩,by simp⟩
   ·obtain⟨j,hj,hm⟩:=h.Mw r hr;by_cases hjk:j=k
    ·subst hjk;refine⟨i,by simpa using hi,?_⟩;rw[List.getElem_set_ne (by omega),List.getElem_set_self,j9,List.mem_append];rw[s2,j9] at hm;exact .inr hm
    ·by_cases hji:j=i
     ·subst hji;refine⟨j,by simpa using hi,?_⟩;rw[List.getElem_set_ne (by omega),List.getElem_set_self,j9,List.mem_append];rw[s1,j9] at hm;exact .inl hm
     ·exact⟨j,by simpa using hj,by rw[List.getElem_set_ne (by omega),List.getElem_set_ne (by omega)];exact hm⟩
   ·have hj':j<sets.length:=by simpa using hj
    by_cases hjk:j=k
    ·subst hjk;rw[List.getElem_set_self] at hr;cases hr
    ·rw[List.getElem_set_ne (by omega)] at hr⊢;by_cases hji:j=i
     ·subst hji;rw[List.getElem_set_self] at hr⊢;rw[j9] at hr;refine⟨?_,by rw[if_pos hr]⟩;rcases List.mem_append.1 hr with hr|hr
      ·exact(h.eq j hi r (by rw[s1,j9];exact hr)).1
      ·exact(h.eq k hk r (by rw[s2,j9];exact hr)).1
     ·rw[List.getElem_set_ne (by omega)] at hr⊢;obtain⟨h3,h4⟩:=h.eq j hj' r hr;refine⟨h3,?_⟩;rw[if_neg (λhm=>?_)];exact h4;rcases List.mem_append.1 hm with hm|hm
      ·exact hji (h.sI j i hj' hi r hr (by rw[s1,j9];exact hm))
      ·exact hjk (h.sI j k hj' hk r hr (by rw[s2,j9];exact hm))
   ·have key:∀j (hj:j<((sets.set i (iq (g b.A++g b.B))).set k []).length),r∈((sets.set i (iq (g b.A++g b.B))).set k [])[j]->j≠k/\((j=i/\(r∈sets[i]\/r∈sets[k]))\/(j≠i/\∃hj':j<sets.length,r∈sets[j])):=λj hj hr=>by
     have hj':j<sets.length:=by simpa using hj
     by_cases hjk:j=k
     ·subst hjk;rw[List.getElem_set_self] at hr;cases hr
     ·rw[List.getElem_set_ne (by omega)] at hr;refine⟨hjk,?_⟩;by_cases hji:j=i
      ·subst hji;rw[List.getElem_set_self,j9,List.mem_append] at hr;exact .inl ⟨rfl,by rw[s1,s2,j9,j9];exact hr⟩
      ·rw[List.getElem_set_ne (by omega)] at hr;exact .inr ⟨hji,hj',hr⟩
    obtain⟨n1,c1⟩:=key j1 h1 AX;obtain⟨n2,c2⟩:=key j2 h2 j5;rcases c1 with⟨a1,c1⟩|⟨a1,b1,c1⟩<;>rcases c2 with⟨a2,c2⟩|⟨a2,b2,c2⟩
    ·omega
    ·rcases c1 with c1|c1
     ·exact absurd (h.sI j2 i b2 hi r c2 c1) a2
     ·exact absurd (h.sI j2 k b2 hk r c2 c1) n2
    ·rcases c2 with c2|c2
     ·exact absurd (h.sI j1 i b1 hi r c1 c2) a1
     ·exact absurd (h.sI j1 k b1 hk r c1 c2) n1
    ·exact h.sI j1 j2 b1 b2 r c1 c2
theorem mU.fold:∀(ord:List aO) {g:av->List av} {sets:List (List av)},(∀b∈ord,b∈l)->iQ l ds g->mU (aW l) g sets->mU (aW l) (ord.foldl (nA ds) g) (ord.foldl (sH ds) sets)/\(ord.foldl (sH ds) sets).length=sets.length
 |[],_,_,_,_,h=>⟨h,rfl⟩
 |b::ord,g,sets,ho,j7,h=>by
  have hb:=ho b List.mem_cons_self;obtain⟨h1,h2⟩:=h.step j7 (jM.2 ⟨b,hb,.inl rfl⟩) (jM.2 ⟨b,hb,.inr rfl⟩);obtain⟨h3,h4⟩:=mU.fold ord (λx hx=>ho x (List.mem_cons_of_mem _ hx)) (j7.step hb) h1;exact⟨h3,by rw[List.foldl_cons,h4,h2]⟩
theorem mU.out (j7:iQ l ds g) (h:mU (aW l) g sets):jQ sets=k5 (aW l) g:=by
 have hP:=j7.out (tB l);refine DE ?_ (tM hP.heads);have hz: (k5 (aW l) g).Nodup:=List.nodup_iff_pairwise_ne.2 ((tM hP.heads).imp λ{p q} hlt e=>by subst e;have:=u7 p p;omega);have hy: (gp sets).Nodup:=by
  unfold gp;rw[List.nodup_iff_pairwise_ne,List.pairwise_filter,List.pairwise_iff_getElem];intro i j hi hj hij h1 h2 e;have h1:2<=sets[i].length:=of_decide_eq_true h1;have hm:=List.getElem_mem (l:=sets[i]) (n:=0) (by omega);have:=h.sI i j hi hj _ hm (e▸hm);omega
 refine(List.perm_ext_iff_of_nodup hy hz).2 λs=>?_;unfold gp k5;rw[List.mem_filter,List.mem_map];constructor
 ·rintro⟨hs,h2⟩;have h2:2<=s.length:=of_decide_eq_true h2;obtain⟨i,hi,rfl⟩:=List.getElem_of_mem hs;obtain⟨r,hr⟩:∃r,sets[i].head?=some r:=by
   rw[List.head?_eq_getElem?,List.getElem?_eq_getElem (by omega)];exact⟨_,rfl⟩
  have hm:r∈sets[i]:=List.mem_of_mem_head? hr;obtain⟨h3,h4⟩:=h.eq i hi r hm;refine⟨r,List.mem_filter.2 ⟨h3,?_⟩,h4.symm⟩;unfold mR;rw[decide_eq_true_eq,<-h4];exact⟨by omega,hr⟩
 ·rintro⟨r,hr,rfl⟩;obtain⟨h1,h2⟩:=List.mem_filter.1 hr;unfold mR at h2;have h2:=of_decide_eq_true h2;obtain⟨i,hi,_,_,h4⟩:=h.find h1;exact⟨h4▸List.getElem_mem hi,decide_eq_true (by omega)⟩
theorem Uo {is:List Nat} (h:Ord l is) (hl:is.length=l.length):jQ ((is.map (sG l)).foldl (sH ds) ((aW l).map λr=>[r]))=lE l ds:=by
 have hS:=h.fin hl;have e:=hS.eq p_ (λ_ _=>trivial);have hsub:∀b∈is.map (sG l),b∈l:=λb hb=>hS.sub b hb;obtain⟨h1,_⟩:=mU.fold (ds:=ds) _ hsub (iQ.start) (mU.start (aW l) (tC l));have h2:=h1.out (iQ.fold _ iQ.start hsub);rw[h2];unfold lE dh;rw[e]
end
section
variable {α:Type} [bg α] {P:Program} {N:Nat} {env:Env} {w:World} {C:Nat->Nat} {t e:TypeId} {s v:Value} {y z:Operand} {zs:List α} {j:Nat}
theorem Gb {bytes:Nat} (hF:aM w C) (hj:j≠0) (hx:ev env y=some (.slice none 0 0)) (hy:ev env z=some s) (hrow:om P t e (sz α) bytes=true) (hsz:0<sz α)
  (hsrc:aG w (aB C) zs s) (hlen:zs.length*bytes<=140737488355328) (h63:zs.length<=140737488355328):
  gZ P N env (.call {callee:=.builtin .append,args:=#[y,z],argTypes:=#[t,t]}) w (λv' w'=>∃aP,ay [] w C w' aP/\bn w' aP j e v' zs/\aM w' aP/\∀b,cI v' b->w.heap.size<=b):=λa ha eY gu=>by
 have DF:bn w C j e (.slice none 0 0) ([]:List α):=bn.nil;have hno:∀b,¬cI (.slice none 0 0) b:=λb h=>by cases h
 obtain⟨v',w',h1,h2,h3,h4⟩:=ER (P:=P) (N:=N) hx hy hrow hsz DF.own hsrc (by simpa using hlen) (by simpa using h63) a ha eY gu;rw[List.nil_append] at h2;have hnew:∀b,cI v' b->w.heap.size<=b:=λb hb=>(h4 b hb).resolve_left (hno b);have kr:∀b,b<w.heap.size->gj C v' j b=C b:=λb hb=>by
  unfold gj;split
  ·rename_i e;have:=hnew b e;omega
  ·rfl
 refine⟨v',w',h1,gj C v' j,⟨h3.mono (λb _ hb=>absurd hb (hno b)),kr⟩,⟨h2.sub (λb hb hc=>?_) (λb hb=>?_),λb hb=>?_⟩,λb hb=>?_,hnew⟩
 ·by_cases ho:cI v' b
  ·exact .inl ho
  ·right;unfold aB gj at hc;rw[if_neg (show¬v'.ownBlock=some b from ho)] at hc;exact hc
 ·unfold aB gj;rw[if_pos (show v'.ownBlock=some b from hb)];exact hj
 ·unfold gj;rw[if_pos (show v'.ownBlock=some b from hb)]
 ·by_cases ho:cI v' b
  ·exact(h2.fA b ho).2
  ·unfold gj at hb;rw[if_neg (show¬v'.ownBlock=some b from ho)] at hb;exact Nat.lt_of_lt_of_le (hF b hb) h3.size
end
section
variable {α:Type} [bg α] {w:World} {C:Nat->Nat} {e oA:TypeId} {v:Value} {us:List Value} {rows:List (List α)} {j n:Nat}
theorem eT.Up (h:eT w C j e us rows):∀k (hk:k<us.length),us[k].oneCell'=true:=λk hk=>((h.own k hk (by rw[<-h.len];exact hk)).one).2
theorem eT.Mz (h:eT w C j e us rows) (hj:n<=j) (hl:∀r∈rows,r.length<=9223372036854775807):∀k (hk:k<us.length) (hk':k<rows.length),aG w (aB (K.bO n C)) rows[k] us[k]:=λk hk hk'=>(h.own k hk hk').bO hj (hl _ (List.getElem_mem _))
theorem Gc (ho:bn w C 6 oA v (us.map fL.mk)) (hr:eT w C 7 e us rows) (hl:∀r∈rows,r.length<=9223372036854775807) (hn:rows.length<=9223372036854775807):aG w (aB (K.bO 6 C)) rows v:=by
 have h1:=hr.len;have h2:aG w (aB (K.bO 6 C)) (us.map fL.mk) v:=ho.bO (by decide) (by rw[List.length_map];omega);refine aG.Fi h2 rfl (by rw[List.length_map];exact h1.symm) λi hi hi2=>?_;rw[List.getElem_map];exact hr.Mz (by decide) hl i (by rw[h1];exact hi) hi
theorem Gd {s:Value} {x:List α} (ho:bn w C 6 oA v ((us.map fL.mk)++[⟨s⟩])) (hr:eT w C 7 e us rows) (hs:aG w (aB (K.bO 6 C)) x s) (hl:∀r∈rows,r.length<=9223372036854775807) (hn:rows.length<=922337203685477580):aG w (aB (K.bO 6 C)) (rows++[x]) v:=by
 have h1:=hr.len;have h2:aG w (aB (K.bO 6 C)) ((us.map fL.mk)++[⟨s⟩]) v:=ho.bO (by decide) (by simp;omega);refine aG.Fi h2 rfl (by simp[h1]) λi hi hi2=>?_;by_cases e:i<us.length
 ·rw[List.getElem_append_left (by omega),List.getElem_append_left (by rw[List.length_map];exact e),List.getElem_map];exact hr.Mz (by decide) hl i e (by omega)
 ·have:i=us.length:=by simp at hi2;omega
  subst this;rw[List.getElem_append_right (by omega),List.getElem_append_right (by simp)];simpa[h1] using hs
theorem dN.Uq {w:World} {C:Nat->Nat} {j b n:Nat} {fA:Obj} (h:dN w C j b fA) (hj:n<=j):dN w (K.bO n C) 0 b fA:=⟨by unfold K.bO;rw[h.col,if_pos hj],h.at_⟩
theorem MA {s:List av} {p:av->Bool} {k:Nat} (hk:k<s.length): (!(s.take (k+1)).any p)=((!(s.take k).any p)&&!p s[k]):=by
 rw[List.take_succ_eq_append_getElem hk,List.any_append];simp
end
def nY (n:Nat) (C aP:Nat->Nat):Nat->Nat:=λb=>if b<n then C b else if aP b=6\/aP b=7 then aP b else 0
section
variable {α:Type} [bg α] {w w':World} {C aP:Nat->Nat} {e:TypeId} {v:Value} {ys:List α} {us:List Value} {rows:List (List α)} {j:Nat}
theorem ay.nY (h:ay [6,7] w (bE C) w' aP):ay [] w C w' (K.nY w.heap.size C aP):=
 ⟨h.ext.mono (λb _ hc=>by
  simp only[List.mem_cons,List.not_mem_nil,or_false] at hc⊢;unfold K.bE at hc;split at hc<;>omega),λb hb=>by unfold K.nY;rw[if_pos hb]⟩
theorem MB (h:ay [6,7] w (bE C) w' aP):∀b,aB (nY w.heap.size C aP) b->aB aP b:=λb hb=>by
 unfold aB K.nY at*;by_cases hlt:b<w.heap.size
 ·rw[if_pos hlt] at hb;rw[h.col b hlt];unfold bE;rw[if_neg hb];decide
 ·rw[if_neg hlt] at hb;split at hb<;>omega
theorem ay.Ur (h:ay [6,7] w (bE C) w' aP) (hF:aM w C) (F2:aM w' aP):aM w' (K.nY w.heap.size C aP):=λb hb=>F2 b (MB h b hb)
theorem MC (h:ay [6,7] w (bE C) w' aP) {b:Nat} (hj:j=6\/j=7) (hb:aP b=j):nY w.heap.size C aP b=j:=by
 unfold K.nY;by_cases hlt:b<w.heap.size
 ·have h1:=h.col b hlt;rw[hb] at h1;unfold bE at h1;split at h1<;>omega
 ·rw[if_neg hlt,hb,if_pos hj]
theorem bn.nY (ho:bn w' aP j e v ys) (h:ay [6,7] w (bE C) w' aP) (hF:aM w C) (hj:j=6\/j=7):bn w' (K.nY w.heap.size C aP) j e v ys:=
 ⟨ho.own.sub (λb _ hb=>MB h b hb) (λb hb=>by unfold aB;rw[MC h hj (ho.col b hb)];omega),λb hb=>MC h hj (ho.col b hb)⟩
theorem eT.nY (hr:eT w' aP j e us rows) (h:ay [6,7] w (bE C) w' aP) (hF:aM w C) (hj:j=6\/j=7):eT w' (K.nY w.heap.size C aP) j e us rows:=⟨hr.len,λk h1 h2=>(hr.own k h1 h2).nY h hF hj,hr.rH⟩
end
section
variable {l:List aO} {ds:List bG} {r:av} {rs:List av} {rows:List (List av)} {st:gX} {k:Nat}
theorem DG (l:List aO) (ds:List bG) (sets:List (List av)) (st:gX):qb l ds [] sets st=pn l st sets:=rfl
theorem Us (hk:k<rows.length) (h:mP ds rows[k] r=true) (rs:List av):nC l ds r rs rows st (k+1)=qb l ds rs (rows.set k (rows[k]++[r])) (nC l ds r rs rows st k):=by
 rw[nC,nP hk,if_pos h]
theorem Ut (hk:k<rows.length) (h:mP ds rows[k] r=false) (rs:List av):nC l ds r rs rows st (k+1)=nC l ds r rs rows st k:=by
 rw[nC,nP hk,if_neg (by rw[h];decide)]
theorem Uu {q:Nat} (hq:q<rows.length) (h:j6 l rows[q]=false):pn l st rows=st:=by
 unfold pn;rw[if_neg];rintro⟨h2,_⟩;have:=List.all_eq_true.1 h2 _ (List.getElem_mem hq);rw[h] at this;cases this
theorem Uv (h:∀q (hq:q<rows.length),j6 l rows[q]=true):rows.all (j6 l)=true:=List.all_eq_true.2 λx hx=>by
 obtain⟨q,hq,rfl⟩:=List.getElem_of_mem hx;exact h q hq
theorem Uw (h:st.found=true) (h2:eN l rows<=st.val):pn l st rows=st:=by
 unfold pn;rw[if_neg];rintro⟨_,h3|h3⟩
 ·rw[h] at h3;cases h3
 ·omega
theorem MD {n:Nat}:∀(L:List (List (List av))) {st:gX},(∀s∈L,s.length<=n)->st.best.length<=n->(L.foldl (pn l) st).best.length<=n
 |[],_,_,h=>h
 |x::L,st,hs,h=>by
  rw[List.foldl_cons];refine MD L (λs hm=>hs s (List.mem_cons_of_mem _ hm)) ?_;unfold pn;split
  ·exact hs x List.mem_cons_self
  ·exact h
theorem Ux (l:List aO) (ds:List bG): (qb l ds (aW l) [] o_).best.length<=(aW l).length:=
 MD _ (λs hs=>by
  have h:=(AJ jP.nil s hs).heads.length_le;rw[List.length_map] at h;simpa using h) (by simp[o_])
theorem Ge {α:Type} {s:List α} {p:α->Bool} {k:Nat} (hk:k<s.length): (s.take (k+1)).all p=((s.take k).all p&&p s[k]):=by
 rw[List.take_succ_eq_append_getElem hk,List.all_append];simp
theorem Uy (q:List av):∀p:List av,(q.foldl eZ p).length<=p.length+q.length:=by
 induction q with
 |nil=>intro p;simp
 |cons c q ih=>intro p;have h1:=ih (eZ p c);have h2:=u6 c p;rw[List.foldl_cons,List.length_cons];omega
theorem Uz {p:List av} (h:p∈jQ rows):2<=p.length:=by
 unfold jQ at h;have:=(DC (gp rows) [] List.Pairwise.nil).2.mem_iff.1 h;rw[List.nil_append] at this;exact of_decide_eq_true (List.mem_filter.1 this).2
theorem UA (rows:List (List av)): (jQ rows).length<=rows.length:=by unfold jQ;rw[Ub];exact List.length_filter_le _ _
theorem UB (h:k<rows.length):jQ (rows.take (k+1))=if 2<=rows[k].length then kJ (jQ (rows.take k)) rows[k] else jQ (rows.take k):=by
 unfold jQ;rw[L_ h];split
 ·rw[List.foldl_append];rfl
 ·rfl
structure oC (l:List aO) (ds:List bG) (is:List Nat) (sets:List (List av)):Prop where
 ord:Ord l is
 eq:sets=(is.map (sG l)).foldl (sH ds) ((aW l).map λr=>[r])
theorem oC.nil:oC l ds [] ((aW l).map λr=>[r]):=⟨Ord.nil,rfl⟩
theorem oC.gr {is:List Nat} {sets:List (List av)} (h:oC l ds is sets):∃g,iQ l ds g/\mU (aW l) g sets/\sets.length=(aW l).length:=by
 have hsub:∀b∈is.map (sG l),b∈l:=λb hb=>by
  obtain⟨i,hi,rfl⟩:=List.mem_map.1 hb;rw[F9 (h.ord.lt i hi)];exact List.getElem_mem _
 obtain⟨h1,h2⟩:=mU.fold (ds:=ds) (l:=l) _ hsub iQ.start (mU.start (aW l) (tC l));exact⟨_,iQ.fold _ iQ.start hsub,h.eq▸h1,by rw[h.eq,h2];simp⟩
theorem oC.add {is:List Nat} {sets:List (List av)} (h:oC l ds is sets) {m:Nat} (ho:Ord l (is++[m])):oC l ds (is++[m]) (sH ds sets (sG l m)):=⟨ho,by rw[List.map_append,List.foldl_append,<-h.eq];rfl⟩
theorem oC.fin {is:List Nat} {sets:List (List av)} (h:oC l ds is sets) (hl:is.length=l.length):jQ sets=lE l ds:=by rw[h.eq];exact Uo h.ord hl
theorem oC.UC {is:List Nat} {sets:List (List av)} (h:oC l ds is sets):∀s∈sets,s.length<=2*l.length:=by
 obtain⟨g,j7,hR,_⟩:=h.gr;intro s hs;obtain⟨i,hi,rfl⟩:=List.getElem_of_mem hs;by_cases e:sets[i].length=0
 ·omega
 ·obtain⟨h1,h2⟩:=hR.eq i hi _ (List.getElem_mem (show 0<sets[i].length by omega));have h3:=j7.len h1;rw[h2,(tA _).length_eq];exact h3
theorem oC.at_ {is:List Nat} {sets:List (List av)} (h:oC l ds is sets) {m:Nat} (hm:m<l.length):∃(i k:Nat) (hi:i<sets.length) (hk:k<sets.length),nN sets l[m].A=i/\nN sets l[m].B=k/\
  sH ds sets (sG l m)=if(i:Int)=(k:Int) then sets else if yR ds sets[i] sets[k]=true then(sets.set i (sets[k].foldl eZ sets[i])).set k [] else sets:=by
 obtain⟨g,j7,hR,_⟩:=h.gr;obtain⟨i,hi,e1,_,_⟩:=hR.find (jM.2 ⟨l[m],List.getElem_mem hm,.inl rfl⟩);obtain⟨k,hk,e2,_,_⟩:=hR.find (jM.2 ⟨l[m],List.getElem_mem hm,.inr rfl⟩);refine⟨i,k,hi,hk,e1,e2,?_⟩;unfold sH;rw[F9 hm];simp only[e1,e2,Int.toNat_natCast,nP hi,nP hk]
theorem ME (h:rows.all (j6 l)=true) (h2:st.found=false\/st.val<eN l rows):pn l st rows=⟨true,rows,eN l rows⟩:=by unfold pn;rw[if_pos ⟨h,h2⟩]
end
section
variable {l:List aO} {ds:List bG} {wf:List aO->List (List av)×Int} {zs:List (List av)}
theorem UD {α:Type} (d:α) (ps:List α):ps=(List.range ps.length).map λi=>ps.getD i d:=by
 apply List.ext_getElem
 ·simp
 ·intro i h1 h2;simp[List.getD_eq_getElem?_getD,h1]
def partOf (wf:List aO->List (List av)×Int) (l:List aO) (i:Nat):List (List av):=(wf ((a_ l).getD i [])).1
theorem Gf {i:Nat} (h:i<(a_ l).length):partOf wf l i=(wf (a_ l)[i]).1:=by unfold partOf;rw[List.getD_eq_getElem?_getD,List.getElem?_eq_getElem h];rfl
theorem MF:dQ wf (a_ l)=(List.range (a_ l).length).flatMap (partOf wf l):=by
 unfold dQ;rw[UD [] (a_ l),List.flatMap_map];simp only[List.length_map,List.length_range];congr 1
theorem MG (hQ:∀i (h:i<(a_ l).length),e8 (a_ l)[i] ds (wf (a_ l)[i]).1): (dQ wf (a_ l)).flatten.Nodup:=by
 rw[MF];have MH:∀i (h:i<(a_ l).length),e8 (a_ l)[i] ds (partOf wf l i):=λi h=>by rw[Gf h];exact hQ i h
 have key:∀k,k<=(a_ l).length->((List.range k).flatMap (partOf wf l)).flatten.Nodup/\∀r∈((List.range k).flatMap (partOf wf l)).flatten,∃i,∃h:i<(a_ l).length,i<k/\r∈aW (a_ l)[i]:=by
  intro k
  induction k with
  |zero=>intro _;simp
  |succ k ih=>
   intro hk;obtain⟨h1,h2⟩:=ih (by omega);have aK:k<(a_ l).length:=by omega
   have e: ((List.range (k+1)).flatMap (partOf wf l)).flatten=((List.range k).flatMap (partOf wf l)).flatten++(partOf wf l k).flatten:=by
    rw[List.range_succ,List.flatMap_append,List.flatten_append];simp
   have hin:∀r∈(partOf wf l k).flatten,r∈aW (a_ l)[k]:=λr hr=>by
    obtain⟨p,hp,hr⟩:=List.mem_flatten.1 hr;exact(MH k aK).refs hp hr
   rw[e];refine⟨List.nodup_append.2 ⟨h1,(MH k aK).AK,λa ha b hb e2=>?_⟩,λr hr=>?_⟩
   ·subst e2;obtain⟨i,hi,hik,h3⟩:=h2 a ha;have:=FV hi aK h3 (hin a hb);omega
   ·rcases List.mem_append.1 hr with h3|h3
    ·obtain⟨i,hi,hik,h4⟩:=h2 r h3;exact⟨i,hi,by omega,h4⟩
    ·exact⟨k,aK,by omega,hin r h3⟩
 exact(key _ (Nat.le_refl _)).1
theorem MI {p:List av} (hp:p∈dQ wf (a_ l)):∃i,∃h:i<(a_ l).length,p∈(wf (a_ l)[i]).1:=by
 unfold dQ at hp;obtain⟨q,hq,h2⟩:=List.mem_flatMap.1 hp;obtain⟨i,hi,rfl⟩:=List.getElem_of_mem hq;exact⟨i,hi,h2⟩
theorem yT (hQ:∀i (h:i<(a_ l).length),e8 (a_ l)[i] ds (wf (a_ l)[i]).1):∀p∈dQ wf (a_ l),2<=p.length:=λp hp=>by
 obtain⟨i,h,h2⟩:=MI hp;exact(hQ i h).len p h2
theorem Gg:∀{ps:List (List av)},(∀p∈ps,2<=p.length)->2*ps.length<=ps.flatten.length
 |[],_=>by simp
 |p::ps,h=>by
  have h1:=h p List.mem_cons_self;have h2:=Gg (ps:=ps) (λq hq=>h q (List.mem_cons_of_mem _ hq));simp only[List.flatten_cons,List.length_append,List.length_cons];omega
theorem rK (hQ:∀i (h:i<(a_ l).length),e8 (a_ l)[i] ds (wf (a_ l)[i]).1):2*(dQ wf (a_ l)).length<=(aW l).length:=by
 refine Nat.le_trans (Gg (yT hQ)) ((MG hQ).length_le_of_subset λr hr=>?_);obtain⟨p,hp,hr⟩:=List.mem_flatten.1 hr;obtain⟨i,h,h2⟩:=MI hp;exact((wH h).1 ((hQ i h).refs h2 hr)).1
theorem MJ:∀{ps:List (List av)},ps.flatten.Nodup->ps.Pairwise λp q=>∀x∈p,x∉q
 |[],_=>List.Pairwise.nil
 |p::ps,h=>by
  rw[List.flatten_cons,List.nodup_append] at h;exact List.pairwise_cons.2 ⟨λq hq x hx hx2=>h.2.2 x hx x (List.mem_flatten.2 ⟨q,hq,hx2⟩) rfl,MJ h.2.1⟩
theorem UE (hQ:∀i (h:i<(a_ l).length),e8 (a_ l)[i] ds (wf (a_ l)[i]).1) (h:fk fJ (dQ wf (a_ l)) zs):zs.Pairwise λp q=>dV (p.headD ⟨0,0⟩) (q.headD ⟨0,0⟩):=by
 have hn:zs.flatten.Nodup:=(h.perm.flatten.nodup_iff).2 (MG hQ);have hd:=MJ hn;rw[List.pairwise_iff_getElem] at hd⊢;intro i j hi hj hij;have h1:=h.le hij hj;have h2:=hd i j hi hj hij;have l1:=yT hQ _ (h.perm.mem_iff.1 (List.getElem_mem hi));have l2:=yT hQ _ (h.perm.mem_iff.1 (List.getElem_mem hj));have hm:∀{s:List av},2<=s.length->s.headD ⟨0,0⟩∈s:=λ{s} h=>by cases s with|nil=>simp at h|cons a t=>simp
 refine sq.1 ?_;unfold fJ at h1;rcases Int.lt_or_eq_of_le h1 with h3|h3
 ·exact h3
 ·have h4:=(yH (x:=zs[i].headD ⟨0,0⟩) (y:=zs[j].headD ⟨0,0⟩)).2.1.1 h3;have h5:zs[i].headD ⟨0,0⟩=zs[j].headD ⟨0,0⟩:=by
   generalize zs[i].headD ⟨0,0⟩=a at h4;generalize zs[j].headD ⟨0,0⟩=b at h4;obtain⟨a1,a2⟩:=a;obtain⟨b1,b2⟩:=b;obtain⟨e1,e2⟩:=h4;simp only at e1 e2;subst e1 e2;rfl
  exact absurd (h5▸hm l2:zs[i].headD ⟨0,0⟩∈zs[j]) (h2 _ (hm l1))
theorem MK (hQ:∀i (h:i<(a_ l).length),e8 (a_ l)[i] ds (wf (a_ l)[i]).1) (h:fk fJ (dQ wf (a_ l)) zs):
  e8 l ds zs/\∀i (h:i<(a_ l).length),eN (a_ l)[i] zs=eN (a_ l)[i] (wf (a_ l)[i]).1:=by
 obtain⟨h1,h2⟩:=TD (Q:=partOf wf l) (λi hi=>by rw[Gf hi];exact hQ i hi) (by rw[<-MF];exact h.perm) (UE hQ h);exact⟨h1,λi hi=>by rw[h2 i hi,Gf hi]⟩
theorem UF {α:Type} {c:α->α->Int} {ys:List α}:∀x∈p6 c ys,x∈ys:=λx hx=>by
 unfold p6 at hx;split at hx
 ·rename_i h;exact h.choose_spec.sub x hx
 ·exact hx
theorem Gh (l:List aO) (ds:List bG):e8 l ds (lE l ds):=TH l ds UF
theorem Gi (l:List aO) (ds:List bG):e8 l ds []:=⟨by simp,by simp,by simp,by simp,by simp,by simp⟩
theorem ML (ds:List bG) (l:List aO):e8 l ds (iH ds l).1:=Gh l ds
theorem u_ (ds:List bG) (l:List aO):e8 l ds (eW ds l).1:=by
 unfold eW;split
 ·exact FU l ds
 ·exact Gh l ds
theorem DH (ds:List bG) (l:List aO):e8 l ds (fE ds l).1:=by
 unfold fE;split
 ·exact FU l ds
 ·exact Gi l ds
theorem MN {i:Nat} (h:i<(a_ l).length): (a_ l)[i]≠[]:=λe=>by
 have hq:=List.getElem_mem (wG h);have hr: (dP (b_ l) (aW l))[i]'(wG h)∈aW l:=(Ao _ _).subset hq;have:=(wH h).2 ⟨hr,rfl⟩;rw[e] at this;obtain⟨x,hx,_⟩:=jM.1 this;cases hx
theorem yU {i:Nat} (h:i<(a_ l).length): (a_ l)[i].length<=l.length:=by
 rw[AA];exact List.length_filter_le _ _
end
def AY (x y:aO):Prop:=y.w<x.w\/(x.w=y.w/\jL x y)
section
variable {l zs ord:List aO} {ds:List bG} {x y:aO}
theorem UG (h:AY x y):¬AY y x:=λh'=>by
 unfold AY jL dV at*;by_cases e:x.A=y.A
 ·rw[e] at h h';omega
 ·have hne:x.A.a≠y.A.a\/x.A.b≠y.A.b:=Classical.byContradiction λhn=>e (Ak (by omega) (by omega));have e2:¬y.A=x.A:=λe2=>e e2.symm;simp only[e,e2,false_and,or_false] at h h';omega
theorem MO (hl:l.Pairwise jL) (h:fk gF l zs):zs.Pairwise AY:=by
 obtain⟨σ,h1,h2,h3⟩:=h;have hlen:=h1.len;refine List.pairwise_iff_getElem.2 λi j hi hj hij=>?_;obtain⟨a,b,h4⟩:=h3 i j (by omega) hij (by omega);rw[h1.get (show i<l.length by omega),h1.get (show j<l.length by omega)];unfold gF at h4;rcases h4 with h4|⟨h4,h5⟩
 ·exact .inl (Df.1 h4)
 ·exact .inr ⟨(Dj.1 h4).symm,List.pairwise_iff_getElem.1 hl (σ i) (σ j) a b h5⟩
theorem AZ (l:List aO):fk gF l (p6 gF l):=by
 obtain⟨zs,hz⟩:=fk.ex p_ l;rw[<-hz.eq p_ (λ_ _=>trivial)];exact hz
theorem UH (hl:l.Pairwise jL) (p:aO->Bool):p6 gF (l.filter p)=(p6 gF l).filter p:=
 List.Perm.eq_of_pairwise (le:=AY) (λa b _ _ h h'=>absurd h' (UG h)) (MO (hl.sublist List.filter_sublist) (AZ _)) ((MO hl (AZ l)).sublist List.filter_sublist)
  ((AZ _).perm.trans ((AZ l).perm.filter p).symm)
theorem MP (xs:List aO) (b:aO):dh ds (xs++[b])=nA ds (dh ds xs) b:=by unfold dh;rw[List.foldl_append];rfl
theorem MQ (qd:av->av) (ho:∀b∈ord,qd b.A=qd b.B):∀k,k<=ord.length->∀r,dh ds (ord.take k) r=dh ds ((ord.take k).filter λb=>decide (qd b.A=qd r)) r/\∀q∈dh ds (ord.take k) r,qd q=qd r
 |0,_,r=>by
  refine⟨by simp,λq hq=>?_⟩;rw[List.take_zero] at hq;have:q∈[r]:=hq;rw[List.mem_singleton.1 this]
 |k+1,hk,r=>by
  have ih:=MQ qd ho k (by omega);have hb:=ho _ (List.getElem_mem (show k<ord.length by omega));rw[List.take_succ_eq_append_getElem (by omega),List.filter_append,MP];obtain⟨b,UI⟩:∃b,b=ord[k]:=⟨_,rfl⟩
  rw[<-UI] at hb⊢;by_cases e:qd b.A=qd r
  ·rw[List.filter_cons_of_pos (by rw[decide_eq_true_eq];exact e),List.filter_nil,MP];have key:∀s,qd s=qd r->dh ds ((ord.take k).filter λb=>decide (qd b.A=qd r)) s=dh ds (ord.take k) s:=λs hs=>by rw[(ih s).1,hs]
   have hA:=key b.A e;have hB:=key b.B (hb▸e);have hr:=key r rfl;unfold nA;rw[hA,hB];split
   ·exact⟨hr.symm,(ih r).2⟩
   ·simp only[];split
    ·refine⟨rfl,λq hq=>?_⟩;rcases List.mem_append.1 hq with h|h
     ·rw[(ih b.A).2 q h,e]
     ·rw[(ih b.B).2 q h,<-hb,e]
    ·exact⟨hr.symm,(ih r).2⟩
  ·rw[List.filter_cons_of_neg (by rw[decide_eq_true_eq];exact e),List.filter_nil,List.append_nil];have hno:r∉dh ds (ord.take k) b.A++dh ds (ord.take k) b.B:=λhm=>by
    rcases List.mem_append.1 hm with h|h
    ·exact e ((ih b.A).2 r h).symm
    ·exact e (by rw[hb];exact((ih b.B).2 r h).symm)
   have hst:nA ds (dh ds (ord.take k)) b r=dh ds (ord.take k) r:=by
    unfold nA;split
    ·rfl
    ·simp only[];rw[if_neg hno]
   rw[hst];exact ih r
theorem MR (hv:oT l) {i:Nat} (h:i<(a_ l).length) {r:av} (hr:r∈aW (a_ l)[i]):dh ds (p6 gF (a_ l)[i]) r=dh ds (p6 gF l) r:=by
 have hs:=(wH h).1 hr;rw[AA,UH hv.2.2];have:=(MQ (ds:=ds) (ord:=p6 gF l) (b_ l) (λb hb=>wz ((AZ l).sub b hb)) (p6 gF l).length (Nat.le_refl _) r).1;rw[List.take_length] at this;rw[this,hs.2]
theorem yW {wf:List aO->List (List av)×Int} (hQ:∀i (h:i<(a_ l).length),e8 (a_ l)[i] ds (wf (a_ l)[i]).1) {zs:List (List av)} (hz:fk fJ (dQ wf (a_ l)) zs):e8 l ds zs:=(MK hQ hz).1
theorem UJ (hv:oT l):jQ (dQ (iH ds) (a_ l))=lE l ds:=by
 have hE:=Gh l ds;have hQ:∀i (h:i<(a_ l).length),e8 (a_ l)[i] ds (iH ds (a_ l)[i]).1:=λi h=>ML ds _;obtain⟨zs,hz⟩:=fk.ex yP (dQ (iH ds) (a_ l));have hzs:=yW hQ hz;rw[AU hzs hz];have iB:∀{ys:List (List av)},e8 l ds ys->ys.Nodup:=λ{ys} h=>List.nodup_iff_pairwise_ne.2 ((tM h.heads).imp λ{p q} hlt e=>by subst e;have:=u7 p p;omega);refine List.Perm.eq_of_pairwise (le:=λp q=>fJ p q<0) (λa b _ _ h h'=>?_) (tM hzs.heads) (tM hE.heads) ((List.perm_ext_iff_of_nodup (iB hzs) (iB hE)).2 λp=>?_)
 ·have:=u7 a b;omega
 ·rw[hz.perm.mem_iff];unfold dQ iH;rw[List.mem_flatMap];constructor
  ·rintro⟨part,hp,hm⟩;obtain⟨i,hi,rfl⟩:=List.getElem_of_mem hp;unfold lE k5 at hm⊢;obtain⟨r,hr,rfl⟩:=List.mem_map.1 hm;obtain⟨h1,h2⟩:=List.mem_filter.1 hr;have e:=MR (ds:=ds) hv hi h1;unfold mR at h2;rw[e] at h2⊢;exact List.mem_map.2 ⟨r,List.mem_filter.2 ⟨((wH hi).1 h1).1,h2⟩,rfl⟩
  ·intro hm;unfold lE k5 at hm;obtain⟨r,hr,rfl⟩:=List.mem_map.1 hm;obtain⟨h1,h2⟩:=List.mem_filter.1 hr;obtain⟨i,hi,h3⟩:=TB h1;have e:=MR (ds:=ds) hv hi h3;refine⟨_,List.getElem_mem hi,?_⟩;unfold lE k5;refine List.mem_map.2 ⟨r,List.mem_filter.2 ⟨h3,?_⟩,by rw[e]⟩;unfold mR at h2⊢;rw[e];exact h2
end
theorem MS {α:Type} {r:α->α->Prop} (ht:∀a b c,r a b->r b c->r a c) {l:List α} (h:∀i (hi:i+1<l.length),r l[i] l[i+1]):l.Pairwise r:=by
 refine List.pairwise_iff_getElem.2 λi j hi hj hij=>?_;obtain⟨d,rfl⟩:∃d,j=i+1+d:=⟨j-i-1,by omega⟩
 clear hij
 induction d with
 |zero=>exact h i hj
 |succ d ih=>exact ht _ _ _ (ih (by omega)) (h (i+1+d) hj)
theorem UK {x y z:aO} (h:jL x y) (h':jL y z):jL x z:=by
 unfold jL at*;rcases h with h|⟨e,h⟩<;>rcases h' with h'|⟨e',h'⟩
 ·exact .inl (x7 h h')
 ·exact .inl (e'▸h)
 ·exact .inl (e▸h')
 ·exact .inr ⟨e.trans e',x7 h h'⟩
theorem wN {l:List aO} (h:gQ l=0):oT l:=by
 obtain⟨h1,h2⟩:=KB h;have key:∀k (hk:k<l.length),okB l[k]/\∀h0:0<k,jL (l[k-1]'(by omega)) l[k]:=λk hk=>by
  have e:=h2 k hk;rw[Fk hk] at e;by_cases c1:iZ l[k].A l[k].B=false
  ·rw[if_pos c1] at e;cases e
  ·rw[if_neg c1] at e;by_cases c2:l[k].w<1\/1048576<l[k].w
   ·rw[if_pos c2] at e;cases e
   ·rw[if_neg c2] at e;refine⟨⟨by simpa using c1,by omega,by omega⟩,λh0=>Classical.byContradiction λhn=>?_⟩;rw[if_pos ⟨h0,hn⟩] at e;cases e
 refine⟨h1,λx hx=>?_,MS (r:=jL) (λ_ _ _ h h'=>UK h h') λi hi=>(key (i+1) hi).2 (by omega)⟩;obtain⟨k,hk,rfl⟩:=List.getElem_of_mem hx;exact(key k hk).1
theorem sJ {l:List aO} (hv:oT l):∀x∈l,1<=x.w/\x.w<=1048576:=λx hx=>(hv.2.1 x hx).2
theorem MT {l:List aO} (hv:oT l):∀x∈l,x.A≠x.B:=λx hx=>Tz (hv.2.1 x hx)
section
variable {l:List aO} {ds:List bG} {ps eS:List (List av)} {p:List av}
theorem DI {a b:List av} (h1:0<a.length) (h2:0<b.length):dV a[0] b[0]↔dV (a.headD ⟨0,0⟩) (b.headD ⟨0,0⟩):=by
 rw[List.headD_eq_head?_getD,List.headD_eq_head?_getD,List.head?_eq_getElem?,List.head?_eq_getElem?,List.getElem?_eq_getElem h1,List.getElem?_eq_getElem h2];rfl
theorem e8.next {i:Nat} (h:e8 l ds (ps.take i)) (hi:i<ps.length) (ha:ps[i].Pairwise dV) (hp:mo l ds ps[i]=true) (hf:∀r∈ps[i],r∉(ps.take i).flatten) (hh:∀h0:0<i,dV ((ps[i-1]'(by omega)).headD ⟨0,0⟩) (ps[i].headD ⟨0,0⟩)):e8 l ds (ps.take (i+1)):=by
 unfold mo at hp;rw[Bool.and_eq_true,Bool.and_eq_true,decide_eq_true_eq] at hp;rw[List.take_succ_eq_append_getElem hi];have hm:∀q,q∈ps.take i++[ps[i]]->q∈ps.take i\/q=ps[i]:=λq hq=>by rw[List.mem_append,List.mem_singleton] at hq;exact hq
 refine⟨λq hq=>?_,λq hq=>?_,λq hq=>?_,λq hq=>?_,?_,?_⟩
 ·rcases hm q hq with hq|rfl
  ·exact h.lQ q hq
  ·exact ha
 ·rcases hm q hq with hq|rfl
  ·exact h.len q hq
  ·exact hp.1.1
 ·rcases hm q hq with hq|rfl
  ·exact h.bar q hq
  ·exact Du.1 hp.1.2
 ·rcases hm q hq with hq|rfl
  ·exact h.join q hq
  ·exact FQ.1 hp.2
 ·rw[List.flatten_append];refine List.nodup_append.2 ⟨h.AK,by simpa using wv ha,λx hx y hy e=>?_⟩;subst e;exact hf x (by simpa using hy) hx
 ·refine List.pairwise_append.2 ⟨h.heads,by simp,λq hq y hy=>?_⟩;rw[List.mem_singleton] at hy;subst hy;obtain⟨j,hj,rfl⟩:=List.getElem_of_mem hq;rw[List.length_take] at hj;have hl:=hh (by omega);by_cases e:j=i-1
  ·subst e;rw[List.getElem_take];exact hl
  ·have h3:=List.pairwise_iff_getElem.1 h.heads j (i-1) (by rw[List.length_take];omega) (by rw[List.length_take];omega) (by omega);rw[List.getElem_take,List.getElem_take] at h3;rw[List.getElem_take];exact x7 h3 hl
theorem MU {p:List av} (h:∀q (hq:q<p.length),∀h0:0<q,dV (p[q-1]'(by omega)) p[q]):p.Pairwise dV:=MS (r:=dV) (λ_ _ _ h h'=>x7 h h') λi hi=>h (i+1) hi (by omega)
theorem MV {p:List av} {q:Nat} (hq:q<p.length) (h0:0<q) (h:¬dV (p[q-1]'(by omega)) p[q]):¬p.Pairwise dV:=λhp=>h (List.pairwise_iff_getElem.1 hp (q-1) q (by omega) hq (by omega))
theorem MW {l:List (List av)} {c:av} (h:0<=nN l c):c∈l.flatten:=by
 have h2: (l.any λp=>p.any λx=>decide (c=x))=true:=by rw[<-tH];exact decide_eq_true h
 obtain⟨q,hq,h3⟩:=List.any_eq_true.1 h2;exact List.mem_flatten.2 ⟨q,hq,tI.1 h3⟩
theorem MX {l:List (List av)} {c:av} (h:¬0<=nN l c):c∉l.flatten:=λhm=>by
 obtain⟨q,hq,h3⟩:=List.mem_flatten.1 hm;refine h (of_decide_eq_true ?_);unfold nN;rw[tH];exact List.any_eq_true.2 ⟨q,hq,tI.2 h3⟩
open Classical in
noncomputable def sK (l:List aO) (ds:List bG) (ps:List (List av)):Int:=if fM l ds≠0 then fM l ds else if e8 l ds ps then 0 else 44
theorem MY (h:fM l ds≠0):sK l ds ps=fM l ds:=by unfold sK;rw[if_pos h]
theorem Gj (h:fM l ds=0) (hp:e8 l ds ps):sK l ds ps=0:=by unfold sK;rw[if_neg (by rw[h];simp),if_pos hp]
theorem ve (h:fM l ds=0) (hp:¬e8 l ds ps):sK l ds ps=44:=by unfold sK;rw[if_neg (by rw[h];simp),if_neg hp]
theorem e8.Dw (h:e8 l ds ps) {i j:Nat} (hi:i<ps.length) (hj:j<ps[i].length):ps[i][j]∉(ps.take i).flatten:=λhm=>h.fresh hi hj (List.mem_append.2 (.inl hm))
theorem e8.MZ (h:e8 l ds ps) {i:Nat} (h0:0<i) (hi:i<ps.length):dV ((ps[i-1]'(by omega)).headD ⟨0,0⟩) (ps[i].headD ⟨0,0⟩):=List.pairwise_iff_getElem.1 h.heads (i-1) i (by omega) hi (by omega)
end
noncomputable def h_ (wf:List aO->List (List av)×Int) (l:List aO) (ds:List bG):List (List av)×Int×Int:=
 if fM l ds≠0 then([],0,fM l ds) else if(a_ l).all (λp=>decide ((wf p).2=0))=true then(jQ (dQ wf (a_ l)),eN l (jQ (dQ wf (a_ l))),0) else([],0,1)
section
variable {l:List aO} {ds:List bG} {wf:List aO->List (List av)×Int}
theorem tO (h:fM l ds≠0):h_ wf l ds=([],0,fM l ds):=by unfold h_;rw[if_pos h]
theorem tP (h:fM l ds=0) (h2:∀k (hk:k<(a_ l).length),(wf (a_ l)[k]).2=0):h_ wf l ds=(jQ (dQ wf (a_ l)),eN l (jQ (dQ wf (a_ l))),0):=by
 unfold h_;rw[if_neg (by rw[h];simp),if_pos (List.all_eq_true.2 λp hp=>by obtain⟨k,hk,rfl⟩:=List.getElem_of_mem hp;exact decide_eq_true (h2 k hk))]
theorem M0 (h:fM l ds=0) {k:Nat} (hk:k<(a_ l).length) (h2: (wf (a_ l)[k]).2≠0):h_ wf l ds=([],0,1):=by
 unfold h_;rw[if_neg (by rw[h];simp),if_neg];intro hall;exact h2 (of_decide_eq_true (List.all_eq_true.1 hall _ (List.getElem_mem hk)))
theorem qe (h:fM l ds=0):gQ l=0/\lD ds=0:=by
 unfold fM at h;by_cases e:gQ l=0
 ·rw[if_neg (by rw[e];simp)] at h;exact⟨e,h⟩
 ·rw[if_pos e] at h;exact absurd h e
theorem M1 (ds:List bG) (l:List aO): (iH ds l).2=0:=rfl
theorem Gk (ds:List bG) (l:List aO): (eW ds l).2=0:=by unfold eW;split<;>rfl
theorem UL {p:List aO} (h: (fE ds p).2≠0): (fE ds p).2=1:=by
 unfold fE at*;split at h
 ·exact absurd rfl h
 ·rename_i e;rw[if_neg e]
theorem Gl (hQ:∀i (h:i<(a_ l).length),e8 (a_ l)[i] ds (wf (a_ l)[i]).1):∀i k (hi:i<(dQ wf (a_ l)).length) (hk:k<(dQ wf (a_ l)).length),i≠k->fJ (dQ wf (a_ l))[i] (dQ wf (a_ l))[k]≠0:=by
 obtain⟨zs,hz⟩:=fk.ex yP (dQ wf (a_ l));have oB:=tM (yW hQ hz).heads;have hnz:zs.Nodup:=List.nodup_iff_pairwise_ne.2 (oB.imp λ{p q} hlt e=>by subst e;have:=u7 p p;omega);have iB:=hz.perm.nodup_iff.1 hnz;intro i k hi hk hne;obtain⟨a,ha,ea⟩:=List.getElem_of_mem (hz.perm.mem_iff.2 (List.getElem_mem hi));obtain⟨b,hb,eb⟩:=List.getElem_of_mem (hz.perm.mem_iff.2 (List.getElem_mem hk));rw[<-ea,<-eb];rcases Nat.lt_trichotomy a b with h|h|h
 ·have:=List.pairwise_iff_getElem.1 oB a b ha hb h;omega
 ·subst h;exfalso;have e:=ea.symm.trans eb;rcases Nat.lt_trichotomy i k with h|h|h
  ·exact List.pairwise_iff_getElem.1 (List.nodup_iff_pairwise_ne.1 iB) i k hi hk h e
  ·exact hne h
  ·exact List.pairwise_iff_getElem.1 (List.nodup_iff_pairwise_ne.1 iB) k i hk hi h e.symm
 ·have:=List.pairwise_iff_getElem.1 oB b a hb ha h;have h2:=u7 zs[b] zs[a];omega
theorem M3 (h:fM l ds=0) (hv:oT l):h_ (iH ds) l ds=(lE l ds,eN l (lE l ds),0):=by
 rw[tP h (λk hk=>M1 ds _),UJ hv]
end
section
variable {α:Type} [bg α] {P:Program} {N:Nat} {env:Env} {w:World} {C:Nat->Nat} {t e:TypeId} {s:Value} {y z:Operand} {ys zs:List α} {j:Nat} {a:Option Addr}
theorem UM {bytes:Nat} (hF:aM w C) (hj:j≠0) (hc:∀b,C b≠j) (hx:ev env y=some (.slice a ys.length ys.length)) (hy:ev env z=some s) (hrow:om P t e (sz α) bytes=true) (hsz:0<sz α)
  (hown:aG w (aB C) ys (.slice a ys.length ys.length)) (hsrc:aG w (aB C) zs s) (hlen: (ys.length+zs.length)*bytes<=140737488355328) (h63:ys.length+zs.length<=140737488355328):
  gZ P N env (.call {callee:=.builtin .append,args:=#[y,z],argTypes:=#[t,t]}) w (λv' w'=>ay [] w C w' C/\aG w' (aB C) (ys++zs) v'/\aM w' C):=by
 by_cases h0:zs=[]
 ·subst h0;rw[List.append_nil];refine oP λρ hρ eY gu=>?_;obtain⟨i,z',hu,hi,pQ,hby,hz,hzs⟩:=uD hrow;obtain⟨a2,c,rfl,hcap,hl0,Cy⟩:=kF.1 hsrc;have hf: (Builtin.firstCells i.size 0 (.slice a2 0 c)).run P w=.ok #[] w:=by cases a2<;>simp[Builtin.firstCells,loadCells,loadCellsFrom]
  have hrun: (Builtin.append_ #[t,t] eY.type #[.slice a ys.length ys.length,.slice a2 0 c]).run P w=.ok (.slice a ys.length ys.length) w:=by
   cases a with
   |none=>
    obtain⟨a3,c3,FN,_,_,FO⟩:=kF.1 hown;injection FN with h1 h2 h3;subst h1;rcases FO with h|⟨fA,Lp,yx,_⟩
    ·subst h;simp[Builtin.append_,run_underlying hu,sizeOf,typeInfo,hi,Builtin.lenOf,hf]
    ·cases yx
   |some a=>simp[Builtin.append_,run_underlying hu,sizeOf,typeInfo,hi,Builtin.lenOf,hf,storeCells]
  refine⟨_,w,.inl ?_,ay.refl _ _ _,hown,hF⟩;unfold execOp;rw[gu];simp[hρ _ _ hx,hρ _ _ hy,resolve,invoke,builtin,hrun]
 ·intro a' jv eY gu;obtain⟨v',w',h1,aP,h2,h3,h4⟩:=Dh (j:=j) (P:=P) (N:=N) (a:=a) hF hj hx hy hrow hsz hown hsrc h0 hlen h63 a' jv eY gu;have hs:ay [] w C w' C:=⟨h2.ext,λ_ _=>rfl⟩
  exact⟨v',w',h1,hs,h3.out h2 hF rfl (λb _=>hc b) (by rw[List.length_append];omega),hF.st hs⟩
end
section
variable {l:List aO} {ds:List bG} {ps:List (List av)} {m:Nat}
theorem e8.lens (h:e8 l ds ps): (∀p∈ps,p.length<=2*l.length)/\2*ps.length<=2*l.length:=by
 refine⟨λp hp=>Nat.le_trans ((h.nodup hp).length_le_of_subset λr hr=>h.refs hp hr) (kW l),Nat.le_trans (Gg h.len) (Nat.le_trans (h.AK.length_le_of_subset λr hr=>?_) (kW l))⟩;obtain⟨p,hp,hr⟩:=List.mem_flatten.1 hr;exact h.refs hp hr
theorem UN: (∀p∈(h_ (eW ds) l ds).1,1<=p.length)/\(∀p∈(h_ (eW ds) l ds).1,p.length<=2*l.length)/\(h_ (eW ds) l ds).1.length<=l.length:=by
 unfold h_;split
 ·exact⟨λp hp=>(by cases hp),λp hp=>(by cases hp),Nat.zero_le _⟩
 ·split
  ·have hQ:∀i (h:i<(a_ l).length),e8 (a_ l)[i] ds (eW ds (a_ l)[i]).1:=λi h=>u_ ds _;obtain⟨zs,hz⟩:=fk.ex yP (dQ (eW ds) (a_ l));have hzs:=yW hQ hz;simp only;rw[AU hzs hz];have h2:=hzs.lens;exact⟨λp hp=>by have:=hzs.len p hp;omega,h2.1,by omega⟩
  ·exact⟨λp hp=>(by cases hp),λp hp=>(by cases hp),Nat.zero_le _⟩
theorem yX {x:List av} {k:Nat} (h:∀p∈ps,p.length<=m) (hx:x.length<=m):∀p∈ps.set k x,p.length<=m:=λp hp=>(List.mem_or_eq_of_mem_set hp).elim (h p) (λe=>e▸hx)
theorem UO {x:List av} (h:∀p∈ps,p.length<=m) (hx:x.length<=m):∀p∈ps++[x],p.length<=m:=λp hp=>(List.mem_append.1 hp).elim (h p) (λe=>by rw[List.mem_singleton.1 e];exact hx)
theorem UQ {k i:Nat} (h:∀p∈ps,p.length<=m):∀p∈ps.take k++ps.drop i,p.length<=m:=λp hp=>(List.mem_append.1 hp).elim (λe=>h p (List.mem_of_mem_take e)) (λe=>h p (List.mem_of_mem_drop e))
end
end Go.K
namespace Go.K
theorem DJ (x:Int):IntKind.i64.wrap x=(x+9223372036854775808)%18446744073709551616-9223372036854775808:=by
 have e1: (2^IntKind.i64.bits:Int)=18446744073709551616:=by decide
 have e2: (2^(IntKind.i64.bits-1):Int)=9223372036854775808:=by decide
 unfold IntKind.wrap;simp only[e1,e2,show IntKind.i64.signed=true from rfl,Bool.true_and];by_cases h:x%18446744073709551616>=9223372036854775808
 ·rw[if_pos (decide_eq_true h)];omega
 ·rw[if_neg (by rw[decide_eq_false h];simp)];omega
theorem M4 (a b:Int):IntKind.i64.wrap (IntKind.i64.wrap a+b)=IntKind.i64.wrap (a+b):=by
 rw[DJ,DJ,DJ];omega
theorem A0 {a:Int} (h:0<=a) (h2:a<=9223372036854775807):IntKind.i64.wrap a=a:=by rw[DJ];omega
end Go.K
namespace Go.K
open bg Go.RowKit
def mq (N:Nat) (env:Env) (a:Act):Prop:=jW N env {a with defers:=[]}
theorem mq.of {N:Nat} {env:Env} {a:Act} (h:jW N env a):mq N env a:=by
 obtain⟨t,d⟩:=a;have:=h.defers;simp only at this;subst this;exact h
theorem mq.back {N:Nat} {env:Env} {a:Act} (h:mq N env a) (hd:a.defers=[]):jW N env a:=by
 obtain⟨t,d⟩:=a;simp only at hd;subst hd;exact h
theorem mq.put {N:Nat} {env:Env} {a:Act} (h:mq N env a) {d:Option Nat} (hd:sg N d=true) (v:Value):mq N (qZ d v env) (a.put d v):=by
 have:=jW.put h hd v;cases d<;>exact this
theorem put_defers (a:Act) (d:Option Nat) (v:Value): (a.put d v).defers=a.defers:=by cases d<;>rfl
def sL (F:Fence) (n:Nat) (P:Program) (N:Nat) (Q:Exit->Act->World->Prop) (ops:Array Oper) (D:List Deferred) (is:List Nat) (env:Env) (w:World):Prop:=
 ∀a,mq N env a->a.defers=D->wpOpsIn F n P ops Q is a w
section
variable {F:Fence} {n:Nat} {P:Program} {N:Nat} {Q:Exit->Act->World->Prop} {ops:Array Oper} {D:List Deferred} {is:List Nat} {env:Env} {w w':World} {i t:Nat} {d:Option Nat} {op:Op} {v:Value}
theorem A4 (h:∀a,mq N env a->a.defers=D->Q .normal a w):sL F n P N Q ops D [] env w:=h
theorem wO {T:Value->World->Prop} (hF:∀f,F.fn f) (hop:cZ ops i=some (d,op,none)) (iB:∀c,op≠ .defer c) (hd:sg N d=true)
  (hy:gZ P N env op w T) (h:∀v w',T v w'->sL F n P N Q ops D is (qZ d v env) w'):sL F n P N Q ops D (i::is) env w:=λa ha hD=>by
 obtain⟨o,ho,rfl,rfl,hg⟩:=vW hop;obtain⟨v,w',hrun,hT⟩:=hy _ ha o rfl;have e:execOp a.eval o=execOp ({a with defers:=[]}:Act).eval o:=rfl;simp only[wpOpsIn,ho,Region.wanted,hg,if_true];unfold Oper.wpIn;rw[Oper.semAt_eq _ _ _ iB,e];refine⟨λf _=>hF f,?_⟩;rcases hrun with hrun|⟨hrun,rfl⟩
 ·rw[hrun];exact h v w' hT _ (ha.put hd v) (by rw[put_defers];exact hD)
 ·rw[hrun];exact h undef w' hT _ (ha.put hd undef) (by rw[put_defers];exact hD)
theorem tQ (hF:∀f,F.fn f) (hop:cZ ops i=some (some t,op,none)) (iB:∀c,op≠ .defer c) (ht:Nat.blt t N=true)
  (hv:c5 P N env op w v) (h:sL F n P N Q ops D is ((t,v)::env) w):sL F n P N Q ops D (i::is) env w:=
 wO hF hop iB ht (T:=λu w'=>u=v/\w'=w) (λa ha o ho=>⟨v,w,.inl (hv a ha o ho),rfl,rfl⟩) (λu w' hT=>by obtain⟨rfl,rfl⟩:=hT;exact h)
theorem UR {l:Nat} {y z:Operand} {tys:Array TypeId} {kG:Value} {T:Ending->World->Prop} (hF:∀f,F.fn f) (US:F.depth=none) (hop:cZ ops i=some (some t,.call {callee:=.value y,args:=#[z],argTypes:=tys},none)) (ht:Nat.blt t N=true)
  (hy:ev env y=some (.func (.yield l) #[] #[])) (hz:ev env z=some kG) (hY:YieldAt F (n-1) P l #[kG] w T)
  (h:∀e w',T e w'->∃v,e=.returned v/\sL F n P N Q ops D is ((t,v)::env) w'):sL F n P N Q ops D (i::is) env w:=λa ha hD=>by
 obtain⟨o,ho,wP,M5,hg⟩:=vW hop;obtain⟨fn,tmps,assign,body,hrun,Gm⟩:=hY;have e:execOp a.eval o=execOp ({a with defers:=[]}:Act).eval o:=rfl;have hy':=jW.ev ha hy;have UT:=jW.ev ha hz;have hex: (execOp ({a with defers:=[]}:Act).eval o).run P w=.ok (.round l fn tmps assign body) w:=by
  unfold execOp;rw[M5];simp[hy',UT,resolve,invoke,Deferred.ofValue,Sem.run_bind,Sem.run_pure,Result.andThen,hrun]
 simp only[wpOpsIn,ho,Region.wanted,hg,if_true];unfold Oper.wpIn;rw[Oper.semAt_eq _ _ _ (by rw[M5];intro c e;cases e),e,hex];refine⟨λf _=>hF f,(λhs=>by rw[US] at hs;cases hs),Gm.mono λe w' hT=>?_⟩;obtain⟨v,rfl,hW⟩:=h e w' hT;rw[wP];exact hW _ (ha.put (d:=some t) ht v) (by rw[put_defers];exact hD)
end
section
variable {P:Program} {f:FuncId} {N:Nat} {k:List Item} {env:Env} {w:World} {R:Value->World->Prop}
theorem UU {c:Code} (n:Nat) (h:sL Fence.wide n P N (zQ P f k R) (dy c) [] (List.range (dy c).size) env w) (hc:Ad c false=true:=by kernel_rfl):Run P f N (.code c::k) env w R:=λa ha=>by
 obtain⟨id,e⟩:=EY hc;rw[e];exact zR (wpIn_wide.1 (wpIn_region (h a (.of ha) ha.defers)))
theorem UW {n:Nat} {ops:Array Oper} (h:Run P f N k env w R):sL Fence.wide n P N (zQ P f k R) ops [] [] env w:=λa ha hd=>h a (ha.back hd)
end
def Gn (c:Code) (t:Nat):Bool:=match c with| .rangeFunc (.tmp j) _ _ _=>Nat.beq j t|_=>false
def wQ (c:Code):Array Tmp:=match c with| .rangeFunc _ ps _ _=>ps|_=>#[]
def A5 (c:Code):Code:=match c with| .rangeFunc _ _ a _=>a|_=> .skip
def A6 (c:Code):Code:=match c with| .rangeFunc _ _ _ b=>b|_=> .skip
theorem UX {c:Code} {t:Nat} (h:Gn c t=true):c=.rangeFunc (.tmp t) (wQ c) (A5 c) (A6 c):=by
 cases c with
 |rangeFunc g ps a b=>cases g with
  |tmp j=>simp only[Gn] at h;rw[Nat.eq_of_beq_eq_true h];rfl
  |_=>cases h
 |_=>cases h
def DK (n0:Nat) (A B:World):Prop:=∃l o o',n0<=l/\A.heap[l]?=some o/\o.isCells=false/\B=A.putObj l o'
def Gp (n0:Nat) (A B:World):Prop:=∀b o,n0<=b->A.heap[b]?=some o->o.isCells=false->B.heap[b]?=some o
theorem wR {W:World} {b:Nat} {o:Obj} (h:W.heap[b]?=some o):b<W.heap.size:=(Array.getElem?_eq_some_iff.1 h).1
theorem UY {W:World} {b:Nat} {o o':Obj} (h:W.heap[b]?=some o): (W.alloc o').heap[b]?=some o:=(Below.heap_alloc W o' b (wR h)).trans h
theorem A7 {A B:World} {b:Nat} {o:Obj} (h:A.heap[b]?=some o) (hE:Ext No A B):B.heap[b]?=some o:=(hE.block b (wR h) (λh=>h)).trans h
theorem A8 {W:World} {l b:Nat} {o o':Obj} (h:W.heap[b]?=some o) (hne:b≠l): (W.putObj l o').heap[b]?=some o:=(World.putObj_heap_other hne).trans h
theorem UZ {P:Program} {n:Nat} {c:Code} {Q:Exit->Act->World->Prop} {a:Act} {w:World} {t gf:Nat} {lb:Array Value} {α:Type} {encs:α->Array Value} {xs:List α} {I:List α->World->Prop}
  (hc:Gn c t=true) (U0:a.eval (.tmp t)=.func (.func gf) #[] lb) (eg:∀args w,(callFunc gf args).run P w=.ok (.enter gf args) w) (hps:∀x,(encs x).size=(wQ c).size)
  (Gq:∀pre A B,I pre A->Ext No A B->I pre B) (Gs:∀pre A B,I pre A->DK w.heap.size A B->I pre B) (h0:I [] w)
  (Gm:∀l k (hk:k<xs.length) A,I (xs.take k) A->(A5 c).wpIn (Fence.wide.inRound l) 0 P
   (Exit.then (λa1 wS=>Gp w.heap.size A wS/\I (xs.take k) wS/\∀DL,DK w.heap.size wS DL->I (xs.take k) DL->(A6 c).wpIn (Fence.wide.inRound l) 0 P (λe _ Gt=>e=.normal/\Gp w.heap.size DL Gt/\I (xs.take (k+1)) Gt) a1 DL) (λ_ _ _=>False))
   {tmps:=((wQ c).zip (encs xs[k])).foldl (λt (p,v)=>t.setIfInBounds p v) a.tmps,defers:=[]} A)
  (hseq:∀l qf (J:List α->World->Prop),(∀pre A B,J pre A->Ext No A B->J pre B)->(∀pre A,J pre A->I pre A)->
   (∀k (hk:k<xs.length) A,J (xs.take k) A->YieldAt Fence.wide 0 P l (encs xs[k]) A (λe W'=>e=.returned (.bool true)/\J (xs.take (k+1)) W'))->J [] qf->Calls P gf (#[.func (.yield l) #[] #[]]++lb) qf (bM λ_ w'=>J xs w'))
  (hdone:∀D W,w.heap.size<=D->I xs W->W.heap[D]?=some (.deferred (some []))->Q .normal {a with defers:={target:=.collected D,args:=#[]}::a.defers} W):c.wpIn Fence.wide n P Q a w:=by
 rw[UX hc];refine wpIn_rangeFunc λfn _=>?_;obtain⟨rec,wT⟩:∃rec:LoopState->Option Code->Loop,rec=λst U1=>{state:=st,pending:=U1,fn:=fn,tmps:=a.tmps,params:=wQ c,assign:=A5 c,body:=A6 c,defers:=w.heap.size}:=⟨_,rfl⟩
 obtain⟨qf,sM⟩:∃qf,(w.alloc (.deferred (some []))).alloc (.loop (rec .ready none))=qf:=⟨_,rfl⟩
 have Gu:qf.heap[w.heap.size+1]?=some (.loop (rec .ready none)):=by
  rw[<-sM];have:=World.alloc_heap_new (w.alloc (.deferred (some []))) (.loop (rec .ready none));rwa [World.size_alloc] at this
 have U2:qf.heap[w.heap.size]?=some (.deferred (some [])):=by
  rw[<-sM];exact UY (World.alloc_heap_new w _)
 have U3:I [] qf:=by rw[<-sM];exact Gq _ _ _ (Gq _ _ _ h0 (tf _ _).ext) (tf _ _).ext
 obtain⟨J,hJ⟩:∃J:List α->World->Prop,J=λpre W=>I pre W/\W.heap[w.heap.size+1]?=some (.loop (rec .ready none))/\W.heap[w.heap.size]?=some (.deferred (some [])):=⟨_,rfl⟩
 have tR:∀pre A,J pre A↔(I pre A/\A.heap[w.heap.size+1]?=some (.loop (rec .ready none))/\A.heap[w.heap.size]?=some (.deferred (some []))):=λpre A=>by rw[hJ]
 have U4:∀k (hk:k<xs.length) A,J (xs.take k) A->YieldAt Fence.wide 0 P (w.heap.size+1) (encs xs[k]) A (λe W'=>e=.returned (.bool true)/\J (xs.take (k+1)) W'):=λk hk A h=>by
  obtain⟨hi,hl,hkk⟩:=(tR _ _).1 h;have hy:=run_yield (P:=P) (args:=encs xs[k]) hl (by rw[wT];exact hps _);have e1: (rec .ready none).fn=fn/\(rec .ready none).tmps=a.tmps/\(rec .ready none).params=wQ c/\(rec .ready none).assign=A5 c/\(rec .ready none).body=A6 c:=by rw[wT];exact⟨rfl,rfl,rfl,rfl,rfl⟩
  rw[e1.1,e1.2.1,e1.2.2.1,e1.2.2.2.1,e1.2.2.2.2] at hy;refine⟨fn,_,A5 c,A6 c,hy,roundIn_of_wpIn (n:=0) trivial (wpIn_mono (Gm (w.heap.size+1) k hk A hi) ?_)⟩;intro e a1 wS hq;cases e with
  |normal=>
   obtain⟨M6,hi1,hbody⟩:=hq;have Gv:=M6 _ _ (by omega) hl rfl;have sx:=M6 _ _ (Nat.le_refl _) hkk rfl;obtain⟨o2,M7⟩:∃o2:Loop,o2={rec .ready none with state:=.busy}:=⟨_,rfl⟩
   have Gw:=run_beginRound (P:=P) Gv (by rw[wT]);rw[<-M7] at Gw;refine⟨_,Gw,?_⟩;have hT:DK w.heap.size wS (wS.putObj (w.heap.size+1) (.loop o2)):=⟨_,_,_,by omega,Gv,rfl,rfl⟩
   have j_: (wS.putObj (w.heap.size+1) (.loop o2)).heap[w.heap.size+1]?=some (.loop o2):=World.putObj_heap_same (wR Gv);have hk2:=A8 (o':=.loop o2) sx (show w.heap.size≠w.heap.size+1 by omega);refine wpIn_mono (hbody _ hT (Gs _ _ _ hi1 hT)) ?_;intro e a3 Gt hp;obtain⟨rfl,M8,Gx⟩:=hp;have Gy:=M8 _ _ (by omega) j_ rfl;have U5:=M8 _ _ (Nat.le_refl _) hk2 rfl;have hend:=run_endRound (P:=P) none Gy;have fV: ({o2 with state:=if(none:Option Code).isNone then .ready else .done,pending:=none}:Loop)=rec .ready none:=by rw[M7,wT];rfl
   rw[fV] at hend;refine⟨_,_,hend,rfl,(tR _ _).2 ⟨Gs _ _ _ Gx ⟨_,_,_,by omega,Gy,rfl,rfl⟩,World.putObj_heap_same (wR Gy),A8 U5 (by omega)⟩⟩
  |exit id=>exact hq.elim
  |ret=>exact hq.elim
  |goto t=>exact hq.elim
  |panic ch=>exact hq.elim
  |outgrown=>exact hq.elim
 have l7:=hseq (w.heap.size+1) qf J (λpre A B h hE=>(tR _ _).2 ⟨Gq _ _ _ ((tR _ _).1 h).1 hE,A7 ((tR _ _).1 h).2.1 hE,A7 ((tR _ _).1 h).2.2 hE⟩) (λpre A h=>((tR _ _).1 h).1) U4 ((tR _ _).2 ⟨U3,Gu,U2⟩);refine⟨w.heap.size+1,[{target:=.collected w.heap.size,args:=#[]}],qf,{target:=.fn (.func gf) lb,args:=#[.func (.yield (w.heap.size+1)) #[] #[]]},qf,gf,
  #[.func (.yield (w.heap.size+1)) #[] #[]]++lb,qf,?_,?_,?_,?_,?_,?_⟩
 ·rw[<-sM,wT];exact run_enterLoop_outer _ _ _ _ _
 ·simp only[resolve,U0];simp[go_sem]
 ·intro _ _;trivial
 ·simp[invoke,go_sem,eg]
 ·intro h;simp[Fence.wide] at h
 ·refine callsIn_wide.2 (l7.mono ?_);rintro e vp ⟨v,rfl,hj⟩;obtain⟨hi,hl,hk⟩:=(tR _ _).1 hj;have:=run_endLoop (P:=P) hl (by rw[wT];simp);rw[wT] at this;exact⟨none,_,this,hdone _ _ (Nat.le_refl _) (Gs _ _ _ hi ⟨_,_,_,by omega,hl,rfl,rfl⟩) (A8 hk (by omega))⟩
section
variable {F:Fence} {n:Nat} {P:Program} {N:Nat} {Q:Exit->Act->World->Prop} {D:List Deferred} {env:Env} {w:World} {a:Act} {c:Code}
theorem DM (h: (cl c).wpIn F n P (Exit.then ((aJ c).wpIn F n P Q) Q) a w) (hc:J3 c=true:=by kernel_rfl):c.wpIn F n P Q a w:=by
 have e:c=.seq (cl c) (aJ c):=by cases c with|seq a b=>rfl|_=>cases hc
 rw[e];exact wpIn_seq h
theorem M9 (id:Nat) (h: (cl c).wpIn F n P (Exit.inBlock id Q) a w) (hc:Cz c id=true:=by kernel_rfl):c.wpIn F n P Q a w:=by
 have e:c=.block id (cl c):=by cases c with|block a b=>simp only[Cz] at hc;rw[Nat.eq_of_beq_eq_true hc];rfl|_=>cases hc
 rw[e];exact wpIn_block h
theorem A9 (ha:mq N env a) (hD:a.defers=D) (h:sL F n P N Q (dy c) D (List.range (dy c).size) env w) (hc:Ad c false=true:=by kernel_rfl):c.wpIn F n P Q a w:=by
 obtain⟨id,e⟩:=EY hc;rw[e];exact wpIn_region (h a ha hD)
def U6 (c:Code):Bool:=match c with| .ret=>true|_=>false
theorem U7 (h:Q .ret a w) (hc:U6 c=true:=by kernel_rfl):c.wpIn F n P Q a w:=by
 have e:c=.ret:=by cases c with|ret=>rfl|_=>cases hc
 rw[e];exact wpIn_ret h
end
theorem U8 {P:Program} {f:FuncId} {fn:Func} {c:Code} (args:List Value) {N n:Nat} {w:World} {R:Value->World->Prop}
  (hf:P.funcs[f]?=some fn) (hb:fn.body=some c) (hN:fn.ntmps=N) (hsz:Nat.ble args.length N=true)
  (h:∀a,mq N (xS 0 args) a->a.defers=[]->c.wpIn Fence.wide n P (bodyPostM Fence.wide n P fn (bM R)) a w):Calls P f args.toArray w (bM R):=by
 refine callsIn_wide.1 (callsIn_of_wp_marks (n:=n) hf hb trivial (h _ ⟨?_,rfl,λt v ht=>?_⟩ rfl) rfl)
 ·have:=Nat.le_of_ble_eq_true hsz;simp[hN];omega
 ·have h1:=(EN args 0 t v ht).2;simp only[Nat.sub_zero] at h1;have h2:t<args.length:=by
   rcases Nat.lt_or_ge t args.length with h|h
   ·exact h
   ·rw[List.getElem?_eq_none h] at h1;cases h1
  simp only;rw[Array.getElem?_append_left (by simpa using h2)];simpa using h1
theorem mq.ev {N:Nat} {env:Env} {a:Act} (h:mq N env a) {x:Operand} {v:Value} (hx:K.ev env x=some v):a.eval x=v:=by
 have:=jW.ev h hx;cases x<;>exact this
theorem mq.yield {N:Nat} {env:Env} {a:Act} (h:mq N env a) {t:Nat} (ht:Nat.blt t N=true) (v:Value):mq N ((t,v)::env) {tmps:=((#[t]:Array Tmp).zip #[v]).foldl (λt (p,v)=>t.setIfInBounds p v) a.tmps,defers:=[]}:=by
 have:=mq.put h (d:=some t) ht v;unfold mq at this⊢;simpa[Act.put,qZ] using this
def pq (bo:Nat) (v:Value):Nat->Nat:=λb=>if b=bo then 2 else if v.ownBlock=some b then 5 else 0
def AS (oA nB:Nat) (w₀:World) (n1 bo:Nat) (pre:List av) (W:World):Prop:=
 ∃v,Ext No w₀ W/\W.heap[bo]?=some (.cells [v].toArray oA)/\bn W (pq bo v) 5 nB v pre/\∀b,cI v b->n1<=b
section
variable {w w' w₀ W A B:World} {C aP:Nat->Nat} {j j' e oA nB n0 n1 bo:Nat} {v:Value} {ys pre:List av}
theorem bn.any (h:bn W C j e v ys) (hh:∀b,cI v b->w'.heap[b]?=W.heap[b]?) (hc:∀b,cI v b->aP b=j') (hj:j'≠0):bn w' aP j' e v ys:=by
 refine⟨?_,hc⟩;rcases h.own with⟨rfl,rfl⟩|⟨g,cap,cs,hv,gI,hcs,h1,h2,h3⟩
 ·exact .inl ⟨rfl,rfl⟩
 ·subst hv;exact .inr ⟨g,cap,cs,rfl,by unfold aB;rw[hc g rfl];exact hj,(hh g rfl).trans hcs,h1,h2,λi hi=>qx.2 (qx.1 (h3 i hi))⟩
theorem bn.cells (h:bn W C j e v ys) {b:Nat} (hb:cI v b):∃cs,W.heap[b]?=some (.cells cs e):=by
 rcases h.own with⟨rfl,rfl⟩|⟨g,cap,cs,hv,gI,hcs,h1,h2,h3⟩
 ·cases hb
 ·subst hv;cases hb;exact⟨cs,hcs⟩
theorem M_ {l:Nat} {o:Obj} (h:Ext No w₀ A) (hl:w₀.heap.size<=l):Ext No w₀ (A.putObj l o):=
 ⟨h.os,h.tape,h.output,by simpa using h.size,λb hb hn=>(World.putObj_heap_other (by omega)).trans (h.block b hb hn),h.drawn⟩
theorem AS.ext (h:AS oA nB w₀ n1 bo pre A) (hE:Ext No A B):AS oA nB w₀ n1 bo pre B:=by
 obtain⟨v,h1,h2,h3,h4⟩:=h;exact⟨v,h1.trans hE (λ_ _ h=>h),A7 h2 hE,h3.any (λb hb=>hE.block b (h3.own.fA b hb).2 (λh=>h)) h3.col (by decide),h4⟩
theorem AS.turn (h:AS oA nB w₀ n1 bo pre A) (hn:w₀.heap.size<=n0) (hT:DK n0 A B):AS oA nB w₀ n1 bo pre B:=by
 obtain⟨v,h1,h2,h3,h4⟩:=h;obtain⟨l,o,o',hl,ho,hc,rfl⟩:=hT;refine⟨v,M_ h1 (by omega),A8 h2 (λe=>?_),h3.any (λb hb=>World.putObj_heap_other (λe=>?_)) h3.col (by decide),h4⟩
 ·subst e;rw[h2] at ho;cases ho;cases hc
 ·subst e;obtain⟨cs,hcs⟩:=h3.cells hb;rw[hcs] at ho;cases ho;cases hc
theorem AS.lim {v:Value} (h2:W.heap[bo]?=some (.cells [v].toArray oA)) (h3:bn W (pq bo v) 5 nB v pre):aM W (pq bo v):=λb hb=>by
 unfold pq at hb;split at hb
 ·rename_i e;subst e;exact wR h2
 ·split at hb
  ·rename_i e;exact(h3.own.fA b e).2
  ·exact absurd rfl hb
theorem AS.close {v v':Value} {aP:Nat->Nat} {ys:List av} (h1:Ext No w₀ A) (h2:A.heap[bo]?=some (.cells [v].toArray oA)) (h3:bn A (pq bo v) 5 nB v pre) (h4:∀b,cI v b->n1<=b) (oD:w₀.heap.size<=bo) (hn:w₀.heap.size<=n1) (hA:n1<=A.heap.size)
  (hs:ay [2,5] A (pq bo v) B aP) (g2:dN B aP 2 bo (.cells [v'].toArray oA)) (g3:bn B aP 5 nB v' ys):Gp n0 A B/\AS oA nB w₀ n1 bo ys B:=by
 have Gz:∀b,pq bo v b∈[2,5]->b=bo\/cI v b:=λb hb=>by
  unfold pq at hb;split at hb
  ·left;assumption
  ·split at hb
   ·right;assumption
   ·simp at hb
 refine⟨λb o hb ho hc=>(hs.ext.block b (wR ho) (λhm=>?_)).trans ho,v',⟨hs.ext.os.trans h1.os,hs.ext.tape.trans h1.tape,hs.ext.output.trans h1.output,Nat.le_trans h1.size hs.ext.size,λb hb _=>?_,((Ext.mono (A':=λb=>pq bo v b∈[2,5]) h1 (λb _ hb=>hb.elim)).trans hs.ext (λb _ h=>h) |>.drawn)⟩,g2.at_,g3.any (λ_ _=>rfl) (λb hb=>?_) (by decide),λb hb=>?_⟩
 ·rcases Gz b hm with rfl|h
  ·rw[h2] at ho;cases ho;cases hc
  ·obtain⟨cs,hcs⟩:=h3.cells h;rw[hcs] at ho;cases ho;cases hc
 ·refine(hs.ext.block b (Nat.lt_of_lt_of_le hb h1.size) (λhm=>?_)).trans (h1.block b hb (λh=>h));rcases Gz b hm with rfl|h
  ·omega
  ·have:=h4 b h;omega
 ·have:=g3.col b hb;unfold pq;rw[if_neg (λe=>by subst e;rw[g2.col] at this;cases this),if_pos (show v'.ownBlock=some b from hb)]
 ·have hc:=g3.col b hb;rcases Nat.lt_or_ge b A.heap.size with hlt|hge
  ·rw[hs.col b hlt] at hc;rcases Gz b (by rw[hc];simp) with rfl|h
   ·have:=g2.col;rw[hs.col b hlt] at this;omega
   ·exact h4 b h
  ·omega
end
end Go.K
