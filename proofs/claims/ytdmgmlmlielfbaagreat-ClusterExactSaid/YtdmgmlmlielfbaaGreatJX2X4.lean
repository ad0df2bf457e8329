/- Steps through functions of the program. -/
import Derived.Test.YtdmgmlmlielfbaaGreatJH3X1
import Derived.Test.YtdmgmlmlielfbaaGreatL3
set_option linter.unusedVariables false
set_option linter.unusedSimpArgs false
set_option maxRecDepth 100000
set_option maxHeartbeats 4000000
namespace Go.Proofs.YtdmgmlmlielfbaaGreat
open Go.K Go.K.bg
noncomputable section
namespace xG
def c0:=cz Tryz.f88
def qg:=(cl (cl (cl (aJ (aJ c0)))))
def o2:=dy (cl (cl qg))
def tS:=(cl (cl (aJ (aJ (aJ c0)))))
def jR:=dy tS
def lu:=(cl (aJ (aJ (aJ (aJ c0)))))
def mc:=dy lu
end xG
theorem xH {w₀:World} {C:Nat->Nat} {l:List av} {c:av} {aF:Value} (hF:aM w₀ C) (hl:aG w₀ (aB C) l aF) (hlen:l.length<=8796093022000):Calls Tryz.prog 88 #[aF,.agg #[.int .i64 c.a,.int .i64 c.b]] w₀ (bM λv w'=>ay [] w₀ C w' C/\aG w' (aB C) (eZ l c) v):=by
 have bp:=hF;have hT:=z9 w₀ C;replace hF:=hF.bE;replace hl:=hl.c1;refine ct xG.c0 46 [aF,.agg #[.int .i64 c.a,.int .i64 c.b]] Tryz.func88 ?_;show Run _ _ _ _ [(0,aF),(1,.agg #[.int .i64 c.a,.int .i64 c.b])] _ _;refine aj (aq [nn 0,af 1] ?_);refine bT (au 3 (.box 47 (.tmp 1))) rfl rfl (eU (cs:=aZ c) hF 3 rfl rfl) ?_;rintro _ w1 ⟨eu,c4,rfl,s_1,hx,hF⟩;refine aR 4 (.slice none 0 0) (ai.nil (aj (aq [af 0] ?_)));refine aR 5 (.int .i64 0) ?_;refine ai.nil (aj (bF 0 ?_));refine cM (ι:=Nat×(Nat->Nat)) (I:=λx w=>x.1<=l.length/\(∀i,i<x.1->∀(hi:i<l.length),mT l[i] c=true)/\aM w x.2/\ay [2,3,4,5,6,7,8,9] w₀ (bE C) w x.2/\aG w (aB x.2) l aF/\dN w x.2 3 c4 (.cells (aZ c).toArray 47)) (e:=λx=>[(0,aF),(3,.pointer (some ⟨c4,0,none⟩)),(4,.slice none 0 0),(5,.int .i64 x.1)]) (m:=λx=>l.length-x.1) (cD:=(0,eu)) (ak 0 (ak 3 (ak 4 (ak 5 (aY _))))) ?_ ?_
 ·
   replace hT:=hT.t s_1;replace hl:=hl.t s_1;exact⟨Nat.zero_le _,λi hi=>by simp at hi,hF,hT,hl,hx⟩
 intro⟨k,bC⟩ w2 hI cn;obtain⟨hk,h0,hF,hT,hl,hx⟩:=hI;try simp only at hk h0 hF hT hl hx
 show Run _ _ _ _ [(0,aF),(3,.pointer (some ⟨c4,0,none⟩)),(4,.slice none 0 0),(5,.int .i64 k)] _ _;refine aj (aj ?_);refine kV 18 ((if h:k<l.length then mT l[k] c else false)) (bC) ?_ ?_
 ·
  intro dn;by_cases hA: (k:Int)<l.length
  ·
   refine cw (id:=2) (ops:=xG.o2) [] (bC) [af 0,af 1,af 2,af 3,af 4,af 5,af 6,af 7,af 8,af 9,nn 10,af 11] cm (by kernel_rfl) (by kernel_rfl) (by kernel_rfl) ?_;intro w3 s_2;have hcs:=s_2;have hR:=ay.refl [] w3 (bC);refine ah 7 5 (ah 8 0 ?_);replace hl:=hl.t s_2;refine zE 9 8 53 (hl.b8 rfl Tryz.underlying53) ?_;refine ax (au 10 (.binOp .lss 3 (.tmp 7) (.tmp 9) 3)) (λ_=>dc (eX rfl rfl) hA) ?_;refine ah 11 10 ?_;refine aX 12 0 4 true (aX 13 5 4 true ?_);refine iS (e:=47) (aA 14 (.indexAddr 53 (.tmp 12) (.tmp 13)) 4 true) rfl rfl hl rfl (by kernel_rfl) rfl (by omega) (by omega) ?_;intro rL kK er;try simp only[aI] at er
   refine cB (aA 15 (.load 47 (.tmp 14)) 4 true) rfl rfl (λw' hS=>er.bu hS) er (by kernel_rfl) (by kernel_rfl) rfl rfl ?_;intro tF g15;obtain rfl:=bY.1 g15;replace hx:=hx.t s_2;refine dH (aA 16 (.load 47 (.tmp 3)) 4 true) rfl rfl (λw' hS=>eL (n:=2) (vs:=aZ c) (hx.stay hS (by decide)) (by kernel_rfl) (by kernel_rfl) rfl rfl rfl) ?_;replace hF:=hF.st s_2;refine gO (aA 17 (.call {callee:=.value (.func 56),args:=#[(.tmp 15),(.tmp 16)],argTypes:=#[47,47]}) 4 true) rfl rfl (cL Tryz.call56 rfl) (rT (x:=l[k]) (y:=c) hF) ?_;rintro j4 w4 ⟨rfl,aH⟩;refine⟨(hR.trans aH (by simp)).ext,?_⟩;refine en 18 11 17 ?_;replace hcs:=hcs.t aH;exact ai.nil (dn _ _ _ hcs rfl (by rw[dif_pos (by omega),Oz]) (ec 12))
  refine cw (id:=2) (ops:=xG.o2) [] (bC) [af 0,af 1,af 2,af 3,af 4,af 5,af 6,af 7,af 8,af 9,nn 10,af 11] cm (by kernel_rfl) (by kernel_rfl) (by kernel_rfl) ?_;intro ew aV;have hcs:=aV;have hR:=ay.refl [] ew (bC);refine ah 7 5 (ah 8 0 ?_);replace hl:=hl.t aV;refine zE 9 8 53 (hl.b8 rfl Tryz.underlying53) ?_;refine ax (au 10 (.binOp .lss 3 (.tmp 7) (.tmp 9) 3)) (λ_=>di (eX rfl rfl) hA) ?_;refine ah 11 10 ?_;refine aC 12 4 true (aC 13 4 true (aC 14 4 true (aC 15 4 true (aC 16 4 true ?_))));refine c9 (aA 17 (.call {callee:=.value (.func 56),args:=#[(.tmp 15),(.tmp 16)],argTypes:=#[47,47]}) 4 true) rfl rfl hR.ext ?_;refine gl 18 11 17 ?_;exact ai.nil (dn _ _ _ hcs rfl (by rw[dif_neg (by omega)]) (ec 12))
 intro fh aQ;refine iL 18 rfl (λoH=>?_) (λoH=>?_)
 ·
  have aK:k<l.length:=by
    apply Classical.byContradiction;intro e;rw[dif_neg e] at oH;cases oH
  rw[dif_pos aK] at oH;refine bk (bF 1 (aq [af 0,af 1,af 2] ?_));refine ah 19 5 ?_;refine bZ 20 3 19 1 (aD 5 20 (ai.nil (bS ?_)));replace hF:=hF.st aQ;replace hT:=hT.t aQ;replace hl:=hl.t aQ;replace hx:=hx.t aQ;refine kp (aL 0 rfl rfl (aL 3 rfl rfl (aL 4 rfl rfl (aL 5 rfl (eq_int (by simp)) (aY _))))) (cn (k+1,bC) _ ⟨(by first|omega|(simp only;omega)),(λi hi hl=>by
      simp only at hi;by_cases e:i=k
      ·subst e;exact oH
      ·exact h0 i (by omega) hl),hF,hT,hl,hx⟩ (by first|omega|(simp only;omega)))
 have hins:=Mk (c:=c) hk (λi hi h=>h0 i hi h) (λh=>by rw[dif_pos h] at oH;exact oH);refine cA 0 ?_;refine aj (aj ?_);refine kV 32 ((if h:k<l.length then decide (l[k]=c) else false)) (bC) ?_ ?_
 ·
  intro dn;by_cases hA: (k:Int)<l.length
  ·
   refine cw (id:=4) (ops:=xG.jR) [] (bC) [af 0,af 1,af 2,af 3,af 4,af 5,af 6,af 7,af 8,af 9,af 10,af 11] cm (by kernel_rfl) (by kernel_rfl) (by kernel_rfl) ?_;intro w7 bh;have hcs:=bh;refine ah 21 5 (ah 22 0 ?_);replace hl:=(hl.t aQ).t bh;refine zE 23 22 53 (hl.b8 rfl Tryz.underlying53) ?_;refine ax (au 24 (.binOp .lss 3 (.tmp 21) (.tmp 23) 3)) (λ_=>dc (eX rfl rfl) hA) ?_;refine ah 25 24 ?_;refine aX 26 0 4 true (aX 27 5 4 true ?_);refine iS (e:=47) (aA 28 (.indexAddr 53 (.tmp 26) (.tmp 27)) 4 true) rfl rfl hl rfl (by kernel_rfl) rfl (by omega) (by omega) ?_;intro PU PW fS;try simp only[aI] at fS
   refine cB (aA 29 (.load 47 (.tmp 28)) 4 true) rfl rfl (λw' hS=>fS.bu hS) fS (by kernel_rfl) (by kernel_rfl) rfl rfl ?_;intro n9 dR;obtain rfl:=bY.1 dR;replace hx:=(hx.t aQ).t bh;refine dH (aA 30 (.load 47 (.tmp 3)) 4 true) rfl rfl (λw' hS=>eL (n:=2) (vs:=aZ c) (hx.stay hS (by decide)) (by kernel_rfl) (by kernel_rfl) rfl rfl rfl) ?_;refine ax (aA 31 (.binOp .eql 47 (.tmp 29) (.tmp 30) 47) 4 true) (λ_=>iY (a:=l[k]) (b:=c) Tryz.underlying47 (by decide) (by decide) (by kernel_rfl) Tryz.underlying3 rfl rfl) ?_;refine en 32 25 31 ?_;exact ai.nil (dn _ _ _ hcs rfl (by rw[dif_pos (by omega)]) (ec 12))
  refine cw (id:=4) (ops:=xG.jR) [] (bC) [af 0,af 1,af 2,af 3,af 4,af 5,af 6,af 7,af 8,af 9,af 10,af 11] cm (by kernel_rfl) (by kernel_rfl) (by kernel_rfl) ?_;intro fR bq;have hcs:=bq;refine ah 21 5 (ah 22 0 ?_);replace hl:=(hl.t aQ).t bq;refine zE 23 22 53 (hl.b8 rfl Tryz.underlying53) ?_;refine ax (au 24 (.binOp .lss 3 (.tmp 21) (.tmp 23) 3)) (λ_=>di (eX rfl rfl) hA) ?_;refine ah 25 24 ?_;refine aC 26 4 true (aC 27 4 true (aC 28 4 true (aC 29 4 true (aC 30 4 true (aC 31 4 true ?_)))));refine gl 32 25 31 ?_;exact ai.nil (dn _ _ _ hcs rfl (by rw[dif_neg (by omega)]) (ec 12))
 intro gC br;refine iL 32 rfl (λgA=>?_) (λgA=>?_)
 ·
  have aK:k<l.length:=by
    apply Classical.byContradiction;intro e;rw[dif_neg e] at gA;cases gA
  rw[dif_pos aK] at gA;rw[dif_pos aK,if_pos (of_decide_eq_true gA)] at hins;refine aj (aq [af 0,af 1] ?_);refine ah 33 0 (aD 4 33 (ai.nil ?_));refine bN Tryz.func88 Tryz.results88 ?_;replace hT:=(hT.t aQ).t br;replace hl:=(hl.t aQ).t br;exact⟨hT.bW (by decide),by rw[hins];exact hl.out hT bp (fP C)⟩
 have Bi:eZ l c=l.take k++c::l.drop k:=by
   rw[hins];by_cases aK:k<l.length
   · rw[dif_pos aK] at gA⊢;rw[if_neg (of_decide_eq_false gA)]
   rw[dif_neg aK,List.take_of_length_le (by omega),List.drop_of_length_le (by omega)]
 refine bk (aj ?_);refine Ac (id:=6) (ops:=xG.mc) [5] (bC) [0,1,2,4] 3 [nn 5,nn 6,af 7] 5 [nn 3,nn 6,af 7] cm (by kernel_rfl) (by kernel_rfl) (by kernel_rfl) ?_ ?_
 ·
  intro iD bK;show ai _ _ _ _ _ _ _ [af 0,af 1,af 2,af 4,nn 3,nn 5,nn 6,af 7] _ _;have hR:=ay.refl [5] iD (bC);refine ah 34 0 (ah 35 5 ?_);replace hl:=((hl.t aQ).t br).t bK;refine q8 (e':=47) (au 36 (.slice 53 (.tmp 34) none (some (.tmp 35)) none)) rfl rfl hl rfl (by kernel_rfl) rfl (by omega) (by omega) ?_;intro wY iz;try simp only[aI] at iz
  replace hx:=((hx.t aQ).t br).t bK;refine iN 38 47 3 2 (aZ c) (hx.stay · (by decide)) ?_;replace hF:=((hF.st aQ).st br).st bK;refine gi (au 37 (.call {callee:=.builtin .append,args:=#[(.const (.slice none 0 0)),(.tmp 36)],argTypes:=#[53,53]})) rfl rfl (fU (e:=47) (bytes:=16) hF (by decide) rfl rfl (by kernel_rfl) (by decide) (bn.nil (α:=av) (j:=5)) iz (by simp only[List.length_append,List.length_take,List.length_nil,List.length_drop,List.length_cons];omega) (by simp only[List.length_append,List.length_take,List.length_nil,List.length_drop,List.length_cons];omega)) ?_;rintro v37 ja ⟨ue,bH,hn,hF⟩;refine⟨(hR.trans bH (by simp)).ext,?_⟩;refine gi (au 39 (.buildSlice 53 1 #[(0,(.tmp 38))])) rfl rfl (fI (ys:=([c]:List av)) (e:=47) (bytes:=16) hF (by kernel_rfl) rfl (by decide) (by decide) ⟨rfl,⟨_,rfl,bY.2 rfl⟩,trivial⟩) ?_;rintro v39 jy ⟨bJ,B5,hF⟩;replace hR:=hR.t bH;refine⟨(hR.trans bJ (by simp)).ext,?_⟩;replace hn:=hn.t bJ;refine gi (au 40 (.call {callee:=.builtin .append,args:=#[(.tmp 37),(.tmp 39)],argTypes:=#[53,53]})) rfl rfl (fU (e:=47) (bytes:=16) hF (by decide) rfl rfl (by kernel_rfl) (by decide) hn B5 (by simp only[List.length_append,List.length_take,List.length_nil,List.length_drop,List.length_cons];omega) (by simp only[List.length_append,List.length_take,List.length_nil,List.length_drop,List.length_cons];omega)) ?_;rintro v40 jS ⟨DS,b5,hn,hF⟩;replace hR:=hR.t bJ;refine⟨(hR.trans b5 (by simp)).ext,?_⟩;refine aD 6 40 (ai.nil (aj (aq [af 0,af 1,af 2,af 3,nn 4,af 5] ?_)));refine ah 41 6 (ah 42 0 (ah 43 5 ?_));replace hl:=((hl.t bH).t bJ).t b5;refine Ah (e':=47) (au 44 (.slice 53 (.tmp 42) (some (.tmp 43)) none none)) rfl rfl hl rfl (by kernel_rfl) rfl (by omega) (by omega) ?_;intro v44 jO;try simp only[aI] at jO
  refine bT (au 45 (.call {callee:=.builtin .append,args:=#[(.tmp 41),(.tmp 44)],argTypes:=#[53,53]})) rfl rfl (fU (e:=47) (bytes:=16) hF (by decide) rfl rfl (by kernel_rfl) (by decide) hn jO (by simp only[List.length_append,List.length_take,List.length_nil,List.length_drop,List.length_cons];omega) (by simp only[List.length_append,List.length_take,List.length_nil,List.length_drop,List.length_cons];omega)) ?_;rintro v45 kB ⟨qo,bX,hn,hF⟩;refine aD 4 45 (ai.nil ?_);refine bN Tryz.func88 Tryz.results88 ?_;have e: ([]++List.take k l++[c])++List.drop k l=eZ l c:=by rw[Bi];simp
  rw[e] at hn;replace hT:=((((((hT.t aQ).t br).t bK).t bH).t bJ).t b5).t bX;exact⟨hT.bW (by decide),hn.out hT bp (fP C) (λb _=>k_ C (by decide) b) (by have:=u6 c l;omega)⟩
 intro kM bV;show ai _ _ _ _ _ _ _ [af 0,af 1,af 2,af 4,nn 5,nn 3,nn 6,af 7] _ _;have hR:=ay.refl [5] kM (bC);refine ah 34 0 (ah 35 5 ?_);replace hl:=((hl.t aQ).t br).t bV;refine q8 (e':=47) (au 36 (.slice 53 (.tmp 34) none (some (.tmp 35)) none)) rfl rfl hl rfl (by kernel_rfl) rfl (by omega) (by omega) ?_;intro wY iz;try simp only[aI] at iz
 replace hx:=((hx.t aQ).t br).t bV;refine iN 38 47 3 2 (aZ c) (hx.stay · (by decide)) ?_;replace hF:=((hF.st aQ).st br).st bV;refine gi (au 39 (.buildSlice 53 1 #[(0,(.tmp 38))])) rfl rfl (fI (ys:=([c]:List av)) (e:=47) (bytes:=16) hF (by kernel_rfl) rfl (by decide) (by decide) ⟨rfl,⟨_,rfl,bY.2 rfl⟩,trivial⟩) ?_;rintro v39 kN ⟨ck,B5,hF⟩;refine⟨(hR.trans ck (by simp)).ext,?_⟩;replace iz:=iz.t ck;refine gi (au 37 (.call {callee:=.builtin .append,args:=#[(.const (.slice none 0 0)),(.tmp 36)],argTypes:=#[53,53]})) rfl rfl (fU (e:=47) (bytes:=16) hF (by decide) rfl rfl (by kernel_rfl) (by decide) (bn.nil (α:=av) (j:=5)) iz (by simp only[List.length_append,List.length_take,List.length_nil,List.length_drop,List.length_cons];omega) (by simp only[List.length_append,List.length_take,List.length_nil,List.length_drop,List.length_cons];omega)) ?_;rintro v37 mW ⟨NZ,cv,hn,hF⟩;replace hR:=hR.t ck;refine⟨(hR.trans cv (by simp)).ext,?_⟩;replace B5:=B5.t cv;refine gi (au 40 (.call {callee:=.builtin .append,args:=#[(.tmp 37),(.tmp 39)],argTypes:=#[53,53]})) rfl rfl (fU (e:=47) (bytes:=16) hF (by decide) rfl rfl (by kernel_rfl) (by decide) hn B5 (by simp only[List.length_append,List.length_take,List.length_nil,List.length_drop,List.length_cons];omega) (by simp only[List.length_append,List.length_take,List.length_nil,List.length_drop,List.length_cons];omega)) ?_;rintro v40 lT ⟨PX,cC,hn,hF⟩;replace hR:=hR.t cv;refine⟨(hR.trans cC (by simp)).ext,?_⟩;refine aD 6 40 (ai.nil (aj (aq [af 0,af 1,af 2,af 3,nn 4,af 5] ?_)));refine ah 41 6 (ah 42 0 (ah 43 5 ?_));replace hl:=((hl.t ck).t cv).t cC;refine Ah (e':=47) (au 44 (.slice 53 (.tmp 42) (some (.tmp 43)) none none)) rfl rfl hl rfl (by kernel_rfl) rfl (by omega) (by omega) ?_;intro v44 jO;try simp only[aI] at jO
 refine bT (au 45 (.call {callee:=.builtin .append,args:=#[(.tmp 41),(.tmp 44)],argTypes:=#[53,53]})) rfl rfl (fU (e:=47) (bytes:=16) hF (by decide) rfl rfl (by kernel_rfl) (by decide) hn jO (by simp only[List.length_append,List.length_take,List.length_nil,List.length_drop,List.length_cons];omega) (by simp only[List.length_append,List.length_take,List.length_nil,List.length_drop,List.length_cons];omega)) ?_;rintro v45 mX ⟨Bj,cR,hn,hF⟩;refine aD 4 45 (ai.nil ?_);refine bN Tryz.func88 Tryz.results88 ?_;have e: ([]++List.take k l++[c])++List.drop k l=eZ l c:=by rw[Bi];simp
 rw[e] at hn;replace hT:=((((((hT.t aQ).t br).t bV).t ck).t cv).t cC).t cR;exact⟨hT.bW (by decide),hn.out hT bp (fP C) (λb _=>k_ C (by decide) b) (by have:=u6 c l;omega)⟩
namespace I5
def c0:=cz Tryz.f48
def oV:=(cl (aJ (cl (aJ (aJ c0)))))
def Ig:=dy (cl (cl (aJ (cl oV))))
end I5
theorem zz {w₀:World} {C:Nat->Nat} {l:List aO} {aF:Value} (hF:aM w₀ C) (hl:aG w₀ (aB C) l aF) (hlen:l.length<=100000):Calls Tryz.prog 48 #[aF] w₀ (bM λv w'=>ay [] w₀ C w' C/\aG w' (aB C) (aW l) v):=by
 have bp:=hF;have hT:=z9 w₀ C;replace hF:=hF.bE;replace hl:=hl.c1;refine ct I5.c0 25 [aF] Tryz.func48 ?_;show Run _ _ _ _ [(0,aF)] _ _;refine aj (aq [af 0] ?_);refine aR 2 (.slice none 0 0) (ai.nil (aj (aq [af 0] ?_)));refine aR 3 (.slice none 0 0) (ai.nil (aj (aj (aq [af 0] ?_))));refine aR 4 (.int .i64 0) ?_;refine ai.nil (bF 0 ?_);refine cM (ι:=Nat×Value×(Nat->Nat)) (I:=λx w=>x.1<=l.length/\aM w x.2.2/\ay [2,3,4,5,6,7,8,9] w₀ (bE C) w x.2.2/\aG w (aB x.2.2) l aF/\aG w (aB x.2.2) (rI (lp (l.take x.1))) x.2.1) (e:=λx=>[(0,aF),(3,x.2.1),(4,.int .i64 x.1)]) (m:=λx=>l.length-x.1) (cD:=(0,.slice none 0 0,bE C)) (ak 0 (ak 3 (ak 4 (aY _)))) ?_ ?_
 · exact⟨Nat.zero_le _,hF,hT,hl,jE⟩
 intro⟨i,eE,bC⟩ w1 hI cn;obtain⟨hi,hF,hT,hl,ho⟩:=hI;try simp only at hi hF hT hl ho
 show Run _ _ _ _ [(0,aF),(3,eE),(4,.int .i64 i)] _ _;have hrl:=T_ (lp (l.take i));rw[Am,List.length_take] at hrl;refine aj (aj (aq [af 0,af 1,af 2,af 3] ?_));refine ah 5 4 (ah 6 0 ?_);refine zE 7 6 23 (hl.b8 rfl Tryz.underlying23) ?_;refine dm 8 3 5 7 (ai.nil ?_);refine bI 8 rfl (λh8=>?_) (λh8=>?_)
 ·
  have hil:i<l.length:=by omega
  obtain⟨os,hos⟩:∃os,os=rI (lp (l.take i)):=⟨_,rfl⟩
  rw[<-hos] at ho hrl;have I6:=u6 l[i].A os;refine bk (aj (bF 1 ?_));refine cw (id:=5) (ops:=I5.Ig) [] (bC) [af 0,af 1,af 2,af 3,af 4,af 5,af 7,af 8,af 9,af 10,af 11,nn 6,nn 12,af 13] cm (by kernel_rfl) (by kernel_rfl) (by kernel_rfl) ?_;intro w2 s_1;have hR:=ay.refl [] w2 (bC);refine ah 11 3 (ah 12 0 (ah 13 4 ?_));replace hl:=hl.t s_1;refine cq 49 14 23 12 13 hl rfl (h:=?_);intro rL kK er;try simp only[aI] at er
  have gW:=bP.kH er;refine bD 15 49 14 0 0 ?_;refine cB (au 16 (.load 47 (.tmp 15))) rfl rfl (λw' hS=>gW.bu hS) gW (by kernel_rfl) (by kernel_rfl) rfl rfl ?_;intro ql g16;obtain rfl:=bY.1 g16;refine ah 18 0 (ah 19 4 ?_);refine cq 49 20 23 18 19 hl rfl (h:=?_);intro Nz NA jT;try simp only[aI] at jT
  have kO:=bP.nj jT;refine bD 21 49 20 1 2 ?_;refine cB (au 22 (.load 47 (.tmp 21))) rfl rfl (λw' hS=>kO.bu hS) kO (by kernel_rfl) (by kernel_rfl) rfl rfl ?_;intro v22 g22;obtain rfl:=bY.1 g22;replace hF:=hF.st s_1;replace ho:=ho.t s_1;refine dI 17 88 [11,16] [53,47] Tryz.call88 rfl (xH (c:=l[i].A) hF ho (by omega)) ?_;rintro I7 w3 ⟨s_2,hq1⟩;refine⟨(hR.trans s_2 (by simp)).ext,?_⟩;replace hF:=hF.st s_2;refine dI 23 88 [17,22] [53,47] Tryz.call88 rfl (xH (c:=l[i].B) hF hq1 (by omega)) ?_;rintro B6 w4 ⟨aH,j8⟩;replace hR:=hR.t s_2;refine⟨(hR.trans aH (by simp)).ext,?_⟩;refine aD 3 23 (ai.nil (bS (aq [af 0,af 1,af 2] ?_)));refine ah 9 4 ?_;refine bZ 10 3 9 1 (aD 4 10 (ai.nil ?_));replace hT:=((hT.t s_1).t s_2).t aH;replace hl:=(hl.t s_2).t aH;replace hF:=hF.st aH;refine kp (ak 0 (ak 3 (aL 4 rfl (eq_int (by simp)) (aY _)))) (cn (i+1,B6,bC) _ ⟨(by first|omega|(simp only;omega)),hF,hT,hl,(by simp only;rw[Xm hil,<-hos];exact j8)⟩ (by first|omega|(simp only;omega)))
 have hil:i=l.length:=by omega
 subst hil;rw[List.take_length,Xl] at ho;refine cA 0 ?_;refine aj (aq [af 0,af 1] ?_);refine ah 24 3 (aD 2 24 (ai.nil ?_));refine bN Tryz.func48 Tryz.results48 ?_;exact⟨hT.bW (by decide),ho.out hT bp (fP C)⟩
end
end Go.Proofs.YtdmgmlmlielfbaaGreat
set_option linter.unusedVariables false
set_option linter.unusedSimpArgs false
set_option maxRecDepth 100000
set_option maxHeartbeats 4000000
namespace Go.Proofs.YtdmgmlmlielfbaaGreat
open Go.K Go.K.bg
noncomputable section
namespace I8
def c0:=cz Tryz.f32
def qg:=(cl (cl (aJ (cl (aJ c0)))))
def jR:=dy (cl (cl (cl (aJ qg))))
end I8
theorem jf {w₀:World} {C:Nat->Nat} {l:List av} {c:av} {aF:Value} (hF:aM w₀ C) (hl:aG w₀ (aB C) l aF):Calls Tryz.prog 32 #[aF,.agg #[.int .i64 c.a,.int .i64 c.b]] w₀ (bM λv w'=>v=.int .i64 (idxOf (λx=>decide (c=x)) l)/\ay [] w₀ C w' C):=by
 have bp:=hF;have hT:=z9 w₀ C;replace hF:=hF.bE;replace hl:=hl.c1;refine ct I8.c0 19 [aF,.agg #[.int .i64 c.a,.int .i64 c.b]] Tryz.func32 ?_;show Run _ _ _ _ [(0,aF),(1,.agg #[.int .i64 c.a,.int .i64 c.b])] _ _;refine aj (aq [nn 0,af 1] ?_);refine bT (au 3 (.box 47 (.tmp 1))) rfl rfl (eU (cs:=aZ c) hF 3 rfl rfl) ?_;rintro _ w1 ⟨eu,c4,rfl,s_1,hx,hF⟩;refine aR 4 (.int .i64 0) (ai.nil (aj (aj (aq [af 0] ?_))));refine aR 5 (.int .i64 0) ?_;refine ai.nil (bF 0 ?_);refine cM (ι:=Nat×(Nat->Nat)) (I:=λx w=>x.1<=l.length/\(∀i,i<x.1->∀(hi:i<l.length),(λx=>decide (c=x)) l[i]=false)/\aM w x.2/\ay [2,3,4,5,6,7,8,9] w₀ (bE C) w x.2/\aG w (aB x.2) l aF/\dN w x.2 3 c4 (.cells (aZ c).toArray 47)) (e:=λx=>[(0,aF),(3,.pointer (some ⟨c4,0,none⟩)),(4,.int .i64 0),(5,.int .i64 x.1)]) (m:=λx=>l.length-x.1) (cD:=(0,eu)) (ak 0 (ak 3 (ak 4 (ak 5 (aY _))))) ?_ ?_
 ·
   replace hT:=hT.t s_1;replace hl:=hl.t s_1;exact⟨Nat.zero_le _,λi hi=>by simp at hi,hF,hT,hl,hx⟩
 intro⟨k,bC⟩ w2 hI cn;obtain⟨hk,h0,hF,hT,hl,hx⟩:=hI;try simp only at hk h0 hF hT hl hx
 show Run _ _ _ _ [(0,aF),(3,.pointer (some ⟨c4,0,none⟩)),(4,.int .i64 0),(5,.int .i64 k)] _ _;have hle:=hl.le;refine aj (aj (aq [af 0,af 1,af 2,af 3] ?_));refine ah 6 5 (ah 7 0 ?_);refine zE 8 7 53 (hl.b8 rfl Tryz.underlying53) ?_;refine dm 9 3 6 8 (ai.nil ?_);refine bI 9 rfl (λe7=>?_) (λe7=>?_)
 ·
  have aK:k<l.length:=by omega
  refine bk (aj (bF 1 (aj ?_)));refine cw (id:=4) (ops:=I8.jR) [] (bC) [af 0,af 1,af 2,af 3,af 4,af 5] cm (by kernel_rfl) (by kernel_rfl) (by kernel_rfl) ?_;intro w3 s_2;refine ah 12 0 (ah 13 5 ?_);replace hl:=hl.t s_2;refine cq 47 14 53 12 13 hl rfl (h:=?_);intro rL kK er;try simp only[aI] at er
  refine cB (au 15 (.load 47 (.tmp 14))) rfl rfl (λw' hS=>er.bu hS) er (by kernel_rfl) (by kernel_rfl) rfl rfl ?_;intro tF g15;obtain rfl:=bY.1 g15;replace hx:=hx.t s_2;refine iN 16 47 3 2 (aZ c) (hx.stay · (by decide)) ?_;refine ax (au 17 (.binOp .eql 47 (.tmp 15) (.tmp 16) 47)) (λ_=>iY (a:=l[k]) (b:=c) Tryz.underlying47 (by decide) (by decide) (by kernel_rfl) Tryz.underlying3 rfl rfl) ?_;refine ai.nil ?_;refine bI 17 rfl (λeR=>?_) (λeR=>?_)
  ·
   refine aj (aq [af 0,af 1] ?_);refine ah 18 5 (aD 4 18 (ai.nil ?_));refine bN Tryz.func32 Tryz.results32 ?_;replace hT:=hT.t s_2;exact⟨by rw[wD aK (λi hi=>h0 i hi (by omega)) (decide_eq_true eR.symm)],hT.bW (by decide)⟩
  refine bk (bS (aq [af 0,af 1,af 2] ?_));refine ah 10 5 ?_;refine bZ 11 3 10 1 (aD 5 11 (ai.nil ?_));replace hF:=hF.st s_2;replace hT:=hT.t s_2;refine kp (aL 0 rfl rfl (aL 3 rfl rfl (aL 4 rfl rfl (aL 5 rfl (eq_int (by simp)) (aY _))))) (cn (k+1,bC) _ ⟨(by first|omega|(simp only;omega)),(λi hi hl=>by
    simp only at hi;by_cases e:i=k
    ·subst e;exact decide_eq_false (λe=>eR e.symm)
    ·exact h0 i (by omega) hl),hF,hT,hl,hx⟩ (by first|omega|(simp only;omega)))
 have aK:k=l.length:=by omega
 refine cA 0 ?_;refine aj (aq [af 0] ?_);refine ax (au 4 (.assign (.const (.int .i64 (-1))))) (λ_=>nJ rfl) ?_;refine ai.nil ?_;refine bN Tryz.func32 Tryz.results32 ?_;exact⟨by rw[Az (λi hi=>h0 i (by omega) hi)],hT.bW (by decide)⟩
namespace I9
def c0:=cz Tryz.f57
def qg:=(cl (cl (aJ (cl (aJ c0)))))
def jR:=dy (cl (cl (cl (aJ qg))))
end I9
theorem xI {w₀:World} {C:Nat->Nat} {l:List (List av)} {c:av} {aF:Value} (hF:aM w₀ C) (hl:aG w₀ (aB C) l aF):Calls Tryz.prog 57 #[aF,.agg #[.int .i64 c.a,.int .i64 c.b]] w₀ (bM λv w'=>v=.int .i64 (nN l c)/\ay [] w₀ C w' C):=by
 have bp:=hF;have hT:=z9 w₀ C;replace hF:=hF.bE;replace hl:=hl.c1;refine ct I9.c0 20 [aF,.agg #[.int .i64 c.a,.int .i64 c.b]] Tryz.func57 ?_;show Run _ _ _ _ [(0,aF),(1,.agg #[.int .i64 c.a,.int .i64 c.b])] _ _;refine aj (aq [nn 0,af 1] ?_);refine bT (au 3 (.box 47 (.tmp 1))) rfl rfl (eU (cs:=aZ c) hF 3 rfl rfl) ?_;rintro _ w1 ⟨eu,c4,rfl,s_1,hx,hF⟩;refine aR 4 (.int .i64 0) (ai.nil (aj (aj (aq [af 0] ?_))));refine aR 5 (.int .i64 0) ?_;refine ai.nil (bF 0 ?_);refine cM (ι:=Nat×(Nat->Nat)) (I:=λx w=>x.1<=l.length/\(∀i,i<x.1->∀(hi:i<l.length),(λp=>p.any λx=>decide (c=x)) l[i]=false)/\aM w x.2/\ay [2,3,4,5,6,7,8,9] w₀ (bE C) w x.2/\aG w (aB x.2) l aF/\dN w x.2 3 c4 (.cells (aZ c).toArray 47)) (e:=λx=>[(0,aF),(3,.pointer (some ⟨c4,0,none⟩)),(4,.int .i64 0),(5,.int .i64 x.1)]) (m:=λx=>l.length-x.1) (cD:=(0,eu)) (ak 0 (ak 3 (ak 4 (ak 5 (aY _))))) ?_ ?_
 ·
   replace hT:=hT.t s_1;replace hl:=hl.t s_1;exact⟨Nat.zero_le _,λi hi=>by simp at hi,hF,hT,hl,hx⟩
 intro⟨k,bC⟩ w2 hI cn;obtain⟨hk,h0,hF,hT,hl,hx⟩:=hI;try simp only at hk h0 hF hT hl hx
 show Run _ _ _ _ [(0,aF),(3,.pointer (some ⟨c4,0,none⟩)),(4,.int .i64 0),(5,.int .i64 k)] _ _;have hle:=hl.le;refine aj (aj (aq [af 0,af 1,af 2,af 3] ?_));refine ah 6 5 (ah 7 0 ?_);refine zE 8 7 25 (hl.b8 rfl Tryz.underlying25) ?_;refine dm 9 3 6 8 (ai.nil ?_);refine bI 9 rfl (λe7=>?_) (λe7=>?_)
 ·
  have aK:k<l.length:=by omega
  refine bk (aj (bF 1 (aj ?_)));refine cw (id:=4) (ops:=I9.jR) [] (bC) [af 0,af 1,af 2,af 3,af 4,nn 5,af 6] cm (by kernel_rfl) (by kernel_rfl) (by kernel_rfl) ?_;intro w3 s_2;have hR:=ay.refl [] w3 (bC);refine ah 12 0 (ah 13 5 ?_);replace hl:=hl.t s_2;refine cq 53 14 25 12 13 hl rfl (h:=?_);intro rL kK er;try simp only[aI] at er
  refine gK (au 15 (.load 53 (.tmp 14))) rfl rfl (λw' hS=>er.bu hS) er (by kernel_rfl) rfl rfl ?_;intro tF g15;replace hx:=hx.t s_2;refine iN 16 47 3 2 (aZ c) (hx.stay · (by decide)) ?_;replace hF:=hF.st s_2;refine dI 17 32 [15,16] [53,47] Tryz.call32 rfl (jf (c:=c) hF g15) ?_;rintro j4 w4 ⟨rfl,aH⟩;refine⟨(hR.trans aH (by simp)).ext,?_⟩;refine ax (au 18 (.binOp .geq 3 (.tmp 17) (.const (.int .i64 0)) 3)) (λ_=>e6 rfl rfl) ?_;refine ai.nil ?_;refine bI 18 rfl (λoH=>?_) (λoH=>?_)
  ·
   refine aj (aq [af 0,af 1] ?_);refine ah 19 5 (aD 4 19 (ai.nil ?_));refine bN Tryz.func57 Tryz.results57 ?_;replace hT:=(hT.t s_2).t aH;exact⟨by unfold nN;rw[wD aK (λi hi=>h0 i hi (by omega)) (by show(List.any _ _)=true;rw[<-tH];exact decide_eq_true oH)],hT.bW (by decide)⟩
  refine bk (bS (aq [af 0,af 1,af 2] ?_));refine ah 10 5 ?_;refine bZ 11 3 10 1 (aD 5 11 (ai.nil ?_));replace hT:=(hT.t s_2).t aH;replace hF:=hF.st aH;replace hl:=hl.t aH;replace hx:=hx.t aH;refine kp (aL 0 rfl rfl (aL 3 rfl rfl (aL 4 rfl rfl (aL 5 rfl (eq_int (by simp)) (aY _))))) (cn (k+1,bC) _ ⟨(by first|omega|(simp only;omega)),(λi hi hl=>by
    simp only at hi;by_cases e:i=k
    ·subst e;show(List.any _ _)=false;rw[<-tH];exact decide_eq_false oH
    ·exact h0 i (by omega) hl),hF,hT,hl,hx⟩ (by first|omega|(simp only;omega)))
 have aK:k=l.length:=by omega
 refine cA 0 ?_;refine aj (aq [af 0] ?_);refine ax (au 4 (.assign (.const (.int .i64 (-1))))) (λ_=>nJ rfl) ?_;refine ai.nil ?_;refine bN Tryz.func57 Tryz.results57 ?_;exact⟨by unfold nN;rw[Az (λi hi=>h0 i (by omega) hi)],hT.bW (by decide)⟩
end
end Go.Proofs.YtdmgmlmlielfbaaGreat
set_option linter.unusedVariables false
set_option linter.unusedSimpArgs false
set_option maxRecDepth 100000
set_option maxHeartbeats 4000000
namespace Go.Proofs.YtdmgmlmlielfbaaGreat
open Go.K Go.K.bg
noncomputable section
namespace B7
def c0:=cz Tryz.f90
def Bo:=(aJ (aJ (aJ (aJ (aJ c0)))))
def FE:=(aJ (cl (cl (aJ (cl Bo)))))
def I_:=(cl (cl (aJ (aJ (cl FE)))))
def n4:=dy (cl (cl (cl (aJ I_))))
def YF:=(cl (aJ (cl (cl (aJ I_)))))
def D9:=dy YF
def Ja:=(aJ (aJ (cl (cl (aJ I_)))))
def Bs:=dy (cl (cl Ja))
end B7
theorem YG {w₀:World} {C:Nat->Nat} {l:List aO} {aF:Value} (hF:aM w₀ C) (hl:aG w₀ (aB C) l aF) (hlen:l.length<=100000):
    Calls Tryz.prog 90 #[aF] w₀ (bM λv w'=>∃u,v=.tuple #[u,.int .i64 (gQ l)]/\ay [] w₀ C w' C/\aG w' (aB C) (if gQ l=0 then dO l else[]) u):=by
 have bp:=hF;have hT:=z9 w₀ C;replace hF:=hF.bE;replace hl:=hl.c1;refine ct B7.c0 120 [aF] Tryz.func90 ?_;show Run _ _ _ _ [(0,aF)] _ _;refine aj (aq [af 0,af 1] ?_);refine aR 2 (.slice none 0 0) (aR 3 (.int .i64 0) (ai.nil (aj (aj (aq [af 0,nn 1,af 2] ?_)))));refine ah 17 0 ?_;refine bU 18 84 [17] [23] Tryz.call84 rfl (PS hF hl) ?_;rintro j3 w1 ⟨rfl,s_1⟩;refine aD 4 18 (ai.nil (aj (aq [af 0,af 1] ?_)));refine ah 19 4 ?_;refine ax (au 20 (.binOp .neq 36 (.tmp 19) (.const (.int .i64 0)) 36)) (λ_=>gH rfl rfl) ?_;refine ai.nil ?_;refine bI 20 rfl (λjT=>?_) (λjT=>?_)
 ·
  refine aj (aq [af 0,af 1,af 2] ?_);refine ah 21 4 (aR 2 (.slice none 0 0) (aD 3 21 (ai.nil ?_)));refine pL (by kernel_rfl) Tryz.func90 Tryz.results90 rfl rfl ?_;replace hT:=hT.t s_1;exact⟨_,rfl,hT.bW (by decide),by rw[if_neg jT];exact jE⟩
 have jA:gQ l=0:=Classical.not_not.1 jT;have iU:=Al jA;have Vk:=kW l;refine bk (aj (aq [af 0,nn 1,af 2] ?_));refine ah 22 0 ?_;replace hF:=hF.st s_1;replace hl:=hl.t s_1;refine bU 23 48 [22] [23] Tryz.call48 rfl (zz hF hl hlen) ?_;rintro kL w2 ⟨s_2,dU⟩;refine aD 5 23 (ai.nil (aj (aq [af 0,af 1,nn 2,af 3] ?_)));refine ah 24 5 ?_;refine zE 25 24 53 (dU.b8 rfl Tryz.underlying53) ?_;replace hF:=hF.st s_2;refine bT (au 26 (.makeSlice 22 (.tmp 25) (.tmp 25))) rfl rfl (CF (e:=3) (bytes:=8) (x0:=(0:Nat)) (zs:=[.int .i64 0]) hF (j:=3) (by decide) (by kernel_rfl) (by kernel_rfl) rfl rfl (by omega) (by omega) (by omega) (λh M=>rfl)) ?_;rintro v26 w3 ⟨nM,aH,hw,hF⟩;refine aD 6 26 (ai.nil ?_);try simp only[aI] at hw
 refine aj (aj (aq [af 0] ?_));refine aR 7 (.int .i64 0) ?_;refine ai.nil (bF 0 ?_);refine cM (ι:=Nat×(List Nat)×(Nat->Nat)) (I:=λx w=>x.1<=(aW l).length/\x.2.1.length=(aW l).length/\(∀k (hk:k<x.2.1.length),k<x.1->x.2.1[k]=k)/\aM w x.2.2/\ay [2,3,4,5,6,7,8,9] w₀ (bE C) w x.2.2/\aG w (aB x.2.2) l aF/\aG w (aB x.2.2) (aW l) kL/\bn w x.2.2 3 3 v26 x.2.1) (e:=λx=>[(0,aF),(5,kL),(6,v26),(7,.int .i64 x.1)]) (m:=λx=>(aW l).length-x.1) (cD:=(0,List.replicate (aW l).length 0,nM)) (ak 0 (ak 5 (ak 6 (ak 7 (aY _))))) ?_ ?_
 ·
   replace hT:=((hT.t s_1).t s_2).t aH;replace hl:=(hl.t s_2).t aH;replace dU:=dU.t aH;exact⟨Nat.zero_le _,(by simp only;exact List.length_replicate),(λk hk h=>by simp only at h;omega),hF,hT,hl,dU,hw⟩
 intro⟨i,low,bC⟩ w4 hI cn;obtain⟨hi,tE,hlv,hF,hT,hl,dU,hw⟩:=hI;try simp only at hi tE hlv hF hT hl dU hw
 show Run _ _ _ _ [(0,aF),(5,kL),(6,v26),(7,.int .i64 i)] _ _;refine aj (aj (aq [af 0,af 1,af 2,af 3] ?_));refine ah 27 7 (ah 28 6 ?_);refine zE 29 28 22 (hw.b8 rfl Tryz.underlying22) ?_;refine dm 30 3 27 29 (ai.nil ?_);refine bI 30 rfl (λqN=>?_) (λqN=>?_)
 ·
  have hil:i<(aW l).length:=by omega
  refine bk (aj (bF 1 (aq [af 0,af 1,af 2,af 3,nn 4] ?_)));refine ah 33 6 (ah 34 7 (ah 35 7 ?_));refine cQ 3 36 22 33 34 hw rfl (by omega) (h:=?_);intro vn BJ;try simp only[aI]
  refine cE (k0 (.store 3 (.tmp 36) (.tmp 35))) rfl (fQ hw BJ (by omega) rfl rfl (by kernel_rfl) (jr.2 rfl)) ?_;rintro _ ew ⟨rfl,aV,hw⟩;refine ai.nil (bS (aq [af 0,af 1,af 2] ?_));refine ah 31 7 ?_;refine bZ 32 3 31 1 (aD 7 32 (ai.nil ?_));replace hF:=hF.st aV;replace hT:=hT.t aV;replace hl:=hl.t aV;replace dU:=dU.t aV;refine kp (aL 0 rfl rfl (aL 5 rfl rfl (aL 6 rfl rfl (aL 7 rfl (eq_int (by simp)) (aY _))))) (cn (i+1,low.set i i,bC) _ ⟨(by first|omega|(simp only;omega)),(by simp only[List.length_set];exact tE),(λk hk h=>by
     simp only at h;rw[List.getElem_set];split
     ·assumption
     ·simp only[List.length_set] at hk;exact hlv k hk (by omega)),hF,hT,hl,dU,hw⟩ (by first|omega|(simp only;omega)))
 have hil:i=(aW l).length:=by omega
 obtain rfl:low=List.range (aW l).length:=List.ext_getElem (by simpa using tE) (λk h1 h2=>by rw[hlv k h1 (by omega),List.getElem_range]);clear hlv tE;refine cA 0 ?_;refine aj (aj (aq [af 0] ?_));refine aR 8 (.bool true) ?_;refine ai.nil (bF 2 ?_);refine cM (ι:=(List Nat)×Bool×(Nat->Nat)) (I:=λx w=>r6 l x.1/\(x.2.1=false->Fix l l x.1)/\aM w x.2.2/\ay [2,3,4,5,6,7,8,9] w₀ (bE C) w x.2.2/\aG w (aB x.2.2) l aF/\aG w (aB x.2.2) (aW l) kL/\bn w x.2.2 3 3 v26 x.1) (e:=λx=>[(0,aF),(5,kL),(6,v26),(8,.bool x.2.1)]) (m:=λx=>2*x.1.sum+x.2.1.toNat) (cD:=(List.range (aW l).length,true,bC)) (ak 0 (ak 5 (ak 6 (ak 8 (aY _))))) ?_ ?_
 · exact⟨r6.start l,(λe=>by cases e),hF,hT,hl,dU,hw⟩
 intro⟨low,ch,bC⟩ fh hI d_;obtain⟨hW,eO,hF,hT,hl,dU,hw⟩:=hI;try simp only at hW eO hF hT hl dU hw
 show Run _ _ _ _ [(0,aF),(5,kL),(6,v26),(8,.bool ch)] _ _;refine aj (aj (aq [af 0] ?_));refine ah 37 8 (ai.nil ?_);refine iL 37 rfl (λmw=>?_) (λmw=>?_)
 ·
  subst mw;refine bk (bF 3 (aj (aq [af 0] ?_)));refine aR 8 (.bool false) (ai.nil (aj (aq [af 0] ?_)));refine aR 9 (.int .i64 0) ?_;refine ai.nil (bF 4 ?_);refine cM (ι:=Nat×(List Nat)×Bool×(Nat->Nat)) (I:=λx w=>x.1<=l.length/\r6 l x.2.1/\x.2.1.sum<=low.sum/\(x.2.2.1=true->x.2.1.sum<low.sum)/\(x.2.2.1=false->x.2.1=low/\Fix l (l.take x.1) x.2.1)/\aM w x.2.2.2/\ay [2,3,4,5,6,7,8,9] w₀ (bE C) w x.2.2.2/\aG w (aB x.2.2.2) l aF/\aG w (aB x.2.2.2) (aW l) kL/\bn w x.2.2.2 3 3 v26 x.2.1) (e:=λx=>[(0,aF),(5,kL),(6,v26),(8,.bool x.2.2.1),(9,.int .i64 x.1)]) (m:=λx=>l.length-x.1) (cD:=(0,low,false,bC)) (ak 0 (ak 5 (ak 6 (ak 8 (ak 9 (aY _)))))) ?_ ?_
  · exact⟨Nat.zero_le _,hW,Nat.le_refl _,(λe=>by cases e),(λ_=>⟨rfl,λy hy=>by simp at hy⟩),hF,hT,hl,dU,hw⟩
  intro⟨k,lw,Eu,bC⟩ w7 hI kf;obtain⟨hk,xD,hle,hlt,qu,hF,hT,hl,dU,hw⟩:=hI;try simp only at hk xD hle hlt qu hF hT hl dU hw
  show Run _ _ _ _ [(0,aF),(5,kL),(6,v26),(8,.bool Eu),(9,.int .i64 k)] _ _;have YH:=xD.len;refine aj (aj (aq [af 0,af 1,af 2,af 3] ?_));refine ah 38 9 (ah 39 0 ?_);refine zE 40 39 23 (hl.b8 rfl Tryz.underlying23) ?_;refine dm 41 3 38 40 (ai.nil ?_);refine bI 41 rfl (λkU=>?_) (λkU=>?_)
  ·
   have aK:k<l.length:=by omega
   obtain⟨fG,ko,PY,ea⟩:=Le (l:=aW l) (c:=l[k].A) (jM.2 ⟨_,List.getElem_mem aK,.inl rfl⟩);obtain⟨ib,hib,PZ,eb⟩:=Le (l:=aW l) (c:=l[k].B) (jM.2 ⟨_,List.getElem_mem aK,.inr rfl⟩);refine bk (aj (bF 5 (aj ?_)));refine cw (id:=16) (ops:=B7.n4) [] (bC) [af 0,af 1,af 2,af 3,af 4,af 5,af 7,af 8,af 9,af 10,af 11,af 12,nn 6,nn 13,af 14,af 15] cm (by kernel_rfl) (by kernel_rfl) (by kernel_rfl) ?_;intro fR aQ;have hR:=ay.refl [] fR (bC);refine ah 44 5 (ah 45 0 (ah 46 9 ?_));replace hl:=hl.t aQ;refine cq 49 47 23 45 46 hl rfl (h:=?_);intro Bq Br k6;try simp only[aI] at k6
   have h48:=bP.kH k6;refine bD 48 49 47 0 0 ?_;refine cB (au 49 (.load 47 (.tmp 48))) rfl rfl (λw' hS=>h48.bu hS) h48 (by kernel_rfl) (by kernel_rfl) rfl rfl ?_;intro v49 xe;obtain rfl:=bY.1 xe;refine ah 51 5 (ah 52 0 (ah 53 9 ?_));refine cq 49 54 23 52 53 hl rfl (h:=?_);intro Jb Jc m_;try simp only[aI] at m_
   have mV:=bP.nj m_;refine bD 55 49 54 1 2 ?_;refine cB (au 56 (.load 47 (.tmp 55))) rfl rfl (λw' hS=>mV.bu hS) mV (by kernel_rfl) (by kernel_rfl) rfl rfl ?_;intro FF qh;obtain rfl:=bY.1 qh;replace hF:=hF.st aQ;replace dU:=dU.t aQ;refine dI 50 32 [44,49] [53,47] Tryz.call32 rfl (jf (c:=l[k].A) hF dU) ?_;rintro wB gC ⟨rfl,bh⟩;rw[ko];refine⟨(hR.trans bh (by simp)).ext,?_⟩;replace hF:=hF.st bh;replace dU:=dU.t bh;refine dI 57 32 [51,56] [53,47] Tryz.call32 rfl (jf (c:=l[k].B) hF dU) ?_;rintro tT iD ⟨rfl,bq⟩;rw[hib];replace hR:=hR.t bh;refine⟨(hR.trans bq (by simp)).ext,?_⟩;refine aD 10 50 (aD 11 57 (ai.nil (aj ?_)));refine cw (id:=17) (ops:=B7.D9) [] (bC) [af 0,af 1,af 2,af 3,af 4,af 5,af 6,af 7,af 8] cm (by kernel_rfl) (by kernel_rfl) (by kernel_rfl) ?_;intro ja br;refine ah 58 6 (ah 59 10 ?_);replace hw:=(((hw.t aQ).t bh).t bq).t br;refine cQ 3 60 22 58 59 hw rfl (by omega) (h:=?_);intro qK D7;try simp only[aI]
   refine nK (I:=[]) (au 61 (.load 3 (.tmp 60))) rfl rfl hw D7 (λw' hS=>hw.bu D7 hS) (by omega) (by kernel_rfl) rfl rfl ?_;intro V0 Bz;try simp only[aI] at Bz
   first|(obtain rfl:=jr.1 Bz)|(obtain rfl:=gN.1 Bz)
   refine ah 62 6 (ah 63 11 ?_);refine cQ 3 64 22 62 63 hw rfl (by omega) (h:=?_);intro rP DT;try simp only[aI]
   refine nK (I:=[]) (au 65 (.load 3 (.tmp 64))) rfl rfl hw DT (λw' hS=>hw.bu DT hS) (by omega) (by kernel_rfl) rfl rfl ?_;intro s7 jC;try simp only[aI] at jC
   first|(obtain rfl:=jr.1 jC)|(obtain rfl:=gN.1 jC)
   refine ax (au 66 (.binOp .neq 3 (.tmp 61) (.tmp 65) 3)) (λ_=>gH rfl rfl) ?_;refine ai.nil ?_;refine bI 66 rfl (λkT=>?_) (λkT=>?_)
   ·
    have hne:lw[fG]≠lw[ib]:=λe=>kT (by rw[e]);obtain⟨YI,hlt3⟩:=xD.put (List.getElem_mem aK) PY PZ ea eb (by omega) (by omega) hne;refine aj ?_;refine cw (id:=18) (ops:=B7.Bs) [] (bC) [af 0,af 1,af 2,af 3,af 4,af 5,af 6,af 7,af 8,af 9] cm (by kernel_rfl) (by kernel_rfl) (by kernel_rfl) ?_;intro jy bK;refine ah 67 6 (ah 68 10 ?_);replace hw:=hw.t bK;refine cQ 3 69 22 67 68 hw rfl (by omega) (h:=?_);intro sU vD;try simp only[aI]
    refine nK (I:=[]) (au 70 (.load 3 (.tmp 69))) rfl rfl hw vD (λw' hS=>hw.bu vD hS) (by omega) (by kernel_rfl) rfl rfl ?_;intro v70 eH;try simp only[aI] at eH
    first|(obtain rfl:=jr.1 eH)|(obtain rfl:=gN.1 eH)
    refine ah 71 6 (ah 72 11 ?_);refine cQ 3 73 22 71 72 hw rfl (by omega) (h:=?_);intro qM tZ;try simp only[aI]
    refine nK (I:=[]) (au 74 (.load 3 (.tmp 73))) rfl rfl hw tZ (λw' hS=>hw.bu tZ hS) (by omega) (by kernel_rfl) rfl rfl ?_;intro sR iF;try simp only[aI] at iF
    first|(obtain rfl:=jr.1 iF)|(obtain rfl:=gN.1 iF)
    refine ax (au 75 (.call {callee:=.builtin .min,args:=#[(.tmp 70),(.tmp 74)],argTypes:=#[3,3]})) (λ_=>dW (R1 rfl rfl Tryz.underlying3) (congrArg (Value.int .i64) (show min ((lw[fG]:Nat):Int) ((lw[ib]:Nat):Int)=((min lw[fG] lw[ib]:Nat):Int) from by omega))) ?_;refine aD 12 75 (ai.nil (aj (aq [af 0,af 1,af 2,af 3,af 4,af 5,af 6,nn 7,af 8,nn 9] ?_)));refine ah 76 6 (ah 77 10 (ah 78 6 (ah 79 11 (ah 80 12 (ah 81 12 ?_)))));refine cQ 3 82 22 76 77 hw rfl (by omega) (h:=?_);intro oS YJ;try simp only[aI]
    refine cE (k0 (.store 3 (.tmp 82) (.tmp 80))) rfl (fQ hw YJ (by omega) rfl rfl (by kernel_rfl) (jr.2 rfl)) ?_;rintro _ jS ⟨rfl,bH,hw⟩;have hs1: (lw.set fG (min lw[fG] lw[ib])).length=lw.length:=List.length_set;refine cQ 3 83 22 78 79 hw rfl (by omega) (h:=?_);intro e4 YK;try simp only[aI]
    refine cE (k0 (.store 3 (.tmp 83) (.tmp 81))) rfl (fQ hw YK (by omega) rfl rfl (by kernel_rfl) (jr.2 rfl)) ?_;rintro _ kB ⟨rfl,bJ,hw⟩;refine ai.nil (aq [af 0] ?_);refine aR 8 (.bool true) (ai.nil (bS (aq [af 0,af 1,af 2] ?_)));refine ah 42 9 ?_;refine bZ 43 3 42 1 (aD 9 43 (ai.nil ?_));replace hT:=((((((hT.t aQ).t bh).t bq).t br).t bK).t bH).t bJ;replace hl:=(((((hl.t bh).t bq).t br).t bK).t bH).t bJ;replace hF:=((((hF.st bq).st br).st bK).st bH).st bJ;replace dU:=((((dU.t bq).t br).t bK).t bH).t bJ;refine kp (ak 0 (ak 5 (ak 6 (ak 8 (aL 9 rfl (eq_int (by simp)) (aY _)))))) (kf (k+1,(lw.set fG (min lw[fG] lw[ib])).set ib (min lw[fG] lw[ib]),true,bC) _ ⟨(by first|omega|(simp only;omega)),YI,(by simp only;omega),(λ_=>by simp only;omega),(λe=>by cases e),hF,hT,hl,dU,hw⟩ (by first|omega|(simp only;omega)))
   have heq:lw[fG]=lw[ib]:=by have:=Classical.not_not.1 kT;exact_mod_cast this
   refine bk (bS (aq [af 0,af 1,af 2] ?_));refine ah 42 9 ?_;refine bZ 43 3 42 1 (aD 9 43 (ai.nil ?_));replace hT:=(((hT.t aQ).t bh).t bq).t br;replace hl:=((hl.t bh).t bq).t br;replace hF:=(hF.st bq).st br;replace dU:=(dU.t bq).t br;refine kp (aL 0 rfl rfl (aL 5 rfl rfl (aL 6 rfl rfl (aL 8 rfl rfl (aL 9 rfl (eq_int (by simp)) (aY _)))))) (kf (k+1,lw,Eu,bC) _ ⟨(by first|omega|(simp only;omega)),xD,hle,hlt,(λe=>by
       obtain⟨e1,e2⟩:=qu e;refine⟨e1,λy hy a b ha hb ea' eb'=>?_⟩;rw[List.take_succ_eq_append_getElem aK] at hy;rcases List.mem_append.1 hy with hy|hy
       ·exact e2 y hy a b ha hb ea' eb'
       ·simp only[List.mem_singleton] at hy;subst hy;obtain rfl:=HZ (tC l) ha PY (by rw[ea',ea]);obtain rfl:=HZ (tC l) hb PZ (by rw[eb',eb]);show lw.getD a 0=lw.getD b 0;rw[List.getD_eq_getElem?_getD,List.getD_eq_getElem?_getD,List.getElem?_eq_getElem (by omega),List.getElem?_eq_getElem (by omega)];exact heq),hF,hT,hl,dU,hw⟩ (by first|omega|(simp only;omega)))
  have aK:k=l.length:=by omega
  subst aK;rw[List.take_length] at qu;refine cA 4 ?_;refine bS ?_;refine kp (aL 0 rfl rfl (aL 5 rfl rfl (aL 6 rfl rfl (aL 8 rfl rfl (aY _))))) (d_ (lw,Eu,bC) _ ⟨xD,(λe=>(qu e).2),hF,hT,hl,dU,hw⟩ (by
      simp only;cases Eu with
      |true=>have:=hlt rfl;simp;omega
      |false=>have:=(qu rfl).1;subst this;simp))
 have vi:=eO mw;refine cA 2 ?_;refine aj (aq [af 0] ?_);refine aR 13 (.slice none 0 0) (ai.nil (aj (aj (aq [af 0] ?_))));refine aR 14 (.int .i64 0) ?_;refine ai.nil (bF 6 ?_);refine cM (ι:=Nat×Value×(Nat->Nat)) (I:=λx w=>x.1<=(aW l).length/\aM w x.2.2/\ay [2,3,4,5,6,7,8,9] w₀ (bE C) w x.2.2/\aG w (aB x.2.2) l aF/\aG w (aB x.2.2) (aW l) kL/\bn w x.2.2 3 3 v26 low/\bn w x.2.2 4 53 x.2.1 (qS l x.1)) (e:=λx=>[(0,aF),(5,kL),(6,v26),(13,x.2.1),(14,.int .i64 x.1)]) (m:=λx=>(aW l).length-x.1) (cD:=(0,.slice none 0 0,bC)) (ak 0 (ak 5 (ak 6 (ak 13 (ak 14 (aY _)))))) ?_ ?_
 · exact⟨Nat.zero_le _,hF,hT,hl,dU,hw,by rw[Xo];exact bn.nil⟩
 intro⟨i,eE,bC⟩ kM hI nE;obtain⟨hi,hF,hT,hl,dU,hw,ho⟩:=hI;try simp only at hi hF hT hl dU hw ho
 show Run _ _ _ _ [(0,aF),(5,kL),(6,v26),(13,eE),(14,.int .i64 i)] _ _;have YH:=hW.len;have yz:=Xp l i;refine aj (aj (aq [af 0,af 1,af 2,af 3] ?_));refine ah 84 14 (ah 85 5 ?_);refine zE 86 85 53 (dU.b8 rfl Tryz.underlying53) ?_;refine dm 87 3 84 86 (ai.nil ?_);refine bI 87 rfl (λYL=>?_) (λYL=>?_)
 ·
  have hil:i<(aW l).length:=by omega
  have hst:=Xq hW vi hil (by omega);refine bk (aj (bF 7 (aj (aj (aq [af 0,af 1,af 2,nn 3,af 4,af 5] ?_)))));refine ah 90 6 (ah 91 14 ?_);refine cQ 3 92 22 90 91 hw rfl (by omega) (h:=?_);intro aN YM;try simp only[aI]
  refine ni (au 93 (.load 3 (.tmp 92))) rfl rfl trivial hw YM (by omega) (by kernel_rfl) rfl rfl ?_;intro v93 BU;try simp only[aI] at BU
  first|(obtain rfl:=jr.1 BU)|(obtain rfl:=gN.1 BU)
  refine ah 94 14 ?_;refine ax (au 95 (.binOp .neq 3 (.tmp 93) (.tmp 94) 3)) (λ_=>gH rfl rfl) ?_;refine ai.nil ?_;refine bI 95 rfl (λJd=>?_) (λJd=>?_)
  ·
   have hne:¬low[i]=i:=λe=>Jd (by exact_mod_cast e);rw[if_neg hne] at hst;refine cA 7 ?_;refine aq [af 0,af 1,af 2] ?_;refine ah 88 14 ?_;refine bZ 89 3 88 1 (aD 14 89 (ai.nil ?_));refine kp (ak 0 (ak 5 (ak 6 (ak 13 (aL 14 rfl (eq_int (by simp)) (aY _)))))) (nE (i+1,eE,bC) _ ⟨(by first|omega|(simp only;omega)),hF,hT,hl,dU,hw,(by simp only;rw[hst];exact ho)⟩ (by first|omega|(simp only;omega)))
  have heq:low[i]=i:=by have:=Classical.not_not.1 Jd;exact_mod_cast this
  rw[if_pos heq] at hst;obtain⟨pr,Je⟩:∃p:av->Bool,p=λr=>decide (b_ l r=b_ l (aW l)[i]):=⟨_,rfl⟩
  rw[<-Je] at hst;refine bk (aj (aq [af 0] ?_));refine aR 15 (.slice none 0 0) (ai.nil (aj (aj (aq [af 0] ?_))));refine aR 16 (.int .i64 0) ?_;refine ai.nil (bF 8 ?_);refine cM (ι:=Nat×Value×(Nat->Nat)) (I:=λx w=>x.1<=(aW l).length/\aM w x.2.2/\ay [2,3,4,5,6,7,8,9] w₀ (bE C) w x.2.2/\aG w (aB x.2.2) l aF/\aG w (aB x.2.2) (aW l) kL/\bn w x.2.2 3 3 v26 low/\bn w x.2.2 4 53 eE (qS l i)/\bn w x.2.2 5 47 x.2.1 (((aW l).take x.1).filter pr)) (e:=λx=>[(0,aF),(5,kL),(6,v26),(13,eE),(14,.int .i64 i),(15,x.2.1),(16,.int .i64 x.1)]) (m:=λx=>(aW l).length-x.1) (cD:=(0,.slice none 0 0,bC)) (ak 0 (ak 5 (ak 6 (ak 13 (ak 14 (ak 15 (ak 16 (aY _)))))))) ?_ ?_
  · exact⟨Nat.zero_le _,hF,hT,hl,dU,hw,ho,bn.nil⟩
  intro⟨k,cu,bC⟩ kN hI vK;obtain⟨hk,hF,hT,hl,dU,hw,ho,hp⟩:=hI;try simp only at hk hF hT hl dU hw ho hp
  show Run _ _ _ _ [(0,aF),(5,kL),(6,v26),(13,eE),(14,.int .i64 i),(15,cu),(16,.int .i64 k)] _ _;have ou:=List.length_filter_le pr ((aW l).take k);rw[List.length_take] at ou;refine aj (aj (aq [af 0,af 1,af 2,af 3] ?_));refine ah 96 16 (ah 97 5 ?_);refine zE 98 97 53 (dU.b8 rfl Tryz.underlying53) ?_;refine dm 99 3 96 98 (ai.nil ?_);refine bI 99 rfl (λYN=>?_) (λYN=>?_)
  ·
   have aK:k<(aW l).length:=by omega
   have hft:=Xr pr aK;refine bk (aj (bF 9 (aj (aq [af 0,af 1,af 2,nn 3,af 4,af 5] ?_))));refine ah 102 6 (ah 103 16 ?_);refine cQ 3 104 22 102 103 hw rfl (by omega) (h:=?_);intro ag YO;try simp only[aI]
   refine ni (au 105 (.load 3 (.tmp 104))) rfl rfl trivial hw YO (by omega) (by kernel_rfl) rfl rfl ?_;intro v105 Jf;try simp only[aI] at Jf
   first|(obtain rfl:=jr.1 Jf)|(obtain rfl:=gN.1 Jf)
   refine ah 106 14 ?_;refine ax (au 107 (.binOp .eql 3 (.tmp 105) (.tmp 106) 3)) (λ_=>fO rfl rfl) ?_;refine ai.nil ?_;refine bI 107 rfl (λJg=>?_) (λJg=>?_)
   ·
    have hpk:pr (aW l)[k]=true:=by rw[Je];exact decide_eq_true ((OD hW vi hil aK (by omega) (by omega) heq).1 (by exact_mod_cast Jg))
    rw[if_pos hpk] at hft;refine aq [af 0,af 1,af 2,af 3,nn 4,nn 5,nn 6,af 7] ?_;refine ah 108 15 (ah 109 5 (ah 110 16 ?_));refine cq 47 111 53 109 110 dU rfl (h:=?_);intro YP YQ zC;try simp only[aI] at zC
    refine ku (au 112 (.load 47 (.tmp 111))) rfl rfl trivial zC (by kernel_rfl) (by kernel_rfl) rfl rfl ?_;intro YR Ev;obtain rfl:=bY.1 Ev;refine bT (au 113 (.buildSlice 53 1 #[(0,(.tmp 112))])) rfl rfl (fI (ys:=([(aW l)[k]]:List av)) (e:=47) (bytes:=16) hF (by kernel_rfl) rfl (by decide) (by decide) ⟨rfl,⟨_,rfl,bY.2 rfl⟩,trivial⟩) ?_;rintro P0 mW ⟨b5,B8,hF⟩;replace hp:=hp.t b5;refine bT (au 114 (.call {callee:=.builtin .append,args:=#[(.tmp 108),(.tmp 113)],argTypes:=#[53,53]})) rfl rfl (fU (e:=47) (bytes:=16) hF (by decide) rfl rfl (by kernel_rfl) (by decide) hp B8 (by simp only[List.length_cons,List.length_nil];omega) (by simp only[List.length_cons,List.length_nil];omega)) ?_;rintro YS lT ⟨PX,bX,hp,hF⟩;refine aD 15 114 (ai.nil (bS (aq [af 0,af 1,af 2] ?_)));refine ah 100 16 ?_;refine bZ 101 3 100 1 (aD 16 101 (ai.nil ?_));replace hT:=(hT.t b5).t bX;replace hl:=(hl.t b5).t bX;replace dU:=(dU.t b5).t bX;replace hw:=(hw.t b5).t bX;replace ho:=(ho.t b5).t bX;refine kp (ak 0 (ak 5 (ak 6 (ak 13 (ak 14 (ak 15 (aL 16 rfl (eq_int (by simp)) (aY _)))))))) (vK (k+1,YS,PX) _ ⟨(by first|omega|(simp only;omega)),hF,hT,hl,dU,hw,ho,(by simp only;rw[hft];exact hp)⟩ (by first|omega|(simp only;omega)))
   have hpk:¬pr (aW l)[k]=true:=by rw[Je];intro e;exact Jg (by have:=(OD hW vi hil aK (by omega) (by omega) heq).2 (of_decide_eq_true e);exact_mod_cast this)
   rw[if_neg hpk] at hft;refine bk (bS (aq [af 0,af 1,af 2] ?_));refine ah 100 16 ?_;refine bZ 101 3 100 1 (aD 16 101 (ai.nil ?_));refine kp (ak 0 (ak 5 (ak 6 (ak 13 (ak 14 (ak 15 (aL 16 rfl (eq_int (by simp)) (aY _)))))))) (vK (k+1,cu,bC) _ ⟨(by first|omega|(simp only;omega)),hF,hT,hl,dU,hw,ho,(by simp only;rw[hft];exact hp)⟩ (by first|omega|(simp only;omega)))
  have aK:k=(aW l).length:=by omega
  subst aK;rw[List.take_length] at hp;have TL:=List.length_filter_le pr (aW l);replace hF:=hF.bO 5;replace hT:=hT.bO (n:=5) (λb=>Nat.lt_of_lt_of_le (xV C b) (by decide));replace hl:=hl.bO 5;replace dU:=dU.bO 5;replace hw:=hw.EX (n:=5) (by decide);replace ho:=ho.EX (n:=5) (by decide);have hpv:=hp.bO (n:=5) (by decide) (by omega);refine cA 8 ?_;refine aq [af 0,af 1,nn 2,nn 3,af 4] ?_;refine ah 115 13 (ah 116 15 ?_);refine bT (au 117 (.buildSlice 25 1 #[(0,(.tmp 116))])) rfl rfl (fI (ys:=([(aW l).filter pr]:List (List av))) (e:=53) (bytes:=24) hF (by kernel_rfl) rfl (by decide) (by decide) ⟨rfl,⟨_,rfl,hpv⟩,trivial⟩) ?_;rintro v117 mX ⟨bV,P3,hF⟩;replace ho:=ho.t bV;refine bT (au 118 (.call {callee:=.builtin .append,args:=#[(.tmp 115),(.tmp 117)],argTypes:=#[25,25]})) rfl rfl (fU (e:=53) (bytes:=24) hF (by decide) rfl rfl (by kernel_rfl) (by decide) ho P3 (by simp only[List.length_cons,List.length_nil];omega) (by simp only[List.length_cons,List.length_nil];omega)) ?_;rintro YT n5 ⟨vA,ck,ho,hF⟩;refine aD 13 118 (ai.nil (bS (aq [af 0,af 1,af 2] ?_)));refine ah 88 14 ?_;refine bZ 89 3 88 1 (aD 14 89 (ai.nil ?_));replace hT:=(hT.t bV).t ck;replace hl:=(hl.t bV).t ck;replace dU:=(dU.t bV).t ck;replace hw:=(hw.t bV).t ck;refine kp (ak 0 (ak 5 (ak 6 (ak 13 (aL 14 rfl (eq_int (by simp)) (aY _)))))) (nE (i+1,YT,vA) _ ⟨(by first|omega|(simp only;omega)),hF,hT,hl,dU,hw,(by simp only;rw[hst];exact ho)⟩ (by first|omega|(simp only;omega)))
 have hil:i=(aW l).length:=by omega
 subst hil;rw[Xn] at ho;refine cA 6 ?_;refine aj (aq [af 0,af 1,af 2] ?_);refine ah 119 13 (aD 2 119 (aR 3 (.int .i64 0) (ai.nil ?_)));refine pL (by kernel_rfl) Tryz.func90 Tryz.results90 rfl rfl ?_;rw[jA];exact⟨_,rfl,hT.bW (by decide),by rw[if_pos rfl];exact ho.out hT bp (fP C) (λb _=>k_ C (by decide) b) (by have:=Fo l;omega)⟩
end
end Go.Proofs.YtdmgmlmlielfbaaGreat
