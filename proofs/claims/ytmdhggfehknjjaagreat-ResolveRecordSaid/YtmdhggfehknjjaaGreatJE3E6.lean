/- Steps through functions of the program. -/
import Derived.Test.YtmdhggfehknjjaaGreatJN9E2
import Derived.Test.YtmdhggfehknjjaaGreatL2
set_option linter.unusedVariables false
set_option linter.unusedSimpArgs false
set_option maxRecDepth 100000
set_option maxHeartbeats 4000000
namespace Go.Proofs.YtmdhggfehknjjaaGreat
open Go.K Go.K.aY
noncomputable section
namespace JJ
def c0:=bZ Tryz.f141
def Cy:=(cl (cl (aH (cl (aH c0)))))
def nj:=dL (cl (cl (cl (aH Cy))))
end JJ
theorem Q8 {w₀:World} {C:Nat->Nat} {l:List av} {aK:Value} (hF:aL w₀ C) (hl:aB w₀ (ax C) l aK) (vt:l.Pairwise gH):Calls Tryz.prog 141 #[aK] w₀ (bI λv w'=>v=.bool true/\aA [] w₀ C w' C):=by
 have bF:=hF;have hT:=z9 w₀ C;replace hF:=hF.bz;replace hl:=hl.c1;refine bW JJ.c0 21 [aK] Tryz.func141 ?_;show Run _ _ _ _ [(0,aK)] _ _;refine aj (aq [af 0] ?_);refine aZ 2 (.bool false) (ak.nil (aj (aj (aq [af 0] ?_))));refine aZ 3 (.int .i64 1) ?_;refine ak.nil (bD 0 ?_);refine cM (ι:=Nat×(Nat->Nat)) (I:=λx w=>1<=x.1/\x.1<=max 1 l.length/\aL w x.2/\aA [2,3,4,5,6,7,8,9] w₀ (bz C) w x.2/\aB w (ax x.2) l aK) (e:=λx=>[(0,aK),(3,.int .i64 x.1)]) (m:=λx=>l.length-x.1) (cE:=(1,bz C)) (ai 0 (ai 3 (aV _))) ?_ ?_
 · exact⟨Nat.le_refl _,by omega,hF,hT,hl⟩
 intro⟨i,bu⟩ w1 hI bP;obtain⟨hi,hi2,hF,hT,hl⟩:=hI;try simp only at hi hi2 hF hT hl
 show Run _ _ _ _ [(0,aK),(3,.int .i64 i)] _ _;have hle:=hl.le;refine aj (aj (aq [af 0,af 1,af 2,af 3] ?_));refine ah 4 3 (ah 5 0 ?_);refine zE 6 5 52 (hl.bU rfl Tryz.underlying52) ?_;refine de 7 3 4 6 (ak.nil ?_);refine bQ 7 rfl (λh7=>?_) (λh7=>?_)
 ·
  have hil:i<l.length:=by omega
  refine bq (aj (bD 1 (aj ?_)));refine dD (id:=4) (ops:=JJ.nj) [] (bu) [af 0,af 1,af 2,af 3,af 4,af 5,af 6,af 7,af 8,nn 9,af 10] dn (by kernel_rfl) (by kernel_rfl) (by kernel_rfl) ?_;intro w2 s_1;have hR:=aA.refl [] w2 (bu);refine ah 10 0 (ah 11 3 ?_);refine ay (au 12 (.binOp .sub 3 (.tmp 11) (.const (.int .i64 1)) 3)) (λ_=>eM rfl rfl (by omega) (by omega)) ?_;replace hl:=hl.t s_1;refine dw 55 13 52 10 12 hl rfl (h:=?_);intro zC zD fV;try simp only[aQ] at fV
  refine j3 (au 14 (.load 55 (.tmp 13))) rfl rfl (λw' hS=>fV.bE hS) fV (by kernel_rfl) (by kernel_rfl) rfl rfl ?_;intro vS g14;have jN: ((i:Int)-1).toNat=i-1:=by omega
  simp only[jN] at g14;obtain rfl:=fN.1 g14;refine ah 15 0 (ah 16 3 ?_);refine dw 55 17 52 15 16 hl rfl (h:=?_);intro aa2 PN ym;try simp only[aQ] at ym
  refine j3 (au 18 (.load 55 (.tmp 17))) rfl rfl (λw' hS=>ym.bE hS) ym (by kernel_rfl) (by kernel_rfl) rfl rfl ?_;intro IY g18;obtain rfl:=fN.1 g18;replace hF:=hF.st s_1;refine gw 19 53 [14,18] [55,55] Tryz.call53 rfl (uz (x:=l[i-1]'(by omega)) (y:=l[i]'hil) hF) ?_;rintro kz w3 ⟨rfl,s_2⟩;have hlt:i_ (l[i-1]'(by omega)) (l[i]'hil)<0:=wY.2 (List.pairwise_iff_getElem.1 vt (i-1) i (by omega) hil (by omega));refine⟨(hR.trans s_2 (by simp)).ext,?_⟩;refine ay (au 20 (.binOp .geq 3 (.tmp 19) (.const (.int .i64 0)) 3)) (λ_=>dZ (gR rfl rfl) (by omega)) ?_;refine ak.nil (cQ 20 (bq (bO (aq [af 0,af 1,af 2] ?_))));refine ah 8 3 ?_;refine b7 9 3 8 1 (aD 3 9 (ak.nil ?_));replace hT:=(hT.t s_1).t s_2;replace hF:=hF.st s_2;replace hl:=hl.t s_2;refine kp (ai 0 (aJ 3 rfl (eq_int (by simp)) (aV _))) (bP (i+1,bu) _ ⟨(by first|omega|(simp only;omega)),(by first|omega|(simp only;omega)),hF,hT,hl⟩ (by first|omega|(simp only;omega)))
 refine cB 0 ?_;refine aj (aq [af 0] ?_);refine aZ 2 (.bool true) (ak.nil ?_);refine bR Tryz.func141 Tryz.results141 ?_;exact⟨rfl,hT.cm (by decide)⟩
theorem iJ {s:List av} {c:av}: (s.any λx=>decide (c=x))=decide (c∈s):=by
 rw[Bool.eq_iff_iff,VC,decide_eq_true_iff]
namespace AG
def c0:=bZ Tryz.f195
def vP:=(cl (aH (cl (aH (aH c0)))))
def Dk:=(aH (aH (cl (aH (cl vP)))))
def aS:=(cl (aH (aH (cl (cl Dk)))))
def yo:=dL (cl (aH (aH (cl aS))))
end AG
theorem Q9 {w₀:World} {C:Nat->Nat} {l:List bk} {s:List av} {bN cA vs:Value} (hF:aL w₀ C) (hl:aB w₀ (ax C) l bN) (hs0:aB w₀ (ax C) s vs) (h1:1<=s.length) (hn:s.Nodup) (hlen:s.length<=1000000):Calls Tryz.prog 195 #[.agg #[bN,cA],vs] w₀ (bI λv w'=>v=.bool (qm l s)/\aA [] w₀ C w' C):=by
 have bF:=hF;have hT:=z9 w₀ C;replace hF:=hF.bz;replace hl:=hl.c1;replace hs0:=hs0.c1;refine bW AG.c0 69 [.agg #[bN,cA],vs] Tryz.func195 ?_;show Run _ _ _ _ [(0,.agg #[bN,cA]),(1,vs)] _ _;refine aj (aq [nn 0,af 1] ?_);refine bG (au 2 (.box 129 (.tmp 0))) rfl rfl (dO (cs:=[bN,cA]) hF 3 rfl rfl) ?_;rintro _ w1 ⟨dF,ck,rfl,s_1,hx,hF⟩;refine aZ 4 (.bool false) (ak.nil (aj (aq [af 0,af 1,af 2] ?_)));refine ah 11 1 ?_;replace hs0:=hs0.t s_1;refine WB (e':=55) (m:=1) (au 12 (.slice 52 (.tmp 11) none (some (.const (.int .i64 1))) (some (.const (.int .i64 1))))) rfl rfl hs0 rfl (by kernel_rfl) rfl rfl h1 ?_;intro a1 iW;refine aD 5 12 (ak.nil (aj (aj (aq [af 0] ?_))));have hs1: (s.take 1).length=1:=by rw[List.length_take];omega
 refine aZ 6 (.bool true) ?_;refine ak.nil (bD 0 ?_);refine cM (ι:=Bool×(List av)×Value×(Nat->Nat)) (I:=λx w=>qN l s x.2.1/\(x.1=false->∀bd∈l,bd.A∈s->bd.B∈s->(bd.A∈x.2.1↔bd.B∈x.2.1))/\aL w x.2.2.2/\aA [2,3,4,5,6,7,8,9] w₀ (bz C) w x.2.2.2/\aB w (ax x.2.2.2) l bN/\aB w (ax x.2.2.2) s vs/\cz w x.2.2.2 3 ck (.cells [bN,cA].toArray 129)/\nU w x.2.2.2 5 55 x.2.2.1 x.2.1) (e:=λx=>[(1,vs),(2,.pointer (some ⟨ck,0,none⟩)),(5,x.2.2.1),(6,.bool x.1)]) (m:=λx=>2*(s.length-x.2.1.length)+(if x.1 then 1 else 0)) (cE:=(true,s.take 1,.slice a1 1 1,dF)) (ai 1 (ai 2 (ai 5 (ai 6 (aV _))))) ?_ ?_
 ·
   replace hT:=hT.t s_1;replace hl:=hl.t s_1;exact⟨qN.start h1,λe=>(by cases e),hF,hT,hl,hs0,hx,.inr ⟨a1,(by rw[hs1]),iW⟩⟩
 intro⟨g0,ys,vy,bu⟩ w2 hI bP;obtain⟨hR,hg,hF,hT,hl,hs0,hx,hy⟩:=hI;try simp only at hR hg hF hT hl hs0 hx hy
 show Run _ _ _ _ [(1,vs),(2,.pointer (some ⟨ck,0,none⟩)),(5,vy),(6,.bool g0)] _ _;have k_:=hR.len;refine aj (aj (aq [af 0] ?_));refine ah 13 6 (ak.nil ?_);refine nD 13 rfl (λfV=>?_) (λfV=>?_)
 ·
  subst fV;refine bq (bD 1 (aj (aq [af 0] ?_)));refine aZ 6 (.bool false) (ak.nil (aj (aq [af 0,nn 1,af 2,af 3] ?_)));refine bn 14 129 2 0 0 ?_;refine cK 15 23 14 hx.at_ rfl rfl ?_;refine zE 16 15 23 (hl.bU rfl Tryz.underlying23) ?_;refine ef 17 (.int .i64 0) ?_;refine ak.nil (bD 2 ?_);refine cM (ι:=Nat×Bool×(List av)×Value×(Nat->Nat)) (I:=λx w=>x.1<=l.length/\qN l s x.2.2.1/\(x.2.1=true->ys.length<x.2.2.1.length)/\(x.2.1=false->x.2.2.1=ys/\∀i (hi:i<x.1) (hl:i<l.length),l[i].A∈s->l[i].B∈s->(l[i].A∈ys↔l[i].B∈ys))/\aL w x.2.2.2.2/\aA [2,3,4,5,6,7,8,9] w₀ (bz C) w x.2.2.2.2/\aB w (ax x.2.2.2.2) l bN/\aB w (ax x.2.2.2.2) s vs/\cz w x.2.2.2.2 3 ck (.cells [bN,cA].toArray 129)/\nU w x.2.2.2.2 5 55 x.2.2.2.1 x.2.2.1) (e:=λx=>[(1,vs),(2,.pointer (some ⟨ck,0,none⟩)),(5,x.2.2.2.1),(6,.bool x.2.1),(15,bN),(16,.int .i64 l.length),(17,.int .i64 x.1)]) (m:=λx=>l.length-x.1) (cE:=(0,false,ys,vy,bu)) (ai 1 (ai 2 (ai 5 (ai 6 (ai 15 (ai 16 (ai 17 (aV _)))))))) ?_ ?_
  · exact⟨Nat.zero_le _,hR,λe=>(by cases e),λ_=>⟨rfl,λi hi=>by simp only at hi;omega⟩,hF,hT,hl,hs0,hx,hy⟩
  intro⟨k,g,zs,vy,ey⟩ w3 hI eX;obtain⟨hk,yp,AH,wF,hF,hT,hl,hs0,hx,hy⟩:=hI;try simp only at hk yp AH wF hF hT hl hs0 hx hy
  show Run _ _ _ _ [(1,vs),(2,.pointer (some ⟨ck,0,none⟩)),(5,vy),(6,.bool g),(15,bN),(16,.int .i64 l.length),(17,.int .i64 k)] _ _;have hle:=hl.le;have aa3:=hs0.le;have hzl:=yp.len;refine aj (aq [af 0] ?_);refine de 18 3 17 16 (ak.nil (aj ?_));refine bQ 18 rfl (λru=>?_) (λru=>?_)
  ·
   have aC:k<l.length:=by omega
   have CZ:=List.getElem_mem aC;refine bq (aj (bD 3 (aj (aq [af 0,nn 1,nn 2,nn 3] ?_))));refine dw 58 19 23 15 17 hl rfl (h:=?_);intro JK k4 l9;try simp only[aQ] at l9
   refine ic (au 20 (.load 58 (.tmp 19))) rfl rfl trivial l9 (by kernel_rfl) (by kernel_rfl) rfl rfl ?_;intro v20 g20;obtain rfl:=jI.1 g20;refine bG (au 8 (.alloc 58)) rfl rfl (dR (cs:=[.int .i64 0,.int .i64 0,.int .i64 0,.int .i64 0,.int .i64 0]) hF 6 (by kernel_rfl)) ?_;rintro _ w4 ⟨fK,mI,rfl,s_2,hb,hF⟩;refine cg (k0 (.store 58 (.tmp 8) (.tmp 20))) rfl (dM (vs:=iB (l[k]'aC)) (n:=5) rfl rfl (by kernel_rfl) rfl rfl (gp rfl) hb rfl) ?_;rintro _ dY ⟨rfl,aF,hb⟩;refine ak.nil (aj (aj ?_));by_cases hA: (l[k]'aC).A∈s
   ·
    by_cases hB: (l[k]'aC).B∈s
    ·
     refine aq [af 0,af 1,nn 2,nn 3,af 4,af 5,af 6,af 7,nn 8,nn 9,af 10,af 11] ?_;refine ah 21 1 (bn 22 58 8 0 0 ?_);refine cD 23 55 22 2 (bJ (l[k]'aC).A) hb.at_ ?_;replace hs0:=(hs0.t s_2).t aF;replace hF:=hF.st aF;refine bV 24 49 [21,23] [52,55] Tryz.call49 rfl (iI (c:=(l[k]'aC).A) hF hs0) ?_;rintro oG eT ⟨rfl,aI⟩;rw[iJ,decide_eq_true hA];refine ay (au 25 (.unOp .not 4 (.tmp 24))) (λ_=>eP rfl) ?_;refine ah 26 25 ?_;refine cn 27 1 5 false (cW 28 58 8 1 2 5 false ?_);replace hb:=hb.t aI;refine jo 29 55 28 5 false 2 (bJ (l[k]'aC).B) hb.at_ ?_;replace hF:=hF.st aI;replace hs0:=hs0.t aI;refine dU (aO 30 (.call {callee:=.value (.func 49),args:=#[(.tmp 27),(.tmp 29)],argTypes:=#[52,55]}) 5 false) rfl rfl (dy Tryz.call49 rfl) (iI (c:=(l[k]'aC).B) hF hs0) ?_;rintro mF w7 ⟨rfl,aG⟩;rw[iJ,decide_eq_true hB];refine ay (aO 31 (.unOp .not 4 (.tmp 30)) 5 false) (λ_=>eP rfl) ?_;refine eY 32 26 31 ?_;refine ak.nil (cQ 32 (bq (aj ?_)));by_cases hP: (l[k]'aC).A∈zs
     ·
      by_cases hQ: (l[k]'aC).B∈zs
      ·
       refine dD (id:=9) (ops:=AG.yo) [] (fK) [af 0,af 1,af 2,af 4,af 5,af 6,nn 3,nn 7,af 8,af 9] dn (by kernel_rfl) (by kernel_rfl) (by kernel_rfl) ?_;intro gD aR;have hR:=aA.refl [] gD (fK);refine ah 33 5 (bn 34 58 8 0 0 ?_);replace hb:=(hb.t aG).t aR;refine ij 35 55 34 2 (bJ (l[k]'aC).A) (hb.stay · (by decide)) ?_;refine ah 37 5 (bn 38 58 8 1 2 ?_);refine ij 39 55 38 2 (bJ (l[k]'aC).B) (hb.stay · (by decide)) ?_;replace hy:=((((hy.t s_2).t aF).t aI).t aG).t aR;refine gw 36 49 [33,35] [52,55] Tryz.call49 rfl (iI (C:=iG) (c:=(l[k]'aC).A) (mW _) (hy.lC (by omega))) ?_;rintro _ gO ⟨rfl,aW⟩;replace aW:=aW.re (fK);rw[iJ,decide_eq_true hP];refine⟨(hR.trans aW (by simp)).ext,?_⟩;replace hy:=hy.t aW;refine gw 40 49 [37,39] [52,55] Tryz.call49 rfl (iI (C:=iG) (c:=(l[k]'aC).B) (mW _) (hy.lC (by omega))) ?_;rintro _ jc ⟨rfl,bh⟩;replace bh:=bh.re (fK);rw[iJ,decide_eq_true hQ];replace hR:=hR.t aW;refine⟨(hR.trans bh (by simp)).ext,?_⟩;refine aD 9 36 (aD 10 40 ?_);refine ak.nil (bD 4 (aj (aq [af 0,af 1,af 2,af 3,af 4,af 5] ?_)));refine ah 42 9 (ah 43 42 ?_);refine cn 44 10 1 true ?_;refine ay (aO 45 (.unOp .not 4 (.tmp 44)) 1 true) (λ_=>eP rfl) ?_;refine dS 46 43 45 ?_;refine aD 41 46 ?_;refine ak.nil (cQ 41 (aj (aq [af 0,af 1,af 2,af 3,af 4,af 5] ?_)));refine ah 53 10 (ah 54 53 ?_);refine cn 55 9 1 true ?_;refine ay (aO 56 (.unOp .not 4 (.tmp 55)) 1 true) (λ_=>eP rfl) ?_;refine dS 57 54 56 ?_;refine aD 52 57 ?_;refine ak.nil (cQ 52 (bq (bO (bO (aq [af 0,af 1] ?_)))));refine b7 63 3 17 1 (ah 17 63 (ak.nil ?_))
       replace hT:=((((((hT.t s_2).t aF).t aI).t aG).t aR).t aW).t bh;replace hl:=((((((hl.t s_2).t aF).t aI).t aG).t aR).t aW).t bh;replace hx:=((((((hx.t s_2).t aF).t aI).t aG).t aR).t aW).t bh;replace hF:=(((hF.st aG).st aR).st aW).st bh;replace hs0:=(((hs0.t aG).t aR).t aW).t bh;replace hy:=hy.t bh;refine kp (aJ 1 rfl rfl (aJ 2 rfl rfl (aJ 5 rfl rfl (aJ 6 rfl rfl (aJ 15 rfl rfl (aJ 16 rfl rfl (aJ 17 rfl (eq_int (by simp)) (aV _)))))))) (eX (k+1,g,zs,vy,fK) _ ⟨(by first|omega|(simp only;omega)),(by first|omega|(simp only;omega)),(by first|omega|(simp only;omega)),(λe=>by
           obtain⟨h1,h2⟩:=wF e;exact⟨h1,λi hi hl' a b=>by
             simp only at hi;by_cases e2:i=k
             ·subst e2;rw[<-h1];first|exact⟨λ_=>hQ,λ_=>hP⟩|exact⟨λe=>absurd e hP,λe=>absurd e hQ⟩
             ·exact h2 i (by omega) hl' a b⟩),hF,hT,hl,hs0,hx,hy⟩ (by first|omega|(simp only;omega)))
      refine dD (id:=9) (ops:=AG.yo) [] (fK) [af 0,af 1,af 2,af 4,af 5,af 6,nn 3,nn 7,af 8,af 9] dn (by kernel_rfl) (by kernel_rfl) (by kernel_rfl) ?_;intro j8 bp;have hR:=aA.refl [] j8 (fK);refine ah 33 5 (bn 34 58 8 0 0 ?_);replace hb:=(hb.t aG).t bp;refine ij 35 55 34 2 (bJ (l[k]'aC).A) (hb.stay · (by decide)) ?_;refine ah 37 5 (bn 38 58 8 1 2 ?_);refine ij 39 55 38 2 (bJ (l[k]'aC).B) (hb.stay · (by decide)) ?_;replace hy:=((((hy.t s_2).t aF).t aI).t aG).t bp;refine gw 36 49 [33,35] [52,55] Tryz.call49 rfl (iI (C:=iG) (c:=(l[k]'aC).A) (mW _) (hy.lC (by omega))) ?_;rintro _ kM ⟨rfl,bM⟩;replace bM:=bM.re (fK);rw[iJ,decide_eq_true hP];refine⟨(hR.trans bM (by simp)).ext,?_⟩;replace hy:=hy.t bM;refine gw 40 49 [37,39] [52,55] Tryz.call49 rfl (iI (C:=iG) (c:=(l[k]'aC).B) (mW _) (hy.lC (by omega))) ?_;rintro _ mY ⟨rfl,bC⟩;replace bC:=bC.re (fK);rw[iJ,decide_eq_false hQ];replace hR:=hR.t bM;refine⟨(hR.trans bC (by simp)).ext,?_⟩;refine aD 9 36 (aD 10 40 ?_);refine ak.nil (bD 4 (aj (aq [af 0,af 1,af 2,af 3,af 4,af 5] ?_)));refine ah 42 9 (ah 43 42 ?_);refine cn 44 10 1 true ?_;refine ay (aO 45 (.unOp .not 4 (.tmp 44)) 1 true) (λ_=>eP rfl) ?_;refine dS 46 43 45 ?_;refine aD 41 46 ?_;refine ak.nil (lq 41 (aq [af 0,af 1,nn 2,nn 3,nn 4,af 5,af 6] ?_));refine ah 47 5 (bn 48 58 8 1 2 ?_);replace hb:=(hb.t bM).t bC;refine cD 49 55 48 2 (bJ (l[k]'aC).B) hb.at_ ?_;replace hF:=(((hF.st aG).st bp).st bM).st bC;refine bG (au 50 (.buildSlice 52 1 #[(0,(.tmp 49))])) rfl rfl (gA (ys:=([(l[k]'aC).B]:List av)) (e:=55) (bytes:=16) hF (by kernel_rfl) rfl (by decide) (by decide) ⟨rfl,⟨_,rfl,fN.2 rfl⟩,trivial⟩) ?_;rintro v50 mG ⟨bS,fB,hF⟩;replace hy:=(hy.t bC).t bS
      refine bG (au 51 (.call {callee:=.builtin .append,args:=#[(.tmp 47),(.tmp 50)],argTypes:=#[52,52]})) rfl rfl (M8 (e:=55) (bytes:=16) hF (j:=5) (by decide) rfl rfl (by kernel_rfl) (by decide) hy fB (by simp) (by simp only[List.length_cons,List.length_nil];omega) (by simp only[List.length_cons,List.length_nil];omega)) ?_;rintro JL oH ⟨Q_,bY,hy,hF⟩;refine aD 5 51 (aZ 6 (.bool true) (ak.nil (bO (bO (aq [af 0,af 1] ?_)))));refine b7 63 3 17 1 (ah 17 63 (ak.nil ?_));replace hT:=((((((((hT.t s_2).t aF).t aI).t aG).t bp).t bM).t bC).t bS).t bY;replace hl:=((((((((hl.t s_2).t aF).t aI).t aG).t bp).t bM).t bC).t bS).t bY;replace hx:=((((((((hx.t s_2).t aF).t aI).t aG).t bp).t bM).t bC).t bS).t bY;replace hs0:=(((((hs0.t aG).t bp).t bM).t bC).t bS).t bY;refine kp (aJ 1 rfl rfl (aJ 2 rfl rfl (aJ 5 rfl rfl (aJ 6 rfl rfl (aJ 15 rfl rfl (aJ 16 rfl rfl (aJ 17 rfl (eq_int (by simp)) (aV _)))))))) (eX (k+1,true,zs++[(l[k]'aC).B],JL,Q_) _ ⟨(by first|omega|(simp only;omega)),(yp.add CZ hA hB (.inr ⟨rfl,hP⟩) hQ),(λ_=>by
           simp only[List.length_append,List.length_cons,List.length_nil];cases eg:g with
           |true=>have:=AH eg;omega
           |false=>have:=(wF eg).1;rw[this];omega),(λe=>by cases e),hF,hT,hl,hs0,hx,(.inl hy)⟩ (by first|omega|(simp only;omega)))
     by_cases hQ: (l[k]'aC).B∈zs
     ·
      refine dD (id:=9) (ops:=AG.yo) [] (fK) [af 0,af 1,af 2,af 4,af 5,af 6,nn 3,nn 7,af 8,af 9] dn (by kernel_rfl) (by kernel_rfl) (by kernel_rfl) ?_;intro oL bT;have hR:=aA.refl [] oL (fK);refine ah 33 5 (bn 34 58 8 0 0 ?_);replace hb:=(hb.t aG).t bT;refine ij 35 55 34 2 (bJ (l[k]'aC).A) (hb.stay · (by decide)) ?_;refine ah 37 5 (bn 38 58 8 1 2 ?_);refine ij 39 55 38 2 (bJ (l[k]'aC).B) (hb.stay · (by decide)) ?_;replace hy:=((((hy.t s_2).t aF).t aI).t aG).t bT;refine gw 36 49 [33,35] [52,55] Tryz.call49 rfl (iI (C:=iG) (c:=(l[k]'aC).A) (mW _) (hy.lC (by omega))) ?_;rintro _ qR ⟨rfl,cu⟩;replace cu:=cu.re (fK);rw[iJ,decide_eq_false hP];refine⟨(hR.trans cu (by simp)).ext,?_⟩;replace hy:=hy.t cu;refine gw 40 49 [37,39] [52,55] Tryz.call49 rfl (iI (C:=iG) (c:=(l[k]'aC).B) (mW _) (hy.lC (by omega))) ?_;rintro _ rZ ⟨rfl,cI⟩;replace cI:=cI.re (fK);rw[iJ,decide_eq_true hQ];replace hR:=hR.t cu;refine⟨(hR.trans cI (by simp)).ext,?_⟩;refine aD 9 36 (aD 10 40 ?_);refine ak.nil (bD 4 (aj (aq [af 0,af 1,af 2,af 3,af 4,af 5] ?_)));refine ah 42 9 (ah 43 42 ?_);refine aM 44 1 true (aM 45 1 true ?_);refine gn 46 43 45 ?_;refine aD 41 46 ?_;refine ak.nil (cQ 41 (aj (aq [af 0,af 1,af 2,af 3,af 4,af 5] ?_)));refine ah 53 10 (ah 54 53 ?_);refine cn 55 9 1 true ?_;refine ay (aO 56 (.unOp .not 4 (.tmp 55)) 1 true) (λ_=>eP rfl) ?_;refine dS 57 54 56 ?_;refine aD 52 57 ?_;refine ak.nil (lq 52 (aq [af 0,af 1,nn 2,nn 3,nn 4,af 5,af 6] ?_));refine ah 58 5 (bn 59 58 8 0 0 ?_);replace hb:=(hb.t cu).t cI;refine cD 60 55 59 2 (bJ (l[k]'aC).A) hb.at_ ?_;replace hF:=(((hF.st aG).st bT).st cu).st cI;refine bG (au 61 (.buildSlice 52 1 #[(0,(.tmp 60))])) rfl rfl (gA (ys:=([(l[k]'aC).A]:List av)) (e:=55) (bytes:=16) hF (by kernel_rfl) rfl (by decide) (by decide) ⟨rfl,⟨_,rfl,fN.2 rfl⟩,trivial⟩) ?_
      rintro aa4 pQ ⟨dc,w9,hF⟩;replace hy:=(hy.t cI).t dc;refine bG (au 62 (.call {callee:=.builtin .append,args:=#[(.tmp 58),(.tmp 61)],argTypes:=#[52,52]})) rfl rfl (M8 (e:=55) (bytes:=16) hF (j:=5) (by decide) rfl rfl (by kernel_rfl) (by decide) hy w9 (by simp) (by simp only[List.length_cons,List.length_nil];omega) (by simp only[List.length_cons,List.length_nil];omega)) ?_;rintro JL tj ⟨JM,dh,hy,hF⟩;refine aD 5 62 (aZ 6 (.bool true) (ak.nil (bO (bO (aq [af 0,af 1] ?_)))));refine b7 63 3 17 1 (ah 17 63 (ak.nil ?_));replace hT:=((((((((hT.t s_2).t aF).t aI).t aG).t bT).t cu).t cI).t dc).t dh;replace hl:=((((((((hl.t s_2).t aF).t aI).t aG).t bT).t cu).t cI).t dc).t dh;replace hx:=((((((((hx.t s_2).t aF).t aI).t aG).t bT).t cu).t cI).t dc).t dh;replace hs0:=(((((hs0.t aG).t bT).t cu).t cI).t dc).t dh;refine kp (aJ 1 rfl rfl (aJ 2 rfl rfl (aJ 5 rfl rfl (aJ 6 rfl rfl (aJ 15 rfl rfl (aJ 16 rfl rfl (aJ 17 rfl (eq_int (by simp)) (aV _)))))))) (eX (k+1,true,zs++[(l[k]'aC).A],JL,JM) _ ⟨(by first|omega|(simp only;omega)),(yp.add CZ hA hB (.inl ⟨rfl,hQ⟩) hP),(λ_=>by
           simp only[List.length_append,List.length_cons,List.length_nil];cases eg:g with
           |true=>have:=AH eg;omega
           |false=>have:=(wF eg).1;rw[this];omega),(λe=>by cases e),hF,hT,hl,hs0,hx,(.inl hy)⟩ (by first|omega|(simp only;omega)))
     refine dD (id:=9) (ops:=AG.yo) [] (fK) [af 0,af 1,af 2,af 4,af 5,af 6,nn 3,nn 7,af 8,af 9] dn (by kernel_rfl) (by kernel_rfl) (by kernel_rfl) ?_;intro tv dm;have hR:=aA.refl [] tv (fK);refine ah 33 5 (bn 34 58 8 0 0 ?_);replace hb:=(hb.t aG).t dm;refine ij 35 55 34 2 (bJ (l[k]'aC).A) (hb.stay · (by decide)) ?_;refine ah 37 5 (bn 38 58 8 1 2 ?_);refine ij 39 55 38 2 (bJ (l[k]'aC).B) (hb.stay · (by decide)) ?_;replace hy:=((((hy.t s_2).t aF).t aI).t aG).t dm;refine gw 36 49 [33,35] [52,55] Tryz.call49 rfl (iI (C:=iG) (c:=(l[k]'aC).A) (mW _) (hy.lC (by omega))) ?_;rintro _ Av ⟨rfl,dK⟩;replace dK:=dK.re (fK);rw[iJ,decide_eq_false hP];refine⟨(hR.trans dK (by simp)).ext,?_⟩;replace hy:=hy.t dK;refine gw 40 49 [37,39] [52,55] Tryz.call49 rfl (iI (C:=iG) (c:=(l[k]'aC).B) (mW _) (hy.lC (by omega))) ?_;rintro _ Aw ⟨rfl,ec⟩;replace ec:=ec.re (fK);rw[iJ,decide_eq_false hQ];replace hR:=hR.t dK;refine⟨(hR.trans ec (by simp)).ext,?_⟩;refine aD 9 36 (aD 10 40 ?_);refine ak.nil (bD 4 (aj (aq [af 0,af 1,af 2,af 3,af 4,af 5] ?_)));refine ah 42 9 (ah 43 42 ?_);refine aM 44 1 true (aM 45 1 true ?_);refine gn 46 43 45 ?_;refine aD 41 46 ?_;refine ak.nil (cQ 41 (aj (aq [af 0,af 1,af 2,af 3,af 4,af 5] ?_)));refine ah 53 10 (ah 54 53 ?_);refine aM 55 1 true (aM 56 1 true ?_);refine gn 57 54 56 ?_;refine aD 52 57 ?_;refine ak.nil (cQ 52 (bq (bO (bO (aq [af 0,af 1] ?_)))));refine b7 63 3 17 1 (ah 17 63 (ak.nil ?_));replace hT:=((((((hT.t s_2).t aF).t aI).t aG).t dm).t dK).t ec;replace hl:=((((((hl.t s_2).t aF).t aI).t aG).t dm).t dK).t ec;replace hx:=((((((hx.t s_2).t aF).t aI).t aG).t dm).t dK).t ec;replace hF:=(((hF.st aG).st dm).st dK).st ec;replace hs0:=(((hs0.t aG).t dm).t dK).t ec;replace hy:=hy.t ec
     refine kp (aJ 1 rfl rfl (aJ 2 rfl rfl (aJ 5 rfl rfl (aJ 6 rfl rfl (aJ 15 rfl rfl (aJ 16 rfl rfl (aJ 17 rfl (eq_int (by simp)) (aV _)))))))) (eX (k+1,g,zs,vy,fK) _ ⟨(by first|omega|(simp only;omega)),(by first|omega|(simp only;omega)),(by first|omega|(simp only;omega)),(λe=>by
           obtain⟨h1,h2⟩:=wF e;exact⟨h1,λi hi hl' a b=>by
             simp only at hi;by_cases e2:i=k
             ·subst e2;rw[<-h1];first|exact⟨λ_=>hQ,λ_=>hP⟩|exact⟨λe=>absurd e hP,λe=>absurd e hQ⟩
             ·exact h2 i (by omega) hl' a b⟩),hF,hT,hl,hs0,hx,hy⟩ (by first|omega|(simp only;omega)))
    refine aq [af 0,af 1,nn 2,nn 3,af 4,af 5,af 6,af 7,nn 8,nn 9,af 10,af 11] ?_;refine ah 21 1 (bn 22 58 8 0 0 ?_);refine cD 23 55 22 2 (bJ (l[k]'aC).A) hb.at_ ?_;replace hs0:=(hs0.t s_2).t aF;replace hF:=hF.st aF;refine bV 24 49 [21,23] [52,55] Tryz.call49 rfl (iI (c:=(l[k]'aC).A) hF hs0) ?_;rintro aa5 CO ⟨rfl,eN⟩;rw[iJ,decide_eq_true hA];refine ay (au 25 (.unOp .not 4 (.tmp 24))) (λ_=>eP rfl) ?_;refine ah 26 25 ?_;refine cn 27 1 5 false (cW 28 58 8 1 2 5 false ?_);replace hb:=hb.t eN;refine jo 29 55 28 5 false 2 (bJ (l[k]'aC).B) hb.at_ ?_;replace hF:=hF.st eN;replace hs0:=hs0.t eN;refine dU (aO 30 (.call {callee:=.value (.func 49),args:=#[(.tmp 27),(.tmp 29)],argTypes:=#[52,55]}) 5 false) rfl rfl (dy Tryz.call49 rfl) (iI (c:=(l[k]'aC).B) hF hs0) ?_;rintro aa6 Ay ⟨rfl,fW⟩;rw[iJ,decide_eq_false hB];refine ay (aO 31 (.unOp .not 4 (.tmp 30)) 5 false) (λ_=>eP rfl) ?_;refine eY 32 26 31 ?_;refine ak.nil (lq 32 (cB 3 ?_));refine aq [af 0,af 1] ?_;refine b7 63 3 17 1 (ah 17 63 (ak.nil ?_));replace hT:=(((hT.t s_2).t aF).t eN).t fW;replace hl:=(((hl.t s_2).t aF).t eN).t fW;replace hx:=(((hx.t s_2).t aF).t eN).t fW;replace hy:=(((hy.t s_2).t aF).t eN).t fW;replace hF:=hF.st fW;replace hs0:=hs0.t fW;refine kp (aJ 1 rfl rfl (aJ 2 rfl rfl (aJ 5 rfl rfl (aJ 6 rfl rfl (aJ 15 rfl rfl (aJ 16 rfl rfl (aJ 17 rfl (eq_int (by simp)) (aV _)))))))) (eX (k+1,g,zs,vy,fK) _ ⟨(by first|omega|(simp only;omega)),(by first|omega|(simp only;omega)),(by first|omega|(simp only;omega)),(λe=>by
         obtain⟨h1,h2⟩:=wF e;exact⟨h1,λi hi hl' a b=>by
           simp only at hi;by_cases e2:i=k
           · subst e2;first|exact absurd a hA|exact absurd b hB
           · exact h2 i (by omega) hl' a b⟩),hF,hT,hl,hs0,hx,hy⟩ (by first|omega|(simp only;omega)))
   refine aq [af 0,af 1,nn 2,nn 3,af 4,af 5,af 6,af 7,nn 8,nn 9,af 10,af 11] ?_;refine ah 21 1 (bn 22 58 8 0 0 ?_);refine cD 23 55 22 2 (bJ (l[k]'aC).A) hb.at_ ?_;replace hs0:=(hs0.t s_2).t aF;replace hF:=hF.st aF;refine bV 24 49 [21,23] [52,55] Tryz.call49 rfl (iI (c:=(l[k]'aC).A) hF hs0) ?_;rintro cG CP ⟨rfl,gP⟩;rw[iJ,decide_eq_false hA];refine ay (au 25 (.unOp .not 4 (.tmp 24))) (λ_=>eP rfl) ?_;refine ah 26 25 ?_;refine aM 27 5 false (aM 28 5 false ?_);refine eo (aO 29 (.load 55 (.tmp 28)) 5 false) rfl rfl trivial ?_;refine eo (aO 30 (.call {callee:=.value (.func 49),args:=#[(.tmp 27),(.tmp 29)],argTypes:=#[52,55]}) 5 false) rfl rfl trivial ?_;refine aM 31 5 false ?_;refine pz 32 26 31 ?_;refine ak.nil (lq 32 (cB 3 ?_));refine aq [af 0,af 1] ?_;refine b7 63 3 17 1 (ah 17 63 (ak.nil ?_));replace hT:=((hT.t s_2).t aF).t gP;replace hl:=((hl.t s_2).t aF).t gP;replace hx:=((hx.t s_2).t aF).t gP;replace hy:=((hy.t s_2).t aF).t gP;replace hF:=hF.st gP;replace hs0:=hs0.t gP;refine kp (aJ 1 rfl rfl (aJ 2 rfl rfl (aJ 5 rfl rfl (aJ 6 rfl rfl (aJ 15 rfl rfl (aJ 16 rfl rfl (aJ 17 rfl (eq_int (by simp)) (aV _)))))))) (eX (k+1,g,zs,vy,fK) _ ⟨(by first|omega|(simp only;omega)),(by first|omega|(simp only;omega)),(by first|omega|(simp only;omega)),(λe=>by
        obtain⟨h1,h2⟩:=wF e;exact⟨h1,λi hi hl' a b=>by
          simp only at hi;by_cases e2:i=k
          · subst e2;first|exact absurd a hA|exact absurd b hB
          · exact h2 i (by omega) hl' a b⟩),hF,hT,hl,hs0,hx,hy⟩ (by first|omega|(simp only;omega)))
  have aC:k=l.length:=by omega
  refine cB 2 ?_;refine bO ?_;by_cases C8:g=true
  ·
   have hlt:=AH C8;refine kp (ai 1 (ai 2 (ai 5 (ai 6 (aV _))))) (bP (g,zs,vy,ey) _ ⟨yp,(λe=>by rw[C8] at e;cases e),hF,hT,hl,hs0,hx,hy⟩ (by simp only[C8];have:=yp.len;simp;omega))
  obtain⟨iZ,eZ⟩:=wF (by simpa using C8);refine kp (aJ 1 rfl rfl (aJ 2 rfl rfl (aJ 5 rfl rfl (aJ 6 rfl rfl (aV _))))) (bP (g,zs,vy,ey) _ ⟨yp,(λ_ x hx a b=>by
        obtain⟨i,hi,rfl⟩:=List.getElem_of_mem hx;rw[iZ];exact eZ i (by omega) hi a b),hF,hT,hl,hs0,hx,hy⟩ (by simp only[C8];rw[iZ];simp))
 subst fV;refine cB 0 ?_;refine aj (aq [af 0,af 1,af 2,af 3,af 4,af 5] ?_);refine ah 64 5 ?_;refine zE 65 64 52 (hy.bU rfl Tryz.underlying52) ?_;refine ah 66 1 ?_;refine zE 67 66 52 (hs0.bU rfl Tryz.underlying52) ?_;refine ay (au 68 (.binOp .eql 3 (.tmp 65) (.tmp 67) 3)) (λ_=>eV (fu rfl rfl) (show _=Value.bool (qm l s) from congrArg Value.bool (by rw[Bool.eq_iff_iff,decide_eq_true_iff];exact hR.fin hn (hg rfl)))) ?_;refine aD 4 68 (ak.nil ?_);refine bR Tryz.func195 Tryz.results195 ?_;exact⟨rfl,hT.cm (by decide)⟩
end
end Go.Proofs.YtmdhggfehknjjaaGreat
set_option linter.unusedVariables false
set_option linter.unusedSimpArgs false
set_option maxRecDepth 100000
set_option maxHeartbeats 4000000
namespace Go.Proofs.YtmdhggfehknjjaaGreat
open Go.K Go.K.aY
noncomputable section
namespace Ra
def c0:=bZ Tryz.f194
end Ra
theorem St {w₀:World} {C:Nat->Nat} {ds:List cC} {bN cA:Value} {x a:av} {b1 b2:Nat} (hF:aL w₀ C) (hap:fI w₀ (ax C) ds cA) (h1:w₀.heap[b1]?=some (.cells [bN,cA].toArray 129)) (h2:w₀.heap[b2]?=some (.cells (bJ a).toArray 55)):Calls Tryz.prog 194 #[cV x,.pointer (some ⟨b1,0,none⟩),.pointer (some ⟨b2,0,none⟩)] w₀ (bI λv w'=>v=.bool (fJ ds x a)/\aA [] w₀ C w' C):=by
 have bF:=hF;have hT:=z9 w₀ C;replace hF:=hF.bz;replace hap:fI w₀ (ax (bz C)) ds cA:=by rw[ez];exact hap
 replace h1:=jv.of h1 C;replace h2:=jv.of h2 C;refine bW Ra.c0 9 [cV x,.pointer (some ⟨b1,0,none⟩),.pointer (some ⟨b2,0,none⟩)] Tryz.func194 ?_;show Run _ _ _ _ [(0,cV x),(1,.pointer (some ⟨b1,0,none⟩)),(2,.pointer (some ⟨b2,0,none⟩))] _ _;refine aj (aq [nn 0,af 1] ?_);refine bG (au 3 (.box 55 (.tmp 0))) rfl rfl (dO (cs:=bJ x) hF 3 rfl rfl) ?_;rintro _ w1 ⟨dF,ck,rfl,s_1,hb,hF⟩;refine aZ 4 (.bool false) (ak.nil (aj (aq [nn 0,nn 1,nn 2,nn 3,af 4] ?_)));replace h1:=h1.t s_1;refine cD 5 129 1 2 ([bN,cA]) h1.at_ ?_;refine cD 6 55 3 2 (bJ x) hb.at_ ?_;replace h2:=h2.t s_1;refine cD 7 55 2 2 (bJ a) h2.at_ ?_;replace hap:=hap.t s_1;refine bV 8 137 [5,6,7] [129,55,55] Tryz.call137 rfl (JI (a:=x) (b:=a) hF hap) ?_;rintro gC w2 ⟨rfl,s_2⟩;refine aD 4 8 (ak.nil ?_);refine bR Tryz.func194 Tryz.results194 ?_;replace hT:=(hT.t s_1).t s_2;exact⟨rfl,hT.cm (by decide)⟩
namespace Rb
def c0:=bZ Tryz.f142
end Rb
theorem Rc {w₀:World} {C:Nat->Nat} {l:List bk} {ds:List cC} {s:List av} {bN cA vs:Value} (hF:aL w₀ C) (hl:aB w₀ (ax C) l bN) (hap:fI w₀ (ax C) ds cA) (hs0:aB w₀ (ax C) s vs) (hlen:s.length<=1000000):Calls Tryz.prog 142 #[.agg #[bN,cA],vs] w₀ (bI λv w'=>v=.bool (zk l ds s)/\aA [] w₀ C w' C):=by
 have bF:=hF;have hT:=z9 w₀ C;replace hF:=hF.bz;replace hl:=hl.c1;replace hs0:=hs0.c1;replace hap:fI w₀ (ax (bz C)) ds cA:=by rw[ez];exact hap
 refine bW Rb.c0 26 [.agg #[bN,cA],vs] Tryz.func142 ?_;show Run _ _ _ _ [(0,.agg #[bN,cA]),(1,vs)] _ _;refine aj (aq [nn 0,af 1] ?_);refine bG (au 2 (.box 129 (.tmp 0))) rfl rfl (dO (cs:=[bN,cA]) hF 3 rfl rfl) ?_;rintro _ w1 ⟨dF,ck,rfl,s_1,hx,hF⟩;refine aZ 4 (.bool false) (ak.nil (aj (aj (aq [af 0,af 1,af 2] ?_))));refine ah 7 1 ?_;replace hs0:=hs0.t s_1;refine zE 8 7 52 (hs0.bU rfl Tryz.underlying52) ?_;refine ay (au 9 (.binOp .lss 3 (.tmp 8) (.const (.int .i64 2)) 3)) (λ_=>fS rfl rfl) ?_;refine ak.nil ?_;refine bQ 9 rfl (λgx=>?_) (λgx=>?_)
 ·
  refine aj (aq [af 0] ?_);refine aZ 4 (.bool false) (ak.nil ?_);refine bR Tryz.func142 Tryz.results142 ?_;replace hT:=hT.t s_1;exact⟨by unfold zk;rw[decide_eq_false (by omega)];rfl,hT.cm (by decide)⟩
 have Re:2<=s.length:=by omega
 refine bq (aj (aj (aq [af 0,af 1,af 2] ?_)));refine ah 10 1 ?_;refine zE 11 10 52 (hs0.bU rfl Tryz.underlying52) ?_;refine ef 12 (.int .i64 0) ?_;refine ak.nil (bD 0 ?_);replace hl:=hl.t s_1;refine cM (ι:=Nat×(Nat->Nat)) (I:=λx w=>x.1<=s.length/\(∀q (hq:q<x.1) (hl:q<s.length),(s.take q).any (λb=>fJ ds b s[q])=false)/\aL w x.2/\aA [2,3,4,5,6,7,8,9] w₀ (bz C) w x.2/\aB w (ax x.2) l bN/\aB w (ax x.2) s vs/\fI w (ax x.2) ds cA/\cz w x.2 3 ck (.cells [bN,cA].toArray 129)) (e:=λx=>[(1,vs),(2,.pointer (some ⟨ck,0,none⟩)),(10,vs),(11,.int .i64 s.length),(12,.int .i64 x.1)]) (m:=λx=>s.length-x.1) (cE:=(0,dF)) (ai 1 (ai 2 (ai 10 (ai 11 (ai 12 (aV _)))))) ?_ ?_
 ·
   replace hT:=hT.t s_1;replace hap:=hap.t s_1;exact⟨Nat.zero_le _,λq hq=>by simp only at hq;omega,hF,hT,hl,hs0,hap,hx⟩
 intro⟨i,bu⟩ w2 hI bP;obtain⟨hi,h0,hF,hT,hl,hs0,hap,hx⟩:=hI;try simp only at hi h0 hF hT hl hs0 hap hx
 show Run _ _ _ _ [(1,vs),(2,.pointer (some ⟨ck,0,none⟩)),(10,vs),(11,.int .i64 s.length),(12,.int .i64 i)] _ _;have hle:=hs0.le;refine aj (aq [af 0] ?_);refine de 13 3 12 11 (ak.nil (aj ?_));refine bQ 13 rfl (λfV=>?_) (λfV=>?_)
 ·
  have hil:i<s.length:=by omega
  refine bq (aj (bD 1 (aj (aq [af 0,af 1,nn 2,nn 3,af 4,nn 5] ?_))));refine ah 14 12 ?_;refine dw 55 15 52 10 12 hs0 rfl (h:=?_);intro aa7 aa8 pR;try simp only[aQ] at pR
  refine ic (au 16 (.load 55 (.tmp 15))) rfl rfl trivial pR (by kernel_rfl) (by kernel_rfl) rfl rfl ?_;intro zI g16;obtain rfl:=fN.1 g16;refine bG (au 6 (.alloc 55)) rfl rfl (dR (cs:=[.int .i64 0,.int .i64 0]) hF 4 (by kernel_rfl)) ?_;rintro _ w3 ⟨jE,jF,rfl,s_2,ha,hF⟩;refine aD 5 14 ?_;refine cg (k0 (.store 55 (.tmp 6) (.tmp 16))) rfl (dM (vs:=bJ (s[i]'hil)) (n:=2) rfl rfl (by kernel_rfl) rfl rfl (gp rfl) ha rfl) ?_;rintro _ w4 ⟨rfl,aF,ha⟩;refine ak.nil (aj (aq [af 0,af 1,af 2,af 3,nn 4] ?_));refine ah 17 1 (ah 18 5 ?_);replace hs0:=(hs0.t s_2).t aF;refine K8 (e':=55) (au 19 (.slice 52 (.tmp 17) none (some (.tmp 18)) none)) rfl rfl hs0 rfl (by kernel_rfl) rfl (by omega) (by omega) ?_;intro zJ l9;try simp only[aQ] at l9
  refine ay (au 20 (.makeFunc (.func 194) #[] #[(.tmp 2),(.tmp 6)])) (λ_=>wU rfl rfl) ?_;replace hap:=(hap.t s_2).t aF;replace hx:=(hx.t s_2).t aF;replace hF:=hF.st aF;have dN:∀w1,aA [] _ (jE) w1 (jE)->∀x∈s.take i,Calls Tryz.prog 194 ([cV x]++#[Value.pointer (some ⟨ck,0,none⟩),Value.pointer (some ⟨jF,0,none⟩)].toList).toArray w1 (bI λv w'=>v=.bool (fJ ds x (s[i]'hil))/\aA [] w1 (jE) w' (jE)):=λw1 h1 x _=>St (hF.st h1) (hap.st h1 (by decide)) (h1.same hx.at_) (h1.same ha.at_);refine bV 21 134 [19,20] [52,149] Tryz.call134 rfl (CY (p:=λx=>fJ ds x (s[i]'hil)) (nf:=194) (caps:=#[Value.pointer (some ⟨ck,0,none⟩),Value.pointer (some ⟨jF,0,none⟩)]) (λargs w=>Tryz.call194 args w) dN hF l9) ?_;rintro nV dY ⟨rfl,aI⟩;refine ak.nil ?_;refine nD 21 rfl (λwu=>?_) (λwu=>?_)
  ·
   have hno:=WE hil wu;refine aj (aq [af 0] ?_);refine aZ 4 (.bool false) (ak.nil ?_);refine bR Tryz.func142 Tryz.results142 ?_;replace hT:=((hT.t s_2).t aF).t aI;exact⟨by unfold zk;rw[hno];simp,hT.cm (by decide)⟩
  skip
  refine bq (bO (aq [af 0,af 1] ?_));refine b7 22 3 12 1 (ah 12 22 (ak.nil ?_));replace hT:=((hT.t s_2).t aF).t aI;replace hl:=((hl.t s_2).t aF).t aI;replace hF:=hF.st aI;replace hs0:=hs0.t aI;replace hap:=hap.t aI;replace hx:=hx.t aI;refine kp (aJ 1 rfl rfl (aJ 2 rfl rfl (aJ 10 rfl rfl (aJ 11 rfl rfl (aJ 12 rfl (eq_int (by simp)) (aV _)))))) (bP (i+1,jE) _ ⟨(by first|omega|(simp only;omega)),(λq hq sS=>by
    simp only at hq;by_cases e:q=i
    ·subst e;exact wu
    ·exact h0 q (by omega) sS),hF,hT,hl,hs0,hap,hx⟩ (by first|omega|(simp only;omega)))
 have hil:i=s.length:=by omega
 refine cB 0 ?_;refine aj (aq [nn 0,af 1,nn 2,af 3] ?_);have z7:=WD (λq hq=>h0 q (by omega) hq);refine cD 23 129 2 2 ([bN,cA]) hx.at_ ?_;refine ah 24 1 ?_;refine bV 25 195 [23,24] [129,52] Tryz.call195 rfl (Q9 (cA:=cA) hF hl hs0 (by omega) (WC (M9.1 z7)) hlen) ?_;rintro oG eT ⟨rfl,aG⟩;refine aD 4 25 (ak.nil ?_);refine bR Tryz.func142 Tryz.results142 ?_;replace hT:=hT.t aG;exact⟨by unfold zk;rw[z7,decide_eq_true Re];rfl,hT.cm (by decide)⟩
end
end Go.Proofs.YtmdhggfehknjjaaGreat
set_option linter.unusedVariables false
set_option linter.unusedSimpArgs false
set_option maxRecDepth 100000
set_option maxHeartbeats 4000000
namespace Go.Proofs.YtmdhggfehknjjaaGreat
open Go.K Go.K.aY
noncomputable section
namespace Rf
def c0:=bZ Tryz.f162
end Rf
theorem lN {w₀:World} {C:Nat->Nat} {l:List (List av)} {aK:Value} {p:List av->Bool} {nf:Nat} {caps:Array Value} (lM:∀args w,(callFunc nf args).run Tryz.prog w=.ok (.enter nf args) w) (hp:∀w1,aA [] w₀ C w1 C->∀x∈l,∀vx,aB w1 (ax C) x vx->Calls Tryz.prog nf ([vx]++caps.toList).toArray w1 (bI λv w'=>v=.bool (p x)/\aA [] w1 C w' C)) (hF:aL w₀ C) (hl:aB w₀ (ax C) l aK):Calls Tryz.prog 162 #[aK,.func (.func nf) #[] caps] w₀ (bI λv w'=>v=.int .i64 (idxOf p l)/\aA [] w₀ C w' C):=by
 have hT:=aA.refl [] w₀ C;refine bW Rf.c0 19 [aK,.func (.func nf) #[] caps] Tryz.func162 ?_;show Run _ _ _ _ [(0,aK),(1,.func (.func nf) #[] caps)] _ _;refine aj (aq [af 0] ?_);refine aZ 4 (.int .i64 0) (ak.nil (aj (aj (aq [af 0,af 1,af 2] ?_))));refine ah 6 0 ?_;refine zE 7 6 24 (hl.bU rfl Tryz.underlying24) ?_;refine ef 8 (.int .i64 0) ?_;refine ak.nil (bD 0 ?_);refine cM (ι:=Nat) (I:=λx w=>x<=l.length/\(∀i (hi:i<x) (hl:i<l.length),p l[i]=false)/\aL w C/\aA [] w₀ C w C/\aB w (ax C) l aK) (e:=λx=>[(0,aK),(1,.func (.func nf) #[] caps),(7,.int .i64 l.length),(8,.int .i64 x)]) (m:=λx=>l.length-x) (cE:=0) (ai 0 (ai 1 (ai 7 (ai 8 (aV _))))) ?_ ?_
 · exact⟨Nat.zero_le _,λi hi _=>by first|omega|(simp only at hi;omega),hF,hT,hl⟩
 intro k w1 hI bP;obtain⟨hk,h0,hF,hT,hl⟩:=hI;try simp only at hk h0 hF hT hl
 show Run _ _ _ _ [(0,aK),(1,.func (.func nf) #[] caps),(7,.int .i64 l.length),(8,.int .i64 k)] _ _;have hle:=hl.le;refine aj (aq [af 0] ?_);refine de 9 3 8 7 (ak.nil (aj ?_));refine bQ 9 rfl (λgx=>?_) (λgx=>?_)
 ·
  have aC:k<l.length:=by omega
  refine bq (aj (bD 1 (aj (aq [af 0,af 1] ?_))));refine ah 10 8 (aD 5 10 (ak.nil (aj (aq [af 0,af 1,af 2,af 3,nn 4,nn 5] ?_))));refine ah 11 1 (ah 12 0 (ah 13 5 ?_));refine dw 52 14 24 12 13 hl rfl (h:=?_);intro Ae wo fE;try simp only[aQ] at fE
  refine iy (au 15 (.load 52 (.tmp 14))) rfl rfl trivial fE (by kernel_rfl) rfl rfl ?_;intro uA g15;refine dU (au 16 (.call {callee:=.value (.tmp 11),args:=#[(.tmp 15)],argTypes:=#[52]})) rfl rfl (ny lM rfl rfl) (hp _ hT (l[k]'aC) (List.getElem_mem aC) _ g15) ?_;rintro gC w2 ⟨rfl,s_1⟩;refine ak.nil ?_;refine nD 16 rfl (λjx=>?_) (λjx=>?_)
  ·
   refine aj (aq [af 0,af 1] ?_);refine ah 17 5 (aD 4 17 (ak.nil ?_));refine bR Tryz.func162 Tryz.results162 ?_;replace hT:=hT.t s_1;exact⟨by rw[G9 aC (λi hi=>h0 i hi (by omega)) jx],hT⟩
  refine bq (bO (aq [af 0,af 1] ?_));refine b7 18 3 8 1 (ah 8 18 (ak.nil ?_));replace hF:=hF.st s_1;replace hT:=hT.t s_1;replace hl:=hl.t s_1;refine kp (aJ 0 rfl rfl (aJ 1 rfl rfl (aJ 7 rfl rfl (aJ 8 rfl (eq_int (by simp)) (aV _))))) (bP (k+1) _ ⟨(by first|omega|(simp only;omega)),(λi hi hl=>by
    by_cases e:i=k
    ·subst e;exact jx
    ·exact h0 i (by first|omega|(simp only at hi;omega)) hl),hF,hT,hl⟩ (by first|omega|(simp only;omega)))
 have aC:k=l.length:=by omega
 refine cB 0 ?_;refine aj (aq [af 0] ?_);refine ay (au 4 (.assign (.const (.int .i64 (-1))))) (λ_=>pn rfl) ?_;refine ak.nil ?_;refine bR Tryz.func162 Tryz.results162 ?_;exact⟨by rw[G_ (λi hi=>h0 i (by omega) hi)],hT⟩
namespace Rg
def c0:=bZ Tryz.f98
end Rg
theorem sk {w₀:World} {C:Nat->Nat} {l:List (List av)} {aK:Value} {p:List av->Bool} {nf:Nat} {caps:Array Value} (lM:∀args w,(callFunc nf args).run Tryz.prog w=.ok (.enter nf args) w) (hp:∀w1,aA [] w₀ C w1 C->∀x∈l,∀vx,aB w1 (ax C) x vx->Calls Tryz.prog nf ([vx]++caps.toList).toArray w1 (bI λv w'=>v=.bool (p x)/\aA [] w1 C w' C)) (hF:aL w₀ C) (hl:aB w₀ (ax C) l aK):Calls Tryz.prog 98 #[aK,.func (.func nf) #[] caps] w₀ (bI λv w'=>v=.bool (l.any p)/\aA [] w₀ C w' C):=by
 have hT:=aA.refl [] w₀ C;refine bW Rg.c0 9 [aK,.func (.func nf) #[] caps] Tryz.func98 ?_;show Run _ _ _ _ [(0,aK),(1,.func (.func nf) #[] caps)] _ _;refine aj (aq [af 0] ?_);refine aZ 4 (.bool false) (ak.nil (aj (aq [af 0,af 1,nn 2,af 3,af 4] ?_)));refine ah 5 0 (ah 6 1 ?_);refine bV 7 162 [5,6] [24,148] Tryz.call162 rfl (lN lM hp hF hl) ?_;rintro ku w1 ⟨rfl,s_1⟩;refine ay (au 8 (.binOp .geq 3 (.tmp 7) (.const (.int .i64 0)) 3)) (λ_=>gR rfl rfl) ?_;refine aD 4 8 (ak.nil ?_);refine bR Tryz.func98 Tryz.results98 ?_;replace hT:=hT.t s_1;exact⟨by rw[He],hT⟩
end
end Go.Proofs.YtmdhggfehknjjaaGreat
set_option linter.unusedVariables false
set_option linter.unusedSimpArgs false
set_option maxRecDepth 100000
set_option maxHeartbeats 4000000
namespace Go.Proofs.YtmdhggfehknjjaaGreat
open Go.K Go.K.aY
noncomputable section
namespace Rh
def c0:=bZ Tryz.f99
end Rh
theorem p0 {w₀:World} {C:Nat->Nat} {b:bk} {x:List av} {vx:Value} {b1:Nat} (hF:aL w₀ C) (hx:aB w₀ (ax C) x vx) (h1:w₀.heap[b1]?=some (.cells (iB b).toArray 58)):Calls Tryz.prog 99 #[vx,.pointer (some ⟨b1,0,none⟩)] w₀ (bI λv w'=>v=.bool (rV b x)/\aA [] w₀ C w' C):=by
 have bF:=hF;have hT:=z9 w₀ C;replace hF:=hF.bz;replace hx:=hx.c1;replace h1:=jv.of h1 C;refine bW Rh.c0 14 [vx,.pointer (some ⟨b1,0,none⟩)] Tryz.func99 ?_;show Run _ _ _ _ [(0,vx),(1,.pointer (some ⟨b1,0,none⟩))] _ _;refine aj (aq [af 0] ?_);refine aZ 3 (.bool false) (ak.nil (aj ?_));by_cases hA:b.A∈x
 ·
  by_cases hB:b.B∈x
  ·
   refine aq [af 0,af 1,nn 2,nn 3,af 4,af 5,af 6,nn 7,nn 8,af 9,af 10] ?_;refine ah 4 0 (bn 5 58 1 0 0 ?_);refine cD 6 55 5 2 (bJ b.A) h1.at_ ?_;refine bV 7 49 [4,6] [52,55] Tryz.call49 rfl (iI (c:=b.A) hF hx) ?_;rintro ku w1 ⟨rfl,s_1⟩;rw[iJ,decide_eq_true hA];refine ah 8 7 ?_;refine cn 9 0 4 true (cW 10 58 1 1 2 4 true ?_);replace h1:=h1.t s_1;refine jo 11 55 10 4 true 2 (bJ b.B) h1.at_ ?_;replace hF:=hF.st s_1;replace hx:=hx.t s_1;refine dU (aO 12 (.call {callee:=.value (.func 49),args:=#[(.tmp 9),(.tmp 11)],argTypes:=#[52,55]}) 4 true) rfl rfl (dy Tryz.call49 rfl) (iI (c:=b.B) hF hx) ?_;rintro gC w2 ⟨rfl,s_2⟩;rw[iJ,decide_eq_true hB];refine dS 13 8 12 ?_;refine aD 3 13 (ak.nil ?_);refine bR Tryz.func99 Tryz.results99 ?_;replace hT:=(hT.t s_1).t s_2;exact⟨by rw[HM,decide_eq_true hA,decide_eq_true hB];rfl,hT.cm (by decide)⟩
  refine aq [af 0,af 1,nn 2,nn 3,af 4,af 5,af 6,nn 7,nn 8,af 9,af 10] ?_;refine ah 4 0 (bn 5 58 1 0 0 ?_);refine cD 6 55 5 2 (bJ b.A) h1.at_ ?_;refine bV 7 49 [4,6] [52,55] Tryz.call49 rfl (iI (c:=b.A) hF hx) ?_;rintro kz w3 ⟨rfl,aF⟩;rw[iJ,decide_eq_true hA];refine ah 8 7 ?_;refine cn 9 0 4 true (cW 10 58 1 1 2 4 true ?_);replace h1:=h1.t aF;refine jo 11 55 10 4 true 2 (bJ b.B) h1.at_ ?_;replace hF:=hF.st aF;replace hx:=hx.t aF;refine dU (aO 12 (.call {callee:=.value (.func 49),args:=#[(.tmp 9),(.tmp 11)],argTypes:=#[52,55]}) 4 true) rfl rfl (dy Tryz.call49 rfl) (iI (c:=b.B) hF hx) ?_;rintro jw w4 ⟨rfl,aI⟩;rw[iJ,decide_eq_false hB];refine dS 13 8 12 ?_;refine aD 3 13 (ak.nil ?_);refine bR Tryz.func99 Tryz.results99 ?_;replace hT:=(hT.t aF).t aI;exact⟨by rw[HM,decide_eq_true hA,decide_eq_false hB];rfl,hT.cm (by decide)⟩
 refine aq [af 0,af 1,nn 2,nn 3,af 4,af 5,af 6,nn 7,nn 8,af 9,af 10] ?_;refine ah 4 0 (bn 5 58 1 0 0 ?_);refine cD 6 55 5 2 (bJ b.A) h1.at_ ?_;refine bV 7 49 [4,6] [52,55] Tryz.call49 rfl (iI (c:=b.A) hF hx) ?_;rintro nV dY ⟨rfl,aG⟩;rw[iJ,decide_eq_false hA];refine ah 8 7 ?_;refine aM 9 4 true (aM 10 4 true ?_);refine eo (aO 11 (.load 55 (.tmp 10)) 4 true) rfl rfl trivial ?_;refine eo (aO 12 (.call {callee:=.value (.func 49),args:=#[(.tmp 9),(.tmp 11)],argTypes:=#[52,55]}) 4 true) rfl rfl trivial ?_;refine gn 13 8 12 ?_;refine aD 3 13 (ak.nil ?_);refine bR Tryz.func99 Tryz.results99 ?_;replace hT:=hT.t aG;exact⟨by rw[HM,decide_eq_false hA];rfl,hT.cm (by decide)⟩
namespace Ri
def c0:=bZ Tryz.f54
end Ri
theorem JN {w₀:World} {C:Nat->Nat} {l:List bk} {ps:List (List av)} {aK dG:Value} (hF:aL w₀ C) (hl:aB w₀ (ax C) l aK) (hp:aB w₀ (ax C) ps dG) (hw:∀x∈l,1<=x.w/\x.w<=1048576) (hlen:l.length<=4096):Calls Tryz.prog 54 #[aK,dG] w₀ (bI λv w'=>v=.int .i64 (fh l ps)/\aA [] w₀ C w' C):=by
 have bF:=hF;have hT:=z9 w₀ C;replace hF:=hF.bz;replace hl:=hl.c1;replace hp:=hp.c1;refine bW Ri.c0 23 [aK,dG] Tryz.func54 ?_;show Run _ _ _ _ [(0,aK),(1,dG)] _ _;refine aj (aq [af 0] ?_);refine aZ 4 (.int .i64 0) (ak.nil (aj (aq [af 0] ?_)));refine aZ 5 (.int .i64 0) (ak.nil (aj (aj (aq [af 0,af 1,af 2] ?_))));refine ah 8 0 ?_;refine zE 9 8 23 (hl.bU rfl Tryz.underlying23) ?_;refine ef 10 (.int .i64 0) ?_;refine ak.nil (bD 0 ?_);refine cM (ι:=Nat×(Nat->Nat)) (I:=λx w=>x.1<=l.length/\aL w x.2/\aA [2,3,4,5,6,7,8,9] w₀ (bz C) w x.2/\aB w (ax x.2) l aK/\aB w (ax x.2) ps dG) (e:=λx=>[(1,dG),(5,.int .i64 (fh (l.take x.1) ps)),(8,aK),(9,.int .i64 l.length),(10,.int .i64 x.1)]) (m:=λx=>l.length-x.1) (cE:=(0,bz C)) (ai 1 (aJ 5 rfl (eq_int (by simp[fh])) (ai 8 (ai 9 (ai 10 (aV _)))))) ?_ ?_
 · exact⟨Nat.zero_le _,hF,hT,hl,hp⟩
 intro⟨k,bu⟩ w1 hI bP;obtain⟨hk,hF,hT,hl,hp⟩:=hI;try simp only at hk hF hT hl hp
 show Run _ _ _ _ [(1,dG),(5,.int .i64 (fh (l.take k) ps)),(8,aK),(9,.int .i64 l.length),(10,.int .i64 k)] _ _;have hle:=hl.le;obtain⟨jZ,eE⟩:=HL hw ps k hk;refine aj (aq [af 0] ?_);refine de 11 3 10 9 (ak.nil (aj ?_));refine bQ 11 rfl (λoV=>?_) (λoV=>?_)
 ·
  have aC:k<l.length:=by omega
  have Rj:=M_ aC ps;have hwk:=hw _ (List.getElem_mem aC);refine bq (aj (bD 1 (aj (aq [af 0,nn 1,nn 2,nn 3] ?_))));refine dw 58 12 23 8 10 hl rfl (h:=?_);intro Rk r5 h12;try simp only[aQ] at h12
  refine ic (au 13 (.load 58 (.tmp 12))) rfl rfl trivial h12 (by kernel_rfl) (by kernel_rfl) rfl rfl ?_;intro zK g13;obtain rfl:=jI.1 g13;refine bG (au 7 (.alloc 58)) rfl rfl (dR (cs:=[.int .i64 0,.int .i64 0,.int .i64 0,.int .i64 0,.int .i64 0]) hF 4 (by kernel_rfl)) ?_;rintro _ w2 ⟨dx,en,rfl,s_1,hb,hF⟩;refine cg (k0 (.store 58 (.tmp 7) (.tmp 13))) rfl (dM (vs:=iB (l[k]'aC)) (n:=5) rfl rfl (by kernel_rfl) rfl rfl (gp rfl) hb rfl) ?_;rintro _ w3 ⟨rfl,s_2,hb⟩;refine ak.nil (aj (aq [af 0,af 1,nn 2] ?_));refine ah 14 1 ?_;refine ay (au 15 (.makeFunc (.func 99) #[] #[(.tmp 7)])) (λ_=>wU rfl rfl) ?_;replace hF:=hF.st s_2;have dN:∀w1,aA [] _ (dx) w1 (dx)->∀x∈ps,∀vx,aB w1 (ax (dx)) x vx->Calls Tryz.prog 99 ([vx]++#[Value.pointer (some ⟨en,0,none⟩)].toList).toArray w1 (bI λv w'=>v=.bool (rV (l[k]'aC) x)/\aA [] w1 (dx) w' (dx)):=λw1 h1 x _ vx hx=>p0 (hF.st h1) hx (h1.same hb.at_);replace hp:=(hp.t s_1).t s_2;refine bV 16 98 [14,15] [24,148] Tryz.call98 rfl (sk (p:=rV (l[k]'aC)) (nf:=99) (caps:=#[Value.pointer (some ⟨en,0,none⟩)]) (λargs w=>Tryz.call99 args w) dN hF hp) ?_;rintro jw w4 ⟨rfl,aF⟩;refine ak.nil ?_;refine nD 16 rfl (λjx=>?_) (λjx=>?_)
  ·
   rw[if_pos jx] at Rj;refine aq [af 0,af 1,nn 2,af 3,af 4] ?_;refine ah 17 5 (bn 18 58 7 2 4 ?_);replace hb:=hb.t aF;refine cK 19 3 18 hb.at_ rfl rfl ?_;refine ay (au 20 (.binOp .add 3 (.tmp 17) (.tmp 19) 3)) (λ_=>gZ rfl rfl (by omega) (by omega)) ?_;refine aD 5 20 (ak.nil (bO (aq [af 0,af 1] ?_)));refine b7 21 3 10 1 (ah 10 21 (ak.nil ?_));replace hT:=((hT.t s_1).t s_2).t aF;replace hl:=((hl.t s_1).t s_2).t aF;replace hF:=hF.st aF;replace hp:=hp.t aF;refine kp (ai 1 (aJ 5 rfl (eq_int (by simp only;omega)) (ai 8 (ai 9 (aJ 10 rfl (eq_int (by simp)) (aV _)))))) (bP (k+1,dx) _ ⟨(by first|omega|(simp only;omega)),hF,hT,hl,hp⟩ (by first|omega|(simp only;omega)))
  rw[if_neg (by rw[jx];decide)] at Rj;refine bq (bO (aq [af 0,af 1] ?_));refine b7 21 3 10 1 (ah 10 21 (ak.nil ?_));replace hT:=((hT.t s_1).t s_2).t aF;replace hl:=((hl.t s_1).t s_2).t aF;replace hF:=hF.st aF;replace hp:=hp.t aF;refine kp (ai 1 (aJ 5 rfl (eq_int (by simp only;omega)) (ai 8 (ai 9 (aJ 10 rfl (eq_int (by simp)) (aV _)))))) (bP (k+1,dx) _ ⟨(by first|omega|(simp only;omega)),hF,hT,hl,hp⟩ (by first|omega|(simp only;omega)))
 have aC:k=l.length:=by omega
 refine cB 0 ?_;refine aj (aq [af 0,af 1] ?_);refine ah 22 5 (aD 4 22 (ak.nil ?_));refine bR Tryz.func54 Tryz.results54 ?_;exact⟨by rw[aC,Na],hT.cm (by decide)⟩
end
end Go.Proofs.YtmdhggfehknjjaaGreat
