/- Steps through functions of the program. -/
import Derived.Test.YtmdhggfehknjjaaGreatJN9E2
import Derived.Test.YtmdhggfehknjjaaGreatL2
set_option linter.unusedVariables false
set_option linter.unusedSimpArgs false
set_option maxRecDepth 100000
set_option maxHeartbeats 4000000
namespace Go.Proofs.YtmdhggfehknjjaaGreat
open Go.K Go.K.bu
noncomputable section
namespace J6
def c0:=bZ Tryz.f141
def r4:=(cl (cl (aH (cl (aH c0)))))
def j6:=dF (cl (cl (cl (aH r4))))
end J6
theorem R6 {w₀:World} {C:Nat->Nat} {l:List av} {aG:Value} (hF:aL w₀ C) (hl:aB w₀ (aA C) l aG) (oN:l.Pairwise fK):Calls Tryz.prog 141 #[aG] w₀ (bI λv w'=>v=.bool true/\ay [] w₀ C w' C):=by
 have bH:=hF;have hT:=z9 w₀ C;replace hF:=hF.bq;replace hl:=hl.c1;refine bT J6.c0 21 [aG] Tryz.func141 ?_;show Run _ _ _ _ [(0,aG)] _ _;refine ai (aq [af 0] ?_);refine aX 2 (.bool false) (aj.nil (ai (ai (aq [af 0] ?_))));refine aX 3 (.int .i64 1) ?_;refine aj.nil (bD 0 ?_);refine cK (ι:=Nat×(Nat->Nat)) (I:=λx w=>1<=x.1/\x.1<=max 1 l.length/\aL w x.2/\ay [2,3,4,5,6,7,8,9] w₀ (bq C) w x.2/\aB w (aA x.2) l aG) (e:=λx=>[(0,aG),(3,.int .i64 x.1)]) (m:=λx=>l.length-x.1) (cE:=(1,bq C)) (ak 0 (ak 3 (aY _))) ?_ ?_
 · exact⟨Nat.le_refl _,by omega,hF,hT,hl⟩
 intro⟨i,aW⟩ w1 hI bN;obtain⟨hi,hi2,hF,hT,hl⟩:=hI;try simp only at hi hi2 hF hT hl
 show Run _ _ _ _ [(0,aG),(3,.int .i64 i)] _ _;have hle:=hl.le;refine ai (ai (aq [af 0,af 1,af 2,af 3] ?_));refine ah 4 3 (ah 5 0 ?_);refine zE 6 5 52 (hl.bS rfl Tryz.underlying52) ?_;refine c4 7 3 4 6 (aj.nil ?_);refine bQ 7 rfl (λh7=>?_) (λh7=>?_)
 ·
  have hil:i<l.length:=by omega
  refine bn (ai (bD 1 (ai ?_)));refine dm (id:=4) (ops:=J6.j6) [] (aW) [af 0,af 1,af 2,af 3,af 4,af 5,af 6,af 7,af 8,nn 9,af 10] cM (by kernel_rfl) (by kernel_rfl) (by kernel_rfl) ?_;intro w2 s_1;have hR:=ay.refl [] w2 (aW);refine ah 10 0 (ah 11 3 ?_);refine ax (au 12 (.binOp .sub 3 (.tmp 11) (.const (.int .i64 1)) 3)) (λ_=>eD rfl rfl (by omega) (by omega)) ?_;replace hl:=hl.t s_1;refine c5 55 13 52 10 12 hl rfl (h:=?_);intro Ai vT gi;try simp only[aP] at gi
  refine gu (au 14 (.load 55 (.tmp 13))) rfl rfl (λw' hS=>gi.bF hS) gi (by kernel_rfl) (by kernel_rfl) rfl rfl ?_;intro vU g14;have jN: ((i:Int)-1).toNat=i-1:=by omega
  simp only[jN] at g14;obtain rfl:=eA.1 g14;refine ah 15 0 (ah 16 3 ?_);refine c5 55 17 52 15 16 hl rfl (h:=?_);intro ab6 Fs sB;try simp only[aP] at sB
  refine gu (au 18 (.load 55 (.tmp 17))) rfl rfl (λw' hS=>sB.bF hS) sB (by kernel_rfl) (by kernel_rfl) rfl rfl ?_;intro O2 g18;obtain rfl:=eA.1 g18;replace hF:=hF.st s_1;refine fJ 19 53 [14,18] [55,55] Tryz.call53 rfl (uv (x:=l[i-1]'(by omega)) (y:=l[i]'hil) hF) ?_;rintro ko w3 ⟨rfl,s_2⟩;have hlt:iW (l[i-1]'(by omega)) (l[i]'hil)<0:=xw.2 (List.pairwise_iff_getElem.1 oN (i-1) i (by omega) hil (by omega));refine⟨(hR.trans s_2 (by simp)).ext,?_⟩;refine ax (au 20 (.binOp .geq 3 (.tmp 19) (.const (.int .i64 0)) 3)) (λ_=>ej (fB rfl rfl) (by omega)) ?_;refine aj.nil (cR 20 (bn (bR (aq [af 0,af 1,af 2] ?_))));refine ah 8 3 ?_;refine cn 9 3 8 1 (aC 3 9 (aj.nil ?_));replace hT:=(hT.t s_1).t s_2;replace hF:=hF.st s_2;replace hl:=hl.t s_2;refine kp (ak 0 (aV 3 rfl (eq_int (by simp)) (aY _))) (bN (i+1,aW) _ ⟨(by first|omega|(simp only;omega)),(by first|omega|(simp only;omega)),hF,hT,hl⟩ (by first|omega|(simp only;omega)))
 refine cB 0 ?_;refine ai (aq [af 0] ?_);refine aX 2 (.bool true) (aj.nil ?_);refine bP Tryz.func141 Tryz.results141 ?_;exact⟨rfl,hT.bW (by decide)⟩
theorem iE {s:List av} {c:av}: (s.any λx=>decide (c=x))=decide (c∈s):=by
 rw[Bool.eq_iff_iff,HA,decide_eq_true_iff]
namespace Ba
def c0:=bZ Tryz.f195
def s9:=(cl (aH (cl (aH (aH c0)))))
def Tr:=(aH (aH (cl (aH (cl s9)))))
def y3:=(cl (aH (aH (cl (cl Tr)))))
def yW:=dF (cl (aH (aH (cl y3))))
end Ba
theorem R7 {w₀:World} {C:Nat->Nat} {l:List a_} {s:List av} {bO cC vs:Value} (hF:aL w₀ C) (hl:aB w₀ (aA C) l bO) (hs0:aB w₀ (aA C) s vs) (h1:1<=s.length) (hn:s.Nodup) (hlen:s.length<=1000000):Calls Tryz.prog 195 #[.agg #[bO,cC],vs] w₀ (bI λv w'=>v=.bool (qg l s)/\ay [] w₀ C w' C):=by
 have bH:=hF;have hT:=z9 w₀ C;replace hF:=hF.bq;replace hl:=hl.c1;replace hs0:=hs0.c1;refine bT Ba.c0 69 [.agg #[bO,cC],vs] Tryz.func195 ?_;show Run _ _ _ _ [(0,.agg #[bO,cC]),(1,vs)] _ _;refine ai (aq [nn 0,af 1] ?_);refine bG (au 2 (.box 129 (.tmp 0))) rfl rfl (dI (cs:=[bO,cC]) hF 3 rfl rfl) ?_;rintro _ w1 ⟨dy,bY,rfl,s_1,hx,hF⟩;refine aX 4 (.bool false) (aj.nil (ai (aq [af 0,af 1,af 2] ?_)));refine ah 11 1 ?_;replace hs0:=hs0.t s_1;refine XB (e':=55) (m:=1) (au 12 (.slice 52 (.tmp 11) none (some (.const (.int .i64 1))) (some (.const (.int .i64 1))))) rfl rfl hs0 rfl (by kernel_rfl) rfl rfl h1 ?_;intro a1 TL;refine aC 5 12 (aj.nil (ai (ai (aq [af 0] ?_))));have hs1: (s.take 1).length=1:=by rw[List.length_take];omega
 refine aX 6 (.bool true) ?_;refine aj.nil (bD 0 ?_);refine cK (ι:=Bool×(List av)×Value×(Nat->Nat)) (I:=λx w=>qQ l s x.2.1/\(x.1=false->∀bd∈l,bd.A∈s->bd.B∈s->(bd.A∈x.2.1↔bd.B∈x.2.1))/\aL w x.2.2.2/\ay [2,3,4,5,6,7,8,9] w₀ (bq C) w x.2.2.2/\aB w (aA x.2.2.2) l bO/\aB w (aA x.2.2.2) s vs/\cD w x.2.2.2 3 bY (.cells [bO,cC].toArray 129)/\nP w x.2.2.2 5 55 x.2.2.1 x.2.1) (e:=λx=>[(1,vs),(2,.pointer (some ⟨bY,0,none⟩)),(5,x.2.2.1),(6,.bool x.1)]) (m:=λx=>2*(s.length-x.2.1.length)+(if x.1 then 1 else 0)) (cE:=(true,s.take 1,.slice a1 1 1,dy)) (ak 1 (ak 2 (ak 5 (ak 6 (aY _))))) ?_ ?_
 ·
   replace hT:=hT.t s_1;replace hl:=hl.t s_1;exact⟨qQ.start h1,λe=>(by cases e),hF,hT,hl,hs0,hx,.inr ⟨a1,(by rw[hs1]),TL⟩⟩
 intro⟨g0,ys,vy,aW⟩ w2 hI bN;obtain⟨hR,hg,hF,hT,hl,hs0,hx,hy⟩:=hI;try simp only at hR hg hF hT hl hs0 hx hy
 show Run _ _ _ _ [(1,vs),(2,.pointer (some ⟨bY,0,none⟩)),(5,vy),(6,.bool g0)] _ _;have ym:=hR.len;refine ai (ai (aq [af 0] ?_));refine ah 13 6 (aj.nil ?_);refine kZ 13 rfl (λgi=>?_) (λgi=>?_)
 ·
  subst gi;refine bn (bD 1 (ai (aq [af 0] ?_)));refine aX 6 (.bool false) (aj.nil (ai (aq [af 0,nn 1,af 2,af 3] ?_)));refine bp 14 129 2 0 0 ?_;refine cH 15 23 14 hx.at_ rfl rfl ?_;refine zE 16 15 23 (hl.bS rfl Tryz.underlying23) ?_;refine eE 17 (.int .i64 0) ?_;refine aj.nil (bD 2 ?_);refine cK (ι:=Nat×Bool×(List av)×Value×(Nat->Nat)) (I:=λx w=>x.1<=l.length/\qQ l s x.2.2.1/\(x.2.1=true->ys.length<x.2.2.1.length)/\(x.2.1=false->x.2.2.1=ys/\∀i (hi:i<x.1) (hl:i<l.length),l[i].A∈s->l[i].B∈s->(l[i].A∈ys↔l[i].B∈ys))/\aL w x.2.2.2.2/\ay [2,3,4,5,6,7,8,9] w₀ (bq C) w x.2.2.2.2/\aB w (aA x.2.2.2.2) l bO/\aB w (aA x.2.2.2.2) s vs/\cD w x.2.2.2.2 3 bY (.cells [bO,cC].toArray 129)/\nP w x.2.2.2.2 5 55 x.2.2.2.1 x.2.2.1) (e:=λx=>[(1,vs),(2,.pointer (some ⟨bY,0,none⟩)),(5,x.2.2.2.1),(6,.bool x.2.1),(15,bO),(16,.int .i64 l.length),(17,.int .i64 x.1)]) (m:=λx=>l.length-x.1) (cE:=(0,false,ys,vy,aW)) (ak 1 (ak 2 (ak 5 (ak 6 (ak 15 (ak 16 (ak 17 (aY _)))))))) ?_ ?_
  · exact⟨Nat.zero_le _,hR,λe=>(by cases e),λ_=>⟨rfl,λi hi=>by simp only at hi;omega⟩,hF,hT,hl,hs0,hx,hy⟩
  intro⟨k,g,zs,vy,eM⟩ w3 hI fk;obtain⟨hk,yX,Bb,wJ,hF,hT,hl,hs0,hx,hy⟩:=hI;try simp only at hk yX Bb wJ hF hT hl hs0 hx hy
  show Run _ _ _ _ [(1,vs),(2,.pointer (some ⟨bY,0,none⟩)),(5,vy),(6,.bool g),(15,bO),(16,.int .i64 l.length),(17,.int .i64 k)] _ _;have hle:=hl.le;have ab7:=hs0.le;have hzl:=yX.len;refine ai (aq [af 0] ?_);refine c4 18 3 17 16 (aj.nil (ai ?_));refine bQ 18 rfl (λj7=>?_) (λj7=>?_)
  ·
   have aF:k<l.length:=by omega
   have Bc:=List.getElem_mem aF;refine bn (ai (bD 3 (ai (aq [af 0,nn 1,nn 2,nn 3] ?_))));refine c5 58 19 23 15 17 hl rfl (h:=?_);intro J7 kU l6;try simp only[aP] at l6
   refine iH (au 20 (.load 58 (.tmp 19))) rfl rfl trivial l6 (by kernel_rfl) (by kernel_rfl) rfl rfl ?_;intro v20 g20;obtain rfl:=jy.1 g20;refine bG (au 8 (.alloc 58)) rfl rfl (ec (cs:=[.int .i64 0,.int .i64 0,.int .i64 0,.int .i64 0,.int .i64 0]) hF 6 (by kernel_rfl)) ?_;rintro _ w4 ⟨gq,mK,rfl,s_2,hb,hF⟩;refine cq (k0 (.store 58 (.tmp 8) (.tmp 20))) rfl (dX (vs:=ic (l[k]'aF)) (n:=5) rfl rfl (by kernel_rfl) rfl rfl (gx rfl) hb rfl) ?_;rintro _ dZ ⟨rfl,aD,hb⟩;refine aj.nil (ai (ai ?_));by_cases hA: (l[k]'aF).A∈s
   ·
    by_cases hB: (l[k]'aF).B∈s
    ·
     refine aq [af 0,af 1,nn 2,nn 3,af 4,af 5,af 6,af 7,nn 8,nn 9,af 10,af 11] ?_;refine ah 21 1 (bp 22 58 8 0 0 ?_);refine cA 23 55 22 2 (bE (l[k]'aF).A) hb.at_ ?_;replace hs0:=(hs0.t s_2).t aD;replace hF:=hF.st aD;refine bU 24 49 [21,23] [52,55] Tryz.call49 rfl (iB (c:=(l[k]'aF).A) hF hs0) ?_;rintro nR eS ⟨rfl,aK⟩;rw[iE,decide_eq_true hA];refine ax (au 25 (.unOp .not 4 (.tmp 24))) (λ_=>ey rfl) ?_;refine ah 26 25 ?_;refine cg 27 1 5 false (cz 28 58 8 1 2 5 false ?_);replace hb:=hb.t aK;refine iq 29 55 28 5 false 2 (bE (l[k]'aF).B) hb.at_ ?_;replace hF:=hF.st aK;replace hs0:=hs0.t aK;refine dN (aI 30 (.call {callee:=.value (.func 49),args:=#[(.tmp 27),(.tmp 29)],argTypes:=#[52,55]}) 5 false) rfl rfl (de Tryz.call49 rfl) (iB (c:=(l[k]'aF).B) hF hs0) ?_;rintro lY w7 ⟨rfl,aJ⟩;rw[iE,decide_eq_true hB];refine ax (aI 31 (.unOp .not 4 (.tmp 30)) 5 false) (λ_=>ey rfl) ?_;refine eH 32 26 31 ?_;refine aj.nil (cR 32 (bn (ai ?_)));by_cases hP: (l[k]'aF).A∈zs
     ·
      by_cases hQ: (l[k]'aF).B∈zs
      ·
       refine dm (id:=9) (ops:=Ba.yW) [] (gq) [af 0,af 1,af 2,af 4,af 5,af 6,nn 3,nn 7,af 8,af 9] cM (by kernel_rfl) (by kernel_rfl) (by kernel_rfl) ?_;intro gp aR;have hR:=ay.refl [] gp (gq);refine ah 33 5 (bp 34 58 8 0 0 ?_);replace hb:=(hb.t aJ).t aR;refine gN 35 55 34 2 (bE (l[k]'aF).A) (hb.stay · (by decide)) ?_;refine ah 37 5 (bp 38 58 8 1 2 ?_);refine gN 39 55 38 2 (bE (l[k]'aF).B) (hb.stay · (by decide)) ?_;replace hy:=((((hy.t s_2).t aD).t aK).t aJ).t aR;refine fJ 36 49 [33,35] [52,55] Tryz.call49 rfl (iB (C:=iA) (c:=(l[k]'aF).A) (mZ _) (hy.k7 (by omega))) ?_;rintro _ gM ⟨rfl,aZ⟩;replace aZ:=aZ.re (gq);rw[iE,decide_eq_true hP];refine⟨(hR.trans aZ (by simp)).ext,?_⟩;replace hy:=hy.t aZ;refine fJ 40 49 [37,39] [52,55] Tryz.call49 rfl (iB (C:=iA) (c:=(l[k]'aF).B) (mZ _) (hy.k7 (by omega))) ?_;rintro _ ij ⟨rfl,bg⟩;replace bg:=bg.re (gq);rw[iE,decide_eq_true hQ];replace hR:=hR.t aZ;refine⟨(hR.trans bg (by simp)).ext,?_⟩;refine aC 9 36 (aC 10 40 ?_);refine aj.nil (bD 4 (ai (aq [af 0,af 1,af 2,af 3,af 4,af 5] ?_)));refine ah 42 9 (ah 43 42 ?_);refine cg 44 10 1 true ?_;refine ax (aI 45 (.unOp .not 4 (.tmp 44)) 1 true) (λ_=>ey rfl) ?_;refine dD 46 43 45 ?_;refine aC 41 46 ?_;refine aj.nil (cR 41 (ai (aq [af 0,af 1,af 2,af 3,af 4,af 5] ?_)));refine ah 53 10 (ah 54 53 ?_);refine cg 55 9 1 true ?_;refine ax (aI 56 (.unOp .not 4 (.tmp 55)) 1 true) (λ_=>ey rfl) ?_;refine dD 57 54 56 ?_;refine aC 52 57 ?_;refine aj.nil (cR 52 (bn (bR (bR (aq [af 0,af 1] ?_)))));refine cn 63 3 17 1 (ah 17 63 (aj.nil ?_))
       replace hT:=((((((hT.t s_2).t aD).t aK).t aJ).t aR).t aZ).t bg;replace hl:=((((((hl.t s_2).t aD).t aK).t aJ).t aR).t aZ).t bg;replace hx:=((((((hx.t s_2).t aD).t aK).t aJ).t aR).t aZ).t bg;replace hF:=(((hF.st aJ).st aR).st aZ).st bg;replace hs0:=(((hs0.t aJ).t aR).t aZ).t bg;replace hy:=hy.t bg;refine kp (aV 1 rfl rfl (aV 2 rfl rfl (aV 5 rfl rfl (aV 6 rfl rfl (aV 15 rfl rfl (aV 16 rfl rfl (aV 17 rfl (eq_int (by simp)) (aY _)))))))) (fk (k+1,g,zs,vy,gq) _ ⟨(by first|omega|(simp only;omega)),(by first|omega|(simp only;omega)),(by first|omega|(simp only;omega)),(λe=>by
           obtain⟨h1,h2⟩:=wJ e;exact⟨h1,λi hi hl' a b=>by
             simp only at hi;by_cases e2:i=k
             ·subst e2;rw[<-h1];first|exact⟨λ_=>hQ,λ_=>hP⟩|exact⟨λe=>absurd e hP,λe=>absurd e hQ⟩
             ·exact h2 i (by omega) hl' a b⟩),hF,hT,hl,hs0,hx,hy⟩ (by first|omega|(simp only;omega)))
      refine dm (id:=9) (ops:=Ba.yW) [] (gq) [af 0,af 1,af 2,af 4,af 5,af 6,nn 3,nn 7,af 8,af 9] cM (by kernel_rfl) (by kernel_rfl) (by kernel_rfl) ?_;intro jK bz;have hR:=ay.refl [] jK (gq);refine ah 33 5 (bp 34 58 8 0 0 ?_);replace hb:=(hb.t aJ).t bz;refine gN 35 55 34 2 (bE (l[k]'aF).A) (hb.stay · (by decide)) ?_;refine ah 37 5 (bp 38 58 8 1 2 ?_);refine gN 39 55 38 2 (bE (l[k]'aF).B) (hb.stay · (by decide)) ?_;replace hy:=((((hy.t s_2).t aD).t aK).t aJ).t bz;refine fJ 36 49 [33,35] [52,55] Tryz.call49 rfl (iB (C:=iA) (c:=(l[k]'aF).A) (mZ _) (hy.k7 (by omega))) ?_;rintro _ j5 ⟨rfl,bJ⟩;replace bJ:=bJ.re (gq);rw[iE,decide_eq_true hP];refine⟨(hR.trans bJ (by simp)).ext,?_⟩;replace hy:=hy.t bJ;refine fJ 40 49 [37,39] [52,55] Tryz.call49 rfl (iB (C:=iA) (c:=(l[k]'aF).B) (mZ _) (hy.k7 (by omega))) ?_;rintro _ kT ⟨rfl,bC⟩;replace bC:=bC.re (gq);rw[iE,decide_eq_false hQ];replace hR:=hR.t bJ;refine⟨(hR.trans bC (by simp)).ext,?_⟩;refine aC 9 36 (aC 10 40 ?_);refine aj.nil (bD 4 (ai (aq [af 0,af 1,af 2,af 3,af 4,af 5] ?_)));refine ah 42 9 (ah 43 42 ?_);refine cg 44 10 1 true ?_;refine ax (aI 45 (.unOp .not 4 (.tmp 44)) 1 true) (λ_=>ey rfl) ?_;refine dD 46 43 45 ?_;refine aC 41 46 ?_;refine aj.nil (lH 41 (aq [af 0,af 1,nn 2,nn 3,nn 4,af 5,af 6] ?_));refine ah 47 5 (bp 48 58 8 1 2 ?_);replace hb:=(hb.t bJ).t bC;refine cA 49 55 48 2 (bE (l[k]'aF).B) hb.at_ ?_;replace hF:=(((hF.st aJ).st bz).st bJ).st bC;refine bG (au 50 (.buildSlice 52 1 #[(0,(.tmp 49))])) rfl rfl (f_ (ys:=([(l[k]'aF).B]:List av)) (e:=55) (bytes:=16) hF (by kernel_rfl) rfl (by decide) (by decide) ⟨rfl,⟨_,rfl,eA.2 rfl⟩,trivial⟩) ?_;rintro v50 k_ ⟨bX,fF,hF⟩;replace hy:=(hy.t bC).t bX
      refine bG (au 51 (.call {callee:=.builtin .append,args:=#[(.tmp 47),(.tmp 50)],argTypes:=#[52,52]})) rfl rfl (N3 (e:=55) (bytes:=16) hF (j:=5) (by decide) rfl rfl (by kernel_rfl) (by decide) hy fF (by simp) (by simp only[List.length_cons,List.length_nil];omega) (by simp only[List.length_cons,List.length_nil];omega)) ?_;rintro J8 mI ⟨J9,b_,hy,hF⟩;refine aC 5 51 (aX 6 (.bool true) (aj.nil (bR (bR (aq [af 0,af 1] ?_)))));refine cn 63 3 17 1 (ah 17 63 (aj.nil ?_));replace hT:=((((((((hT.t s_2).t aD).t aK).t aJ).t bz).t bJ).t bC).t bX).t b_;replace hl:=((((((((hl.t s_2).t aD).t aK).t aJ).t bz).t bJ).t bC).t bX).t b_;replace hx:=((((((((hx.t s_2).t aD).t aK).t aJ).t bz).t bJ).t bC).t bX).t b_;replace hs0:=(((((hs0.t aJ).t bz).t bJ).t bC).t bX).t b_;refine kp (aV 1 rfl rfl (aV 2 rfl rfl (aV 5 rfl rfl (aV 6 rfl rfl (aV 15 rfl rfl (aV 16 rfl rfl (aV 17 rfl (eq_int (by simp)) (aY _)))))))) (fk (k+1,true,zs++[(l[k]'aF).B],J8,J9) _ ⟨(by first|omega|(simp only;omega)),(yX.add Bc hA hB (.inr ⟨rfl,hP⟩) hQ),(λ_=>by
           simp only[List.length_append,List.length_cons,List.length_nil];cases eg:g with
           |true=>have:=Bb eg;omega
           |false=>have:=(wJ eg).1;rw[this];omega),(λe=>by cases e),hF,hT,hl,hs0,hx,(.inl hy)⟩ (by first|omega|(simp only;omega)))
     by_cases hQ: (l[k]'aF).B∈zs
     ·
      refine dm (id:=9) (ops:=Ba.yW) [] (gq) [af 0,af 1,af 2,af 4,af 5,af 6,nn 3,nn 7,af 8,af 9] cM (by kernel_rfl) (by kernel_rfl) (by kernel_rfl) ?_;intro nc bV;have hR:=ay.refl [] nc (gq);refine ah 33 5 (bp 34 58 8 0 0 ?_);replace hb:=(hb.t aJ).t bV;refine gN 35 55 34 2 (bE (l[k]'aF).A) (hb.stay · (by decide)) ?_;refine ah 37 5 (bp 38 58 8 1 2 ?_);refine gN 39 55 38 2 (bE (l[k]'aF).B) (hb.stay · (by decide)) ?_;replace hy:=((((hy.t s_2).t aD).t aK).t aJ).t bV;refine fJ 36 49 [33,35] [52,55] Tryz.call49 rfl (iB (C:=iA) (c:=(l[k]'aF).A) (mZ _) (hy.k7 (by omega))) ?_;rintro _ pK ⟨rfl,cu⟩;replace cu:=cu.re (gq);rw[iE,decide_eq_false hP];refine⟨(hR.trans cu (by simp)).ext,?_⟩;replace hy:=hy.t cu;refine fJ 40 49 [37,39] [52,55] Tryz.call49 rfl (iB (C:=iA) (c:=(l[k]'aF).B) (mZ _) (hy.k7 (by omega))) ?_;rintro _ pL ⟨rfl,cO⟩;replace cO:=cO.re (gq);rw[iE,decide_eq_true hQ];replace hR:=hR.t cu;refine⟨(hR.trans cO (by simp)).ext,?_⟩;refine aC 9 36 (aC 10 40 ?_);refine aj.nil (bD 4 (ai (aq [af 0,af 1,af 2,af 3,af 4,af 5] ?_)));refine ah 42 9 (ah 43 42 ?_);refine aM 44 1 true (aM 45 1 true ?_);refine fq 46 43 45 ?_;refine aC 41 46 ?_;refine aj.nil (cR 41 (ai (aq [af 0,af 1,af 2,af 3,af 4,af 5] ?_)));refine ah 53 10 (ah 54 53 ?_);refine cg 55 9 1 true ?_;refine ax (aI 56 (.unOp .not 4 (.tmp 55)) 1 true) (λ_=>ey rfl) ?_;refine dD 57 54 56 ?_;refine aC 52 57 ?_;refine aj.nil (lH 52 (aq [af 0,af 1,nn 2,nn 3,nn 4,af 5,af 6] ?_));refine ah 58 5 (bp 59 58 8 0 0 ?_);replace hb:=(hb.t cu).t cO;refine cA 60 55 59 2 (bE (l[k]'aF).A) hb.at_ ?_;replace hF:=(((hF.st aJ).st bV).st cu).st cO;refine bG (au 61 (.buildSlice 52 1 #[(0,(.tmp 60))])) rfl rfl (f_ (ys:=([(l[k]'aF).A]:List av)) (e:=55) (bytes:=16) hF (by kernel_rfl) rfl (by decide) (by decide) ⟨rfl,⟨_,rfl,eA.2 rfl⟩,trivial⟩) ?_
      rintro nr nT ⟨dh,Ds,hF⟩;replace hy:=(hy.t cO).t dh;refine bG (au 62 (.call {callee:=.builtin .append,args:=#[(.tmp 58),(.tmp 61)],argTypes:=#[52,52]})) rfl rfl (N3 (e:=55) (bytes:=16) hF (j:=5) (by decide) rfl rfl (by kernel_rfl) (by decide) hy Ds (by simp) (by simp only[List.length_cons,List.length_nil];omega) (by simp only[List.length_cons,List.length_nil];omega)) ?_;rintro J8 qp ⟨J_,dw,hy,hF⟩;refine aC 5 62 (aX 6 (.bool true) (aj.nil (bR (bR (aq [af 0,af 1] ?_)))));refine cn 63 3 17 1 (ah 17 63 (aj.nil ?_));replace hT:=((((((((hT.t s_2).t aD).t aK).t aJ).t bV).t cu).t cO).t dh).t dw;replace hl:=((((((((hl.t s_2).t aD).t aK).t aJ).t bV).t cu).t cO).t dh).t dw;replace hx:=((((((((hx.t s_2).t aD).t aK).t aJ).t bV).t cu).t cO).t dh).t dw;replace hs0:=(((((hs0.t aJ).t bV).t cu).t cO).t dh).t dw;refine kp (aV 1 rfl rfl (aV 2 rfl rfl (aV 5 rfl rfl (aV 6 rfl rfl (aV 15 rfl rfl (aV 16 rfl rfl (aV 17 rfl (eq_int (by simp)) (aY _)))))))) (fk (k+1,true,zs++[(l[k]'aF).A],J8,J_) _ ⟨(by first|omega|(simp only;omega)),(yX.add Bc hA hB (.inl ⟨rfl,hQ⟩) hP),(λ_=>by
           simp only[List.length_append,List.length_cons,List.length_nil];cases eg:g with
           |true=>have:=Bb eg;omega
           |false=>have:=(wJ eg).1;rw[this];omega),(λe=>by cases e),hF,hT,hl,hs0,hx,(.inl hy)⟩ (by first|omega|(simp only;omega)))
     refine dm (id:=9) (ops:=Ba.yW) [] (gq) [af 0,af 1,af 2,af 4,af 5,af 6,nn 3,nn 7,af 8,af 9] cM (by kernel_rfl) (by kernel_rfl) (by kernel_rfl) ?_;intro sA cZ;have hR:=ay.refl [] sA (gq);refine ah 33 5 (bp 34 58 8 0 0 ?_);replace hb:=(hb.t aJ).t cZ;refine gN 35 55 34 2 (bE (l[k]'aF).A) (hb.stay · (by decide)) ?_;refine ah 37 5 (bp 38 58 8 1 2 ?_);refine gN 39 55 38 2 (bE (l[k]'aF).B) (hb.stay · (by decide)) ?_;replace hy:=((((hy.t s_2).t aD).t aK).t aJ).t cZ;refine fJ 36 49 [33,35] [52,55] Tryz.call49 rfl (iB (C:=iA) (c:=(l[k]'aF).A) (mZ _) (hy.k7 (by omega))) ?_;rintro _ A4 ⟨rfl,dA⟩;replace dA:=dA.re (gq);rw[iE,decide_eq_false hP];refine⟨(hR.trans dA (by simp)).ext,?_⟩;replace hy:=hy.t dA;refine fJ 40 49 [37,39] [52,55] Tryz.call49 rfl (iB (C:=iA) (c:=(l[k]'aF).B) (mZ _) (hy.k7 (by omega))) ?_;rintro _ A5 ⟨rfl,er⟩;replace er:=er.re (gq);rw[iE,decide_eq_false hQ];replace hR:=hR.t dA;refine⟨(hR.trans er (by simp)).ext,?_⟩;refine aC 9 36 (aC 10 40 ?_);refine aj.nil (bD 4 (ai (aq [af 0,af 1,af 2,af 3,af 4,af 5] ?_)));refine ah 42 9 (ah 43 42 ?_);refine aM 44 1 true (aM 45 1 true ?_);refine fq 46 43 45 ?_;refine aC 41 46 ?_;refine aj.nil (cR 41 (ai (aq [af 0,af 1,af 2,af 3,af 4,af 5] ?_)));refine ah 53 10 (ah 54 53 ?_);refine aM 55 1 true (aM 56 1 true ?_);refine fq 57 54 56 ?_;refine aC 52 57 ?_;refine aj.nil (cR 52 (bn (bR (bR (aq [af 0,af 1] ?_)))));refine cn 63 3 17 1 (ah 17 63 (aj.nil ?_));replace hT:=((((((hT.t s_2).t aD).t aK).t aJ).t cZ).t dA).t er;replace hl:=((((((hl.t s_2).t aD).t aK).t aJ).t cZ).t dA).t er;replace hx:=((((((hx.t s_2).t aD).t aK).t aJ).t cZ).t dA).t er;replace hF:=(((hF.st aJ).st cZ).st dA).st er;replace hs0:=(((hs0.t aJ).t cZ).t dA).t er;replace hy:=hy.t er
     refine kp (aV 1 rfl rfl (aV 2 rfl rfl (aV 5 rfl rfl (aV 6 rfl rfl (aV 15 rfl rfl (aV 16 rfl rfl (aV 17 rfl (eq_int (by simp)) (aY _)))))))) (fk (k+1,g,zs,vy,gq) _ ⟨(by first|omega|(simp only;omega)),(by first|omega|(simp only;omega)),(by first|omega|(simp only;omega)),(λe=>by
           obtain⟨h1,h2⟩:=wJ e;exact⟨h1,λi hi hl' a b=>by
             simp only at hi;by_cases e2:i=k
             ·subst e2;rw[<-h1];first|exact⟨λ_=>hQ,λ_=>hP⟩|exact⟨λe=>absurd e hP,λe=>absurd e hQ⟩
             ·exact h2 i (by omega) hl' a b⟩),hF,hT,hl,hs0,hx,hy⟩ (by first|omega|(simp only;omega)))
    refine aq [af 0,af 1,nn 2,nn 3,af 4,af 5,af 6,af 7,nn 8,nn 9,af 10,af 11] ?_;refine ah 21 1 (bp 22 58 8 0 0 ?_);refine cA 23 55 22 2 (bE (l[k]'aF).A) hb.at_ ?_;replace hs0:=(hs0.t s_2).t aD;replace hF:=hF.st aD;refine bU 24 49 [21,23] [52,55] Tryz.call49 rfl (iB (c:=(l[k]'aF).A) hF hs0) ?_;rintro Cm Dc ⟨rfl,eX⟩;rw[iE,decide_eq_true hA];refine ax (au 25 (.unOp .not 4 (.tmp 24))) (λ_=>ey rfl) ?_;refine ah 26 25 ?_;refine cg 27 1 5 false (cz 28 58 8 1 2 5 false ?_);replace hb:=hb.t eX;refine iq 29 55 28 5 false 2 (bE (l[k]'aF).B) hb.at_ ?_;replace hF:=hF.st eX;replace hs0:=hs0.t eX;refine dN (aI 30 (.call {callee:=.value (.func 49),args:=#[(.tmp 27),(.tmp 29)],argTypes:=#[52,55]}) 5 false) rfl rfl (de Tryz.call49 rfl) (iB (c:=(l[k]'aF).B) hF hs0) ?_;rintro Cg A6 ⟨rfl,fG⟩;rw[iE,decide_eq_false hB];refine ax (aI 31 (.unOp .not 4 (.tmp 30)) 5 false) (λ_=>ey rfl) ?_;refine eH 32 26 31 ?_;refine aj.nil (lH 32 (cB 3 ?_));refine aq [af 0,af 1] ?_;refine cn 63 3 17 1 (ah 17 63 (aj.nil ?_));replace hT:=(((hT.t s_2).t aD).t eX).t fG;replace hl:=(((hl.t s_2).t aD).t eX).t fG;replace hx:=(((hx.t s_2).t aD).t eX).t fG;replace hy:=(((hy.t s_2).t aD).t eX).t fG;replace hF:=hF.st fG;replace hs0:=hs0.t fG;refine kp (aV 1 rfl rfl (aV 2 rfl rfl (aV 5 rfl rfl (aV 6 rfl rfl (aV 15 rfl rfl (aV 16 rfl rfl (aV 17 rfl (eq_int (by simp)) (aY _)))))))) (fk (k+1,g,zs,vy,gq) _ ⟨(by first|omega|(simp only;omega)),(by first|omega|(simp only;omega)),(by first|omega|(simp only;omega)),(λe=>by
         obtain⟨h1,h2⟩:=wJ e;exact⟨h1,λi hi hl' a b=>by
           simp only at hi;by_cases e2:i=k
           · subst e2;first|exact absurd a hA|exact absurd b hB
           · exact h2 i (by omega) hl' a b⟩),hF,hT,hl,hs0,hx,hy⟩ (by first|omega|(simp only;omega)))
   refine aq [af 0,af 1,nn 2,nn 3,af 4,af 5,af 6,af 7,nn 8,nn 9,af 10,af 11] ?_;refine ah 21 1 (bp 22 58 8 0 0 ?_);refine cA 23 55 22 2 (bE (l[k]'aF).A) hb.at_ ?_;replace hs0:=(hs0.t s_2).t aD;replace hF:=hF.st aD;refine bU 24 49 [21,23] [52,55] Tryz.call49 rfl (iB (c:=(l[k]'aF).A) hF hs0) ?_;rintro br Dd ⟨rfl,gE⟩;rw[iE,decide_eq_false hA];refine ax (au 25 (.unOp .not 4 (.tmp 24))) (λ_=>ey rfl) ?_;refine ah 26 25 ?_;refine aM 27 5 false (aM 28 5 false ?_);refine dz (aI 29 (.load 55 (.tmp 28)) 5 false) rfl rfl trivial ?_;refine dz (aI 30 (.call {callee:=.value (.func 49),args:=#[(.tmp 27),(.tmp 29)],argTypes:=#[52,55]}) 5 false) rfl rfl trivial ?_;refine aM 31 5 false ?_;refine mT 32 26 31 ?_;refine aj.nil (lH 32 (cB 3 ?_));refine aq [af 0,af 1] ?_;refine cn 63 3 17 1 (ah 17 63 (aj.nil ?_));replace hT:=((hT.t s_2).t aD).t gE;replace hl:=((hl.t s_2).t aD).t gE;replace hx:=((hx.t s_2).t aD).t gE;replace hy:=((hy.t s_2).t aD).t gE;replace hF:=hF.st gE;replace hs0:=hs0.t gE;refine kp (aV 1 rfl rfl (aV 2 rfl rfl (aV 5 rfl rfl (aV 6 rfl rfl (aV 15 rfl rfl (aV 16 rfl rfl (aV 17 rfl (eq_int (by simp)) (aY _)))))))) (fk (k+1,g,zs,vy,gq) _ ⟨(by first|omega|(simp only;omega)),(by first|omega|(simp only;omega)),(by first|omega|(simp only;omega)),(λe=>by
        obtain⟨h1,h2⟩:=wJ e;exact⟨h1,λi hi hl' a b=>by
          simp only at hi;by_cases e2:i=k
          · subst e2;first|exact absurd a hA|exact absurd b hB
          · exact h2 i (by omega) hl' a b⟩),hF,hT,hl,hs0,hx,hy⟩ (by first|omega|(simp only;omega)))
  have aF:k=l.length:=by omega
  refine cB 2 ?_;refine bR ?_;by_cases Dt:g=true
  ·
   have hlt:=Bb Dt;refine kp (ak 1 (ak 2 (ak 5 (ak 6 (aY _))))) (bN (g,zs,vy,eM) _ ⟨yX,(λe=>by rw[Dt] at e;cases e),hF,hT,hl,hs0,hx,hy⟩ (by simp only[Dt];have:=yX.len;simp;omega))
  obtain⟨iV,fu⟩:=wJ (by simpa using Dt);refine kp (aV 1 rfl rfl (aV 2 rfl rfl (aV 5 rfl rfl (aV 6 rfl rfl (aY _))))) (bN (g,zs,vy,eM) _ ⟨yX,(λ_ x hx a b=>by
        obtain⟨i,hi,rfl⟩:=List.getElem_of_mem hx;rw[iV];exact fu i (by omega) hi a b),hF,hT,hl,hs0,hx,hy⟩ (by simp only[Dt];rw[iV];simp))
 subst gi;refine cB 0 ?_;refine ai (aq [af 0,af 1,af 2,af 3,af 4,af 5] ?_);refine ah 64 5 ?_;refine zE 65 64 52 (hy.bS rfl Tryz.underlying52) ?_;refine ah 66 1 ?_;refine zE 67 66 52 (hs0.bS rfl Tryz.underlying52) ?_;refine ax (au 68 (.binOp .eql 3 (.tmp 65) (.tmp 67) 3)) (λ_=>eY (fQ rfl rfl) (show _=Value.bool (qg l s) from congrArg Value.bool (by rw[Bool.eq_iff_iff,decide_eq_true_iff];exact hR.fin hn (hg rfl)))) ?_;refine aC 4 68 (aj.nil ?_);refine bP Tryz.func195 Tryz.results195 ?_;exact⟨rfl,hT.bW (by decide)⟩
end
end Go.Proofs.YtmdhggfehknjjaaGreat
set_option linter.unusedVariables false
set_option linter.unusedSimpArgs false
set_option maxRecDepth 100000
set_option maxHeartbeats 4000000
namespace Go.Proofs.YtmdhggfehknjjaaGreat
open Go.K Go.K.bu
noncomputable section
namespace R8
def c0:=bZ Tryz.f194
end R8
theorem B1 {w₀:World} {C:Nat->Nat} {ds:List cI} {bO cC:Value} {x a:av} {b1 b2:Nat} (hF:aL w₀ C) (hap:fP w₀ (aA C) ds cC) (h1:w₀.heap[b1]?=some (.cells [bO,cC].toArray 129)) (h2:w₀.heap[b2]?=some (.cells (bE a).toArray 55)):Calls Tryz.prog 194 #[cW x,.pointer (some ⟨b1,0,none⟩),.pointer (some ⟨b2,0,none⟩)] w₀ (bI λv w'=>v=.bool (fR ds x a)/\ay [] w₀ C w' C):=by
 have bH:=hF;have hT:=z9 w₀ C;replace hF:=hF.bq;replace hap:fP w₀ (aA (bq C)) ds cC:=by rw[ez];exact hap
 replace h1:=jr.of h1 C;replace h2:=jr.of h2 C;refine bT R8.c0 9 [cW x,.pointer (some ⟨b1,0,none⟩),.pointer (some ⟨b2,0,none⟩)] Tryz.func194 ?_;show Run _ _ _ _ [(0,cW x),(1,.pointer (some ⟨b1,0,none⟩)),(2,.pointer (some ⟨b2,0,none⟩))] _ _;refine ai (aq [nn 0,af 1] ?_);refine bG (au 3 (.box 55 (.tmp 0))) rfl rfl (dI (cs:=bE x) hF 3 rfl rfl) ?_;rintro _ w1 ⟨dy,bY,rfl,s_1,hb,hF⟩;refine aX 4 (.bool false) (aj.nil (ai (aq [nn 0,nn 1,nn 2,nn 3,af 4] ?_)));replace h1:=h1.t s_1;refine cA 5 129 1 2 ([bO,cC]) h1.at_ ?_;refine cA 6 55 3 2 (bE x) hb.at_ ?_;replace h2:=h2.t s_1;refine cA 7 55 2 2 (bE a) h2.at_ ?_;replace hap:=hap.t s_1;refine bU 8 137 [5,6,7] [129,55,55] Tryz.call137 rfl (J5 (a:=x) (b:=a) hF hap) ?_;rintro gL w2 ⟨rfl,s_2⟩;refine aC 4 8 (aj.nil ?_);refine bP Tryz.func194 Tryz.results194 ?_;replace hT:=(hT.t s_1).t s_2;exact⟨rfl,hT.bW (by decide)⟩
namespace R9
def c0:=bZ Tryz.f142
end R9
theorem R_ {w₀:World} {C:Nat->Nat} {l:List a_} {ds:List cI} {s:List av} {bO cC vs:Value} (hF:aL w₀ C) (hl:aB w₀ (aA C) l bO) (hap:fP w₀ (aA C) ds cC) (hs0:aB w₀ (aA C) s vs) (hlen:s.length<=1000000):Calls Tryz.prog 142 #[.agg #[bO,cC],vs] w₀ (bI λv w'=>v=.bool (Ac l ds s)/\ay [] w₀ C w' C):=by
 have bH:=hF;have hT:=z9 w₀ C;replace hF:=hF.bq;replace hl:=hl.c1;replace hs0:=hs0.c1;replace hap:fP w₀ (aA (bq C)) ds cC:=by rw[ez];exact hap
 refine bT R9.c0 26 [.agg #[bO,cC],vs] Tryz.func142 ?_;show Run _ _ _ _ [(0,.agg #[bO,cC]),(1,vs)] _ _;refine ai (aq [nn 0,af 1] ?_);refine bG (au 2 (.box 129 (.tmp 0))) rfl rfl (dI (cs:=[bO,cC]) hF 3 rfl rfl) ?_;rintro _ w1 ⟨dy,bY,rfl,s_1,hx,hF⟩;refine aX 4 (.bool false) (aj.nil (ai (ai (aq [af 0,af 1,af 2] ?_))));refine ah 7 1 ?_;replace hs0:=hs0.t s_1;refine zE 8 7 52 (hs0.bS rfl Tryz.underlying52) ?_;refine ax (au 9 (.binOp .lss 3 (.tmp 8) (.const (.int .i64 2)) 3)) (λ_=>eO rfl rfl) ?_;refine aj.nil ?_;refine bQ 9 rfl (λfV=>?_) (λfV=>?_)
 ·
  refine ai (aq [af 0] ?_);refine aX 4 (.bool false) (aj.nil ?_);refine bP Tryz.func142 Tryz.results142 ?_;replace hT:=hT.t s_1;exact⟨by unfold Ac;rw[decide_eq_false (by omega)];rfl,hT.bW (by decide)⟩
 have Sb:2<=s.length:=by omega
 refine bn (ai (ai (aq [af 0,af 1,af 2] ?_)));refine ah 10 1 ?_;refine zE 11 10 52 (hs0.bS rfl Tryz.underlying52) ?_;refine eE 12 (.int .i64 0) ?_;refine aj.nil (bD 0 ?_);replace hl:=hl.t s_1;refine cK (ι:=Nat×(Nat->Nat)) (I:=λx w=>x.1<=s.length/\(∀q (hq:q<x.1) (hl:q<s.length),(s.take q).any (λb=>fR ds b s[q])=false)/\aL w x.2/\ay [2,3,4,5,6,7,8,9] w₀ (bq C) w x.2/\aB w (aA x.2) l bO/\aB w (aA x.2) s vs/\fP w (aA x.2) ds cC/\cD w x.2 3 bY (.cells [bO,cC].toArray 129)) (e:=λx=>[(1,vs),(2,.pointer (some ⟨bY,0,none⟩)),(10,vs),(11,.int .i64 s.length),(12,.int .i64 x.1)]) (m:=λx=>s.length-x.1) (cE:=(0,dy)) (ak 1 (ak 2 (ak 10 (ak 11 (ak 12 (aY _)))))) ?_ ?_
 ·
   replace hT:=hT.t s_1;replace hap:=hap.t s_1;exact⟨Nat.zero_le _,λq hq=>by simp only at hq;omega,hF,hT,hl,hs0,hap,hx⟩
 intro⟨i,aW⟩ w2 hI bN;obtain⟨hi,h0,hF,hT,hl,hs0,hap,hx⟩:=hI;try simp only at hi h0 hF hT hl hs0 hap hx
 show Run _ _ _ _ [(1,vs),(2,.pointer (some ⟨bY,0,none⟩)),(10,vs),(11,.int .i64 s.length),(12,.int .i64 i)] _ _;have hle:=hs0.le;refine ai (aq [af 0] ?_);refine c4 13 3 12 11 (aj.nil (ai ?_));refine bQ 13 rfl (λgi=>?_) (λgi=>?_)
 ·
  have hil:i<s.length:=by omega
  refine bn (ai (bD 1 (ai (aq [af 0,af 1,nn 2,nn 3,af 4,nn 5] ?_))));refine ah 14 12 ?_;refine c5 55 15 52 10 12 hs0 rfl (h:=?_);intro ab8 ab9 ng;try simp only[aP] at ng
  refine iH (au 16 (.load 55 (.tmp 15))) rfl rfl trivial ng (by kernel_rfl) (by kernel_rfl) rfl rfl ?_;intro Sc g16;obtain rfl:=eA.1 g16;refine bG (au 6 (.alloc 55)) rfl rfl (ec (cs:=[.int .i64 0,.int .i64 0]) hF 4 (by kernel_rfl)) ?_;rintro _ w3 ⟨ji,jA,rfl,s_2,ha,hF⟩;refine aC 5 14 ?_;refine cq (k0 (.store 55 (.tmp 6) (.tmp 16))) rfl (dX (vs:=bE (s[i]'hil)) (n:=2) rfl rfl (by kernel_rfl) rfl rfl (gx rfl) ha rfl) ?_;rintro _ w4 ⟨rfl,aD,ha⟩;refine aj.nil (ai (aq [af 0,af 1,af 2,af 3,nn 4] ?_));refine ah 17 1 (ah 18 5 ?_);replace hs0:=(hs0.t s_2).t aD;refine BJ (e':=55) (au 19 (.slice 52 (.tmp 17) none (some (.tmp 18)) none)) rfl rfl hs0 rfl (by kernel_rfl) rfl (by omega) (by omega) ?_;intro Ak l6;try simp only[aP] at l6
  refine ax (au 20 (.makeFunc (.func 194) #[] #[(.tmp 2),(.tmp 6)])) (λ_=>xl rfl rfl) ?_;replace hap:=(hap.t s_2).t aD;replace hx:=(hx.t s_2).t aD;replace hF:=hF.st aD;have dP:∀w1,ay [] _ (ji) w1 (ji)->∀x∈s.take i,Calls Tryz.prog 194 ([cW x]++#[Value.pointer (some ⟨bY,0,none⟩),Value.pointer (some ⟨jA,0,none⟩)].toList).toArray w1 (bI λv w'=>v=.bool (fR ds x (s[i]'hil))/\ay [] w1 (ji) w' (ji)):=λw1 h1 x _=>B1 (hF.st h1) (hap.st h1 (by decide)) (h1.same hx.at_) (h1.same ha.at_);refine bU 21 134 [19,20] [52,149] Tryz.call134 rfl (Dq (p:=λx=>fR ds x (s[i]'hil)) (nf:=194) (caps:=#[Value.pointer (some ⟨bY,0,none⟩),Value.pointer (some ⟨jA,0,none⟩)]) (λargs w=>Tryz.call194 args w) dP hF l6) ?_;rintro nQ dZ ⟨rfl,aK⟩;refine aj.nil ?_;refine kZ 21 rfl (λr6=>?_) (λr6=>?_)
  ·
   have hno:=XE hil r6;refine ai (aq [af 0] ?_);refine aX 4 (.bool false) (aj.nil ?_);refine bP Tryz.func142 Tryz.results142 ?_;replace hT:=((hT.t s_2).t aD).t aK;exact⟨by unfold Ac;rw[hno];simp,hT.bW (by decide)⟩
  skip
  refine bn (bR (aq [af 0,af 1] ?_));refine cn 22 3 12 1 (ah 12 22 (aj.nil ?_));replace hT:=((hT.t s_2).t aD).t aK;replace hl:=((hl.t s_2).t aD).t aK;replace hF:=hF.st aK;replace hs0:=hs0.t aK;replace hap:=hap.t aK;replace hx:=hx.t aK;refine kp (aV 1 rfl rfl (aV 2 rfl rfl (aV 10 rfl rfl (aV 11 rfl rfl (aV 12 rfl (eq_int (by simp)) (aY _)))))) (bN (i+1,ji) _ ⟨(by first|omega|(simp only;omega)),(λq hq tZ=>by
    simp only at hq;by_cases e:q=i
    ·subst e;exact r6
    ·exact h0 q (by omega) tZ),hF,hT,hl,hs0,hap,hx⟩ (by first|omega|(simp only;omega)))
 have hil:i=s.length:=by omega
 refine cB 0 ?_;refine ai (aq [nn 0,af 1,nn 2,af 3] ?_);have AQ:=XD (λq hq=>h0 q (by omega) hq);refine cA 23 129 2 2 ([bO,cC]) hx.at_ ?_;refine ah 24 1 ?_;refine bU 25 195 [23,24] [129,52] Tryz.call195 rfl (R7 (cC:=cC) hF hl hs0 (by omega) (XC (N4.1 AQ)) hlen) ?_;rintro nR eS ⟨rfl,aJ⟩;refine aC 4 25 (aj.nil ?_);refine bP Tryz.func142 Tryz.results142 ?_;replace hT:=hT.t aJ;exact⟨by unfold Ac;rw[AQ,decide_eq_true Sb];rfl,hT.bW (by decide)⟩
end
end Go.Proofs.YtmdhggfehknjjaaGreat
set_option linter.unusedVariables false
set_option linter.unusedSimpArgs false
set_option maxRecDepth 100000
set_option maxHeartbeats 4000000
namespace Go.Proofs.YtmdhggfehknjjaaGreat
open Go.K Go.K.bu
noncomputable section
namespace Sd
def c0:=bZ Tryz.f162
end Sd
theorem B2 {w₀:World} {C:Nat->Nat} {l:List (List av)} {aG:Value} {p:List av->Bool} {nf:Nat} {caps:Array Value} (lE:∀args w,(callFunc nf args).run Tryz.prog w=.ok (.enter nf args) w) (hp:∀w1,ay [] w₀ C w1 C->∀x∈l,∀vx,aB w1 (aA C) x vx->Calls Tryz.prog nf ([vx]++caps.toList).toArray w1 (bI λv w'=>v=.bool (p x)/\ay [] w1 C w' C)) (hF:aL w₀ C) (hl:aB w₀ (aA C) l aG):Calls Tryz.prog 162 #[aG,.func (.func nf) #[] caps] w₀ (bI λv w'=>v=.int .i64 (idxOf p l)/\ay [] w₀ C w' C):=by
 have hT:=ay.refl [] w₀ C;refine bT Sd.c0 19 [aG,.func (.func nf) #[] caps] Tryz.func162 ?_;show Run _ _ _ _ [(0,aG),(1,.func (.func nf) #[] caps)] _ _;refine ai (aq [af 0] ?_);refine aX 4 (.int .i64 0) (aj.nil (ai (ai (aq [af 0,af 1,af 2] ?_))));refine ah 6 0 ?_;refine zE 7 6 24 (hl.bS rfl Tryz.underlying24) ?_;refine eE 8 (.int .i64 0) ?_;refine aj.nil (bD 0 ?_);refine cK (ι:=Nat) (I:=λx w=>x<=l.length/\(∀i (hi:i<x) (hl:i<l.length),p l[i]=false)/\aL w C/\ay [] w₀ C w C/\aB w (aA C) l aG) (e:=λx=>[(0,aG),(1,.func (.func nf) #[] caps),(7,.int .i64 l.length),(8,.int .i64 x)]) (m:=λx=>l.length-x) (cE:=0) (ak 0 (ak 1 (ak 7 (ak 8 (aY _))))) ?_ ?_
 · exact⟨Nat.zero_le _,λi hi _=>by first|omega|(simp only at hi;omega),hF,hT,hl⟩
 intro k w1 hI bN;obtain⟨hk,h0,hF,hT,hl⟩:=hI;try simp only at hk h0 hF hT hl
 show Run _ _ _ _ [(0,aG),(1,.func (.func nf) #[] caps),(7,.int .i64 l.length),(8,.int .i64 k)] _ _;have hle:=hl.le;refine ai (aq [af 0] ?_);refine c4 9 3 8 7 (aj.nil (ai ?_));refine bQ 9 rfl (λfV=>?_) (λfV=>?_)
 ·
  have aF:k<l.length:=by omega
  refine bn (ai (bD 1 (ai (aq [af 0,af 1] ?_))));refine ah 10 8 (aC 5 10 (aj.nil (ai (aq [af 0,af 1,af 2,af 3,nn 4,nn 5] ?_))));refine ah 11 1 (ah 12 0 (ah 13 5 ?_));refine c5 52 14 24 12 13 hl rfl (h:=?_);intro tf qZ eC;try simp only[aP] at eC
  refine gP (au 15 (.load 52 (.tmp 14))) rfl rfl trivial eC (by kernel_rfl) rfl rfl ?_;intro qW g15;refine dN (au 16 (.call {callee:=.value (.tmp 11),args:=#[(.tmp 15)],argTypes:=#[52]})) rfl rfl (nB lE rfl rfl) (hp _ hT (l[k]'aF) (List.getElem_mem aF) _ g15) ?_;rintro gL w2 ⟨rfl,s_1⟩;refine aj.nil ?_;refine kZ 16 rfl (λiO=>?_) (λiO=>?_)
  ·
   refine ai (aq [af 0,af 1] ?_);refine ah 17 5 (aC 4 17 (aj.nil ?_));refine bP Tryz.func162 Tryz.results162 ?_;replace hT:=hT.t s_1;exact⟨by rw[xM aF (λi hi=>h0 i hi (by omega)) iO],hT⟩
  refine bn (bR (aq [af 0,af 1] ?_));refine cn 18 3 8 1 (ah 8 18 (aj.nil ?_));replace hF:=hF.st s_1;replace hT:=hT.t s_1;replace hl:=hl.t s_1;refine kp (aV 0 rfl rfl (aV 1 rfl rfl (aV 7 rfl rfl (aV 8 rfl (eq_int (by simp)) (aY _))))) (bN (k+1) _ ⟨(by first|omega|(simp only;omega)),(λi hi hl=>by
    by_cases e:i=k
    ·subst e;exact iO
    ·exact h0 i (by first|omega|(simp only at hi;omega)) hl),hF,hT,hl⟩ (by first|omega|(simp only;omega)))
 have aF:k=l.length:=by omega
 refine cB 0 ?_;refine ai (aq [af 0] ?_);refine ax (au 4 (.assign (.const (.int .i64 (-1))))) (λ_=>n_ rfl) ?_;refine aj.nil ?_;refine bP Tryz.func162 Tryz.results162 ?_;exact⟨by rw[Ce (λi hi=>h0 i (by omega) hi)],hT⟩
namespace Se
def c0:=bZ Tryz.f98
end Se
theorem DW {w₀:World} {C:Nat->Nat} {l:List (List av)} {aG:Value} {p:List av->Bool} {nf:Nat} {caps:Array Value} (lE:∀args w,(callFunc nf args).run Tryz.prog w=.ok (.enter nf args) w) (hp:∀w1,ay [] w₀ C w1 C->∀x∈l,∀vx,aB w1 (aA C) x vx->Calls Tryz.prog nf ([vx]++caps.toList).toArray w1 (bI λv w'=>v=.bool (p x)/\ay [] w1 C w' C)) (hF:aL w₀ C) (hl:aB w₀ (aA C) l aG):Calls Tryz.prog 98 #[aG,.func (.func nf) #[] caps] w₀ (bI λv w'=>v=.bool (l.any p)/\ay [] w₀ C w' C):=by
 have hT:=ay.refl [] w₀ C;refine bT Se.c0 9 [aG,.func (.func nf) #[] caps] Tryz.func98 ?_;show Run _ _ _ _ [(0,aG),(1,.func (.func nf) #[] caps)] _ _;refine ai (aq [af 0] ?_);refine aX 4 (.bool false) (aj.nil (ai (aq [af 0,af 1,nn 2,af 3,af 4] ?_)));refine ah 5 0 (ah 6 1 ?_);refine bU 7 162 [5,6] [24,148] Tryz.call162 rfl (B2 lE hp hF hl) ?_;rintro j3 w1 ⟨rfl,s_1⟩;refine ax (au 8 (.binOp .geq 3 (.tmp 7) (.const (.int .i64 0)) 3)) (λ_=>fB rfl rfl) ?_;refine aC 4 8 (aj.nil ?_);refine bP Tryz.func98 Tryz.results98 ?_;replace hT:=hT.t s_1;exact⟨by rw[xN],hT⟩
end
end Go.Proofs.YtmdhggfehknjjaaGreat
set_option linter.unusedVariables false
set_option linter.unusedSimpArgs false
set_option maxRecDepth 100000
set_option maxHeartbeats 4000000
namespace Go.Proofs.YtmdhggfehknjjaaGreat
open Go.K Go.K.bu
noncomputable section
namespace Sf
def c0:=bZ Tryz.f99
end Sf
theorem p7 {w₀:World} {C:Nat->Nat} {b:a_} {x:List av} {vx:Value} {b1:Nat} (hF:aL w₀ C) (hx:aB w₀ (aA C) x vx) (h1:w₀.heap[b1]?=some (.cells (ic b).toArray 58)):Calls Tryz.prog 99 #[vx,.pointer (some ⟨b1,0,none⟩)] w₀ (bI λv w'=>v=.bool (rV b x)/\ay [] w₀ C w' C):=by
 have bH:=hF;have hT:=z9 w₀ C;replace hF:=hF.bq;replace hx:=hx.c1;replace h1:=jr.of h1 C;refine bT Sf.c0 14 [vx,.pointer (some ⟨b1,0,none⟩)] Tryz.func99 ?_;show Run _ _ _ _ [(0,vx),(1,.pointer (some ⟨b1,0,none⟩))] _ _;refine ai (aq [af 0] ?_);refine aX 3 (.bool false) (aj.nil (ai ?_));by_cases hA:b.A∈x
 ·
  by_cases hB:b.B∈x
  ·
   refine aq [af 0,af 1,nn 2,nn 3,af 4,af 5,af 6,nn 7,nn 8,af 9,af 10] ?_;refine ah 4 0 (bp 5 58 1 0 0 ?_);refine cA 6 55 5 2 (bE b.A) h1.at_ ?_;refine bU 7 49 [4,6] [52,55] Tryz.call49 rfl (iB (c:=b.A) hF hx) ?_;rintro j3 w1 ⟨rfl,s_1⟩;rw[iE,decide_eq_true hA];refine ah 8 7 ?_;refine cg 9 0 4 true (cz 10 58 1 1 2 4 true ?_);replace h1:=h1.t s_1;refine iq 11 55 10 4 true 2 (bE b.B) h1.at_ ?_;replace hF:=hF.st s_1;replace hx:=hx.t s_1;refine dN (aI 12 (.call {callee:=.value (.func 49),args:=#[(.tmp 9),(.tmp 11)],argTypes:=#[52,55]}) 4 true) rfl rfl (de Tryz.call49 rfl) (iB (c:=b.B) hF hx) ?_;rintro gL w2 ⟨rfl,s_2⟩;rw[iE,decide_eq_true hB];refine dD 13 8 12 ?_;refine aC 3 13 (aj.nil ?_);refine bP Tryz.func99 Tryz.results99 ?_;replace hT:=(hT.t s_1).t s_2;exact⟨by rw[H7,decide_eq_true hA,decide_eq_true hB];rfl,hT.bW (by decide)⟩
  refine aq [af 0,af 1,nn 2,nn 3,af 4,af 5,af 6,nn 7,nn 8,af 9,af 10] ?_;refine ah 4 0 (bp 5 58 1 0 0 ?_);refine cA 6 55 5 2 (bE b.A) h1.at_ ?_;refine bU 7 49 [4,6] [52,55] Tryz.call49 rfl (iB (c:=b.A) hF hx) ?_;rintro ko w3 ⟨rfl,aD⟩;rw[iE,decide_eq_true hA];refine ah 8 7 ?_;refine cg 9 0 4 true (cz 10 58 1 1 2 4 true ?_);replace h1:=h1.t aD;refine iq 11 55 10 4 true 2 (bE b.B) h1.at_ ?_;replace hF:=hF.st aD;replace hx:=hx.t aD;refine dN (aI 12 (.call {callee:=.value (.func 49),args:=#[(.tmp 9),(.tmp 11)],argTypes:=#[52,55]}) 4 true) rfl rfl (de Tryz.call49 rfl) (iB (c:=b.B) hF hx) ?_;rintro iM w4 ⟨rfl,aK⟩;rw[iE,decide_eq_false hB];refine dD 13 8 12 ?_;refine aC 3 13 (aj.nil ?_);refine bP Tryz.func99 Tryz.results99 ?_;replace hT:=(hT.t aD).t aK;exact⟨by rw[H7,decide_eq_true hA,decide_eq_false hB];rfl,hT.bW (by decide)⟩
 refine aq [af 0,af 1,nn 2,nn 3,af 4,af 5,af 6,nn 7,nn 8,af 9,af 10] ?_;refine ah 4 0 (bp 5 58 1 0 0 ?_);refine cA 6 55 5 2 (bE b.A) h1.at_ ?_;refine bU 7 49 [4,6] [52,55] Tryz.call49 rfl (iB (c:=b.A) hF hx) ?_;rintro nQ dZ ⟨rfl,aJ⟩;rw[iE,decide_eq_false hA];refine ah 8 7 ?_;refine aM 9 4 true (aM 10 4 true ?_);refine dz (aI 11 (.load 55 (.tmp 10)) 4 true) rfl rfl trivial ?_;refine dz (aI 12 (.call {callee:=.value (.func 49),args:=#[(.tmp 9),(.tmp 11)],argTypes:=#[52,55]}) 4 true) rfl rfl trivial ?_;refine fq 13 8 12 ?_;refine aC 3 13 (aj.nil ?_);refine bP Tryz.func99 Tryz.results99 ?_;replace hT:=hT.t aJ;exact⟨by rw[H7,decide_eq_false hA];rfl,hT.bW (by decide)⟩
namespace Sg
def c0:=bZ Tryz.f54
end Sg
theorem Ka {w₀:World} {C:Nat->Nat} {l:List a_} {ps:List (List av)} {aG dL:Value} (hF:aL w₀ C) (hl:aB w₀ (aA C) l aG) (hp:aB w₀ (aA C) ps dL) (hw:∀x∈l,1<=x.w/\x.w<=1048576) (hlen:l.length<=4096):Calls Tryz.prog 54 #[aG,dL] w₀ (bI λv w'=>v=.int .i64 (fh l ps)/\ay [] w₀ C w' C):=by
 have bH:=hF;have hT:=z9 w₀ C;replace hF:=hF.bq;replace hl:=hl.c1;replace hp:=hp.c1;refine bT Sg.c0 23 [aG,dL] Tryz.func54 ?_;show Run _ _ _ _ [(0,aG),(1,dL)] _ _;refine ai (aq [af 0] ?_);refine aX 4 (.int .i64 0) (aj.nil (ai (aq [af 0] ?_)));refine aX 5 (.int .i64 0) (aj.nil (ai (ai (aq [af 0,af 1,af 2] ?_))));refine ah 8 0 ?_;refine zE 9 8 23 (hl.bS rfl Tryz.underlying23) ?_;refine eE 10 (.int .i64 0) ?_;refine aj.nil (bD 0 ?_);refine cK (ι:=Nat×(Nat->Nat)) (I:=λx w=>x.1<=l.length/\aL w x.2/\ay [2,3,4,5,6,7,8,9] w₀ (bq C) w x.2/\aB w (aA x.2) l aG/\aB w (aA x.2) ps dL) (e:=λx=>[(1,dL),(5,.int .i64 (fh (l.take x.1) ps)),(8,aG),(9,.int .i64 l.length),(10,.int .i64 x.1)]) (m:=λx=>l.length-x.1) (cE:=(0,bq C)) (ak 1 (aV 5 rfl (eq_int (by simp[fh])) (ak 8 (ak 9 (ak 10 (aY _)))))) ?_ ?_
 · exact⟨Nat.zero_le _,hF,hT,hl,hp⟩
 intro⟨k,aW⟩ w1 hI bN;obtain⟨hk,hF,hT,hl,hp⟩:=hI;try simp only at hk hF hT hl hp
 show Run _ _ _ _ [(1,dL),(5,.int .i64 (fh (l.take k) ps)),(8,aG),(9,.int .i64 l.length),(10,.int .i64 k)] _ _;have hle:=hl.le;obtain⟨jv,ew⟩:=H6 hw ps k hk;refine ai (aq [af 0] ?_);refine c4 11 3 10 9 (aj.nil (ai ?_));refine bQ 11 rfl (λnh=>?_) (λnh=>?_)
 ·
  have aF:k<l.length:=by omega
  have Sh:=N5 aF ps;have hwk:=hw _ (List.getElem_mem aF);refine bn (ai (bD 1 (ai (aq [af 0,nn 1,nn 2,nn 3] ?_))));refine c5 58 12 23 8 10 hl rfl (h:=?_);intro Si uL h12;try simp only[aP] at h12
  refine iH (au 13 (.load 58 (.tmp 12))) rfl rfl trivial h12 (by kernel_rfl) (by kernel_rfl) rfl rfl ?_;intro Am g13;obtain rfl:=jy.1 g13;refine bG (au 7 (.alloc 58)) rfl rfl (ec (cs:=[.int .i64 0,.int .i64 0,.int .i64 0,.int .i64 0,.int .i64 0]) hF 4 (by kernel_rfl)) ?_;rintro _ w2 ⟨cQ,ek,rfl,s_1,hb,hF⟩;refine cq (k0 (.store 58 (.tmp 7) (.tmp 13))) rfl (dX (vs:=ic (l[k]'aF)) (n:=5) rfl rfl (by kernel_rfl) rfl rfl (gx rfl) hb rfl) ?_;rintro _ w3 ⟨rfl,s_2,hb⟩;refine aj.nil (ai (aq [af 0,af 1,nn 2] ?_));refine ah 14 1 ?_;refine ax (au 15 (.makeFunc (.func 99) #[] #[(.tmp 7)])) (λ_=>xl rfl rfl) ?_;replace hF:=hF.st s_2;have dP:∀w1,ay [] _ (cQ) w1 (cQ)->∀x∈ps,∀vx,aB w1 (aA (cQ)) x vx->Calls Tryz.prog 99 ([vx]++#[Value.pointer (some ⟨ek,0,none⟩)].toList).toArray w1 (bI λv w'=>v=.bool (rV (l[k]'aF) x)/\ay [] w1 (cQ) w' (cQ)):=λw1 h1 x _ vx hx=>p7 (hF.st h1) hx (h1.same hb.at_);replace hp:=(hp.t s_1).t s_2;refine bU 16 98 [14,15] [24,148] Tryz.call98 rfl (DW (p:=rV (l[k]'aF)) (nf:=99) (caps:=#[Value.pointer (some ⟨ek,0,none⟩)]) (λargs w=>Tryz.call99 args w) dP hF hp) ?_;rintro iM w4 ⟨rfl,aD⟩;refine aj.nil ?_;refine kZ 16 rfl (λiO=>?_) (λiO=>?_)
  ·
   rw[if_pos iO] at Sh;refine aq [af 0,af 1,nn 2,af 3,af 4] ?_;refine ah 17 5 (bp 18 58 7 2 4 ?_);replace hb:=hb.t aD;refine cH 19 3 18 hb.at_ rfl rfl ?_;refine ax (au 20 (.binOp .add 3 (.tmp 17) (.tmp 19) 3)) (λ_=>gZ rfl rfl (by omega) (by omega)) ?_;refine aC 5 20 (aj.nil (bR (aq [af 0,af 1] ?_)));refine cn 21 3 10 1 (ah 10 21 (aj.nil ?_));replace hT:=((hT.t s_1).t s_2).t aD;replace hl:=((hl.t s_1).t s_2).t aD;replace hF:=hF.st aD;replace hp:=hp.t aD;refine kp (ak 1 (aV 5 rfl (eq_int (by simp only;omega)) (ak 8 (ak 9 (aV 10 rfl (eq_int (by simp)) (aY _)))))) (bN (k+1,cQ) _ ⟨(by first|omega|(simp only;omega)),hF,hT,hl,hp⟩ (by first|omega|(simp only;omega)))
  rw[if_neg (by rw[iO];decide)] at Sh;refine bn (bR (aq [af 0,af 1] ?_));refine cn 21 3 10 1 (ah 10 21 (aj.nil ?_));replace hT:=((hT.t s_1).t s_2).t aD;replace hl:=((hl.t s_1).t s_2).t aD;replace hF:=hF.st aD;replace hp:=hp.t aD;refine kp (ak 1 (aV 5 rfl (eq_int (by simp only;omega)) (ak 8 (ak 9 (aV 10 rfl (eq_int (by simp)) (aY _)))))) (bN (k+1,cQ) _ ⟨(by first|omega|(simp only;omega)),hF,hT,hl,hp⟩ (by first|omega|(simp only;omega)))
 have aF:k=l.length:=by omega
 refine cB 0 ?_;refine ai (aq [af 0,af 1] ?_);refine ah 22 5 (aC 4 22 (aj.nil ?_));refine bP Tryz.func54 Tryz.results54 ?_;exact⟨by rw[aF,N6],hT.bW (by decide)⟩
end
end Go.Proofs.YtmdhggfehknjjaaGreat
