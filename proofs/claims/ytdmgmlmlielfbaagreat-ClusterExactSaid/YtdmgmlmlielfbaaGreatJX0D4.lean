/- Steps through functions of the program. -/
import Derived.Test.YtdmgmlmlielfbaaGreatJC7H1
import Derived.Test.YtdmgmlmlielfbaaGreatL2
set_option linter.unusedVariables false
set_option linter.unusedSimpArgs false
set_option maxRecDepth 100000
set_option maxHeartbeats 4000000
namespace Go.Proofs.YtdmgmlmlielfbaaGreat
open Go.K Go.K.bg
noncomputable section
namespace Np
def c0:=cz Tryz.f97
end Np
theorem G4 {w₀:World} {C:Nat->Nat} {x y:av} (hF:aM w₀ C):Calls Tryz.prog 97 #[.agg #[.int .i64 x.a,.int .i64 x.b],.agg #[.int .i64 y.a,.int .i64 y.b]] w₀ (bM λv w'=>v=.bool (decide (dV x y))/\ay [] w₀ C w' C):=by
 have bp:=hF;have hT:=z9 w₀ C;replace hF:=hF.bE;refine ct Np.c0 24 [.agg #[.int .i64 x.a,.int .i64 x.b],.agg #[.int .i64 y.a,.int .i64 y.b]] Tryz.func97 ?_;show Run _ _ _ _ [(0,.agg #[.int .i64 x.a,.int .i64 x.b]),(1,.agg #[.int .i64 y.a,.int .i64 y.b])] _ _;refine aj (aq [nn 0,nn 1,af 2] ?_);refine bT (au 2 (.box 47 (.tmp 0))) rfl rfl (eU (cs:=[.int .i64 x.a,.int .i64 x.b]) hF 3 rfl rfl) ?_;rintro _ w1 ⟨eu,c4,rfl,s_1,hx,hF⟩;refine bT (au 3 (.box 47 (.tmp 1))) rfl rfl (eU (cs:=[.int .i64 y.a,.int .i64 y.b]) hF 3 rfl rfl) ?_;rintro _ w2 ⟨dM,fW,rfl,s_2,hy,hF⟩;refine aR 4 (.bool false) (ai.nil ?_);refine kp (ak 2 (ak 3 (aY _))) ?_;refine aj ?_;refine kV 4 (decide (dV x y)) (dM) ?_ ?_
 ·
  intro dn;by_cases hA:x.a<y.a
  ·
   refine aq [af 0,nn 1,af 2,nn 3,af 4,af 5,af 6,nn 7,af 8,nn 9,af 10,af 11,af 12,nn 13,af 14,nn 15,af 16,af 17,af 18,af 19] ?_;refine bD 5 47 2 0 0 ?_;replace hx:=hx.t s_2;refine dL 6 3 5 hx.at_ rfl rfl ?_;refine bD 7 47 3 0 0 ?_;refine dL 8 3 7 hy.at_ rfl rfl ?_;refine ax (au 9 (.binOp .lss 3 (.tmp 6) (.tmp 8) 3)) (λ_=>dc (eX rfl rfl) hA) ?_;refine ah 10 9 ?_;refine aC 11 5 false ?_;refine c9 (aA 12 (.load 3 (.tmp 11)) 5 false) rfl rfl trivial ?_;refine aC 13 5 false ?_;refine c9 (aA 14 (.load 3 (.tmp 13)) 5 false) rfl rfl trivial ?_;refine aC 15 5 false (aC 16 5 false ?_);refine aC 17 11 true ?_;refine c9 (aA 18 (.load 3 (.tmp 17)) 11 true) rfl rfl trivial ?_;refine aC 19 11 true ?_;refine c9 (aA 20 (.load 3 (.tmp 19)) 11 true) rfl rfl trivial ?_;refine aC 21 11 true ?_;refine aC 22 5 false ?_;refine iM 23 10 22 ?_;refine aD 4 23 ?_;exact ai.nil (dn _ _ _ (ay.refl _ _ _) rfl (by rw[decide_eq_true (show dV x y from Or.inl hA)]) (ec 20))
  by_cases hB:x.a=y.a
  ·
   refine aq [af 0,nn 1,af 2,nn 3,af 4,af 5,af 6,nn 7,af 8,nn 9,af 10,af 11,af 12,nn 13,af 14,nn 15,af 16,af 17,af 18,af 19] ?_;refine bD 5 47 2 0 0 ?_;replace hx:=hx.t s_2;refine dL 6 3 5 hx.at_ rfl rfl ?_;refine bD 7 47 3 0 0 ?_;refine dL 8 3 7 hy.at_ rfl rfl ?_;refine ax (au 9 (.binOp .lss 3 (.tmp 6) (.tmp 8) 3)) (λ_=>di (eX rfl rfl) hA) ?_;refine ah 10 9 ?_;refine cW 11 47 2 0 0 5 false ?_;refine gP 12 3 11 5 false hx.at_ ?_;refine cW 13 47 3 0 0 5 false ?_;refine gP 14 3 13 5 false hy.at_ ?_;refine ax (aA 15 (.binOp .eql 3 (.tmp 12) (.tmp 14) 3) 5 false) (λ_=>dc (fO rfl rfl) hB) ?_;refine aX 16 15 5 false ?_;refine cW 17 47 2 1 1 11 true ?_;refine gP 18 3 17 11 true hx.at_ ?_;refine cW 19 47 3 1 1 11 true ?_;refine gP 20 3 19 11 true hy.at_ ?_;refine ax (aA 21 (.binOp .lss 3 (.tmp 18) (.tmp 20) 3) 11 true) (λ_=>eX rfl rfl) ?_;refine ax (aA 22 (.pick (.tmp 16) (.tmp 21) (.const (.bool false))) 5 false) (λ_=>kD rfl rfl) ?_;refine eo 23 10 22 ?_;refine aD 4 23 ?_;exact ai.nil (dn _ _ _ (ay.refl _ _ _) rfl (by congr 1;apply decide_eq_decide.2;unfold dV;omega) (ec 20))
  refine aq [af 0,nn 1,af 2,nn 3,af 4,af 5,af 6,nn 7,af 8,nn 9,af 10,af 11,af 12,nn 13,af 14,nn 15,af 16,af 17,af 18,af 19] ?_;refine bD 5 47 2 0 0 ?_;replace hx:=hx.t s_2;refine dL 6 3 5 hx.at_ rfl rfl ?_;refine bD 7 47 3 0 0 ?_;refine dL 8 3 7 hy.at_ rfl rfl ?_;refine ax (au 9 (.binOp .lss 3 (.tmp 6) (.tmp 8) 3)) (λ_=>di (eX rfl rfl) hA) ?_;refine ah 10 9 ?_;refine cW 11 47 2 0 0 5 false ?_;refine gP 12 3 11 5 false hx.at_ ?_;refine cW 13 47 3 0 0 5 false ?_;refine gP 14 3 13 5 false hy.at_ ?_;refine ax (aA 15 (.binOp .eql 3 (.tmp 12) (.tmp 14) 3) 5 false) (λ_=>di (fO rfl rfl) hB) ?_;refine aX 16 15 5 false ?_;refine aC 17 11 true ?_;refine c9 (aA 18 (.load 3 (.tmp 17)) 11 true) rfl rfl trivial ?_;refine aC 19 11 true ?_;refine c9 (aA 20 (.load 3 (.tmp 19)) 11 true) rfl rfl trivial ?_;refine aC 21 11 true ?_;refine ax (aA 22 (.pick (.tmp 16) (.tmp 21) (.const (.bool false))) 5 false) (λ_=>kE rfl rfl) ?_;refine eo 23 10 22 ?_;refine aD 4 23 ?_;exact ai.nil (dn _ _ _ (ay.refl _ _ _) rfl (by rw[decide_eq_false (show¬dV x y from by unfold dV;omega)]) (ec 20))
 intro w3 aH;refine bN Tryz.func97 Tryz.results97 ?_;replace hT:=((hT.t s_1).t s_2).t aH;exact⟨rfl,hT.bW (by decide)⟩
namespace Nq
def c0:=cz Tryz.f56
end Nq
theorem rT {w₀:World} {C:Nat->Nat} {x y:av} (hF:aM w₀ C):Calls Tryz.prog 56 #[.agg #[.int .i64 x.a,.int .i64 x.b],.agg #[.int .i64 y.a,.int .i64 y.b]] w₀ (bM λv w'=>v=.bool (decide (dV x y))/\ay [] w₀ C w' C):=by
 have bp:=hF;have hT:=z9 w₀ C;replace hF:=hF.bE;refine ct Nq.c0 8 [.agg #[.int .i64 x.a,.int .i64 x.b],.agg #[.int .i64 y.a,.int .i64 y.b]] Tryz.func56 ?_;show Run _ _ _ _ [(0,.agg #[.int .i64 x.a,.int .i64 x.b]),(1,.agg #[.int .i64 y.a,.int .i64 y.b])] _ _;refine aj (aq [nn 0,nn 1,af 2] ?_);refine bT (au 2 (.box 47 (.tmp 0))) rfl rfl (eU (cs:=[.int .i64 x.a,.int .i64 x.b]) hF 3 rfl rfl) ?_;rintro _ w1 ⟨eu,c4,rfl,s_1,hx,hF⟩;refine bT (au 3 (.box 47 (.tmp 1))) rfl rfl (eU (cs:=[.int .i64 y.a,.int .i64 y.b]) hF 3 rfl rfl) ?_;rintro _ w2 ⟨dM,fW,rfl,s_2,hy,hF⟩;refine aR 4 (.bool false) (ai.nil (aj (aq [nn 0,nn 1,nn 2,af 3] ?_)));replace hx:=hx.t s_2;refine dz 5 47 2 2 (aZ x) hx.at_ ?_;refine dz 6 47 3 2 (aZ y) hy.at_ ?_;refine bU 7 97 [5,6] [47,47] Tryz.call97 rfl (G4 (x:=x) (y:=y) hF) ?_;rintro lq w3 ⟨rfl,aH⟩;refine aD 4 7 (ai.nil ?_);refine bN Tryz.func56 Tryz.results56 ?_;replace hT:=((hT.t s_1).t s_2).t aH;exact⟨rfl,hT.bW (by decide)⟩
namespace G5
def c0:=cz Tryz.f35
def nt:=(cl (aJ (cl (aJ (aJ c0)))))
def lu:=(cl (cl (cl (aJ (cl nt)))))
def mc:=dy lu
end G5
theorem Vz {w₀:World} {C:Nat->Nat} {l:List av} {dJ bL:Value} (hF:aM w₀ C) (ha:aG w₀ (aB C) l dJ) (hb:aG w₀ (aB C) l bL):Calls Tryz.prog 35 #[dJ,bL] w₀ (bM λv w'=>v=.bool true/\ay [] w₀ C w' C):=by
 have bp:=hF;have hT:=z9 w₀ C;replace hF:=hF.bE;replace ha:=ha.c1;replace hb:=hb.c1;refine ct G5.c0 26 [dJ,bL] Tryz.func35 ?_;show Run _ _ _ _ [(0,dJ),(1,bL)] _ _;refine aj (aq [af 0] ?_);refine aR 4 (.bool false) (ai.nil (aj (aj (aq [af 0,af 1,af 2,af 3,af 4] ?_))));refine ah 6 0 ?_;refine zE 7 6 53 (ha.b8 rfl Tryz.underlying53) ?_;refine ah 8 1 ?_;refine zE 9 8 53 (hb.b8 rfl Tryz.underlying53) ?_;refine ax (au 10 (.binOp .neq 3 (.tmp 7) (.tmp 9) 3)) (λ_=>di (gH rfl rfl) (λe=>e rfl)) ?_;refine ai.nil (gD 10 (bk (aj (aj (aq [af 0] ?_)))));refine aR 5 (.int .i64 0) ?_;refine ai.nil (bF 0 ?_);refine cM (ι:=Nat×(Nat->Nat)) (I:=λx w=>x.1<=l.length/\aM w x.2/\ay [2,3,4,5,6,7,8,9] w₀ (bE C) w x.2/\aG w (aB x.2) l dJ/\aG w (aB x.2) l bL) (e:=λx=>[(0,dJ),(1,bL),(5,.int .i64 x.1)]) (m:=λx=>l.length-x.1) (cD:=(0,bE C)) (ak 0 (ak 1 (ak 5 (aY _)))) ?_ ?_
 · exact⟨Nat.zero_le _,hF,hT,ha,hb⟩
 intro⟨i,bC⟩ w1 hI cn;obtain⟨hi,hF,hT,ha,hb⟩:=hI;try simp only at hi hF hT ha hb
 show Run _ _ _ _ [(0,dJ),(1,bL),(5,.int .i64 i)] _ _;have hle:=ha.le;refine aj (aj (aq [af 0,af 1,af 2,af 3] ?_));refine ah 11 5 (ah 12 0 ?_);refine zE 13 12 53 (ha.b8 rfl Tryz.underlying53) ?_;refine dm 14 3 11 13 (ai.nil ?_);refine bI 14 rfl (λer=>?_) (λer=>?_)
 ·
  have hil:i<l.length:=by omega
  refine bk (aj (bF 1 (aj ?_)));refine cw (id:=6) (ops:=G5.mc) [] (bC) [af 0,af 1,af 2,af 3,af 4,af 5,af 6,af 7,af 8] cm (by kernel_rfl) (by kernel_rfl) (by kernel_rfl) ?_;intro w2 s_1;refine ah 17 0 (ah 18 5 ?_);replace ha:=ha.t s_1;refine cq 47 19 53 17 18 ha rfl (h:=?_);intro Nr y3 nr;try simp only[aI] at nr
  refine cB (au 20 (.load 47 (.tmp 19))) rfl rfl (λw' hS=>nr.bu hS) nr (by kernel_rfl) (by kernel_rfl) rfl rfl ?_;intro v20 g20;refine ah 21 1 (ah 22 5 ?_);replace hb:=hb.t s_1;refine cq 47 23 53 21 22 hb rfl (h:=?_);intro tD rB h23;try simp only[aI] at h23
  refine cB (au 24 (.load 47 (.tmp 23))) rfl rfl (λw' hS=>h23.bu hS) h23 (by kernel_rfl) (by kernel_rfl) rfl rfl ?_;intro v24 g24;obtain rfl:=bY.1 g20;obtain rfl:=bY.1 g24;refine ax (au 25 (.binOp .neq 47 (.tmp 20) (.tmp 24) 47)) (λ_=>di (CO (a:=_) (b:=_) Tryz.underlying47 (by decide) (by decide) (by kernel_rfl) Tryz.underlying3 rfl rfl) (λe=>e rfl)) ?_;refine ai.nil (gD 25 (bk (bS (aq [af 0,af 1,af 2] ?_))));refine ah 15 5 ?_;refine bZ 16 3 15 1 (aD 5 16 (ai.nil ?_));replace hF:=hF.st s_1;replace hT:=hT.t s_1;refine kp (ak 0 (ak 1 (aL 5 rfl (eq_int (by simp)) (aY _)))) (cn (i+1,bC) _ ⟨(by first|omega|(simp only;omega)),hF,hT,ha,hb⟩ (by first|omega|(simp only;omega)))
 refine cA 0 ?_;refine aj (aq [af 0] ?_);refine aR 4 (.bool true) (ai.nil ?_);refine bN Tryz.func35 Tryz.results35 ?_;exact⟨rfl,hT.bW (by decide)⟩
end
end Go.Proofs.YtdmgmlmlielfbaaGreat
set_option linter.unusedVariables false
set_option linter.unusedSimpArgs false
set_option maxRecDepth 100000
set_option maxHeartbeats 4000000
namespace Go.Proofs.YtdmgmlmlielfbaaGreat
open Go.K Go.K.bg
noncomputable section
namespace Ns
def c0:=cz Tryz.f131
end Ns
theorem G6 (x:Int) (w:World):Calls Tryz.prog 131 #[.int .i64 x] w (bM λv w'=>v=.bool (iG x)/\w'=w):=by
 refine ct Ns.c0 9 [.int .i64 x] Tryz.func131 ?_;show Run _ _ _ _ [(0,.int .i64 x)] _ _;refine aj (aq [af 0] ?_);refine aR 2 (.bool false) (ai.nil (aj ?_));by_cases hA:1<=x
 ·
  refine aq [af 0,af 1,af 2,af 3,af 4,af 5,af 6] ?_;refine ah 3 0 ?_;refine ax (au 4 (.binOp .geq 3 (.tmp 3) (.const (.int .i64 1)) 3)) (λ_=>dc (e6 rfl rfl) hA) ?_;refine ah 5 4 ?_;refine aX 6 0 2 true ?_;refine ax (aA 7 (.binOp .leq 3 (.tmp 6) (.const (.int .i64 1048576)) 3) 2 true) (λ_=>pM rfl rfl) ?_;refine en 8 5 7 ?_;refine aD 2 8 (ai.nil ?_);refine bN Tryz.func131 Tryz.results131 ?_;exact⟨by unfold iG;congr 1;apply decide_eq_decide.2;omega,rfl⟩
 refine aq [af 0,af 1,af 2,af 3,af 4,af 5,af 6] ?_;refine ah 3 0 ?_;refine ax (au 4 (.binOp .geq 3 (.tmp 3) (.const (.int .i64 1)) 3)) (λ_=>di (e6 rfl rfl) hA) ?_;refine ah 5 4 ?_;refine aC 6 2 true (aC 7 2 true ?_);refine gl 8 5 7 ?_;refine aD 2 8 (ai.nil ?_);refine bN Tryz.func131 Tryz.results131 ?_;exact⟨by unfold iG;rw[decide_eq_false (λe=>hA e.1)],rfl⟩
namespace G7
def c0:=cz Tryz.f132
def o1:=dy (cl (aJ c0))
end G7
theorem VA {w₀:World} {C:Nat->Nat} {x y:bG} (hF:aM w₀ C):Calls Tryz.prog 132 #[.agg (jx x).toArray,.agg (jx y).toArray] w₀ (bM λv w'=>v=.int .i64 (lC x y)/\ay [] w₀ C w' C):=by
 have bp:=hF;have hT:=z9 w₀ C;replace hF:=hF.bE;refine ct G7.c0 26 [.agg (jx x).toArray,.agg (jx y).toArray] Tryz.func132 ?_;show Run _ _ _ _ [(0,.agg (jx x).toArray),(1,.agg (jx y).toArray)] _ _;refine aj (aq [nn 0,nn 1,af 2] ?_);refine bT (au 2 (.box 52 (.tmp 0))) rfl rfl (eU (cs:=jx x) hF 3 rfl rfl) ?_;rintro _ w1 ⟨eu,c4,rfl,s_1,hx,hF⟩;refine bT (au 3 (.box 52 (.tmp 1))) rfl rfl (eU (cs:=jx y) hF 3 rfl rfl) ?_;rintro _ w2 ⟨dM,fW,rfl,s_2,hy,hF⟩;refine aR 4 (.int .i64 0) (ai.nil (aj ?_));refine cw (id:=1) (ops:=G7.o1) [] (dM) [af 0,af 1,af 2,af 3,af 4,af 5,af 6,af 7,af 9,af 10,af 11,af 12,af 14,af 15,af 16,af 17,nn 8,nn 13,nn 18,nn 19,nn 20,af 21] cm (by kernel_rfl) (by kernel_rfl) (by kernel_rfl) ?_;intro w3 aH;have hR:=ay.refl [] w3 (dM);refine bD 5 52 2 0 0 ?_;replace hx:=(hx.t s_2).t aH;refine iN 6 47 5 2 (aZ x.A) (hx.stay · (by decide)) ?_;refine bD 7 52 2 1 2 ?_;refine iN 8 47 7 2 (aZ x.B) (hx.stay · (by decide)) ?_;refine bD 9 52 3 0 0 ?_;replace hy:=hy.t aH;refine iN 10 47 9 2 (aZ y.A) (hy.stay · (by decide)) ?_;refine bD 11 52 3 1 2 ?_;refine iN 12 47 11 2 (aZ y.B) (hy.stay · (by decide)) ?_;refine bD 14 52 2 2 4 ?_;refine gM 15 3 14 (hx.bu ·) ?_;refine bD 16 52 3 2 4 ?_;refine gM 17 3 16 (hy.bu ·) ?_;refine bD 19 52 2 3 5 ?_;refine gM 20 3 19 (hx.bu ·) ?_;refine bD 21 52 3 3 5 ?_;refine gM 22 3 21 (hy.bu ·) ?_;replace hF:=hF.st aH;refine dI 13 130 [6,8,10,12] [47,47,47,47] Tryz.call130 rfl (K9 (a:=x.A) (b:=x.B) (c:=y.A) (d:=y.B) hF) ?_;rintro j4 w4 ⟨rfl,aV⟩;refine⟨(hR.trans aV (by simp)).ext,?_⟩;refine dI 18 76 [15,17] [3,3] Tryz.call76 rfl (Au _ _ _) ?_;rintro ox ew ⟨rfl,rfl⟩;replace hR:=hR.t aV;refine⟨hR.ext,?_⟩;refine dI 23 76 [20,22] [3,3] Tryz.call76 rfl (Au _ _ _) ?_;rintro mh fh ⟨rfl,rfl⟩;refine⟨hR.ext,?_⟩;replace hF:=hF.st aV
 refine gi (au 24 (.buildSlice 22 3 #[(0,(.tmp 13)),(1,(.tmp 18)),(2,(.tmp 23))])) rfl rfl (fI (ys:=([ru x.A x.B y.A y.B,jZ x.dJ y.dJ,jZ x.bL y.bL]:List Int)) (e:=3) (bytes:=8) hF (by kernel_rfl) rfl (by decide) (by decide) ⟨rfl,⟨_,rfl,gN.2 rfl⟩,rfl,⟨_,rfl,gN.2 rfl⟩,rfl,⟨_,rfl,gN.2 rfl⟩,trivial⟩) ?_;rintro v24 w7 ⟨aQ,g24,hF⟩;refine⟨(hR.trans aQ (by simp)).ext,?_⟩;refine dI 25 96 [24] [22] Tryz.call96 rfl (Fz g24) ?_;rintro tW fR ⟨rfl,rfl⟩;replace hR:=hR.t aQ;refine⟨hR.ext,?_⟩;refine aD 4 25 (ai.nil ?_);refine bN Tryz.func132 Tryz.results132 ?_;replace hT:=((((hT.t s_1).t s_2).t aH).t aV).t aQ;exact⟨rfl,hT.bW (by decide)⟩
namespace Nt
def c0:=cz Tryz.f122
end Nt
theorem VB {w₀:World} {C:Nat->Nat} {x y:av} (hF:aM w₀ C):Calls Tryz.prog 122 #[.agg #[.int .i64 x.a,.int .i64 x.b],.agg #[.int .i64 y.a,.int .i64 y.b]] w₀ (bM λv w'=>v=.bool (iZ x y)/\ay [] w₀ C w' C):=by
 have bp:=hF;have hT:=z9 w₀ C;replace hF:=hF.bE;refine ct Nt.c0 18 [.agg #[.int .i64 x.a,.int .i64 x.b],.agg #[.int .i64 y.a,.int .i64 y.b]] Tryz.func122 ?_;show Run _ _ _ _ [(0,.agg #[.int .i64 x.a,.int .i64 x.b]),(1,.agg #[.int .i64 y.a,.int .i64 y.b])] _ _;refine aj (aq [nn 0,nn 1,af 2] ?_);refine bT (au 2 (.box 47 (.tmp 0))) rfl rfl (eU (cs:=aZ x) hF 3 rfl rfl) ?_;rintro _ w1 ⟨eu,c4,rfl,s_1,hx,hF⟩;refine bT (au 3 (.box 47 (.tmp 1))) rfl rfl (eU (cs:=aZ y) hF 3 rfl rfl) ?_;rintro _ w2 ⟨dM,fW,rfl,s_2,hy,hF⟩;refine aR 4 (.bool false) (ai.nil ?_);refine kp (ak 2 (ak 3 (aY _))) ?_;refine aj ?_;refine kV 4 (iZ x y) (dM) ?_ ?_
 ·
  intro dn;by_cases hA:lP x=true
  ·
   by_cases hB:lP y=true
   ·
    refine aq [nn 0,nn 1,af 2,nn 3,nn 4,af 5,af 6,af 7,nn 8,af 9,nn 10,af 11,af 12,af 13] ?_;have hcs:=ay.mJ hF;replace hx:=hx.t s_2;refine dz 5 47 2 2 (aZ x) hx.at_ ?_;refine bU 6 121 [5] [47] Tryz.call121 rfl (qy hF) ?_;rintro lq w3 ⟨rfl,aH⟩;rw[hA];refine ah 7 6 ?_;replace hy:=hy.t aH;refine lg 8 47 3 2 true 2 (aZ y) hy.at_ ?_;replace hF:=hF.st aH;refine dY (aA 9 (.call {callee:=.value (.func 121),args:=#[(.tmp 8)],argTypes:=#[47]}) 2 true) rfl rfl (cL Tryz.call121 rfl) (qy hF) ?_;rintro j4 w4 ⟨rfl,aV⟩;rw[hB];refine en 10 7 9 ?_;refine ah 11 10 ?_;refine cW 12 47 2 0 0 6 true ?_;replace hx:=(hx.t aH).t aV;refine gP 13 3 12 6 true hx.at_ ?_;refine cW 14 47 3 0 0 6 true ?_;replace hy:=hy.t aV;refine gP 15 3 14 6 true hy.at_ ?_;refine ax (aA 16 (.binOp .lss 3 (.tmp 13) (.tmp 15) 3) 6 true) (λ_=>eX rfl rfl) ?_;refine en 17 11 16 ?_;refine aD 4 17 ?_;replace hcs:=(hcs.t aH).t aV;exact ai.nil (dn _ _ _ hcs rfl (by unfold iZ;rw[hA,hB];rfl) (ec 14))
   refine aq [nn 0,nn 1,af 2,nn 3,nn 4,af 5,af 6,af 7,nn 8,af 9,nn 10,af 11,af 12,af 13] ?_;have hcs:=ay.mJ hF;replace hx:=hx.t s_2;refine dz 5 47 2 2 (aZ x) hx.at_ ?_;refine bU 6 121 [5] [47] Tryz.call121 rfl (qy hF) ?_;rintro ox ew ⟨rfl,aQ⟩;rw[hA];refine ah 7 6 ?_;replace hy:=hy.t aQ;refine lg 8 47 3 2 true 2 (aZ y) hy.at_ ?_;replace hF:=hF.st aQ;refine dY (aA 9 (.call {callee:=.value (.func 121),args:=#[(.tmp 8)],argTypes:=#[47]}) 2 true) rfl rfl (cL Tryz.call121 rfl) (qy hF) ?_;rintro mh fh ⟨rfl,bh⟩;rw[Bool.eq_false_iff.2 hB];refine en 10 7 9 ?_;refine ah 11 10 ?_;refine aC 12 6 true ?_;refine c9 (aA 13 (.load 3 (.tmp 12)) 6 true) rfl rfl trivial ?_;refine aC 14 6 true ?_;refine c9 (aA 15 (.load 3 (.tmp 14)) 6 true) rfl rfl trivial ?_;refine aC 16 6 true ?_;refine gl 17 11 16 ?_;refine aD 4 17 ?_;replace hcs:=(hcs.t aQ).t bh;exact ai.nil (dn _ _ _ hcs rfl (by unfold iZ;rw[hA,Bool.eq_false_iff.2 hB];simp) (ec 14))
  refine aq [nn 0,nn 1,af 2,nn 3,nn 4,af 5,af 6,af 7,nn 8,af 9,nn 10,af 11,af 12,af 13] ?_;have hcs:=ay.mJ hF;replace hx:=hx.t s_2;refine dz 5 47 2 2 (aZ x) hx.at_ ?_;refine bU 6 121 [5] [47] Tryz.call121 rfl (qy hF) ?_;rintro mM w7 ⟨rfl,bq⟩;rw[Bool.eq_false_iff.2 hA];refine ah 7 6 ?_;refine c9 (aA 8 (.load 47 (.tmp 3)) 2 true) rfl rfl trivial ?_;refine c9 (aA 9 (.call {callee:=.value (.func 121),args:=#[(.tmp 8)],argTypes:=#[47]}) 2 true) rfl rfl trivial ?_;refine gl 10 7 9 ?_;refine ah 11 10 ?_;refine aC 12 6 true ?_;refine c9 (aA 13 (.load 3 (.tmp 12)) 6 true) rfl rfl trivial ?_;refine aC 14 6 true ?_;refine c9 (aA 15 (.load 3 (.tmp 14)) 6 true) rfl rfl trivial ?_;refine aC 16 6 true ?_;refine gl 17 11 16 ?_;refine aD 4 17 ?_;replace hcs:=hcs.t bq;exact ai.nil (dn _ _ _ hcs rfl (by unfold iZ;rw[Bool.eq_false_iff.2 hA];simp) (ec 14))
 intro fR br;refine bN Tryz.func122 Tryz.results122 ?_;replace hT:=((hT.t s_1).t s_2).t br;exact⟨rfl,hT.bW (by decide)⟩
namespace Nu
def c0:=cz Tryz.f123
end Nu
theorem G8 (x:Int) (w:World):Calls Tryz.prog 123 #[.int .i64 x] w (bM λv w'=>v=.bool (iG x)/\w'=w):=by
 refine ct Nu.c0 9 [.int .i64 x] Tryz.func123 ?_;show Run _ _ _ _ [(0,.int .i64 x)] _ _;refine aj (aq [af 0] ?_);refine aR 2 (.bool false) (ai.nil (aj ?_));by_cases hA:1<=x
 ·
  refine aq [af 0,af 1,af 2,af 3,af 4,af 5,af 6] ?_;refine ah 3 0 ?_;refine ax (au 4 (.binOp .geq 3 (.tmp 3) (.const (.int .i64 1)) 3)) (λ_=>dc (e6 rfl rfl) hA) ?_;refine ah 5 4 ?_;refine aX 6 0 2 true ?_;refine ax (aA 7 (.binOp .leq 3 (.tmp 6) (.const (.int .i64 1048576)) 3) 2 true) (λ_=>pM rfl rfl) ?_;refine en 8 5 7 ?_;refine aD 2 8 (ai.nil ?_);refine bN Tryz.func123 Tryz.results123 ?_;exact⟨by unfold iG;congr 1;apply decide_eq_decide.2;omega,rfl⟩
 refine aq [af 0,af 1,af 2,af 3,af 4,af 5,af 6] ?_;refine ah 3 0 ?_;refine ax (au 4 (.binOp .geq 3 (.tmp 3) (.const (.int .i64 1)) 3)) (λ_=>di (e6 rfl rfl) hA) ?_;refine ah 5 4 ?_;refine aC 6 2 true (aC 7 2 true ?_);refine gl 8 5 7 ?_;refine aD 2 8 (ai.nil ?_);refine bN Tryz.func123 Tryz.results123 ?_;exact⟨by unfold iG;rw[decide_eq_false (λe=>hA e.1)],rfl⟩
namespace Nv
def c0:=cz Tryz.f143
end Nv
theorem VC {w₀:World} {C:Nat->Nat} {a b c d:av} (hF:aM w₀ C):Calls Tryz.prog 143 #[.agg #[.int .i64 a.a,.int .i64 a.b],.agg #[.int .i64 b.a,.int .i64 b.b],.agg #[.int .i64 c.a,.int .i64 c.b],.agg #[.int .i64 d.a,.int .i64 d.b]] w₀ (bM λv w'=>v=.int .i64 (ru a b c d)/\ay [] w₀ C w' C):=by
 have bp:=hF;have hT:=z9 w₀ C;replace hF:=hF.bE;refine ct Nv.c0 21 [.agg #[.int .i64 a.a,.int .i64 a.b],.agg #[.int .i64 b.a,.int .i64 b.b],.agg #[.int .i64 c.a,.int .i64 c.b],.agg #[.int .i64 d.a,.int .i64 d.b]] Tryz.func143 ?_;show Run _ _ _ _ [(0,.agg #[.int .i64 a.a,.int .i64 a.b]),(1,.agg #[.int .i64 b.a,.int .i64 b.b]),(2,.agg #[.int .i64 c.a,.int .i64 c.b]),(3,.agg #[.int .i64 d.a,.int .i64 d.b])] _ _;refine aj (aq [nn 0,nn 1,nn 2,nn 3,af 4] ?_);refine bT (au 4 (.box 47 (.tmp 0))) rfl rfl (eU (cs:=aZ a) hF 3 rfl rfl) ?_;rintro _ w1 ⟨eu,c4,rfl,s_1,ha,hF⟩;refine bT (au 5 (.box 47 (.tmp 1))) rfl rfl (eU (cs:=aZ b) hF 3 rfl rfl) ?_;rintro _ w2 ⟨dM,fW,rfl,s_2,hb,hF⟩;refine bT (au 6 (.box 47 (.tmp 2))) rfl rfl (eU (cs:=aZ c) hF 3 rfl rfl) ?_;rintro _ w3 ⟨nM,pZ,rfl,aH,hc,hF⟩;refine bT (au 7 (.box 47 (.tmp 3))) rfl rfl (eU (cs:=aZ d) hF 3 rfl rfl) ?_;rintro _ w4 ⟨gw,rC,rfl,aV,hd,hF⟩;refine aR 8 (.int .i64 0) (ai.nil (aj (aj (aq [nn 0,nn 1,af 2] ?_))));replace ha:=((ha.t s_2).t aH).t aV;refine dz 9 47 4 2 (aZ a) ha.at_ ?_;replace hc:=hc.t aV;refine dz 10 47 6 2 (aZ c) hc.at_ ?_;refine ax (au 11 (.binOp .neq 47 (.tmp 9) (.tmp 10) 47)) (λ_=>CO (a:=_) (b:=_) Tryz.underlying47 (by decide) (by decide) (by kernel_rfl) Tryz.underlying3 rfl rfl) ?_;refine ai.nil ?_;refine bI 11 rfl (λkY=>?_) (λkY=>?_)
 ·
  refine aj (aj (aq [nn 0,nn 1,nn 2] ?_));refine dz 12 47 4 2 (aZ a) ha.at_ ?_;refine dz 13 47 6 2 (aZ c) hc.at_ ?_;refine bU 14 97 [12,13] [47,47] Tryz.call97 rfl (G4 (x:=a) (y:=c) hF) ?_;rintro ox ew ⟨rfl,aQ⟩;refine ai.nil ?_;refine bI 14 rfl (λer=>?_) (λer=>?_)
  ·
   refine aj (aq [af 0] ?_);refine ax (au 8 (.assign (.const (.int .i64 (-1))))) (λ_=>nJ rfl) ?_;refine ai.nil ?_;refine bN Tryz.func143 Tryz.results143 ?_;replace hT:=((((hT.t s_1).t s_2).t aH).t aV).t aQ;exact⟨by unfold ru;rw[yD,sD a c,sD b d];rw[if_neg kY,if_pos er];rfl,hT.bW (by decide)⟩
  refine bk (aj (aq [af 0] ?_));refine aR 8 (.int .i64 1) (ai.nil ?_);refine bN Tryz.func143 Tryz.results143 ?_;replace hT:=((((hT.t s_1).t s_2).t aH).t aV).t aQ;exact⟨by unfold ru;rw[yD,sD a c,sD b d];rw[if_neg kY,if_neg er];rfl,hT.bW (by decide)⟩
 refine bk (aj (aj (aq [nn 0,nn 1,af 2] ?_)));replace hb:=(hb.t aH).t aV;refine dz 15 47 5 2 (aZ b) hb.at_ ?_;refine dz 16 47 7 2 (aZ d) hd.at_ ?_;refine ax (au 17 (.binOp .eql 47 (.tmp 15) (.tmp 16) 47)) (λ_=>iY (a:=_) (b:=_) Tryz.underlying47 (by decide) (by decide) (by kernel_rfl) Tryz.underlying3 rfl rfl) ?_;refine ai.nil ?_;refine bI 17 rfl (λeR=>?_) (λeR=>?_)
 ·
  refine aj (aq [af 0] ?_);refine aR 8 (.int .i64 0) (ai.nil ?_);refine bN Tryz.func143 Tryz.results143 ?_;replace hT:=(((hT.t s_1).t s_2).t aH).t aV;exact⟨by unfold ru;rw[yD,sD a c,sD b d];rw[if_pos (Classical.not_not.1 kY),if_pos eR];rfl,hT.bW (by decide)⟩
 refine bk (aj (aj (aq [nn 0,nn 1,nn 2] ?_)));refine dz 18 47 5 2 (aZ b) hb.at_ ?_;refine dz 19 47 7 2 (aZ d) hd.at_ ?_;refine bU 20 97 [18,19] [47,47] Tryz.call97 rfl (G4 (x:=b) (y:=d) hF) ?_;rintro mh fh ⟨rfl,bh⟩;refine ai.nil ?_;refine bI 20 rfl (λjT=>?_) (λjT=>?_)
 ·
  refine aj (aq [af 0] ?_);refine ax (au 8 (.assign (.const (.int .i64 (-1))))) (λ_=>nJ rfl) ?_;refine ai.nil ?_;refine bN Tryz.func143 Tryz.results143 ?_;replace hT:=((((hT.t s_1).t s_2).t aH).t aV).t bh;exact⟨by unfold ru;rw[yD,sD a c,sD b d];rw[if_pos (Classical.not_not.1 kY),if_neg eR,if_pos jT];rfl,hT.bW (by decide)⟩
 refine bk (aj (aq [af 0] ?_));refine aR 8 (.int .i64 1) (ai.nil ?_);refine bN Tryz.func143 Tryz.results143 ?_;replace hT:=((((hT.t s_1).t s_2).t aH).t aV).t bh;exact⟨by unfold ru;rw[yD,sD a c,sD b d];rw[if_pos (Classical.not_not.1 kY),if_neg eR,if_neg jT];rfl,hT.bW (by decide)⟩
namespace Nw
def c0:=cz Tryz.f124
end Nw
theorem VD {w₀:World} {C:Nat->Nat} {x y:bG} (hF:aM w₀ C):Calls Tryz.prog 124 #[.agg (jx x).toArray,.agg (jx y).toArray] w₀ (bM λv w'=>v=.int .i64 (lC x y)/\ay [] w₀ C w' C):=by
 have bp:=hF;have hT:=z9 w₀ C;replace hF:=hF.bE;refine ct Nw.c0 38 [.agg (jx x).toArray,.agg (jx y).toArray] Tryz.func124 ?_;show Run _ _ _ _ [(0,.agg (jx x).toArray),(1,.agg (jx y).toArray)] _ _;refine aj (aq [nn 0,nn 1,af 2] ?_);refine bT (au 2 (.box 52 (.tmp 0))) rfl rfl (eU (cs:=jx x) hF 3 rfl rfl) ?_;rintro _ w1 ⟨eu,c4,rfl,s_1,hx,hF⟩;refine bT (au 3 (.box 52 (.tmp 1))) rfl rfl (eU (cs:=jx y) hF 3 rfl rfl) ?_;rintro _ w2 ⟨dM,fW,rfl,s_2,hy,hF⟩;refine aR 4 (.int .i64 0) (ai.nil (aj (aj (aq [af 0,nn 1,af 2,nn 3,af 4,nn 5,af 6,nn 7,nn 8,af 9] ?_))));refine bD 6 52 2 0 0 ?_;replace hx:=hx.t s_2;refine dz 7 47 6 2 (aZ x.A) hx.at_ ?_;refine bD 8 52 2 1 2 ?_;refine dz 9 47 8 2 (aZ x.B) hx.at_ ?_;refine bD 10 52 3 0 0 ?_;refine dz 11 47 10 2 (aZ y.A) hy.at_ ?_;refine bD 12 52 3 1 2 ?_;refine dz 13 47 12 2 (aZ y.B) hy.at_ ?_;refine bU 14 143 [7,9,11,13] [47,47,47,47] Tryz.call143 rfl (VC (a:=x.A) (b:=x.B) (c:=y.A) (d:=y.B) hF) ?_;rintro lq w3 ⟨rfl,aH⟩;refine aD 5 14 (ai.nil (aj (aq [af 0,af 1] ?_)));refine ah 15 5 ?_;refine ax (au 16 (.binOp .neq 3 (.tmp 15) (.const (.int .i64 0)) 3)) (λ_=>gH rfl rfl) ?_;refine ai.nil ?_;refine bI 16 rfl (λdK=>?_) (λdK=>?_)
 ·
  refine aj (aq [af 0,af 1] ?_);refine ah 17 5 (aD 4 17 (ai.nil ?_));refine bN Tryz.func124 Tryz.results124 ?_;replace hT:=((hT.t s_1).t s_2).t aH;exact⟨by unfold lC;rw[yB,qE x.dJ y.dJ,qE x.bL y.bL];rw[if_pos dK],hT.bW (by decide)⟩
 refine bk (aj (aj (aq [af 0,nn 1,af 2,nn 3,af 4] ?_)));refine bD 18 52 2 2 4 ?_;replace hx:=hx.t aH;refine dL 19 3 18 hx.at_ rfl rfl ?_;refine bD 20 52 3 2 4 ?_;replace hy:=hy.t aH;refine dL 21 3 20 hy.at_ rfl rfl ?_;refine ax (au 22 (.binOp .neq 3 (.tmp 19) (.tmp 21) 3)) (λ_=>gH rfl rfl) ?_;refine ai.nil ?_;refine bI 22 rfl (λgT=>?_) (λgT=>?_)
 ·
  refine aj (aj (aq [af 0,nn 1,af 2,nn 3,af 4] ?_));refine bD 23 52 2 2 4 ?_;refine dL 24 3 23 hx.at_ rfl rfl ?_;refine bD 25 52 3 2 4 ?_;refine dL 26 3 25 hy.at_ rfl rfl ?_;refine dm 27 3 24 26 (ai.nil ?_);refine bI 27 rfl (λgq=>?_) (λgq=>?_)
  ·
   refine aj (aq [af 0] ?_);refine ax (au 4 (.assign (.const (.int .i64 (-1))))) (λ_=>nJ rfl) ?_;refine ai.nil ?_;refine bN Tryz.func124 Tryz.results124 ?_;replace hT:=((hT.t s_1).t s_2).t aH;exact⟨by unfold lC;rw[yB,qE x.dJ y.dJ,qE x.bL y.bL];rw[if_neg dK,if_neg gT,if_pos gq];rfl,hT.bW (by decide)⟩
  refine bk (aj (aq [af 0] ?_));refine aR 4 (.int .i64 1) (ai.nil ?_);refine bN Tryz.func124 Tryz.results124 ?_;replace hT:=((hT.t s_1).t s_2).t aH;exact⟨by unfold lC;rw[yB,qE x.dJ y.dJ,qE x.bL y.bL];rw[if_neg dK,if_neg gT,if_neg gq];rfl,hT.bW (by decide)⟩
 refine bk (aj (aj (aq [af 0,nn 1,af 2,nn 3,af 4] ?_)));refine bD 28 52 2 3 5 ?_;refine dL 29 3 28 hx.at_ rfl rfl ?_;refine bD 30 52 3 3 5 ?_;refine dL 31 3 30 hy.at_ rfl rfl ?_;refine ax (au 32 (.binOp .neq 3 (.tmp 29) (.tmp 31) 3)) (λ_=>gH rfl rfl) ?_;refine ai.nil ?_;refine bI 32 rfl (λgA=>?_) (λgA=>?_)
 ·
  refine aj (aj (aq [af 0,nn 1,af 2,nn 3,af 4] ?_));refine bD 33 52 2 3 5 ?_;refine dL 34 3 33 hx.at_ rfl rfl ?_;refine bD 35 52 3 3 5 ?_;refine dL 36 3 35 hy.at_ rfl rfl ?_;refine dm 37 3 34 36 (ai.nil ?_);refine bI 37 rfl (λmw=>?_) (λmw=>?_)
  ·
   refine aj (aq [af 0] ?_);refine ax (au 4 (.assign (.const (.int .i64 (-1))))) (λ_=>nJ rfl) ?_;refine ai.nil ?_;refine bN Tryz.func124 Tryz.results124 ?_;replace hT:=((hT.t s_1).t s_2).t aH;exact⟨by unfold lC;rw[yB,qE x.dJ y.dJ,qE x.bL y.bL];rw[if_neg dK,if_pos (Classical.not_not.1 gT),if_neg gA,if_pos mw];rfl,hT.bW (by decide)⟩
  refine bk (aj (aq [af 0] ?_));refine aR 4 (.int .i64 1) (ai.nil ?_);refine bN Tryz.func124 Tryz.results124 ?_;replace hT:=((hT.t s_1).t s_2).t aH;exact⟨by unfold lC;rw[yB,qE x.dJ y.dJ,qE x.bL y.bL];rw[if_neg dK,if_pos (Classical.not_not.1 gT),if_neg gA,if_neg mw];rfl,hT.bW (by decide)⟩
 refine bk (aj (aq [af 0] ?_));refine aR 4 (.int .i64 0) (ai.nil ?_);refine bN Tryz.func124 Tryz.results124 ?_;replace hT:=((hT.t s_1).t s_2).t aH;exact⟨by unfold lC;rw[yB,qE x.dJ y.dJ,qE x.bL y.bL];rw[if_neg dK,if_pos (Classical.not_not.1 gT),if_pos (Classical.not_not.1 gA)];rfl,hT.bW (by decide)⟩
namespace D0
def c0:=cz Tryz.f93
def nt:=(cl (aJ (cl (aJ (aJ c0)))))
def uQ:=(cl (cl (aJ (aJ (cl nt)))))
def rD:=(aJ (aJ (aJ (cl (aJ uQ)))))
def mg:=dy (cl (aJ rD))
end D0
theorem Nx {w₀:World} {C:Nat->Nat} {l:List bG} {aF:Value} (hF:aM w₀ C) (hl:aG w₀ (aB C) l aF):Calls Tryz.prog 93 #[aF] w₀ (bM λv w'=>v=.int .i64 (lD l)/\ay [] w₀ C w' C):=by
 have bp:=hF;have hT:=z9 w₀ C;replace hF:=hF.bE;replace hl:=hl.c1;refine ct D0.c0 47 [aF] Tryz.func93 ?_;show Run _ _ _ _ [(0,aF)] _ _;refine aj (aq [af 0] ?_);refine aR 2 (.int .i64 0) (ai.nil (aj (aj (aq [af 0,af 1,af 2] ?_))));refine ah 5 0 ?_;refine zE 6 5 24 (hl.b8 rfl Tryz.underlying24) ?_;refine ax (au 7 (.binOp .gtr 3 (.tmp 6) (.const (.int .i64 4096)) 3)) (λ_=>fq rfl rfl) ?_;refine ai.nil ?_;refine bI 7 rfl (λh7=>?_) (λh7=>?_)
 ·
  refine aj (aq [af 0] ?_);refine aR 2 (.int .i64 1) (ai.nil ?_);refine bN Tryz.func93 Tryz.results93 ?_;exact⟨congrArg (Value.int .i64) (by unfold lD;rw[if_pos (by omega)]),hT.bW (by decide)⟩
 have hlim:¬4096<l.length:=by omega
 refine bk (aj (aj (aq [af 0,af 1,af 2] ?_)));refine ah 8 0 ?_;refine zE 9 8 24 (hl.b8 rfl Tryz.underlying24) ?_;refine ig 10 (.int .i64 0) ?_;refine ai.nil (bF 0 ?_);refine cM (ι:=Nat×(Nat->Nat)) (I:=λx w=>x.1<=l.length/\(∀k,k<x.1->p8 l k=0)/\aM w x.2/\ay [2,3,4,5,6,7,8,9] w₀ (bE C) w x.2/\aG w (aB x.2) l aF) (e:=λx=>[(0,aF),(8,aF),(9,.int .i64 l.length),(10,.int .i64 x.1)]) (m:=λx=>l.length-x.1) (cD:=(0,bE C)) (ak 0 (ak 8 (ak 9 (ak 10 (aY _))))) ?_ ?_
 · exact⟨Nat.zero_le _,λk hk=>by first|omega|(simp only at hk;omega),hF,hT,hl⟩
 intro⟨i,bC⟩ w1 hI cn;obtain⟨hi,h0,hF,hT,hl⟩:=hI;try simp only at hi h0 hF hT hl
 show Run _ _ _ _ [(0,aF),(8,aF),(9,.int .i64 l.length),(10,.int .i64 i)] _ _;have hle:=hl.le;refine aj (aq [af 0] ?_);refine dm 11 3 10 9 (ai.nil (aj ?_));refine bI 11 rfl (λkY=>?_) (λkY=>?_)
 ·
  have hil:i<l.length:=by omega
  refine bk (aj (bF 1 (aj (aq [af 0,af 1,nn 2,nn 3,af 4,nn 5] ?_))));refine ah 12 10 ?_;refine cq 52 13 24 8 10 hl rfl (h:=?_);intro C9 ye iu;try simp only[aI] at iu
  refine ku (au 14 (.load 52 (.tmp 13))) rfl rfl trivial iu (by kernel_rfl) (by kernel_rfl) rfl rfl ?_;intro yf g14;obtain rfl:=tJ.1 g14;refine bT (au 4 (.alloc 52)) rfl rfl (gJ (cs:=[.int .i64 0,.int .i64 0,.int .i64 0,.int .i64 0,.int .i64 0,.int .i64 0,.bool false]) hF 4 (by kernel_rfl)) ?_;rintro _ w2 ⟨dM,fW,rfl,s_1,hx,hF⟩;refine aD 3 12 ?_;refine cE (k0 (.store 52 (.tmp 4) (.tmp 14))) rfl (gB (vs:=jx ((l[i]'hil))) (n:=7) rfl rfl (by kernel_rfl) rfl rfl (g_ rfl) hx rfl) ?_;rintro _ w3 ⟨rfl,s_2,hx⟩;refine ai.nil (bF 2 (aj (aq [af 0,nn 1,af 2,nn 3,nn 4,af 5,af 6] ?_)));refine bD 16 52 4 0 0 ?_;refine dz 17 47 16 2 (aZ (l[i]'hil).A) hx.at_ ?_;refine bD 18 52 4 1 2 ?_;refine dz 19 47 18 2 (aZ (l[i]'hil).B) hx.at_ ?_;replace hF:=hF.st s_2;refine bU 20 129 [17,19] [47,47] Tryz.call129 rfl (K8 (x:=(l[i]'hil).A) (y:=(l[i]'hil).B) hF) ?_;rintro j4 w4 ⟨rfl,aH⟩;refine ax (au 21 (.unOp .not 4 (.tmp 20))) (λ_=>dF rfl) ?_;refine aD 15 21 (ai.nil ?_);refine iL 15 rfl (λgW=>?_) (λgW=>?_)
  ·
   have hc:iZ (l[i]'hil).A (l[i]'hil).B=false:=by simpa using gW
   refine aj (aq [af 0] ?_);refine aR 2 (.int .i64 41) (ai.nil ?_);refine bN Tryz.func93 Tryz.results93 ?_;replace hT:=((hT.t s_1).t s_2).t aH;exact⟨congrArg (Value.int .i64) (by unfold lD;rw[if_neg hlim,yK h0 hil (LH hil hc) (by decide)]),hT.bW (by decide)⟩
  have hc:iZ (l[i]'hil).A (l[i]'hil).B=true:=by simpa using gW
  refine aj ?_;refine kV 22 (!(iG (l[i]'hil).dJ&&iG (l[i]'hil).bL)) (dM) ?_ ?_
  ·
   intro dn;by_cases hA:iG (l[i]'hil).dJ=true
   ·
    refine aq [af 0,nn 1,nn 2,af 3,af 4,af 5,nn 6,nn 7,af 8,af 9,af 10] ?_;replace hF:=hF.st aH;have hcs:=ay.mJ hF;refine bD 23 52 4 2 4 ?_;replace hx:=hx.t aH;refine dL 24 3 23 hx.at_ rfl rfl ?_;refine bU 25 131 [24] [3] Tryz.call131 rfl (G6 _ _) ?_;rintro ox ew ⟨rfl,rfl⟩;rw[hA];refine ax (au 26 (.unOp .not 4 (.tmp 25))) (λ_=>dF rfl) ?_;refine ah 27 26 ?_;refine cW 28 52 4 3 5 4 false ?_;refine gP 29 3 28 4 false hx.at_ ?_;refine dY (aA 30 (.call {callee:=.value (.func 131),args:=#[(.tmp 29)],argTypes:=#[3]}) 4 false) rfl rfl (cL Tryz.call131 rfl) (G6 _ _) ?_;rintro mh fh ⟨rfl,rfl⟩;refine ax (aA 31 (.unOp .not 4 (.tmp 30)) 4 false) (λ_=>dF rfl) ?_;refine eo 32 27 31 ?_;refine aD 22 32 ?_;exact ai.nil (dn _ _ _ hcs rfl (by rw[hA];simp) (ec 11))
   refine aq [af 0,nn 1,nn 2,af 3,af 4,af 5,nn 6,nn 7,af 8,af 9,af 10] ?_;replace hF:=hF.st aH;have hcs:=ay.mJ hF;refine bD 23 52 4 2 4 ?_;replace hx:=hx.t aH;refine dL 24 3 23 hx.at_ rfl rfl ?_;refine bU 25 131 [24] [3] Tryz.call131 rfl (G6 _ _) ?_;rintro mM w7 ⟨rfl,rfl⟩;rw[Bool.eq_false_iff.2 hA];refine ax (au 26 (.unOp .not 4 (.tmp 25))) (λ_=>dF rfl) ?_;refine ah 27 26 ?_;refine aC 28 4 false ?_;refine c9 (aA 29 (.load 3 (.tmp 28)) 4 false) rfl rfl trivial ?_;refine c9 (aA 30 (.call {callee:=.value (.func 131),args:=#[(.tmp 29)],argTypes:=#[3]}) 4 false) rfl rfl trivial ?_;refine aC 31 4 false ?_;refine iM 32 27 31 ?_;refine aD 22 32 ?_;exact ai.nil (dn _ _ _ hcs rfl (by rw[Bool.eq_false_iff.2 hA];simp) (ec 11))
  intro fR aV;refine iL 22 rfl (λgT=>?_) (λgT=>?_)
  ·
   have hv: (iG (l[i]'hil).dJ&&iG (l[i]'hil).bL)=false:=by rw[Bool.not_eq_true'] at gT;exact gT
   refine aj (aq [af 0] ?_);refine aR 2 (.int .i64 42) (ai.nil ?_);refine bN Tryz.func93 Tryz.results93 ?_;replace hT:=(((hT.t s_1).t s_2).t aH).t aV;exact⟨congrArg (Value.int .i64) (by unfold lD;rw[if_neg hlim,yK h0 hil (LI hil hc hv) (by decide)]),hT.bW (by decide)⟩
  have hv: (iG (l[i]'hil).dJ&&iG (l[i]'hil).bL)=true:=by rw[Bool.not_eq_false'] at gT;exact gT
  refine aj ?_;by_cases hA: (0:Int)<i
  ·
   refine cw (id:=10) (ops:=D0.mg) [] (dM) [af 0,af 1,af 2,af 3,af 4,af 5,af 6,af 7,af 8,nn 9,af 10,af 11,af 12] cm (by kernel_rfl) (by kernel_rfl) (by kernel_rfl) ?_;intro gC aQ;have hR:=ay.refl [] gC (dM);refine ah 34 3 ?_;refine ax (au 35 (.binOp .gtr 3 (.tmp 34) (.const (.int .i64 0)) 3)) (λ_=>dc (fq rfl rfl) hA) ?_;refine ah 36 35 ?_;refine aX 37 0 2 true (aX 38 3 2 true ?_);refine ax (aA 39 (.binOp .sub 3 (.tmp 38) (.const (.int .i64 1)) 3) 2 true) (λ_=>fu rfl rfl (by omega) (by omega)) ?_;replace hl:=((((hl.t s_1).t s_2).t aH).t aV).t aQ;refine iS (e:=52) (aA 40 (.indexAddr 24 (.tmp 37) (.tmp 39)) 2 true) rfl rfl hl rfl (by kernel_rfl) rfl (by omega) (by omega) ?_;intro w_ xb gG;try simp only[aI] at gG
   refine cB (aA 41 (.load 52 (.tmp 40)) 2 true) rfl rfl (λw' hS=>gG.bu hS) gG (by kernel_rfl) (by kernel_rfl) rfl rfl ?_;intro v41 xd;have ki: ((i:Int)-1).toNat=i-1:=by omega
   simp only[ki] at xd;obtain rfl:=tJ.1 xd;replace hx:=((hx.t aH).t aV).t aQ;refine dH (aA 42 (.load 52 (.tmp 4)) 2 true) rfl rfl (λw' hS=>eL (n:=7) (vs:=jx (l[i]'hil)) (hx.stay hS (by decide)) (by kernel_rfl) (by kernel_rfl) rfl rfl rfl) ?_;replace hF:=((hF.st aH).st aV).st aQ;refine gO (aA 43 (.call {callee:=.value (.func 132),args:=#[(.tmp 41),(.tmp 42)],argTypes:=#[52,52]}) 2 true) rfl rfl (cL Tryz.call132 rfl) (VA (y:=(l[i]'hil)) hF) ?_;rintro tT iD ⟨rfl,bh⟩;refine⟨(hR.trans bh (by simp)).ext,?_⟩;refine ax (aA 44 (.binOp .geq 3 (.tmp 43) (.const (.int .i64 0)) 3) 2 true) (λ_=>e6 rfl rfl) ?_;refine en 45 36 44 ?_;refine aD 33 45 (ai.nil ?_);refine bI 33 rfl (λqi=>?_) (λqi=>?_)
   ·
    refine aj (aq [af 0] ?_);refine aR 2 (.int .i64 12) (ai.nil ?_);refine bN Tryz.func93 Tryz.results93 ?_;replace hT:=(((((hT.t s_1).t s_2).t aH).t aV).t aQ).t bh;exact⟨congrArg (Value.int .i64) (by unfold lD;rw[if_neg hlim,yK h0 hil (LJ hil hc hv (by omega) (by omega)) (by decide)]),hT.bW (by decide)⟩
   refine bk (bS (bS (aq [af 0,af 1] ?_)));refine bZ 46 3 10 1 (ah 10 46 (ai.nil ?_));replace hT:=(((((hT.t s_1).t s_2).t aH).t aV).t aQ).t bh;replace hF:=hF.st bh;replace hl:=hl.t bh;refine kp (ak 0 (ak 8 (ak 9 (aL 10 rfl (eq_int (by simp)) (aY _))))) (cn (i+1,dM) _ ⟨(by first|omega|(simp only;omega)),(Dn h0 (AH hil hc hv (λh0=>by omega))),hF,hT,hl⟩ (by first|omega|(simp only;omega)))
  refine cw (id:=10) (ops:=D0.mg) [] (dM) [af 0,af 1,af 2,af 3,af 4,af 5,af 6,af 7,af 8,nn 9,af 10,af 11,af 12] cm (by kernel_rfl) (by kernel_rfl) (by kernel_rfl) ?_;intro ja bq;have hR:=ay.refl [] ja (dM);refine ah 34 3 ?_;refine ax (au 35 (.binOp .gtr 3 (.tmp 34) (.const (.int .i64 0)) 3)) (λ_=>di (fq rfl rfl) hA) ?_;refine ah 36 35 ?_;refine aC 37 2 true (aC 38 2 true (aC 39 2 true (aC 40 2 true (aC 41 2 true (aC 42 2 true ?_)))));refine c9 (aA 43 (.call {callee:=.value (.func 132),args:=#[(.tmp 41),(.tmp 42)],argTypes:=#[52,52]}) 2 true) rfl rfl hR.ext ?_;refine aC 44 2 true ?_;refine gl 45 36 44 ?_;refine aD 33 45 ?_;refine ai.nil (gD 33 (bk (bS (bS (aq [af 0,af 1] ?_)))));refine bZ 46 3 10 1 (ah 10 46 (ai.nil ?_));replace hT:=((((hT.t s_1).t s_2).t aH).t aV).t bq;replace hl:=((((hl.t s_1).t s_2).t aH).t aV).t bq;replace hF:=((hF.st aH).st aV).st bq;refine kp (ak 0 (ak 8 (ak 9 (aL 10 rfl (eq_int (by simp)) (aY _))))) (cn (i+1,dM) _ ⟨(by first|omega|(simp only;omega)),(Dn h0 (AH hil hc hv (λh0=>absurd h0 (by omega)))),hF,hT,hl⟩ (by first|omega|(simp only;omega)))
 have hil:i=l.length:=by omega
 refine cA 0 ?_;refine aj (aq [af 0] ?_);refine aR 2 (.int .i64 0) (ai.nil ?_);refine bN Tryz.func93 Tryz.results93 ?_;exact⟨congrArg (Value.int .i64) (by unfold lD;rw[if_neg hlim,yJ (by rw[<-hil];exact h0)]),hT.bW (by decide)⟩
namespace Bn
def c0:=cz Tryz.f85
def nt:=(cl (aJ (cl (aJ (aJ c0)))))
def lu:=(cl (cl (cl (aJ (cl nt)))))
def mc:=dy (cl lu)
def Bo:=(aJ (cl (cl (aJ (cl nt)))))
def mg:=dy (cl (aJ Bo))
end Bn
theorem VE {w₀:World} {C:Nat->Nat} {l:List bG} {aF:Value} (hF:aM w₀ C) (hl:aG w₀ (aB C) l aF):Calls Tryz.prog 85 #[aF] w₀ (bM λv w'=>v=.int .i64 (lD l)/\ay [] w₀ C w' C):=by
 have bp:=hF;have hT:=z9 w₀ C;replace hF:=hF.bE;replace hl:=hl.c1;refine ct Bn.c0 56 [aF] Tryz.func85 ?_;show Run _ _ _ _ [(0,aF)] _ _;refine aj (aq [af 0] ?_);refine aR 2 (.int .i64 0) (ai.nil (aj (aj (aq [af 0,af 1,af 2] ?_))));refine ah 4 0 ?_;refine zE 5 4 24 (hl.b8 rfl Tryz.underlying24) ?_;refine ax (au 6 (.binOp .gtr 3 (.tmp 5) (.const (.int .i64 4096)) 3)) (λ_=>fq rfl rfl) ?_;refine ai.nil ?_;refine bI 6 rfl (λh6=>?_) (λh6=>?_)
 ·
  refine aj (aq [af 0] ?_);refine aR 2 (.int .i64 1) (ai.nil ?_);refine bN Tryz.func85 Tryz.results85 ?_;exact⟨congrArg (Value.int .i64) (by unfold lD;rw[if_pos (by omega)]),hT.bW (by decide)⟩
 have hlim:¬4096<l.length:=by omega
 refine bk (aj (aj (aq [af 0] ?_)));refine aR 3 (.int .i64 0) ?_;refine ai.nil (bF 0 ?_);refine cM (ι:=Nat×(Nat->Nat)) (I:=λx w=>x.1<=l.length/\(∀k,k<x.1->p8 l k=0)/\aM w x.2/\ay [2,3,4,5,6,7,8,9] w₀ (bE C) w x.2/\aG w (aB x.2) l aF) (e:=λx=>[(0,aF),(3,.int .i64 x.1)]) (m:=λx=>l.length-x.1) (cD:=(0,bE C)) (ak 0 (ak 3 (aY _))) ?_ ?_
 · exact⟨Nat.zero_le _,λk hk=>by first|omega|(simp only at hk;omega),hF,hT,hl⟩
 intro⟨i,bC⟩ w1 hI cn;obtain⟨hi,h0,hF,hT,hl⟩:=hI;try simp only at hi h0 hF hT hl
 show Run _ _ _ _ [(0,aF),(3,.int .i64 i)] _ _;have hle:=hl.le;refine aj (aj (aq [af 0,af 1,af 2,af 3] ?_));refine ah 7 3 (ah 8 0 ?_);refine zE 9 8 24 (hl.b8 rfl Tryz.underlying24) ?_;refine dm 10 3 7 9 (ai.nil ?_);refine bI 10 rfl (λjm=>?_) (λjm=>?_)
 ·
  have hil:i<l.length:=by omega
  refine bk (aj (bF 1 (aj (aj ?_))));refine cw (id:=6) (ops:=Bn.mc) [] (bC) [af 0,af 1,af 2,af 3,af 4,af 5,af 6,af 7,af 8,af 9,nn 10,af 11] cm (by kernel_rfl) (by kernel_rfl) (by kernel_rfl) ?_;intro w2 s_1;have hR:=ay.refl [] w2 (bC);replace hl:=hl.t s_1;have iy:=hl;refine ah 13 0 (ah 14 3 ?_);refine cq 52 15 24 13 14 iy rfl (h:=?_);intro Ny DZ gW;try simp only[aI] at gW
  have dK:=bP.oZ gW;refine bD 16 52 15 0 0 ?_;refine cB (au 17 (.load 47 (.tmp 16))) rfl rfl (λw' hS=>dK.bu hS) dK (by kernel_rfl) (by kernel_rfl) rfl rfl ?_;intro v17 g17;have κ:=g17;replace g17:=g17.st hR (by first|decide|(simp<;>omega));obtain rfl:=bY.1 g17;refine ah 18 0 (ah 19 3 ?_);refine cq 52 20 24 18 19 iy rfl (h:=?_);intro Nz NA jT;try simp only[aI] at jT
  have kO:=bP.tK jT;refine bD 21 52 20 1 2 ?_;refine cB (au 22 (.load 47 (.tmp 21))) rfl rfl (λw' hS=>kO.bu hS) kO (by kernel_rfl) (by kernel_rfl) rfl rfl ?_;intro v22 g22;have yL:=g22;replace g22:=g22.st hR (by first|decide|(simp<;>omega));obtain rfl:=bY.1 g22;replace hF:=hF.st s_1;refine dI 23 122 [17,22] [47,47] Tryz.call122 rfl (VB (x:=(l[i]'hil).A) (y:=(l[i]'hil).B) hF) ?_;rintro lq w3 ⟨rfl,s_2⟩;refine⟨(hR.trans s_2 (by simp)).ext,?_⟩;refine ax (au 24 (.unOp .not 4 (.tmp 23))) (λ_=>dF rfl) ?_;refine ai.nil ?_;refine iL 24 rfl (λiT=>?_) (λiT=>?_)
  ·
   have hc:iZ (l[i]'hil).A (l[i]'hil).B=false:=by simpa using iT
   refine aj (aq [af 0] ?_);refine aR 2 (.int .i64 41) (ai.nil ?_);refine bN Tryz.func85 Tryz.results85 ?_;replace hT:=(hT.t s_1).t s_2;exact⟨congrArg (Value.int .i64) (by unfold lD;rw[if_neg hlim,yK h0 hil (LH hil hc) (by decide)]),hT.bW (by decide)⟩
  have hc:iZ (l[i]'hil).A (l[i]'hil).B=true:=by simpa using iT
  refine bk (aj (aj ?_));refine kV 40 (!(iG (l[i]'hil).dJ&&iG (l[i]'hil).bL)) (bC) ?_ ?_
  ·
   intro dn;by_cases hA:iG (l[i]'hil).dJ=true
   ·
    refine aq [af 0,af 1,af 2,af 3,nn 4,nn 5,af 6,af 7,af 8,af 9,af 10,af 11,nn 12,nn 13,af 14,af 15] ?_;replace hF:=hF.st s_2;have hcs:=ay.mJ hF;refine ah 25 0 (ah 26 3 ?_);replace hl:=hl.t s_2;refine cq 52 27 24 25 26 hl rfl (h:=?_);intro Bp vw gq;try simp only[aI] at gq
    have fS:=bP.LD gq;refine bD 28 52 27 2 4 ?_;refine jt (au 29 (.load 3 (.tmp 28))) rfl rfl trivial fS (by kernel_rfl) rfl rfl ?_;intro n9 dR;first|(obtain rfl:=jr.1 dR)|(obtain rfl:=gN.1 dR)
    refine bU 30 123 [29] [3] Tryz.call123 rfl (G8 _ _) ?_;rintro j4 w4 ⟨rfl,rfl⟩;rw[hA];refine ax (au 31 (.unOp .not 4 (.tmp 30))) (λ_=>dF rfl) ?_;refine ah 32 31 ?_;refine aX 33 0 7 false (aX 34 3 7 false ?_);refine iS (e:=52) (aA 35 (.indexAddr 24 (.tmp 33) (.tmp 34)) 7 false) rfl rfl hl rfl (by kernel_rfl) rfl (by omega) (by omega) ?_;intro Bm wX jB;try simp only[aI] at jB
    have iz:=bP.Tm jB;refine cW 36 52 35 3 5 7 false ?_;refine jt (aA 37 (.load 3 (.tmp 36)) 7 false) rfl rfl trivial iz (by kernel_rfl) rfl rfl ?_;intro v37 mu;first|(obtain rfl:=jr.1 mu)|(obtain rfl:=gN.1 mu)
    refine dY (aA 38 (.call {callee:=.value (.func 123),args:=#[(.tmp 37)],argTypes:=#[3]}) 7 false) rfl rfl (cL Tryz.call123 rfl) (G8 _ _) ?_;rintro ox ew ⟨rfl,rfl⟩;refine ax (aA 39 (.unOp .not 4 (.tmp 38)) 7 false) (λ_=>dF rfl) ?_;refine eo 40 32 39 ?_;exact ai.nil (dn _ _ _ hcs rfl (by rw[hA];simp) (ec 16))
   refine aq [af 0,af 1,af 2,af 3,nn 4,nn 5,af 6,af 7,af 8,af 9,af 10,af 11,nn 12,nn 13,af 14,af 15] ?_;replace hF:=hF.st s_2;have hcs:=ay.mJ hF;refine ah 25 0 (ah 26 3 ?_);replace hl:=hl.t s_2;refine cq 52 27 24 25 26 hl rfl (h:=?_);intro Bp vw gq;try simp only[aI] at gq
   have fS:=bP.LD gq;refine bD 28 52 27 2 4 ?_;refine jt (au 29 (.load 3 (.tmp 28))) rfl rfl trivial fS (by kernel_rfl) rfl rfl ?_;intro n9 dR;first|(obtain rfl:=jr.1 dR)|(obtain rfl:=gN.1 dR)
   refine bU 30 123 [29] [3] Tryz.call123 rfl (G8 _ _) ?_;rintro mh fh ⟨rfl,rfl⟩;rw[Bool.eq_false_iff.2 hA];refine ax (au 31 (.unOp .not 4 (.tmp 30))) (λ_=>dF rfl) ?_;refine ah 32 31 ?_;refine aC 33 7 false (aC 34 7 false (aC 35 7 false (aC 36 7 false ?_)));refine c9 (aA 37 (.load 3 (.tmp 36)) 7 false) rfl rfl trivial ?_;refine c9 (aA 38 (.call {callee:=.value (.func 123),args:=#[(.tmp 37)],argTypes:=#[3]}) 7 false) rfl rfl trivial ?_;refine aC 39 7 false ?_;refine iM 40 32 39 ?_;exact ai.nil (dn _ _ _ hcs rfl (by rw[Bool.eq_false_iff.2 hA];simp) (ec 16))
  intro w7 aH;refine iL 40 rfl (λgG=>?_) (λgG=>?_)
  ·
   have hv: (iG (l[i]'hil).dJ&&iG (l[i]'hil).bL)=false:=by rw[Bool.not_eq_true'] at gG;exact gG
   refine aj (aq [af 0] ?_);refine aR 2 (.int .i64 42) (ai.nil ?_);refine bN Tryz.func85 Tryz.results85 ?_;replace hT:=((hT.t s_1).t s_2).t aH;exact⟨congrArg (Value.int .i64) (by unfold lD;rw[if_neg hlim,yK h0 hil (LI hil hc hv) (by decide)]),hT.bW (by decide)⟩
  have hv: (iG (l[i]'hil).dJ&&iG (l[i]'hil).bL)=true:=by rw[Bool.not_eq_false'] at gG;exact gG
  refine bk (aj ?_);by_cases hA: (0:Int)<i
  ·
   refine cw (id:=10) (ops:=Bn.mg) [] (bC) [af 0,af 1,af 2,af 3,af 4,af 5,af 6,af 7,af 8,af 9,af 10,af 11,nn 12,af 13,af 14] cm (by kernel_rfl) (by kernel_rfl) (by kernel_rfl) ?_;intro fR aV;have hR:=ay.refl [] fR (bC);replace hl:=((hl.t s_2).t aH).t aV;have iy:=hl;refine ah 41 3 ?_;refine ax (au 42 (.binOp .gtr 3 (.tmp 41) (.const (.int .i64 0)) 3)) (λ_=>dc (fq rfl rfl) hA) ?_;refine ah 43 42 ?_;refine aX 44 0 2 true (aX 45 3 2 true ?_);refine ax (aA 46 (.binOp .sub 3 (.tmp 45) (.const (.int .i64 1)) 3) 2 true) (λ_=>fu rfl rfl (by omega) (by omega)) ?_;refine iS (e:=52) (aA 47 (.indexAddr 24 (.tmp 44) (.tmp 46)) 2 true) rfl rfl iy rfl (by kernel_rfl) rfl (by omega) (by omega) ?_;intro Bq Br k6;try simp only[aI] at k6
   refine cB (aA 48 (.load 52 (.tmp 47)) 2 true) rfl rfl (λw' hS=>k6.bu hS) k6 (by kernel_rfl) (by kernel_rfl) rfl rfl ?_;intro y9 jU;have y_:=jU;replace jU:=jU.st hR (by first|decide|(simp<;>omega));have ki: ((i:Int)-1).toNat=i-1:=by omega
   simp only[ki] at jU;obtain rfl:=tJ.1 jU;refine aX 49 0 2 true (aX 50 3 2 true ?_);refine iS (e:=52) (aA 51 (.indexAddr 24 (.tmp 49) (.tmp 50)) 2 true) rfl rfl iy rfl (by kernel_rfl) rfl (by omega) (by omega) ?_;intro G9 G_ qL;try simp only[aI] at qL
   refine cB (aA 52 (.load 52 (.tmp 51)) 2 true) rfl rfl (λw' hS=>qL.bu hS) qL (by kernel_rfl) (by kernel_rfl) rfl rfl ?_;intro tV iV;have bx:=iV;replace iV:=iV.st hR (by first|decide|(simp<;>omega));obtain rfl:=tJ.1 iV;replace hF:=((hF.st s_2).st aH).st aV;refine gO (aA 53 (.call {callee:=.value (.func 124),args:=#[(.tmp 48),(.tmp 52)],argTypes:=#[52,52]}) 2 true) rfl rfl (cL Tryz.call124 rfl) (VD (y:=(l[i]'hil)) hF) ?_;rintro wB gC ⟨rfl,aQ⟩;refine⟨(hR.trans aQ (by simp)).ext,?_⟩;refine ax (aA 54 (.binOp .geq 3 (.tmp 53) (.const (.int .i64 0)) 3) 2 true) (λ_=>e6 rfl rfl) ?_;refine en 55 43 54 ?_;refine ai.nil ?_;refine bI 55 rfl (λmV=>?_) (λmV=>?_)
   ·
    refine aj (aq [af 0] ?_);refine aR 2 (.int .i64 12) (ai.nil ?_);refine bN Tryz.func85 Tryz.results85 ?_;replace hT:=((((hT.t s_1).t s_2).t aH).t aV).t aQ;exact⟨congrArg (Value.int .i64) (by unfold lD;rw[if_neg hlim,yK h0 hil (LJ hil hc hv (by omega) (by omega)) (by decide)]),hT.bW (by decide)⟩
   refine bk (bS (aq [af 0,af 1,af 2] ?_));refine ah 11 3 ?_;refine bZ 12 3 11 1 (aD 3 12 (ai.nil ?_));replace hT:=((((hT.t s_1).t s_2).t aH).t aV).t aQ;replace hF:=hF.st aQ;replace hl:=hl.t aQ;refine kp (ak 0 (aL 3 rfl (eq_int (by simp)) (aY _))) (cn (i+1,bC) _ ⟨(by first|omega|(simp only;omega)),(Dn h0 (AH hil hc hv (λh0=>by omega))),hF,hT,hl⟩ (by first|omega|(simp only;omega)))
  refine cw (id:=10) (ops:=Bn.mg) [] (bC) [af 0,af 1,af 2,af 3,af 4,af 5,af 6,af 7,af 8,af 9,af 10,af 11,nn 12,af 13,af 14] cm (by kernel_rfl) (by kernel_rfl) (by kernel_rfl) ?_;intro iD bh;have hR:=ay.refl [] iD (bC);replace hl:=((hl.t s_2).t aH).t bh;have iy:=hl;refine ah 41 3 ?_;refine ax (au 42 (.binOp .gtr 3 (.tmp 41) (.const (.int .i64 0)) 3)) (λ_=>di (fq rfl rfl) hA) ?_;refine ah 43 42 ?_;refine aC 44 2 true (aC 45 2 true (aC 46 2 true (aC 47 2 true (aC 48 2 true (aC 49 2 true (aC 50 2 true (aC 51 2 true (aC 52 2 true ?_))))))));refine c9 (aA 53 (.call {callee:=.value (.func 124),args:=#[(.tmp 48),(.tmp 52)],argTypes:=#[52,52]}) 2 true) rfl rfl hR.ext ?_;refine aC 54 2 true ?_;refine gl 55 43 54 ?_;refine ai.nil (gD 55 (bk (bS (aq [af 0,af 1,af 2] ?_))));refine ah 11 3 ?_;refine bZ 12 3 11 1 (aD 3 12 (ai.nil ?_));replace hT:=(((hT.t s_1).t s_2).t aH).t bh;replace hF:=((hF.st s_2).st aH).st bh;refine kp (ak 0 (aL 3 rfl (eq_int (by simp)) (aY _))) (cn (i+1,bC) _ ⟨(by first|omega|(simp only;omega)),(Dn h0 (AH hil hc hv (λh0=>absurd h0 (by omega)))),hF,hT,hl⟩ (by first|omega|(simp only;omega)))
 have hil:i=l.length:=by omega
 refine cA 0 ?_;refine aj (aq [af 0] ?_);refine aR 2 (.int .i64 0) (ai.nil ?_);refine bN Tryz.func85 Tryz.results85 ?_;exact⟨congrArg (Value.int .i64) (by unfold lD;rw[if_neg hlim,yJ (by rw[<-hil];exact h0)]),hT.bW (by decide)⟩
theorem VF {l:List bG} (hm:l.length<=4096) (hO:∀i (h:i<l.length),rG l[i]) (lV:∀i (h:i+1<l.length),lC l[i] l[i+1]<0):lD l=0:=by
 unfold lD;rw[if_neg (by omega),yJ (λk hk=>?_)];have h:=hO k hk;unfold rG at h;refine AH hk h.1 (by rw[h.2.1,h.2.2];rfl) (λh0=>?_);have:=lV (k-1) (by omega);simp only[show k-1+1=k from by omega] at this;exact this
theorem VG {w₀:World} {C:Nat->Nat} {l:List bG} {aF:Value} (hF:aM w₀ C) (hl:aG w₀ (aB C) l aF) (hm:l.length<=4096) (hO:∀i (h:i<l.length),rG l[i]) (lV:∀i (h:i+1<l.length),lC l[i] l[i+1]<0):Calls Tryz.prog 93 #[aF] w₀ (bM λv w'=>v=.int .i64 0/\ay [] w₀ C w' C):=
 (Nx hF hl).mono (bM.mono λv w' ⟨e,h⟩=>⟨by rw[e,VF hm hO lV],h⟩)
end
end Go.Proofs.YtdmgmlmlielfbaaGreat
