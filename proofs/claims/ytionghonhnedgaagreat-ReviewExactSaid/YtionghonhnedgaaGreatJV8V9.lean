/- Steps through functions of the program. -/
import Derived.Test.YtionghonhnedgaaGreatJV5V7
import Derived.Test.YtionghonhnedgaaGreatL1
set_option linter.unusedVariables false
set_option linter.unusedSimpArgs false
set_option maxRecDepth 100000
set_option maxHeartbeats 4000000
namespace Go.Proofs.YtionghonhnedgaaGreat
open Go.K Go.K.bF
noncomputable section
namespace JL
def c0:=dL Tryz.f115
end JL
theorem Qj (x y:Int) (w:World):Calls Tryz.prog 115 #[.int .i64 x,.int .i64 y] w (bW λv w'=>v=.bool (decide (x<y))/\w'=w):=by
 refine cM JL.c0 17 [.int .i64 x,.int .i64 y] Tryz.func115 ?_;show Run _ _ _ _ [(0,.int .i64 x),(1,.int .i64 y)] _ _;refine aj (aq [af 0] ?_);refine aO 4 (.bool false) (ai.nil (aj (aq [af 0,nn 1,af 2,af 3,nn 4,af 5,af 6,af 7,af 8,af 9,af 10,af 11,af 12] ?_)));refine ah 5 0 ?_;refine cE 6 107 [5] [3] Tryz.call107 rfl (E7 _ _) ?_;rintro nc w1 ⟨rfl,rfl⟩;refine ah 7 6 ?_;refine aG 8 2 true ?_;refine bN (ax 9 (.call {callee:=.value (.func 107),args:=#[(.tmp 8)],argTypes:=#[3]}) 2 true) rfl rfl trivial ?_;refine aG 10 2 true ?_;refine fT 11 7 10 ?_;refine ah 12 11 ?_;refine dI 13 0 7 false (dI 14 1 7 false ?_);refine au (ax 15 (.binOp .lss 3 (.tmp 13) (.tmp 14) 3) 7 false) (λ_=>dV rfl rfl) ?_;refine de 16 12 15 ?_;refine aJ 4 16 (ai.nil ?_);refine cq Tryz.func115 Tryz.results115 ?_;exact⟨rfl,rfl⟩
namespace Bd
def c0:=dL Tryz.f109
def A8:=(cl (aZ (cl (cl (aZ c0)))))
def A9:=(cl (cl (cl (aZ (cl A8)))))
def qY:=fG (cl A9)
def Fw:=(aZ (cl (cl (aZ (cl A8)))))
def qp:=fG (cl (cl Fw))
end Bd
theorem Qk {w₀:World} {C:Nat->Nat} {j a b:Nat} {v:Value} {ys:List Int} (hF:bA w₀ C) (hj:j≠0) (ho:cC w₀ C j 3 v ys) (hab:a<=b) (hb:b<=ys.length) (hlen:ys.length<=140737488355328):
    Calls Tryz.prog 109 #[v,.int .i64 a,.int .i64 b] w₀ (bW λu w'=>u=.tuple #[]/\∃zs σ,nZ ys σ zs/\jZ σ a b/\tv (iK gn ys) σ a b/\aH [j] w₀ C w' C/\cC w' C j 3 v zs/\bA w' C):=by
 have hT:=aH.refl [j] w₀ C;refine cM Bd.c0 49 [v,.int .i64 a,.int .i64 b] Tryz.func109 ?_;show Run _ _ _ _ [(0,v),(1,.int .i64 a),(2,.int .i64 b)] _ _;refine aj (aq [af 0,af 1,af 2] ?_);refine ah 8 1 ?_;refine eG 9 3 8 1 (aJ 6 9 ?_);refine ai.nil (dm 0 ?_);refine fD (ι:=Nat×(List Int)×(Nat->Nat)) (I:=λx w=>a+1<=x.1/\x.1<=max (a+1) b/\nZ ys x.2.2 x.2.1/\jZ x.2.2 a x.1/\tv (iK gn ys) x.2.2 a x.1/\bA w C/\aH [j] w₀ C w C/\cC w C j 3 v x.2.1) (e:=λx=>[(0,v),(1,.int .i64 a),(2,.int .i64 b),(6,.int .i64 x.1)]) (m:=λx=>b-x.1) (eZ:=(a+1,ys,λi=>i)) (ak 0 (ak 1 (ak 2 (cA 6 rfl (eq_int (by simp)) (b6 _))))) ?_ ?_
 · exact⟨Nat.le_refl _,by omega,nZ.id ys,jZ.id _ _,λp q h1 h2 h3=>by omega,hF,hT,ho⟩
 intro⟨i,zs,σ⟩ w1 hI dW;obtain⟨hi1,hi2,j0,qZ,sP,hF,hT,ho⟩:=hI;try simp only at hi1 hi2 j0 qZ sP hF hT ho
 show Run _ _ _ _ [(0,v),(1,.int .i64 a),(2,.int .i64 b),(6,.int .i64 i)] _ _;have hzl:=j0.len;refine aj (aj (aq [af 0,af 1,af 2] ?_));refine ah 10 6 (ah 11 2 ?_);refine fM 12 3 10 11 (ai.nil ?_);refine cV 12 rfl (λh12=>?_) (λh12=>?_)
 ·
  have hib:i<b:=by omega
  have hil:i<ys.length:=by omega
  refine bK (aj (dm 1 (aj (aq [af 0,af 1] ?_))));refine ah 15 6 (aJ 7 15 ?_);refine ai.nil (dm 2 ?_);refine fD (ι:=Nat×(List Int)×(Nat->Nat)) (I:=λx w=>nZ ys x.2.2 x.2.1/\pR gn ys x.2.2 a i x.1/\bA w C/\aH [j] w₀ C w C/\cC w C j 3 v x.2.1) (e:=λx=>[(0,v),(1,.int .i64 a),(2,.int .i64 b),(6,.int .i64 i),(7,.int .i64 x.1)]) (m:=λx=>x.1) (eZ:=(i,zs,σ)) (ak 0 (ak 1 (ak 2 (ak 6 (ak 7 (b6 _)))))) ?_ ?_
  · exact⟨j0,pR.start qZ (by omega) sP,hF,hT,ho⟩
  intro⟨q,zs,σ⟩ w2 hI ko;obtain⟨j0,hI,hF,hT,ho⟩:=hI;try simp only at j0 hI hF hT ho
  show Run _ _ _ _ [(0,v),(1,.int .i64 a),(2,.int .i64 b),(6,.int .i64 i),(7,.int .i64 q)] _ _;have hzl:=j0.len;have hle:=hI.le;refine aj (aj ?_);by_cases hA: (a:Int)<q
  ·
   refine eU (id:=4) (ops:=Bd.qY) [] (C) [af 0,af 1,af 2,af 3,af 4,af 5,af 6,af 7,af 8,af 9,af 10,af 11,af 12,nn 13,af 14] eD (by kernel_rfl) (by kernel_rfl) (by kernel_rfl) ?_;intro w3 s_1;have hR:=aH.refl [] w3 (C);refine ah 16 7 (ah 17 1 ?_);refine au (kq 18 (.binOp .gtr 3 (.tmp 16) (.tmp 17) 3)) (λ_=>eE (eL rfl rfl) hA) ?_;refine ah 19 18 ?_;refine dI 20 0 3 true (dI 21 7 3 true ?_);replace ho:=ho.t s_1;refine sH (e':=3) (ax 22 (.indexAddr 22 (.tmp 20) (.tmp 21)) 3 true) rfl rfl ho rfl (by kernel_rfl) rfl (by omega) (by first|omega|(simp only[List.length_set];omega)) ?_;intro g22 JM;try simp only[b_]
   refine wH (I:=[]) (ax 23 (.load 3 (.tmp 22)) 3 true) rfl rfl ho JM (λw' hS=>ho.cR JM hS) (by first|omega|(simp only[List.length_set];omega)) (by kernel_rfl) rfl rfl ?_;intro v23 g23;try simp only[b_] at g23
   first|(obtain rfl:=fu.1 g23)|(obtain rfl:=eo.1 g23)
   refine dI 24 0 3 true (dI 25 7 3 true ?_);refine au (ax 26 (.binOp .sub 3 (.tmp 25) (.const (.int .i64 1)) 3) 3 true) (λ_=>jo rfl rfl (by omega) (by omega)) ?_;refine sH (e':=3) (ax 27 (.indexAddr 22 (.tmp 24) (.tmp 26)) 3 true) rfl rfl ho rfl (by kernel_rfl) rfl (by omega) (by first|omega|(simp only[List.length_set];omega)) ?_;intro WY JN;try simp only[b_]
   refine wH (I:=[]) (ax 28 (.load 3 (.tmp 27)) 3 true) rfl rfl ho JN (λw' hS=>ho.cR JN hS) (by first|omega|(simp only[List.length_set];omega)) (by kernel_rfl) rfl rfl ?_;intro v28 xm;try simp only[b_] at xm
   first|(obtain rfl:=fu.1 xm)|(obtain rfl:=eo.1 xm)
   have nP: ((q:Int)-1).toNat=q-1:=by omega
   try simp only[nP]
   refine jy (ax 29 (.call {callee:=.value (.func 115),args:=#[(.tmp 23),(.tmp 28)],argTypes:=#[3,3]}) 3 true) rfl rfl (dn Tryz.call115 rfl) (Qj _ _ _) ?_;rintro ng w4 ⟨rfl,rfl⟩;refine⟨hR.ext,?_⟩;refine eR 30 19 29 ?_;refine ai.nil ?_;refine cV 30 rfl (λur=>?_) (λur=>?_)
   ·
    have uo:=(hI.ord yR (λx _=>trivial) j0 (by omega) hil (by omega) (by omega)).2 (sK.2 ur);refine bK (aj (dm 3 ?_));refine AL (id:=6) (ops:=Bd.qp) [j] (C) 17 (.fork [0,1,2,3,4,5,6,7,8,10,11,12] 9 (.run [nn 13,af 14,nn 15,af 16,nn 17]) 13 (.run [nn 9,af 14,nn 15,af 16,nn 17])) eD (by kernel_rfl) (by kernel_rfl) (by kernel_rfl) ?_;intro fQ s_2;have hR:=aH.refl [j] fQ (C);refine qQ ?_;show bO _ _ _ _ _ [af 0,af 1,af 2,af 3,af 4,af 5,af 6,af 7,af 8,af 10,af 11,af 12] _ _;refine ah 33 0 (ah 34 7 (ah 35 0 (ah 36 7 ?_)));refine au (kq 37 (.binOp .sub 3 (.tmp 36) (.const (.int .i64 1)) 3)) (λ_=>jo rfl rfl (by omega) (by omega)) ?_;refine ah 38 0 (ah 39 7 ?_);refine au (kq 40 (.binOp .sub 3 (.tmp 39) (.const (.int .i64 1)) 3)) (λ_=>jo rfl rfl (by omega) (by omega)) ?_;replace ho:=ho.t s_2;refine ki 3 41 22 38 40 ho rfl (by first|omega|(simp only[List.length_set];omega)) (h:=?_);intro uu C4;try simp only[b_]
    refine ah 43 0 (ah 44 7 ?_);refine ki 3 45 22 43 44 ho rfl (by first|omega|(simp only[List.length_set];omega)) (h:=?_);intro Qa A_;try simp only[b_]
    refine qR ?_ ?_
    ·
     show bO _ _ _ _ _ [nn 9] _ _;refine AB (kq 42 (.load 3 (.tmp 41))) rfl rfl hR.ext ho C4 (by first|omega|(simp only[List.length_set];omega)) (by kernel_rfl) rfl rfl ?_;intro y_ mQ;try simp only[b_] at mQ
     first|(obtain rfl:=fu.1 mQ)|(obtain rfl:=eo.1 mQ)
     have nP: ((q:Int)-1).toNat=q-1:=by omega
     try simp only[nP]
     refine ja hR.ext ?_;refine mO ?_;show bO _ _ _ _ _ [nn 13,af 14,nn 15,af 16,nn 17] _ _;refine AB (kq 46 (.load 3 (.tmp 45))) rfl rfl hR.ext ho A_ (by first|omega|(simp only[List.length_set];omega)) (by kernel_rfl) rfl rfl ?_;intro v46 pZ;try simp only[b_] at pZ
     first|(obtain rfl:=fu.1 pZ)|(obtain rfl:=eo.1 pZ)
     refine ki 3 47 22 33 34 ho rfl (by first|omega|(simp only[List.length_set];omega)) (h:=?_);intro wZ Fz;try simp only[b_]
     refine iZ (k0 (.store 3 (.tmp 47) (.tmp 42))) rfl (qJ ho Fz (by first|omega|(simp only[List.length_set];omega)) rfl rfl (by kernel_rfl) (eo.2 rfl)) ?_;rintro _ gx ⟨rfl,ay,ho⟩;refine⟨(hR.trans ay (by simp)).ext,?_⟩;replace hT:=(hT.t s_1).t s_2;replace hT:=hT.trans ay (by simp<;>omega);replace hR:=hR.trans ay (by simp<;>omega);refine ki 3 48 22 35 37 ho rfl (by first|omega|(simp only[List.length_set];omega)) (h:=?_);intro qT FA;try simp only[b_]
     refine ai.free rfl ?_;refine dD (k0 (.store 3 (.tmp 48) (.tmp 46))) rfl (qJ ho FA (by first|omega|(simp only[List.length_set];omega)) rfl rfl (by kernel_rfl) (eo.2 rfl)) ?_;rintro _ w7 ⟨rfl,aC,ho⟩;replace hT:=hT.trans aC (by simp<;>omega);refine ai.nil (dZ (aq [af 0,af 1,af 2] ?_));refine ah 31 7 ?_;refine au (kq 32 (.binOp .sub 3 (.tmp 31) (.const (.int .i64 1)) 3)) (λ_=>jo rfl rfl (by omega) (by omega)) ?_;refine aJ 7 32 (ai.nil ?_);try simp only[show((q:Int)-1).toNat=q-1 from by omega,b_] at ho
     replace hF:=(((hF.st s_1).st s_2).st ay).st aC;refine kp (ak 0 (ak 1 (ak 2 (ak 6 (cA 7 rfl (eq_int (by simp only;omega)) (b6 _)))))) (ko (q-1,((zs.set q (zs[q-1]'(by omega))).set (q-1) (zs[q]'(by omega))),(ov σ q (q-1))) _ ⟨(j0.swap (by omega) (by omega) rfl rfl),(hI.step (by omega) uo),hF,hT,ho⟩ (by first|omega|(simp only;omega)))
    show bO _ _ _ _ _ [nn 13] _ _;refine AB (kq 46 (.load 3 (.tmp 45))) rfl rfl hR.ext ho A_ (by first|omega|(simp only[List.length_set];omega)) (by kernel_rfl) rfl rfl ?_;intro v46 pZ;try simp only[b_] at pZ
    first|(obtain rfl:=fu.1 pZ)|(obtain rfl:=eo.1 pZ)
    refine ja hR.ext ?_;refine mO ?_;show bO _ _ _ _ _ [nn 9,af 14,nn 15,af 16,nn 17] _ _;refine AB (kq 42 (.load 3 (.tmp 41))) rfl rfl hR.ext ho C4 (by first|omega|(simp only[List.length_set];omega)) (by kernel_rfl) rfl rfl ?_;intro y_ mQ;try simp only[b_] at mQ
    first|(obtain rfl:=fu.1 mQ)|(obtain rfl:=eo.1 mQ)
    have nP: ((q:Int)-1).toNat=q-1:=by omega
    try simp only[nP]
    refine ki 3 47 22 33 34 ho rfl (by first|omega|(simp only[List.length_set];omega)) (h:=?_);intro wZ Fz;try simp only[b_]
    refine iZ (k0 (.store 3 (.tmp 47) (.tmp 42))) rfl (qJ ho Fz (by first|omega|(simp only[List.length_set];omega)) rfl rfl (by kernel_rfl) (eo.2 rfl)) ?_;rintro _ h_ ⟨rfl,aB,ho⟩;refine⟨(hR.trans aB (by simp)).ext,?_⟩;replace hT:=(hT.t s_1).t s_2;replace hT:=hT.trans aB (by simp<;>omega);replace hR:=hR.trans aB (by simp<;>omega);refine ki 3 48 22 35 37 ho rfl (by first|omega|(simp only[List.length_set];omega)) (h:=?_);intro qT FA;try simp only[b_]
    refine ai.free rfl ?_;refine dD (k0 (.store 3 (.tmp 48) (.tmp 46))) rfl (qJ ho FA (by first|omega|(simp only[List.length_set];omega)) rfl rfl (by kernel_rfl) (eo.2 rfl)) ?_;rintro _ jF ⟨rfl,aD,ho⟩;replace hT:=hT.trans aD (by simp<;>omega);refine ai.nil (dZ (aq [af 0,af 1,af 2] ?_));refine ah 31 7 ?_;refine au (kq 32 (.binOp .sub 3 (.tmp 31) (.const (.int .i64 1)) 3)) (λ_=>jo rfl rfl (by omega) (by omega)) ?_;refine aJ 7 32 (ai.nil ?_);try simp only[show((q:Int)-1).toNat=q-1 from by omega,b_] at ho
    replace hF:=(((hF.st s_1).st s_2).st aB).st aD;refine kp (ak 0 (ak 1 (ak 2 (ak 6 (cA 7 rfl (eq_int (by simp only;omega)) (b6 _)))))) (ko (q-1,((zs.set q (zs[q-1]'(by omega))).set (q-1) (zs[q]'(by omega))),(ov σ q (q-1))) _ ⟨(j0.swap (by omega) (by omega) rfl rfl),(hI.step (by omega) uo),hF,hT,ho⟩ (by first|omega|(simp only;omega)))
   have uo:q=a\/¬iK gn ys i (σ (q-1)):=.inr (λe=>ur (sK.1 ((hI.ord yR (λx _=>trivial) j0 (by omega) hil (by omega) (by omega)).1 e)));refine fq 2 ?_;refine dZ (aq [af 0,af 1,af 2] ?_);refine ah 13 6 ?_;refine eG 14 3 13 1 (aJ 6 14 (ai.nil ?_));have xl:q=a\/¬iK gn ys i (σ (q-1)):=uo;obtain⟨vB,ha2⟩:=hI.done yR (λx _=>trivial) hil xl;replace hF:=hF.st s_1;replace hT:=hT.t s_1;refine kp (ak 0 (ak 1 (ak 2 (cA 6 rfl (eq_int (by simp)) (b6 _))))) (dW (i+1,zs,σ) _ ⟨(by first|omega|(simp only;omega)),(by first|omega|(simp only;omega)),(by first|omega|(simp only;omega)),vB,ha2,hF,hT,ho⟩ (by first|omega|(simp only;omega)))
  refine eU (id:=4) (ops:=Bd.qY) [] (C) [af 0,af 1,af 2,af 3,af 4,af 5,af 6,af 7,af 8,af 9,af 10,af 11,af 12,nn 13,af 14] eD (by kernel_rfl) (by kernel_rfl) (by kernel_rfl) ?_;intro jG bp;have hR:=aH.refl [] jG (C);refine ah 16 7 (ah 17 1 ?_);refine au (kq 18 (.binOp .gtr 3 (.tmp 16) (.tmp 17) 3)) (λ_=>dN (eL rfl rfl) hA) ?_;refine ah 19 18 ?_;refine aG 20 3 true (aG 21 3 true (aG 22 3 true (aG 23 3 true (aG 24 3 true (aG 25 3 true (aG 26 3 true (aG 27 3 true (aG 28 3 true ?_))))))));refine bN (ax 29 (.call {callee:=.value (.func 115),args:=#[(.tmp 23),(.tmp 28)],argTypes:=#[3,3]}) 3 true) rfl rfl hR.ext ?_;refine fT 30 19 29 ?_;refine ai.nil (fe 30 (fq 2 ?_));refine dZ (aq [af 0,af 1,af 2] ?_);refine ah 13 6 ?_;refine eG 14 3 13 1 (aJ 6 14 (ai.nil ?_));have xl:q=a\/¬iK gn ys i (σ (q-1)):=.inl (by omega);obtain⟨vB,ha2⟩:=hI.done yR (λx _=>trivial) hil xl;replace hF:=hF.st bp;replace hT:=hT.t bp;replace ho:=ho.t bp;refine kp (ak 0 (ak 1 (ak 2 (cA 6 rfl (eq_int (by simp)) (b6 _))))) (dW (i+1,zs,σ) _ ⟨(by first|omega|(simp only;omega)),(by first|omega|(simp only;omega)),(by first|omega|(simp only;omega)),vB,ha2,hF,hT,ho⟩ (by first|omega|(simp only;omega)))
 have hib:b<=i:=by omega
 refine fq 0 ?_;refine AF Tryz.func109 rfl ?_;refine⟨rfl,zs,σ,j0,?_,?_,hT,ho,hF⟩
 · by_cases e:i=a+1
   · subst e;exact qZ.thin hab
   rw[show b=i by omega];exact qZ
 exact λp q h1 h2 h3=>sP p q h1 h2 (by omega)
namespace JO
def c0:=dL Tryz.f88
end JO
theorem Ql {w₀:World} {C:Nat->Nat} {j:Nat} {v:Value} {ys:List Int} {m:Int} (hF:bA w₀ C) (hj:j≠0) (ho:cC w₀ C j 3 v ys) (hlen:ys.length<=12):
   Calls Tryz.prog 88 #[v,.int .i64 0,.int .i64 ys.length,.int .i64 m] w₀ (bW λu w'=>u=.tuple #[]/\∃zs,gp gn ys zs/\aH [j] w₀ C w' C/\cC w' C j 3 v zs/\bA w' C):=by
 have hT:=aH.refl [j] w₀ C;refine cM JO.c0 134 [v,.int .i64 0,.int .i64 ys.length,.int .i64 m] Tryz.func88 ?_;show Run _ _ _ _ [(0,v),(1,.int .i64 0),(2,.int .i64 ys.length),(3,.int .i64 m)] _ _;refine aj (aq [af 0] ?_);refine aO 8 (.bool true) (ai.nil (aj (aq [af 0] ?_)));refine aO 9 (.bool true) ?_;refine ai.nil (dm 0 ?_);refine fD (ι:=Nat) (I:=λx w=>bA w C/\aH [j] w₀ C w C/\cC w C j 3 v ys) (e:=λx=>[(0,v),(1,.int .i64 0),(2,.int .i64 ys.length)]) (m:=λx=>0) (eZ:=0) (ak 0 (ak 1 (ak 2 (b6 _)))) ?_ ?_
 ·exact⟨hF,hT,ho⟩
 intro z w1 hI dW;obtain⟨hF,hT,ho⟩:=hI;try simp only at hF hT ho
 show Run _ _ _ _ [(0,v),(1,.int .i64 0),(2,.int .i64 ys.length)] _ _;refine dm 1 (aj (aq [af 0,af 1,af 2,af 3] ?_));refine ah 19 2 (ah 20 1 ?_);refine au (kq 21 (.binOp .sub 3 (.tmp 19) (.tmp 20) 3)) (λ_=>jo rfl rfl (by omega) (by omega)) ?_;refine aJ 10 21 (ai.nil (aj (aj (aq [af 0,af 1] ?_))));refine ah 22 10 ?_;refine au (kq 23 (.binOp .leq 3 (.tmp 22) (.const (.int .i64 12)) 3)) (λ_=>kj (qE rfl rfl) (by omega)) ?_;refine ai.nil (k9 23 (aj (aq [af 0,af 1,af 2,nn 3] ?_)));refine ah 24 0 (ah 25 1 (ah 26 2 ?_));refine cE 27 109 [24,25,26] [22,3,3] Tryz.call109 rfl (Qk (a:=0) (b:=ys.length) hF hj ho (Nat.zero_le _) (Nat.le_refl _) (by omega)) ?_;rintro jc w2 ⟨rfl,zs,σ,j0,qZ,sP,s_1,ho,hF⟩;replace hT:=hT.trans s_1 (by simp<;>omega);refine ai.nil ?_;refine N_ (by kernel_rfl) Tryz.func88 Tryz.results88 ?_;exact⟨rfl,zs,⟨σ,j0,qZ,sP⟩,hT,ho,hF⟩
def Qm:ByteArray:=⟨#[0,1,2,2,3,3,3,3,4,4,4,4,4,4,4,4,5,5,5,5,5,5,5,5,5,5,5,5,5,5,5,5,6,6,6,6,6,6,6,6,6,6,6,6,6,6,6,6,6,6,6,6,6,6,6,6,6,6,6,6,6,6,6,6,7,7,7,7,7,7,7,7,7,7,7,7,7,7,7,7,7,7,7,7,7,7,7,7,7,7,7,7,7,7,7,7,7,7,7,7,7,7,7,7,7,7,7,7,7,7,7,7,7,7,7,7,7,7,7,7,7,7,7,7,7,7,7,7,8,8,8,8,8,8,8,8,8,8,8,8,8,8,8,8,8,8,8,8,8,8,8,8,8,8,8,8,8,8,8,8,8,8,8,8,8,8,8,8,8,8,8,8,8,8,8,8,8,8,8,8,8,8,8,8,8,8,8,8,8,8,8,8,8,8,8,8,8,8,8,8,8,8,8,8,8,8,8,8,8,8,8,8,8,8,8,8,8,8,8,8,8,8,8,8,8,8,8,8,8,8,8,8,8,8,8,8,8,8,8,8,8,8,8,8,8,8,8,8,8,8,8,8,8,8,8,8]⟩
namespace JQ
def c0:=dL Tryz.f119
end JQ
theorem Qn {n:Nat} (hn:n<=12) (w₀:World):Calls Tryz.prog 119 #[.int .u64 n] w₀ (bW λv w'=>(∃m,v=.int .i64 m)/\w'=w₀):=by
 refine cM JQ.c0 25 [.int .u64 n] Tryz.func119 ?_;show Run _ _ _ _ [(0,.int .u64 n)] _ _;refine aj (aq [af 0] ?_);refine aO 2 (.int .i64 0) (ai.nil (aj (aj (aq [af 0,af 1] ?_))));refine ah 3 0 ?_;refine au (kq 4 (.binOp .geq 77 (.tmp 3) (.const (.int .u64 4294967296)) 77)) (λ_=>fU (ga rfl rfl) (by omega)) ?_;refine ai.nil (fe 4 (bK (aj (aj (aq [af 0,af 1] ?_)))));refine ah 7 0 ?_;refine au (kq 8 (.binOp .geq 77 (.tmp 7) (.const (.int .u64 65536)) 77)) (λ_=>fU (ga rfl rfl) (by omega)) ?_;refine ai.nil (fe 8 (bK (aj (aj (aq [af 0,af 1] ?_)))));refine ah 13 0 ?_;refine au (kq 14 (.binOp .geq 77 (.tmp 13) (.const (.int .u64 256)) 77)) (λ_=>fU (ga rfl rfl) (by omega)) ?_;refine ai.nil (fe 14 (bK (aj (aq [af 0,af 1,af 2,af 3,af 4,af 5,af 6] ?_))));refine ah 19 2 (ah 20 0 ?_);refine au (kq 21 (.convert 77 5 (.tmp 20))) (λ_=>Ch (r:=(n:Int)) rfl ⟨_,Tryz.underlying77⟩ Tryz.underlying5 (Pd hn)) ?_;obtain⟨cL,JR⟩:=Pf (s:=Qm) (n:=n) (by show n<256;omega);refine au (kq 22 (.index 9 (.const (.string ⟨#[0,1,2,2,3,3,3,3,4,4,4,4,4,4,4,4,5,5,5,5,5,5,5,5,5,5,5,5,5,5,5,5,6,6,6,6,6,6,6,6,6,6,6,6,6,6,6,6,6,6,6,6,6,6,6,6,6,6,6,6,6,6,6,6,7,7,7,7,7,7,7,7,7,7,7,7,7,7,7,7,7,7,7,7,7,7,7,7,7,7,7,7,7,7,7,7,7,7,7,7,7,7,7,7,7,7,7,7,7,7,7,7,7,7,7,7,7,7,7,7,7,7,7,7,7,7,7,7,8,8,8,8,8,8,8,8,8,8,8,8,8,8,8,8,8,8,8,8,8,8,8,8,8,8,8,8,8,8,8,8,8,8,8,8,8,8,8,8,8,8,8,8,8,8,8,8,8,8,8,8,8,8,8,8,8,8,8,8,8,8,8,8,8,8,8,8,8,8,8,8,8,8,8,8,8,8,8,8,8,8,8,8,8,8,8,8,8,8,8,8,8,8,8,8,8,8,8,8,8,8,8,8,8,8,8,8,8,8,8,8,8,8,8,8,8,8,8,8,8,8,8,8,8,8,8,8]⟩)) (.tmp 21))) (λ_=>Pg rfl rfl Tryz.underlying9 JR) ?_;refine au (kq 23 (.convert 5 3 (.tmp 22))) (λ_=>Cf rfl ⟨_,Tryz.underlying5⟩ Tryz.underlying3) ?_;refine au (kq 24 (.binOp .add 3 (.tmp 19) (.tmp 23) 3)) (λ_=>val_add rfl rfl) ?_;refine aJ 2 24 (ai.nil ?_);refine cq Tryz.func119 Tryz.results119 ?_;exact⟨⟨_,rfl⟩,rfl⟩
namespace JS
def c0:=dL Tryz.f89
end JS
theorem Qo {n:Nat} (hn:n<=12) (w₀:World):Calls Tryz.prog 89 #[.int .u64 n] w₀ (bW λv w'=>(∃m,v=.int .i64 m)/\w'=w₀):=by
 refine cM JS.c0 8 [.int .u64 n] Tryz.func89 ?_;show Run _ _ _ _ [(0,.int .u64 n)] _ _;refine aj (aq [af 0] ?_);refine aO 2 (.int .i64 0) (ai.nil (aj ?_));refine Pj (by kernel_rfl) ?_;refine bK (aj (aq [af 0,nn 1,af 2] ?_));refine ah 6 0 ?_;refine cE 7 119 [6] [77] Tryz.call119 rfl (Qn hn _) ?_;rintro nc w1 ⟨⟨m,rfl⟩,e⟩;obtain rfl:=e.symm;refine aJ 2 7 (ai.nil ?_);refine cq Tryz.func89 Tryz.results89 ?_;exact⟨⟨_,rfl⟩,rfl⟩
namespace JT
def c0:=dL Tryz.f53
end JT
theorem JU {w₀:World} {C:Nat->Nat} {j:Nat} {v:Value} {ys:List Int} (hF:bA w₀ C) (hj:j≠0) (ho:cC w₀ C j 3 v ys) (hlen:ys.length<=12):
  Calls Tryz.prog 53 #[v] w₀ (bW λu w'=>u=.tuple #[]/\∃zs,gp gn ys zs/\aH [j] w₀ C w' C/\cC w' C j 3 v zs/\bA w' C):=by
 have hT:=aH.refl [j] w₀ C;refine cM JT.c0 11 [v] Tryz.func53 ?_;show Run _ _ _ _ [(0,v)] _ _;refine aj (aq [af 0,af 1,af 2] ?_);refine ah 3 0 ?_;refine zE 4 3 22 (ho.cz rfl Tryz.underlying22) ?_;refine aJ 2 4 (ai.nil (aq [af 0,af 1,af 2,af 3,nn 4,nn 5] ?_));refine ah 5 0 (ah 6 2 (ah 7 2 ?_));refine au (kq 8 (.convert 3 73 (.tmp 7))) (λ_=>Ch (r:=(ys.length:Int)) rfl ⟨_,Tryz.underlying3⟩ Tryz.underlying73 (Pe (by omega))) ?_;refine cE 9 89 [8] [73] Tryz.call89 rfl (Qo hlen _) ?_;rintro nc w1 ⟨⟨m,rfl⟩,rfl⟩;refine dS (kq 10 (.call {callee:=.value (.func 88),args:=#[(.tmp 5),(.const (.int .i64 0)),(.tmp 6),(.tmp 9)],argTypes:=#[22,3,3,3]})) rfl rfl (dn Tryz.call88 rfl) (Ql hF hj ho hlen) ?_;rintro jc w2 ⟨rfl,zs,kr,s_1,ho,hF⟩;replace hT:=hT.trans s_1 (by simp<;>omega);refine ai.nil ?_;refine AF Tryz.func53 rfl ?_;exact⟨rfl,zs,kr,hT,ho,hF⟩
end
end Go.Proofs.YtionghonhnedgaaGreat
set_option linter.unusedVariables false
set_option linter.unusedSimpArgs false
set_option maxRecDepth 100000
set_option maxHeartbeats 4000000
namespace Go.Proofs.YtionghonhnedgaaGreat
open Go.K Go.K.bF
noncomputable section
namespace FB
def c0:=dL Tryz.f49
end FB
theorem Qp {w₀:World} {C:Nat->Nat} {lo hh:Int} (hF:bA w₀ C) (hK:wP lo hh):Calls Tryz.prog 49 #[.agg #[.int .i64 lo,.int .i64 hh]] w₀ (bW λv w'=>v=.int .i64 0/\aH [] w₀ C w' C):=by
 have bR:=hF;have hT:=z9 w₀ C;replace hF:=hF.bX;refine cM FB.c0 23 [.agg #[.int .i64 lo,.int .i64 hh]] Tryz.func49 ?_;show Run _ _ _ _ [(0,.agg #[.int .i64 lo,.int .i64 hh])] _ _;refine aj (aq [nn 0,af 1] ?_);refine bD (kq 1 (.box 30 (.tmp 0))) rfl rfl (cW (cs:=[.int .i64 lo,.int .i64 hh]) hF 3 rfl rfl) ?_;rintro _ w1 ⟨d_,ct,rfl,s_1,hx,hF⟩;refine aO 2 (.int .i64 0) (ai.nil (aj (aj (aq [af 0,nn 1,af 2,af 3,af 4,nn 5,af 6,af 7,af 8,af 9,nn 10,af 11,af 12,af 13,af 14,nn 15,af 16,nn 17,af 18,af 19] ?_))));refine aL 3 30 1 1 1 ?_;refine cm 4 3 3 hx.at_ rfl rfl ?_;refine au (kq 5 (.binOp .lss 3 (.tmp 4) (.const (.int .i64 1)) 3)) (λ_=>fU (dV rfl rfl) (by have:=hK.h1;have:=hK.h2;have:=hK.l1;have:=hK.l2;omega)) ?_;refine ah 6 5 ?_;refine bT 7 30 1 1 1 3 false ?_;refine cv 8 3 7 3 false hx.at_ ?_;refine au (ax 9 (.binOp .gtr 3 (.tmp 8) (.const (.int .i64 65536)) 3) 3 false) (λ_=>fU (eL rfl rfl) (by have:=hK.h1;have:=hK.h2;have:=hK.l1;have:=hK.l2;omega)) ?_;refine de 10 6 9 ?_;refine ah 11 10 ?_;refine bT 12 30 1 0 0 8 false ?_;refine cv 13 3 12 8 false hx.at_ ?_;refine au (ax 14 (.binOp .lss 3 (.tmp 13) (.const (.int .i64 (-65536))) 3) 8 false) (λ_=>fU (dV rfl rfl) (by have:=hK.h1;have:=hK.h2;have:=hK.l1;have:=hK.l2;omega)) ?_;refine de 15 11 14 ?_;refine ah 16 15 ?_;refine bT 17 30 1 0 0 13 false ?_;refine cv 18 3 17 13 false hx.at_ ?_;refine bT 19 30 1 1 1 13 false ?_;refine cv 20 3 19 13 false hx.at_ ?_;refine au (ax 21 (.binOp .gtr 3 (.tmp 18) (.tmp 20) 3) 13 false) (λ_=>fU (eL rfl rfl) (by have:=hK.h1;have:=hK.h2;have:=hK.l1;have:=hK.l2;omega)) ?_;refine de 22 16 21 ?_;refine ai.nil (fe 22 (bK (aj (aq [af 0] ?_))));refine aO 2 (.int .i64 0) (ai.nil ?_);refine cq Tryz.func49 Tryz.results49 ?_;replace hT:=hT.t s_1;exact⟨rfl,hT.bV (by decide)⟩
namespace JV
def c0:=dL Tryz.f50
end JV
theorem Qq {w₀:World} {C:Nat->Nat} {lo hh s:Int} (hF:bA w₀ C):Calls Tryz.prog 50 #[.agg #[.int .i64 lo,.int .i64 hh],.int .i64 s] w₀ (bW λv w'=>v=.int .i64 (rM lo hh s)/\aH [] w₀ C w' C):=by
 have bR:=hF;have hT:=z9 w₀ C;replace hF:=hF.bX;refine cM JV.c0 15 [.agg #[.int .i64 lo,.int .i64 hh],.int .i64 s] Tryz.func50 ?_;show Run _ _ _ _ [(0,.agg #[.int .i64 lo,.int .i64 hh]),(1,.int .i64 s)] _ _;refine aj (aq [nn 0,af 1] ?_);refine bD (kq 2 (.box 30 (.tmp 0))) rfl rfl (cW (cs:=[.int .i64 lo,.int .i64 hh]) hF 3 rfl rfl) ?_;rintro _ w1 ⟨d_,ct,rfl,s_1,hx,hF⟩;refine aO 4 (.int .i64 0) ?_;refine ai.nil (aj (dm 0 (aj (aq [af 0,af 1,nn 2,af 3,af 4] ?_))));refine ah 6 1 (aL 7 30 2 1 1 ?_);refine cm 8 3 7 hx.at_ rfl rfl ?_;refine au (kq 9 (.binOp .geq 3 (.tmp 6) (.tmp 8) 3)) (λ_=>ga rfl rfl) ?_;refine aJ 5 9 (ai.nil ?_);refine cV 5 rfl (λh5=>?_) (λh5=>?_)
 ·
  refine aj (aq [af 0] ?_);refine aO 4 (.int .i64 2) (ai.nil ?_);refine cq Tryz.func50 Tryz.results50 ?_;replace hT:=hT.t s_1;exact⟨by unfold rM;rw[if_pos h5],hT.bV (by decide)⟩
 refine aj (aq [af 0,af 1,nn 2,af 3,af 4] ?_);refine ah 11 1 (aL 12 30 2 0 0 ?_);refine cm 13 3 12 hx.at_ rfl rfl ?_;refine au (kq 14 (.binOp .geq 3 (.tmp 11) (.tmp 13) 3)) (λ_=>ga rfl rfl) ?_;refine aJ 10 14 (ai.nil ?_);refine cV 10 rfl (λou=>?_) (λou=>?_)
 ·
  refine aj (aq [af 0] ?_);refine aO 4 (.int .i64 1) (ai.nil ?_);refine cq Tryz.func50 Tryz.results50 ?_;replace hT:=hT.t s_1;exact⟨by unfold rM;rw[if_neg h5,if_pos ou],hT.bV (by decide)⟩
 refine bK (dZ (aj (aq [af 0] ?_)));refine aO 4 (.int .i64 0) (ai.nil ?_);refine cq Tryz.func50 Tryz.results50 ?_;replace hT:=hT.t s_1;exact⟨by unfold rM;rw[if_neg h5,if_neg ou],hT.bV (by decide)⟩
namespace C5
def c0:=dL Tryz.f23
end C5
theorem JW {w₀:World} {C:Nat->Nat} {pr:Int} {av df:List Int} {aI vd:Value} {lo hh:Int} {p:Nat} (hF:bA w₀ C) (hW:gA pr av df) (ha:aF w₀ (aA C) av aI) (hd:aF w₀ (aA C) df vd) (hK:wP lo hh) (hp:p<3^av.length):Calls Tryz.prog 23 #[.agg #[.int .i64 pr,aI,vd],.agg #[.int .i64 lo,.int .i64 hh],.int .i64 p] w₀ (bW λv w'=>∃u fl ok,v=.tuple #[u,.bool ok]/\aH [] w₀ C w' C/\aF w' (aA C) fl u/\sL pr av df lo hh p fl ok):=by
 have bR:=hF;have hT:=z9 w₀ C;replace hF:=hF.bX;replace ha:=ha.c1;replace hd:=hd.c1;refine cM C5.c0 71 [.agg #[.int .i64 pr,aI,vd],.agg #[.int .i64 lo,.int .i64 hh],.int .i64 p] Tryz.func23 ?_;show Run _ _ _ _ [(0,.agg #[.int .i64 pr,aI,vd]),(1,.agg #[.int .i64 lo,.int .i64 hh]),(2,.int .i64 p)] _ _;refine aj (aq [nn 0,nn 1,af 2,af 3] ?_);refine bD (kq 3 (.box 28 (.tmp 0))) rfl rfl (cW (cs:=[.int .i64 pr,aI,vd]) hF 3 rfl rfl) ?_;rintro _ w1 ⟨d_,ct,rfl,s_1,hx,hF⟩;refine bD (kq 4 (.box 30 (.tmp 1))) rfl rfl (cW (cs:=[.int .i64 lo,.int .i64 hh]) hF 4 rfl rfl) ?_;rintro _ w2 ⟨fm,eM,rfl,s_2,hy,hF⟩;refine aO 6 (.slice none 0 0) (aO 7 (.bool false) (ai.nil (aj (aq [nn 0,af 1,nn 2,af 3,af 4,af 5,af 6,af 7] ?_))));replace hx:=hx.t s_2;refine bI 16 28 3 3 ([.int .i64 pr,aI,vd]) hx.at_ ?_;refine ah 17 2 ?_;replace ha:=(ha.t s_1).t s_2;replace hd:=(hd.t s_1).t s_2;refine cE 18 33 [16,17] [28,3] Tryz.call33 rfl (Js hF hW ha hd hp) ?_;rintro mP w3 ⟨rfl,ay⟩;obtain⟨s,hsc⟩:∃s,s=jC pr av df p av.length:=⟨_,rfl⟩
 have hsb:=hW.sc p (Nat.le_refl av.length);rw[<-hsc] at hsb⊢;refine ah 15 18 ?_;refine dY 19 15 0 (dY 20 15 1 (aJ 8 19 (aJ 9 20 (ai.nil (aj (aj (aq [af 0,af 1,af 2,nn 3,nn 4,af 5,af 6,af 7,nn 8,af 9,nn 10,af 11,af 12] ?_)))))));refine ah 21 9 ?_;refine au (kq 22 (.binOp .neq 52 (.tmp 21) (.const (.int .i64 0)) 52)) (λ_=>fU (fc rfl rfl) (by decide)) ?_;refine ah 23 22 ?_;replace hy:=hy.t ay;refine jg 24 30 4 2 false 2 ([.int .i64 lo,.int .i64 hh]) hy.at_ ?_;replace hF:=hF.st ay;refine dS (ax 25 (.call {callee:=.value (.func 49),args:=#[(.tmp 24)],argTypes:=#[30]}) 2 false) rfl rfl (dn Tryz.call49 rfl) (Qp hF hK) ?_;rintro ng w4 ⟨rfl,aC⟩;refine au (ax 26 (.binOp .neq 52 (.tmp 25) (.const (.int .i64 0)) 52) 2 false) (λ_=>fU (fc rfl rfl) (by decide)) ?_;refine de 27 23 26 ?_;refine ah 28 27 ?_;replace hy:=hy.t aC;refine jg 29 30 4 7 false 2 ([.int .i64 lo,.int .i64 hh]) hy.at_ ?_;refine dI 30 8 7 false ?_;replace hF:=hF.st aC;refine dS (ax 31 (.call {callee:=.value (.func 50),args:=#[(.tmp 29),(.tmp 30)],argTypes:=#[30,3]}) 7 false) rfl rfl (dn Tryz.call50 rfl) (Qq hF) ?_;rintro nJ fQ ⟨rfl,aB⟩;refine au (ax 32 (.binOp .neq 3 (.tmp 31) (.const (.int .i64 1)) 3) 7 false) (λ_=>fc rfl rfl) ?_;refine de 33 28 32 ?_;refine ai.nil ?_;refine cV 33 rfl (λjR=>?_) (λjR=>?_)
 ·
  have q_:¬(lo<=s/\s<hh):=λe=>jR (by unfold rM;rw[if_neg (by omega),if_pos e.1]);refine aj (aq [af 0,af 1] ?_);refine aO 6 (.slice none 0 0) (aO 7 (.bool false) (ai.nil ?_));refine gE (by kernel_rfl) Tryz.func23 Tryz.results23 rfl rfl ?_;replace hT:=((((hT.t s_1).t s_2).t ay).t aC).t aB;exact⟨_,[],false,rfl,hT.bV (by decide),fF,.inl ⟨by rw[<-hsc];exact q_,rfl,rfl⟩⟩
 have q_:lo<=s/\s<hh:=by
   apply Classical.byContradiction;intro hn;apply jR;unfold rM;split
   · decide
   split
   · omega
   decide
 refine bK (aj (aq [af 0,af 1,nn 2,af 3,nn 4,af 5,af 6,af 7,af 8,af 9] ?_));refine ah 35 2 (aL 36 28 3 1 1 ?_);replace hx:=((hx.t ay).t aC).t aB;refine cm 37 22 36 hx.at_ rfl rfl ?_;replace ha:=((ha.t ay).t aC).t aB;refine zE 38 37 22 (ha.cz rfl Tryz.underlying22) ?_;replace hF:=hF.st aB;refine cE 39 51 [35,38] [3,3] Tryz.call51 rfl (Jp hF hW.l1 hW.k_ hp) ?_;rintro mw gx ⟨nK,rfl,aD,hg⟩;refine ah 34 39 ?_;refine dY 40 34 0 (dY 41 34 1 (aJ 10 40 (aJ 11 41 (ai.nil (aj (aq [af 0] ?_))))));refine aO 12 (.slice none 0 0) (ai.nil (aj (aj (aq [nn 0,af 1,nn 2,af 3,af 4] ?_))));replace hx:=hx.t aD;refine bI 42 28 3 3 ([.int .i64 pr,aI,vd]) hx.at_ ?_;refine ah 43 10 ?_;replace hd:=(((hd.t ay).t aC).t aB).t aD;replace hF:=hF.st aD;replace ha:=ha.t aD;refine cE 44 52 [42,43] [28,22] Tryz.call52 rfl (Qd hF hW ha hd hg) ?_;rintro pq w7 ⟨bp,q8,kr⟩;obtain⟨gs,hge⟩:∃gs,gs=AP jQ (gF av df p av.length):=⟨_,rfl⟩
 rw[<-hge] at q8 kr;have JH:=kr.len;have Qr:=CH av df p av.length;have FC:=hW.k_;replace hx:=hx.t bp;have zj:∀x∈gs,0<x.b/\x.b<=131072:=λx hx=>by have:=hW.I2 (kr.sub x hx);omega
 refine zE 45 44 95 (q8.cz rfl Tryz.underlying95) ?_;refine mN 46 (.int .i64 0) ?_;refine ai.nil (dm 0 ?_);refine fD (ι:=Nat×Value×(Nat->Nat)) (I:=λx w=>x.1<=gs.length/\(∀j,j<x.1->kF s gs j<hh)/\bA w x.2.2/\aH [2,3,4,5,6,7,8,9] w₀ (bX C) w x.2.2/\aF w (aA x.2.2) gs pq/\ck w x.2.2 4 eM (.cells [.int .i64 lo,.int .i64 hh].toArray 30)/\cC w x.2.2 5 3 x.2.1 ((gs.take x.1).map (λx:dh=>x.a))) (e:=λx=>[(4,.pointer (some ⟨eM,0,none⟩)),(8,.int .i64 (kF s gs x.1)),(12,x.2.1),(44,pq),(45,.int .i64 gs.length),(46,.int .i64 x.1)]) (m:=λx=>gs.length-x.1) (eZ:=(0,.slice none 0 0,fm)) (ak 4 (ak 8 (ak 12 (ak 44 (ak 45 (ak 46 (b6 _))))))) ?_ ?_
 ·
   replace hT:=((((((hT.t s_1).t s_2).t ay).t aC).t aB).t aD).t bp;replace hy:=((hy.t aB).t aD).t bp;replace hF:=hF.st bp;exact⟨Nat.zero_le _,λj hj=>by simp only at hj;omega,hF,hT,q8,hy,cC.nil⟩
 intro⟨k,gy,cO⟩ h_ hI dW;obtain⟨hk,hlt,hF,hT,q8,hy,ho⟩:=hI;try simp only at hk hlt hF hT q8 hy ho
 show Run _ _ _ _ [(4,.pointer (some ⟨eM,0,none⟩)),(8,.int .i64 (kF s gs k)),(12,gy),(44,pq),(45,.int .i64 gs.length),(46,.int .i64 k)] _ _;have hpb:=AQ (s:=s) zj k hk;have nY: ((gs.take k).map (λx:dh=>x.a)).length=k:=by rw[List.length_map,List.length_take];omega
 refine aj (aq [af 0] ?_);refine fM 47 3 46 45 (ai.nil (aj ?_));refine cV 47 rfl (λsN=>?_) (λsN=>?_)
 ·
  have dQ:k<gs.length:=by omega
  have hp1:=zj _ (List.getElem_mem dQ);have hps:kF s gs (k+1)=kF s gs k+(gs[k]'dQ).b:=by rw[kF,iJ dQ]
  refine bK (aj (dm 1 (aj (aq [af 0,nn 1,nn 2,nn 3] ?_))));refine eX 98 48 95 44 46 q8 rfl (h:=?_);intro PX PY h48;try simp only[b_] at h48
  refine sF (kq 49 (.load 98 (.tmp 48))) rfl rfl trivial h48 (by kernel_rfl) (by kernel_rfl) rfl rfl ?_;intro v49 A2;obtain rfl:=rI.1 A2;refine bD (kq 14 (.alloc 98)) rfl rfl (eO (cs:=[.int .i64 0,.int .i64 0]) hF 6 (by kernel_rfl)) ?_;rintro _ jF ⟨za,Qs,rfl,bh,hb,hF⟩;refine dD (k0 (.store 98 (.tmp 14) (.tmp 49))) rfl (dP (vs:=dU ((gs[k]'dQ))) (n:=2) rfl rfl (by kernel_rfl) rfl rfl (iq rfl) hb rfl) ?_;rintro _ jG ⟨rfl,bE,hb⟩;refine ai.nil (aj (aj (aq [af 0,af 1,nn 2,af 3] ?_)));refine ah 50 8 (aL 51 30 4 1 1 ?_);replace hy:=(hy.t bh).t bE;refine cm 52 3 51 hy.at_ rfl rfl ?_;refine au (kq 53 (.binOp .geq 3 (.tmp 50) (.tmp 52) 3)) (λ_=>ga rfl rfl) ?_;refine ai.nil ?_;refine cV 53 rfl (λQt=>?_) (λQt=>?_)
  ·
   refine fq 0 ?_;refine aj (aj (aq [af 0,af 1,nn 2,af 3] ?_));refine ah 64 8 (aL 65 30 4 1 1 ?_);refine cm 66 3 65 hy.at_ rfl rfl ?_;refine fM 67 3 64 66 (ai.nil ?_);refine cV 67 rfl (λri=>?_) (λri=>?_)
   ·
    exact absurd ri (by omega)
   refine bK (aj (aq [af 0,nn 1] ?_));refine ah 68 12 ?_;replace ho:=(ho.t bh).t bE;replace hF:=hF.st bE;refine cE 69 53 [68] [22] Tryz.call53 rfl (JU hF (by decide) ho (by omega)) ?_;rintro uv mA ⟨rfl,fl,Be,bU,ho,hF⟩;have hfl:=Be.len;refine ai.nil (aj (aq [af 0,af 1,af 2] ?_));refine ah 70 12 (aJ 6 70 (aO 7 (.bool true) (ai.nil ?_)));refine gE (by kernel_rfl) Tryz.func23 Tryz.results23 rfl rfl ?_;replace hT:=((hT.t bh).t bE).t bU;exact⟨_,fl,true,rfl,hT.bV (by decide),ho.out hT bR (fJ C) (λb _=>kf C (by decide) b) (by omega),.inr ⟨by rw[<-hsc];exact q_,gs,k,kr,hk,by rw[<-hsc];exact hlt,.inr ⟨by rw[<-hsc];omega,rfl,Be⟩⟩⟩
  have Qu:∀j,j<k+1->kF s gs j<hh:=by
    intro j hj;by_cases e:j=k
    · subst e;omega
    exact hlt j (by omega)
  refine bK (aj (aq [af 0,af 1,nn 2,nn 3,nn 4,af 5] ?_));refine ah 54 12 (aL 55 98 14 0 0 ?_);refine cm 56 3 55 hb.at_ rfl rfl ?_;replace hF:=hF.st bE;refine bD (kq 57 (.buildSlice 22 1 #[(0,(.tmp 56))])) rfl rfl (ig (ys:=([(gs[k]'dQ).a]:List Int)) (e:=3) (bytes:=8) hF (by kernel_rfl) rfl (by decide) (by decide) ⟨rfl,⟨_,rfl,eo.2 rfl⟩,trivial⟩) ?_;rintro WZ nL ⟨bY,FD,hF⟩;replace ho:=((ho.t bh).t bE).t bY;refine bD (kq 58 (.call {callee:=.builtin .append,args:=#[(.tmp 54),(.tmp 57)],argTypes:=#[22,22]})) rfl rfl (gJ (e:=3) (bytes:=8) hF (by decide) rfl rfl (by kernel_rfl) (by decide) ho FD (by simp only[List.length_cons,List.length_nil];omega) (by simp only[List.length_cons,List.length_nil];omega)) ?_;rintro v58 nM ⟨vD,bg,ho,hF⟩;refine aJ 12 58 (ai.nil (aq [af 0,af 1,nn 2,af 3,af 4] ?_));refine ah 59 8 (aL 60 98 14 1 1 ?_);replace hb:=(hb.t bY).t bg;refine cm 61 3 60 hb.at_ rfl rfl ?_;refine au (kq 62 (.binOp .add 3 (.tmp 59) (.tmp 61) 3)) (λ_=>gU rfl rfl (by omega) (by omega)) ?_;refine aJ 8 62 (ai.nil (dZ (aq [af 0,af 1] ?_)));refine eG 63 3 46 1 (ah 46 63 (ai.nil ?_));replace hT:=(((hT.t bh).t bE).t bY).t bg;replace q8:=(((q8.t bh).t bE).t bY).t bg;replace hy:=(hy.t bY).t bg;refine kp (ak 4 (cA 8 rfl (eq_int (by simp only;rw[hps])) (ak 12 (ak 44 (ak 45 (cA 46 rfl (eq_int (by simp)) (b6 _))))))) (dW (k+1,v58,vD) _ ⟨(by first|omega|(simp only;omega)),Qu,hF,hT,q8,hy,(by rw[List.take_succ_eq_append_getElem dQ,List.map_append];exact ho)⟩ (by first|omega|(simp only;omega)))
 have dQ:k=gs.length:=by omega
 refine fq 0 ?_;refine aj (aj (aq [af 0,af 1,nn 2,af 3] ?_));refine ah 64 8 (aL 65 30 4 1 1 ?_);refine cm 66 3 65 hy.at_ rfl rfl ?_;refine fM 67 3 64 66 (ai.nil ?_);refine cV 67 rfl (λri=>?_) (λri=>?_)
 ·
  refine aj (aq [af 0,af 1] ?_);refine aO 6 (.slice none 0 0) (aO 7 (.bool false) (ai.nil ?_));refine gE (by kernel_rfl) Tryz.func23 Tryz.results23 rfl rfl ?_;exact⟨_,[],false,rfl,hT.bV (by decide),fF,.inr ⟨by rw[<-hsc];exact q_,gs,k,kr,hk,by rw[<-hsc];exact hlt,.inl ⟨by rw[<-hsc];exact ri,dQ,rfl,rfl⟩⟩⟩
 refine bK (aj (aq [af 0,nn 1] ?_));refine ah 68 12 ?_;refine cE 69 53 [68] [22] Tryz.call53 rfl (JU hF (by decide) ho (by omega)) ?_;rintro zd ni ⟨rfl,fl,Be,b5,ho,hF⟩;have hfl:=Be.len;refine ai.nil (aj (aq [af 0,af 1,af 2] ?_));refine ah 70 12 (aJ 6 70 (aO 7 (.bool true) (ai.nil ?_)));refine gE (by kernel_rfl) Tryz.func23 Tryz.results23 rfl rfl ?_;replace hT:=hT.t b5;exact⟨_,fl,true,rfl,hT.bV (by decide),ho.out hT bR (fJ C) (λb _=>kf C (by decide) b) (by omega),.inr ⟨by rw[<-hsc];exact q_,gs,k,kr,hk,by rw[<-hsc];exact hlt,.inr ⟨by rw[<-hsc];omega,rfl,Be⟩⟩⟩
end
end Go.Proofs.YtionghonhnedgaaGreat
