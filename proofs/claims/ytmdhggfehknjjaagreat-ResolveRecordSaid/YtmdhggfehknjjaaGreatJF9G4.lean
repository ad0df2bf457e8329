/- Steps through functions of the program. -/
import Derived.Test.YtmdhggfehknjjaaGreatJF6
import Derived.Test.YtmdhggfehknjjaaGreatL2
import Derived.Test.YtmdhggfehknjjaaGreatJF7G1
import Derived.Test.YtmdhggfehknjjaaGreatJC7D4
import Derived.Test.YtmdhggfehknjjaaGreatJE7E9
import Derived.Test.YtmdhggfehknjjaaGreatL3
set_option linter.unusedVariables false
set_option linter.unusedSimpArgs false
set_option maxRecDepth 100000
set_option maxHeartbeats 4000000
namespace Go.Proofs.YtmdhggfehknjjaaGreat
open Go.K Go.K.aY
noncomputable section
namespace J_
def c0:=bZ Tryz.f184
def o1:=dL (cl (aH c0))
end J_
theorem oI {w₀:World} {C:Nat->Nat} {x y:List av} {vx vy:Value} (hF:aL w₀ C) (hx:aB w₀ (ax C) x vx) (hy:aB w₀ (ax C) y vy) (fF:0<x.length) (Ka:0<y.length):Calls Tryz.prog 184 #[vx,vy] w₀ (bI λv w'=>v=.int .i64 (eW x y)/\aA [] w₀ C w' C):=by
 have bF:=hF;have hT:=z9 w₀ C;replace hF:=hF.bz;replace hx:=hx.c1;replace hy:=hy.c1;refine bW J_.c0 12 [vx,vy] Tryz.func184 ?_;show Run _ _ _ _ [(0,vx),(1,vy)] _ _;refine aj (aq [af 0] ?_);refine aZ 4 (.int .i64 0) (ak.nil (aj ?_));refine dD (id:=1) (ops:=J_.o1) [] (bz C) [af 0,af 1,af 2,af 3,af 4,af 5,nn 6,af 7] dn (by kernel_rfl) (by kernel_rfl) (by kernel_rfl) ?_;intro w1 s_1;have hR:=aA.refl [] w1 (bz C);replace hx:=hx.t s_1;have hle1:=hx.le;replace hy:=hy.t s_1;have hle2:=hy.le;refine ah 5 0 ?_;refine iS (e:=55) (au 6 (.indexAddr 52 (.tmp 5) (.const (.int .i64 0)))) rfl rfl hx rfl (by kernel_rfl) rfl (by omega) (by omega) ?_;intro GV kr h6;try simp only[aQ] at h6
 refine j3 (au 7 (.load 55 (.tmp 6))) rfl rfl (λw' hS=>h6.bE hS) h6 (by kernel_rfl) (by kernel_rfl) rfl rfl ?_;intro tZ g7;obtain rfl:=fN.1 g7;refine ah 8 1 ?_;refine iS (e:=55) (au 9 (.indexAddr 52 (.tmp 8) (.const (.int .i64 0)))) rfl rfl hy rfl (by kernel_rfl) rfl (by omega) (by omega) ?_;intro Ft yo gx;try simp only[aQ] at gx
 refine j3 (au 10 (.load 55 (.tmp 9))) rfl rfl (λw' hS=>gx.bE hS) gx (by kernel_rfl) (by kernel_rfl) rfl rfl ?_;intro v10 g10;obtain rfl:=fN.1 g10;replace hF:=hF.st s_1;refine gw 11 53 [7,10] [55,55] Tryz.call53 rfl (uz hF) ?_;rintro gC w2 ⟨rfl,s_2⟩;refine⟨(hR.trans s_2 (by simp)).ext,?_⟩;refine aD 4 11 (ak.nil ?_);refine bR Tryz.func184 Tryz.results184 ?_;replace hT:=(hT.t s_1).t s_2;exact⟨by rw[Nr fF Ka];rfl,hT.cm (by decide)⟩
namespace uL
def c0:=bZ Tryz.f151
def uD:=(cl (aH (cl (cl (aH c0)))))
def xZ:=(cl (cl (cl (aH (cl uD)))))
def nj:=dL (cl xZ)
def Jh:=(aH (cl (cl (aH (cl uD)))))
def kr:=dL (cl (cl Jh))
end uL
theorem l5 {w₀:World} {C:Nat->Nat} {j a b:Nat} {v:Value} {ys:List (List av)} (hF:aL w₀ C) (hj:j≠0) (ho:aX w₀ C j 52 v ys) (lg:∀x∈ys,0<x.length) (hab:a<=b) (hb:b<=ys.length) (hlen:ys.length<=140737488355328):
    Calls Tryz.prog 151 #[v,.int .i64 a,.int .i64 b,.func (.func 184) #[] #[]] w₀ (bI λu w'=>u=.tuple #[]/\∃zs σ,eA ys σ zs/\eR σ a b/\gV (dQ eW ys) σ a b/\aA [j] w₀ C w' C/\aX w' C j 52 v zs/\aL w' C):=by
 have hT:=aA.refl [j] w₀ C;refine bW uL.c0 53 [v,.int .i64 a,.int .i64 b,.func (.func 184) #[] #[]] Tryz.func151 ?_;show Run _ _ _ _ [(0,v),(1,.int .i64 a),(2,.int .i64 b),(3,.func (.func 184) #[] #[])] _ _;refine aj (aq [af 0,af 1,af 2] ?_);refine ah 10 1 ?_;refine b7 11 3 10 1 (aD 8 11 ?_);refine ak.nil (bD 0 ?_);refine cM (ι:=Nat×(List (List av))×(Nat->Nat)) (I:=λx w=>a+1<=x.1/\x.1<=max (a+1) b/\eA ys x.2.2 x.2.1/\eR x.2.2 a x.1/\gV (dQ eW ys) x.2.2 a x.1/\aL w C/\aA [j] w₀ C w C/\aX w C j 52 v x.2.1) (e:=λx=>[(0,v),(1,.int .i64 a),(2,.int .i64 b),(3,.func (.func 184) #[] #[]),(8,.int .i64 x.1)]) (m:=λx=>b-x.1) (cE:=(a+1,ys,λi=>i)) (ai 0 (ai 1 (ai 2 (ai 3 (aJ 8 rfl (eq_int (by simp)) (aV _)))))) ?_ ?_
 · exact⟨Nat.le_refl _,by omega,eA.id ys,eR.id _ _,λp q h1 h2 h3=>by omega,hF,hT,ho⟩
 intro⟨i,zs,σ⟩ w1 hI bP;obtain⟨hi1,hi2,dA,mJ,mD,hF,hT,ho⟩:=hI;try simp only at hi1 hi2 dA mJ mD hF hT ho
 show Run _ _ _ _ [(0,v),(1,.int .i64 a),(2,.int .i64 b),(3,.func (.func 184) #[] #[]),(8,.int .i64 i)] _ _;have hzl:=dA.len;refine aj (aj (aq [af 0,af 1,af 2] ?_));refine ah 12 8 (ah 13 2 ?_);refine de 14 3 12 13 (ak.nil ?_);refine bQ 14 rfl (λfE=>?_) (λfE=>?_)
 ·
  have hib:i<b:=by omega
  have hil:i<ys.length:=by omega
  refine bq (aj (bD 1 (aj (aq [af 0,af 1] ?_))));refine ah 17 8 (aD 9 17 ?_);refine ak.nil (bD 2 ?_);refine cM (ι:=Nat×(List (List av))×(Nat->Nat)) (I:=λx w=>eA ys x.2.2 x.2.1/\mS eW ys x.2.2 a i x.1/\aL w C/\aA [j] w₀ C w C/\aX w C j 52 v x.2.1) (e:=λx=>[(0,v),(1,.int .i64 a),(2,.int .i64 b),(3,.func (.func 184) #[] #[]),(8,.int .i64 i),(9,.int .i64 x.1)]) (m:=λx=>x.1) (cE:=(i,zs,σ)) (ai 0 (ai 1 (ai 2 (ai 3 (ai 8 (ai 9 (aV _))))))) ?_ ?_
  · exact⟨dA,mS.start mJ (by omega) mD,hF,hT,ho⟩
  intro⟨q,zs,σ⟩ w2 hI eX;obtain⟨dA,hI,hF,hT,ho⟩:=hI;try simp only at dA hI hF hT ho
  show Run _ _ _ _ [(0,v),(1,.int .i64 a),(2,.int .i64 b),(3,.func (.func 184) #[] #[]),(8,.int .i64 i),(9,.int .i64 q)] _ _;have hzl:=dA.len;have hle:=hI.le;refine aj (aj ?_);by_cases hA: (a:Int)<q
  ·
   refine dD (id:=4) (ops:=uL.nj) [] (C) [af 0,af 1,af 2,af 3,af 4,af 5,af 6,af 7,af 8,af 9,af 10,af 11,af 12,af 13,nn 14,af 15,af 16] dn (by kernel_rfl) (by kernel_rfl) (by kernel_rfl) ?_;intro w3 s_1;have hR:=aA.refl [] w3 (C);refine ah 18 9 (ah 19 1 ?_);refine ay (au 20 (.binOp .gtr 3 (.tmp 18) (.tmp 19) 3)) (λ_=>ff (gl rfl rfl) hA) ?_;refine ah 21 20 ?_;refine cn 22 3 3 true (cn 23 0 3 true (cn 24 9 3 true ?_));replace ho:=ho.t s_1;refine tH (e':=52) (aO 25 (.indexAddr 24 (.tmp 23) (.tmp 24)) 3 true) rfl rfl ho rfl (by kernel_rfl) rfl (by omega) (by first|omega|(simp only[List.length_set];omega)) ?_;intro vU q8;try simp only[aQ]
   refine sF (I:=[]) (aO 26 (.load 52 (.tmp 25)) 3 true) rfl rfl ho q8 (λw' hS=>ho.bE q8 hS) (by first|omega|(simp only[List.length_set];omega)) (by kernel_rfl) rfl rfl ?_;intro v26 gX;try simp only[aQ] at gX
   refine cn 27 0 3 true (cn 28 9 3 true ?_);refine ay (aO 29 (.binOp .sub 3 (.tmp 28) (.const (.int .i64 1)) 3) 3 true) (λ_=>eM rfl rfl (by omega) (by omega)) ?_;refine tH (e':=52) (aO 30 (.indexAddr 24 (.tmp 27) (.tmp 29)) 3 true) rfl rfl ho rfl (by kernel_rfl) rfl (by omega) (by first|omega|(simp only[List.length_set];omega)) ?_;intro fm wz;try simp only[aQ]
   refine sF (I:=[]) (aO 31 (.load 52 (.tmp 30)) 3 true) rfl rfl ho wz (λw' hS=>ho.bE wz hS) (by first|omega|(simp only[List.length_set];omega)) (by kernel_rfl) rfl rfl ?_;intro v31 lD;try simp only[aQ] at lD
   have jN: ((q:Int)-1).toNat=q-1:=by omega
   simp only[jN] at lD;replace hF:=hF.st s_1;refine jQ (aO 32 (.call {callee:=.value (.tmp 22),args:=#[(.tmp 26),(.tmp 31)],argTypes:=#[52,52]}) 3 true) rfl rfl (ny (λargs w=>Tryz.call184 args w) rfl rfl) (oI hF gX lD (lg _ (dA.sub _ (List.getElem_mem (by omega)))) (lg _ (dA.sub _ (List.getElem_mem (by omega))))) ?_;rintro jw w4 ⟨rfl,s_2⟩;refine⟨(hR.trans s_2 (by simp)).ext,?_⟩;refine ay (aO 33 (.binOp .lss 3 (.tmp 32) (.const (.int .i64 0)) 3) 3 true) (λ_=>fS rfl rfl) ?_;refine dS 34 21 33 ?_;refine ak.nil ?_;refine bQ 34 rfl (λnt=>?_) (λnt=>?_)
   ·
    have jk:=(hI.ord rW (λx _=>trivial) dA (by omega) hil (by omega) (by omega)).2 nt;refine bq (aj (bD 3 ?_));refine xh (id:=6) (ops:=uL.kr) [j] (C) 17 (.fork [0,1,2,3,4,5,6,7,8,10,11,12] 9 (.run [nn 13,af 14,nn 15,af 16,nn 17]) 13 (.run [nn 9,af 14,nn 15,af 16,nn 17])) dn (by kernel_rfl) (by kernel_rfl) (by kernel_rfl) ?_;intro dY aF;have hR:=aA.refl [j] dY (C);refine xe ?_;show bK _ _ _ _ _ [af 0,af 1,af 2,af 3,af 4,af 5,af 6,af 7,af 8,af 10,af 11,af 12] _ _;refine ah 37 0 (ah 38 9 (ah 39 0 (ah 40 9 ?_)));refine ay (au 41 (.binOp .sub 3 (.tmp 40) (.const (.int .i64 1)) 3)) (λ_=>eM rfl rfl (by omega) (by omega)) ?_;refine ah 42 0 (ah 43 9 ?_);refine ay (au 44 (.binOp .sub 3 (.tmp 43) (.const (.int .i64 1)) 3)) (λ_=>eM rfl rfl (by omega) (by omega)) ?_;replace ho:=(ho.t s_2).t aF;refine dH 52 45 24 42 44 ho rfl (by first|omega|(simp only[List.length_set];omega)) (h:=?_);intro E2 wA;try simp only[aQ]
    refine ah 47 0 (ah 48 9 ?_);refine dH 52 49 24 47 48 ho rfl (by first|omega|(simp only[List.length_set];omega)) (h:=?_);intro CK sg;try simp only[aQ]
    refine xg ?_ ?_
    ·
     show bK _ _ _ _ _ [nn 9] _ _;refine qd (au 46 (.load 52 (.tmp 45))) rfl rfl hR.ext ho wA (by first|omega|(simp only[List.length_set];omega)) (by kernel_rfl) rfl rfl ?_;intro v46 je;try simp only[aQ] at je
     have jN: ((q:Int)-1).toNat=q-1:=by omega
     simp only[jN] at je;refine pG hR.ext ?_;refine pF ?_;show bK _ _ _ _ _ [nn 13,af 14,nn 15,af 16,nn 17] _ _;refine qd (au 50 (.load 52 (.tmp 49))) rfl rfl hR.ext ho sg (by first|omega|(simp only[List.length_set];omega)) (by kernel_rfl) rfl rfl ?_;intro v50 fB;try simp only[aQ] at fB
     refine dH 52 51 24 37 38 ho rfl (by first|omega|(simp only[List.length_set];omega)) (h:=?_);intro pU kE;try simp only[aQ]
     refine nC (k0 (.store 52 (.tmp 51) (.tmp 46))) rfl (gj ho kE (by first|omega|(simp only[List.length_set];omega)) rfl rfl (by kernel_rfl) je) ?_;rintro _ eT ⟨rfl,aI,ho⟩;refine⟨(hR.trans aI (by simp)).ext,?_⟩;replace hT:=((hT.t s_1).t s_2).t aF;replace hT:=hT.trans aI (by simp<;>omega);replace hR:=hR.trans aI (by simp<;>omega);refine dH 52 52 24 39 41 ho rfl (by first|omega|(simp only[List.length_set];omega)) (h:=?_);intro qv si;try simp only[aQ]
     refine ak.free rfl ?_;replace fB:=fB.t aI;refine cg (k0 (.store 52 (.tmp 52) (.tmp 50))) rfl (gj ho si (by first|omega|(simp only[List.length_set];omega)) rfl rfl (by kernel_rfl) fB) ?_;rintro _ w7 ⟨rfl,aG,ho⟩;replace hT:=hT.trans aG (by simp<;>omega);refine ak.nil (bO (aq [af 0,af 1,af 2] ?_));refine ah 35 9 ?_;refine ay (au 36 (.binOp .sub 3 (.tmp 35) (.const (.int .i64 1)) 3)) (λ_=>eM rfl rfl (by omega) (by omega)) ?_;refine aD 9 36 (ak.nil ?_);try simp only[show((q:Int)-1).toNat=q-1 from by omega,aQ] at ho
     replace hF:=(((hF.st s_2).st aF).st aI).st aG;refine kp (ai 0 (ai 1 (ai 2 (ai 3 (ai 8 (aJ 9 rfl (eq_int (by simp only;omega)) (aV _))))))) (eX (q-1,((zs.set q (zs[q-1]'(by omega))).set (q-1) (zs[q]'(by omega))),(jV σ q (q-1))) _ ⟨(dA.swap (by omega) (by omega) rfl rfl),(hI.step (by omega) jk),hF,hT,ho⟩ (by first|omega|(simp only;omega)))
    show bK _ _ _ _ _ [nn 13] _ _;refine qd (au 50 (.load 52 (.tmp 49))) rfl rfl hR.ext ho sg (by first|omega|(simp only[List.length_set];omega)) (by kernel_rfl) rfl rfl ?_;intro v50 fB;try simp only[aQ] at fB
    refine pG hR.ext ?_;refine pF ?_;show bK _ _ _ _ _ [nn 9,af 14,nn 15,af 16,nn 17] _ _;refine qd (au 46 (.load 52 (.tmp 45))) rfl rfl hR.ext ho wA (by first|omega|(simp only[List.length_set];omega)) (by kernel_rfl) rfl rfl ?_;intro v46 je;try simp only[aQ] at je
    have jN: ((q:Int)-1).toNat=q-1:=by omega
    simp only[jN] at je;refine dH 52 51 24 37 38 ho rfl (by first|omega|(simp only[List.length_set];omega)) (h:=?_);intro pU kE;try simp only[aQ]
    refine nC (k0 (.store 52 (.tmp 51) (.tmp 46))) rfl (gj ho kE (by first|omega|(simp only[List.length_set];omega)) rfl rfl (by kernel_rfl) je) ?_;rintro _ gD ⟨rfl,aR,ho⟩;refine⟨(hR.trans aR (by simp)).ext,?_⟩;replace hT:=((hT.t s_1).t s_2).t aF;replace hT:=hT.trans aR (by simp<;>omega);replace hR:=hR.trans aR (by simp<;>omega);refine dH 52 52 24 39 41 ho rfl (by first|omega|(simp only[List.length_set];omega)) (h:=?_);intro qv si;try simp only[aQ]
    refine ak.free rfl ?_;replace fB:=fB.t aR;refine cg (k0 (.store 52 (.tmp 52) (.tmp 50))) rfl (gj ho si (by first|omega|(simp only[List.length_set];omega)) rfl rfl (by kernel_rfl) fB) ?_;rintro _ gO ⟨rfl,aW,ho⟩;replace hT:=hT.trans aW (by simp<;>omega);refine ak.nil (bO (aq [af 0,af 1,af 2] ?_));refine ah 35 9 ?_;refine ay (au 36 (.binOp .sub 3 (.tmp 35) (.const (.int .i64 1)) 3)) (λ_=>eM rfl rfl (by omega) (by omega)) ?_;refine aD 9 36 (ak.nil ?_);try simp only[show((q:Int)-1).toNat=q-1 from by omega,aQ] at ho
    replace hF:=(((hF.st s_2).st aF).st aR).st aW;refine kp (ai 0 (ai 1 (ai 2 (ai 3 (ai 8 (aJ 9 rfl (eq_int (by simp only;omega)) (aV _))))))) (eX (q-1,((zs.set q (zs[q-1]'(by omega))).set (q-1) (zs[q]'(by omega))),(jV σ q (q-1))) _ ⟨(dA.swap (by omega) (by omega) rfl rfl),(hI.step (by omega) jk),hF,hT,ho⟩ (by first|omega|(simp only;omega)))
   have jk:q=a\/¬dQ eW ys i (σ (q-1)):=.inr (λe=>nt ((hI.ord rW (λx _=>trivial) dA (by omega) hil (by omega) (by omega)).1 e));refine cB 2 ?_;refine bO (aq [af 0,af 1,af 2] ?_)
   skip
   refine ah 15 8 ?_;refine b7 16 3 15 1 (aD 8 16 (ak.nil ?_));have sj:q=a\/¬dQ eW ys i (σ (q-1)):=jk;obtain⟨mb,ha2⟩:=hI.done rW (λx _=>trivial) hil sj;replace hT:=(hT.t s_1).t s_2;replace hF:=hF.st s_2;replace ho:=ho.t s_2;refine kp (ai 0 (ai 1 (ai 2 (ai 3 (aJ 8 rfl (eq_int (by simp)) (aV _)))))) (bP (i+1,zs,σ) _ ⟨(by first|omega|(simp only;omega)),(by first|omega|(simp only;omega)),(by first|omega|(simp only;omega)),mb,ha2,hF,hT,ho⟩ (by first|omega|(simp only;omega)))
  refine dD (id:=4) (ops:=uL.nj) [] (C) [af 0,af 1,af 2,af 3,af 4,af 5,af 6,af 7,af 8,af 9,af 10,af 11,af 12,af 13,nn 14,af 15,af 16] dn (by kernel_rfl) (by kernel_rfl) (by kernel_rfl) ?_;intro jc bh;have hR:=aA.refl [] jc (C);refine ah 18 9 (ah 19 1 ?_);refine ay (au 20 (.binOp .gtr 3 (.tmp 18) (.tmp 19) 3)) (λ_=>gL (gl rfl rfl) hA) ?_;refine ah 21 20 ?_;refine aM 22 3 true (aM 23 3 true (aM 24 3 true (aM 25 3 true (aM 26 3 true (aM 27 3 true (aM 28 3 true (aM 29 3 true (aM 30 3 true (aM 31 3 true ?_)))))))));refine eo (aO 32 (.call {callee:=.value (.tmp 22),args:=#[(.tmp 26),(.tmp 31)],argTypes:=#[52,52]}) 3 true) rfl rfl hR.ext ?_;refine aM 33 3 true ?_;refine gn 34 21 33 ?_;refine ak.nil (cQ 34 (cB 2 ?_));refine bO (aq [af 0,af 1,af 2] ?_)
  skip
  refine ah 15 8 ?_;refine b7 16 3 15 1 (aD 8 16 (ak.nil ?_));have sj:q=a\/¬dQ eW ys i (σ (q-1)):=.inl (by omega);obtain⟨mb,ha2⟩:=hI.done rW (λx _=>trivial) hil sj;replace hF:=hF.st bh;replace hT:=hT.t bh;replace ho:=ho.t bh;refine kp (ai 0 (ai 1 (ai 2 (ai 3 (aJ 8 rfl (eq_int (by simp)) (aV _)))))) (bP (i+1,zs,σ) _ ⟨(by first|omega|(simp only;omega)),(by first|omega|(simp only;omega)),(by first|omega|(simp only;omega)),mb,ha2,hF,hT,ho⟩ (by first|omega|(simp only;omega)))
 have hib:b<=i:=by omega
 refine cB 0 ?_;refine nF Tryz.func151 rfl ?_;refine⟨rfl,zs,σ,dA,?_,?_,hT,ho,hF⟩
 · by_cases e:i=a+1
   · subst e;exact mJ.thin hab
   rw[show b=i by omega];exact mJ
 exact λp q h1 h2 h3=>mD p q h1 h2 (by omega)
namespace Kc
def c0:=bZ Tryz.f94
end Kc
theorem G3 {w₀:World} {C:Nat->Nat} {j:Nat} {v:Value} {ys:List (List av)} {m:Int} (hF:aL w₀ C) (hj:j≠0) (ho:aX w₀ C j 52 v ys) (lg:∀x∈ys,0<x.length) (hlen:ys.length<=12):
   Calls Tryz.prog 94 #[v,.int .i64 0,.int .i64 ys.length,.int .i64 m,.func (.func 184) #[] #[]] w₀ (bI λu w'=>u=.tuple #[]/\∃zs,eB eW ys zs/\aA [j] w₀ C w' C/\aX w' C j 52 v zs/\aL w' C):=by
 have hT:=aA.refl [j] w₀ C;refine bW Kc.c0 148 [v,.int .i64 0,.int .i64 ys.length,.int .i64 m,.func (.func 184) #[] #[]] Tryz.func94 ?_;show Run _ _ _ _ [(0,v),(1,.int .i64 0),(2,.int .i64 ys.length),(3,.int .i64 m),(4,.func (.func 184) #[] #[])] _ _;refine aj (aq [af 0] ?_);refine aZ 10 (.bool true) (ak.nil (aj (aq [af 0] ?_)));refine aZ 11 (.bool true) ?_;refine ak.nil (bD 0 ?_);refine cM (ι:=Nat) (I:=λx w=>aL w C/\aA [j] w₀ C w C/\aX w C j 52 v ys) (e:=λx=>[(0,v),(1,.int .i64 0),(2,.int .i64 ys.length),(4,.func (.func 184) #[] #[])]) (m:=λx=>0) (cE:=0) (ai 0 (ai 1 (ai 2 (ai 4 (aV _))))) ?_ ?_
 ·exact⟨hF,hT,ho⟩
 intro z w1 hI bP;obtain⟨hF,hT,ho⟩:=hI;try simp only at hF hT ho
 show Run _ _ _ _ [(0,v),(1,.int .i64 0),(2,.int .i64 ys.length),(4,.func (.func 184) #[] #[])] _ _;refine bD 1 (aj (aq [af 0,af 1,af 2,af 3] ?_));refine ah 21 2 (ah 22 1 ?_);refine ay (au 23 (.binOp .sub 3 (.tmp 21) (.tmp 22) 3)) (λ_=>eM rfl rfl (by omega) (by omega)) ?_;refine aD 12 23 (ak.nil (aj (aj (aq [af 0,af 1] ?_))));refine ah 24 12 ?_;refine ay (au 25 (.binOp .leq 3 (.tmp 24) (.const (.int .i64 12)) 3)) (λ_=>sG (od rfl rfl) (by omega)) ?_;refine ak.nil (lq 25 (aj (aq [af 0,af 1,af 2,af 3,nn 4] ?_)));refine ah 26 0 (ah 27 1 (ah 28 2 (ah 29 4 ?_)));refine bV 30 151 [26,27,28,29] [24,3,3,108] Tryz.call151 rfl (l5 (a:=0) (b:=ys.length) hF hj ho lg (Nat.zero_le _) (Nat.le_refl _) (by omega)) ?_;rintro gC w2 ⟨rfl,zs,σ,dA,mJ,mD,s_1,ho,hF⟩;replace hT:=hT.trans s_1 (by simp<;>omega);refine ak.nil ?_;refine yK (by kernel_rfl) Tryz.func94 Tryz.results94 ?_;exact⟨rfl,zs,⟨σ,dA,mJ,mD⟩,hT,ho,hF⟩
def vF:ByteArray:=⟨#[0,1,2,2,3,3,3,3,4,4,4,4,4,4,4,4,5,5,5,5,5,5,5,5,5,5,5,5,5,5,5,5,6,6,6,6,6,6,6,6,6,6,6,6,6,6,6,6,6,6,6,6,6,6,6,6,6,6,6,6,6,6,6,6,7,7,7,7,7,7,7,7,7,7,7,7,7,7,7,7,7,7,7,7,7,7,7,7,7,7,7,7,7,7,7,7,7,7,7,7,7,7,7,7,7,7,7,7,7,7,7,7,7,7,7,7,7,7,7,7,7,7,7,7,7,7,7,7,8,8,8,8,8,8,8,8,8,8,8,8,8,8,8,8,8,8,8,8,8,8,8,8,8,8,8,8,8,8,8,8,8,8,8,8,8,8,8,8,8,8,8,8,8,8,8,8,8,8,8,8,8,8,8,8,8,8,8,8,8,8,8,8,8,8,8,8,8,8,8,8,8,8,8,8,8,8,8,8,8,8,8,8,8,8,8,8,8,8,8,8,8,8,8,8,8,8,8,8,8,8,8,8,8,8,8,8,8,8,8,8,8,8,8,8,8,8,8,8,8,8,8,8,8,8,8,8]⟩
namespace RL
def c0:=bZ Tryz.f160
end RL
theorem uu {n:Nat} (hn:n<=12) (w₀:World):Calls Tryz.prog 160 #[.int .u64 n] w₀ (bI λv w'=>(∃m,v=.int .i64 m)/\w'=w₀):=by
 refine bW RL.c0 25 [.int .u64 n] Tryz.func160 ?_;show Run _ _ _ _ [(0,.int .u64 n)] _ _;refine aj (aq [af 0] ?_);refine aZ 2 (.int .i64 0) (ak.nil (aj (aj (aq [af 0,af 1] ?_))));refine ah 3 0 ?_;refine ay (au 4 (.binOp .geq 84 (.tmp 3) (.const (.int .u64 4294967296)) 84)) (λ_=>dZ (gR rfl rfl) (by omega)) ?_;refine ak.nil (cQ 4 (bq (aj (aj (aq [af 0,af 1] ?_)))));refine ah 7 0 ?_;refine ay (au 8 (.binOp .geq 84 (.tmp 7) (.const (.int .u64 65536)) 84)) (λ_=>dZ (gR rfl rfl) (by omega)) ?_;refine ak.nil (cQ 8 (bq (aj (aj (aq [af 0,af 1] ?_)))));refine ah 13 0 ?_;refine ay (au 14 (.binOp .geq 84 (.tmp 13) (.const (.int .u64 256)) 84)) (λ_=>dZ (gR rfl rfl) (by omega)) ?_;refine ak.nil (cQ 14 (bq (aj (aq [af 0,af 1,af 2,af 3,af 4,af 5,af 6] ?_))));refine ah 19 2 (ah 20 0 ?_);refine ay (au 21 (.convert 84 5 (.tmp 20))) (λ_=>uP (r:=(n:Int)) rfl ⟨_,Tryz.underlying84⟩ Tryz.underlying5 (U8 hn)) ?_;obtain⟨RN,v7⟩:=U9 (s:=vF) (n:=n) (by show n<256;omega);refine ay (au 22 (.index 9 (.const (.string ⟨#[0,1,2,2,3,3,3,3,4,4,4,4,4,4,4,4,5,5,5,5,5,5,5,5,5,5,5,5,5,5,5,5,6,6,6,6,6,6,6,6,6,6,6,6,6,6,6,6,6,6,6,6,6,6,6,6,6,6,6,6,6,6,6,6,7,7,7,7,7,7,7,7,7,7,7,7,7,7,7,7,7,7,7,7,7,7,7,7,7,7,7,7,7,7,7,7,7,7,7,7,7,7,7,7,7,7,7,7,7,7,7,7,7,7,7,7,7,7,7,7,7,7,7,7,7,7,7,7,8,8,8,8,8,8,8,8,8,8,8,8,8,8,8,8,8,8,8,8,8,8,8,8,8,8,8,8,8,8,8,8,8,8,8,8,8,8,8,8,8,8,8,8,8,8,8,8,8,8,8,8,8,8,8,8,8,8,8,8,8,8,8,8,8,8,8,8,8,8,8,8,8,8,8,8,8,8,8,8,8,8,8,8,8,8,8,8,8,8,8,8,8,8,8,8,8,8,8,8,8,8,8,8,8,8,8,8,8,8,8,8,8,8,8,8,8,8,8,8,8,8,8,8,8,8,8,8]⟩)) (.tmp 21))) (λ_=>U_ rfl rfl Tryz.underlying9 v7) ?_;refine ay (au 23 (.convert 5 3 (.tmp 22))) (λ_=>sA rfl ⟨_,Tryz.underlying5⟩ Tryz.underlying3) ?_;refine ay (au 24 (.binOp .add 3 (.tmp 19) (.tmp 23) 3)) (λ_=>val_add rfl rfl) ?_;refine aD 2 24 (ak.nil ?_);refine bR Tryz.func160 Tryz.results160 ?_;exact⟨⟨_,rfl⟩,rfl⟩
namespace RO
def c0:=bZ Tryz.f95
end RO
theorem RP {n:Nat} (hn:n<=12) (w₀:World):Calls Tryz.prog 95 #[.int .u64 n] w₀ (bI λv w'=>(∃m,v=.int .i64 m)/\w'=w₀):=by
 refine bW RO.c0 8 [.int .u64 n] Tryz.func95 ?_;show Run _ _ _ _ [(0,.int .u64 n)] _ _;refine aj (aq [af 0] ?_);refine aZ 2 (.int .i64 0) (ak.nil (aj ?_));refine Vb (by kernel_rfl) ?_;refine bq (aj (aq [af 0,nn 1,af 2] ?_));refine ah 6 0 ?_;refine bV 7 160 [6] [84] Tryz.call160 rfl (uu hn _) ?_;rintro ku w1 ⟨⟨m,rfl⟩,e⟩;obtain rfl:=e.symm;refine aD 2 7 (ak.nil ?_);refine bR Tryz.func95 Tryz.results95 ?_;exact⟨⟨_,rfl⟩,rfl⟩
namespace Ke
def c0:=bZ Tryz.f51
end Ke
theorem C3 {w₀:World} {C:Nat->Nat} {j:Nat} {v:Value} {ys:List (List av)} (hF:aL w₀ C) (hj:j≠0) (ho:aX w₀ C j 52 v ys) (lg:∀x∈ys,0<x.length) (hlen:ys.length<=12):
  Calls Tryz.prog 51 #[v,.func (.func 184) #[] #[]] w₀ (bI λu w'=>u=.tuple #[]/\∃zs,eB eW ys zs/\aA [j] w₀ C w' C/\aX w' C j 52 v zs/\aL w' C):=by
 have hT:=aA.refl [j] w₀ C;refine bW Ke.c0 14 [v,.func (.func 184) #[] #[]] Tryz.func51 ?_;show Run _ _ _ _ [(0,v),(1,.func (.func 184) #[] #[])] _ _;refine aj (aq [af 0,af 1,af 2] ?_);refine ah 5 0 ?_;refine zE 6 5 24 (ho.bU rfl Tryz.underlying24) ?_;refine aD 4 6 (ak.nil (aq [af 0,af 1,af 2,af 3,nn 4,af 5,nn 6] ?_));refine ah 7 0 (ah 8 4 (ah 9 4 ?_));refine ay (au 10 (.convert 3 112 (.tmp 9))) (λ_=>uP (r:=(ys.length:Int)) rfl ⟨_,Tryz.underlying3⟩ Tryz.underlying112 (Mj (by omega))) ?_;refine bV 11 95 [10] [112] Tryz.call95 rfl (RP hlen _) ?_;rintro ku w1 ⟨⟨m,rfl⟩,rfl⟩;refine ah 12 1 ?_;refine dU (au 13 (.call {callee:=.value (.func 94),args:=#[(.tmp 7),(.const (.int .i64 0)),(.tmp 8),(.tmp 11),(.tmp 12)],argTypes:=#[24,3,3,3,108]})) rfl rfl (dy Tryz.call94 rfl) (G3 hF hj ho lg hlen) ?_;rintro gC w2 ⟨rfl,zs,mK,s_1,ho,hF⟩;replace hT:=hT.trans s_1 (by simp<;>omega);refine ak.nil ?_;refine nF Tryz.func51 rfl ?_;exact⟨rfl,zs,mK,hT,ho,hF⟩
namespace RQ
def c0:=bZ Tryz.f129
end RQ
theorem vn {w₀:World} {C:Nat->Nat} {j:Nat} {v:Value} {ys:List (List av)} (hF:aL w₀ C) (hj:j≠0) (ho:aX w₀ C j 52 v ys) (lg:∀x∈ys,0<x.length) (hlen:ys.length<=12):
  Calls Tryz.prog 129 #[v] w₀ (bI λu w'=>u=v/\∃zs,eB eW ys zs/\aA [j] w₀ C w' C/\aX w' C j 52 v zs/\aL w' C):=by
 have hT:=aA.refl [j] w₀ C;refine bW RQ.c0 6 [v] Tryz.func129 ?_;show Run _ _ _ _ [(0,v)] _ _;refine aj (aq [af 0] ?_);refine aZ 2 (.slice none 0 0) (ak.nil (aj (aq [af 0,nn 1] ?_)));refine ah 3 0 ?_;refine dU (au 4 (.call {callee:=.value (.func 51),args:=#[(.tmp 3),(.func 184)],argTypes:=#[24,108]})) rfl rfl (dy Tryz.call51 rfl) (C3 hF hj ho lg hlen) ?_;rintro ku w1 ⟨rfl,zs,mK,s_1,ho,hF⟩;replace hT:=hT.trans s_1 (by simp<;>omega);refine ak.nil (aj (aq [af 0,af 1] ?_));refine ah 5 0 (aD 2 5 (ak.nil ?_));refine bR Tryz.func129 Tryz.results129 ?_;exact⟨rfl,zs,mK,hT,ho,hF⟩
end
end Go.Proofs.YtmdhggfehknjjaaGreat
set_option linter.unusedVariables false
set_option linter.unusedSimpArgs false
set_option maxRecDepth 100000
set_option maxHeartbeats 4000000
namespace Go.Proofs.YtmdhggfehknjjaaGreat
open Go.K Go.K.aY
noncomputable section
namespace RR
def c0:=bZ Tryz.f75
end RR
theorem C6 {w₀:World} {C:Nat->Nat} {l:List bk} {ds:List cC} {aK dI:Value} {gf:Nat} {wf:List bk->List (List av)×Int} (lM:∀args w,(callFunc gf args).run Tryz.prog w=.ok (.enter gf args) w) (hW:Nt Tryz.prog gf l ds wf) (hF:aL w₀ C) (hl:aB w₀ (ax C) l aK) (hz:aB w₀ (ax C) ds dI) (nZ:kH l=0) (m_:l.length<=4096) (rq:ds.length<=4096) (hO:∀i (h:i<ds.length),qH ds[i]) (jM:∀i (h:i+1<ds.length),qj ds[i] ds[i+1]<0)
    (hw:∀x∈l,1<=x.w/\x.w<=1048576) (lg:∀x∈eS wf (a_ l),0<x.length) (h12: (eS wf (a_ l)).length<=12):Calls Tryz.prog 75 #[aK,dI,.func (.func gf) #[] #[]] w₀ (bI λv w'=>aA [] w₀ C w' C/\
     ((∃k,∃hk:k<(a_ l).length,(∀q (hq:q<k),(wf (a_ l)[q]).2=0)/\(wf (a_ l)[k]).2≠0/\v=.tuple #[.slice none 0 0,.int .i64 0,.int .i64 (wf (a_ l)[k]).2])\/
      ((∀q (hq:q<(a_ l).length),(wf (a_ l)[q]).2=0)/\∃zs dG,eB eW (eS wf (a_ l)) zs/\v=.tuple #[dG,.int .i64 (fh l zs),.int .i64 0]/\aB w' (ax C) zs dG))):=by
 have bF:=hF;have hT:=z9 w₀ C;replace hF:=hF.bz;replace hl:=hl.c1;replace hz:=hz.c1;refine bW RR.c0 57 [aK,dI,.func (.func gf) #[] #[]] Tryz.func75 ?_;show Run _ _ _ _ [(0,aK),(1,dI),(2,.func (.func gf) #[] #[])] _ _;refine aj (aq [af 0,af 1,af 2] ?_);refine aZ 6 (.slice none 0 0) (aZ 7 (.int .i64 0) (aZ 8 (.int .i64 0) (ak.nil (aj (aq [af 0,af 1,nn 2,af 3,af 4,af 5,nn 6,nn 7,af 8] ?_)))));refine ah 19 0 (ah 20 1 ?_);refine bV 21 128 [19,20] [23,27] Tryz.call128 rfl (Q0 hF hl hz nZ rq hO jM) ?_;rintro ku w1 ⟨cA,rfl,s_1,hap⟩;refine ah 18 21 ?_;refine dW 22 18 0 (dW 23 18 1 ?_);replace hF:=hF.st s_1;refine bG (au 9 (.alloc 129)) rfl rfl (dR (cs:=[.slice none 0 0,.map none]) hF 4 (by kernel_rfl)) ?_;rintro _ w2 ⟨dx,en,rfl,s_2,bH,hF⟩;replace hl:=(hl.t s_1).t s_2;replace hap:=hap.t s_2;refine cg (k0 (.store 129 (.tmp 9) (.tmp 22))) rfl (dM (vs:=[aK,cA]) (n:=2) rfl rfl (by kernel_rfl) rfl rfl (by repeat' first|exact iP|refine iQ ?_ ?_|rfl|exact(hl.one rfl).2|exact hap.one.2) bH rfl) ?_;rintro _ w3 ⟨rfl,aF,bH⟩;refine aD 10 23 (ak.nil (aj (aj (aq [af 0,af 1] ?_))));refine ah 24 10 ?_;refine ay (au 25 (.binOp .neq 34 (.tmp 24) (.const (.int .i64 0)) 34)) (λ_=>dZ (fM rfl rfl) (by decide)) ?_;refine ak.nil (cQ 25 (bq (aj (aq [af 0,nn 1,af 2,af 3,af 4,af 5,af 6] ?_))));refine ah 28 0 ?_;replace hF:=hF.st aF;replace hl:=hl.t aF;refine bV 29 84 [28] [23] Tryz.call84 rfl (Pp hF hl (by omega)) ?_;rintro jw w4 ⟨lJ,rfl,aI,hu⟩;rw[if_pos nZ] at hu;rw[nZ];refine ah 27 29 ?_;refine dW 30 27 0 (dW 31 27 1 (aD 11 30 (aD 12 31 (ak.nil (aj (aq [af 0] ?_))))));refine aZ 13 (.slice none 0 0) (ak.nil (aj (aj (aq [af 0,af 1,af 2] ?_))));refine ah 32 11 ?_;refine zE 33 32 39 (hu.bU rfl Tryz.underlying39) ?_;refine ef 34 (.int .i64 0) ?_;refine ak.nil (bD 0 ?_)
 refine cM (ι:=Nat×Value×(Nat->Nat)) (I:=λx w=>x.1<=(a_ l).length/\(∀q (hq:q<x.1) (iF:q<(a_ l).length),(wf (a_ l)[q]).2=0)/\aL w x.2.2/\aA [2,3,4,5,6,7,8,9] w₀ (bz C) w x.2.2/\aB w (ax x.2.2) l aK/\fI w (ax x.2.2) ds cA/\cz w x.2.2 4 en (.cells [aK,cA].toArray 129)/\aB w (ax x.2.2) (a_ l) lJ/\aX w x.2.2 6 52 x.2.1 (eS wf ((a_ l).take x.1))) (e:=λx=>[(0,aK),(2,.func (.func gf) #[] #[]),(9,.pointer (some ⟨en,0,none⟩)),(13,x.2.1),(32,lJ),(33,.int .i64 (a_ l).length),(34,.int .i64 x.1)]) (m:=λx=>(a_ l).length-x.1) (cE:=(0,.slice none 0 0,dx)) (ai 0 (ai 2 (ai 9 (ai 13 (ai 32 (ai 33 (ai 34 (aV _)))))))) ?_ ?_
 ·
   replace hT:=(((hT.t s_1).t s_2).t aF).t aI;replace hap:=(hap.t aF).t aI;replace hF:=hF.st aI;replace hl:=hl.t aI;replace bH:=bH.t aI;exact⟨Nat.zero_le _,λq hq=>by simp only at hq;omega,hF,hT,hl,hap,bH,hu,aX.nil⟩
 intro⟨k,ek,bu⟩ dY hI bP;obtain⟨hk,h0,hF,hT,hl,hap,bH,hu,ho⟩:=hI;try simp only at hk h0 hF hT hl hap bH hu ho
 show Run _ _ _ _ [(0,aK),(2,.func (.func gf) #[] #[]),(9,.pointer (some ⟨en,0,none⟩)),(13,ek),(32,lJ),(33,.int .i64 (a_ l).length),(34,.int .i64 k)] _ _;have hle:=hu.le;refine aj (aq [af 0] ?_);refine de 35 3 34 33 (ak.nil (aj ?_));refine bQ 35 rfl (λsX=>?_) (λsX=>?_)
 ·
  have aC:k<(a_ l).length:=by omega
  have fF:=Nu (wf:=wf) aC;have x2:=Nv (wf:=wf) (ps:=(a_ l)) (k+1);have hnl:=congrArg List.length fF;rw[List.length_append] at hnl;refine bq (aj (bD 1 (aj (aq [af 0,nn 1,af 2] ?_))));refine dw 23 36 39 32 34 hu rfl (h:=?_);intro Qz yh uJ;try simp only[aQ] at uJ
  refine iy (au 37 (.load 23 (.tmp 36))) rfl rfl trivial uJ (by kernel_rfl) rfl rfl ?_;intro v37 wC;refine aD 15 37 (ak.nil (aj (aq [af 0,nn 1,af 2,nn 3,af 4,af 5,af 6,af 7,af 8] ?_)));refine ah 39 2 ?_;refine cD 40 129 9 2 ([aK,cA]) bH.at_ ?_;refine ah 41 15 ?_;refine dU (au 42 (.call {callee:=.value (.tmp 39),args:=#[(.tmp 40),(.tmp 41)],argTypes:=#[129,23]})) rfl rfl (ny lM rfl rfl) (hW _ _ k aC _ _ _ hF wC hap) ?_;rintro oG eT ⟨dG,rfl,aG,hps⟩;refine ah 38 42 ?_;refine dW 43 38 0 (dW 44 38 1 (aD 16 43 (aD 17 44 (ak.nil (aj (aj (aq [af 0,af 1] ?_)))))));refine ah 45 17 ?_;refine ay (au 46 (.binOp .neq 34 (.tmp 45) (.const (.int .i64 0)) 34)) (λ_=>fM rfl rfl) ?_;refine ak.nil ?_;refine bQ 46 rfl (λh46=>?_) (λh46=>?_)
  ·
   refine aj (aq [af 0,af 1,af 2,af 3] ?_);refine ah 47 17 (aZ 6 (.slice none 0 0) (aZ 7 (.int .i64 0) (aD 8 47 (ak.nil ?_))));refine IJ (by kernel_rfl) Tryz.func75 Tryz.results75 rfl rfl rfl ?_;replace hT:=hT.t aG;exact⟨hT.cm (by decide),.inl ⟨k,aC,λq hq=>h0 q hq (by omega),h46,rfl⟩⟩
  have p4: (wf ((a_ l)[k]'aC)).2=0:=by omega
  refine bq (aq [af 0,af 1,nn 2,af 3] ?_);refine ah 48 13 (ah 49 16 ?_);replace hF:=hF.st aG;replace ho:=ho.t aG;refine bG (au 50 (.call {callee:=.builtin .append,args:=#[(.tmp 48),(.tmp 49)],argTypes:=#[24,24]})) rfl rfl (gU (e:=52) (bytes:=24) hF (by decide) rfl rfl (by kernel_rfl) (by decide) ho hps (by omega) (by omega)) ?_;rintro v50 w7 ⟨nq,aR,ho,hF⟩;refine aD 13 50 (ak.nil (bO (aq [af 0,af 1] ?_)));refine b7 51 3 34 1 (ah 34 51 (ak.nil ?_));replace hT:=(hT.t aG).t aR;replace hl:=(hl.t aG).t aR;replace hap:=(hap.t aG).t aR;replace bH:=(bH.t aG).t aR;replace hu:=(hu.t aG).t aR;refine kp (aJ 0 rfl rfl (aJ 2 rfl rfl (aJ 9 rfl rfl (aJ 13 rfl rfl (aJ 32 rfl rfl (aJ 33 rfl rfl (aJ 34 rfl (eq_int (by simp)) (aV _)))))))) (bP (k+1,v50,nq) _ ⟨(by first|omega|(simp only;omega)),(λq hq iF=>by
      simp only at hq;by_cases e:q=k
      ·subst e;exact p4
      ·exact h0 q (by omega) iF),hF,hT,hl,hap,bH,hu,(by simp only;rw[fF];exact ho)⟩ (by first|omega|(simp only;omega)))
 have aC:k=(a_ l).length:=by omega
 rw[aC,List.take_length] at ho;refine cB 0 ?_;refine aj (aq [af 0,nn 1,af 2,af 3,nn 4,af 5,af 6,af 7] ?_);refine ah 52 13 ?_;refine bV 53 129 [52] [24] Tryz.call129 rfl (vn hF (by decide) ho lg h12) ?_;rintro uE gD ⟨rfl,zs,mK,aW,ho,hF⟩;have hzl:=mK.len;refine ah 54 0 (ah 55 13 ?_);replace hl:=hl.t aW;refine bV 56 54 [54,55] [23,24] Tryz.call54 rfl (JN (C:=iG) (mW _) hl.c0 (ho.lC (by omega)) hw m_) ?_;rintro _ gO ⟨rfl,bh⟩;replace bh:=bh.re (bu);refine aD 6 53 (aD 7 56 (aZ 8 (.int .i64 0) (ak.nil ?_)));refine IJ (by kernel_rfl) Tryz.func75 Tryz.results75 rfl rfl rfl ?_;replace hT:=(hT.t aW).t bh;replace ho:=ho.t bh;exact⟨hT.cm (by decide),.inr ⟨λq hq=>h0 q (by omega) hq,zs,_,mK,rfl,ho.out hT bF (ez C) (λb _=>iY C (by decide) b) (by omega)⟩⟩
end
end Go.Proofs.YtmdhggfehknjjaaGreat
set_option linter.unusedVariables false
set_option linter.unusedSimpArgs false
set_option maxRecDepth 100000
set_option maxHeartbeats 4000000
namespace Go.Proofs.YtmdhggfehknjjaaGreat
open Go.K Go.K.aY
noncomputable section
namespace RS
def c0:=bZ Tryz.f41
end RS
theorem L0 {w₀:World} {C:Nat->Nat} {l:List bk} {ds:List cC} {aK dI:Value} (hW:Nt Tryz.prog 76 l ds (fc ds)) (hF:aL w₀ C) (hl:aB w₀ (ax C) l aK) (hz:aB w₀ (ax C) ds dI) (nZ:kH l=0) (m_:l.length<=4096) (rq:ds.length<=4096) (hO:∀i (h:i<ds.length),qH ds[i]) (jM:∀i (h:i+1<ds.length),qj ds[i] ds[i+1]<0)
   (hw:∀x∈l,1<=x.w/\x.w<=1048576) (lg:∀x∈eS (fc ds) (a_ l),0<x.length) (h12: (eS (fc ds) (a_ l)).length<=12):Calls Tryz.prog 41 #[aK,dI] w₀ (bI λv w'=>aA [] w₀ C w' C/\
    ((∃k,∃hk:k<(a_ l).length,(∀q (hq:q<k),(fc ds (a_ l)[q]).2=0)/\(fc ds (a_ l)[k]).2≠0/\v=.tuple #[.slice none 0 0,.int .i64 0,.int .i64 (fc ds (a_ l)[k]).2])\/
     ((∀q (hq:q<(a_ l).length),(fc ds (a_ l)[q]).2=0)/\∃zs dG,eB eW (eS (fc ds) (a_ l)) zs/\v=.tuple #[dG,.int .i64 (fh l zs),.int .i64 0]/\aB w' (ax C) zs dG))):=by
 refine bW RS.c0 13 [aK,dI] Tryz.func41 ?_;show Run _ _ _ _ [(0,aK),(1,dI)] _ _;refine aj (aq [af 0,af 1,af 2] ?_);refine aZ 4 (.slice none 0 0) (aZ 5 (.int .i64 0) (aZ 6 (.int .i64 0) (ak.nil (aj (aq [af 0,af 1,nn 2,af 3,af 4,af 5,af 6,af 7,af 8] ?_)))));refine ah 7 0 (ah 8 1 ?_);refine dU (au 9 (.call {callee:=.value (.func 75),args:=#[(.tmp 7),(.tmp 8),(.func 76)],argTypes:=#[23,27,132]})) rfl rfl (dy Tryz.call75 rfl) (C6 (gf:=76) (wf:=fc ds) (λargs w=>Tryz.call76 args w) hW hF hl hz nZ m_ rq hO jM hw lg h12) ?_;rintro kL w1 ⟨s_1,hout⟩;obtain⟨r1,r2,r3,Nd⟩:∃r1 r2 r3,kL=.tuple #[r1,r2,r3]:=by
  rcases hout with⟨k,hk,_,_,e⟩|⟨_,zs,dG,_,e,_⟩
  ·exact⟨_,_,_,e⟩
  exact⟨_,_,_,e⟩
 subst Nd;refine dW 10 9 0 (dW 11 9 1 (dW 12 9 2 (aD 4 10 (aD 5 11 (aD 6 12 (ak.nil ?_))))));refine IJ (by kernel_rfl) Tryz.func41 Tryz.results41 rfl rfl rfl ?_;exact⟨s_1,hout⟩
end
end Go.Proofs.YtmdhggfehknjjaaGreat
set_option linter.unusedVariables false
set_option linter.unusedSimpArgs false
set_option maxRecDepth 100000
set_option maxHeartbeats 4000000
namespace Go.Proofs.YtmdhggfehknjjaaGreat
open Go.K Go.K.aY
theorem Kf {l:List bk} (hv:mR l):∀x∈l,1<=x.w/\x.w<=1048576:=λx hx=>(hv.2.1 x hx).2
theorem RT {w₀:World} {C:Nat->Nat} {l:List bk} {ds:List cC} {aK dI:Value} (hF:aL w₀ C) (hl:aB w₀ (ax C) l aK) (hz:aB w₀ (ax C) ds dI) (hv:mR l) (gu: (bg l).length<=25) (rq:ds.length<=4096) (hO:∀i (h:i<ds.length),qH ds[i]) (jM:∀i (h:i+1<ds.length),qj ds[i] ds[i+1]<0):Calls Tryz.prog 41 #[aK,dI] w₀ (bI λv w'=>aA [] w₀ C w' C/\∃zs dG,eB eW (eS (fc ds) (a_ l)) zs/\v=.tuple #[dG,.int .i64 (fh l zs),.int .i64 0]/\aB w' (ax C) zs dG):=
 (L0 (hW:=λw1 bu i hi HS bN cA gq hp1 c8=>k3 gq hp1 c8 (Kf (Hg hv hi)) (Hg hv hi).1 (λ_=>⟨HZ hi,by have:=Xl hi;have:=hv.1;omega⟩)) hF hl hz hv.check hv.1 rq hO jM (Kf hv) (λx hx=>by have:=zw (λi hi=>qP ds _) x hx;omega) (by have:=HW (l:=l) (ds:=ds) (wf:=fc ds) (λi hi=>qP ds _);omega)).mono (bI.mono λv w' h=>⟨h.1,by
  rcases h.2 with⟨k,hk,_,h2,_⟩|⟨_,h2⟩
  ·exact absurd (show(fc ds (a_ l)[k]).2=0 from by unfold fc;split<;>rfl) h2
  ·exact h2⟩)
end Go.Proofs.YtmdhggfehknjjaaGreat
