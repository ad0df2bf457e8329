/- Steps through functions of the program. -/
import Derived.Test.YtmdhggfehknjjaaGreatJF6
import Derived.Test.YtmdhggfehknjjaaGreatL3
import Derived.Test.YtmdhggfehknjjaaGreatL2
import Derived.Test.YtmdhggfehknjjaaGreatJF7G1
import Derived.Test.YtmdhggfehknjjaaGreatJC7D4
import Derived.Test.YtmdhggfehknjjaaGreatJE7E9
set_option linter.unusedVariables false
set_option linter.unusedSimpArgs false
set_option maxRecDepth 100000
set_option maxHeartbeats 4000000
namespace Go.Proofs.YtmdhggfehknjjaaGreat
open Go.K Go.K.bu
noncomputable section
namespace Ky
def c0:=bZ Tryz.f184
def o1:=dF (cl (aH c0))
end Ky
theorem KO {w₀:World} {C:Nat->Nat} {x y:List av} {vx vy:Value} (hF:aL w₀ C) (hx:aB w₀ (aA C) x vx) (hy:aB w₀ (aA C) y vy) (fN:0<x.length) (Kz:0<y.length):Calls Tryz.prog 184 #[vx,vy] w₀ (bI λv w'=>v=.int .i64 (eW x y)/\ay [] w₀ C w' C):=by
 have bH:=hF;have hT:=z9 w₀ C;replace hF:=hF.bq;replace hx:=hx.c1;replace hy:=hy.c1;refine bT Ky.c0 12 [vx,vy] Tryz.func184 ?_;show Run _ _ _ _ [(0,vx),(1,vy)] _ _;refine ai (aq [af 0] ?_);refine aX 4 (.int .i64 0) (aj.nil (ai ?_));refine dm (id:=1) (ops:=Ky.o1) [] (bq C) [af 0,af 1,af 2,af 3,af 4,af 5,nn 6,af 7] cM (by kernel_rfl) (by kernel_rfl) (by kernel_rfl) ?_;intro w1 s_1;have hR:=ay.refl [] w1 (bq C);replace hx:=hx.t s_1;have hle1:=hx.le;replace hy:=hy.t s_1;have hle2:=hy.le;refine ah 5 0 ?_;refine iS (e:=55) (au 6 (.indexAddr 52 (.tmp 5) (.const (.int .i64 0)))) rfl rfl hx rfl (by kernel_rfl) rfl (by omega) (by omega) ?_;intro Hp jU h6;try simp only[aP] at h6
 refine gu (au 7 (.load 55 (.tmp 6))) rfl rfl (λw' hS=>h6.bF hS) h6 (by kernel_rfl) (by kernel_rfl) rfl rfl ?_;intro uk g7;obtain rfl:=eA.1 g7;refine ah 8 1 ?_;refine iS (e:=55) (au 9 (.indexAddr 52 (.tmp 8) (.const (.int .i64 0)))) rfl rfl hy rfl (by kernel_rfl) rfl (by omega) (by omega) ?_;intro FJ yW fV;try simp only[aP] at fV
 refine gu (au 10 (.load 55 (.tmp 9))) rfl rfl (λw' hS=>fV.bF hS) fV (by kernel_rfl) (by kernel_rfl) rfl rfl ?_;intro v10 g10;obtain rfl:=eA.1 g10;replace hF:=hF.st s_1;refine fJ 11 53 [7,10] [55,55] Tryz.call53 rfl (uv hF) ?_;rintro gL w2 ⟨rfl,s_2⟩;refine⟨(hR.trans s_2 (by simp)).ext,?_⟩;refine aC 4 11 (aj.nil ?_);refine bP Tryz.func184 Tryz.results184 ?_;replace hT:=(hT.t s_1).t s_2;exact⟨by rw[Pv fN Kz];rfl,hT.bW (by decide)⟩
namespace uP
def c0:=bZ Tryz.f151
def uA:=(cl (aH (cl (cl (aH c0)))))
def uz:=(cl (cl (cl (aH (cl uA)))))
def j6:=dF (cl uz)
def JA:=(aH (cl (cl (aH (cl uA)))))
def jU:=dF (cl (cl JA))
end uP
theorem A3 {w₀:World} {C:Nat->Nat} {j a b:Nat} {v:Value} {ys:List (List av)} (hF:aL w₀ C) (hj:j≠0) (ho:bh w₀ C j 52 v ys) (kX:∀x∈ys,0<x.length) (hab:a<=b) (hb:b<=ys.length) (hlen:ys.length<=140737488355328):
    Calls Tryz.prog 151 #[v,.int .i64 a,.int .i64 b,.func (.func 184) #[] #[]] w₀ (bI λu w'=>u=.tuple #[]/\∃zs σ,eL ys σ zs/\eU σ a b/\gW (dY eW ys) σ a b/\ay [j] w₀ C w' C/\bh w' C j 52 v zs/\aL w' C):=by
 have hT:=ay.refl [j] w₀ C;refine bT uP.c0 53 [v,.int .i64 a,.int .i64 b,.func (.func 184) #[] #[]] Tryz.func151 ?_;show Run _ _ _ _ [(0,v),(1,.int .i64 a),(2,.int .i64 b),(3,.func (.func 184) #[] #[])] _ _;refine ai (aq [af 0,af 1,af 2] ?_);refine ah 10 1 ?_;refine cn 11 3 10 1 (aC 8 11 ?_);refine aj.nil (bD 0 ?_);refine cK (ι:=Nat×(List (List av))×(Nat->Nat)) (I:=λx w=>a+1<=x.1/\x.1<=max (a+1) b/\eL ys x.2.2 x.2.1/\eU x.2.2 a x.1/\gW (dY eW ys) x.2.2 a x.1/\aL w C/\ay [j] w₀ C w C/\bh w C j 52 v x.2.1) (e:=λx=>[(0,v),(1,.int .i64 a),(2,.int .i64 b),(3,.func (.func 184) #[] #[]),(8,.int .i64 x.1)]) (m:=λx=>b-x.1) (cE:=(a+1,ys,λi=>i)) (ak 0 (ak 1 (ak 2 (ak 3 (aV 8 rfl (eq_int (by simp)) (aY _)))))) ?_ ?_
 · exact⟨Nat.le_refl _,by omega,eL.id ys,eU.id _ _,λp q h1 h2 h3=>by omega,hF,hT,ho⟩
 intro⟨i,zs,σ⟩ w1 hI bN;obtain⟨hi1,hi2,dH,mN,mH,hF,hT,ho⟩:=hI;try simp only at hi1 hi2 dH mN mH hF hT ho
 show Run _ _ _ _ [(0,v),(1,.int .i64 a),(2,.int .i64 b),(3,.func (.func 184) #[] #[]),(8,.int .i64 i)] _ _;have hzl:=dH.len;refine ai (ai (aq [af 0,af 1,af 2] ?_));refine ah 12 8 (ah 13 2 ?_);refine c4 14 3 12 13 (aj.nil ?_);refine bQ 14 rfl (λeC=>?_) (λeC=>?_)
 ·
  have hib:i<b:=by omega
  have hil:i<ys.length:=by omega
  refine bn (ai (bD 1 (ai (aq [af 0,af 1] ?_))));refine ah 17 8 (aC 9 17 ?_);refine aj.nil (bD 2 ?_);refine cK (ι:=Nat×(List (List av))×(Nat->Nat)) (I:=λx w=>eL ys x.2.2 x.2.1/\mV eW ys x.2.2 a i x.1/\aL w C/\ay [j] w₀ C w C/\bh w C j 52 v x.2.1) (e:=λx=>[(0,v),(1,.int .i64 a),(2,.int .i64 b),(3,.func (.func 184) #[] #[]),(8,.int .i64 i),(9,.int .i64 x.1)]) (m:=λx=>x.1) (cE:=(i,zs,σ)) (ak 0 (ak 1 (ak 2 (ak 3 (ak 8 (ak 9 (aY _))))))) ?_ ?_
  · exact⟨dH,mV.start mN (by omega) mH,hF,hT,ho⟩
  intro⟨q,zs,σ⟩ w2 hI fk;obtain⟨dH,hI,hF,hT,ho⟩:=hI;try simp only at dH hI hF hT ho
  show Run _ _ _ _ [(0,v),(1,.int .i64 a),(2,.int .i64 b),(3,.func (.func 184) #[] #[]),(8,.int .i64 i),(9,.int .i64 q)] _ _;have hzl:=dH.len;have hle:=hI.le;refine ai (ai ?_);by_cases hA: (a:Int)<q
  ·
   refine dm (id:=4) (ops:=uP.j6) [] (C) [af 0,af 1,af 2,af 3,af 4,af 5,af 6,af 7,af 8,af 9,af 10,af 11,af 12,af 13,nn 14,af 15,af 16] cM (by kernel_rfl) (by kernel_rfl) (by kernel_rfl) ?_;intro w3 s_1;have hR:=ay.refl [] w3 (C);refine ah 18 9 (ah 19 1 ?_);refine ax (au 20 (.binOp .gtr 3 (.tmp 18) (.tmp 19) 3)) (λ_=>ei (fH rfl rfl) hA) ?_;refine ah 21 20 ?_;refine cg 22 3 3 true (cg 23 0 3 true (cg 24 9 3 true ?_));replace ho:=ho.t s_1;refine xh (e':=52) (aI 25 (.indexAddr 24 (.tmp 23) (.tmp 24)) 3 true) rfl rfl ho rfl (by kernel_rfl) rfl (by omega) (by first|omega|(simp only[List.length_set];omega)) ?_;intro yd tv;try simp only[aP]
   refine oV (I:=[]) (aI 26 (.load 52 (.tmp 25)) 3 true) rfl rfl ho tv (λw' hS=>ho.bF tv hS) (by first|omega|(simp only[List.length_set];omega)) (by kernel_rfl) rfl rfl ?_;intro v26 mO;try simp only[aP] at mO
   refine cg 27 0 3 true (cg 28 9 3 true ?_);refine ax (aI 29 (.binOp .sub 3 (.tmp 28) (.const (.int .i64 1)) 3) 3 true) (λ_=>eD rfl rfl (by omega) (by omega)) ?_;refine xh (e':=52) (aI 30 (.indexAddr 24 (.tmp 27) (.tmp 29)) 3 true) rfl rfl ho rfl (by kernel_rfl) rfl (by omega) (by first|omega|(simp only[List.length_set];omega)) ?_;intro fD wA;try simp only[aP]
   refine oV (I:=[]) (aI 31 (.load 52 (.tmp 30)) 3 true) rfl rfl ho wA (λw' hS=>ho.bF wA hS) (by first|omega|(simp only[List.length_set];omega)) (by kernel_rfl) rfl rfl ?_;intro v31 lX;try simp only[aP] at lX
   have jN: ((q:Int)-1).toNat=q-1:=by omega
   simp only[jN] at lX;replace hF:=hF.st s_1;refine iG (aI 32 (.call {callee:=.value (.tmp 22),args:=#[(.tmp 26),(.tmp 31)],argTypes:=#[52,52]}) 3 true) rfl rfl (nB (λargs w=>Tryz.call184 args w) rfl rfl) (KO hF mO lX (kX _ (dH.sub _ (List.getElem_mem (by omega)))) (kX _ (dH.sub _ (List.getElem_mem (by omega))))) ?_;rintro iM w4 ⟨rfl,s_2⟩;refine⟨(hR.trans s_2 (by simp)).ext,?_⟩;refine ax (aI 33 (.binOp .lss 3 (.tmp 32) (.const (.int .i64 0)) 3) 3 true) (λ_=>eO rfl rfl) ?_;refine dD 34 21 33 ?_;refine aj.nil ?_;refine bQ 34 rfl (λnq=>?_) (λnq=>?_)
   ·
    have jg:=(hI.ord r_ (λx _=>trivial) dH (by omega) hil (by omega) (by omega)).2 nq;refine bn (ai (bD 3 ?_));refine xD (id:=6) (ops:=uP.jU) [j] (C) 17 (.fork [0,1,2,3,4,5,6,7,8,10,11,12] 9 (.run [nn 13,af 14,nn 15,af 16,nn 17]) 13 (.run [nn 9,af 14,nn 15,af 16,nn 17])) cM (by kernel_rfl) (by kernel_rfl) (by kernel_rfl) ?_;intro dZ aD;have hR:=ay.refl [j] dZ (C);refine xB ?_;show bM _ _ _ _ _ [af 0,af 1,af 2,af 3,af 4,af 5,af 6,af 7,af 8,af 10,af 11,af 12] _ _;refine ah 37 0 (ah 38 9 (ah 39 0 (ah 40 9 ?_)));refine ax (au 41 (.binOp .sub 3 (.tmp 40) (.const (.int .i64 1)) 3)) (λ_=>eD rfl rfl (by omega) (by omega)) ?_;refine ah 42 0 (ah 43 9 ?_);refine ax (au 44 (.binOp .sub 3 (.tmp 43) (.const (.int .i64 1)) 3)) (λ_=>eD rfl rfl (by omega) (by omega)) ?_;replace ho:=(ho.t s_2).t aD;refine dK 52 45 24 42 44 ho rfl (by first|omega|(simp only[List.length_set];omega)) (h:=?_);intro E8 wB;try simp only[aP]
    refine ah 47 0 (ah 48 9 ?_);refine dK 52 49 24 47 48 ho rfl (by first|omega|(simp only[List.length_set];omega)) (h:=?_);intro yJ sn;try simp only[aP]
    refine xC ?_ ?_
    ·
     show bM _ _ _ _ _ [nn 9] _ _;refine qA (au 46 (.load 52 (.tmp 45))) rfl rfl hR.ext ho wB (by first|omega|(simp only[List.length_set];omega)) (by kernel_rfl) rfl rfl ?_;intro v46 i_;try simp only[aP] at i_
     have jN: ((q:Int)-1).toNat=q-1:=by omega
     simp only[jN] at i_;refine pg hR.ext ?_;refine o_ ?_;show bM _ _ _ _ _ [nn 13,af 14,nn 15,af 16,nn 17] _ _;refine qA (au 50 (.load 52 (.tmp 49))) rfl rfl hR.ext ho sn (by first|omega|(simp only[List.length_set];omega)) (by kernel_rfl) rfl rfl ?_;intro v50 fF;try simp only[aP] at fF
     refine dK 52 51 24 37 38 ho rfl (by first|omega|(simp only[List.length_set];omega)) (h:=?_);intro pM ku;try simp only[aP]
     refine od (k0 (.store 52 (.tmp 51) (.tmp 46))) rfl (gw ho ku (by first|omega|(simp only[List.length_set];omega)) rfl rfl (by kernel_rfl) i_) ?_;rintro _ eS ⟨rfl,aK,ho⟩;refine⟨(hR.trans aK (by simp)).ext,?_⟩;replace hT:=((hT.t s_1).t s_2).t aD;replace hT:=hT.trans aK (by simp<;>omega);replace hR:=hR.trans aK (by simp<;>omega);refine dK 52 52 24 39 41 ho rfl (by first|omega|(simp only[List.length_set];omega)) (h:=?_);intro qo sq;try simp only[aP]
     refine aj.free rfl ?_;replace fF:=fF.t aK;refine cq (k0 (.store 52 (.tmp 52) (.tmp 50))) rfl (gw ho sq (by first|omega|(simp only[List.length_set];omega)) rfl rfl (by kernel_rfl) fF) ?_;rintro _ w7 ⟨rfl,aJ,ho⟩;replace hT:=hT.trans aJ (by simp<;>omega);refine aj.nil (bR (aq [af 0,af 1,af 2] ?_));refine ah 35 9 ?_;refine ax (au 36 (.binOp .sub 3 (.tmp 35) (.const (.int .i64 1)) 3)) (λ_=>eD rfl rfl (by omega) (by omega)) ?_;refine aC 9 36 (aj.nil ?_);try simp only[show((q:Int)-1).toNat=q-1 from by omega,aP] at ho
     replace hF:=(((hF.st s_2).st aD).st aK).st aJ;refine kp (ak 0 (ak 1 (ak 2 (ak 3 (ak 8 (aV 9 rfl (eq_int (by simp only;omega)) (aY _))))))) (fk (q-1,((zs.set q (zs[q-1]'(by omega))).set (q-1) (zs[q]'(by omega))),(jS σ q (q-1))) _ ⟨(dH.swap (by omega) (by omega) rfl rfl),(hI.step (by omega) jg),hF,hT,ho⟩ (by first|omega|(simp only;omega)))
    show bM _ _ _ _ _ [nn 13] _ _;refine qA (au 50 (.load 52 (.tmp 49))) rfl rfl hR.ext ho sn (by first|omega|(simp only[List.length_set];omega)) (by kernel_rfl) rfl rfl ?_;intro v50 fF;try simp only[aP] at fF
    refine pg hR.ext ?_;refine o_ ?_;show bM _ _ _ _ _ [nn 9,af 14,nn 15,af 16,nn 17] _ _;refine qA (au 46 (.load 52 (.tmp 45))) rfl rfl hR.ext ho wB (by first|omega|(simp only[List.length_set];omega)) (by kernel_rfl) rfl rfl ?_;intro v46 i_;try simp only[aP] at i_
    have jN: ((q:Int)-1).toNat=q-1:=by omega
    simp only[jN] at i_;refine dK 52 51 24 37 38 ho rfl (by first|omega|(simp only[List.length_set];omega)) (h:=?_);intro pM ku;try simp only[aP]
    refine od (k0 (.store 52 (.tmp 51) (.tmp 46))) rfl (gw ho ku (by first|omega|(simp only[List.length_set];omega)) rfl rfl (by kernel_rfl) i_) ?_;rintro _ gp ⟨rfl,aR,ho⟩;refine⟨(hR.trans aR (by simp)).ext,?_⟩;replace hT:=((hT.t s_1).t s_2).t aD;replace hT:=hT.trans aR (by simp<;>omega);replace hR:=hR.trans aR (by simp<;>omega);refine dK 52 52 24 39 41 ho rfl (by first|omega|(simp only[List.length_set];omega)) (h:=?_);intro qo sq;try simp only[aP]
    refine aj.free rfl ?_;replace fF:=fF.t aR;refine cq (k0 (.store 52 (.tmp 52) (.tmp 50))) rfl (gw ho sq (by first|omega|(simp only[List.length_set];omega)) rfl rfl (by kernel_rfl) fF) ?_;rintro _ gM ⟨rfl,aZ,ho⟩;replace hT:=hT.trans aZ (by simp<;>omega);refine aj.nil (bR (aq [af 0,af 1,af 2] ?_));refine ah 35 9 ?_;refine ax (au 36 (.binOp .sub 3 (.tmp 35) (.const (.int .i64 1)) 3)) (λ_=>eD rfl rfl (by omega) (by omega)) ?_;refine aC 9 36 (aj.nil ?_);try simp only[show((q:Int)-1).toNat=q-1 from by omega,aP] at ho
    replace hF:=(((hF.st s_2).st aD).st aR).st aZ;refine kp (ak 0 (ak 1 (ak 2 (ak 3 (ak 8 (aV 9 rfl (eq_int (by simp only;omega)) (aY _))))))) (fk (q-1,((zs.set q (zs[q-1]'(by omega))).set (q-1) (zs[q]'(by omega))),(jS σ q (q-1))) _ ⟨(dH.swap (by omega) (by omega) rfl rfl),(hI.step (by omega) jg),hF,hT,ho⟩ (by first|omega|(simp only;omega)))
   have jg:q=a\/¬dY eW ys i (σ (q-1)):=.inr (λe=>nq ((hI.ord r_ (λx _=>trivial) dH (by omega) hil (by omega) (by omega)).1 e));refine cB 2 ?_;refine bR (aq [af 0,af 1,af 2] ?_)
   skip
   refine ah 15 8 ?_;refine cn 16 3 15 1 (aC 8 16 (aj.nil ?_));have su:q=a\/¬dY eW ys i (σ (q-1)):=jg;obtain⟨mh,ha2⟩:=hI.done r_ (λx _=>trivial) hil su;replace hT:=(hT.t s_1).t s_2;replace hF:=hF.st s_2;replace ho:=ho.t s_2;refine kp (ak 0 (ak 1 (ak 2 (ak 3 (aV 8 rfl (eq_int (by simp)) (aY _)))))) (bN (i+1,zs,σ) _ ⟨(by first|omega|(simp only;omega)),(by first|omega|(simp only;omega)),(by first|omega|(simp only;omega)),mh,ha2,hF,hT,ho⟩ (by first|omega|(simp only;omega)))
  refine dm (id:=4) (ops:=uP.j6) [] (C) [af 0,af 1,af 2,af 3,af 4,af 5,af 6,af 7,af 8,af 9,af 10,af 11,af 12,af 13,nn 14,af 15,af 16] cM (by kernel_rfl) (by kernel_rfl) (by kernel_rfl) ?_;intro ij bg;have hR:=ay.refl [] ij (C);refine ah 18 9 (ah 19 1 ?_);refine ax (au 20 (.binOp .gtr 3 (.tmp 18) (.tmp 19) 3)) (λ_=>fm (fH rfl rfl) hA) ?_;refine ah 21 20 ?_;refine aM 22 3 true (aM 23 3 true (aM 24 3 true (aM 25 3 true (aM 26 3 true (aM 27 3 true (aM 28 3 true (aM 29 3 true (aM 30 3 true (aM 31 3 true ?_)))))))));refine dz (aI 32 (.call {callee:=.value (.tmp 22),args:=#[(.tmp 26),(.tmp 31)],argTypes:=#[52,52]}) 3 true) rfl rfl hR.ext ?_;refine aM 33 3 true ?_;refine fq 34 21 33 ?_;refine aj.nil (cR 34 (cB 2 ?_));refine bR (aq [af 0,af 1,af 2] ?_)
  skip
  refine ah 15 8 ?_;refine cn 16 3 15 1 (aC 8 16 (aj.nil ?_));have su:q=a\/¬dY eW ys i (σ (q-1)):=.inl (by omega);obtain⟨mh,ha2⟩:=hI.done r_ (λx _=>trivial) hil su;replace hF:=hF.st bg;replace hT:=hT.t bg;replace ho:=ho.t bg;refine kp (ak 0 (ak 1 (ak 2 (ak 3 (aV 8 rfl (eq_int (by simp)) (aY _)))))) (bN (i+1,zs,σ) _ ⟨(by first|omega|(simp only;omega)),(by first|omega|(simp only;omega)),(by first|omega|(simp only;omega)),mh,ha2,hF,hT,ho⟩ (by first|omega|(simp only;omega)))
 have hib:b<=i:=by omega
 refine cB 0 ?_;refine nE Tryz.func151 rfl ?_;refine⟨rfl,zs,σ,dH,?_,?_,hT,ho,hF⟩
 · by_cases e:i=a+1
   · subst e;exact mN.thin hab
   rw[show b=i by omega];exact mN
 exact λp q h1 h2 h3=>mH p q h1 h2 (by omega)
namespace KA
def c0:=bZ Tryz.f94
end KA
theorem ug {w₀:World} {C:Nat->Nat} {j:Nat} {v:Value} {ys:List (List av)} {m:Int} (hF:aL w₀ C) (hj:j≠0) (ho:bh w₀ C j 52 v ys) (kX:∀x∈ys,0<x.length) (hlen:ys.length<=12):
   Calls Tryz.prog 94 #[v,.int .i64 0,.int .i64 ys.length,.int .i64 m,.func (.func 184) #[] #[]] w₀ (bI λu w'=>u=.tuple #[]/\∃zs,eG eW ys zs/\ay [j] w₀ C w' C/\bh w' C j 52 v zs/\aL w' C):=by
 have hT:=ay.refl [j] w₀ C;refine bT KA.c0 148 [v,.int .i64 0,.int .i64 ys.length,.int .i64 m,.func (.func 184) #[] #[]] Tryz.func94 ?_;show Run _ _ _ _ [(0,v),(1,.int .i64 0),(2,.int .i64 ys.length),(3,.int .i64 m),(4,.func (.func 184) #[] #[])] _ _;refine ai (aq [af 0] ?_);refine aX 10 (.bool true) (aj.nil (ai (aq [af 0] ?_)));refine aX 11 (.bool true) ?_;refine aj.nil (bD 0 ?_);refine cK (ι:=Nat) (I:=λx w=>aL w C/\ay [j] w₀ C w C/\bh w C j 52 v ys) (e:=λx=>[(0,v),(1,.int .i64 0),(2,.int .i64 ys.length),(4,.func (.func 184) #[] #[])]) (m:=λx=>0) (cE:=0) (ak 0 (ak 1 (ak 2 (ak 4 (aY _))))) ?_ ?_
 ·exact⟨hF,hT,ho⟩
 intro z w1 hI bN;obtain⟨hF,hT,ho⟩:=hI;try simp only at hF hT ho
 show Run _ _ _ _ [(0,v),(1,.int .i64 0),(2,.int .i64 ys.length),(4,.func (.func 184) #[] #[])] _ _;refine bD 1 (ai (aq [af 0,af 1,af 2,af 3] ?_));refine ah 21 2 (ah 22 1 ?_);refine ax (au 23 (.binOp .sub 3 (.tmp 21) (.tmp 22) 3)) (λ_=>eD rfl rfl (by omega) (by omega)) ?_;refine aC 12 23 (aj.nil (ai (ai (aq [af 0,af 1] ?_))));refine ah 24 12 ?_;refine ax (au 25 (.binOp .leq 3 (.tmp 24) (.const (.int .i64 12)) 3)) (λ_=>sL (nA rfl rfl) (by omega)) ?_;refine aj.nil (lH 25 (ai (aq [af 0,af 1,af 2,af 3,nn 4] ?_)));refine ah 26 0 (ah 27 1 (ah 28 2 (ah 29 4 ?_)));refine bU 30 151 [26,27,28,29] [24,3,3,108] Tryz.call151 rfl (A3 (a:=0) (b:=ys.length) hF hj ho kX (Nat.zero_le _) (Nat.le_refl _) (by omega)) ?_;rintro gL w2 ⟨rfl,zs,σ,dH,mN,mH,s_1,ho,hF⟩;replace hT:=hT.trans s_1 (by simp<;>omega);refine aj.nil ?_;refine zi (by kernel_rfl) Tryz.func94 Tryz.results94 ?_;exact⟨rfl,zs,⟨σ,dH,mN,mH⟩,hT,ho,hF⟩
def c9:ByteArray:=⟨#[0,1,2,2,3,3,3,3,4,4,4,4,4,4,4,4,5,5,5,5,5,5,5,5,5,5,5,5,5,5,5,5,6,6,6,6,6,6,6,6,6,6,6,6,6,6,6,6,6,6,6,6,6,6,6,6,6,6,6,6,6,6,6,6,7,7,7,7,7,7,7,7,7,7,7,7,7,7,7,7,7,7,7,7,7,7,7,7,7,7,7,7,7,7,7,7,7,7,7,7,7,7,7,7,7,7,7,7,7,7,7,7,7,7,7,7,7,7,7,7,7,7,7,7,7,7,7,7,8,8,8,8,8,8,8,8,8,8,8,8,8,8,8,8,8,8,8,8,8,8,8,8,8,8,8,8,8,8,8,8,8,8,8,8,8,8,8,8,8,8,8,8,8,8,8,8,8,8,8,8,8,8,8,8,8,8,8,8,8,8,8,8,8,8,8,8,8,8,8,8,8,8,8,8,8,8,8,8,8,8,8,8,8,8,8,8,8,8,8,8,8,8,8,8,8,8,8,8,8,8,8,8,8,8,8,8,8,8,8,8,8,8,8,8,8,8,8,8,8,8,8,8,8,8,8,8]⟩
namespace SR
def c0:=bZ Tryz.f160
end SR
theorem bf {n:Nat} (hn:n<=12) (w₀:World):Calls Tryz.prog 160 #[.int .u64 n] w₀ (bI λv w'=>(∃m,v=.int .i64 m)/\w'=w₀):=by
 refine bT SR.c0 25 [.int .u64 n] Tryz.func160 ?_;show Run _ _ _ _ [(0,.int .u64 n)] _ _;refine ai (aq [af 0] ?_);refine aX 2 (.int .i64 0) (aj.nil (ai (ai (aq [af 0,af 1] ?_))));refine ah 3 0 ?_;refine ax (au 4 (.binOp .geq 84 (.tmp 3) (.const (.int .u64 4294967296)) 84)) (λ_=>ej (fB rfl rfl) (by omega)) ?_;refine aj.nil (cR 4 (bn (ai (ai (aq [af 0,af 1] ?_)))));refine ah 7 0 ?_;refine ax (au 8 (.binOp .geq 84 (.tmp 7) (.const (.int .u64 65536)) 84)) (λ_=>ej (fB rfl rfl) (by omega)) ?_;refine aj.nil (cR 8 (bn (ai (ai (aq [af 0,af 1] ?_)))));refine ah 13 0 ?_;refine ax (au 14 (.binOp .geq 84 (.tmp 13) (.const (.int .u64 256)) 84)) (λ_=>ej (fB rfl rfl) (by omega)) ?_;refine aj.nil (cR 14 (bn (ai (aq [af 0,af 1,af 2,af 3,af 4,af 5,af 6] ?_))));refine ah 19 2 (ah 20 0 ?_);refine ax (au 21 (.convert 84 5 (.tmp 20))) (λ_=>uT (r:=(n:Int)) rfl ⟨_,Tryz.underlying84⟩ Tryz.underlying5 (V1 hn)) ?_;obtain⟨SS,qb⟩:=V2 (s:=c9) (n:=n) (by show n<256;omega);refine ax (au 22 (.index 9 (.const (.string ⟨#[0,1,2,2,3,3,3,3,4,4,4,4,4,4,4,4,5,5,5,5,5,5,5,5,5,5,5,5,5,5,5,5,6,6,6,6,6,6,6,6,6,6,6,6,6,6,6,6,6,6,6,6,6,6,6,6,6,6,6,6,6,6,6,6,7,7,7,7,7,7,7,7,7,7,7,7,7,7,7,7,7,7,7,7,7,7,7,7,7,7,7,7,7,7,7,7,7,7,7,7,7,7,7,7,7,7,7,7,7,7,7,7,7,7,7,7,7,7,7,7,7,7,7,7,7,7,7,7,8,8,8,8,8,8,8,8,8,8,8,8,8,8,8,8,8,8,8,8,8,8,8,8,8,8,8,8,8,8,8,8,8,8,8,8,8,8,8,8,8,8,8,8,8,8,8,8,8,8,8,8,8,8,8,8,8,8,8,8,8,8,8,8,8,8,8,8,8,8,8,8,8,8,8,8,8,8,8,8,8,8,8,8,8,8,8,8,8,8,8,8,8,8,8,8,8,8,8,8,8,8,8,8,8,8,8,8,8,8,8,8,8,8,8,8,8,8,8,8,8,8,8,8,8,8,8,8]⟩)) (.tmp 21))) (λ_=>V3 rfl rfl Tryz.underlying9 qb) ?_;refine ax (au 23 (.convert 5 3 (.tmp 22))) (λ_=>tF rfl ⟨_,Tryz.underlying5⟩ Tryz.underlying3) ?_;refine ax (au 24 (.binOp .add 3 (.tmp 19) (.tmp 23) 3)) (λ_=>val_add rfl rfl) ?_;refine aC 2 24 (aj.nil ?_);refine bP Tryz.func160 Tryz.results160 ?_;exact⟨⟨_,rfl⟩,rfl⟩
namespace SU
def c0:=bZ Tryz.f95
end SU
theorem SV {n:Nat} (hn:n<=12) (w₀:World):Calls Tryz.prog 95 #[.int .u64 n] w₀ (bI λv w'=>(∃m,v=.int .i64 m)/\w'=w₀):=by
 refine bT SU.c0 8 [.int .u64 n] Tryz.func95 ?_;show Run _ _ _ _ [(0,.int .u64 n)] _ _;refine ai (aq [af 0] ?_);refine aX 2 (.int .i64 0) (aj.nil (ai ?_));refine V5 (by kernel_rfl) ?_;refine bn (ai (aq [af 0,nn 1,af 2] ?_));refine ah 6 0 ?_;refine bU 7 160 [6] [84] Tryz.call160 rfl (bf hn _) ?_;rintro j3 w1 ⟨⟨m,rfl⟩,e⟩;obtain rfl:=e.symm;refine aC 2 7 (aj.nil ?_);refine bP Tryz.func95 Tryz.results95 ?_;exact⟨⟨_,rfl⟩,rfl⟩
namespace KB
def c0:=bZ Tryz.f51
end KB
theorem X2 {w₀:World} {C:Nat->Nat} {j:Nat} {v:Value} {ys:List (List av)} (hF:aL w₀ C) (hj:j≠0) (ho:bh w₀ C j 52 v ys) (kX:∀x∈ys,0<x.length) (hlen:ys.length<=12):
  Calls Tryz.prog 51 #[v,.func (.func 184) #[] #[]] w₀ (bI λu w'=>u=.tuple #[]/\∃zs,eG eW ys zs/\ay [j] w₀ C w' C/\bh w' C j 52 v zs/\aL w' C):=by
 have hT:=ay.refl [j] w₀ C;refine bT KB.c0 14 [v,.func (.func 184) #[] #[]] Tryz.func51 ?_;show Run _ _ _ _ [(0,v),(1,.func (.func 184) #[] #[])] _ _;refine ai (aq [af 0,af 1,af 2] ?_);refine ah 5 0 ?_;refine zE 6 5 24 (ho.bS rfl Tryz.underlying24) ?_;refine aC 4 6 (aj.nil (aq [af 0,af 1,af 2,af 3,nn 4,af 5,nn 6] ?_));refine ah 7 0 (ah 8 4 (ah 9 4 ?_));refine ax (au 10 (.convert 3 112 (.tmp 9))) (λ_=>uT (r:=(ys.length:Int)) rfl ⟨_,Tryz.underlying3⟩ Tryz.underlying112 (MV (by omega))) ?_;refine bU 11 95 [10] [112] Tryz.call95 rfl (SV hlen _) ?_;rintro j3 w1 ⟨⟨m,rfl⟩,rfl⟩;refine ah 12 1 ?_;refine dN (au 13 (.call {callee:=.value (.func 94),args:=#[(.tmp 7),(.const (.int .i64 0)),(.tmp 8),(.tmp 11),(.tmp 12)],argTypes:=#[24,3,3,3,108]})) rfl rfl (de Tryz.call94 rfl) (ug hF hj ho kX hlen) ?_;rintro gL w2 ⟨rfl,zs,mP,s_1,ho,hF⟩;replace hT:=hT.trans s_1 (by simp<;>omega);refine aj.nil ?_;refine nE Tryz.func51 rfl ?_;exact⟨rfl,zs,mP,hT,ho,hF⟩
namespace SX
def c0:=bZ Tryz.f129
end SX
theorem Cb {w₀:World} {C:Nat->Nat} {j:Nat} {v:Value} {ys:List (List av)} (hF:aL w₀ C) (hj:j≠0) (ho:bh w₀ C j 52 v ys) (kX:∀x∈ys,0<x.length) (hlen:ys.length<=12):
  Calls Tryz.prog 129 #[v] w₀ (bI λu w'=>u=v/\∃zs,eG eW ys zs/\ay [j] w₀ C w' C/\bh w' C j 52 v zs/\aL w' C):=by
 have hT:=ay.refl [j] w₀ C;refine bT SX.c0 6 [v] Tryz.func129 ?_;show Run _ _ _ _ [(0,v)] _ _;refine ai (aq [af 0] ?_);refine aX 2 (.slice none 0 0) (aj.nil (ai (aq [af 0,nn 1] ?_)));refine ah 3 0 ?_;refine dN (au 4 (.call {callee:=.value (.func 51),args:=#[(.tmp 3),(.func 184)],argTypes:=#[24,108]})) rfl rfl (de Tryz.call51 rfl) (X2 hF hj ho kX hlen) ?_;rintro j3 w1 ⟨rfl,zs,mP,s_1,ho,hF⟩;replace hT:=hT.trans s_1 (by simp<;>omega);refine aj.nil (ai (aq [af 0,af 1] ?_));refine ah 5 0 (aC 2 5 (aj.nil ?_));refine bP Tryz.func129 Tryz.results129 ?_;exact⟨rfl,zs,mP,hT,ho,hF⟩
end
end Go.Proofs.YtmdhggfehknjjaaGreat
set_option linter.unusedVariables false
set_option linter.unusedSimpArgs false
set_option maxRecDepth 100000
set_option maxHeartbeats 4000000
namespace Go.Proofs.YtmdhggfehknjjaaGreat
open Go.K Go.K.bu
noncomputable section
namespace SY
def c0:=bZ Tryz.f75
end SY
theorem F9 {w₀:World} {C:Nat->Nat} {l:List a_} {ds:List cI} {aG dR:Value} {gf:Nat} {wf:List a_->List (List av)×Int} (lE:∀args w,(callFunc gf args).run Tryz.prog w=.ok (.enter gf args) w) (hW:Px Tryz.prog gf l ds wf) (hF:aL w₀ C) (hl:aB w₀ (aA C) l aG) (hz:aB w₀ (aA C) ds dR) (l8:jH l=0) (mL:l.length<=4096) (rB:ds.length<=4096) (hO:∀i (h:i<ds.length),qF ds[i]) (jM:∀i (h:i+1<ds.length),qf ds[i] ds[i+1]<0)
    (hw:∀x∈l,1<=x.w/\x.w<=1048576) (kX:∀x∈eN wf (bk l),0<x.length) (h12: (eN wf (bk l)).length<=12):Calls Tryz.prog 75 #[aG,dR,.func (.func gf) #[] #[]] w₀ (bI λv w'=>ay [] w₀ C w' C/\
     ((∃k,∃hk:k<(bk l).length,(∀q (hq:q<k),(wf (bk l)[q]).2=0)/\(wf (bk l)[k]).2≠0/\v=.tuple #[.slice none 0 0,.int .i64 0,.int .i64 (wf (bk l)[k]).2])\/
      ((∀q (hq:q<(bk l).length),(wf (bk l)[q]).2=0)/\∃zs dL,eG eW (eN wf (bk l)) zs/\v=.tuple #[dL,.int .i64 (fh l zs),.int .i64 0]/\aB w' (aA C) zs dL))):=by
 have bH:=hF;have hT:=z9 w₀ C;replace hF:=hF.bq;replace hl:=hl.c1;replace hz:=hz.c1;refine bT SY.c0 57 [aG,dR,.func (.func gf) #[] #[]] Tryz.func75 ?_;show Run _ _ _ _ [(0,aG),(1,dR),(2,.func (.func gf) #[] #[])] _ _;refine ai (aq [af 0,af 1,af 2] ?_);refine aX 6 (.slice none 0 0) (aX 7 (.int .i64 0) (aX 8 (.int .i64 0) (aj.nil (ai (aq [af 0,af 1,nn 2,af 3,af 4,af 5,nn 6,nn 7,af 8] ?_)))));refine ah 19 0 (ah 20 1 ?_);refine bU 21 128 [19,20] [23,27] Tryz.call128 rfl (R2 hF hl hz l8 rB hO jM) ?_;rintro j3 w1 ⟨cC,rfl,s_1,hap⟩;refine ah 18 21 ?_;refine dS 22 18 0 (dS 23 18 1 ?_);replace hF:=hF.st s_1;refine bG (au 9 (.alloc 129)) rfl rfl (ec (cs:=[.slice none 0 0,.map none]) hF 4 (by kernel_rfl)) ?_;rintro _ w2 ⟨cQ,ek,rfl,s_2,bK,hF⟩;replace hl:=(hl.t s_1).t s_2;replace hap:=hap.t s_2;refine cq (k0 (.store 129 (.tmp 9) (.tmp 22))) rfl (dX (vs:=[aG,cC]) (n:=2) rfl rfl (by kernel_rfl) rfl rfl (by repeat' first|exact iQ|refine iT ?_ ?_|rfl|exact(hl.one rfl).2|exact hap.one.2) bK rfl) ?_;rintro _ w3 ⟨rfl,aD,bK⟩;refine aC 10 23 (aj.nil (ai (ai (aq [af 0,af 1] ?_))));refine ah 24 10 ?_;refine ax (au 25 (.binOp .neq 34 (.tmp 24) (.const (.int .i64 0)) 34)) (λ_=>ej (fI rfl rfl) (by decide)) ?_;refine aj.nil (cR 25 (bn (ai (aq [af 0,nn 1,af 2,af 3,af 4,af 5,af 6] ?_))));refine ah 28 0 ?_;replace hF:=hF.st aD;replace hl:=hl.t aD;refine bU 29 84 [28] [23] Tryz.call84 rfl (Pc hF hl (by omega)) ?_;rintro iM w4 ⟨lC,rfl,aK,hu⟩;rw[if_pos l8] at hu;rw[l8];refine ah 27 29 ?_;refine dS 30 27 0 (dS 31 27 1 (aC 11 30 (aC 12 31 (aj.nil (ai (aq [af 0] ?_))))));refine aX 13 (.slice none 0 0) (aj.nil (ai (ai (aq [af 0,af 1,af 2] ?_))));refine ah 32 11 ?_;refine zE 33 32 39 (hu.bS rfl Tryz.underlying39) ?_;refine eE 34 (.int .i64 0) ?_;refine aj.nil (bD 0 ?_)
 refine cK (ι:=Nat×Value×(Nat->Nat)) (I:=λx w=>x.1<=(bk l).length/\(∀q (hq:q<x.1) (iL:q<(bk l).length),(wf (bk l)[q]).2=0)/\aL w x.2.2/\ay [2,3,4,5,6,7,8,9] w₀ (bq C) w x.2.2/\aB w (aA x.2.2) l aG/\fP w (aA x.2.2) ds cC/\cD w x.2.2 4 ek (.cells [aG,cC].toArray 129)/\aB w (aA x.2.2) (bk l) lC/\bh w x.2.2 6 52 x.2.1 (eN wf ((bk l).take x.1))) (e:=λx=>[(0,aG),(2,.func (.func gf) #[] #[]),(9,.pointer (some ⟨ek,0,none⟩)),(13,x.2.1),(32,lC),(33,.int .i64 (bk l).length),(34,.int .i64 x.1)]) (m:=λx=>(bk l).length-x.1) (cE:=(0,.slice none 0 0,cQ)) (ak 0 (ak 2 (ak 9 (ak 13 (ak 32 (ak 33 (ak 34 (aY _)))))))) ?_ ?_
 ·
   replace hT:=(((hT.t s_1).t s_2).t aD).t aK;replace hap:=(hap.t aD).t aK;replace hF:=hF.st aK;replace hl:=hl.t aK;replace bK:=bK.t aK;exact⟨Nat.zero_le _,λq hq=>by simp only at hq;omega,hF,hT,hl,hap,bK,hu,bh.nil⟩
 intro⟨k,dU,aW⟩ dZ hI bN;obtain⟨hk,h0,hF,hT,hl,hap,bK,hu,ho⟩:=hI;try simp only at hk h0 hF hT hl hap bK hu ho
 show Run _ _ _ _ [(0,aG),(2,.func (.func gf) #[] #[]),(9,.pointer (some ⟨ek,0,none⟩)),(13,dU),(32,lC),(33,.int .i64 (bk l).length),(34,.int .i64 k)] _ _;have hle:=hu.le;refine ai (aq [af 0] ?_);refine c4 35 3 34 33 (aj.nil (ai ?_));refine bQ 35 rfl (λtd=>?_) (λtd=>?_)
 ·
  have aF:k<(bk l).length:=by omega
  have fN:=Py (wf:=wf) aF;have Wt:=Pz (wf:=wf) (ps:=(bk l)) (k+1);have hnl:=congrArg List.length fN;rw[List.length_append] at hnl;refine bn (ai (bD 1 (ai (aq [af 0,nn 1,af 2] ?_))));refine c5 23 36 39 32 34 hu rfl (h:=?_);intro Rw Rx kE;try simp only[aP] at kE
  refine gP (au 37 (.load 23 (.tmp 36))) rfl rfl trivial kE (by kernel_rfl) rfl rfl ?_;intro v37 wD;refine aC 15 37 (aj.nil (ai (aq [af 0,nn 1,af 2,nn 3,af 4,af 5,af 6,af 7,af 8] ?_)));refine ah 39 2 ?_;refine cA 40 129 9 2 ([aG,cC]) bK.at_ ?_;refine ah 41 15 ?_;refine dN (au 42 (.call {callee:=.value (.tmp 39),args:=#[(.tmp 40),(.tmp 41)],argTypes:=#[129,23]})) rfl rfl (nB lE rfl rfl) (hW _ _ k aF _ _ _ hF wD hap) ?_;rintro nR eS ⟨dL,rfl,aJ,hps⟩;refine ah 38 42 ?_;refine dS 43 38 0 (dS 44 38 1 (aC 16 43 (aC 17 44 (aj.nil (ai (ai (aq [af 0,af 1] ?_)))))));refine ah 45 17 ?_;refine ax (au 46 (.binOp .neq 34 (.tmp 45) (.const (.int .i64 0)) 34)) (λ_=>fI rfl rfl) ?_;refine aj.nil ?_;refine bQ 46 rfl (λh46=>?_) (λh46=>?_)
  ·
   refine ai (aq [af 0,af 1,af 2,af 3] ?_);refine ah 47 17 (aX 6 (.slice none 0 0) (aX 7 (.int .i64 0) (aC 8 47 (aj.nil ?_))));refine Jd (by kernel_rfl) Tryz.func75 Tryz.results75 rfl rfl rfl ?_;replace hT:=hT.t aJ;exact⟨hT.bW (by decide),.inl ⟨k,aF,λq hq=>h0 q hq (by omega),h46,rfl⟩⟩
  have Gv: (wf ((bk l)[k]'aF)).2=0:=by omega
  refine bn (aq [af 0,af 1,nn 2,af 3] ?_);refine ah 48 13 (ah 49 16 ?_);replace hF:=hF.st aJ;replace ho:=ho.t aJ;refine bG (au 50 (.call {callee:=.builtin .append,args:=#[(.tmp 48),(.tmp 49)],argTypes:=#[24,24]})) rfl rfl (gl (e:=52) (bytes:=24) hF (by decide) rfl rfl (by kernel_rfl) (by decide) ho hps (by omega) (by omega)) ?_;rintro v50 w7 ⟨nj,aR,ho,hF⟩;refine aC 13 50 (aj.nil (bR (aq [af 0,af 1] ?_)));refine cn 51 3 34 1 (ah 34 51 (aj.nil ?_));replace hT:=(hT.t aJ).t aR;replace hl:=(hl.t aJ).t aR;replace hap:=(hap.t aJ).t aR;replace bK:=(bK.t aJ).t aR;replace hu:=(hu.t aJ).t aR;refine kp (aV 0 rfl rfl (aV 2 rfl rfl (aV 9 rfl rfl (aV 13 rfl rfl (aV 32 rfl rfl (aV 33 rfl rfl (aV 34 rfl (eq_int (by simp)) (aY _)))))))) (bN (k+1,v50,nj) _ ⟨(by first|omega|(simp only;omega)),(λq hq iL=>by
      simp only at hq;by_cases e:q=k
      ·subst e;exact Gv
      ·exact h0 q (by omega) iL),hF,hT,hl,hap,bK,hu,(by simp only;rw[fN];exact ho)⟩ (by first|omega|(simp only;omega)))
 have aF:k=(bk l).length:=by omega
 rw[aF,List.take_length] at ho;refine cB 0 ?_;refine ai (aq [af 0,nn 1,af 2,af 3,nn 4,af 5,af 6,af 7] ?_);refine ah 52 13 ?_;refine bU 53 129 [52] [24] Tryz.call129 rfl (Cb hF (by decide) ho kX h12) ?_;rintro r8 gp ⟨rfl,zs,mP,aZ,ho,hF⟩;have hzl:=mP.len;refine ah 54 0 (ah 55 13 ?_);replace hl:=hl.t aZ;refine bU 56 54 [54,55] [23,24] Tryz.call54 rfl (Ka (C:=iA) (mZ _) hl.c0 (ho.k7 (by omega)) hw mL) ?_;rintro _ gM ⟨rfl,bg⟩;replace bg:=bg.re (aW);refine aC 6 53 (aC 7 56 (aX 8 (.int .i64 0) (aj.nil ?_)));refine Jd (by kernel_rfl) Tryz.func75 Tryz.results75 rfl rfl rfl ?_;replace hT:=(hT.t aZ).t bg;replace ho:=ho.t bg;exact⟨hT.bW (by decide),.inr ⟨λq hq=>h0 q (by omega) hq,zs,_,mP,rfl,ho.out hT bH (ez C) (λb _=>h_ C (by decide) b) (by omega)⟩⟩
end
end Go.Proofs.YtmdhggfehknjjaaGreat
set_option linter.unusedVariables false
set_option linter.unusedSimpArgs false
set_option maxRecDepth 100000
set_option maxHeartbeats 4000000
namespace Go.Proofs.YtmdhggfehknjjaaGreat
open Go.K Go.K.bu
noncomputable section
namespace SZ
def c0:=bZ Tryz.f41
end SZ
theorem wv {w₀:World} {C:Nat->Nat} {l:List a_} {ds:List cI} {aG dR:Value} (hW:Px Tryz.prog 76 l ds (fc ds)) (hF:aL w₀ C) (hl:aB w₀ (aA C) l aG) (hz:aB w₀ (aA C) ds dR) (l8:jH l=0) (mL:l.length<=4096) (rB:ds.length<=4096) (hO:∀i (h:i<ds.length),qF ds[i]) (jM:∀i (h:i+1<ds.length),qf ds[i] ds[i+1]<0)
   (hw:∀x∈l,1<=x.w/\x.w<=1048576) (kX:∀x∈eN (fc ds) (bk l),0<x.length) (h12: (eN (fc ds) (bk l)).length<=12):Calls Tryz.prog 41 #[aG,dR] w₀ (bI λv w'=>ay [] w₀ C w' C/\
    ((∃k,∃hk:k<(bk l).length,(∀q (hq:q<k),(fc ds (bk l)[q]).2=0)/\(fc ds (bk l)[k]).2≠0/\v=.tuple #[.slice none 0 0,.int .i64 0,.int .i64 (fc ds (bk l)[k]).2])\/
     ((∀q (hq:q<(bk l).length),(fc ds (bk l)[q]).2=0)/\∃zs dL,eG eW (eN (fc ds) (bk l)) zs/\v=.tuple #[dL,.int .i64 (fh l zs),.int .i64 0]/\aB w' (aA C) zs dL))):=by
 refine bT SZ.c0 13 [aG,dR] Tryz.func41 ?_;show Run _ _ _ _ [(0,aG),(1,dR)] _ _;refine ai (aq [af 0,af 1,af 2] ?_);refine aX 4 (.slice none 0 0) (aX 5 (.int .i64 0) (aX 6 (.int .i64 0) (aj.nil (ai (aq [af 0,af 1,nn 2,af 3,af 4,af 5,af 6,af 7,af 8] ?_)))));refine ah 7 0 (ah 8 1 ?_);refine dN (au 9 (.call {callee:=.value (.func 75),args:=#[(.tmp 7),(.tmp 8),(.func 76)],argTypes:=#[23,27,132]})) rfl rfl (de Tryz.call75 rfl) (F9 (gf:=76) (wf:=fc ds) (λargs w=>Tryz.call76 args w) hW hF hl hz l8 mL rB hO jM hw kX h12) ?_;rintro kH w1 ⟨s_1,hout⟩;obtain⟨r1,r2,r3,x6⟩:∃r1 r2 r3,kH=.tuple #[r1,r2,r3]:=by
  rcases hout with⟨k,hk,_,_,e⟩|⟨_,zs,dL,_,e,_⟩
  ·exact⟨_,_,_,e⟩
  exact⟨_,_,_,e⟩
 subst x6;refine dS 10 9 0 (dS 11 9 1 (dS 12 9 2 (aC 4 10 (aC 5 11 (aC 6 12 (aj.nil ?_))))));refine Jd (by kernel_rfl) Tryz.func41 Tryz.results41 rfl rfl rfl ?_;exact⟨s_1,hout⟩
end
end Go.Proofs.YtmdhggfehknjjaaGreat
set_option linter.unusedVariables false
set_option linter.unusedSimpArgs false
set_option maxRecDepth 100000
set_option maxHeartbeats 4000000
namespace Go.Proofs.YtmdhggfehknjjaaGreat
open Go.K Go.K.bu
theorem KC {l:List a_} (hv:mB l):∀x∈l,1<=x.w/\x.w<=1048576:=λx hx=>(hv.2.1 x hx).2
theorem S4 {w₀:World} {C:Nat->Nat} {l:List a_} {ds:List cI} {aG dR:Value} (hF:aL w₀ C) (hl:aB w₀ (aA C) l aG) (hz:aB w₀ (aA C) ds dR) (hv:mB l) (gB: (aO l).length<=25) (rB:ds.length<=4096) (hO:∀i (h:i<ds.length),qF ds[i]) (jM:∀i (h:i+1<ds.length),qf ds[i] ds[i+1]<0):Calls Tryz.prog 41 #[aG,dR] w₀ (bI λv w'=>ay [] w₀ C w' C/\∃zs dL,eG eW (eN (fc ds) (bk l)) zs/\v=.tuple #[dL,.int .i64 (fh l zs),.int .i64 0]/\aB w' (aA C) zs dL):=
 (wv (hW:=λw1 aW i hi Jc bO cC gA hp1 q3=>y2 gA hp1 q3 (KC (HD hv hi)) (HD hv hi).1 (λ_=>⟨Jk hi,by have:=ZQ hi;have:=hv.1;omega⟩)) hF hl hz hv.check hv.1 rB hO jM (KC hv) (λx hx=>by have:=AO (λi hi=>pP ds _) x hx;omega) (by have:=Jh (l:=l) (ds:=ds) (wf:=fc ds) (λi hi=>pP ds _);omega)).mono (bI.mono λv w' h=>⟨h.1,by
  rcases h.2 with⟨k,hk,_,h2,_⟩|⟨_,h2⟩
  ·exact absurd (show(fc ds (bk l)[k]).2=0 from by unfold fc;split<;>rfl) h2
  ·exact h2⟩)
end Go.Proofs.YtmdhggfehknjjaaGreat
