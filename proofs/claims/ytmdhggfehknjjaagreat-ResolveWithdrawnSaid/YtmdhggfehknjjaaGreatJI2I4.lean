/- Steps through functions of the program. -/
import Derived.Test.YtmdhggfehknjjaaGreatJHBI1
import Derived.Test.YtmdhggfehknjjaaGreatL3
set_option linter.unusedVariables false
set_option linter.unusedSimpArgs false
set_option maxRecDepth 100000
set_option maxHeartbeats 4000000
namespace Go.Proofs.YtmdhggfehknjjaaGreat
open Go.K Go.K.bu
noncomputable section
namespace y7
def c0:=bZ Tryz.f56
def r4:=(cl (cl (cl (aH (aH c0)))))
def o2:=dF (cl (cl r4))
def uz:=(cl (cl (aH (aH (aH c0)))))
def j6:=dF uz
def lg:=(cl (aH (aH (aH (aH c0)))))
def jU:=dF lg
end y7
theorem Tw {w₀:World} {C:Nat->Nat} {l:List av} {c:av} {aG:Value} (hF:aL w₀ C) (hl:aB w₀ (aA C) l aG) (hlen:l.length<=1000000):Calls Tryz.prog 56 #[aG,.agg #[.int .i64 c.a,.int .i64 c.b]] w₀ (bI λv w'=>ay [] w₀ C w' C/\aB w' (aA C) (jB l c) v):=by
 have bH:=hF;have hT:=z9 w₀ C;replace hF:=hF.bq;replace hl:=hl.c1;refine bT y7.c0 46 [aG,.agg #[.int .i64 c.a,.int .i64 c.b]] Tryz.func56 ?_;show Run _ _ _ _ [(0,aG),(1,.agg #[.int .i64 c.a,.int .i64 c.b])] _ _;refine ai (aq [nn 0,af 1] ?_);refine bG (au 3 (.box 55 (.tmp 1))) rfl rfl (dI (cs:=bE c) hF 3 rfl rfl) ?_;rintro _ w1 ⟨dy,bY,rfl,s_1,hx,hF⟩;refine aX 4 (.slice none 0 0) (aj.nil (ai (aq [af 0] ?_)));refine aX 5 (.int .i64 0) ?_;refine aj.nil (ai (bD 0 ?_));refine cK (ι:=Nat×(Nat->Nat)) (I:=λx w=>x.1<=l.length/\(∀i,i<x.1->∀(hi:i<l.length),qt l[i] c=true)/\aL w x.2/\ay [2,3,4,5,6,7,8,9] w₀ (bq C) w x.2/\aB w (aA x.2) l aG/\cD w x.2 3 bY (.cells (bE c).toArray 55)) (e:=λx=>[(0,aG),(3,.pointer (some ⟨bY,0,none⟩)),(4,.slice none 0 0),(5,.int .i64 x.1)]) (m:=λx=>l.length-x.1) (cE:=(0,dy)) (ak 0 (ak 3 (ak 4 (ak 5 (aY _))))) ?_ ?_
 ·
   replace hT:=hT.t s_1;replace hl:=hl.t s_1;exact⟨Nat.zero_le _,λi hi=>by simp at hi,hF,hT,hl,hx⟩
 intro⟨k,aW⟩ w2 hI bN;obtain⟨hk,h0,hF,hT,hl,hx⟩:=hI;try simp only at hk h0 hF hT hl hx
 show Run _ _ _ _ [(0,aG),(3,.pointer (some ⟨bY,0,none⟩)),(4,.slice none 0 0),(5,.int .i64 k)] _ _;refine ai (ai ?_);refine kY 18 ((if h:k<l.length then qt l[k] c else false)) (aW) ?_ ?_
 ·
  intro dW;by_cases hA: (k:Int)<l.length
  ·
   refine dm (id:=2) (ops:=y7.o2) [] (aW) [af 0,af 1,af 2,af 3,af 4,af 5,af 6,af 7,af 8,af 9,nn 10,af 11] cM (by kernel_rfl) (by kernel_rfl) (by kernel_rfl) ?_;intro w3 s_2;have hcs:=s_2;have hR:=ay.refl [] w3 (aW);refine ah 7 5 (ah 8 0 ?_);replace hl:=hl.t s_2;refine zE 9 8 52 (hl.bS rfl Tryz.underlying52) ?_;refine ax (au 10 (.binOp .lss 3 (.tmp 7) (.tmp 9) 3)) (λ_=>ei (eO rfl rfl) hA) ?_;refine ah 11 10 ?_;refine cg 12 0 4 true (cg 13 5 4 true ?_);refine iS (e:=55) (aI 14 (.indexAddr 52 (.tmp 12) (.tmp 13)) 4 true) rfl rfl hl rfl (by kernel_rfl) rfl (by omega) (by omega) ?_;intro tf qZ eC;try simp only[aP] at eC
   refine gu (aI 15 (.load 55 (.tmp 14)) 4 true) rfl rfl (λw' hS=>eC.bF hS) eC (by kernel_rfl) (by kernel_rfl) rfl rfl ?_;intro qW g15;obtain rfl:=eA.1 g15;replace hx:=hx.t s_2;refine eT (aI 16 (.load 55 (.tmp 3)) 4 true) rfl rfl (λw' hS=>gT (n:=2) (vs:=bE c) (hx.stay hS (by decide)) (by kernel_rfl) (by kernel_rfl) rfl rfl rfl) ?_;replace hF:=hF.st s_2;refine iG (aI 17 (.call {callee:=.value (.func 44),args:=#[(.tmp 15),(.tmp 16)],argTypes:=#[55,55]}) 4 true) rfl rfl (de Tryz.call44 rfl) (DI (x:=l[k]) (y:=c) hF) ?_;rintro iM w4 ⟨rfl,aD⟩;refine⟨(hR.trans aD (by simp)).ext,?_⟩;refine dD 18 11 17 ?_;replace hcs:=hcs.t aD;exact aj.nil (dW _ _ _ hcs rfl (by rw[dif_pos (by omega),Qt]) (eZ 12))
  refine dm (id:=2) (ops:=y7.o2) [] (aW) [af 0,af 1,af 2,af 3,af 4,af 5,af 6,af 7,af 8,af 9,nn 10,af 11] cM (by kernel_rfl) (by kernel_rfl) (by kernel_rfl) ?_;intro dZ aK;have hcs:=aK;have hR:=ay.refl [] dZ (aW);refine ah 7 5 (ah 8 0 ?_);replace hl:=hl.t aK;refine zE 9 8 52 (hl.bS rfl Tryz.underlying52) ?_;refine ax (au 10 (.binOp .lss 3 (.tmp 7) (.tmp 9) 3)) (λ_=>fm (eO rfl rfl) hA) ?_;refine ah 11 10 ?_;refine aM 12 4 true (aM 13 4 true (aM 14 4 true (aM 15 4 true (aM 16 4 true ?_))));refine dz (aI 17 (.call {callee:=.value (.func 44),args:=#[(.tmp 15),(.tmp 16)],argTypes:=#[55,55]}) 4 true) rfl rfl hR.ext ?_;refine fq 18 11 17 ?_;exact aj.nil (dW _ _ _ hcs rfl (by rw[dif_neg (by omega)]) (eZ 12))
 intro eS aJ;refine kZ 18 rfl (λj7=>?_) (λj7=>?_)
 ·
  have aF:k<l.length:=by
    apply Classical.byContradiction;intro e;rw[dif_neg e] at j7;cases j7
  rw[dif_pos aF] at j7;refine bn (bD 1 (aq [af 0,af 1,af 2] ?_));refine ah 19 5 ?_;refine cn 20 3 19 1 (aC 5 20 (aj.nil (bR ?_)));replace hF:=hF.st aJ;replace hT:=hT.t aJ;replace hl:=hl.t aJ;replace hx:=hx.t aJ;refine kp (aV 0 rfl rfl (aV 3 rfl rfl (aV 4 rfl rfl (aV 5 rfl (eq_int (by simp)) (aY _))))) (bN (k+1,aW) _ ⟨(by first|omega|(simp only;omega)),(λi hi hl=>by
      simp only at hi;by_cases e:i=k
      ·subst e;exact j7
      ·exact h0 i (by omega) hl),hF,hT,hl,hx⟩ (by first|omega|(simp only;omega)))
 have hins:=Qo (c:=c) hk (λi hi h=>h0 i hi h) (λh=>by rw[dif_pos h] at j7;exact j7);refine cB 0 ?_;refine ai (ai ?_);refine kY 32 ((if h:k<l.length then decide (l[k]=c) else false)) (aW) ?_ ?_
 ·
  intro dW;by_cases hA: (k:Int)<l.length
  ·
   refine dm (id:=4) (ops:=y7.j6) [] (aW) [af 0,af 1,af 2,af 3,af 4,af 5,af 6,af 7,af 8,af 9,af 10,af 11] cM (by kernel_rfl) (by kernel_rfl) (by kernel_rfl) ?_;intro w7 aR;have hcs:=aR;refine ah 21 5 (ah 22 0 ?_);replace hl:=(hl.t aJ).t aR;refine zE 23 22 52 (hl.bS rfl Tryz.underlying52) ?_;refine ax (au 24 (.binOp .lss 3 (.tmp 21) (.tmp 23) 3)) (λ_=>ei (eO rfl rfl) hA) ?_;refine ah 25 24 ?_;refine cg 26 0 4 true (cg 27 5 4 true ?_);refine iS (e:=55) (aI 28 (.indexAddr 52 (.tmp 26) (.tmp 27)) 4 true) rfl rfl hl rfl (by kernel_rfl) rfl (by omega) (by omega) ?_;intro adb ade jW;try simp only[aP] at jW
   refine gu (aI 29 (.load 55 (.tmp 28)) 4 true) rfl rfl (λw' hS=>jW.bF hS) jW (by kernel_rfl) (by kernel_rfl) rfl rfl ?_;intro Fq yK;obtain rfl:=eA.1 yK;replace hx:=(hx.t aJ).t aR;refine eT (aI 30 (.load 55 (.tmp 3)) 4 true) rfl rfl (λw' hS=>gT (n:=2) (vs:=bE c) (hx.stay hS (by decide)) (by kernel_rfl) (by kernel_rfl) rfl rfl rfl) ?_;refine ax (aI 31 (.binOp .eql 55 (.tmp 29) (.tmp 30) 55) 4 true) (λ_=>xo (a:=l[k]) (b:=c) Tryz.underlying55 (by decide) (by decide) (by kernel_rfl) Tryz.underlying3 rfl rfl) ?_;refine dD 32 25 31 ?_;exact aj.nil (dW _ _ _ hcs rfl (by rw[dif_pos (by omega)]) (eZ 12))
  refine dm (id:=4) (ops:=y7.j6) [] (aW) [af 0,af 1,af 2,af 3,af 4,af 5,af 6,af 7,af 8,af 9,af 10,af 11] cM (by kernel_rfl) (by kernel_rfl) (by kernel_rfl) ?_;intro gp aZ;have hcs:=aZ;refine ah 21 5 (ah 22 0 ?_);replace hl:=(hl.t aJ).t aZ;refine zE 23 22 52 (hl.bS rfl Tryz.underlying52) ?_;refine ax (au 24 (.binOp .lss 3 (.tmp 21) (.tmp 23) 3)) (λ_=>fm (eO rfl rfl) hA) ?_;refine ah 25 24 ?_;refine aM 26 4 true (aM 27 4 true (aM 28 4 true (aM 29 4 true (aM 30 4 true (aM 31 4 true ?_)))));refine fq 32 25 31 ?_;exact aj.nil (dW _ _ _ hcs rfl (by rw[dif_neg (by omega)]) (eZ 12))
 intro gM bg;refine kZ 32 rfl (λrZ=>?_) (λrZ=>?_)
 ·
  have aF:k<l.length:=by
    apply Classical.byContradiction;intro e;rw[dif_neg e] at rZ;cases rZ
  rw[dif_pos aF] at rZ;rw[dif_pos aF,if_pos (of_decide_eq_true rZ)] at hins;refine ai (aq [af 0,af 1] ?_);refine ah 33 0 (aC 4 33 (aj.nil ?_));refine bP Tryz.func56 Tryz.results56 ?_;replace hT:=(hT.t aJ).t bg;replace hl:=(hl.t aJ).t bg;exact⟨hT.bW (by decide),by rw[hins];exact hl.out hT bH (ez C)⟩
 have CT:jB l c=l.take k++c::l.drop k:=by
   rw[hins];by_cases aF:k<l.length
   · rw[dif_pos aF] at rZ⊢;rw[if_neg (of_decide_eq_false rZ)]
   rw[dif_neg aF,List.take_of_length_le (by omega),List.drop_of_length_le (by omega)]
 refine bn (ai ?_);refine Lu (id:=6) (ops:=y7.jU) [5] (aW) [0,1,2,4] 3 [nn 5,nn 6,af 7] 5 [nn 3,nn 6,af 7] cM (by kernel_rfl) (by kernel_rfl) (by kernel_rfl) ?_ ?_
 ·
  intro ij bz;show aj _ _ _ _ _ _ _ [af 0,af 1,af 2,af 4,nn 3,nn 5,nn 6,af 7] _ _;have hR:=ay.refl [5] ij (aW);refine ah 34 0 (ah 35 5 ?_);replace hl:=((hl.t aJ).t bg).t bz;refine BJ (e':=55) (au 36 (.slice 52 (.tmp 34) none (some (.tmp 35)) none)) rfl rfl hl rfl (by kernel_rfl) rfl (by omega) (by omega) ?_;intro AA kE;try simp only[aP] at kE
  replace hx:=((hx.t aJ).t bg).t bz;refine gN 38 55 3 2 (bE c) (hx.stay · (by decide)) ?_;replace hF:=((hF.st aJ).st bg).st bz;refine fU (au 37 (.call {callee:=.builtin .append,args:=#[(.const (.slice none 0 0)),(.tmp 36)],argTypes:=#[52,52]})) rfl rfl (gl (e:=55) (bytes:=16) hF (by decide) rfl rfl (by kernel_rfl) (by decide) (bh.nil (α:=av) (j:=5)) kE (by simp only[List.length_append,List.length_take,List.length_nil,List.length_drop,List.length_cons];omega) (by simp only[List.length_append,List.length_take,List.length_nil,List.length_drop,List.length_cons];omega)) ?_;rintro v37 jK ⟨rX,bJ,hn,hF⟩;refine⟨(hR.trans bJ (by simp)).ext,?_⟩;refine fU (au 39 (.buildSlice 52 1 #[(0,(.tmp 38))])) rfl rfl (f_ (ys:=([c]:List av)) (e:=55) (bytes:=16) hF (by kernel_rfl) rfl (by decide) (by decide) ⟨rfl,⟨_,rfl,eA.2 rfl⟩,trivial⟩) ?_;rintro v39 j5 ⟨bC,qT,hF⟩;replace hR:=hR.t bJ;refine⟨(hR.trans bC (by simp)).ext,?_⟩;replace hn:=hn.t bC;refine fU (au 40 (.call {callee:=.builtin .append,args:=#[(.tmp 37),(.tmp 39)],argTypes:=#[52,52]})) rfl rfl (gl (e:=55) (bytes:=16) hF (by decide) rfl rfl (by kernel_rfl) (by decide) hn qT (by simp only[List.length_append,List.length_take,List.length_nil,List.length_drop,List.length_cons];omega) (by simp only[List.length_append,List.length_take,List.length_nil,List.length_drop,List.length_cons];omega)) ?_;rintro v40 kT ⟨yw,bX,hn,hF⟩;replace hR:=hR.t bC;refine⟨(hR.trans bX (by simp)).ext,?_⟩;refine aC 6 40 (aj.nil (ai (aq [af 0,af 1,af 2,af 3,nn 4,af 5] ?_)));refine ah 41 6 (ah 42 0 (ah 43 5 ?_));replace hl:=((hl.t bJ).t bC).t bX;refine Gy (e':=55) (au 44 (.slice 52 (.tmp 42) (some (.tmp 43)) none none)) rfl rfl hl rfl (by kernel_rfl) rfl (by omega) (by omega) ?_;intro v44 jt;try simp only[aP] at jt
  refine bG (au 45 (.call {callee:=.builtin .append,args:=#[(.tmp 41),(.tmp 44)],argTypes:=#[52,52]})) rfl rfl (gl (e:=55) (bytes:=16) hF (by decide) rfl rfl (by kernel_rfl) (by decide) hn jt (by simp only[List.length_append,List.length_take,List.length_nil,List.length_drop,List.length_cons];omega) (by simp only[List.length_append,List.length_take,List.length_nil,List.length_drop,List.length_cons];omega)) ?_;rintro v45 k_ ⟨oK,b_,hn,hF⟩;refine aC 4 45 (aj.nil ?_);refine bP Tryz.func56 Tryz.results56 ?_;have e: ([]++List.take k l++[c])++List.drop k l=jB l c:=by rw[CT];simp
  rw[e] at hn;replace hT:=((((((hT.t aJ).t bg).t bz).t bJ).t bC).t bX).t b_;exact⟨hT.bW (by decide),hn.out hT bH (ez C) (λb _=>h_ C (by decide) b) (by have:=CY c l;omega)⟩
 intro mI bV;show aj _ _ _ _ _ _ _ [af 0,af 1,af 2,af 4,nn 5,nn 3,nn 6,af 7] _ _;have hR:=ay.refl [5] mI (aW);refine ah 34 0 (ah 35 5 ?_);replace hl:=((hl.t aJ).t bg).t bV;refine BJ (e':=55) (au 36 (.slice 52 (.tmp 34) none (some (.tmp 35)) none)) rfl rfl hl rfl (by kernel_rfl) rfl (by omega) (by omega) ?_;intro AA kE;try simp only[aP] at kE
 replace hx:=((hx.t aJ).t bg).t bV;refine gN 38 55 3 2 (bE c) (hx.stay · (by decide)) ?_;replace hF:=((hF.st aJ).st bg).st bV;refine fU (au 39 (.buildSlice 52 1 #[(0,(.tmp 38))])) rfl rfl (f_ (ys:=([c]:List av)) (e:=55) (bytes:=16) hF (by kernel_rfl) rfl (by decide) (by decide) ⟨rfl,⟨_,rfl,eA.2 rfl⟩,trivial⟩) ?_;rintro v39 nc ⟨cu,qT,hF⟩;refine⟨(hR.trans cu (by simp)).ext,?_⟩;replace kE:=kE.t cu;refine fU (au 37 (.call {callee:=.builtin .append,args:=#[(.const (.slice none 0 0)),(.tmp 36)],argTypes:=#[52,52]})) rfl rfl (gl (e:=55) (bytes:=16) hF (by decide) rfl rfl (by kernel_rfl) (by decide) (bh.nil (α:=av) (j:=5)) kE (by simp only[List.length_append,List.length_take,List.length_nil,List.length_drop,List.length_cons];omega) (by simp only[List.length_append,List.length_take,List.length_nil,List.length_drop,List.length_cons];omega)) ?_;rintro v37 pK ⟨Kk,cO,hn,hF⟩;replace hR:=hR.t cu;refine⟨(hR.trans cO (by simp)).ext,?_⟩;replace qT:=qT.t cO;refine fU (au 40 (.call {callee:=.builtin .append,args:=#[(.tmp 37),(.tmp 39)],argTypes:=#[52,52]})) rfl rfl (gl (e:=55) (bytes:=16) hF (by decide) rfl rfl (by kernel_rfl) (by decide) hn qT (by simp only[List.length_append,List.length_take,List.length_nil,List.length_drop,List.length_cons];omega) (by simp only[List.length_append,List.length_take,List.length_nil,List.length_drop,List.length_cons];omega)) ?_;rintro v40 pL ⟨CD,dh,hn,hF⟩;replace hR:=hR.t cO;refine⟨(hR.trans dh (by simp)).ext,?_⟩;refine aC 6 40 (aj.nil (ai (aq [af 0,af 1,af 2,af 3,nn 4,af 5] ?_)));refine ah 41 6 (ah 42 0 (ah 43 5 ?_));replace hl:=((hl.t cu).t cO).t dh;refine Gy (e':=55) (au 44 (.slice 52 (.tmp 42) (some (.tmp 43)) none none)) rfl rfl hl rfl (by kernel_rfl) rfl (by omega) (by omega) ?_;intro v44 jt;try simp only[aP] at jt
 refine bG (au 45 (.call {callee:=.builtin .append,args:=#[(.tmp 41),(.tmp 44)],argTypes:=#[52,52]})) rfl rfl (gl (e:=55) (bytes:=16) hF (by decide) rfl rfl (by kernel_rfl) (by decide) hn jt (by simp only[List.length_append,List.length_take,List.length_nil,List.length_drop,List.length_cons];omega) (by simp only[List.length_append,List.length_take,List.length_nil,List.length_drop,List.length_cons];omega)) ?_;rintro v45 nT ⟨yq,dw,hn,hF⟩;refine aC 4 45 (aj.nil ?_);refine bP Tryz.func56 Tryz.results56 ?_;have e: ([]++List.take k l++[c])++List.drop k l=jB l c:=by rw[CT];simp
 rw[e] at hn;replace hT:=((((((hT.t aJ).t bg).t bV).t cu).t cO).t dh).t dw;exact⟨hT.bW (by decide),hn.out hT bH (ez C) (λb _=>h_ C (by decide) b) (by have:=CY c l;omega)⟩
namespace KU
def c0:=bZ Tryz.f25
def s9:=(cl (aH (cl (aH (aH c0)))))
def k9:=dF (cl (cl (aH (cl s9))))
end KU
theorem X5 {w₀:World} {C:Nat->Nat} {l:List a_} {aG:Value} (hF:aL w₀ C) (hl:aB w₀ (aA C) l aG) (hlen:l.length<=100000):Calls Tryz.prog 25 #[aG] w₀ (bI λv w'=>ay [] w₀ C w' C/\aB w' (aA C) (aO l) v):=by
 have bH:=hF;have hT:=z9 w₀ C;replace hF:=hF.bq;replace hl:=hl.c1;refine bT KU.c0 25 [aG] Tryz.func25 ?_;show Run _ _ _ _ [(0,aG)] _ _;refine ai (aq [af 0] ?_);refine aX 2 (.slice none 0 0) (aj.nil (ai (aq [af 0] ?_)));refine aX 3 (.slice none 0 0) (aj.nil (ai (ai (aq [af 0] ?_))));refine aX 4 (.int .i64 0) ?_;refine aj.nil (bD 0 ?_);refine cK (ι:=Nat×Value×(Nat->Nat)) (I:=λx w=>x.1<=l.length/\aL w x.2.2/\ay [2,3,4,5,6,7,8,9] w₀ (bq C) w x.2.2/\aB w (aA x.2.2) l aG/\aB w (aA x.2.2) (sg (kM (l.take x.1))) x.2.1) (e:=λx=>[(0,aG),(3,x.2.1),(4,.int .i64 x.1)]) (m:=λx=>l.length-x.1) (cE:=(0,.slice none 0 0,bq C)) (ak 0 (ak 3 (ak 4 (aY _)))) ?_ ?_
 · exact⟨Nat.zero_le _,hF,hT,hl,jX⟩
 intro⟨i,dU,aW⟩ w1 hI bN;obtain⟨hi,hF,hT,hl,ho⟩:=hI;try simp only at hi hF hT hl ho
 show Run _ _ _ _ [(0,aG),(3,dU),(4,.int .i64 i)] _ _;have hrl:=vm (kM (l.take i));rw[BQ,List.length_take] at hrl;refine ai (ai (aq [af 0,af 1,af 2,af 3] ?_));refine ah 5 4 (ah 6 0 ?_);refine zE 7 6 23 (hl.bS rfl Tryz.underlying23) ?_;refine c4 8 3 5 7 (aj.nil ?_);refine bQ 8 rfl (λh8=>?_) (λh8=>?_)
 ·
  have hil:i<l.length:=by omega
  obtain⟨os,hos⟩:∃os,os=sg (kM (l.take i)):=⟨_,rfl⟩
  rw[<-hos] at ho hrl;have adf:=CY l[i].A os;refine bn (ai (bD 1 ?_));refine dm (id:=5) (ops:=KU.k9) [] (aW) [af 0,af 1,af 2,af 3,af 4,af 5,af 7,af 8,af 9,af 10,af 11,nn 6,nn 12,af 13] cM (by kernel_rfl) (by kernel_rfl) (by kernel_rfl) ?_;intro w2 s_1;have hR:=ay.refl [] w2 (aW);refine ah 11 3 (ah 12 0 (ah 13 4 ?_));replace hl:=hl.t s_1;refine c5 58 14 23 12 13 hl rfl (h:=?_);intro tf qZ eC;try simp only[aP] at eC
  have ng:=dJ.ve eC;refine bp 15 58 14 0 0 ?_;refine gu (au 16 (.load 55 (.tmp 15))) rfl rfl (λw' hS=>ng.bF hS) ng (by kernel_rfl) (by kernel_rfl) rfl rfl ?_;intro Sc g16;obtain rfl:=eA.1 g16;refine ah 18 0 (ah 19 4 ?_);refine c5 58 20 23 18 19 hl rfl (h:=?_);intro x2 p4 nt;try simp only[aP] at nt
  have r6:=dJ.Eh nt;refine bp 21 58 20 1 2 ?_;refine gu (au 22 (.load 55 (.tmp 21))) rfl rfl (λw' hS=>r6.bF hS) r6 (by kernel_rfl) (by kernel_rfl) rfl rfl ?_;intro v22 g22;obtain rfl:=eA.1 g22;replace hF:=hF.st s_1;replace ho:=ho.t s_1;refine fJ 17 56 [11,16] [52,55] Tryz.call56 rfl (Tw (c:=l[i].A) hF ho (by omega)) ?_;rintro adg w3 ⟨s_2,hq1⟩;refine⟨(hR.trans s_2 (by simp)).ext,?_⟩;replace hF:=hF.st s_2;refine fJ 23 56 [17,22] [52,55] Tryz.call56 rfl (Tw (c:=l[i].B) hF hq1 (by omega)) ?_;rintro C7 w4 ⟨aD,iL⟩;replace hR:=hR.t s_2;refine⟨(hR.trans aD (by simp)).ext,?_⟩;refine aC 3 23 (aj.nil (bR (aq [af 0,af 1,af 2] ?_)));refine ah 9 4 ?_;refine cn 10 3 9 1 (aC 4 10 (aj.nil ?_));replace hT:=((hT.t s_1).t s_2).t aD;replace hl:=(hl.t s_2).t aD;replace hF:=hF.st aD;refine kp (ak 0 (ak 3 (aV 4 rfl (eq_int (by simp)) (aY _)))) (bN (i+1,C7,aW) _ ⟨(by first|omega|(simp only;omega)),hF,hT,hl,(by simp only;rw[yL hil,<-hos];exact iL)⟩ (by first|omega|(simp only;omega)))
 have hil:i=l.length:=by omega
 subst hil;rw[List.take_length,vv] at ho;refine cB 0 ?_;refine ai (aq [af 0,af 1] ?_);refine ah 24 3 (aC 2 24 (aj.nil ?_));refine bP Tryz.func25 Tryz.results25 ?_;exact⟨hT.bW (by decide),ho.out hT bH (ez C)⟩
end
end Go.Proofs.YtmdhggfehknjjaaGreat
set_option linter.unusedVariables false
set_option linter.unusedSimpArgs false
set_option maxRecDepth 100000
set_option maxHeartbeats 4000000
namespace Go.Proofs.YtmdhggfehknjjaaGreat
open Go.K Go.K.bu
noncomputable section
namespace KV
def c0:=bZ Tryz.f29
def r4:=(cl (cl (aH (cl (aH c0)))))
def j6:=dF (cl (cl (cl (aH r4))))
end KV
theorem DQ {w₀:World} {C:Nat->Nat} {l:List av} {c:av} {aG:Value} (hF:aL w₀ C) (hl:aB w₀ (aA C) l aG):Calls Tryz.prog 29 #[aG,.agg #[.int .i64 c.a,.int .i64 c.b]] w₀ (bI λv w'=>v=.int .i64 (idxOf (λx=>decide (c=x)) l)/\ay [] w₀ C w' C):=by
 have bH:=hF;have hT:=z9 w₀ C;replace hF:=hF.bq;replace hl:=hl.c1;refine bT KV.c0 19 [aG,.agg #[.int .i64 c.a,.int .i64 c.b]] Tryz.func29 ?_;show Run _ _ _ _ [(0,aG),(1,.agg #[.int .i64 c.a,.int .i64 c.b])] _ _;refine ai (aq [nn 0,af 1] ?_);refine bG (au 3 (.box 55 (.tmp 1))) rfl rfl (dI (cs:=bE c) hF 3 rfl rfl) ?_;rintro _ w1 ⟨dy,bY,rfl,s_1,hx,hF⟩;refine aX 4 (.int .i64 0) (aj.nil (ai (ai (aq [af 0] ?_))));refine aX 5 (.int .i64 0) ?_;refine aj.nil (bD 0 ?_);refine cK (ι:=Nat×(Nat->Nat)) (I:=λx w=>x.1<=l.length/\(∀i,i<x.1->∀(hi:i<l.length),(λx=>decide (c=x)) l[i]=false)/\aL w x.2/\ay [2,3,4,5,6,7,8,9] w₀ (bq C) w x.2/\aB w (aA x.2) l aG/\cD w x.2 3 bY (.cells (bE c).toArray 55)) (e:=λx=>[(0,aG),(3,.pointer (some ⟨bY,0,none⟩)),(4,.int .i64 0),(5,.int .i64 x.1)]) (m:=λx=>l.length-x.1) (cE:=(0,dy)) (ak 0 (ak 3 (ak 4 (ak 5 (aY _))))) ?_ ?_
 ·
   replace hT:=hT.t s_1;replace hl:=hl.t s_1;exact⟨Nat.zero_le _,λi hi=>by simp at hi,hF,hT,hl,hx⟩
 intro⟨k,aW⟩ w2 hI bN;obtain⟨hk,h0,hF,hT,hl,hx⟩:=hI;try simp only at hk h0 hF hT hl hx
 show Run _ _ _ _ [(0,aG),(3,.pointer (some ⟨bY,0,none⟩)),(4,.int .i64 0),(5,.int .i64 k)] _ _;have hle:=hl.le;refine ai (ai (aq [af 0,af 1,af 2,af 3] ?_));refine ah 6 5 (ah 7 0 ?_);refine zE 8 7 52 (hl.bS rfl Tryz.underlying52) ?_;refine c4 9 3 6 8 (aj.nil ?_);refine bQ 9 rfl (λfV=>?_) (λfV=>?_)
 ·
  have aF:k<l.length:=by omega
  refine bn (ai (bD 1 (ai ?_)));refine dm (id:=4) (ops:=KV.j6) [] (aW) [af 0,af 1,af 2,af 3,af 4,af 5] cM (by kernel_rfl) (by kernel_rfl) (by kernel_rfl) ?_;intro w3 s_2;refine ah 12 0 (ah 13 5 ?_);replace hl:=hl.t s_2;refine c5 55 14 52 12 13 hl rfl (h:=?_);intro tf qZ eC;try simp only[aP] at eC
  refine gu (au 15 (.load 55 (.tmp 14))) rfl rfl (λw' hS=>eC.bF hS) eC (by kernel_rfl) (by kernel_rfl) rfl rfl ?_;intro qW g15;obtain rfl:=eA.1 g15;replace hx:=hx.t s_2;refine gN 16 55 3 2 (bE c) (hx.stay · (by decide)) ?_;refine ax (au 17 (.binOp .eql 55 (.tmp 15) (.tmp 16) 55)) (λ_=>xo (a:=l[k]) (b:=c) Tryz.underlying55 (by decide) (by decide) (by kernel_rfl) Tryz.underlying3 rfl rfl) ?_;refine aj.nil ?_;refine bQ 17 rfl (λsB=>?_) (λsB=>?_)
  ·
   refine ai (aq [af 0,af 1] ?_);refine ah 18 5 (aC 4 18 (aj.nil ?_));refine bP Tryz.func29 Tryz.results29 ?_;replace hT:=hT.t s_2;exact⟨by rw[xM aF (λi hi=>h0 i hi (by omega)) (decide_eq_true sB.symm)],hT.bW (by decide)⟩
  refine bn (bR (aq [af 0,af 1,af 2] ?_));refine ah 10 5 ?_;refine cn 11 3 10 1 (aC 5 11 (aj.nil ?_));replace hF:=hF.st s_2;replace hT:=hT.t s_2;refine kp (aV 0 rfl rfl (aV 3 rfl rfl (aV 4 rfl rfl (aV 5 rfl (eq_int (by simp)) (aY _))))) (bN (k+1,aW) _ ⟨(by first|omega|(simp only;omega)),(λi hi hl=>by
    simp only at hi;by_cases e:i=k
    ·subst e;exact decide_eq_false (λe=>sB e.symm)
    ·exact h0 i (by omega) hl),hF,hT,hl,hx⟩ (by first|omega|(simp only;omega)))
 have aF:k=l.length:=by omega
 refine cB 0 ?_;refine ai (aq [af 0] ?_);refine ax (au 4 (.assign (.const (.int .i64 (-1))))) (λ_=>n_ rfl) ?_;refine aj.nil ?_;refine bP Tryz.func29 Tryz.results29 ?_;exact⟨by rw[Ce (λi hi=>h0 i (by omega) hi)],hT.bW (by decide)⟩
namespace KW
def c0:=bZ Tryz.f28
def r4:=(cl (cl (aH (cl (aH c0)))))
def j6:=dF (cl (cl (cl (aH r4))))
end KW
theorem FZ {w₀:World} {C:Nat->Nat} {l:List (List av)} {c:av} {aG:Value} (hF:aL w₀ C) (hl:aB w₀ (aA C) l aG):Calls Tryz.prog 28 #[aG,.agg #[.int .i64 c.a,.int .i64 c.b]] w₀ (bI λv w'=>v=.int .i64 (qK l c)/\ay [] w₀ C w' C):=by
 have bH:=hF;have hT:=z9 w₀ C;replace hF:=hF.bq;replace hl:=hl.c1;refine bT KW.c0 20 [aG,.agg #[.int .i64 c.a,.int .i64 c.b]] Tryz.func28 ?_;show Run _ _ _ _ [(0,aG),(1,.agg #[.int .i64 c.a,.int .i64 c.b])] _ _;refine ai (aq [nn 0,af 1] ?_);refine bG (au 3 (.box 55 (.tmp 1))) rfl rfl (dI (cs:=bE c) hF 3 rfl rfl) ?_;rintro _ w1 ⟨dy,bY,rfl,s_1,hx,hF⟩;refine aX 4 (.int .i64 0) (aj.nil (ai (ai (aq [af 0] ?_))));refine aX 5 (.int .i64 0) ?_;refine aj.nil (bD 0 ?_);refine cK (ι:=Nat×(Nat->Nat)) (I:=λx w=>x.1<=l.length/\(∀i,i<x.1->∀(hi:i<l.length),(λp=>p.any λx=>decide (c=x)) l[i]=false)/\aL w x.2/\ay [2,3,4,5,6,7,8,9] w₀ (bq C) w x.2/\aB w (aA x.2) l aG/\cD w x.2 3 bY (.cells (bE c).toArray 55)) (e:=λx=>[(0,aG),(3,.pointer (some ⟨bY,0,none⟩)),(4,.int .i64 0),(5,.int .i64 x.1)]) (m:=λx=>l.length-x.1) (cE:=(0,dy)) (ak 0 (ak 3 (ak 4 (ak 5 (aY _))))) ?_ ?_
 ·
   replace hT:=hT.t s_1;replace hl:=hl.t s_1;exact⟨Nat.zero_le _,λi hi=>by simp at hi,hF,hT,hl,hx⟩
 intro⟨k,aW⟩ w2 hI bN;obtain⟨hk,h0,hF,hT,hl,hx⟩:=hI;try simp only at hk h0 hF hT hl hx
 show Run _ _ _ _ [(0,aG),(3,.pointer (some ⟨bY,0,none⟩)),(4,.int .i64 0),(5,.int .i64 k)] _ _;have hle:=hl.le;refine ai (ai (aq [af 0,af 1,af 2,af 3] ?_));refine ah 6 5 (ah 7 0 ?_);refine zE 8 7 24 (hl.bS rfl Tryz.underlying24) ?_;refine c4 9 3 6 8 (aj.nil ?_);refine bQ 9 rfl (λfV=>?_) (λfV=>?_)
 ·
  have aF:k<l.length:=by omega
  refine bn (ai (bD 1 (ai ?_)));refine dm (id:=4) (ops:=KW.j6) [] (aW) [af 0,af 1,af 2,af 3,af 4,nn 5,af 6] cM (by kernel_rfl) (by kernel_rfl) (by kernel_rfl) ?_;intro w3 s_2;have hR:=ay.refl [] w3 (aW);refine ah 12 0 (ah 13 5 ?_);replace hl:=hl.t s_2;refine c5 52 14 24 12 13 hl rfl (h:=?_);intro tf qZ eC;try simp only[aP] at eC
  refine j_ (au 15 (.load 52 (.tmp 14))) rfl rfl (λw' hS=>eC.bF hS) eC (by kernel_rfl) rfl rfl ?_;intro qW g15;replace hx:=hx.t s_2;refine gN 16 55 3 2 (bE c) (hx.stay · (by decide)) ?_;replace hF:=hF.st s_2;refine fJ 17 29 [15,16] [52,55] Tryz.call29 rfl (DQ (c:=c) hF g15) ?_;rintro iM w4 ⟨rfl,aD⟩;refine⟨(hR.trans aD (by simp)).ext,?_⟩;refine ax (au 18 (.binOp .geq 3 (.tmp 17) (.const (.int .i64 0)) 3)) (λ_=>fB rfl rfl) ?_;refine aj.nil ?_;refine bQ 18 rfl (λj7=>?_) (λj7=>?_)
  ·
   refine ai (aq [af 0,af 1] ?_);refine ah 19 5 (aC 4 19 (aj.nil ?_));refine bP Tryz.func28 Tryz.results28 ?_;replace hT:=(hT.t s_2).t aD;exact⟨by unfold qK;rw[xM aF (λi hi=>h0 i hi (by omega)) (by show(List.any _ _)=true;rw[<-xN];exact decide_eq_true j7)],hT.bW (by decide)⟩
  refine bn (bR (aq [af 0,af 1,af 2] ?_));refine ah 10 5 ?_;refine cn 11 3 10 1 (aC 5 11 (aj.nil ?_));replace hT:=(hT.t s_2).t aD;replace hF:=hF.st aD;replace hl:=hl.t aD;replace hx:=hx.t aD;refine kp (aV 0 rfl rfl (aV 3 rfl rfl (aV 4 rfl rfl (aV 5 rfl (eq_int (by simp)) (aY _))))) (bN (k+1,aW) _ ⟨(by first|omega|(simp only;omega)),(λi hi hl=>by
    simp only at hi;by_cases e:i=k
    ·subst e;show(List.any _ _)=false;rw[<-xN];exact decide_eq_false j7
    ·exact h0 i (by omega) hl),hF,hT,hl,hx⟩ (by first|omega|(simp only;omega)))
 have aF:k=l.length:=by omega
 refine cB 0 ?_;refine ai (aq [af 0] ?_);refine ax (au 4 (.assign (.const (.int .i64 (-1))))) (λ_=>n_ rfl) ?_;refine aj.nil ?_;refine bP Tryz.func28 Tryz.results28 ?_;exact⟨by unfold qK;rw[Ce (λi hi=>h0 i (by omega) hi)],hT.bW (by decide)⟩
end
end Go.Proofs.YtmdhggfehknjjaaGreat
set_option linter.unusedVariables false
set_option linter.unusedSimpArgs false
set_option maxRecDepth 100000
set_option maxHeartbeats 4000000
namespace Go.Proofs.YtmdhggfehknjjaaGreat
open Go.K Go.K.bu
noncomputable section
namespace DR
def c0:=bZ Tryz.f27
def Kc:=(aH (aH (aH (aH (aH c0)))))
def ux:=(aH (cl (cl (aH (cl Kc)))))
def KX:=(cl (cl (aH (aH (cl ux)))))
def uB:=dF (cl (cl (cl (aH KX))))
def gb:=(cl (aH (cl (cl (aH KX)))))
def Fs:=dF gb
def uc:=(aH (aH (cl (cl (aH KX)))))
def FO:=dF (cl (cl uc))
end DR
theorem aac {w₀:World} {C:Nat->Nat} {l:List a_} {aG:Value} (hF:aL w₀ C) (hl:aB w₀ (aA C) l aG) (hlen:l.length<=100000):
    Calls Tryz.prog 27 #[aG] w₀ (bI λv w'=>∃u,v=.tuple #[u,.int .i64 (jH l)]/\ay [] w₀ C w' C/\aB w' (aA C) (if jH l=0 then dx l else[]) u):=by
 have bH:=hF;have hT:=z9 w₀ C;replace hF:=hF.bq;replace hl:=hl.c1;refine bT DR.c0 120 [aG] Tryz.func27 ?_;show Run _ _ _ _ [(0,aG)] _ _;refine ai (aq [af 0,af 1] ?_);refine aX 2 (.slice none 0 0) (aX 3 (.int .i64 0) (aj.nil (ai (ai (aq [af 0,nn 1,af 2] ?_)))));refine ah 17 0 ?_;refine bU 18 58 [17] [23] Tryz.call58 rfl (ot hF hl) ?_;rintro j3 w1 ⟨rfl,s_1⟩;refine aC 4 18 (aj.nil (ai (aq [af 0,af 1] ?_)));refine ah 19 4 ?_;refine ax (au 20 (.binOp .neq 34 (.tmp 19) (.const (.int .i64 0)) 34)) (λ_=>fI rfl rfl) ?_;refine aj.nil ?_;refine bQ 20 rfl (λnt=>?_) (λnt=>?_)
 ·
  refine ai (aq [af 0,af 1,af 2] ?_);refine ah 21 4 (aX 2 (.slice none 0 0) (aC 3 21 (aj.nil ?_)));refine ny (by kernel_rfl) Tryz.func27 Tryz.results27 rfl rfl ?_;replace hT:=hT.t s_1;exact⟨_,rfl,hT.bW (by decide),by rw[if_neg nt];exact jX⟩
 have l8:jH l=0:=Classical.not_not.1 nt;have mL:=GN l8;have Y_:=tO l;refine bn (ai (aq [af 0,nn 1,af 2] ?_));refine ah 22 0 ?_;replace hF:=hF.st s_1;replace hl:=hl.t s_1;refine bU 23 25 [22] [23] Tryz.call25 rfl (X5 hF hl hlen) ?_;rintro kz w2 ⟨s_2,dQ⟩;refine aC 5 23 (aj.nil (ai (aq [af 0,af 1,nn 2,af 3] ?_)));refine ah 24 5 ?_;refine zE 25 24 52 (dQ.bS rfl Tryz.underlying52) ?_;replace hF:=hF.st s_2;refine bG (au 26 (.makeSlice 22 (.tmp 25) (.tmp 25))) rfl rfl (zu (e:=3) (bytes:=8) (x0:=(0:Nat)) (zs:=[.int .i64 0]) hF (j:=3) (by decide) (by kernel_rfl) (by kernel_rfl) rfl rfl (by omega) (by omega) (by omega) (λh M=>rfl)) ?_;rintro v26 w3 ⟨ji,aD,hw,hF⟩;refine aC 6 26 (aj.nil ?_);try simp only[aP] at hw
 refine ai (ai (aq [af 0] ?_));refine aX 7 (.int .i64 0) ?_;refine aj.nil (bD 0 ?_);refine cK (ι:=Nat×(List Nat)×(Nat->Nat)) (I:=λx w=>x.1<=(aO l).length/\x.2.1.length=(aO l).length/\(∀k (hk:k<x.2.1.length),k<x.1->x.2.1[k]=k)/\aL w x.2.2/\ay [2,3,4,5,6,7,8,9] w₀ (bq C) w x.2.2/\aB w (aA x.2.2) l aG/\aB w (aA x.2.2) (aO l) kz/\bh w x.2.2 3 3 v26 x.2.1) (e:=λx=>[(0,aG),(5,kz),(6,v26),(7,.int .i64 x.1)]) (m:=λx=>(aO l).length-x.1) (cE:=(0,List.replicate (aO l).length 0,ji)) (ak 0 (ak 5 (ak 6 (ak 7 (aY _))))) ?_ ?_
 ·
   replace hT:=((hT.t s_1).t s_2).t aD;replace hl:=(hl.t s_2).t aD;replace dQ:=dQ.t aD;exact⟨Nat.zero_le _,(by simp only;exact List.length_replicate),(λk hk h=>by simp only at h;omega),hF,hT,hl,dQ,hw⟩
 intro⟨i,low,aW⟩ w4 hI bN;obtain⟨hi,j0,hlv,hF,hT,hl,dQ,hw⟩:=hI;try simp only at hi j0 hlv hF hT hl dQ hw
 show Run _ _ _ _ [(0,aG),(5,kz),(6,v26),(7,.int .i64 i)] _ _;refine ai (ai (aq [af 0,af 1,af 2,af 3] ?_));refine ah 27 7 (ah 28 6 ?_);refine zE 29 28 22 (hw.bS rfl Tryz.underlying22) ?_;refine c4 30 3 27 29 (aj.nil ?_);refine bQ 30 rfl (λwH=>?_) (λwH=>?_)
 ·
  have hil:i<(aO l).length:=by omega
  refine bn (ai (bD 1 (aq [af 0,af 1,af 2,af 3,nn 4] ?_)));refine ah 33 6 (ah 34 7 (ah 35 7 ?_));refine dK 3 36 22 33 34 hw rfl (by omega) (h:=?_);intro wh C8;try simp only[aP]
  refine cq (k0 (.store 3 (.tmp 36) (.tmp 35))) rfl (gw hw C8 (by omega) rfl rfl (by kernel_rfl) (jF.2 rfl)) ?_;rintro _ dZ ⟨rfl,aK,hw⟩;refine aj.nil (bR (aq [af 0,af 1,af 2] ?_));refine ah 31 7 ?_;refine cn 32 3 31 1 (aC 7 32 (aj.nil ?_));replace hF:=hF.st aK;replace hT:=hT.t aK;replace hl:=hl.t aK;replace dQ:=dQ.t aK;refine kp (aV 0 rfl rfl (aV 5 rfl rfl (aV 6 rfl rfl (aV 7 rfl (eq_int (by simp)) (aY _))))) (bN (i+1,low.set i i,aW) _ ⟨(by first|omega|(simp only;omega)),(by simp only[List.length_set];exact j0),(λk hk h=>by
     simp only at h;rw[List.getElem_set];split
     ·assumption
     ·simp only[List.length_set] at hk;exact hlv k hk (by omega)),hF,hT,hl,dQ,hw⟩ (by first|omega|(simp only;omega)))
 have hil:i=(aO l).length:=by omega
 obtain rfl:low=List.range (aO l).length:=List.ext_getElem (by simpa using j0) (λk h1 h2=>by rw[hlv k h1 (by omega),List.getElem_range]);clear hlv j0;refine cB 0 ?_;refine ai (ai (aq [af 0] ?_));refine aX 8 (.bool true) ?_;refine aj.nil (bD 2 ?_);refine cK (ι:=(List Nat)×Bool×(Nat->Nat)) (I:=λx w=>si l x.1/\(x.2.1=false->Fix l l x.1)/\aL w x.2.2/\ay [2,3,4,5,6,7,8,9] w₀ (bq C) w x.2.2/\aB w (aA x.2.2) l aG/\aB w (aA x.2.2) (aO l) kz/\bh w x.2.2 3 3 v26 x.1) (e:=λx=>[(0,aG),(5,kz),(6,v26),(8,.bool x.2.1)]) (m:=λx=>2*x.1.sum+x.2.1.toNat) (cE:=(List.range (aO l).length,true,aW)) (ak 0 (ak 5 (ak 6 (ak 8 (aY _))))) ?_ ?_
 · exact⟨si.start l,(λe=>by cases e),hF,hT,hl,dQ,hw⟩
 intro⟨low,ch,aW⟩ eS hI fk;obtain⟨hW,dP,hF,hT,hl,dQ,hw⟩:=hI;try simp only at hW dP hF hT hl dQ hw
 show Run _ _ _ _ [(0,aG),(5,kz),(6,v26),(8,.bool ch)] _ _;refine ai (ai (aq [af 0] ?_));refine ah 37 8 (aj.nil ?_);refine kZ 37 rfl (λAj=>?_) (λAj=>?_)
 ·
  subst Aj;refine bn (bD 3 (ai (aq [af 0] ?_)));refine aX 8 (.bool false) (aj.nil (ai (aq [af 0] ?_)));refine aX 9 (.int .i64 0) ?_;refine aj.nil (bD 4 ?_);refine cK (ι:=Nat×(List Nat)×Bool×(Nat->Nat)) (I:=λx w=>x.1<=l.length/\si l x.2.1/\x.2.1.sum<=low.sum/\(x.2.2.1=true->x.2.1.sum<low.sum)/\(x.2.2.1=false->x.2.1=low/\Fix l (l.take x.1) x.2.1)/\aL w x.2.2.2/\ay [2,3,4,5,6,7,8,9] w₀ (bq C) w x.2.2.2/\aB w (aA x.2.2.2) l aG/\aB w (aA x.2.2.2) (aO l) kz/\bh w x.2.2.2 3 3 v26 x.2.1) (e:=λx=>[(0,aG),(5,kz),(6,v26),(8,.bool x.2.2.1),(9,.int .i64 x.1)]) (m:=λx=>l.length-x.1) (cE:=(0,low,false,aW)) (ak 0 (ak 5 (ak 6 (ak 8 (ak 9 (aY _)))))) ?_ ?_
  · exact⟨Nat.zero_le _,hW,Nat.le_refl _,(λe=>by cases e),(λ_=>⟨rfl,λy hy=>by simp at hy⟩),hF,hT,hl,dQ,hw⟩
  intro⟨k,lw,F0,aW⟩ w7 hI oB;obtain⟨hk,yP,hle,hlt,oe,hF,hT,hl,dQ,hw⟩:=hI;try simp only at hk yP hle hlt oe hF hT hl dQ hw
  show Run _ _ _ _ [(0,aG),(5,kz),(6,v26),(8,.bool F0),(9,.int .i64 k)] _ _;have Fx:=yP.len;refine ai (ai (aq [af 0,af 1,af 2,af 3] ?_));refine ah 38 9 (ah 39 0 ?_);refine zE 40 39 23 (hl.bS rfl Tryz.underlying23) ?_;refine c4 41 3 38 40 (aj.nil ?_);refine bQ 41 rfl (λKN=>?_) (λKN=>?_)
  ·
   have aF:k<l.length:=by omega
   obtain⟨p9,aad,Tx,ea⟩:=M_ (l:=aO l) (c:=l[k].A) (gQ.2 ⟨_,List.getElem_mem aF,.inl rfl⟩);obtain⟨ib,hib,Ty,eb⟩:=M_ (l:=aO l) (c:=l[k].B) (gQ.2 ⟨_,List.getElem_mem aF,.inr rfl⟩);refine bn (ai (bD 5 (ai ?_)));refine dm (id:=16) (ops:=DR.uB) [] (aW) [af 0,af 1,af 2,af 3,af 4,af 5,af 7,af 8,af 9,af 10,af 11,af 12,nn 6,nn 13,af 14,af 15] cM (by kernel_rfl) (by kernel_rfl) (by kernel_rfl) ?_;intro gp aJ;have hR:=ay.refl [] gp (aW);refine ah 44 5 (ah 45 0 (ah 46 9 ?_));replace hl:=hl.t aJ;refine c5 58 47 23 45 46 hl rfl (h:=?_);intro Lw zT Bd;try simp only[aP] at Bd
   have h48:=dJ.ve Bd;refine bp 48 58 47 0 0 ?_;refine gu (au 49 (.load 55 (.tmp 48))) rfl rfl (λw' hS=>h48.bF hS) h48 (by kernel_rfl) (by kernel_rfl) rfl rfl ?_;intro v49 yJ;obtain rfl:=eA.1 yJ;refine ah 51 5 (ah 52 0 (ah 53 9 ?_));refine c5 58 54 23 52 53 hl rfl (h:=?_);intro adh adi wI;try simp only[aP] at wI
   have oE:=dJ.Eh wI;refine bp 55 58 54 1 2 ?_;refine gu (au 56 (.load 55 (.tmp 55))) rfl rfl (λw' hS=>oE.bF hS) oE (by kernel_rfl) (by kernel_rfl) rfl rfl ?_;intro IX v8;obtain rfl:=eA.1 v8;replace hF:=hF.st aJ;replace dQ:=dQ.t aJ;refine fJ 50 29 [44,49] [52,55] Tryz.call29 rfl (DQ (c:=l[k].A) hF dQ) ?_;rintro uq gM ⟨rfl,aR⟩;rw[aad];refine⟨(hR.trans aR (by simp)).ext,?_⟩;replace hF:=hF.st aR;replace dQ:=dQ.t aR;refine fJ 57 29 [51,56] [52,55] Tryz.call29 rfl (DQ (c:=l[k].B) hF dQ) ?_;rintro Al ij ⟨rfl,aZ⟩;rw[hib];replace hR:=hR.t aR;refine⟨(hR.trans aZ (by simp)).ext,?_⟩;refine aC 10 50 (aC 11 57 (aj.nil (ai ?_)));refine dm (id:=17) (ops:=DR.Fs) [] (aW) [af 0,af 1,af 2,af 3,af 4,af 5,af 6,af 7,af 8] cM (by kernel_rfl) (by kernel_rfl) (by kernel_rfl) ?_;intro jK bg;refine ah 58 6 (ah 59 10 ?_);replace hw:=(((hw.t aJ).t aR).t aZ).t bg;refine dK 3 60 22 58 59 hw rfl (by omega) (h:=?_);intro CU Tz;try simp only[aP]
   refine oV (I:=[]) (au 61 (.load 3 (.tmp 60))) rfl rfl hw Tz (λw' hS=>hw.bF Tz hS) (by omega) (by kernel_rfl) rfl rfl ?_;intro nr Ds;try simp only[aP] at Ds
   first|(obtain rfl:=jF.1 Ds)|(obtain rfl:=g_.1 Ds)
   refine ah 62 6 (ah 63 11 ?_);refine dK 3 64 22 62 63 hw rfl (by omega) (h:=?_);intro E_ AE;try simp only[aP]
   refine oV (I:=[]) (au 65 (.load 3 (.tmp 64))) rfl rfl hw AE (λw' hS=>hw.bF AE hS) (by omega) (by kernel_rfl) rfl rfl ?_;intro bw DH;try simp only[aP] at DH
   first|(obtain rfl:=jF.1 DH)|(obtain rfl:=g_.1 DH)
   refine ax (au 66 (.binOp .neq 3 (.tmp 61) (.tmp 65) 3)) (λ_=>fI rfl rfl) ?_;refine aj.nil ?_;refine bQ 66 rfl (λyU=>?_) (λyU=>?_)
   ·
    have hne:lw[p9]≠lw[ib]:=λe=>yU (by rw[e]);obtain⟨aae,hlt3⟩:=yP.put (List.getElem_mem aF) Tx Ty ea eb (by omega) (by omega) hne;refine ai ?_;refine dm (id:=18) (ops:=DR.FO) [] (aW) [af 0,af 1,af 2,af 3,af 4,af 5,af 6,af 7,af 8,af 9] cM (by kernel_rfl) (by kernel_rfl) (by kernel_rfl) ?_;intro j5 bz;refine ah 67 6 (ah 68 10 ?_);replace hw:=hw.t bz;refine dK 3 69 22 67 68 hw rfl (by omega) (h:=?_);intro Ft wF;try simp only[aP]
    refine oV (I:=[]) (au 70 (.load 3 (.tmp 69))) rfl rfl hw wF (λw' hS=>hw.bF wF hS) (by omega) (by kernel_rfl) rfl rfl ?_;intro v70 qu;try simp only[aP] at qu
    first|(obtain rfl:=jF.1 qu)|(obtain rfl:=g_.1 qu)
    refine ah 71 6 (ah 72 11 ?_);refine dK 3 73 22 71 72 hw rfl (by omega) (h:=?_);intro AZ C_;try simp only[aP]
    refine oV (I:=[]) (au 74 (.load 3 (.tmp 73))) rfl rfl hw C_ (λw' hS=>hw.bF C_ hS) (by omega) (by kernel_rfl) rfl rfl ?_;intro QL qv;try simp only[aP] at qv
    first|(obtain rfl:=jF.1 qv)|(obtain rfl:=g_.1 qv)
    refine ax (au 75 (.call {callee:=.builtin .min,args:=#[(.tmp 70),(.tmp 74)],argTypes:=#[3,3]})) (λ_=>eY (Ux rfl rfl Tryz.underlying3) (congrArg (Value.int .i64) (show min ((lw[p9]:Nat):Int) ((lw[ib]:Nat):Int)=((min lw[p9] lw[ib]:Nat):Int) from by omega))) ?_;refine aC 12 75 (aj.nil (ai (aq [af 0,af 1,af 2,af 3,af 4,af 5,af 6,nn 7,af 8,nn 9] ?_)));refine ah 76 6 (ah 77 10 (ah 78 6 (ah 79 11 (ah 80 12 (ah 81 12 ?_)))));refine dK 3 82 22 76 77 hw rfl (by omega) (h:=?_);intro RQ aaf;try simp only[aP]
    refine cq (k0 (.store 3 (.tmp 82) (.tmp 80))) rfl (gw hw aaf (by omega) rfl rfl (by kernel_rfl) (jF.2 rfl)) ?_;rintro _ kT ⟨rfl,bJ,hw⟩;have hs1: (lw.set p9 (min lw[p9] lw[ib])).length=lw.length:=List.length_set;refine dK 3 83 22 78 79 hw rfl (by omega) (h:=?_);intro adj aag;try simp only[aP]
    refine cq (k0 (.store 3 (.tmp 83) (.tmp 81))) rfl (gw hw aag (by omega) rfl rfl (by kernel_rfl) (jF.2 rfl)) ?_;rintro _ k_ ⟨rfl,bC,hw⟩;refine aj.nil (aq [af 0] ?_);refine aX 8 (.bool true) (aj.nil (bR (aq [af 0,af 1,af 2] ?_)));refine ah 42 9 ?_;refine cn 43 3 42 1 (aC 9 43 (aj.nil ?_));replace hT:=((((((hT.t aJ).t aR).t aZ).t bg).t bz).t bJ).t bC;replace hl:=(((((hl.t aR).t aZ).t bg).t bz).t bJ).t bC;replace hF:=((((hF.st aZ).st bg).st bz).st bJ).st bC;replace dQ:=((((dQ.t aZ).t bg).t bz).t bJ).t bC;refine kp (ak 0 (ak 5 (ak 6 (ak 8 (aV 9 rfl (eq_int (by simp)) (aY _)))))) (oB (k+1,(lw.set p9 (min lw[p9] lw[ib])).set ib (min lw[p9] lw[ib]),true,aW) _ ⟨(by first|omega|(simp only;omega)),aae,(by simp only;omega),(λ_=>by simp only;omega),(λe=>by cases e),hF,hT,hl,dQ,hw⟩ (by first|omega|(simp only;omega)))
   have heq:lw[p9]=lw[ib]:=by have:=Classical.not_not.1 yU;exact_mod_cast this
   refine bn (bR (aq [af 0,af 1,af 2] ?_));refine ah 42 9 ?_;refine cn 43 3 42 1 (aC 9 43 (aj.nil ?_));replace hT:=(((hT.t aJ).t aR).t aZ).t bg;replace hl:=((hl.t aR).t aZ).t bg;replace hF:=(hF.st aZ).st bg;replace dQ:=(dQ.t aZ).t bg;refine kp (aV 0 rfl rfl (aV 5 rfl rfl (aV 6 rfl rfl (aV 8 rfl rfl (aV 9 rfl (eq_int (by simp)) (aY _)))))) (oB (k+1,lw,F0,aW) _ ⟨(by first|omega|(simp only;omega)),yP,hle,hlt,(λe=>by
       obtain⟨e1,e2⟩:=oe e;refine⟨e1,λy hy a b ha hb ea' eb'=>?_⟩;rw[List.take_succ_eq_append_getElem aF] at hy;rcases List.mem_append.1 hy with hy|hy
       ·exact e2 y hy a b ha hb ea' eb'
       ·simp only[List.mem_singleton] at hy;subst hy;obtain rfl:=Jz (vw l) ha Tx (by rw[ea',ea]);obtain rfl:=Jz (vw l) hb Ty (by rw[eb',eb]);show lw.getD a 0=lw.getD b 0;rw[List.getD_eq_getElem?_getD,List.getD_eq_getElem?_getD,List.getElem?_eq_getElem (by omega),List.getElem?_eq_getElem (by omega)];exact heq),hF,hT,hl,dQ,hw⟩ (by first|omega|(simp only;omega)))
  have aF:k=l.length:=by omega
  subst aF;rw[List.take_length] at oe;refine cB 4 ?_;refine bR ?_;refine kp (aV 0 rfl rfl (aV 5 rfl rfl (aV 6 rfl rfl (aV 8 rfl rfl (aY _))))) (fk (lw,F0,aW) _ ⟨yP,(λe=>(oe e).2),hF,hT,hl,dQ,hw⟩ (by
      simp only;cases F0 with
      |true=>have:=hlt rfl;simp;omega
      |false=>have:=(oe rfl).1;subst this;simp))
 have tg:=dP Aj;refine cB 2 ?_;refine ai (aq [af 0] ?_);refine aX 13 (.slice none 0 0) (aj.nil (ai (ai (aq [af 0] ?_))));refine aX 14 (.int .i64 0) ?_;refine aj.nil (bD 6 ?_);refine cK (ι:=Nat×Value×(Nat->Nat)) (I:=λx w=>x.1<=(aO l).length/\aL w x.2.2/\ay [2,3,4,5,6,7,8,9] w₀ (bq C) w x.2.2/\aB w (aA x.2.2) l aG/\aB w (aA x.2.2) (aO l) kz/\bh w x.2.2 3 3 v26 low/\bh w x.2.2 4 52 x.2.1 (ry l x.1)) (e:=λx=>[(0,aG),(5,kz),(6,v26),(13,x.2.1),(14,.int .i64 x.1)]) (m:=λx=>(aO l).length-x.1) (cE:=(0,.slice none 0 0,aW)) (ak 0 (ak 5 (ak 6 (ak 13 (ak 14 (aY _)))))) ?_ ?_
 · exact⟨Nat.zero_le _,hF,hT,hl,dQ,hw,by rw[jb];exact bh.nil⟩
 intro⟨i,dU,aW⟩ mI hI sw;obtain⟨hi,hF,hT,hl,dQ,hw,ho⟩:=hI;try simp only at hi hF hT hl dQ hw ho
 show Run _ _ _ _ [(0,aG),(5,kz),(6,v26),(13,dU),(14,.int .i64 i)] _ _;have Fx:=hW.len;have xG:=Ob l i;refine ai (ai (aq [af 0,af 1,af 2,af 3] ?_));refine ah 84 14 (ah 85 5 ?_);refine zE 86 85 52 (dQ.bS rfl Tryz.underlying52) ?_;refine c4 87 3 84 86 (aj.nil ?_);refine bQ 87 rfl (λF1=>?_) (λF1=>?_)
 ·
  have hil:i<(aO l).length:=by omega
  have hst:=κ hW tg hil (by omega);refine bn (ai (bD 7 (ai (ai (aq [af 0,af 1,af 2,nn 3,af 4,af 5] ?_)))));refine ah 90 6 (ah 91 14 ?_);refine dK 3 92 22 90 91 hw rfl (by omega) (h:=?_);intro TA aah;try simp only[aP]
  refine qA (au 93 (.load 3 (.tmp 92))) rfl rfl trivial hw aah (by omega) (by kernel_rfl) rfl rfl ?_;intro v93 DB;try simp only[aP] at DB
  first|(obtain rfl:=jF.1 DB)|(obtain rfl:=g_.1 DB)
  refine ah 94 14 ?_;refine ax (au 95 (.binOp .neq 3 (.tmp 93) (.tmp 94) 3)) (λ_=>fI rfl rfl) ?_;refine aj.nil ?_;refine bQ 95 rfl (λwO=>?_) (λwO=>?_)
  ·
   have hne:¬low[i]=i:=λe=>wO (by exact_mod_cast e);rw[if_neg hne] at hst;refine cB 7 ?_;refine aq [af 0,af 1,af 2] ?_;refine ah 88 14 ?_;refine cn 89 3 88 1 (aC 14 89 (aj.nil ?_));refine kp (ak 0 (ak 5 (ak 6 (ak 13 (aV 14 rfl (eq_int (by simp)) (aY _)))))) (sw (i+1,dU,aW) _ ⟨(by first|omega|(simp only;omega)),hF,hT,hl,dQ,hw,(by simp only;rw[hst];exact ho)⟩ (by first|omega|(simp only;omega)))
  have heq:low[i]=i:=by have:=Classical.not_not.1 wO;exact_mod_cast this
  rw[if_pos heq] at hst;obtain⟨pr,KY⟩:∃p:av->Bool,p=λr=>decide (cm l r=cm l (aO l)[i]):=⟨_,rfl⟩
  rw[<-KY] at hst;refine bn (ai (aq [af 0] ?_));refine aX 15 (.slice none 0 0) (aj.nil (ai (ai (aq [af 0] ?_))));refine aX 16 (.int .i64 0) ?_;refine aj.nil (bD 8 ?_);refine cK (ι:=Nat×Value×(Nat->Nat)) (I:=λx w=>x.1<=(aO l).length/\aL w x.2.2/\ay [2,3,4,5,6,7,8,9] w₀ (bq C) w x.2.2/\aB w (aA x.2.2) l aG/\aB w (aA x.2.2) (aO l) kz/\bh w x.2.2 3 3 v26 low/\bh w x.2.2 4 52 dU (ry l i)/\bh w x.2.2 5 55 x.2.1 (((aO l).take x.1).filter pr)) (e:=λx=>[(0,aG),(5,kz),(6,v26),(13,dU),(14,.int .i64 i),(15,x.2.1),(16,.int .i64 x.1)]) (m:=λx=>(aO l).length-x.1) (cE:=(0,.slice none 0 0,aW)) (ak 0 (ak 5 (ak 6 (ak 13 (ak 14 (ak 15 (ak 16 (aY _)))))))) ?_ ?_
  · exact⟨Nat.zero_le _,hF,hT,hl,dQ,hw,ho,bh.nil⟩
  intro⟨k,dL,aW⟩ nc hI Db;obtain⟨hk,hF,hT,hl,dQ,hw,ho,hp⟩:=hI;try simp only at hk hF hT hl dQ hw ho hp
  show Run _ _ _ _ [(0,aG),(5,kz),(6,v26),(13,dU),(14,.int .i64 i),(15,dL),(16,.int .i64 k)] _ _;have pZ:=List.length_filter_le pr ((aO l).take k);rw[List.length_take] at pZ;refine ai (ai (aq [af 0,af 1,af 2,af 3] ?_));refine ah 96 16 (ah 97 5 ?_);refine zE 98 97 52 (dQ.bS rfl Tryz.underlying52) ?_;refine c4 99 3 96 98 (aj.nil ?_);refine bQ 99 rfl (λaai=>?_) (λaai=>?_)
  ·
   have aF:k<(aO l).length:=by omega
   have hft:=pW pr aF;refine bn (ai (bD 9 (ai (aq [af 0,af 1,af 2,nn 3,af 4,af 5] ?_))));refine ah 102 6 (ah 103 16 ?_);refine dK 3 104 22 102 103 hw rfl (by omega) (h:=?_);intro adk aaj;try simp only[aP]
   refine qA (au 105 (.load 3 (.tmp 104))) rfl rfl trivial hw aaj (by omega) (by kernel_rfl) rfl rfl ?_;intro v105 KZ;try simp only[aP] at KZ
   first|(obtain rfl:=jF.1 KZ)|(obtain rfl:=g_.1 KZ)
   refine ah 106 14 ?_;refine ax (au 107 (.binOp .eql 3 (.tmp 105) (.tmp 106) 3)) (λ_=>fQ rfl rfl) ?_;refine aj.nil ?_;refine bQ 107 rfl (λK0=>?_) (λK0=>?_)
   ·
    have hpk:pr (aO l)[k]=true:=by rw[KY];exact decide_eq_true ((Qx hW tg hil aF (by omega) (by omega) heq).1 (by exact_mod_cast K0))
    rw[if_pos hpk] at hft;refine aq [af 0,af 1,af 2,af 3,nn 4,nn 5,nn 6,af 7] ?_;refine ah 108 15 (ah 109 5 (ah 110 16 ?_));refine c5 55 111 52 109 110 dQ rfl (h:=?_);intro adl adn TB;try simp only[aP] at TB
    refine iH (au 112 (.load 55 (.tmp 111))) rfl rfl trivial TB (by kernel_rfl) (by kernel_rfl) rfl rfl ?_;intro ado aak;obtain rfl:=eA.1 aak;refine bG (au 113 (.buildSlice 52 1 #[(0,(.tmp 112))])) rfl rfl (f_ (ys:=([(aO l)[k]]:List av)) (e:=55) (bytes:=16) hF (by kernel_rfl) rfl (by decide) (by decide) ⟨rfl,⟨_,rfl,eA.2 rfl⟩,trivial⟩) ?_;rintro adp pK ⟨bX,aal,hF⟩;replace hp:=hp.t bX;refine bG (au 114 (.call {callee:=.builtin .append,args:=#[(.tmp 108),(.tmp 113)],argTypes:=#[52,52]})) rfl rfl (gl (e:=55) (bytes:=16) hF (by decide) rfl rfl (by kernel_rfl) (by decide) hp aal (by simp only[List.length_cons,List.length_nil];omega) (by simp only[List.length_cons,List.length_nil];omega)) ?_;rintro aam pL ⟨CD,b_,hp,hF⟩;refine aC 15 114 (aj.nil (bR (aq [af 0,af 1,af 2] ?_)));refine ah 100 16 ?_;refine cn 101 3 100 1 (aC 16 101 (aj.nil ?_));replace hT:=(hT.t bX).t b_;replace hl:=(hl.t bX).t b_;replace dQ:=(dQ.t bX).t b_;replace hw:=(hw.t bX).t b_;replace ho:=(ho.t bX).t b_;refine kp (ak 0 (ak 5 (ak 6 (ak 13 (ak 14 (ak 15 (aV 16 rfl (eq_int (by simp)) (aY _)))))))) (Db (k+1,aam,CD) _ ⟨(by first|omega|(simp only;omega)),hF,hT,hl,dQ,hw,ho,(by simp only;rw[hft];exact hp)⟩ (by first|omega|(simp only;omega)))
   have hpk:¬pr (aO l)[k]=true:=by rw[KY];intro e;exact K0 (by have:=(Qx hW tg hil aF (by omega) (by omega) heq).2 (of_decide_eq_true e);exact_mod_cast this)
   rw[if_neg hpk] at hft;refine bn (bR (aq [af 0,af 1,af 2] ?_));refine ah 100 16 ?_;refine cn 101 3 100 1 (aC 16 101 (aj.nil ?_));refine kp (ak 0 (ak 5 (ak 6 (ak 13 (ak 14 (ak 15 (aV 16 rfl (eq_int (by simp)) (aY _)))))))) (Db (k+1,dL,aW) _ ⟨(by first|omega|(simp only;omega)),hF,hT,hl,dQ,hw,ho,(by simp only;rw[hft];exact hp)⟩ (by first|omega|(simp only;omega)))
  have aF:k=(aO l).length:=by omega
  subst aF;rw[List.take_length] at hp;have adq:=List.length_filter_le pr (aO l);replace hF:=hF.dM 5;replace hT:=hT.dM (n:=5) (λb=>Nat.lt_of_lt_of_le (BD C b) (by decide));replace hl:=hl.dM 5;replace dQ:=dQ.dM 5;replace hw:=hw.D4 (n:=5) (by decide);replace ho:=ho.D4 (n:=5) (by decide);have hpv:=hp.dM (n:=5) (by decide) (by omega);refine cB 8 ?_;refine aq [af 0,af 1,nn 2,nn 3,af 4] ?_;refine ah 115 13 (ah 116 15 ?_);refine bG (au 117 (.buildSlice 24 1 #[(0,(.tmp 116))])) rfl rfl (f_ (ys:=([(aO l).filter pr]:List (List av))) (e:=52) (bytes:=24) hF (by kernel_rfl) rfl (by decide) (by decide) ⟨rfl,⟨_,rfl,hpv⟩,trivial⟩) ?_;rintro v117 nT ⟨bV,aan,hF⟩;replace ho:=ho.t bV;refine bG (au 118 (.call {callee:=.builtin .append,args:=#[(.tmp 115),(.tmp 117)],argTypes:=#[24,24]})) rfl rfl (gl (e:=52) (bytes:=24) hF (by decide) rfl rfl (by kernel_rfl) (by decide) ho aan (by simp only[List.length_cons,List.length_nil];omega) (by simp only[List.length_cons,List.length_nil];omega)) ?_;rintro aao qp ⟨J_,cu,ho,hF⟩;refine aC 13 118 (aj.nil (bR (aq [af 0,af 1,af 2] ?_)));refine ah 88 14 ?_;refine cn 89 3 88 1 (aC 14 89 (aj.nil ?_));replace hT:=(hT.t bV).t cu;replace hl:=(hl.t bV).t cu;replace dQ:=(dQ.t bV).t cu;replace hw:=(hw.t bV).t cu;refine kp (ak 0 (ak 5 (ak 6 (ak 13 (aV 14 rfl (eq_int (by simp)) (aY _)))))) (sw (i+1,aao,J_) _ ⟨(by first|omega|(simp only;omega)),hF,hT,hl,dQ,hw,(by simp only;rw[hst];exact ho)⟩ (by first|omega|(simp only;omega)))
 have hil:i=(aO l).length:=by omega
 subst hil;rw[iR] at ho;refine cB 6 ?_;refine ai (aq [af 0,af 1,af 2] ?_);refine ah 119 13 (aC 2 119 (aX 3 (.int .i64 0) (aj.nil ?_)));refine ny (by kernel_rfl) Tryz.func27 Tryz.results27 rfl rfl ?_;rw[l8];exact⟨_,rfl,hT.bW (by decide),by rw[if_pos rfl];exact ho.out hT bH (ez C) (λb _=>h_ C (by decide) b) (by have:=Ma l;omega)⟩
end
end Go.Proofs.YtmdhggfehknjjaaGreat
