/- Steps through functions of the program. -/
import Derived.Test.YtmdhggfehknjjaaGreatJF9G4
import Derived.Test.YtmdhggfehknjjaaGreatL3
import Derived.Test.YtmdhggfehknjjaaGreatL2
import Derived.Test.YtmdhggfehknjjaaGreatJN9E2
set_option linter.unusedVariables false
set_option linter.unusedSimpArgs false
set_option maxRecDepth 100000
set_option maxHeartbeats 4000000
namespace Go.Proofs.YtmdhggfehknjjaaGreat
open Go.K Go.K.bu
noncomputable section
namespace KD
def c0:=bZ Tryz.f85
def kr:=(cl (aH (cl (aH (aH c0)))))
def uw:=(cl (cl (aH (aH (cl kr)))))
def jU:=dF (cl (aH uw))
end KD
theorem S5 {w₀:World} {C:Nat->Nat} {xs ys:List a_} {b7 bO:Value} (hF:aL w₀ C) (ha:aB w₀ (aA C) xs b7) (hb:aB w₀ (aA C) ys bO):Calls Tryz.prog 85 #[b7,bO] w₀ (bI λv w'=>v=.bool (decide (xs=ys))/\ay [] w₀ C w' C):=by
 have bH:=hF;have hT:=z9 w₀ C;replace hF:=hF.bq;replace ha:=ha.c1;replace hb:=hb.c1;refine bT KD.c0 26 [b7,bO] Tryz.func85 ?_;show Run _ _ _ _ [(0,b7),(1,bO)] _ _;refine ai (aq [af 0] ?_);refine aX 4 (.bool false) (aj.nil (ai (ai (aq [af 0,af 1,af 2,af 3,af 4] ?_))));refine ah 6 0 ?_;refine zE 7 6 23 (ha.bS rfl Tryz.underlying23) ?_;refine ah 8 1 ?_;refine zE 9 8 23 (hb.bS rfl Tryz.underlying23) ?_;refine ax (au 10 (.binOp .neq 3 (.tmp 7) (.tmp 9) 3)) (λ_=>fI rfl rfl) ?_;refine aj.nil ?_;refine bQ 10 rfl (λjm=>?_) (λjm=>?_)
 ·
  have hne:xs≠ys:=λe=>by rw[e] at jm;exact jm rfl
  refine ai (aq [af 0] ?_);refine aX 4 (.bool false) (aj.nil ?_);refine bP Tryz.func85 Tryz.results85 ?_;exact⟨by rw[decide_eq_false hne],hT.bW (by decide)⟩
 have j0:xs.length=ys.length:=by omega
 refine bn (ai (ai (aq [af 0,af 1,af 2] ?_)));refine ah 11 0 ?_;refine zE 12 11 23 (ha.bS rfl Tryz.underlying23) ?_;refine eE 13 (.int .i64 0) ?_;refine aj.nil (bD 0 ?_);refine cK (ι:=Nat×(Nat->Nat)) (I:=λx w=>x.1<=xs.length/\(∀i (hi:i<x.1) (h1:i<xs.length) (h2:i<ys.length),xs[i]=ys[i])/\aL w x.2/\ay [2,3,4,5,6,7,8,9] w₀ (bq C) w x.2/\aB w (aA x.2) xs b7/\aB w (aA x.2) ys bO) (e:=λx=>[(0,b7),(1,bO),(12,.int .i64 xs.length),(13,.int .i64 x.1)]) (m:=λx=>xs.length-x.1) (cE:=(0,bq C)) (ak 0 (ak 1 (ak 12 (ak 13 (aY _))))) ?_ ?_
 · exact⟨Nat.zero_le _,λi hi=>by simp only at hi;omega,hF,hT,ha,hb⟩
 intro⟨k,aW⟩ w1 hI bN;obtain⟨hk,h0,hF,hT,ha,hb⟩:=hI;try simp only at hk h0 hF hT ha hb
 show Run _ _ _ _ [(0,b7),(1,bO),(12,.int .i64 xs.length),(13,.int .i64 k)] _ _;have hle:=ha.le;refine ai (aq [af 0] ?_);refine c4 14 3 13 12 (aj.nil (ai ?_));refine bQ 14 rfl (λeC=>?_) (λeC=>?_)
 ·
  have aF:k<xs.length:=by omega
  have rA:k<ys.length:=by omega
  refine bn (ai (bD 1 (ai (aq [af 0,af 1] ?_))));refine ah 15 13 (aC 5 15 (aj.nil (ai ?_)));refine dm (id:=6) (ops:=KD.jU) [] (aW) [af 0,af 1,af 2,af 3,af 4,af 5,af 6,af 7,af 8] cM (by kernel_rfl) (by kernel_rfl) (by kernel_rfl) ?_;intro w2 s_1;refine ah 16 0 (ah 17 5 ?_);replace ha:=ha.t s_1;refine c5 58 18 23 16 17 ha rfl (h:=?_);intro S6 FO j7;try simp only[aP] at j7
  refine gu (au 19 (.load 58 (.tmp 18))) rfl rfl (λw' hS=>j7.bF hS) j7 (by kernel_rfl) (by kernel_rfl) rfl rfl ?_;intro Ak g19;refine ah 20 1 (ah 21 5 ?_);replace hb:=hb.t s_1;refine c5 58 22 23 20 21 hb rfl (h:=?_);intro q4 q5 kS;try simp only[aP] at kS
  refine gu (au 23 (.load 58 (.tmp 22))) rfl rfl (λw' hS=>kS.bF hS) kS (by kernel_rfl) (by kernel_rfl) rfl rfl ?_;intro v23 g23;obtain rfl:=jy.1 g19;obtain rfl:=jy.1 g23;refine ax (au 24 (.binOp .neq 58 (.tmp 19) (.tmp 23) 58)) (λ_=>NV (a:=_) (b:=_) Tryz.underlying58 (by decide) (by decide) (by decide) (by kernel_rfl) (BM Tryz.underlying55 (by decide) (by decide) (by kernel_rfl) Tryz.underlying3) Tryz.underlying3 (by kernel_rfl) (by kernel_rfl) (by kernel_rfl) rfl rfl) ?_;refine aj.nil ?_;refine bQ 24 rfl (λpO=>?_) (λpO=>?_)
  ·
   have hne:xs≠ys:=λe=>pO (by subst e;rfl);refine ai (aq [af 0] ?_);refine aX 4 (.bool false) (aj.nil ?_);refine bP Tryz.func85 Tryz.results85 ?_;replace hT:=hT.t s_1;exact⟨by rw[decide_eq_false hne],hT.bW (by decide)⟩
  have KE:xs[k]=ys[k]:=Classical.not_not.1 pO;refine bn (bR (aq [af 0,af 1] ?_));refine cn 25 3 13 1 (ah 13 25 (aj.nil ?_));replace hF:=hF.st s_1;replace hT:=hT.t s_1;refine kp (aV 0 rfl rfl (aV 1 rfl rfl (aV 12 rfl rfl (aV 13 rfl (eq_int (by simp)) (aY _))))) (bN (k+1,aW) _ ⟨(by first|omega|(simp only;omega)),(λi hi h1 h2=>by
    simp only at hi;by_cases e:i=k
    ·subst e;exact KE
    ·exact h0 i (by omega) h1 h2),hF,hT,ha,hb⟩ (by first|omega|(simp only;omega)))
 have aF:k=xs.length:=by omega
 have heq:xs=ys:=P5 j0 (λi h1 h2=>h0 i (by omega) h1 h2);refine cB 0 ?_;refine ai (aq [af 0] ?_);refine aX 4 (.bool true) (aj.nil ?_);refine bP Tryz.func85 Tryz.results85 ?_;exact⟨by rw[decide_eq_true heq],hT.bW (by decide)⟩
namespace KF
def c0:=bZ Tryz.f87
def kr:=(cl (aH (cl (aH (aH c0)))))
def uw:=(cl (cl (aH (aH (cl kr)))))
def jU:=dF (cl (aH uw))
end KF
theorem q6 {w₀:World} {C:Nat->Nat} {xs ys:List CC} {b7 bO:Value} (hF:aL w₀ C) (ha:aB w₀ (aA C) xs b7) (hb:aB w₀ (aA C) ys bO):Calls Tryz.prog 87 #[b7,bO] w₀ (bI λv w'=>v=.bool (decide (xs=ys))/\ay [] w₀ C w' C):=by
 have bH:=hF;have hT:=z9 w₀ C;replace hF:=hF.bq;replace ha:=ha.c1;replace hb:=hb.c1;refine bT KF.c0 26 [b7,bO] Tryz.func87 ?_;show Run _ _ _ _ [(0,b7),(1,bO)] _ _;refine ai (aq [af 0] ?_);refine aX 4 (.bool false) (aj.nil (ai (ai (aq [af 0,af 1,af 2,af 3,af 4] ?_))));refine ah 6 0 ?_;refine zE 7 6 136 (ha.bS rfl Tryz.underlying136) ?_;refine ah 8 1 ?_;refine zE 9 8 136 (hb.bS rfl Tryz.underlying136) ?_;refine ax (au 10 (.binOp .neq 3 (.tmp 7) (.tmp 9) 3)) (λ_=>fI rfl rfl) ?_;refine aj.nil ?_;refine bQ 10 rfl (λjm=>?_) (λjm=>?_)
 ·
  have hne:xs≠ys:=λe=>by rw[e] at jm;exact jm rfl
  refine ai (aq [af 0] ?_);refine aX 4 (.bool false) (aj.nil ?_);refine bP Tryz.func87 Tryz.results87 ?_;exact⟨by rw[decide_eq_false hne],hT.bW (by decide)⟩
 have j0:xs.length=ys.length:=by omega
 refine bn (ai (ai (aq [af 0,af 1,af 2] ?_)));refine ah 11 0 ?_;refine zE 12 11 136 (ha.bS rfl Tryz.underlying136) ?_;refine eE 13 (.int .i64 0) ?_;refine aj.nil (bD 0 ?_);refine cK (ι:=Nat×(Nat->Nat)) (I:=λx w=>x.1<=xs.length/\(∀i (hi:i<x.1) (h1:i<xs.length) (h2:i<ys.length),xs[i]=ys[i])/\aL w x.2/\ay [2,3,4,5,6,7,8,9] w₀ (bq C) w x.2/\aB w (aA x.2) xs b7/\aB w (aA x.2) ys bO) (e:=λx=>[(0,b7),(1,bO),(12,.int .i64 xs.length),(13,.int .i64 x.1)]) (m:=λx=>xs.length-x.1) (cE:=(0,bq C)) (ak 0 (ak 1 (ak 12 (ak 13 (aY _))))) ?_ ?_
 · exact⟨Nat.zero_le _,λi hi=>by simp only at hi;omega,hF,hT,ha,hb⟩
 intro⟨k,aW⟩ w1 hI bN;obtain⟨hk,h0,hF,hT,ha,hb⟩:=hI;try simp only at hk h0 hF hT ha hb
 show Run _ _ _ _ [(0,b7),(1,bO),(12,.int .i64 xs.length),(13,.int .i64 k)] _ _;have hle:=ha.le;refine ai (aq [af 0] ?_);refine c4 14 3 13 12 (aj.nil (ai ?_));refine bQ 14 rfl (λeC=>?_) (λeC=>?_)
 ·
  have aF:k<xs.length:=by omega
  have rA:k<ys.length:=by omega
  refine bn (ai (bD 1 (ai (aq [af 0,af 1] ?_))));refine ah 15 13 (aC 5 15 (aj.nil (ai ?_)));refine dm (id:=6) (ops:=KF.jU) [] (aW) [af 0,af 1,af 2,af 3,af 4,af 5,af 6,af 7,af 8] cM (by kernel_rfl) (by kernel_rfl) (by kernel_rfl) ?_;intro w2 s_1;refine ah 16 0 (ah 17 5 ?_);replace ha:=ha.t s_1;refine c5 138 18 136 16 17 ha rfl (h:=?_);intro S6 FO j7;try simp only[aP] at j7
  refine gu (au 19 (.load 138 (.tmp 18))) rfl rfl (λw' hS=>j7.bF hS) j7 (by kernel_rfl) (by kernel_rfl) rfl rfl ?_;intro Ak g19;refine ah 20 1 (ah 21 5 ?_);replace hb:=hb.t s_1;refine c5 138 22 136 20 21 hb rfl (h:=?_);intro q4 q5 kS;try simp only[aP] at kS
  refine gu (au 23 (.load 138 (.tmp 22))) rfl rfl (λw' hS=>kS.bF hS) kS (by kernel_rfl) (by kernel_rfl) rfl rfl ?_;intro v23 g23;obtain rfl:=yG.1 g19;obtain rfl:=yG.1 g23;refine ax (au 24 (.binOp .neq 138 (.tmp 19) (.tmp 23) 138)) (λ_=>P4 (a:=_) (b:=_) (Jp Tryz.underlying138 (by decide) (by decide) (by kernel_rfl) Tryz.underlying55 (by decide) (by decide) (by kernel_rfl) Tryz.underlying3 (by kernel_rfl) (by kernel_rfl)) (by kernel_rfl) rfl rfl) ?_;refine aj.nil ?_;refine bQ 24 rfl (λpO=>?_) (λpO=>?_)
  ·
   have hne:xs≠ys:=λe=>pO (by subst e;rfl);refine ai (aq [af 0] ?_);refine aX 4 (.bool false) (aj.nil ?_);refine bP Tryz.func87 Tryz.results87 ?_;replace hT:=hT.t s_1;exact⟨by rw[decide_eq_false hne],hT.bW (by decide)⟩
  have KE:xs[k]=ys[k]:=Classical.not_not.1 pO;refine bn (bR (aq [af 0,af 1] ?_));refine cn 25 3 13 1 (ah 13 25 (aj.nil ?_));replace hF:=hF.st s_1;replace hT:=hT.t s_1;refine kp (aV 0 rfl rfl (aV 1 rfl rfl (aV 12 rfl rfl (aV 13 rfl (eq_int (by simp)) (aY _))))) (bN (k+1,aW) _ ⟨(by first|omega|(simp only;omega)),(λi hi h1 h2=>by
    simp only at hi;by_cases e:i=k
    ·subst e;exact KE
    ·exact h0 i (by omega) h1 h2),hF,hT,ha,hb⟩ (by first|omega|(simp only;omega)))
 have aF:k=xs.length:=by omega
 have heq:xs=ys:=P5 j0 (λi h1 h2=>h0 i (by omega) h1 h2);refine cB 0 ?_;refine ai (aq [af 0] ?_);refine aX 4 (.bool true) (aj.nil ?_);refine bP Tryz.func87 Tryz.results87 ?_;exact⟨by rw[decide_eq_true heq],hT.bW (by decide)⟩
namespace FP
def c0:=bZ Tryz.f42
end FP
theorem q7 {w₀:World} {C:Nat->Nat} {c0:Nat} (hF:aL w₀ C) (hw:aB w₀ (aA C) ([]:List a_) (.slice none 0 c0)):Calls Tryz.prog 42 #[.slice none 0 c0] w₀ (bI λv w'=>ay [] w₀ C w' C/\aB w' (aA C) ([]:List a_) v):=by
 have bH:=hF;have hT:=z9 w₀ C;replace hF:=hF.bq;replace hw:aB w₀ (aA (bq C)) ([]:List a_) (.slice none 0 c0):=by rw[ez];exact hw
 refine bT FP.c0 8 [.slice none 0 c0] Tryz.func42 ?_;show Run _ _ _ _ [(0,.slice none 0 c0)] _ _;refine ai (aq [af 0] ?_);refine aX 2 (.slice none 0 0) (aj.nil (ai (ai (aq [af 0,af 1] ?_))));refine ah 3 0 ?_;refine ax (au 4 (.binOp .eql 23 (.tmp 3) (.const (.slice none 0 0)) 23)) (λ_=>HS rfl Tryz.underlying23) ?_;refine aj.nil (lH 4 (ai (aq [af 0] ?_)));refine aX 2 (.slice none 0 0) (aj.nil ?_);refine bP Tryz.func42 Tryz.results42 ?_;exact⟨hT.bW (by decide),jX⟩
theorem e7 {w₀:World} {C:Nat->Nat} {px:Value} (hF:aL w₀ C) (hw:aB w₀ (aA C) ([]:List a_) px) {b0:Addr} {c0:Nat} (lz:px=.slice (some b0) 0 c0):Calls Tryz.prog 42 #[px] w₀ (bI λv w'=>ay [] w₀ C w' C/\aB w' (aA C) ([]:List a_) v):=by
 have bH:=hF;have hT:=z9 w₀ C;replace hF:=hF.bq;replace hw:aB w₀ (aA (bq C)) ([]:List a_) px:=by rw[ez];exact hw
 refine bT FP.c0 8 [px] Tryz.func42 ?_;show Run _ _ _ _ [(0,px)] _ _;refine ai (aq [af 0] ?_);refine aX 2 (.slice none 0 0) (aj.nil (ai (ai (aq [af 0,af 1] ?_))));refine ah 3 0 ?_;refine ax (au 4 (.binOp .eql 23 (.tmp 3) (.const (.slice none 0 0)) 23)) (λ_=>xT ((show _=some px from rfl).trans (congrArg some lz)) Tryz.underlying23) ?_;refine aj.nil (cR 4 (bn (ai (aq [nn 0,af 1,nn 2,af 3] ?_))));refine bG (au 5 (.buildSlice 23 0 #[])) rfl rfl (z7 (n:=5) (e:=58) (bytes:=40) hF (by kernel_rfl)) ?_;rintro _ w1 ⟨⟨a5,rfl⟩,s_1,hF⟩;refine ah 6 0 ?_;replace hw:=hw.t s_1;refine bG (au 7 (.call {callee:=.builtin .append,args:=#[(.tmp 5),(.tmp 6)],argTypes:=#[23,23]})) rfl rfl (NQ (α:=a_) (C:=bq C) (e:=58) (bytes:=40) rfl rfl (by kernel_rfl) hw) ?_;rintro uk w2 ⟨rfl,s_2⟩;refine aC 2 7 (aj.nil ?_);refine bP Tryz.func42 Tryz.results42 ?_;replace hT:=(hT.t s_1).t s_2;exact⟨hT.bW (by decide),z8⟩
theorem hG {w₀:World} {C:Nat->Nat} {xs:List a_} {px:Value} (hF:aL w₀ C) (hw:aB w₀ (aA C) xs px) (hne:xs≠[]) (hlen:xs.length<=1000000):Calls Tryz.prog 42 #[px] w₀ (bI λv w'=>ay [] w₀ C w' C/\aB w' (aA C) xs v):=by
 have bH:=hF;have hT:=z9 w₀ C;replace hF:=hF.bq;replace hw:=hw.c1;obtain⟨a0,c0,lz,AY,_,hs0⟩:=jx.1 hw;obtain⟨b0,rfl⟩:∃b,a0=some b:=by
  rcases hs0 with h|⟨b,o,rfl,_⟩
  ·exact absurd h hne
  exact⟨_,rfl⟩
 clear hs0;refine bT FP.c0 8 [px] Tryz.func42 ?_;show Run _ _ _ _ [(0,px)] _ _;refine ai (aq [af 0] ?_);refine aX 2 (.slice none 0 0) (aj.nil (ai (ai (aq [af 0,af 1] ?_))));refine ah 3 0 ?_;refine ax (au 4 (.binOp .eql 23 (.tmp 3) (.const (.slice none 0 0)) 23)) (λ_=>xT ((show _=some px from rfl).trans (congrArg some lz)) Tryz.underlying23) ?_;refine aj.nil (cR 4 (bn (ai (aq [nn 0,af 1,nn 2,af 3] ?_))));refine bG (au 5 (.buildSlice 23 0 #[])) rfl rfl (z7 (n:=5) (e:=58) (bytes:=40) hF (by kernel_rfl)) ?_;rintro _ w1 ⟨⟨a5,rfl⟩,s_1,hF⟩;refine ah 6 0 ?_;replace hw:=hw.t s_1;refine bG (au 7 (.call {callee:=.builtin .append,args:=#[(.tmp 5),(.tmp 6)],argTypes:=#[23,23]})) rfl rfl (BW (j:=5) (e:=58) (bytes:=40) (ys:=([]:List a_)) hF (by decide) rfl rfl (by kernel_rfl) (by decide) z8 hw hne (by simp only[List.length_nil];omega) (by simp only[List.length_nil];omega)) ?_;rintro uk w2 ⟨cQ,s_2,hn,hF⟩;refine aC 2 7 (aj.nil ?_);simp only[List.nil_append] at hn;refine bP Tryz.func42 Tryz.results42 ?_;replace hT:=(hT.t s_1).t s_2;exact⟨hT.bW (by decide),hn.out hT bH (ez C) (λb _=>h_ C (by decide) b) (by omega)⟩
theorem S7 {w₀:World} {C:Nat->Nat} {xs:List a_} {px:Value} (hF:aL w₀ C) (hw:aB w₀ (aA C) xs px) (hlen:xs.length<=1000000):Calls Tryz.prog 42 #[px] w₀ (bI λv w'=>ay [] w₀ C w' C/\aB w' (aA C) xs v):=by
 by_cases hne:xs=[]
 ·subst hne;obtain⟨a0,c0,lz,AY,_,hs0⟩:=jx.1 hw;have e0:px=.slice a0 0 c0:=lz;rcases a0 with _|b0
  ·subst e0;exact q7 hF hw
  ·exact e7 hF hw e0
 ·exact hG hF hw hne hlen
namespace FQ
def c0:=bZ Tryz.f150
end FQ
theorem T' {w₀:World} {C:Nat->Nat} {c0:Nat} (hF:aL w₀ C) (hw:aB w₀ (aA C) ([]:List av) (.slice none 0 c0)):Calls Tryz.prog 150 #[.slice none 0 c0] w₀ (bI λv w'=>ay [] w₀ C w' C/\aB w' (aA C) ([]:List av) v):=by
 have bH:=hF;have hT:=z9 w₀ C;replace hF:=hF.bq;replace hw:aB w₀ (aA (bq C)) ([]:List av) (.slice none 0 c0):=by rw[ez];exact hw
 refine bT FQ.c0 8 [.slice none 0 c0] Tryz.func150 ?_;show Run _ _ _ _ [(0,.slice none 0 c0)] _ _;refine ai (aq [af 0] ?_);refine aX 2 (.slice none 0 0) (aj.nil (ai (ai (aq [af 0,af 1] ?_))));refine ah 3 0 ?_;refine ax (au 4 (.binOp .eql 52 (.tmp 3) (.const (.slice none 0 0)) 52)) (λ_=>HS rfl Tryz.underlying52) ?_;refine aj.nil (lH 4 (ai (aq [af 0] ?_)));refine aX 2 (.slice none 0 0) (aj.nil ?_);refine bP Tryz.func150 Tryz.results150 ?_;exact⟨hT.bW (by decide),jX⟩
theorem r0 {w₀:World} {C:Nat->Nat} {px:Value} (hF:aL w₀ C) (hw:aB w₀ (aA C) ([]:List av) px) {b0:Addr} {c0:Nat} (lz:px=.slice (some b0) 0 c0):Calls Tryz.prog 150 #[px] w₀ (bI λv w'=>ay [] w₀ C w' C/\aB w' (aA C) ([]:List av) v):=by
 have bH:=hF;have hT:=z9 w₀ C;replace hF:=hF.bq;replace hw:aB w₀ (aA (bq C)) ([]:List av) px:=by rw[ez];exact hw
 refine bT FQ.c0 8 [px] Tryz.func150 ?_;show Run _ _ _ _ [(0,px)] _ _;refine ai (aq [af 0] ?_);refine aX 2 (.slice none 0 0) (aj.nil (ai (ai (aq [af 0,af 1] ?_))));refine ah 3 0 ?_;refine ax (au 4 (.binOp .eql 52 (.tmp 3) (.const (.slice none 0 0)) 52)) (λ_=>xT ((show _=some px from rfl).trans (congrArg some lz)) Tryz.underlying52) ?_;refine aj.nil (cR 4 (bn (ai (aq [nn 0,af 1,nn 2,af 3] ?_))));refine bG (au 5 (.buildSlice 52 0 #[])) rfl rfl (z7 (n:=2) (e:=55) (bytes:=16) hF (by kernel_rfl)) ?_;rintro _ w1 ⟨⟨a5,rfl⟩,s_1,hF⟩;refine ah 6 0 ?_;replace hw:=hw.t s_1;refine bG (au 7 (.call {callee:=.builtin .append,args:=#[(.tmp 5),(.tmp 6)],argTypes:=#[52,52]})) rfl rfl (NQ (α:=av) (C:=bq C) (e:=55) (bytes:=16) rfl rfl (by kernel_rfl) hw) ?_;rintro uk w2 ⟨rfl,s_2⟩;refine aC 2 7 (aj.nil ?_);refine bP Tryz.func150 Tryz.results150 ?_;replace hT:=(hT.t s_1).t s_2;exact⟨hT.bW (by decide),z8⟩
theorem b8 {w₀:World} {C:Nat->Nat} {xs:List av} {px:Value} (hF:aL w₀ C) (hw:aB w₀ (aA C) xs px) (hne:xs≠[]) (hlen:xs.length<=1000000):Calls Tryz.prog 150 #[px] w₀ (bI λv w'=>ay [] w₀ C w' C/\aB w' (aA C) xs v):=by
 have bH:=hF;have hT:=z9 w₀ C;replace hF:=hF.bq;replace hw:=hw.c1;obtain⟨a0,c0,lz,AY,_,hs0⟩:=jx.1 hw;obtain⟨b0,rfl⟩:∃b,a0=some b:=by
  rcases hs0 with h|⟨b,o,rfl,_⟩
  ·exact absurd h hne
  exact⟨_,rfl⟩
 clear hs0;refine bT FQ.c0 8 [px] Tryz.func150 ?_;show Run _ _ _ _ [(0,px)] _ _;refine ai (aq [af 0] ?_);refine aX 2 (.slice none 0 0) (aj.nil (ai (ai (aq [af 0,af 1] ?_))));refine ah 3 0 ?_;refine ax (au 4 (.binOp .eql 52 (.tmp 3) (.const (.slice none 0 0)) 52)) (λ_=>xT ((show _=some px from rfl).trans (congrArg some lz)) Tryz.underlying52) ?_;refine aj.nil (cR 4 (bn (ai (aq [nn 0,af 1,nn 2,af 3] ?_))));refine bG (au 5 (.buildSlice 52 0 #[])) rfl rfl (z7 (n:=2) (e:=55) (bytes:=16) hF (by kernel_rfl)) ?_;rintro _ w1 ⟨⟨a5,rfl⟩,s_1,hF⟩;refine ah 6 0 ?_;replace hw:=hw.t s_1;refine bG (au 7 (.call {callee:=.builtin .append,args:=#[(.tmp 5),(.tmp 6)],argTypes:=#[52,52]})) rfl rfl (BW (j:=5) (e:=55) (bytes:=16) (ys:=([]:List av)) hF (by decide) rfl rfl (by kernel_rfl) (by decide) z8 hw hne (by simp only[List.length_nil];omega) (by simp only[List.length_nil];omega)) ?_;rintro uk w2 ⟨cQ,s_2,hn,hF⟩;refine aC 2 7 (aj.nil ?_);simp only[List.nil_append] at hn;refine bP Tryz.func150 Tryz.results150 ?_;replace hT:=(hT.t s_1).t s_2;exact⟨hT.bW (by decide),hn.out hT bH (ez C) (λb _=>h_ C (by decide) b) (by omega)⟩
theorem xb {w₀:World} {C:Nat->Nat} {xs:List av} {px:Value} (hF:aL w₀ C) (hw:aB w₀ (aA C) xs px) (hlen:xs.length<=1000000):Calls Tryz.prog 150 #[px] w₀ (bI λv w'=>ay [] w₀ C w' C/\aB w' (aA C) xs v):=by
 by_cases hne:xs=[]
 ·subst hne;obtain⟨a0,c0,lz,AY,_,hs0⟩:=jx.1 hw;have e0:px=.slice a0 0 c0:=lz;rcases a0 with _|b0
  ·subst e0;exact T' hF hw
  ·exact r0 hF hw e0
 ·exact b8 hF hw hne hlen
namespace S8
def c0:=bZ Tryz.f93
end S8
theorem uf {w₀:World} {C:Nat->Nat} {xs:List av} {px:Value} (hF:aL w₀ C) (hw:aB w₀ (aA C) xs px) (hlen:xs.length<=1000000):Calls Tryz.prog 93 #[px] w₀ (bI λv w'=>ay [] w₀ C w' C/\aB w' (aA C) xs v):=by
 have bH:=hF;have hT:=z9 w₀ C;replace hF:=hF.bq;replace hw:=hw.c1;refine bT S8.c0 5 [px] Tryz.func93 ?_;show Run _ _ _ _ [(0,px)] _ _;refine ai (aq [af 0] ?_);refine aX 2 (.slice none 0 0) (aj.nil (ai (aq [af 0,nn 1,af 2] ?_)));refine ah 3 0 ?_;refine bU 4 150 [3] [52] Tryz.call150 rfl (xb hF hw hlen) ?_;rintro j3 w1 ⟨s_1,hn⟩;refine aC 2 4 (aj.nil ?_);refine bP Tryz.func93 Tryz.results93 ?_;replace hT:=hT.t s_1;exact⟨hT.bW (by decide),hn.out hT bH (ez C)⟩
end
end Go.Proofs.YtmdhggfehknjjaaGreat
set_option linter.unusedVariables false
set_option linter.unusedSimpArgs false
set_option maxRecDepth 100000
set_option maxHeartbeats 4000000
namespace Go.Proofs.YtmdhggfehknjjaaGreat
open Go.K Go.K.bu
noncomputable section
namespace S9
def c0:=bZ Tryz.f17
end S9
theorem S_ {w₀:World} {C:Nat->Nat} {l:List a_} {ds:List cI} {aG dR:Value} (hF:aL w₀ C) (hl:aB w₀ (aA C) l aG) (hz:aB w₀ (aA C) ds dR) (hv:mB l) (gB: (aO l).length<=24) (rB:ds.length<=4096) (hO:∀i (h:i<ds.length),qF ds[i]) (jM:∀i (h:i+1<ds.length),qf ds[i] ds[i+1]<0):Calls Tryz.prog 17 #[aG,dR] w₀ (bI λv w'=>ay [] w₀ C w' C/\∃zs bO dL,eG eW (eN (fc ds) (bk l)) zs/\v=.tuple #[.agg #[bO,dL,.int .i64 (fh l zs)],.int .i64 0]/\aB w' (aA C) l bO/\aB w' (aA C) zs dL):=by
 have bH:=hF;have hT:=z9 w₀ C;replace hF:=hF.bq;replace hl:=hl.c1;replace hz:=hz.c1;refine bT S9.c0 25 [aG,dR] Tryz.func17 ?_;show Run _ _ _ _ [(0,aG),(1,dR)] _ _;refine ai (aq [nn 0,af 1] ?_);refine bG (au 4 (.alloc 26)) rfl rfl (ec (cs:=[.slice none 0 0,.slice none 0 0,.int .i64 0]) hF 3 (by kernel_rfl)) ?_;rintro _ w1 ⟨dy,bY,rfl,s_1,bK,hF⟩;refine aX 5 (.int .i64 0) (aj.nil (ai (aq [af 0,af 1,nn 2,af 3,af 4,af 5,af 6,af 7,af 8,af 9] ?_)));refine ah 10 0 (ah 11 1 ?_);replace hl:=hl.t s_1;replace hz:=hz.t s_1;refine bU 12 41 [10,11] [23,27] Tryz.call41 rfl (S4 (ds:=ds) hF hl hz hv (by omega) rB hO jM) ?_;rintro _ w2 ⟨s_2,lD,mo,uQ,rfl,hp1⟩;refine ah 9 12 ?_;refine dS 13 9 0 (dS 14 9 1 (dS 15 9 2 (aC 6 13 (aC 7 14 (aC 8 15 (aj.nil (ai (ai (aq [af 0,af 1] ?_)))))))));refine ah 16 8 ?_;refine ax (au 17 (.binOp .neq 34 (.tmp 16) (.const (.int .i64 0)) 34)) (λ_=>ej (fI rfl rfl) (by decide)) ?_;refine aj.nil (cR 17 (bn (ai (aq [af 0,nn 1,af 2,af 3,af 4,nn 5,af 6] ?_))));refine ah 20 0 ?_;have hvl:=hv.1;replace hF:=hF.st s_2;replace hl:=hl.t s_2;refine bU 21 42 [20] [23] Tryz.call42 rfl (S7 hF hl (by omega)) ?_;rintro v21 w3 ⟨aD,hn⟩;refine ah 22 6 (ah 23 7 ?_);replace hp1:=hp1.t aD;refine ax (au 24 (.build 26 #[(0,(.tmp 21)),(1,(.tmp 22)),(2,(.tmp 23))])) (λ_=>hU (zs:=[.slice none 0 0,.slice none 0 0,.int .i64 0]) (ps:=[(0,1),(1,1),(2,1)]) (en:=[(0,[v21]),(1,[mo]),(2,[.int .i64 (fh l lD)])]) (cs:=[v21,mo,.int .i64 (fh l lD)]) (by kernel_rfl) (by kernel_rfl) (by exact⟨rfl,⟨_,rfl,(hn.one rfl).1⟩,rfl,⟨_,rfl,(hp1.one rfl).1⟩,rfl,⟨_,rfl,rfl⟩,trivial⟩) rfl) ?_;replace bK:=(bK.t s_2).t aD;refine cq (k0 (.store 26 (.tmp 4) (.tmp 24))) rfl (dX (vs:=[v21,mo,.int .i64 (fh l lD)]) (n:=3) rfl rfl (by kernel_rfl) rfl rfl (by repeat' first|exact iQ|refine iT ?_ ?_|rfl|exact(hn.one rfl).2|exact(hp1.one rfl).2) bK rfl) ?_;rintro _ w4 ⟨rfl,aK,bK⟩
 refine aX 5 (.int .i64 0) (aj.nil ?_);refine u7 (by kernel_rfl) Tryz.func17 Tryz.results17 rfl rfl bK.at_ (by kernel_rfl) (by kernel_rfl) rfl ?_;replace hT:=(((hT.t s_1).t s_2).t aD).t aK;replace hp1:=hp1.t aK;replace hn:=hn.t aK;exact⟨hT.bW (by decide),lD,_,_,uQ,rfl,hn.out hT bH (ez C),hp1.out hT bH (ez C)⟩
end
end Go.Proofs.YtmdhggfehknjjaaGreat
set_option linter.unusedVariables false
set_option linter.unusedSimpArgs false
set_option maxRecDepth 100000
set_option maxHeartbeats 4000000
namespace Go.Proofs.YtmdhggfehknjjaaGreat
open Go.K Go.K.bu
noncomputable section
namespace Ta
def c0:=bZ Tryz.f35
end Ta
theorem Tb {w₀:World} {C:Nat->Nat} {pr:Int} {bL df:List Int} {b7 vd:Value} {lo hh:Int} {ef:List Int} {gF:Value} {d_:Nat} {sh:List (List eV)} {aG dR:Value} (hF:aL w₀ C) (hW:lQ pr bL df) (ha:aB w₀ (aA C) bL b7) (hd:aB w₀ (aA C) df vd) (hK:BV lo hh) (ht:aB w₀ (aA C) ef gF) (lG:ef.length=bL.length) (tB:∀x∈ef,0<=x/\x<=1000) (hl:aB w₀ (aA C) sh aG) (ja:kP bL.length d_ sh) (k1:1<=d_) (A9:d_<=8) (hz:aB w₀ (aA C) ([]:List cI) dR):
  Calls Tryz.prog 35 #[.agg #[.int .i64 pr,b7,vd],gF,.int .i64 d_,.agg #[.int .i64 lo,.int .i64 hh],aG,dR] w₀ (bI λv w'=>ay [] w₀ C w' C/\∃zs bO dL,eG eW (eN (fc []) (bk (kj hh (iJ ⟨pr,bL,df,ef⟩ sh sh.length)))) zs/\v=.tuple #[.agg #[bO,dL,.int .i64 (fh (kj hh (iJ ⟨pr,bL,df,ef⟩ sh sh.length)) zs)],.int .i64 0]/\aB w' (aA C) (kj hh (iJ ⟨pr,bL,df,ef⟩ sh sh.length)) bO/\aB w' (aA C) zs dL):=by
 have bH:=hF;have hT:=z9 w₀ C;replace hF:=hF.bq;replace ha:=ha.c1;replace hd:=hd.c1;replace ht:=ht.c1;replace hl:=hl.c1;replace hz:aB w₀ (aA (bq C)) ([]:List cI) dR:=by rw[ez];exact hz
 refine bT Ta.c0 63 [.agg #[.int .i64 pr,b7,vd],gF,.int .i64 d_,.agg #[.int .i64 lo,.int .i64 hh],aG,dR] Tryz.func35 ?_;show Run _ _ _ _ [(0,.agg #[.int .i64 pr,b7,vd]),(1,gF),(2,.int .i64 d_),(3,.agg #[.int .i64 lo,.int .i64 hh]),(4,aG),(5,dR)] _ _;refine ai (aq [nn 0,nn 1,nn 2,af 3] ?_);refine bG (au 6 (.box 65 (.tmp 0))) rfl rfl (dI (cs:=[.int .i64 pr,b7,vd]) hF 3 rfl rfl) ?_;rintro _ w1 ⟨dy,bY,rfl,s_1,hw,hF⟩;refine bG (au 9 (.box 63 (.tmp 3))) rfl rfl (dI (cs:=[.int .i64 lo,.int .i64 hh]) hF 4 rfl rfl) ?_;rintro _ w2 ⟨cQ,ek,rfl,s_2,hx,hF⟩;refine bG (au 12 (.alloc 26)) rfl rfl (ec (cs:=[.slice none 0 0,.slice none 0 0,.int .i64 0]) hF 5 (by kernel_rfl)) ?_;rintro _ w3 ⟨ji,jA,rfl,aD,hy,hF⟩;refine aX 13 (.int .i64 0) (aj.nil (ai (aq [nn 0,af 1,af 2,af 3,nn 4,af 5,af 6,af 7,af 8,af 9] ?_)));replace hw:=(hw.t s_2).t aD;refine cA 21 65 6 3 ([.int .i64 pr,b7,vd]) hw.at_ ?_;refine ah 22 1 (ah 23 2 (ah 24 4 ?_));replace ha:=((ha.t s_1).t s_2).t aD;replace hd:=((hd.t s_1).t s_2).t aD;replace ht:=((ht.t s_1).t s_2).t aD;replace hl:=((hl.t s_1).t s_2).t aD;refine bU 25 61 [21,22,23,24] [65,22,3,67] Tryz.call61 rfl (o5 hF hW ha hd ht lG tB hl ja k1 A9) ?_;rintro iM w4 ⟨acQ,rfl,aK,hcs⟩;refine ah 20 25 ?_;refine dS 26 20 0 (dS 27 20 1 (aC 14 26 (aC 15 27 (aj.nil (ai (ai (aq [af 0,af 1] ?_)))))));refine ah 28 15 ?_;refine ax (au 29 (.binOp .neq 34 (.tmp 28) (.const (.int .i64 0)) 34)) (λ_=>ej (fI rfl rfl) (by decide)) ?_;refine aj.nil (cR 29 (bn (ai (ai (aq [nn 0,nn 1,af 2] ?_)))));replace hx:=(hx.t aD).t aK;refine cA 32 63 9 2 ([.int .i64 lo,.int .i64 hh]) hx.at_ ?_;replace hF:=hF.st aK;refine bU 33 62 [32] [63] Tryz.call62 rfl (RS hF hK) ?_;rintro nQ dZ ⟨rfl,aJ⟩;refine aC 16 33 (aj.nil (ai (aq [af 0,af 1] ?_)));refine ah 34 16 ?_;refine ax (au 35 (.binOp .neq 34 (.tmp 34) (.const (.int .i64 0)) 34)) (λ_=>ej (fI rfl rfl) (by decide)) ?_
 refine aj.nil (cR 35 (bn (ai (ai (aq [af 0,nn 1,af 2] ?_)))));refine ah 38 5 ?_;replace hz:=((((hz.t s_1).t s_2).t aD).t aK).t aJ;replace hF:=hF.st aJ;refine bU 39 63 [38] [27] Tryz.call63 rfl (Fb (l:=[]) hF hz (by simp) (λi h=>by simp at h) (λi h=>by simp at h)) ?_;rintro nR eS ⟨rfl,aR⟩;refine aC 17 39 (aj.nil (ai (aq [af 0,af 1] ?_)));refine ah 40 17 ?_;refine ax (au 41 (.binOp .neq 34 (.tmp 40) (.const (.int .i64 0)) 34)) (λ_=>ej (fI rfl rfl) (by decide)) ?_;refine aj.nil (cR 41 (bn (ai (aq [af 0,af 1,nn 2,af 3] ?_))));refine ah 44 4 (ah 45 5 ?_);replace hF:=hF.st aR;replace hz:=hz.t aR;refine bU 46 64 [44,45] [67,27] Tryz.call64 rfl (zG hF hz) ?_;rintro lY w7 ⟨rfl,aZ⟩;refine aC 18 46 (aj.nil (ai (aq [nn 0,af 1,af 2,nn 3,af 4,af 5,af 6,af 7,af 8] ?_)));have dP:=Hy (m:=⟨pr,bL,df,ef⟩) ja sh.length;have hsl:=ja.len;have hmo:zY ⟨pr,bL,df,ef⟩:=⟨hW,lG⟩
 have hvl:=Nt ja hmo hK.h1 hK.h2;have oM:=WM (m:=⟨pr,bL,df,ef⟩) (hi:=hh) ja;replace hx:=((hx.t aJ).t aR).t aZ;refine cA 48 63 9 2 ([.int .i64 lo,.int .i64 hh]) hx.at_ ?_;refine ah 49 14 (ah 50 18 ?_);replace hcs:=((hcs.t aJ).t aR).t aZ;replace hF:=hF.st aZ;refine bU 51 65 [48,49,50] [63,116,27] Tryz.call65 rfl (QK hF hK hcs (by omega) (WL ja hmo) (Np ja) jX) ?_;rintro r8 gp ⟨ub,rfl,bg,Be⟩;refine ah 47 51 ?_;refine dS 52 47 0 (dS 53 47 1 (aC 19 52 (aC 15 53 (aj.nil (ai (ai (aq [af 0,af 1] ?_)))))));refine ah 54 15 ?_;refine ax (au 55 (.binOp .neq 34 (.tmp 54) (.const (.int .i64 0)) 34)) (λ_=>ej (fI rfl rfl) (by decide)) ?_;refine aj.nil (cR 55 (bn (ai (aq [af 0,af 1,nn 2,af 3,af 4,nn 5,af 6] ?_))));refine ah 58 19 (ah 59 18 ?_);replace hF:=hF.st bg;refine bU 60 17 [58,59] [23,27] Tryz.call17 rfl (S_ (ds:=[]) hF Be jX hvl (by omega) (by simp) (λi h=>by simp at h) (λi h=>by simp at h)) ?_;rintro uq gM ⟨bz,zs,bO,dL,mP,rfl,ud,tD⟩;refine dS 61 60 0 (dS 62 60 1 ?_);replace hy:=(((((hy.t aK).t aJ).t aR).t aZ).t bg).t bz;refine cq (k0 (.store 26 (.tmp 12) (.tmp 61))) rfl (dX (vs:=[bO,dL,.int .i64 (fh (kj hh (iJ ⟨pr,bL,df,ef⟩ sh sh.length)) zs)]) (n:=3) rfl rfl (by kernel_rfl) rfl rfl (by repeat' first|exact iQ|refine iT ?_ ?_|rfl|exact(ud.one rfl).2|exact(tD.one rfl).2) hy rfl) ?_;rintro _ ij ⟨rfl,bJ,hy⟩;refine aC 13 62 (aj.nil ?_);refine u7 (by kernel_rfl) Tryz.func35 Tryz.results35 rfl rfl hy.at_ (by kernel_rfl) (by kernel_rfl) rfl ?_;replace hT:=(((((((((hT.t s_1).t s_2).t aD).t aK).t aJ).t aR).t aZ).t bg).t bz).t bJ;replace ud:=ud.t bJ;replace tD:=tD.t bJ;exact⟨hT.bW (by decide),zs,bO,dL,mP,rfl,ud.out hT bH (ez C),tD.out hT bH (ez C)⟩
end
end Go.Proofs.YtmdhggfehknjjaaGreat
set_option linter.unusedVariables false
set_option linter.unusedSimpArgs false
set_option maxRecDepth 100000
set_option maxHeartbeats 4000000
namespace Go.Proofs.YtmdhggfehknjjaaGreat
open Go.K Go.K.bu
noncomputable section
namespace KG
def c0:=bZ Tryz.f52
def o1:=dF (cl (aH c0))
end KG
theorem bt {w₀:World} {C:Nat->Nat} {x y:List av} {vx vy:Value} (hF:aL w₀ C) (hx:aB w₀ (aA C) x vx) (hy:aB w₀ (aA C) y vy) (fN:0<x.length) (Kz:0<y.length):Calls Tryz.prog 52 #[vx,vy] w₀ (bI λv w'=>v=.int .i64 (eW x y)/\ay [] w₀ C w' C):=by
 have bH:=hF;have hT:=z9 w₀ C;replace hF:=hF.bq;replace hx:=hx.c1;replace hy:=hy.c1;refine bT KG.c0 12 [vx,vy] Tryz.func52 ?_;show Run _ _ _ _ [(0,vx),(1,vy)] _ _;refine ai (aq [af 0] ?_);refine aX 4 (.int .i64 0) (aj.nil (ai ?_));refine dm (id:=1) (ops:=KG.o1) [] (bq C) [af 0,af 1,af 2,af 3,af 4,af 5,nn 6,af 7] cM (by kernel_rfl) (by kernel_rfl) (by kernel_rfl) ?_;intro w1 s_1;have hR:=ay.refl [] w1 (bq C);replace hx:=hx.t s_1;have hle1:=hx.le;replace hy:=hy.t s_1;have hle2:=hy.le;refine ah 5 0 ?_;refine iS (e:=55) (au 6 (.indexAddr 52 (.tmp 5) (.const (.int .i64 0)))) rfl rfl hx rfl (by kernel_rfl) rfl (by omega) (by omega) ?_;intro Hp jU h6;try simp only[aP] at h6
 refine gu (au 7 (.load 55 (.tmp 6))) rfl rfl (λw' hS=>h6.bF hS) h6 (by kernel_rfl) (by kernel_rfl) rfl rfl ?_;intro uk g7;obtain rfl:=eA.1 g7;refine ah 8 1 ?_;refine iS (e:=55) (au 9 (.indexAddr 52 (.tmp 8) (.const (.int .i64 0)))) rfl rfl hy rfl (by kernel_rfl) rfl (by omega) (by omega) ?_;intro FJ yW fV;try simp only[aP] at fV
 refine gu (au 10 (.load 55 (.tmp 9))) rfl rfl (λw' hS=>fV.bF hS) fV (by kernel_rfl) (by kernel_rfl) rfl rfl ?_;intro v10 g10;obtain rfl:=eA.1 g10;replace hF:=hF.st s_1;refine fJ 11 53 [7,10] [55,55] Tryz.call53 rfl (uv hF) ?_;rintro gL w2 ⟨rfl,s_2⟩;refine⟨(hR.trans s_2 (by simp)).ext,?_⟩;refine aC 4 11 (aj.nil ?_);refine bP Tryz.func52 Tryz.results52 ?_;replace hT:=(hT.t s_1).t s_2;exact⟨by rw[Pv fN Kz];rfl,hT.bW (by decide)⟩
theorem pS {w₀:World} {C:Nat->Nat} {j a b:Nat} {v:Value} {ys:List (List av)} (hF:aL w₀ C) (hj:j≠0) (ho:bh w₀ C j 52 v ys) (kX:∀x∈ys,0<x.length) (hab:a<=b) (hb:b<=ys.length) (hlen:ys.length<=140737488355328):
    Calls Tryz.prog 151 #[v,.int .i64 a,.int .i64 b,.func (.func 52) #[] #[]] w₀ (bI λu w'=>u=.tuple #[]/\∃zs σ,eL ys σ zs/\eU σ a b/\gW (dY eW ys) σ a b/\ay [j] w₀ C w' C/\bh w' C j 52 v zs/\aL w' C):=by
 have hT:=ay.refl [j] w₀ C;refine bT uP.c0 53 [v,.int .i64 a,.int .i64 b,.func (.func 52) #[] #[]] Tryz.func151 ?_;show Run _ _ _ _ [(0,v),(1,.int .i64 a),(2,.int .i64 b),(3,.func (.func 52) #[] #[])] _ _;refine ai (aq [af 0,af 1,af 2] ?_);refine ah 10 1 ?_;refine cn 11 3 10 1 (aC 8 11 ?_);refine aj.nil (bD 0 ?_);refine cK (ι:=Nat×(List (List av))×(Nat->Nat)) (I:=λx w=>a+1<=x.1/\x.1<=max (a+1) b/\eL ys x.2.2 x.2.1/\eU x.2.2 a x.1/\gW (dY eW ys) x.2.2 a x.1/\aL w C/\ay [j] w₀ C w C/\bh w C j 52 v x.2.1) (e:=λx=>[(0,v),(1,.int .i64 a),(2,.int .i64 b),(3,.func (.func 52) #[] #[]),(8,.int .i64 x.1)]) (m:=λx=>b-x.1) (cE:=(a+1,ys,λi=>i)) (ak 0 (ak 1 (ak 2 (ak 3 (aV 8 rfl (eq_int (by simp)) (aY _)))))) ?_ ?_
 · exact⟨Nat.le_refl _,by omega,eL.id ys,eU.id _ _,λp q h1 h2 h3=>by omega,hF,hT,ho⟩
 intro⟨i,zs,σ⟩ w1 hI bN;obtain⟨hi1,hi2,dH,mN,mH,hF,hT,ho⟩:=hI;try simp only at hi1 hi2 dH mN mH hF hT ho
 show Run _ _ _ _ [(0,v),(1,.int .i64 a),(2,.int .i64 b),(3,.func (.func 52) #[] #[]),(8,.int .i64 i)] _ _;have hzl:=dH.len;refine ai (ai (aq [af 0,af 1,af 2] ?_));refine ah 12 8 (ah 13 2 ?_);refine c4 14 3 12 13 (aj.nil ?_);refine bQ 14 rfl (λeC=>?_) (λeC=>?_)
 ·
  have hib:i<b:=by omega
  have hil:i<ys.length:=by omega
  refine bn (ai (bD 1 (ai (aq [af 0,af 1] ?_))));refine ah 17 8 (aC 9 17 ?_);refine aj.nil (bD 2 ?_);refine cK (ι:=Nat×(List (List av))×(Nat->Nat)) (I:=λx w=>eL ys x.2.2 x.2.1/\mV eW ys x.2.2 a i x.1/\aL w C/\ay [j] w₀ C w C/\bh w C j 52 v x.2.1) (e:=λx=>[(0,v),(1,.int .i64 a),(2,.int .i64 b),(3,.func (.func 52) #[] #[]),(8,.int .i64 i),(9,.int .i64 x.1)]) (m:=λx=>x.1) (cE:=(i,zs,σ)) (ak 0 (ak 1 (ak 2 (ak 3 (ak 8 (ak 9 (aY _))))))) ?_ ?_
  · exact⟨dH,mV.start mN (by omega) mH,hF,hT,ho⟩
  intro⟨q,zs,σ⟩ w2 hI fk;obtain⟨dH,hI,hF,hT,ho⟩:=hI;try simp only at dH hI hF hT ho
  show Run _ _ _ _ [(0,v),(1,.int .i64 a),(2,.int .i64 b),(3,.func (.func 52) #[] #[]),(8,.int .i64 i),(9,.int .i64 q)] _ _;have hzl:=dH.len;have hle:=hI.le;refine ai (ai ?_);by_cases hA: (a:Int)<q
  ·
   refine dm (id:=4) (ops:=uP.j6) [] (C) [af 0,af 1,af 2,af 3,af 4,af 5,af 6,af 7,af 8,af 9,af 10,af 11,af 12,af 13,nn 14,af 15,af 16] cM (by kernel_rfl) (by kernel_rfl) (by kernel_rfl) ?_;intro w3 s_1;have hR:=ay.refl [] w3 (C);refine ah 18 9 (ah 19 1 ?_);refine ax (au 20 (.binOp .gtr 3 (.tmp 18) (.tmp 19) 3)) (λ_=>ei (fH rfl rfl) hA) ?_;refine ah 21 20 ?_;refine cg 22 3 3 true (cg 23 0 3 true (cg 24 9 3 true ?_));replace ho:=ho.t s_1;refine xh (e':=52) (aI 25 (.indexAddr 24 (.tmp 23) (.tmp 24)) 3 true) rfl rfl ho rfl (by kernel_rfl) rfl (by omega) (by first|omega|(simp only[List.length_set];omega)) ?_;intro yd tv;try simp only[aP]
   refine oV (I:=[]) (aI 26 (.load 52 (.tmp 25)) 3 true) rfl rfl ho tv (λw' hS=>ho.bF tv hS) (by first|omega|(simp only[List.length_set];omega)) (by kernel_rfl) rfl rfl ?_;intro v26 mO;try simp only[aP] at mO
   refine cg 27 0 3 true (cg 28 9 3 true ?_);refine ax (aI 29 (.binOp .sub 3 (.tmp 28) (.const (.int .i64 1)) 3) 3 true) (λ_=>eD rfl rfl (by omega) (by omega)) ?_;refine xh (e':=52) (aI 30 (.indexAddr 24 (.tmp 27) (.tmp 29)) 3 true) rfl rfl ho rfl (by kernel_rfl) rfl (by omega) (by first|omega|(simp only[List.length_set];omega)) ?_;intro fD wA;try simp only[aP]
   refine oV (I:=[]) (aI 31 (.load 52 (.tmp 30)) 3 true) rfl rfl ho wA (λw' hS=>ho.bF wA hS) (by first|omega|(simp only[List.length_set];omega)) (by kernel_rfl) rfl rfl ?_;intro v31 lX;try simp only[aP] at lX
   have jN: ((q:Int)-1).toNat=q-1:=by omega
   simp only[jN] at lX;replace hF:=hF.st s_1;refine iG (aI 32 (.call {callee:=.value (.tmp 22),args:=#[(.tmp 26),(.tmp 31)],argTypes:=#[52,52]}) 3 true) rfl rfl (nB (λargs w=>Tryz.call52 args w) rfl rfl) (bt hF mO lX (kX _ (dH.sub _ (List.getElem_mem (by omega)))) (kX _ (dH.sub _ (List.getElem_mem (by omega))))) ?_;rintro iM w4 ⟨rfl,s_2⟩;refine⟨(hR.trans s_2 (by simp)).ext,?_⟩;refine ax (aI 33 (.binOp .lss 3 (.tmp 32) (.const (.int .i64 0)) 3) 3 true) (λ_=>eO rfl rfl) ?_;refine dD 34 21 33 ?_;refine aj.nil ?_;refine bQ 34 rfl (λnq=>?_) (λnq=>?_)
   ·
    have jg:=(hI.ord r_ (λx _=>trivial) dH (by omega) hil (by omega) (by omega)).2 nq;refine bn (ai (bD 3 ?_));refine xD (id:=6) (ops:=uP.jU) [j] (C) 17 (.fork [0,1,2,3,4,5,6,7,8,10,11,12] 9 (.run [nn 13,af 14,nn 15,af 16,nn 17]) 13 (.run [nn 9,af 14,nn 15,af 16,nn 17])) cM (by kernel_rfl) (by kernel_rfl) (by kernel_rfl) ?_;intro dZ aD;have hR:=ay.refl [j] dZ (C);refine xB ?_;show bM _ _ _ _ _ [af 0,af 1,af 2,af 3,af 4,af 5,af 6,af 7,af 8,af 10,af 11,af 12] _ _;refine ah 37 0 (ah 38 9 (ah 39 0 (ah 40 9 ?_)));refine ax (au 41 (.binOp .sub 3 (.tmp 40) (.const (.int .i64 1)) 3)) (λ_=>eD rfl rfl (by omega) (by omega)) ?_;refine ah 42 0 (ah 43 9 ?_);refine ax (au 44 (.binOp .sub 3 (.tmp 43) (.const (.int .i64 1)) 3)) (λ_=>eD rfl rfl (by omega) (by omega)) ?_;replace ho:=(ho.t s_2).t aD;refine dK 52 45 24 42 44 ho rfl (by first|omega|(simp only[List.length_set];omega)) (h:=?_);intro E8 wB;try simp only[aP]
    refine ah 47 0 (ah 48 9 ?_);refine dK 52 49 24 47 48 ho rfl (by first|omega|(simp only[List.length_set];omega)) (h:=?_);intro yJ sn;try simp only[aP]
    refine xC ?_ ?_
    ·
     show bM _ _ _ _ _ [nn 9] _ _;refine qA (au 46 (.load 52 (.tmp 45))) rfl rfl hR.ext ho wB (by first|omega|(simp only[List.length_set];omega)) (by kernel_rfl) rfl rfl ?_;intro v46 i_;try simp only[aP] at i_
     have jN: ((q:Int)-1).toNat=q-1:=by omega
     simp only[jN] at i_;refine pg hR.ext ?_;refine o_ ?_;show bM _ _ _ _ _ [nn 13,af 14,nn 15,af 16,nn 17] _ _;refine qA (au 50 (.load 52 (.tmp 49))) rfl rfl hR.ext ho sn (by first|omega|(simp only[List.length_set];omega)) (by kernel_rfl) rfl rfl ?_;intro v50 fF;try simp only[aP] at fF
     refine dK 52 51 24 37 38 ho rfl (by first|omega|(simp only[List.length_set];omega)) (h:=?_);intro pM ku;try simp only[aP]
     refine od (k0 (.store 52 (.tmp 51) (.tmp 46))) rfl (gw ho ku (by first|omega|(simp only[List.length_set];omega)) rfl rfl (by kernel_rfl) i_) ?_;rintro _ eS ⟨rfl,aK,ho⟩;refine⟨(hR.trans aK (by simp)).ext,?_⟩;replace hT:=((hT.t s_1).t s_2).t aD;replace hT:=hT.trans aK (by simp<;>omega);replace hR:=hR.trans aK (by simp<;>omega);refine dK 52 52 24 39 41 ho rfl (by first|omega|(simp only[List.length_set];omega)) (h:=?_);intro qo sq;try simp only[aP]
     refine aj.free rfl ?_;replace fF:=fF.t aK;refine cq (k0 (.store 52 (.tmp 52) (.tmp 50))) rfl (gw ho sq (by first|omega|(simp only[List.length_set];omega)) rfl rfl (by kernel_rfl) fF) ?_;rintro _ w7 ⟨rfl,aJ,ho⟩;replace hT:=hT.trans aJ (by simp<;>omega);refine aj.nil (bR (aq [af 0,af 1,af 2] ?_));refine ah 35 9 ?_;refine ax (au 36 (.binOp .sub 3 (.tmp 35) (.const (.int .i64 1)) 3)) (λ_=>eD rfl rfl (by omega) (by omega)) ?_;refine aC 9 36 (aj.nil ?_);try simp only[show((q:Int)-1).toNat=q-1 from by omega,aP] at ho
     replace hF:=(((hF.st s_2).st aD).st aK).st aJ;refine kp (ak 0 (ak 1 (ak 2 (ak 3 (ak 8 (aV 9 rfl (eq_int (by simp only;omega)) (aY _))))))) (fk (q-1,((zs.set q (zs[q-1]'(by omega))).set (q-1) (zs[q]'(by omega))),(jS σ q (q-1))) _ ⟨(dH.swap (by omega) (by omega) rfl rfl),(hI.step (by omega) jg),hF,hT,ho⟩ (by first|omega|(simp only;omega)))
    show bM _ _ _ _ _ [nn 13] _ _;refine qA (au 50 (.load 52 (.tmp 49))) rfl rfl hR.ext ho sn (by first|omega|(simp only[List.length_set];omega)) (by kernel_rfl) rfl rfl ?_;intro v50 fF;try simp only[aP] at fF
    refine pg hR.ext ?_;refine o_ ?_;show bM _ _ _ _ _ [nn 9,af 14,nn 15,af 16,nn 17] _ _;refine qA (au 46 (.load 52 (.tmp 45))) rfl rfl hR.ext ho wB (by first|omega|(simp only[List.length_set];omega)) (by kernel_rfl) rfl rfl ?_;intro v46 i_;try simp only[aP] at i_
    have jN: ((q:Int)-1).toNat=q-1:=by omega
    simp only[jN] at i_;refine dK 52 51 24 37 38 ho rfl (by first|omega|(simp only[List.length_set];omega)) (h:=?_);intro pM ku;try simp only[aP]
    refine od (k0 (.store 52 (.tmp 51) (.tmp 46))) rfl (gw ho ku (by first|omega|(simp only[List.length_set];omega)) rfl rfl (by kernel_rfl) i_) ?_;rintro _ gp ⟨rfl,aR,ho⟩;refine⟨(hR.trans aR (by simp)).ext,?_⟩;replace hT:=((hT.t s_1).t s_2).t aD;replace hT:=hT.trans aR (by simp<;>omega);replace hR:=hR.trans aR (by simp<;>omega);refine dK 52 52 24 39 41 ho rfl (by first|omega|(simp only[List.length_set];omega)) (h:=?_);intro qo sq;try simp only[aP]
    refine aj.free rfl ?_;replace fF:=fF.t aR;refine cq (k0 (.store 52 (.tmp 52) (.tmp 50))) rfl (gw ho sq (by first|omega|(simp only[List.length_set];omega)) rfl rfl (by kernel_rfl) fF) ?_;rintro _ gM ⟨rfl,aZ,ho⟩;replace hT:=hT.trans aZ (by simp<;>omega);refine aj.nil (bR (aq [af 0,af 1,af 2] ?_));refine ah 35 9 ?_;refine ax (au 36 (.binOp .sub 3 (.tmp 35) (.const (.int .i64 1)) 3)) (λ_=>eD rfl rfl (by omega) (by omega)) ?_;refine aC 9 36 (aj.nil ?_);try simp only[show((q:Int)-1).toNat=q-1 from by omega,aP] at ho
    replace hF:=(((hF.st s_2).st aD).st aR).st aZ;refine kp (ak 0 (ak 1 (ak 2 (ak 3 (ak 8 (aV 9 rfl (eq_int (by simp only;omega)) (aY _))))))) (fk (q-1,((zs.set q (zs[q-1]'(by omega))).set (q-1) (zs[q]'(by omega))),(jS σ q (q-1))) _ ⟨(dH.swap (by omega) (by omega) rfl rfl),(hI.step (by omega) jg),hF,hT,ho⟩ (by first|omega|(simp only;omega)))
   have jg:q=a\/¬dY eW ys i (σ (q-1)):=.inr (λe=>nq ((hI.ord r_ (λx _=>trivial) dH (by omega) hil (by omega) (by omega)).1 e));refine cB 2 ?_;refine bR (aq [af 0,af 1,af 2] ?_)
   skip
   refine ah 15 8 ?_;refine cn 16 3 15 1 (aC 8 16 (aj.nil ?_));have su:q=a\/¬dY eW ys i (σ (q-1)):=jg;obtain⟨mh,ha2⟩:=hI.done r_ (λx _=>trivial) hil su;replace hT:=(hT.t s_1).t s_2;replace hF:=hF.st s_2;replace ho:=ho.t s_2;refine kp (ak 0 (ak 1 (ak 2 (ak 3 (aV 8 rfl (eq_int (by simp)) (aY _)))))) (bN (i+1,zs,σ) _ ⟨(by first|omega|(simp only;omega)),(by first|omega|(simp only;omega)),(by first|omega|(simp only;omega)),mh,ha2,hF,hT,ho⟩ (by first|omega|(simp only;omega)))
  refine dm (id:=4) (ops:=uP.j6) [] (C) [af 0,af 1,af 2,af 3,af 4,af 5,af 6,af 7,af 8,af 9,af 10,af 11,af 12,af 13,nn 14,af 15,af 16] cM (by kernel_rfl) (by kernel_rfl) (by kernel_rfl) ?_;intro ij bg;have hR:=ay.refl [] ij (C);refine ah 18 9 (ah 19 1 ?_);refine ax (au 20 (.binOp .gtr 3 (.tmp 18) (.tmp 19) 3)) (λ_=>fm (fH rfl rfl) hA) ?_;refine ah 21 20 ?_;refine aM 22 3 true (aM 23 3 true (aM 24 3 true (aM 25 3 true (aM 26 3 true (aM 27 3 true (aM 28 3 true (aM 29 3 true (aM 30 3 true (aM 31 3 true ?_)))))))));refine dz (aI 32 (.call {callee:=.value (.tmp 22),args:=#[(.tmp 26),(.tmp 31)],argTypes:=#[52,52]}) 3 true) rfl rfl hR.ext ?_;refine aM 33 3 true ?_;refine fq 34 21 33 ?_;refine aj.nil (cR 34 (cB 2 ?_));refine bR (aq [af 0,af 1,af 2] ?_)
  skip
  refine ah 15 8 ?_;refine cn 16 3 15 1 (aC 8 16 (aj.nil ?_));have su:q=a\/¬dY eW ys i (σ (q-1)):=.inl (by omega);obtain⟨mh,ha2⟩:=hI.done r_ (λx _=>trivial) hil su;replace hF:=hF.st bg;replace hT:=hT.t bg;replace ho:=ho.t bg;refine kp (ak 0 (ak 1 (ak 2 (ak 3 (aV 8 rfl (eq_int (by simp)) (aY _)))))) (bN (i+1,zs,σ) _ ⟨(by first|omega|(simp only;omega)),(by first|omega|(simp only;omega)),(by first|omega|(simp only;omega)),mh,ha2,hF,hT,ho⟩ (by first|omega|(simp only;omega)))
 have hib:b<=i:=by omega
 refine cB 0 ?_;refine nE Tryz.func151 rfl ?_;refine⟨rfl,zs,σ,dH,?_,?_,hT,ho,hF⟩
 · by_cases e:i=a+1
   · subst e;exact mN.thin hab
   rw[show b=i by omega];exact mN
 exact λp q h1 h2 h3=>mH p q h1 h2 (by omega)
theorem cN {w₀:World} {C:Nat->Nat} {j:Nat} {v:Value} {ys:List (List av)} {m:Int} (hF:aL w₀ C) (hj:j≠0) (ho:bh w₀ C j 52 v ys) (kX:∀x∈ys,0<x.length) (hlen:ys.length<=12):
   Calls Tryz.prog 94 #[v,.int .i64 0,.int .i64 ys.length,.int .i64 m,.func (.func 52) #[] #[]] w₀ (bI λu w'=>u=.tuple #[]/\∃zs,eG eW ys zs/\ay [j] w₀ C w' C/\bh w' C j 52 v zs/\aL w' C):=by
 have hT:=ay.refl [j] w₀ C;refine bT KA.c0 148 [v,.int .i64 0,.int .i64 ys.length,.int .i64 m,.func (.func 52) #[] #[]] Tryz.func94 ?_;show Run _ _ _ _ [(0,v),(1,.int .i64 0),(2,.int .i64 ys.length),(3,.int .i64 m),(4,.func (.func 52) #[] #[])] _ _;refine ai (aq [af 0] ?_);refine aX 10 (.bool true) (aj.nil (ai (aq [af 0] ?_)));refine aX 11 (.bool true) ?_;refine aj.nil (bD 0 ?_);refine cK (ι:=Nat) (I:=λx w=>aL w C/\ay [j] w₀ C w C/\bh w C j 52 v ys) (e:=λx=>[(0,v),(1,.int .i64 0),(2,.int .i64 ys.length),(4,.func (.func 52) #[] #[])]) (m:=λx=>0) (cE:=0) (ak 0 (ak 1 (ak 2 (ak 4 (aY _))))) ?_ ?_
 ·exact⟨hF,hT,ho⟩
 intro z w1 hI bN;obtain⟨hF,hT,ho⟩:=hI;try simp only at hF hT ho
 show Run _ _ _ _ [(0,v),(1,.int .i64 0),(2,.int .i64 ys.length),(4,.func (.func 52) #[] #[])] _ _;refine bD 1 (ai (aq [af 0,af 1,af 2,af 3] ?_));refine ah 21 2 (ah 22 1 ?_);refine ax (au 23 (.binOp .sub 3 (.tmp 21) (.tmp 22) 3)) (λ_=>eD rfl rfl (by omega) (by omega)) ?_;refine aC 12 23 (aj.nil (ai (ai (aq [af 0,af 1] ?_))));refine ah 24 12 ?_;refine ax (au 25 (.binOp .leq 3 (.tmp 24) (.const (.int .i64 12)) 3)) (λ_=>sL (nA rfl rfl) (by omega)) ?_;refine aj.nil (lH 25 (ai (aq [af 0,af 1,af 2,af 3,nn 4] ?_)));refine ah 26 0 (ah 27 1 (ah 28 2 (ah 29 4 ?_)));refine bU 30 151 [26,27,28,29] [24,3,3,108] Tryz.call151 rfl (pS (a:=0) (b:=ys.length) hF hj ho kX (Nat.zero_le _) (Nat.le_refl _) (by omega)) ?_;rintro gL w2 ⟨rfl,zs,σ,dH,mN,mH,s_1,ho,hF⟩;replace hT:=hT.trans s_1 (by simp<;>omega);refine aj.nil ?_;refine zi (by kernel_rfl) Tryz.func94 Tryz.results94 ?_;exact⟨rfl,zs,⟨σ,dH,mN,mH⟩,hT,ho,hF⟩
theorem b5 {w₀:World} {C:Nat->Nat} {j:Nat} {v:Value} {ys:List (List av)} (hF:aL w₀ C) (hj:j≠0) (ho:bh w₀ C j 52 v ys) (kX:∀x∈ys,0<x.length) (hlen:ys.length<=12):
  Calls Tryz.prog 51 #[v,.func (.func 52) #[] #[]] w₀ (bI λu w'=>u=.tuple #[]/\∃zs,eG eW ys zs/\ay [j] w₀ C w' C/\bh w' C j 52 v zs/\aL w' C):=by
 have hT:=ay.refl [j] w₀ C;refine bT KB.c0 14 [v,.func (.func 52) #[] #[]] Tryz.func51 ?_;show Run _ _ _ _ [(0,v),(1,.func (.func 52) #[] #[])] _ _;refine ai (aq [af 0,af 1,af 2] ?_);refine ah 5 0 ?_;refine zE 6 5 24 (ho.bS rfl Tryz.underlying24) ?_;refine aC 4 6 (aj.nil (aq [af 0,af 1,af 2,af 3,nn 4,af 5,nn 6] ?_));refine ah 7 0 (ah 8 4 (ah 9 4 ?_));refine ax (au 10 (.convert 3 112 (.tmp 9))) (λ_=>uT (r:=(ys.length:Int)) rfl ⟨_,Tryz.underlying3⟩ Tryz.underlying112 (MV (by omega))) ?_;refine bU 11 95 [10] [112] Tryz.call95 rfl (SV hlen _) ?_;rintro j3 w1 ⟨⟨m,rfl⟩,rfl⟩;refine ah 12 1 ?_;refine dN (au 13 (.call {callee:=.value (.func 94),args:=#[(.tmp 7),(.const (.int .i64 0)),(.tmp 8),(.tmp 11),(.tmp 12)],argTypes:=#[24,3,3,3,108]})) rfl rfl (de Tryz.call94 rfl) (cN hF hj ho kX hlen) ?_;rintro gL w2 ⟨rfl,zs,mP,s_1,ho,hF⟩;replace hT:=hT.trans s_1 (by simp<;>omega);refine aj.nil ?_;refine nE Tryz.func51 rfl ?_;exact⟨rfl,zs,mP,hT,ho,hF⟩
end
end Go.Proofs.YtmdhggfehknjjaaGreat
set_option linter.unusedVariables false
set_option linter.unusedSimpArgs false
set_option maxRecDepth 100000
set_option maxHeartbeats 4000000
namespace Go.Proofs.YtmdhggfehknjjaaGreat
open Go.K Go.K.bu
noncomputable section
theorem kA {h:Array Obj} {M:Nat->Prop}:rep h M ([]:List av) [.slice none 0 0]:=⟨none,0,rfl,Nat.le_refl _,by simp,.inl rfl⟩
theorem kB {l:List (List av)} {k:Nat} (h:k<l.length): (l.take k++List.replicate (l.length-k) []).set k l[k]=l.take (k+1)++List.replicate (l.length-(k+1)) []:=by
 have h1: (l.take k).length=k:=by simp;omega
 rw[List.set_append_right _ _ (by omega),h1,Nat.sub_self,show l.length-k=(l.length-(k+1))+1 from by omega,List.replicate_succ,List.set_cons_zero,List.take_succ_eq_append_getElem h,List.append_assoc];rfl
namespace KH
def c0:=bZ Tryz.f92
end KH
theorem Fv {w₀:World} {C:Nat->Nat} {j c0:Nat} (hF:aL w₀ C):Calls Tryz.prog 92 #[.slice none 0 c0,.func (.func 93) #[] #[]] w₀ (bI λv w'=>∃aQ,ay [] w₀ C w' aQ/\aL w' aQ/\bh w' aQ j 52 v ([]:List (List av))):=by
 refine bT KH.c0 28 [.slice none 0 c0,.func (.func 93) #[] #[]] Tryz.func92 ?_;show Run _ _ _ _ [(0,.slice none 0 c0),(1,.func (.func 93) #[] #[])] _ _;refine ai (aq [af 0] ?_);refine aX 4 (.slice none 0 0) (aj.nil (ai (ai (aq [af 0,af 1] ?_))));refine ah 8 0 ?_;refine ax (au 9 (.binOp .eql 24 (.tmp 8) (.const (.slice none 0 0)) 24)) (λ_=>HS rfl Tryz.underlying24) ?_;refine aj.nil (lH 9 (ai (aq [af 0] ?_)));refine aX 4 (.slice none 0 0) (aj.nil ?_);refine bP Tryz.func92 Tryz.results92 ?_;exact⟨C,ay.refl _ _ _,hF,bh.nil⟩
theorem s6 {w₀:World} {C:Nat->Nat} {l:List (List av)} {aG:Value} {j:Nat} {b0:Addr} {n0 c0:Nat} (lz:aG=.slice (some b0) n0 c0) (hF:aL w₀ C) (hl:aB w₀ (aA C) l aG) (j0:∀x∈l,x.length<=1000000) (hlen:l.length<=1000000) (hj:j≠0):Calls Tryz.prog 92 #[aG,.func (.func 93) #[] #[]] w₀ (bI λv w'=>∃aQ,ay [] w₀ C w' aQ/\aL w' aQ/\bh w' aQ j 52 v l):=by
 have bH:=hF;have hT:=z9 w₀ C;replace hF:=hF.bq;replace hl:=hl.c1;refine bT KH.c0 28 [aG,.func (.func 93) #[] #[]] Tryz.func92 ?_;show Run _ _ _ _ [(0,aG),(1,.func (.func 93) #[] #[])] _ _;refine ai (aq [af 0] ?_);refine aX 4 (.slice none 0 0) (aj.nil (ai (ai (aq [af 0,af 1] ?_))));refine ah 8 0 ?_;refine ax (au 9 (.binOp .eql 24 (.tmp 8) (.const (.slice none 0 0)) 24)) (λ_=>xT ((show _=some aG from rfl).trans (congrArg some lz)) Tryz.underlying24) ?_;refine aj.nil (cR 9 (bn (ai (aq [af 0,af 1,nn 2,af 3] ?_))));refine ah 10 0 ?_;refine zE 11 10 24 (hl.bS rfl Tryz.underlying24) ?_;refine bG (au 12 (.makeSlice 24 (.tmp 11) (.tmp 11))) rfl rfl (zu (e:=52) (bytes:=24) (x0:=([]:List av)) (zs:=[.slice none 0 0]) hF (j:=3) (by decide) (by kernel_rfl) (by kernel_rfl) rfl rfl (Nat.le_refl _) (by omega) (by omega) (λh M=>kA)) ?_;rintro v12 w1 ⟨dy,s_1,ho,hF⟩;refine aC 5 12 (aj.nil (ai (ai (aq [af 0,af 1,af 2] ?_))));refine ah 13 0 ?_;replace hl:=hl.t s_1;refine zE 14 13 24 (hl.bS rfl Tryz.underlying24) ?_;refine eE 15 (.int .i64 0) ?_;refine aj.nil (bD 0 ?_);refine cK (ι:=Nat×(Nat->Nat)) (I:=λx w=>x.1<=l.length/\aL w x.2/\ay [2,3,4,5,6,7,8,9] w₀ (bq C) w x.2/\aB w (aA x.2) l aG/\bh w x.2 3 52 v12 (l.take x.1++List.replicate (l.length-x.1) [])) (e:=λx=>[(1,.func (.func 93) #[] #[]),(5,v12),(13,aG),(14,.int .i64 l.length),(15,.int .i64 x.1)]) (m:=λx=>l.length-x.1) (cE:=(0,dy)) (ak 1 (ak 5 (ak 13 (ak 14 (ak 15 (aY _)))))) ?_ ?_
 ·
   replace hT:=hT.t s_1;exact⟨Nat.zero_le _,hF,hT,hl,by simpa using ho⟩
 intro⟨k,aW⟩ w2 hI bN;obtain⟨hk,hF,hT,hl,ho⟩:=hI;try simp only at hk hF hT hl ho
 show Run _ _ _ _ [(1,.func (.func 93) #[] #[]),(5,v12),(13,aG),(14,.int .i64 l.length),(15,.int .i64 k)] _ _;have hle:=hl.le;have xG: (l.take k++List.replicate (l.length-k) []).length=l.length:=by simp;omega
 refine ai (aq [af 0] ?_);refine c4 16 3 15 14 (aj.nil (ai ?_));refine bQ 16 rfl (λiO=>?_) (λiO=>?_)
 ·
  have aF:k<l.length:=by omega
  have FD:=j0 _ (List.getElem_mem aF);refine bn (ai (bD 1 (ai (aq [af 0,af 1,nn 2,af 3,af 4] ?_))));refine ah 17 15 ?_;refine c5 52 18 24 13 15 hl rfl (h:=?_);intro S6 FO j7;try simp only[aP] at j7
  refine gP (au 19 (.load 52 (.tmp 18))) rfl rfl trivial j7 (by kernel_rfl) rfl rfl ?_;intro Ak g19;refine aC 6 17 (aC 7 19 (aj.nil (aq [af 0,af 1,af 2,af 3,nn 4,af 5,nn 6] ?_)));refine ah 20 5 (ah 21 6 (ah 22 1 (ah 23 7 ?_)));refine dN (au 24 (.call {callee:=.value (.tmp 22),args:=#[(.tmp 23)],argTypes:=#[52]})) rfl rfl (nB (λargs w=>Tryz.call93 args w) rfl rfl) (uf hF g19 FD) ?_;rintro ko w3 ⟨s_2,hn⟩;replace ho:=ho.t s_2;refine dK 52 25 24 20 21 ho rfl (by omega) (h:=?_);intro yd tv;try simp only[aP]
  refine cq (k0 (.store 52 (.tmp 25) (.tmp 24))) rfl (gw ho tv (by omega) rfl rfl (by kernel_rfl) hn) ?_;rintro _ w4 ⟨rfl,aD,ho⟩;refine aj.nil (bR (aq [af 0,af 1] ?_));refine cn 26 3 15 1 (ah 15 26 (aj.nil ?_));replace hF:=(hF.st s_2).st aD;replace hT:=(hT.t s_2).t aD;replace hl:=(hl.t s_2).t aD;refine kp (ak 1 (ak 5 (ak 13 (ak 14 (aV 15 rfl (eq_int (by simp)) (aY _)))))) (bN (k+1,aW) _ ⟨(by first|omega|(simp only;omega)),hF,hT,hl,(by simp only;rw[<-kB aF];exact ho)⟩ (by first|omega|(simp only;omega)))
 have aF:k=l.length:=by omega
 refine cB 0 ?_;refine ai (aq [af 0,af 1] ?_);refine ah 27 5 (aC 4 27 (aj.nil ?_));refine bP Tryz.func92 Tryz.results92 ?_;rw[aF,List.take_length,Nat.sub_self,List.replicate_zero,List.append_nil] at ho;obtain⟨q9,r5,hFg,As,uI⟩:=ho.nK hT bH (ez C) (λb _=>h_ C (by decide) b) (by decide) j hj;exact⟨q9,(hT.bW (by decide)).nK r5,hFg,uI⟩
theorem s5 {w₀:World} {C:Nat->Nat} {l:List (List av)} {aG:Value} {j:Nat} (hF:aL w₀ C) (hl:aB w₀ (aA C) l aG) (j0:∀x∈l,x.length<=1000000) (hlen:l.length<=1000000) (hj:j≠0):Calls Tryz.prog 92 #[aG,.func (.func 93) #[] #[]] w₀ (bI λv w'=>∃aQ,ay [] w₀ C w' aQ/\aL w' aQ/\bh w' aQ j 52 v l):=by
 obtain⟨a0,c0,lz,AY,_,hs0⟩:=jx.1 hl;rcases a0 with _|b0
 ·have e:l=[]:=by
   rcases hs0 with h|⟨b,o,h,_⟩
   ·exact h
   ·cases h
  subst e;subst lz;exact Fv hF
 ·exact s6 lz hF hl j0 hlen hj
namespace Tc
def c0:=bZ Tryz.f50
end Tc
theorem qc {w₀:World} {C:Nat->Nat} {l:List (List av)} {aG:Value} {j:Nat} (hF:aL w₀ C) (hl:aB w₀ (aA C) l aG) (j0:∀x∈l,x.length<=1000000) (hlen:l.length<=1000000) (hj:j≠0):Calls Tryz.prog 50 #[aG] w₀ (bI λv w'=>∃aQ,ay [] w₀ C w' aQ/\aL w' aQ/\bh w' aQ j 52 v l):=by
 refine bT Tc.c0 5 [aG] Tryz.func50 ?_;show Run _ _ _ _ [(0,aG)] _ _;refine ai (aq [af 0] ?_);refine aX 2 (.slice none 0 0) (aj.nil (ai (aq [af 0,nn 1,af 2] ?_)));refine ah 3 0 ?_;refine dN (au 4 (.call {callee:=.value (.func 92),args:=#[(.tmp 3),(.func 93)],argTypes:=#[24,142]})) rfl rfl (de Tryz.call92 rfl) (s5 hF hl j0 hlen hj) ?_;rintro v w1 ⟨eM,s_1,hF,ho⟩;refine aC 2 4 (aj.nil ?_);refine bP Tryz.func50 Tryz.results50 ?_;exact⟨eM,s_1,hF,ho⟩
end
end Go.Proofs.YtmdhggfehknjjaaGreat
