/- Steps through functions of the program. -/
import Derived.Test.YtmdhggfehknjjaaGreatJF9G4
import Derived.Test.YtmdhggfehknjjaaGreatL3
import Derived.Test.YtmdhggfehknjjaaGreatL2
import Derived.Test.YtmdhggfehknjjaaGreatJN9E2
set_option linter.unusedVariables false
set_option linter.unusedSimpArgs false
set_option maxRecDepth 100000
set_option maxHeartbeats 4000000
namespace Go.Proofs.YtmdhggfehknjjaaGreat
open Go.K Go.K.aY
noncomputable section
namespace Kg
def c0:=bZ Tryz.f85
def k7:=(cl (aH (cl (aH (aH c0)))))
def uB:=(cl (cl (aH (aH (cl k7)))))
def kr:=dL (cl (aH uB))
end Kg
theorem RU {w₀:World} {C:Nat->Nat} {xs ys:List bk} {bX bN:Value} (hF:aL w₀ C) (ha:aB w₀ (ax C) xs bX) (hb:aB w₀ (ax C) ys bN):Calls Tryz.prog 85 #[bX,bN] w₀ (bI λv w'=>v=.bool (decide (xs=ys))/\aA [] w₀ C w' C):=by
 have bF:=hF;have hT:=z9 w₀ C;replace hF:=hF.bz;replace ha:=ha.c1;replace hb:=hb.c1;refine bW Kg.c0 26 [bX,bN] Tryz.func85 ?_;show Run _ _ _ _ [(0,bX),(1,bN)] _ _;refine aj (aq [af 0] ?_);refine aZ 4 (.bool false) (ak.nil (aj (aj (aq [af 0,af 1,af 2,af 3,af 4] ?_))));refine ah 6 0 ?_;refine zE 7 6 23 (ha.bU rfl Tryz.underlying23) ?_;refine ah 8 1 ?_;refine zE 9 8 23 (hb.bU rfl Tryz.underlying23) ?_;refine ay (au 10 (.binOp .neq 3 (.tmp 7) (.tmp 9) 3)) (λ_=>fM rfl rfl) ?_;refine ak.nil ?_;refine bQ 10 rfl (λjq=>?_) (λjq=>?_)
 ·
  have hne:xs≠ys:=λe=>by rw[e] at jq;exact jq rfl
  refine aj (aq [af 0] ?_);refine aZ 4 (.bool false) (ak.nil ?_);refine bR Tryz.func85 Tryz.results85 ?_;exact⟨by rw[decide_eq_false hne],hT.cm (by decide)⟩
 have kI:xs.length=ys.length:=by omega
 refine bq (aj (aj (aq [af 0,af 1,af 2] ?_)));refine ah 11 0 ?_;refine zE 12 11 23 (ha.bU rfl Tryz.underlying23) ?_;refine ef 13 (.int .i64 0) ?_;refine ak.nil (bD 0 ?_);refine cM (ι:=Nat×(Nat->Nat)) (I:=λx w=>x.1<=xs.length/\(∀i (hi:i<x.1) (h1:i<xs.length) (h2:i<ys.length),xs[i]=ys[i])/\aL w x.2/\aA [2,3,4,5,6,7,8,9] w₀ (bz C) w x.2/\aB w (ax x.2) xs bX/\aB w (ax x.2) ys bN) (e:=λx=>[(0,bX),(1,bN),(12,.int .i64 xs.length),(13,.int .i64 x.1)]) (m:=λx=>xs.length-x.1) (cE:=(0,bz C)) (ai 0 (ai 1 (ai 12 (ai 13 (aV _))))) ?_ ?_
 · exact⟨Nat.zero_le _,λi hi=>by simp only at hi;omega,hF,hT,ha,hb⟩
 intro⟨k,bu⟩ w1 hI bP;obtain⟨hk,h0,hF,hT,ha,hb⟩:=hI;try simp only at hk h0 hF hT ha hb
 show Run _ _ _ _ [(0,bX),(1,bN),(12,.int .i64 xs.length),(13,.int .i64 k)] _ _;have hle:=ha.le;refine aj (aq [af 0] ?_);refine de 14 3 13 12 (ak.nil (aj ?_));refine bQ 14 rfl (λfE=>?_) (λfE=>?_)
 ·
  have aC:k<xs.length:=by omega
  have rm:k<ys.length:=by omega
  refine bq (aj (bD 1 (aj (aq [af 0,af 1] ?_))));refine ah 15 13 (aD 5 15 (ak.nil (aj ?_)));refine dD (id:=6) (ops:=Kg.kr) [] (bu) [af 0,af 1,af 2,af 3,af 4,af 5,af 6,af 7,af 8] dn (by kernel_rfl) (by kernel_rfl) (by kernel_rfl) ?_;intro w2 s_1;refine ah 16 0 (ah 17 5 ?_);replace ha:=ha.t s_1;refine dw 58 18 23 16 17 ha rfl (h:=?_);intro RW RX ru;try simp only[aQ] at ru
  refine j3 (au 19 (.load 58 (.tmp 18))) rfl rfl (λw' hS=>ru.bE hS) ru (by kernel_rfl) (by kernel_rfl) rfl rfl ?_;intro zJ g19;refine ah 20 1 (ah 21 5 ?_);replace hb:=hb.t s_1;refine dw 58 22 23 20 21 hb rfl (h:=?_);intro vh C4 kZ;try simp only[aQ] at kZ
  refine j3 (au 23 (.load 58 (.tmp 22))) rfl rfl (λw' hS=>kZ.bE hS) kZ (by kernel_rfl) (by kernel_rfl) rfl rfl ?_;intro v23 g23;obtain rfl:=jI.1 g19;obtain rfl:=jI.1 g23;refine ay (au 24 (.binOp .neq 58 (.tmp 19) (.tmp 23) 58)) (λ_=>M5 (a:=_) (b:=_) Tryz.underlying58 (by decide) (by decide) (by decide) (by kernel_rfl) (Bi Tryz.underlying55 (by decide) (by decide) (by kernel_rfl) Tryz.underlying3) Tryz.underlying3 (by kernel_rfl) (by kernel_rfl) (by kernel_rfl) rfl rfl) ?_;refine ak.nil ?_;refine bQ 24 rfl (λpV=>?_) (λpV=>?_)
  ·
   have hne:xs≠ys:=λe=>pV (by subst e;rfl);refine aj (aq [af 0] ?_);refine aZ 4 (.bool false) (ak.nil ?_);refine bR Tryz.func85 Tryz.results85 ?_;replace hT:=hT.t s_1;exact⟨by rw[decide_eq_false hne],hT.cm (by decide)⟩
  have Kh:xs[k]=ys[k]:=Classical.not_not.1 pV;refine bq (bO (aq [af 0,af 1] ?_));refine b7 25 3 13 1 (ah 13 25 (ak.nil ?_));replace hF:=hF.st s_1;replace hT:=hT.t s_1;refine kp (aJ 0 rfl rfl (aJ 1 rfl rfl (aJ 12 rfl rfl (aJ 13 rfl (eq_int (by simp)) (aV _))))) (bP (k+1,bu) _ ⟨(by first|omega|(simp only;omega)),(λi hi h1 h2=>by
    simp only at hi;by_cases e:i=k
    ·subst e;exact Kh
    ·exact h0 i (by omega) h1 h2),hF,hT,ha,hb⟩ (by first|omega|(simp only;omega)))
 have aC:k=xs.length:=by omega
 have heq:xs=ys:=OL kI (λi h1 h2=>h0 i (by omega) h1 h2);refine cB 0 ?_;refine aj (aq [af 0] ?_);refine aZ 4 (.bool true) (ak.nil ?_);refine bR Tryz.func85 Tryz.results85 ?_;exact⟨by rw[decide_eq_true heq],hT.cm (by decide)⟩
namespace Ki
def c0:=bZ Tryz.f87
def k7:=(cl (aH (cl (aH (aH c0)))))
def uB:=(cl (cl (aH (aH (cl k7)))))
def kr:=dL (cl (aH uB))
end Ki
theorem vk {w₀:World} {C:Nat->Nat} {xs ys:List CC} {bX bN:Value} (hF:aL w₀ C) (ha:aB w₀ (ax C) xs bX) (hb:aB w₀ (ax C) ys bN):Calls Tryz.prog 87 #[bX,bN] w₀ (bI λv w'=>v=.bool (decide (xs=ys))/\aA [] w₀ C w' C):=by
 have bF:=hF;have hT:=z9 w₀ C;replace hF:=hF.bz;replace ha:=ha.c1;replace hb:=hb.c1;refine bW Ki.c0 26 [bX,bN] Tryz.func87 ?_;show Run _ _ _ _ [(0,bX),(1,bN)] _ _;refine aj (aq [af 0] ?_);refine aZ 4 (.bool false) (ak.nil (aj (aj (aq [af 0,af 1,af 2,af 3,af 4] ?_))));refine ah 6 0 ?_;refine zE 7 6 136 (ha.bU rfl Tryz.underlying136) ?_;refine ah 8 1 ?_;refine zE 9 8 136 (hb.bU rfl Tryz.underlying136) ?_;refine ay (au 10 (.binOp .neq 3 (.tmp 7) (.tmp 9) 3)) (λ_=>fM rfl rfl) ?_;refine ak.nil ?_;refine bQ 10 rfl (λjq=>?_) (λjq=>?_)
 ·
  have hne:xs≠ys:=λe=>by rw[e] at jq;exact jq rfl
  refine aj (aq [af 0] ?_);refine aZ 4 (.bool false) (ak.nil ?_);refine bR Tryz.func87 Tryz.results87 ?_;exact⟨by rw[decide_eq_false hne],hT.cm (by decide)⟩
 have kI:xs.length=ys.length:=by omega
 refine bq (aj (aj (aq [af 0,af 1,af 2] ?_)));refine ah 11 0 ?_;refine zE 12 11 136 (ha.bU rfl Tryz.underlying136) ?_;refine ef 13 (.int .i64 0) ?_;refine ak.nil (bD 0 ?_);refine cM (ι:=Nat×(Nat->Nat)) (I:=λx w=>x.1<=xs.length/\(∀i (hi:i<x.1) (h1:i<xs.length) (h2:i<ys.length),xs[i]=ys[i])/\aL w x.2/\aA [2,3,4,5,6,7,8,9] w₀ (bz C) w x.2/\aB w (ax x.2) xs bX/\aB w (ax x.2) ys bN) (e:=λx=>[(0,bX),(1,bN),(12,.int .i64 xs.length),(13,.int .i64 x.1)]) (m:=λx=>xs.length-x.1) (cE:=(0,bz C)) (ai 0 (ai 1 (ai 12 (ai 13 (aV _))))) ?_ ?_
 · exact⟨Nat.zero_le _,λi hi=>by simp only at hi;omega,hF,hT,ha,hb⟩
 intro⟨k,bu⟩ w1 hI bP;obtain⟨hk,h0,hF,hT,ha,hb⟩:=hI;try simp only at hk h0 hF hT ha hb
 show Run _ _ _ _ [(0,bX),(1,bN),(12,.int .i64 xs.length),(13,.int .i64 k)] _ _;have hle:=ha.le;refine aj (aq [af 0] ?_);refine de 14 3 13 12 (ak.nil (aj ?_));refine bQ 14 rfl (λfE=>?_) (λfE=>?_)
 ·
  have aC:k<xs.length:=by omega
  have rm:k<ys.length:=by omega
  refine bq (aj (bD 1 (aj (aq [af 0,af 1] ?_))));refine ah 15 13 (aD 5 15 (ak.nil (aj ?_)));refine dD (id:=6) (ops:=Ki.kr) [] (bu) [af 0,af 1,af 2,af 3,af 4,af 5,af 6,af 7,af 8] dn (by kernel_rfl) (by kernel_rfl) (by kernel_rfl) ?_;intro w2 s_1;refine ah 16 0 (ah 17 5 ?_);replace ha:=ha.t s_1;refine dw 138 18 136 16 17 ha rfl (h:=?_);intro RW RX ru;try simp only[aQ] at ru
  refine j3 (au 19 (.load 138 (.tmp 18))) rfl rfl (λw' hS=>ru.bE hS) ru (by kernel_rfl) (by kernel_rfl) rfl rfl ?_;intro zJ g19;refine ah 20 1 (ah 21 5 ?_);replace hb:=hb.t s_1;refine dw 138 22 136 20 21 hb rfl (h:=?_);intro vh C4 kZ;try simp only[aQ] at kZ
  refine j3 (au 23 (.load 138 (.tmp 22))) rfl rfl (λw' hS=>kZ.bE hS) kZ (by kernel_rfl) (by kernel_rfl) rfl rfl ?_;intro v23 g23;obtain rfl:=xU.1 g19;obtain rfl:=xU.1 g23;refine ay (au 24 (.binOp .neq 138 (.tmp 19) (.tmp 23) 138)) (λ_=>OJ (a:=_) (b:=_) (IK Tryz.underlying138 (by decide) (by decide) (by kernel_rfl) Tryz.underlying55 (by decide) (by decide) (by kernel_rfl) Tryz.underlying3 (by kernel_rfl) (by kernel_rfl)) (by kernel_rfl) rfl rfl) ?_;refine ak.nil ?_;refine bQ 24 rfl (λpV=>?_) (λpV=>?_)
  ·
   have hne:xs≠ys:=λe=>pV (by subst e;rfl);refine aj (aq [af 0] ?_);refine aZ 4 (.bool false) (ak.nil ?_);refine bR Tryz.func87 Tryz.results87 ?_;replace hT:=hT.t s_1;exact⟨by rw[decide_eq_false hne],hT.cm (by decide)⟩
  have Kh:xs[k]=ys[k]:=Classical.not_not.1 pV;refine bq (bO (aq [af 0,af 1] ?_));refine b7 25 3 13 1 (ah 13 25 (ak.nil ?_));replace hF:=hF.st s_1;replace hT:=hT.t s_1;refine kp (aJ 0 rfl rfl (aJ 1 rfl rfl (aJ 12 rfl rfl (aJ 13 rfl (eq_int (by simp)) (aV _))))) (bP (k+1,bu) _ ⟨(by first|omega|(simp only;omega)),(λi hi h1 h2=>by
    simp only at hi;by_cases e:i=k
    ·subst e;exact Kh
    ·exact h0 i (by omega) h1 h2),hF,hT,ha,hb⟩ (by first|omega|(simp only;omega)))
 have aC:k=xs.length:=by omega
 have heq:xs=ys:=OL kI (λi h1 h2=>h0 i (by omega) h1 h2);refine cB 0 ?_;refine aj (aq [af 0] ?_);refine aZ 4 (.bool true) (ak.nil ?_);refine bR Tryz.func87 Tryz.results87 ?_;exact⟨by rw[decide_eq_true heq],hT.cm (by decide)⟩
namespace Fz
def c0:=bZ Tryz.f42
end Fz
theorem G2 {w₀:World} {C:Nat->Nat} {c0:Nat} (hF:aL w₀ C) (hw:aB w₀ (ax C) ([]:List bk) (.slice none 0 c0)):Calls Tryz.prog 42 #[.slice none 0 c0] w₀ (bI λv w'=>aA [] w₀ C w' C/\aB w' (ax C) ([]:List bk) v):=by
 have bF:=hF;have hT:=z9 w₀ C;replace hF:=hF.bz;replace hw:aB w₀ (ax (bz C)) ([]:List bk) (.slice none 0 c0):=by rw[ez];exact hw
 refine bW Fz.c0 8 [.slice none 0 c0] Tryz.func42 ?_;show Run _ _ _ _ [(0,.slice none 0 c0)] _ _;refine aj (aq [af 0] ?_);refine aZ 2 (.slice none 0 0) (ak.nil (aj (aj (aq [af 0,af 1] ?_))));refine ah 3 0 ?_;refine ay (au 4 (.binOp .eql 23 (.tmp 3) (.const (.slice none 0 0)) 23)) (λ_=>HR rfl Tryz.underlying23) ?_;refine ak.nil (lq 4 (aj (aq [af 0] ?_)));refine aZ 2 (.slice none 0 0) (ak.nil ?_);refine bR Tryz.func42 Tryz.results42 ?_;exact⟨hT.cm (by decide),kR⟩
theorem p5 {w₀:World} {C:Nat->Nat} {px:Value} (hF:aL w₀ C) (hw:aB w₀ (ax C) ([]:List bk) px) {b0:Addr} {c0:Nat} (lI:px=.slice (some b0) 0 c0):Calls Tryz.prog 42 #[px] w₀ (bI λv w'=>aA [] w₀ C w' C/\aB w' (ax C) ([]:List bk) v):=by
 have bF:=hF;have hT:=z9 w₀ C;replace hF:=hF.bz;replace hw:aB w₀ (ax (bz C)) ([]:List bk) px:=by rw[ez];exact hw
 refine bW Fz.c0 8 [px] Tryz.func42 ?_;show Run _ _ _ _ [(0,px)] _ _;refine aj (aq [af 0] ?_);refine aZ 2 (.slice none 0 0) (ak.nil (aj (aj (aq [af 0,af 1] ?_))));refine ah 3 0 ?_;refine ay (au 4 (.binOp .eql 23 (.tmp 3) (.const (.slice none 0 0)) 23)) (λ_=>xF ((show _=some px from rfl).trans (congrArg some lI)) Tryz.underlying23) ?_;refine ak.nil (cQ 4 (bq (aj (aq [nn 0,af 1,nn 2,af 3] ?_))));refine bG (au 5 (.buildSlice 23 0 #[])) rfl rfl (zm (n:=5) (e:=58) (bytes:=40) hF (by kernel_rfl)) ?_;rintro _ w1 ⟨⟨a5,rfl⟩,s_1,hF⟩;refine ah 6 0 ?_;replace hw:=hw.t s_1;refine bG (au 7 (.call {callee:=.builtin .append,args:=#[(.tmp 5),(.tmp 6)],argTypes:=#[23,23]})) rfl rfl (Nk (α:=bk) (C:=bz C) (e:=58) (bytes:=40) rfl rfl (by kernel_rfl) hw) ?_;rintro tZ w2 ⟨rfl,s_2⟩;refine aD 2 7 (ak.nil ?_);refine bR Tryz.func42 Tryz.results42 ?_;replace hT:=(hT.t s_1).t s_2;exact⟨hT.cm (by decide),zn⟩
theorem o3 {w₀:World} {C:Nat->Nat} {xs:List bk} {px:Value} (hF:aL w₀ C) (hw:aB w₀ (ax C) xs px) (hne:xs≠[]) (hlen:xs.length<=1000000):Calls Tryz.prog 42 #[px] w₀ (bI λv w'=>aA [] w₀ C w' C/\aB w' (ax C) xs v):=by
 have bF:=hF;have hT:=z9 w₀ C;replace hF:=hF.bz;replace hw:=hw.c1;obtain⟨a0,c0,lI,qp,_,hs0⟩:=jP.1 hw;obtain⟨b0,rfl⟩:∃b,a0=some b:=by
  rcases hs0 with h|⟨b,o,rfl,_⟩
  ·exact absurd h hne
  exact⟨_,rfl⟩
 clear hs0;refine bW Fz.c0 8 [px] Tryz.func42 ?_;show Run _ _ _ _ [(0,px)] _ _;refine aj (aq [af 0] ?_);refine aZ 2 (.slice none 0 0) (ak.nil (aj (aj (aq [af 0,af 1] ?_))));refine ah 3 0 ?_;refine ay (au 4 (.binOp .eql 23 (.tmp 3) (.const (.slice none 0 0)) 23)) (λ_=>xF ((show _=some px from rfl).trans (congrArg some lI)) Tryz.underlying23) ?_;refine ak.nil (cQ 4 (bq (aj (aq [nn 0,af 1,nn 2,af 3] ?_))));refine bG (au 5 (.buildSlice 23 0 #[])) rfl rfl (zm (n:=5) (e:=58) (bytes:=40) hF (by kernel_rfl)) ?_;rintro _ w1 ⟨⟨a5,rfl⟩,s_1,hF⟩;refine ah 6 0 ?_;replace hw:=hw.t s_1;refine bG (au 7 (.call {callee:=.builtin .append,args:=#[(.tmp 5),(.tmp 6)],argTypes:=#[23,23]})) rfl rfl (Bu (j:=5) (e:=58) (bytes:=40) (ys:=([]:List bk)) hF (by decide) rfl rfl (by kernel_rfl) (by decide) zn hw hne (by simp only[List.length_nil];omega) (by simp only[List.length_nil];omega)) ?_;rintro tZ w2 ⟨dx,s_2,hn,hF⟩;refine aD 2 7 (ak.nil ?_);simp only[List.nil_append] at hn;refine bR Tryz.func42 Tryz.results42 ?_;replace hT:=(hT.t s_1).t s_2;exact⟨hT.cm (by decide),hn.out hT bF (ez C) (λb _=>iY C (by decide) b) (by omega)⟩
theorem RY {w₀:World} {C:Nat->Nat} {xs:List bk} {px:Value} (hF:aL w₀ C) (hw:aB w₀ (ax C) xs px) (hlen:xs.length<=1000000):Calls Tryz.prog 42 #[px] w₀ (bI λv w'=>aA [] w₀ C w' C/\aB w' (ax C) xs v):=by
 by_cases hne:xs=[]
 ·subst hne;obtain⟨a0,c0,lI,qp,_,hs0⟩:=jP.1 hw;have e0:px=.slice a0 0 c0:=lI;rcases a0 with _|b0
  ·subst e0;exact G2 hF hw
  ·exact p5 hF hw e0
 ·exact o3 hF hw hne hlen
namespace FA
def c0:=bZ Tryz.f150
end FA
theorem A1 {w₀:World} {C:Nat->Nat} {c0:Nat} (hF:aL w₀ C) (hw:aB w₀ (ax C) ([]:List av) (.slice none 0 c0)):Calls Tryz.prog 150 #[.slice none 0 c0] w₀ (bI λv w'=>aA [] w₀ C w' C/\aB w' (ax C) ([]:List av) v):=by
 have bF:=hF;have hT:=z9 w₀ C;replace hF:=hF.bz;replace hw:aB w₀ (ax (bz C)) ([]:List av) (.slice none 0 c0):=by rw[ez];exact hw
 refine bW FA.c0 8 [.slice none 0 c0] Tryz.func150 ?_;show Run _ _ _ _ [(0,.slice none 0 c0)] _ _;refine aj (aq [af 0] ?_);refine aZ 2 (.slice none 0 0) (ak.nil (aj (aj (aq [af 0,af 1] ?_))));refine ah 3 0 ?_;refine ay (au 4 (.binOp .eql 52 (.tmp 3) (.const (.slice none 0 0)) 52)) (λ_=>HR rfl Tryz.underlying52) ?_;refine ak.nil (lq 4 (aj (aq [af 0] ?_)));refine aZ 2 (.slice none 0 0) (ak.nil ?_);refine bR Tryz.func150 Tryz.results150 ?_;exact⟨hT.cm (by decide),kR⟩
theorem k8 {w₀:World} {C:Nat->Nat} {px:Value} (hF:aL w₀ C) (hw:aB w₀ (ax C) ([]:List av) px) {b0:Addr} {c0:Nat} (lI:px=.slice (some b0) 0 c0):Calls Tryz.prog 150 #[px] w₀ (bI λv w'=>aA [] w₀ C w' C/\aB w' (ax C) ([]:List av) v):=by
 have bF:=hF;have hT:=z9 w₀ C;replace hF:=hF.bz;replace hw:aB w₀ (ax (bz C)) ([]:List av) px:=by rw[ez];exact hw
 refine bW FA.c0 8 [px] Tryz.func150 ?_;show Run _ _ _ _ [(0,px)] _ _;refine aj (aq [af 0] ?_);refine aZ 2 (.slice none 0 0) (ak.nil (aj (aj (aq [af 0,af 1] ?_))));refine ah 3 0 ?_;refine ay (au 4 (.binOp .eql 52 (.tmp 3) (.const (.slice none 0 0)) 52)) (λ_=>xF ((show _=some px from rfl).trans (congrArg some lI)) Tryz.underlying52) ?_;refine ak.nil (cQ 4 (bq (aj (aq [nn 0,af 1,nn 2,af 3] ?_))));refine bG (au 5 (.buildSlice 52 0 #[])) rfl rfl (zm (n:=2) (e:=55) (bytes:=16) hF (by kernel_rfl)) ?_;rintro _ w1 ⟨⟨a5,rfl⟩,s_1,hF⟩;refine ah 6 0 ?_;replace hw:=hw.t s_1;refine bG (au 7 (.call {callee:=.builtin .append,args:=#[(.tmp 5),(.tmp 6)],argTypes:=#[52,52]})) rfl rfl (Nk (α:=av) (C:=bz C) (e:=55) (bytes:=16) rfl rfl (by kernel_rfl) hw) ?_;rintro tZ w2 ⟨rfl,s_2⟩;refine aD 2 7 (ak.nil ?_);refine bR Tryz.func150 Tryz.results150 ?_;replace hT:=(hT.t s_1).t s_2;exact⟨hT.cm (by decide),zn⟩
theorem vR {w₀:World} {C:Nat->Nat} {xs:List av} {px:Value} (hF:aL w₀ C) (hw:aB w₀ (ax C) xs px) (hne:xs≠[]) (hlen:xs.length<=1000000):Calls Tryz.prog 150 #[px] w₀ (bI λv w'=>aA [] w₀ C w' C/\aB w' (ax C) xs v):=by
 have bF:=hF;have hT:=z9 w₀ C;replace hF:=hF.bz;replace hw:=hw.c1;obtain⟨a0,c0,lI,qp,_,hs0⟩:=jP.1 hw;obtain⟨b0,rfl⟩:∃b,a0=some b:=by
  rcases hs0 with h|⟨b,o,rfl,_⟩
  ·exact absurd h hne
  exact⟨_,rfl⟩
 clear hs0;refine bW FA.c0 8 [px] Tryz.func150 ?_;show Run _ _ _ _ [(0,px)] _ _;refine aj (aq [af 0] ?_);refine aZ 2 (.slice none 0 0) (ak.nil (aj (aj (aq [af 0,af 1] ?_))));refine ah 3 0 ?_;refine ay (au 4 (.binOp .eql 52 (.tmp 3) (.const (.slice none 0 0)) 52)) (λ_=>xF ((show _=some px from rfl).trans (congrArg some lI)) Tryz.underlying52) ?_;refine ak.nil (cQ 4 (bq (aj (aq [nn 0,af 1,nn 2,af 3] ?_))));refine bG (au 5 (.buildSlice 52 0 #[])) rfl rfl (zm (n:=2) (e:=55) (bytes:=16) hF (by kernel_rfl)) ?_;rintro _ w1 ⟨⟨a5,rfl⟩,s_1,hF⟩;refine ah 6 0 ?_;replace hw:=hw.t s_1;refine bG (au 7 (.call {callee:=.builtin .append,args:=#[(.tmp 5),(.tmp 6)],argTypes:=#[52,52]})) rfl rfl (Bu (j:=5) (e:=55) (bytes:=16) (ys:=([]:List av)) hF (by decide) rfl rfl (by kernel_rfl) (by decide) zn hw hne (by simp only[List.length_nil];omega) (by simp only[List.length_nil];omega)) ?_;rintro tZ w2 ⟨dx,s_2,hn,hF⟩;refine aD 2 7 (ak.nil ?_);simp only[List.nil_append] at hn;refine bR Tryz.func150 Tryz.results150 ?_;replace hT:=(hT.t s_1).t s_2;exact⟨hT.cm (by decide),hn.out hT bF (ez C) (λb _=>iY C (by decide) b) (by omega)⟩
theorem qb {w₀:World} {C:Nat->Nat} {xs:List av} {px:Value} (hF:aL w₀ C) (hw:aB w₀ (ax C) xs px) (hlen:xs.length<=1000000):Calls Tryz.prog 150 #[px] w₀ (bI λv w'=>aA [] w₀ C w' C/\aB w' (ax C) xs v):=by
 by_cases hne:xs=[]
 ·subst hne;obtain⟨a0,c0,lI,qp,_,hs0⟩:=jP.1 hw;have e0:px=.slice a0 0 c0:=lI;rcases a0 with _|b0
  ·subst e0;exact A1 hF hw
  ·exact k8 hF hw e0
 ·exact vR hF hw hne hlen
namespace RZ
def c0:=bZ Tryz.f93
end RZ
theorem o9 {w₀:World} {C:Nat->Nat} {xs:List av} {px:Value} (hF:aL w₀ C) (hw:aB w₀ (ax C) xs px) (hlen:xs.length<=1000000):Calls Tryz.prog 93 #[px] w₀ (bI λv w'=>aA [] w₀ C w' C/\aB w' (ax C) xs v):=by
 have bF:=hF;have hT:=z9 w₀ C;replace hF:=hF.bz;replace hw:=hw.c1;refine bW RZ.c0 5 [px] Tryz.func93 ?_;show Run _ _ _ _ [(0,px)] _ _;refine aj (aq [af 0] ?_);refine aZ 2 (.slice none 0 0) (ak.nil (aj (aq [af 0,nn 1,af 2] ?_)));refine ah 3 0 ?_;refine bV 4 150 [3] [52] Tryz.call150 rfl (qb hF hw hlen) ?_;rintro ku w1 ⟨s_1,hn⟩;refine aD 2 4 (ak.nil ?_);refine bR Tryz.func93 Tryz.results93 ?_;replace hT:=hT.t s_1;exact⟨hT.cm (by decide),hn.out hT bF (ez C)⟩
end
end Go.Proofs.YtmdhggfehknjjaaGreat
set_option linter.unusedVariables false
set_option linter.unusedSimpArgs false
set_option maxRecDepth 100000
set_option maxHeartbeats 4000000
namespace Go.Proofs.YtmdhggfehknjjaaGreat
open Go.K Go.K.aY
noncomputable section
namespace R1
def c0:=bZ Tryz.f17
end R1
theorem R2 {w₀:World} {C:Nat->Nat} {l:List bk} {ds:List cC} {aK dI:Value} (hF:aL w₀ C) (hl:aB w₀ (ax C) l aK) (hz:aB w₀ (ax C) ds dI) (hv:mR l) (gu: (bg l).length<=24) (rq:ds.length<=4096) (hO:∀i (h:i<ds.length),qH ds[i]) (jM:∀i (h:i+1<ds.length),qj ds[i] ds[i+1]<0):Calls Tryz.prog 17 #[aK,dI] w₀ (bI λv w'=>aA [] w₀ C w' C/\∃zs bN dG,eB eW (eS (fc ds) (a_ l)) zs/\v=.tuple #[.agg #[bN,dG,.int .i64 (fh l zs)],.int .i64 0]/\aB w' (ax C) l bN/\aB w' (ax C) zs dG):=by
 have bF:=hF;have hT:=z9 w₀ C;replace hF:=hF.bz;replace hl:=hl.c1;replace hz:=hz.c1;refine bW R1.c0 25 [aK,dI] Tryz.func17 ?_;show Run _ _ _ _ [(0,aK),(1,dI)] _ _;refine aj (aq [nn 0,af 1] ?_);refine bG (au 4 (.alloc 26)) rfl rfl (dR (cs:=[.slice none 0 0,.slice none 0 0,.int .i64 0]) hF 3 (by kernel_rfl)) ?_;rintro _ w1 ⟨dF,ck,rfl,s_1,bH,hF⟩;refine aZ 5 (.int .i64 0) (ak.nil (aj (aq [af 0,af 1,nn 2,af 3,af 4,af 5,af 6,af 7,af 8,af 9] ?_)));refine ah 10 0 (ah 11 1 ?_);replace hl:=hl.t s_1;replace hz:=hz.t s_1;refine bV 12 41 [10,11] [23,27] Tryz.call41 rfl (RT (ds:=ds) hF hl hz hv (by omega) rq hO jM) ?_;rintro _ w2 ⟨s_2,eC,hU,yx,rfl,hp1⟩;refine ah 9 12 ?_;refine dW 13 9 0 (dW 14 9 1 (dW 15 9 2 (aD 6 13 (aD 7 14 (aD 8 15 (ak.nil (aj (aj (aq [af 0,af 1] ?_)))))))));refine ah 16 8 ?_;refine ay (au 17 (.binOp .neq 34 (.tmp 16) (.const (.int .i64 0)) 34)) (λ_=>dZ (fM rfl rfl) (by decide)) ?_;refine ak.nil (cQ 17 (bq (aj (aq [af 0,nn 1,af 2,af 3,af 4,nn 5,af 6] ?_))));refine ah 20 0 ?_;have hvl:=hv.1;replace hF:=hF.st s_2;replace hl:=hl.t s_2;refine bV 21 42 [20] [23] Tryz.call42 rfl (RY hF hl (by omega)) ?_;rintro v21 w3 ⟨aF,hn⟩;refine ah 22 6 (ah 23 7 ?_);replace hp1:=hp1.t aF;refine ay (au 24 (.build 26 #[(0,(.tmp 21)),(1,(.tmp 22)),(2,(.tmp 23))])) (λ_=>ig (zs:=[.slice none 0 0,.slice none 0 0,.int .i64 0]) (ps:=[(0,1),(1,1),(2,1)]) (ei:=[(0,[v21]),(1,[hU]),(2,[.int .i64 (fh l eC)])]) (cs:=[v21,hU,.int .i64 (fh l eC)]) (by kernel_rfl) (by kernel_rfl) (by exact⟨rfl,⟨_,rfl,(hn.one rfl).1⟩,rfl,⟨_,rfl,(hp1.one rfl).1⟩,rfl,⟨_,rfl,rfl⟩,trivial⟩) rfl) ?_;replace bH:=(bH.t s_2).t aF;refine cg (k0 (.store 26 (.tmp 4) (.tmp 24))) rfl (dM (vs:=[v21,hU,.int .i64 (fh l eC)]) (n:=3) rfl rfl (by kernel_rfl) rfl rfl (by repeat' first|exact iP|refine iQ ?_ ?_|rfl|exact(hn.one rfl).2|exact(hp1.one rfl).2) bH rfl) ?_;rintro _ w4 ⟨rfl,aI,bH⟩
 refine aZ 5 (.int .i64 0) (ak.nil ?_);refine u5 (by kernel_rfl) Tryz.func17 Tryz.results17 rfl rfl bH.at_ (by kernel_rfl) (by kernel_rfl) rfl ?_;replace hT:=(((hT.t s_1).t s_2).t aF).t aI;replace hp1:=hp1.t aI;replace hn:=hn.t aI;exact⟨hT.cm (by decide),eC,_,_,yx,rfl,hn.out hT bF (ez C),hp1.out hT bF (ez C)⟩
end
end Go.Proofs.YtmdhggfehknjjaaGreat
set_option linter.unusedVariables false
set_option linter.unusedSimpArgs false
set_option maxRecDepth 100000
set_option maxHeartbeats 4000000
namespace Go.Proofs.YtmdhggfehknjjaaGreat
open Go.K Go.K.aY
noncomputable section
namespace R3
def c0:=bZ Tryz.f35
end R3
theorem az {w₀:World} {C:Nat->Nat} {pr:Int} {bL df:List Int} {bX vd:Value} {lo hh:Int} {dX:List Int} {gE:Value} {c5:Nat} {sh:List (List ej)} {aK dI:Value} (hF:aL w₀ C) (hW:lV pr bL df) (ha:aB w₀ (ax C) bL bX) (hd:aB w₀ (ax C) df vd) (hK:Bt lo hh) (ht:aB w₀ (ax C) dX gE) (kf:dX.length=bL.length) (tw:∀x∈dX,0<=x/\x<=1000) (hl:aB w₀ (ax C) sh aK) (j9:kJ bL.length c5 sh) (k1:1<=c5) (xW:c5<=8) (hz:aB w₀ (ax C) ([]:List cC) dI):
  Calls Tryz.prog 35 #[.agg #[.int .i64 pr,bX,vd],gE,.int .i64 c5,.agg #[.int .i64 lo,.int .i64 hh],aK,dI] w₀ (bI λv w'=>aA [] w₀ C w' C/\∃zs bN dG,eB eW (eS (fc []) (a_ (kW hh (jD ⟨pr,bL,df,dX⟩ sh sh.length)))) zs/\v=.tuple #[.agg #[bN,dG,.int .i64 (fh (kW hh (jD ⟨pr,bL,df,dX⟩ sh sh.length)) zs)],.int .i64 0]/\aB w' (ax C) (kW hh (jD ⟨pr,bL,df,dX⟩ sh sh.length)) bN/\aB w' (ax C) zs dG):=by
 have bF:=hF;have hT:=z9 w₀ C;replace hF:=hF.bz;replace ha:=ha.c1;replace hd:=hd.c1;replace ht:=ht.c1;replace hl:=hl.c1;replace hz:aB w₀ (ax (bz C)) ([]:List cC) dI:=by rw[ez];exact hz
 refine bW R3.c0 63 [.agg #[.int .i64 pr,bX,vd],gE,.int .i64 c5,.agg #[.int .i64 lo,.int .i64 hh],aK,dI] Tryz.func35 ?_;show Run _ _ _ _ [(0,.agg #[.int .i64 pr,bX,vd]),(1,gE),(2,.int .i64 c5),(3,.agg #[.int .i64 lo,.int .i64 hh]),(4,aK),(5,dI)] _ _;refine aj (aq [nn 0,nn 1,nn 2,af 3] ?_);refine bG (au 6 (.box 65 (.tmp 0))) rfl rfl (dO (cs:=[.int .i64 pr,bX,vd]) hF 3 rfl rfl) ?_;rintro _ w1 ⟨dF,ck,rfl,s_1,hw,hF⟩;refine bG (au 9 (.box 63 (.tmp 3))) rfl rfl (dO (cs:=[.int .i64 lo,.int .i64 hh]) hF 4 rfl rfl) ?_;rintro _ w2 ⟨dx,en,rfl,s_2,hx,hF⟩;refine bG (au 12 (.alloc 26)) rfl rfl (dR (cs:=[.slice none 0 0,.slice none 0 0,.int .i64 0]) hF 5 (by kernel_rfl)) ?_;rintro _ w3 ⟨jE,jF,rfl,aF,hy,hF⟩;refine aZ 13 (.int .i64 0) (ak.nil (aj (aq [nn 0,af 1,af 2,af 3,nn 4,af 5,af 6,af 7,af 8,af 9] ?_)));replace hw:=(hw.t s_2).t aF;refine cD 21 65 6 3 ([.int .i64 pr,bX,vd]) hw.at_ ?_;refine ah 22 1 (ah 23 2 (ah 24 4 ?_));replace ha:=((ha.t s_1).t s_2).t aF;replace hd:=((hd.t s_1).t s_2).t aF;replace ht:=((ht.t s_1).t s_2).t aF;replace hl:=((hl.t s_1).t s_2).t aF;refine bV 25 61 [21,22,23,24] [65,22,3,67] Tryz.call61 rfl (PL hF hW ha hd ht kf tw hl j9 k1 xW) ?_;rintro jw w4 ⟨ab3,rfl,aI,hcs⟩;refine ah 20 25 ?_;refine dW 26 20 0 (dW 27 20 1 (aD 14 26 (aD 15 27 (ak.nil (aj (aj (aq [af 0,af 1] ?_)))))));refine ah 28 15 ?_;refine ay (au 29 (.binOp .neq 34 (.tmp 28) (.const (.int .i64 0)) 34)) (λ_=>dZ (fM rfl rfl) (by decide)) ?_;refine ak.nil (cQ 29 (bq (aj (aj (aq [nn 0,nn 1,af 2] ?_)))));replace hx:=(hx.t aF).t aI;refine cD 32 63 9 2 ([.int .i64 lo,.int .i64 hh]) hx.at_ ?_;replace hF:=hF.st aI;refine bV 33 62 [32] [63] Tryz.call62 rfl (QS hF hK) ?_;rintro nV dY ⟨rfl,aG⟩;refine aD 16 33 (ak.nil (aj (aq [af 0,af 1] ?_)));refine ah 34 16 ?_;refine ay (au 35 (.binOp .neq 34 (.tmp 34) (.const (.int .i64 0)) 34)) (λ_=>dZ (fM rfl rfl) (by decide)) ?_
 refine ak.nil (cQ 35 (bq (aj (aj (aq [af 0,nn 1,af 2] ?_)))));refine ah 38 5 ?_;replace hz:=((((hz.t s_1).t s_2).t aF).t aI).t aG;replace hF:=hF.st aG;refine bV 39 63 [38] [27] Tryz.call63 rfl (E6 (l:=[]) hF hz (by simp) (λi h=>by simp at h) (λi h=>by simp at h)) ?_;rintro oG eT ⟨rfl,aR⟩;refine aD 17 39 (ak.nil (aj (aq [af 0,af 1] ?_)));refine ah 40 17 ?_;refine ay (au 41 (.binOp .neq 34 (.tmp 40) (.const (.int .i64 0)) 34)) (λ_=>dZ (fM rfl rfl) (by decide)) ?_;refine ak.nil (cQ 41 (bq (aj (aq [af 0,af 1,nn 2,af 3] ?_))));refine ah 44 4 (ah 45 5 ?_);replace hF:=hF.st aR;replace hz:=hz.t aR;refine bV 46 64 [44,45] [67,27] Tryz.call64 rfl (zo hF hz) ?_;rintro mF w7 ⟨rfl,aW⟩;refine aD 18 46 (ak.nil (aj (aq [nn 0,af 1,af 2,nn 3,af 4,af 5,af 6,af 7,af 8] ?_)));have dN:=G8 (m:=⟨pr,bL,df,dX⟩) j9 sh.length;have hsl:=j9.len;have hmo:BO ⟨pr,bL,df,dX⟩:=⟨hW,kf⟩
 have hvl:=VR j9 hmo hK.h1 hK.h2;have ab4:=VY (m:=⟨pr,bL,df,dX⟩) (hi:=hh) j9;replace hx:=((hx.t aG).t aR).t aW;refine cD 48 63 9 2 ([.int .i64 lo,.int .i64 hh]) hx.at_ ?_;refine ah 49 14 (ah 50 18 ?_);replace hcs:=((hcs.t aG).t aR).t aW;replace hF:=hF.st aW;refine bV 51 65 [48,49,50] [63,116,27] Tryz.call65 rfl (cF hF hK hcs (by omega) (VX j9 hmo) (MF j9) kR) ?_;rintro uE gD ⟨ub,rfl,bh,AJ⟩;refine ah 47 51 ?_;refine dW 52 47 0 (dW 53 47 1 (aD 19 52 (aD 15 53 (ak.nil (aj (aj (aq [af 0,af 1] ?_)))))));refine ah 54 15 ?_;refine ay (au 55 (.binOp .neq 34 (.tmp 54) (.const (.int .i64 0)) 34)) (λ_=>dZ (fM rfl rfl) (by decide)) ?_;refine ak.nil (cQ 55 (bq (aj (aq [af 0,af 1,nn 2,af 3,af 4,nn 5,af 6] ?_))));refine ah 58 19 (ah 59 18 ?_);replace hF:=hF.st bh;refine bV 60 17 [58,59] [23,27] Tryz.call17 rfl (R2 (ds:=[]) hF AJ kR hvl (by omega) (by simp) (λi h=>by simp at h) (λi h=>by simp at h)) ?_;rintro zL gO ⟨bp,zs,bN,dG,mK,rfl,tY,tA⟩;refine dW 61 60 0 (dW 62 60 1 ?_);replace hy:=(((((hy.t aI).t aG).t aR).t aW).t bh).t bp;refine cg (k0 (.store 26 (.tmp 12) (.tmp 61))) rfl (dM (vs:=[bN,dG,.int .i64 (fh (kW hh (jD ⟨pr,bL,df,dX⟩ sh sh.length)) zs)]) (n:=3) rfl rfl (by kernel_rfl) rfl rfl (by repeat' first|exact iP|refine iQ ?_ ?_|rfl|exact(tY.one rfl).2|exact(tA.one rfl).2) hy rfl) ?_;rintro _ jc ⟨rfl,bM,hy⟩;refine aD 13 62 (ak.nil ?_);refine u5 (by kernel_rfl) Tryz.func35 Tryz.results35 rfl rfl hy.at_ (by kernel_rfl) (by kernel_rfl) rfl ?_;replace hT:=(((((((((hT.t s_1).t s_2).t aF).t aI).t aG).t aR).t aW).t bh).t bp).t bM;replace tY:=tY.t bM;replace tA:=tA.t bM;exact⟨hT.cm (by decide),zs,bN,dG,mK,rfl,tY.out hT bF (ez C),tA.out hT bF (ez C)⟩
end
end Go.Proofs.YtmdhggfehknjjaaGreat
set_option linter.unusedVariables false
set_option linter.unusedSimpArgs false
set_option maxRecDepth 100000
set_option maxHeartbeats 4000000
namespace Go.Proofs.YtmdhggfehknjjaaGreat
open Go.K Go.K.aY
noncomputable section
namespace Kj
def c0:=bZ Tryz.f52
def o1:=dL (cl (aH c0))
end Kj
theorem me {w₀:World} {C:Nat->Nat} {x y:List av} {vx vy:Value} (hF:aL w₀ C) (hx:aB w₀ (ax C) x vx) (hy:aB w₀ (ax C) y vy) (fF:0<x.length) (Ka:0<y.length):Calls Tryz.prog 52 #[vx,vy] w₀ (bI λv w'=>v=.int .i64 (eW x y)/\aA [] w₀ C w' C):=by
 have bF:=hF;have hT:=z9 w₀ C;replace hF:=hF.bz;replace hx:=hx.c1;replace hy:=hy.c1;refine bW Kj.c0 12 [vx,vy] Tryz.func52 ?_;show Run _ _ _ _ [(0,vx),(1,vy)] _ _;refine aj (aq [af 0] ?_);refine aZ 4 (.int .i64 0) (ak.nil (aj ?_));refine dD (id:=1) (ops:=Kj.o1) [] (bz C) [af 0,af 1,af 2,af 3,af 4,af 5,nn 6,af 7] dn (by kernel_rfl) (by kernel_rfl) (by kernel_rfl) ?_;intro w1 s_1;have hR:=aA.refl [] w1 (bz C);replace hx:=hx.t s_1;have hle1:=hx.le;replace hy:=hy.t s_1;have hle2:=hy.le;refine ah 5 0 ?_;refine iS (e:=55) (au 6 (.indexAddr 52 (.tmp 5) (.const (.int .i64 0)))) rfl rfl hx rfl (by kernel_rfl) rfl (by omega) (by omega) ?_;intro GV kr h6;try simp only[aQ] at h6
 refine j3 (au 7 (.load 55 (.tmp 6))) rfl rfl (λw' hS=>h6.bE hS) h6 (by kernel_rfl) (by kernel_rfl) rfl rfl ?_;intro tZ g7;obtain rfl:=fN.1 g7;refine ah 8 1 ?_;refine iS (e:=55) (au 9 (.indexAddr 52 (.tmp 8) (.const (.int .i64 0)))) rfl rfl hy rfl (by kernel_rfl) rfl (by omega) (by omega) ?_;intro Ft yo gx;try simp only[aQ] at gx
 refine j3 (au 10 (.load 55 (.tmp 9))) rfl rfl (λw' hS=>gx.bE hS) gx (by kernel_rfl) (by kernel_rfl) rfl rfl ?_;intro v10 g10;obtain rfl:=fN.1 g10;replace hF:=hF.st s_1;refine gw 11 53 [7,10] [55,55] Tryz.call53 rfl (uz hF) ?_;rintro gC w2 ⟨rfl,s_2⟩;refine⟨(hR.trans s_2 (by simp)).ext,?_⟩;refine aD 4 11 (ak.nil ?_);refine bR Tryz.func52 Tryz.results52 ?_;replace hT:=(hT.t s_1).t s_2;exact⟨by rw[Nr fF Ka];rfl,hT.cm (by decide)⟩
theorem ep {w₀:World} {C:Nat->Nat} {j a b:Nat} {v:Value} {ys:List (List av)} (hF:aL w₀ C) (hj:j≠0) (ho:aX w₀ C j 52 v ys) (lg:∀x∈ys,0<x.length) (hab:a<=b) (hb:b<=ys.length) (hlen:ys.length<=140737488355328):
    Calls Tryz.prog 151 #[v,.int .i64 a,.int .i64 b,.func (.func 52) #[] #[]] w₀ (bI λu w'=>u=.tuple #[]/\∃zs σ,eA ys σ zs/\eR σ a b/\gV (dQ eW ys) σ a b/\aA [j] w₀ C w' C/\aX w' C j 52 v zs/\aL w' C):=by
 have hT:=aA.refl [j] w₀ C;refine bW uL.c0 53 [v,.int .i64 a,.int .i64 b,.func (.func 52) #[] #[]] Tryz.func151 ?_;show Run _ _ _ _ [(0,v),(1,.int .i64 a),(2,.int .i64 b),(3,.func (.func 52) #[] #[])] _ _;refine aj (aq [af 0,af 1,af 2] ?_);refine ah 10 1 ?_;refine b7 11 3 10 1 (aD 8 11 ?_);refine ak.nil (bD 0 ?_);refine cM (ι:=Nat×(List (List av))×(Nat->Nat)) (I:=λx w=>a+1<=x.1/\x.1<=max (a+1) b/\eA ys x.2.2 x.2.1/\eR x.2.2 a x.1/\gV (dQ eW ys) x.2.2 a x.1/\aL w C/\aA [j] w₀ C w C/\aX w C j 52 v x.2.1) (e:=λx=>[(0,v),(1,.int .i64 a),(2,.int .i64 b),(3,.func (.func 52) #[] #[]),(8,.int .i64 x.1)]) (m:=λx=>b-x.1) (cE:=(a+1,ys,λi=>i)) (ai 0 (ai 1 (ai 2 (ai 3 (aJ 8 rfl (eq_int (by simp)) (aV _)))))) ?_ ?_
 · exact⟨Nat.le_refl _,by omega,eA.id ys,eR.id _ _,λp q h1 h2 h3=>by omega,hF,hT,ho⟩
 intro⟨i,zs,σ⟩ w1 hI bP;obtain⟨hi1,hi2,dA,mJ,mD,hF,hT,ho⟩:=hI;try simp only at hi1 hi2 dA mJ mD hF hT ho
 show Run _ _ _ _ [(0,v),(1,.int .i64 a),(2,.int .i64 b),(3,.func (.func 52) #[] #[]),(8,.int .i64 i)] _ _;have hzl:=dA.len;refine aj (aj (aq [af 0,af 1,af 2] ?_));refine ah 12 8 (ah 13 2 ?_);refine de 14 3 12 13 (ak.nil ?_);refine bQ 14 rfl (λfE=>?_) (λfE=>?_)
 ·
  have hib:i<b:=by omega
  have hil:i<ys.length:=by omega
  refine bq (aj (bD 1 (aj (aq [af 0,af 1] ?_))));refine ah 17 8 (aD 9 17 ?_);refine ak.nil (bD 2 ?_);refine cM (ι:=Nat×(List (List av))×(Nat->Nat)) (I:=λx w=>eA ys x.2.2 x.2.1/\mS eW ys x.2.2 a i x.1/\aL w C/\aA [j] w₀ C w C/\aX w C j 52 v x.2.1) (e:=λx=>[(0,v),(1,.int .i64 a),(2,.int .i64 b),(3,.func (.func 52) #[] #[]),(8,.int .i64 i),(9,.int .i64 x.1)]) (m:=λx=>x.1) (cE:=(i,zs,σ)) (ai 0 (ai 1 (ai 2 (ai 3 (ai 8 (ai 9 (aV _))))))) ?_ ?_
  · exact⟨dA,mS.start mJ (by omega) mD,hF,hT,ho⟩
  intro⟨q,zs,σ⟩ w2 hI eX;obtain⟨dA,hI,hF,hT,ho⟩:=hI;try simp only at dA hI hF hT ho
  show Run _ _ _ _ [(0,v),(1,.int .i64 a),(2,.int .i64 b),(3,.func (.func 52) #[] #[]),(8,.int .i64 i),(9,.int .i64 q)] _ _;have hzl:=dA.len;have hle:=hI.le;refine aj (aj ?_);by_cases hA: (a:Int)<q
  ·
   refine dD (id:=4) (ops:=uL.nj) [] (C) [af 0,af 1,af 2,af 3,af 4,af 5,af 6,af 7,af 8,af 9,af 10,af 11,af 12,af 13,nn 14,af 15,af 16] dn (by kernel_rfl) (by kernel_rfl) (by kernel_rfl) ?_;intro w3 s_1;have hR:=aA.refl [] w3 (C);refine ah 18 9 (ah 19 1 ?_);refine ay (au 20 (.binOp .gtr 3 (.tmp 18) (.tmp 19) 3)) (λ_=>ff (gl rfl rfl) hA) ?_;refine ah 21 20 ?_;refine cn 22 3 3 true (cn 23 0 3 true (cn 24 9 3 true ?_));replace ho:=ho.t s_1;refine tH (e':=52) (aO 25 (.indexAddr 24 (.tmp 23) (.tmp 24)) 3 true) rfl rfl ho rfl (by kernel_rfl) rfl (by omega) (by first|omega|(simp only[List.length_set];omega)) ?_;intro vU q8;try simp only[aQ]
   refine sF (I:=[]) (aO 26 (.load 52 (.tmp 25)) 3 true) rfl rfl ho q8 (λw' hS=>ho.bE q8 hS) (by first|omega|(simp only[List.length_set];omega)) (by kernel_rfl) rfl rfl ?_;intro v26 gX;try simp only[aQ] at gX
   refine cn 27 0 3 true (cn 28 9 3 true ?_);refine ay (aO 29 (.binOp .sub 3 (.tmp 28) (.const (.int .i64 1)) 3) 3 true) (λ_=>eM rfl rfl (by omega) (by omega)) ?_;refine tH (e':=52) (aO 30 (.indexAddr 24 (.tmp 27) (.tmp 29)) 3 true) rfl rfl ho rfl (by kernel_rfl) rfl (by omega) (by first|omega|(simp only[List.length_set];omega)) ?_;intro fm wz;try simp only[aQ]
   refine sF (I:=[]) (aO 31 (.load 52 (.tmp 30)) 3 true) rfl rfl ho wz (λw' hS=>ho.bE wz hS) (by first|omega|(simp only[List.length_set];omega)) (by kernel_rfl) rfl rfl ?_;intro v31 lD;try simp only[aQ] at lD
   have jN: ((q:Int)-1).toNat=q-1:=by omega
   simp only[jN] at lD;replace hF:=hF.st s_1;refine jQ (aO 32 (.call {callee:=.value (.tmp 22),args:=#[(.tmp 26),(.tmp 31)],argTypes:=#[52,52]}) 3 true) rfl rfl (ny (λargs w=>Tryz.call52 args w) rfl rfl) (me hF gX lD (lg _ (dA.sub _ (List.getElem_mem (by omega)))) (lg _ (dA.sub _ (List.getElem_mem (by omega))))) ?_;rintro jw w4 ⟨rfl,s_2⟩;refine⟨(hR.trans s_2 (by simp)).ext,?_⟩;refine ay (aO 33 (.binOp .lss 3 (.tmp 32) (.const (.int .i64 0)) 3) 3 true) (λ_=>fS rfl rfl) ?_;refine dS 34 21 33 ?_;refine ak.nil ?_;refine bQ 34 rfl (λnt=>?_) (λnt=>?_)
   ·
    have jk:=(hI.ord rW (λx _=>trivial) dA (by omega) hil (by omega) (by omega)).2 nt;refine bq (aj (bD 3 ?_));refine xh (id:=6) (ops:=uL.kr) [j] (C) 17 (.fork [0,1,2,3,4,5,6,7,8,10,11,12] 9 (.run [nn 13,af 14,nn 15,af 16,nn 17]) 13 (.run [nn 9,af 14,nn 15,af 16,nn 17])) dn (by kernel_rfl) (by kernel_rfl) (by kernel_rfl) ?_;intro dY aF;have hR:=aA.refl [j] dY (C);refine xe ?_;show bK _ _ _ _ _ [af 0,af 1,af 2,af 3,af 4,af 5,af 6,af 7,af 8,af 10,af 11,af 12] _ _;refine ah 37 0 (ah 38 9 (ah 39 0 (ah 40 9 ?_)));refine ay (au 41 (.binOp .sub 3 (.tmp 40) (.const (.int .i64 1)) 3)) (λ_=>eM rfl rfl (by omega) (by omega)) ?_;refine ah 42 0 (ah 43 9 ?_);refine ay (au 44 (.binOp .sub 3 (.tmp 43) (.const (.int .i64 1)) 3)) (λ_=>eM rfl rfl (by omega) (by omega)) ?_;replace ho:=(ho.t s_2).t aF;refine dH 52 45 24 42 44 ho rfl (by first|omega|(simp only[List.length_set];omega)) (h:=?_);intro E2 wA;try simp only[aQ]
    refine ah 47 0 (ah 48 9 ?_);refine dH 52 49 24 47 48 ho rfl (by first|omega|(simp only[List.length_set];omega)) (h:=?_);intro CK sg;try simp only[aQ]
    refine xg ?_ ?_
    ·
     show bK _ _ _ _ _ [nn 9] _ _;refine qd (au 46 (.load 52 (.tmp 45))) rfl rfl hR.ext ho wA (by first|omega|(simp only[List.length_set];omega)) (by kernel_rfl) rfl rfl ?_;intro v46 je;try simp only[aQ] at je
     have jN: ((q:Int)-1).toNat=q-1:=by omega
     simp only[jN] at je;refine pG hR.ext ?_;refine pF ?_;show bK _ _ _ _ _ [nn 13,af 14,nn 15,af 16,nn 17] _ _;refine qd (au 50 (.load 52 (.tmp 49))) rfl rfl hR.ext ho sg (by first|omega|(simp only[List.length_set];omega)) (by kernel_rfl) rfl rfl ?_;intro v50 fB;try simp only[aQ] at fB
     refine dH 52 51 24 37 38 ho rfl (by first|omega|(simp only[List.length_set];omega)) (h:=?_);intro pU kE;try simp only[aQ]
     refine nC (k0 (.store 52 (.tmp 51) (.tmp 46))) rfl (gj ho kE (by first|omega|(simp only[List.length_set];omega)) rfl rfl (by kernel_rfl) je) ?_;rintro _ eT ⟨rfl,aI,ho⟩;refine⟨(hR.trans aI (by simp)).ext,?_⟩;replace hT:=((hT.t s_1).t s_2).t aF;replace hT:=hT.trans aI (by simp<;>omega);replace hR:=hR.trans aI (by simp<;>omega);refine dH 52 52 24 39 41 ho rfl (by first|omega|(simp only[List.length_set];omega)) (h:=?_);intro qv si;try simp only[aQ]
     refine ak.free rfl ?_;replace fB:=fB.t aI;refine cg (k0 (.store 52 (.tmp 52) (.tmp 50))) rfl (gj ho si (by first|omega|(simp only[List.length_set];omega)) rfl rfl (by kernel_rfl) fB) ?_;rintro _ w7 ⟨rfl,aG,ho⟩;replace hT:=hT.trans aG (by simp<;>omega);refine ak.nil (bO (aq [af 0,af 1,af 2] ?_));refine ah 35 9 ?_;refine ay (au 36 (.binOp .sub 3 (.tmp 35) (.const (.int .i64 1)) 3)) (λ_=>eM rfl rfl (by omega) (by omega)) ?_;refine aD 9 36 (ak.nil ?_);try simp only[show((q:Int)-1).toNat=q-1 from by omega,aQ] at ho
     replace hF:=(((hF.st s_2).st aF).st aI).st aG;refine kp (ai 0 (ai 1 (ai 2 (ai 3 (ai 8 (aJ 9 rfl (eq_int (by simp only;omega)) (aV _))))))) (eX (q-1,((zs.set q (zs[q-1]'(by omega))).set (q-1) (zs[q]'(by omega))),(jV σ q (q-1))) _ ⟨(dA.swap (by omega) (by omega) rfl rfl),(hI.step (by omega) jk),hF,hT,ho⟩ (by first|omega|(simp only;omega)))
    show bK _ _ _ _ _ [nn 13] _ _;refine qd (au 50 (.load 52 (.tmp 49))) rfl rfl hR.ext ho sg (by first|omega|(simp only[List.length_set];omega)) (by kernel_rfl) rfl rfl ?_;intro v50 fB;try simp only[aQ] at fB
    refine pG hR.ext ?_;refine pF ?_;show bK _ _ _ _ _ [nn 9,af 14,nn 15,af 16,nn 17] _ _;refine qd (au 46 (.load 52 (.tmp 45))) rfl rfl hR.ext ho wA (by first|omega|(simp only[List.length_set];omega)) (by kernel_rfl) rfl rfl ?_;intro v46 je;try simp only[aQ] at je
    have jN: ((q:Int)-1).toNat=q-1:=by omega
    simp only[jN] at je;refine dH 52 51 24 37 38 ho rfl (by first|omega|(simp only[List.length_set];omega)) (h:=?_);intro pU kE;try simp only[aQ]
    refine nC (k0 (.store 52 (.tmp 51) (.tmp 46))) rfl (gj ho kE (by first|omega|(simp only[List.length_set];omega)) rfl rfl (by kernel_rfl) je) ?_;rintro _ gD ⟨rfl,aR,ho⟩;refine⟨(hR.trans aR (by simp)).ext,?_⟩;replace hT:=((hT.t s_1).t s_2).t aF;replace hT:=hT.trans aR (by simp<;>omega);replace hR:=hR.trans aR (by simp<;>omega);refine dH 52 52 24 39 41 ho rfl (by first|omega|(simp only[List.length_set];omega)) (h:=?_);intro qv si;try simp only[aQ]
    refine ak.free rfl ?_;replace fB:=fB.t aR;refine cg (k0 (.store 52 (.tmp 52) (.tmp 50))) rfl (gj ho si (by first|omega|(simp only[List.length_set];omega)) rfl rfl (by kernel_rfl) fB) ?_;rintro _ gO ⟨rfl,aW,ho⟩;replace hT:=hT.trans aW (by simp<;>omega);refine ak.nil (bO (aq [af 0,af 1,af 2] ?_));refine ah 35 9 ?_;refine ay (au 36 (.binOp .sub 3 (.tmp 35) (.const (.int .i64 1)) 3)) (λ_=>eM rfl rfl (by omega) (by omega)) ?_;refine aD 9 36 (ak.nil ?_);try simp only[show((q:Int)-1).toNat=q-1 from by omega,aQ] at ho
    replace hF:=(((hF.st s_2).st aF).st aR).st aW;refine kp (ai 0 (ai 1 (ai 2 (ai 3 (ai 8 (aJ 9 rfl (eq_int (by simp only;omega)) (aV _))))))) (eX (q-1,((zs.set q (zs[q-1]'(by omega))).set (q-1) (zs[q]'(by omega))),(jV σ q (q-1))) _ ⟨(dA.swap (by omega) (by omega) rfl rfl),(hI.step (by omega) jk),hF,hT,ho⟩ (by first|omega|(simp only;omega)))
   have jk:q=a\/¬dQ eW ys i (σ (q-1)):=.inr (λe=>nt ((hI.ord rW (λx _=>trivial) dA (by omega) hil (by omega) (by omega)).1 e));refine cB 2 ?_;refine bO (aq [af 0,af 1,af 2] ?_)
   skip
   refine ah 15 8 ?_;refine b7 16 3 15 1 (aD 8 16 (ak.nil ?_));have sj:q=a\/¬dQ eW ys i (σ (q-1)):=jk;obtain⟨mb,ha2⟩:=hI.done rW (λx _=>trivial) hil sj;replace hT:=(hT.t s_1).t s_2;replace hF:=hF.st s_2;replace ho:=ho.t s_2;refine kp (ai 0 (ai 1 (ai 2 (ai 3 (aJ 8 rfl (eq_int (by simp)) (aV _)))))) (bP (i+1,zs,σ) _ ⟨(by first|omega|(simp only;omega)),(by first|omega|(simp only;omega)),(by first|omega|(simp only;omega)),mb,ha2,hF,hT,ho⟩ (by first|omega|(simp only;omega)))
  refine dD (id:=4) (ops:=uL.nj) [] (C) [af 0,af 1,af 2,af 3,af 4,af 5,af 6,af 7,af 8,af 9,af 10,af 11,af 12,af 13,nn 14,af 15,af 16] dn (by kernel_rfl) (by kernel_rfl) (by kernel_rfl) ?_;intro jc bh;have hR:=aA.refl [] jc (C);refine ah 18 9 (ah 19 1 ?_);refine ay (au 20 (.binOp .gtr 3 (.tmp 18) (.tmp 19) 3)) (λ_=>gL (gl rfl rfl) hA) ?_;refine ah 21 20 ?_;refine aM 22 3 true (aM 23 3 true (aM 24 3 true (aM 25 3 true (aM 26 3 true (aM 27 3 true (aM 28 3 true (aM 29 3 true (aM 30 3 true (aM 31 3 true ?_)))))))));refine eo (aO 32 (.call {callee:=.value (.tmp 22),args:=#[(.tmp 26),(.tmp 31)],argTypes:=#[52,52]}) 3 true) rfl rfl hR.ext ?_;refine aM 33 3 true ?_;refine gn 34 21 33 ?_;refine ak.nil (cQ 34 (cB 2 ?_));refine bO (aq [af 0,af 1,af 2] ?_)
  skip
  refine ah 15 8 ?_;refine b7 16 3 15 1 (aD 8 16 (ak.nil ?_));have sj:q=a\/¬dQ eW ys i (σ (q-1)):=.inl (by omega);obtain⟨mb,ha2⟩:=hI.done rW (λx _=>trivial) hil sj;replace hF:=hF.st bh;replace hT:=hT.t bh;replace ho:=ho.t bh;refine kp (ai 0 (ai 1 (ai 2 (ai 3 (aJ 8 rfl (eq_int (by simp)) (aV _)))))) (bP (i+1,zs,σ) _ ⟨(by first|omega|(simp only;omega)),(by first|omega|(simp only;omega)),(by first|omega|(simp only;omega)),mb,ha2,hF,hT,ho⟩ (by first|omega|(simp only;omega)))
 have hib:b<=i:=by omega
 refine cB 0 ?_;refine nF Tryz.func151 rfl ?_;refine⟨rfl,zs,σ,dA,?_,?_,hT,ho,hF⟩
 · by_cases e:i=a+1
   · subst e;exact mJ.thin hab
   rw[show b=i by omega];exact mJ
 exact λp q h1 h2 h3=>mD p q h1 h2 (by omega)
theorem p6 {w₀:World} {C:Nat->Nat} {j:Nat} {v:Value} {ys:List (List av)} {m:Int} (hF:aL w₀ C) (hj:j≠0) (ho:aX w₀ C j 52 v ys) (lg:∀x∈ys,0<x.length) (hlen:ys.length<=12):
   Calls Tryz.prog 94 #[v,.int .i64 0,.int .i64 ys.length,.int .i64 m,.func (.func 52) #[] #[]] w₀ (bI λu w'=>u=.tuple #[]/\∃zs,eB eW ys zs/\aA [j] w₀ C w' C/\aX w' C j 52 v zs/\aL w' C):=by
 have hT:=aA.refl [j] w₀ C;refine bW Kc.c0 148 [v,.int .i64 0,.int .i64 ys.length,.int .i64 m,.func (.func 52) #[] #[]] Tryz.func94 ?_;show Run _ _ _ _ [(0,v),(1,.int .i64 0),(2,.int .i64 ys.length),(3,.int .i64 m),(4,.func (.func 52) #[] #[])] _ _;refine aj (aq [af 0] ?_);refine aZ 10 (.bool true) (ak.nil (aj (aq [af 0] ?_)));refine aZ 11 (.bool true) ?_;refine ak.nil (bD 0 ?_);refine cM (ι:=Nat) (I:=λx w=>aL w C/\aA [j] w₀ C w C/\aX w C j 52 v ys) (e:=λx=>[(0,v),(1,.int .i64 0),(2,.int .i64 ys.length),(4,.func (.func 52) #[] #[])]) (m:=λx=>0) (cE:=0) (ai 0 (ai 1 (ai 2 (ai 4 (aV _))))) ?_ ?_
 ·exact⟨hF,hT,ho⟩
 intro z w1 hI bP;obtain⟨hF,hT,ho⟩:=hI;try simp only at hF hT ho
 show Run _ _ _ _ [(0,v),(1,.int .i64 0),(2,.int .i64 ys.length),(4,.func (.func 52) #[] #[])] _ _;refine bD 1 (aj (aq [af 0,af 1,af 2,af 3] ?_));refine ah 21 2 (ah 22 1 ?_);refine ay (au 23 (.binOp .sub 3 (.tmp 21) (.tmp 22) 3)) (λ_=>eM rfl rfl (by omega) (by omega)) ?_;refine aD 12 23 (ak.nil (aj (aj (aq [af 0,af 1] ?_))));refine ah 24 12 ?_;refine ay (au 25 (.binOp .leq 3 (.tmp 24) (.const (.int .i64 12)) 3)) (λ_=>sG (od rfl rfl) (by omega)) ?_;refine ak.nil (lq 25 (aj (aq [af 0,af 1,af 2,af 3,nn 4] ?_)));refine ah 26 0 (ah 27 1 (ah 28 2 (ah 29 4 ?_)));refine bV 30 151 [26,27,28,29] [24,3,3,108] Tryz.call151 rfl (ep (a:=0) (b:=ys.length) hF hj ho lg (Nat.zero_le _) (Nat.le_refl _) (by omega)) ?_;rintro gC w2 ⟨rfl,zs,σ,dA,mJ,mD,s_1,ho,hF⟩;replace hT:=hT.trans s_1 (by simp<;>omega);refine ak.nil ?_;refine yK (by kernel_rfl) Tryz.func94 Tryz.results94 ?_;exact⟨rfl,zs,⟨σ,dA,mJ,mD⟩,hT,ho,hF⟩
theorem e5 {w₀:World} {C:Nat->Nat} {j:Nat} {v:Value} {ys:List (List av)} (hF:aL w₀ C) (hj:j≠0) (ho:aX w₀ C j 52 v ys) (lg:∀x∈ys,0<x.length) (hlen:ys.length<=12):
  Calls Tryz.prog 51 #[v,.func (.func 52) #[] #[]] w₀ (bI λu w'=>u=.tuple #[]/\∃zs,eB eW ys zs/\aA [j] w₀ C w' C/\aX w' C j 52 v zs/\aL w' C):=by
 have hT:=aA.refl [j] w₀ C;refine bW Ke.c0 14 [v,.func (.func 52) #[] #[]] Tryz.func51 ?_;show Run _ _ _ _ [(0,v),(1,.func (.func 52) #[] #[])] _ _;refine aj (aq [af 0,af 1,af 2] ?_);refine ah 5 0 ?_;refine zE 6 5 24 (ho.bU rfl Tryz.underlying24) ?_;refine aD 4 6 (ak.nil (aq [af 0,af 1,af 2,af 3,nn 4,af 5,nn 6] ?_));refine ah 7 0 (ah 8 4 (ah 9 4 ?_));refine ay (au 10 (.convert 3 112 (.tmp 9))) (λ_=>uP (r:=(ys.length:Int)) rfl ⟨_,Tryz.underlying3⟩ Tryz.underlying112 (Mj (by omega))) ?_;refine bV 11 95 [10] [112] Tryz.call95 rfl (RP hlen _) ?_;rintro ku w1 ⟨⟨m,rfl⟩,rfl⟩;refine ah 12 1 ?_;refine dU (au 13 (.call {callee:=.value (.func 94),args:=#[(.tmp 7),(.const (.int .i64 0)),(.tmp 8),(.tmp 11),(.tmp 12)],argTypes:=#[24,3,3,3,108]})) rfl rfl (dy Tryz.call94 rfl) (p6 hF hj ho lg hlen) ?_;rintro gC w2 ⟨rfl,zs,mK,s_1,ho,hF⟩;replace hT:=hT.trans s_1 (by simp<;>omega);refine ak.nil ?_;refine nF Tryz.func51 rfl ?_;exact⟨rfl,zs,mK,hT,ho,hF⟩
end
end Go.Proofs.YtmdhggfehknjjaaGreat
set_option linter.unusedVariables false
set_option linter.unusedSimpArgs false
set_option maxRecDepth 100000
set_option maxHeartbeats 4000000
namespace Go.Proofs.YtmdhggfehknjjaaGreat
open Go.K Go.K.aY
noncomputable section
theorem wm {h:Array Obj} {M:Nat->Prop}:rep h M ([]:List av) [.slice none 0 0]:=⟨none,0,rfl,Nat.le_refl _,by simp,.inl rfl⟩
theorem x3 {l:List (List av)} {k:Nat} (h:k<l.length): (l.take k++List.replicate (l.length-k) []).set k l[k]=l.take (k+1)++List.replicate (l.length-(k+1)) []:=by
 have h1: (l.take k).length=k:=by simp;omega
 rw[List.set_append_right _ _ (by omega),h1,Nat.sub_self,show l.length-k=(l.length-(k+1))+1 from by omega,List.replicate_succ,List.set_cons_zero,List.take_succ_eq_append_getElem h,List.append_assoc];rfl
namespace Kk
def c0:=bZ Tryz.f92
end Kk
theorem x4 {w₀:World} {C:Nat->Nat} {j c0:Nat} (hF:aL w₀ C):Calls Tryz.prog 92 #[.slice none 0 c0,.func (.func 93) #[] #[]] w₀ (bI λv w'=>∃aP,aA [] w₀ C w' aP/\aL w' aP/\aX w' aP j 52 v ([]:List (List av))):=by
 refine bW Kk.c0 28 [.slice none 0 c0,.func (.func 93) #[] #[]] Tryz.func92 ?_;show Run _ _ _ _ [(0,.slice none 0 c0),(1,.func (.func 93) #[] #[])] _ _;refine aj (aq [af 0] ?_);refine aZ 4 (.slice none 0 0) (ak.nil (aj (aj (aq [af 0,af 1] ?_))));refine ah 8 0 ?_;refine ay (au 9 (.binOp .eql 24 (.tmp 8) (.const (.slice none 0 0)) 24)) (λ_=>HR rfl Tryz.underlying24) ?_;refine ak.nil (lq 9 (aj (aq [af 0] ?_)));refine aZ 4 (.slice none 0 0) (ak.nil ?_);refine bR Tryz.func92 Tryz.results92 ?_;exact⟨C,aA.refl _ _ _,hF,aX.nil⟩
theorem x5 {w₀:World} {C:Nat->Nat} {l:List (List av)} {aK:Value} {j:Nat} {b0:Addr} {n0 c0:Nat} (lI:aK=.slice (some b0) n0 c0) (hF:aL w₀ C) (hl:aB w₀ (ax C) l aK) (kI:∀x∈l,x.length<=1000000) (hlen:l.length<=1000000) (hj:j≠0):Calls Tryz.prog 92 #[aK,.func (.func 93) #[] #[]] w₀ (bI λv w'=>∃aP,aA [] w₀ C w' aP/\aL w' aP/\aX w' aP j 52 v l):=by
 have bF:=hF;have hT:=z9 w₀ C;replace hF:=hF.bz;replace hl:=hl.c1;refine bW Kk.c0 28 [aK,.func (.func 93) #[] #[]] Tryz.func92 ?_;show Run _ _ _ _ [(0,aK),(1,.func (.func 93) #[] #[])] _ _;refine aj (aq [af 0] ?_);refine aZ 4 (.slice none 0 0) (ak.nil (aj (aj (aq [af 0,af 1] ?_))));refine ah 8 0 ?_;refine ay (au 9 (.binOp .eql 24 (.tmp 8) (.const (.slice none 0 0)) 24)) (λ_=>xF ((show _=some aK from rfl).trans (congrArg some lI)) Tryz.underlying24) ?_;refine ak.nil (cQ 9 (bq (aj (aq [af 0,af 1,nn 2,af 3] ?_))));refine ah 10 0 ?_;refine zE 11 10 24 (hl.bU rfl Tryz.underlying24) ?_;refine bG (au 12 (.makeSlice 24 (.tmp 11) (.tmp 11))) rfl rfl (Bf (e:=52) (bytes:=24) (x0:=([]:List av)) (zs:=[.slice none 0 0]) hF (j:=3) (by decide) (by kernel_rfl) (by kernel_rfl) rfl rfl (Nat.le_refl _) (by omega) (by omega) (λh M=>wm)) ?_;rintro v12 w1 ⟨dF,s_1,ho,hF⟩;refine aD 5 12 (ak.nil (aj (aj (aq [af 0,af 1,af 2] ?_))));refine ah 13 0 ?_;replace hl:=hl.t s_1;refine zE 14 13 24 (hl.bU rfl Tryz.underlying24) ?_;refine ef 15 (.int .i64 0) ?_;refine ak.nil (bD 0 ?_);refine cM (ι:=Nat×(Nat->Nat)) (I:=λx w=>x.1<=l.length/\aL w x.2/\aA [2,3,4,5,6,7,8,9] w₀ (bz C) w x.2/\aB w (ax x.2) l aK/\aX w x.2 3 52 v12 (l.take x.1++List.replicate (l.length-x.1) [])) (e:=λx=>[(1,.func (.func 93) #[] #[]),(5,v12),(13,aK),(14,.int .i64 l.length),(15,.int .i64 x.1)]) (m:=λx=>l.length-x.1) (cE:=(0,dF)) (ai 1 (ai 5 (ai 13 (ai 14 (ai 15 (aV _)))))) ?_ ?_
 ·
   replace hT:=hT.t s_1;exact⟨Nat.zero_le _,hF,hT,hl,by simpa using ho⟩
 intro⟨k,bu⟩ w2 hI bP;obtain⟨hk,hF,hT,hl,ho⟩:=hI;try simp only at hk hF hT hl ho
 show Run _ _ _ _ [(1,.func (.func 93) #[] #[]),(5,v12),(13,aK),(14,.int .i64 l.length),(15,.int .i64 k)] _ _;have hle:=hl.le;have y9: (l.take k++List.replicate (l.length-k) []).length=l.length:=by simp;omega
 refine aj (aq [af 0] ?_);refine de 16 3 15 14 (ak.nil (aj ?_));refine bQ 16 rfl (λjx=>?_) (λjx=>?_)
 ·
  have aC:k<l.length:=by omega
  have Fj:=kI _ (List.getElem_mem aC);refine bq (aj (bD 1 (aj (aq [af 0,af 1,nn 2,af 3,af 4] ?_))));refine ah 17 15 ?_;refine dw 52 18 24 13 15 hl rfl (h:=?_);intro RW RX ru;try simp only[aQ] at ru
  refine iy (au 19 (.load 52 (.tmp 18))) rfl rfl trivial ru (by kernel_rfl) rfl rfl ?_;intro zJ g19;refine aD 6 17 (aD 7 19 (ak.nil (aq [af 0,af 1,af 2,af 3,nn 4,af 5,nn 6] ?_)));refine ah 20 5 (ah 21 6 (ah 22 1 (ah 23 7 ?_)));refine dU (au 24 (.call {callee:=.value (.tmp 22),args:=#[(.tmp 23)],argTypes:=#[52]})) rfl rfl (ny (λargs w=>Tryz.call93 args w) rfl rfl) (o9 hF g19 Fj) ?_;rintro kz w3 ⟨s_2,hn⟩;replace ho:=ho.t s_2;refine dH 52 25 24 20 21 ho rfl (by omega) (h:=?_);intro vU q8;try simp only[aQ]
  refine cg (k0 (.store 52 (.tmp 25) (.tmp 24))) rfl (gj ho q8 (by omega) rfl rfl (by kernel_rfl) hn) ?_;rintro _ w4 ⟨rfl,aF,ho⟩;refine ak.nil (bO (aq [af 0,af 1] ?_));refine b7 26 3 15 1 (ah 15 26 (ak.nil ?_));replace hF:=(hF.st s_2).st aF;replace hT:=(hT.t s_2).t aF;replace hl:=(hl.t s_2).t aF;refine kp (ai 1 (ai 5 (ai 13 (ai 14 (aJ 15 rfl (eq_int (by simp)) (aV _)))))) (bP (k+1,bu) _ ⟨(by first|omega|(simp only;omega)),hF,hT,hl,(by simp only;rw[<-x3 aC];exact ho)⟩ (by first|omega|(simp only;omega)))
 have aC:k=l.length:=by omega
 refine cB 0 ?_;refine aj (aq [af 0,af 1] ?_);refine ah 27 5 (aD 4 27 (ak.nil ?_));refine bR Tryz.func92 Tryz.results92 ?_;rw[aC,List.take_length,Nat.sub_self,List.replicate_zero,List.append_nil] at ho;obtain⟨q_,r8,hFg,Ai,uF⟩:=ho.nL hT bF (ez C) (λb _=>iY C (by decide) b) (by decide) j hj;exact⟨q_,(hT.cm (by decide)).nL r8,hFg,uF⟩
theorem mc {w₀:World} {C:Nat->Nat} {l:List (List av)} {aK:Value} {j:Nat} (hF:aL w₀ C) (hl:aB w₀ (ax C) l aK) (kI:∀x∈l,x.length<=1000000) (hlen:l.length<=1000000) (hj:j≠0):Calls Tryz.prog 92 #[aK,.func (.func 93) #[] #[]] w₀ (bI λv w'=>∃aP,aA [] w₀ C w' aP/\aL w' aP/\aX w' aP j 52 v l):=by
 obtain⟨a0,c0,lI,qp,_,hs0⟩:=jP.1 hl;rcases a0 with _|b0
 ·have e:l=[]:=by
   rcases hs0 with h|⟨b,o,h,_⟩
   ·exact h
   ·cases h
  subst e;subst lI;exact x4 hF
 ·exact x5 lI hF hl kI hlen hj
namespace R4
def c0:=bZ Tryz.f50
end R4
theorem o8 {w₀:World} {C:Nat->Nat} {l:List (List av)} {aK:Value} {j:Nat} (hF:aL w₀ C) (hl:aB w₀ (ax C) l aK) (kI:∀x∈l,x.length<=1000000) (hlen:l.length<=1000000) (hj:j≠0):Calls Tryz.prog 50 #[aK] w₀ (bI λv w'=>∃aP,aA [] w₀ C w' aP/\aL w' aP/\aX w' aP j 52 v l):=by
 refine bW R4.c0 5 [aK] Tryz.func50 ?_;show Run _ _ _ _ [(0,aK)] _ _;refine aj (aq [af 0] ?_);refine aZ 2 (.slice none 0 0) (ak.nil (aj (aq [af 0,nn 1,af 2] ?_)));refine ah 3 0 ?_;refine dU (au 4 (.call {callee:=.value (.func 92),args:=#[(.tmp 3),(.func 93)],argTypes:=#[24,142]})) rfl rfl (dy Tryz.call92 rfl) (mc hF hl kI hlen hj) ?_;rintro v w1 ⟨ey,s_1,hF,ho⟩;refine aD 2 4 (ak.nil ?_);refine bR Tryz.func50 Tryz.results50 ?_;exact⟨ey,s_1,hF,ho⟩
end
end Go.Proofs.YtmdhggfehknjjaaGreat
