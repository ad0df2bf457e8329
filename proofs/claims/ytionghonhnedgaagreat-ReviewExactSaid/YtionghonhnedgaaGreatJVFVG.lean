/- Steps through functions of the program. -/
import Derived.Test.YtionghonhnedgaaGreatJVAVE
import Derived.Test.YtionghonhnedgaaGreatL1
set_option linter.unusedVariables false
set_option linter.unusedSimpArgs false
set_option maxRecDepth 100000
set_option maxHeartbeats 4000000
namespace Go.Proofs.YtionghonhnedgaaGreat
open Go.K Go.K.bF
noncomputable section
namespace C9
def c0:=dL Tryz.f124
end C9
theorem QD {w₀:World} {C:Nat->Nat} {c0:Nat} (hF:bA w₀ C) (hw:aF w₀ (aA C) ([]:List bZ) (.slice none 0 c0)):Calls Tryz.prog 124 #[.slice none 0 c0] w₀ (bW λv w'=>aH [] w₀ C w' C/\aF w' (aA C) ([]:List bZ) v):=by
 have bR:=hF;have hT:=z9 w₀ C;replace hF:=hF.bX;replace hw:aF w₀ (aA (bX C)) ([]:List bZ) (.slice none 0 c0):=by rw[fJ];exact hw
 refine cM C9.c0 8 [.slice none 0 c0] Tryz.func124 ?_;show Run _ _ _ _ [(0,.slice none 0 c0)] _ _;refine aj (aq [af 0] ?_);refine aO 2 (.slice none 0 0) (ai.nil (aj (aj (aq [af 0,af 1] ?_))));refine ah 3 0 ?_;refine au (kq 4 (.binOp .eql 23 (.tmp 3) (.const (.slice none 0 0)) 23)) (λ_=>E1 rfl Tryz.underlying23) ?_;refine ai.nil (k9 4 (aj (aq [af 0] ?_)));refine aO 2 (.slice none 0 0) (ai.nil ?_);refine cq Tryz.func124 Tryz.results124 ?_;exact⟨hT.bV (by decide),fF⟩
theorem QE {w₀:World} {C:Nat->Nat} {px:Value} (hF:bA w₀ C) (hw:aF w₀ (aA C) ([]:List bZ) px) {b0:Addr} {c0:Nat} (oB:px=.slice (some b0) 0 c0):Calls Tryz.prog 124 #[px] w₀ (bW λv w'=>aH [] w₀ C w' C/\aF w' (aA C) ([]:List bZ) v):=by
 have bR:=hF;have hT:=z9 w₀ C;replace hF:=hF.bX;replace hw:aF w₀ (aA (bX C)) ([]:List bZ) px:=by rw[fJ];exact hw
 refine cM C9.c0 8 [px] Tryz.func124 ?_;show Run _ _ _ _ [(0,px)] _ _;refine aj (aq [af 0] ?_);refine aO 2 (.slice none 0 0) (ai.nil (aj (aj (aq [af 0,af 1] ?_))));refine ah 3 0 ?_;refine au (kq 4 (.binOp .eql 23 (.tmp 3) (.const (.slice none 0 0)) 23)) (λ_=>yX ((show _=some px from rfl).trans (congrArg some oB)) Tryz.underlying23) ?_;refine ai.nil (fe 4 (bK (aj (aq [nn 0,af 1,nn 2,af 3] ?_))));refine bD (kq 5 (.buildSlice 23 0 #[])) rfl rfl (yY (n:=5) (e:=50) (bytes:=40) hF (by kernel_rfl)) ?_;rintro _ w1 ⟨⟨a5,rfl⟩,s_1,hF⟩;refine ah 6 0 ?_;replace hw:=hw.t s_1;refine bD (kq 7 (.call {callee:=.builtin .append,args:=#[(.tmp 5),(.tmp 6)],argTypes:=#[23,23]})) rfl rfl (E2 (α:=bZ) (C:=bX C) (e:=50) (bytes:=40) rfl rfl (by kernel_rfl) hw) ?_;rintro vE w2 ⟨rfl,s_2⟩;refine aJ 2 7 (ai.nil ?_);refine cq Tryz.func124 Tryz.results124 ?_;replace hT:=(hT.t s_1).t s_2;exact⟨hT.bV (by decide),wS⟩
theorem QF {w₀:World} {C:Nat->Nat} {xs:List bZ} {px:Value} (hF:bA w₀ C) (hw:aF w₀ (aA C) xs px) (hne:xs≠[]) (hlen:xs.length<=1000000):Calls Tryz.prog 124 #[px] w₀ (bW λv w'=>aH [] w₀ C w' C/\aF w' (aA C) xs v):=by
 have bR:=hF;have hT:=z9 w₀ C;replace hF:=hF.bX;replace hw:=hw.c1;obtain⟨a0,c0,oB,Bf,_,hs0⟩:=mL.1 hw;obtain⟨b0,rfl⟩:∃b,a0=some b:=by
  rcases hs0 with h|⟨b,o,rfl,_⟩
  ·exact absurd h hne
  exact⟨_,rfl⟩
 clear hs0;refine cM C9.c0 8 [px] Tryz.func124 ?_;show Run _ _ _ _ [(0,px)] _ _;refine aj (aq [af 0] ?_);refine aO 2 (.slice none 0 0) (ai.nil (aj (aj (aq [af 0,af 1] ?_))));refine ah 3 0 ?_;refine au (kq 4 (.binOp .eql 23 (.tmp 3) (.const (.slice none 0 0)) 23)) (λ_=>yX ((show _=some px from rfl).trans (congrArg some oB)) Tryz.underlying23) ?_;refine ai.nil (fe 4 (bK (aj (aq [nn 0,af 1,nn 2,af 3] ?_))));refine bD (kq 5 (.buildSlice 23 0 #[])) rfl rfl (yY (n:=5) (e:=50) (bytes:=40) hF (by kernel_rfl)) ?_;rintro _ w1 ⟨⟨a5,rfl⟩,s_1,hF⟩;refine ah 6 0 ?_;replace hw:=hw.t s_1;refine bD (kq 7 (.call {callee:=.builtin .append,args:=#[(.tmp 5),(.tmp 6)],argTypes:=#[23,23]})) rfl rfl (CN (j:=5) (e:=50) (bytes:=40) (ys:=([]:List bZ)) hF (by decide) rfl rfl (by kernel_rfl) (by decide) wS hw hne (by simp only[List.length_nil];omega) (by simp only[List.length_nil];omega)) ?_;rintro vE w2 ⟨fm,s_2,hn,hF⟩;refine aJ 2 7 (ai.nil ?_);simp only[List.nil_append] at hn;refine cq Tryz.func124 Tryz.results124 ?_;replace hT:=(hT.t s_1).t s_2;exact⟨hT.bV (by decide),hn.out hT bR (fJ C) (λb _=>kf C (by decide) b) (by omega)⟩
theorem QG {w₀:World} {C:Nat->Nat} {xs:List bZ} {px:Value} (hF:bA w₀ C) (hw:aF w₀ (aA C) xs px) (hlen:xs.length<=1000000):Calls Tryz.prog 124 #[px] w₀ (bW λv w'=>aH [] w₀ C w' C/\aF w' (aA C) xs v):=by
 by_cases hne:xs=[]
 ·subst hne;obtain⟨a0,c0,oB,Bf,_,hs0⟩:=mL.1 hw;have e0:px=.slice a0 0 c0:=oB;rcases a0 with _|b0
  ·subst e0;exact QD hF hw
  ·exact QE hF hw e0
 ·exact QF hF hw hne hlen
namespace Kh
def c0:=dL Tryz.f96
end Kh
theorem Ki {w₀:World} {C:Nat->Nat} {xs:List bZ} {px:Value} (hF:bA w₀ C) (hw:aF w₀ (aA C) xs px) (hlen:xs.length<=1000000):Calls Tryz.prog 96 #[px] w₀ (bW λv w'=>aH [] w₀ C w' C/\aF w' (aA C) xs v):=by
 have bR:=hF;have hT:=z9 w₀ C;replace hF:=hF.bX;replace hw:=hw.c1;refine cM Kh.c0 5 [px] Tryz.func96 ?_;show Run _ _ _ _ [(0,px)] _ _;refine aj (aq [af 0] ?_);refine aO 2 (.slice none 0 0) (ai.nil (aj (aq [af 0,nn 1,af 2] ?_)));refine ah 3 0 ?_;refine cE 4 124 [3] [23] Tryz.call124 rfl (QG hF hw hlen) ?_;rintro nc w1 ⟨s_1,hn⟩;refine aJ 2 4 (ai.nil ?_);refine cq Tryz.func96 Tryz.results96 ?_;replace hT:=hT.t s_1;exact⟨hT.bV (by decide),hn.out hT bR (fJ C)⟩
namespace xq
def c0:=dL Tryz.f125
end xq
theorem QH {w₀:World} {C:Nat->Nat} {c0:Nat} (hF:bA w₀ C) (hw:aF w₀ (aA C) ([]:List bP) (.slice none 0 c0)):Calls Tryz.prog 125 #[.slice none 0 c0] w₀ (bW λv w'=>aH [] w₀ C w' C/\aF w' (aA C) ([]:List bP) v):=by
 have bR:=hF;have hT:=z9 w₀ C;replace hF:=hF.bX;replace hw:aF w₀ (aA (bX C)) ([]:List bP) (.slice none 0 c0):=by rw[fJ];exact hw
 refine cM xq.c0 8 [.slice none 0 c0] Tryz.func125 ?_;show Run _ _ _ _ [(0,.slice none 0 c0)] _ _;refine aj (aq [af 0] ?_);refine aO 2 (.slice none 0 0) (ai.nil (aj (aj (aq [af 0,af 1] ?_))));refine ah 3 0 ?_;refine au (kq 4 (.binOp .eql 24 (.tmp 3) (.const (.slice none 0 0)) 24)) (λ_=>E1 rfl Tryz.underlying24) ?_;refine ai.nil (k9 4 (aj (aq [af 0] ?_)));refine aO 2 (.slice none 0 0) (ai.nil ?_);refine cq Tryz.func125 Tryz.results125 ?_;exact⟨hT.bV (by decide),fF⟩
theorem QI {w₀:World} {C:Nat->Nat} {px:Value} (hF:bA w₀ C) (hw:aF w₀ (aA C) ([]:List bP) px) {b0:Addr} {c0:Nat} (oB:px=.slice (some b0) 0 c0):Calls Tryz.prog 125 #[px] w₀ (bW λv w'=>aH [] w₀ C w' C/\aF w' (aA C) ([]:List bP) v):=by
 have bR:=hF;have hT:=z9 w₀ C;replace hF:=hF.bX;replace hw:aF w₀ (aA (bX C)) ([]:List bP) px:=by rw[fJ];exact hw
 refine cM xq.c0 8 [px] Tryz.func125 ?_;show Run _ _ _ _ [(0,px)] _ _;refine aj (aq [af 0] ?_);refine aO 2 (.slice none 0 0) (ai.nil (aj (aj (aq [af 0,af 1] ?_))));refine ah 3 0 ?_;refine au (kq 4 (.binOp .eql 24 (.tmp 3) (.const (.slice none 0 0)) 24)) (λ_=>yX ((show _=some px from rfl).trans (congrArg some oB)) Tryz.underlying24) ?_;refine ai.nil (fe 4 (bK (aj (aq [nn 0,af 1,nn 2,af 3] ?_))));refine bD (kq 5 (.buildSlice 24 0 #[])) rfl rfl (yY (n:=7) (e:=75) (bytes:=56) hF (by kernel_rfl)) ?_;rintro _ w1 ⟨⟨a5,rfl⟩,s_1,hF⟩;refine ah 6 0 ?_;replace hw:=hw.t s_1;refine bD (kq 7 (.call {callee:=.builtin .append,args:=#[(.tmp 5),(.tmp 6)],argTypes:=#[24,24]})) rfl rfl (E2 (α:=bP) (C:=bX C) (e:=75) (bytes:=56) rfl rfl (by kernel_rfl) hw) ?_;rintro vE w2 ⟨rfl,s_2⟩;refine aJ 2 7 (ai.nil ?_);refine cq Tryz.func125 Tryz.results125 ?_;replace hT:=(hT.t s_1).t s_2;exact⟨hT.bV (by decide),wS⟩
theorem QJ {w₀:World} {C:Nat->Nat} {xs:List bP} {px:Value} (hF:bA w₀ C) (hw:aF w₀ (aA C) xs px) (hne:xs≠[]) (hlen:xs.length<=1000000):Calls Tryz.prog 125 #[px] w₀ (bW λv w'=>aH [] w₀ C w' C/\aF w' (aA C) xs v):=by
 have bR:=hF;have hT:=z9 w₀ C;replace hF:=hF.bX;replace hw:=hw.c1;obtain⟨a0,c0,oB,Bf,_,hs0⟩:=mL.1 hw;obtain⟨b0,rfl⟩:∃b,a0=some b:=by
  rcases hs0 with h|⟨b,o,rfl,_⟩
  ·exact absurd h hne
  exact⟨_,rfl⟩
 clear hs0;refine cM xq.c0 8 [px] Tryz.func125 ?_;show Run _ _ _ _ [(0,px)] _ _;refine aj (aq [af 0] ?_);refine aO 2 (.slice none 0 0) (ai.nil (aj (aj (aq [af 0,af 1] ?_))));refine ah 3 0 ?_;refine au (kq 4 (.binOp .eql 24 (.tmp 3) (.const (.slice none 0 0)) 24)) (λ_=>yX ((show _=some px from rfl).trans (congrArg some oB)) Tryz.underlying24) ?_;refine ai.nil (fe 4 (bK (aj (aq [nn 0,af 1,nn 2,af 3] ?_))));refine bD (kq 5 (.buildSlice 24 0 #[])) rfl rfl (yY (n:=7) (e:=75) (bytes:=56) hF (by kernel_rfl)) ?_;rintro _ w1 ⟨⟨a5,rfl⟩,s_1,hF⟩;refine ah 6 0 ?_;replace hw:=hw.t s_1;refine bD (kq 7 (.call {callee:=.builtin .append,args:=#[(.tmp 5),(.tmp 6)],argTypes:=#[24,24]})) rfl rfl (CN (j:=5) (e:=75) (bytes:=56) (ys:=([]:List bP)) hF (by decide) rfl rfl (by kernel_rfl) (by decide) wS hw hne (by simp only[List.length_nil];omega) (by simp only[List.length_nil];omega)) ?_;rintro vE w2 ⟨fm,s_2,hn,hF⟩;refine aJ 2 7 (ai.nil ?_);simp only[List.nil_append] at hn;refine cq Tryz.func125 Tryz.results125 ?_;replace hT:=(hT.t s_1).t s_2;exact⟨hT.bV (by decide),hn.out hT bR (fJ C) (λb _=>kf C (by decide) b) (by omega)⟩
theorem QL {w₀:World} {C:Nat->Nat} {xs:List bP} {px:Value} (hF:bA w₀ C) (hw:aF w₀ (aA C) xs px) (hlen:xs.length<=1000000):Calls Tryz.prog 125 #[px] w₀ (bW λv w'=>aH [] w₀ C w' C/\aF w' (aA C) xs v):=by
 by_cases hne:xs=[]
 ·subst hne;obtain⟨a0,c0,oB,Bf,_,hs0⟩:=mL.1 hw;have e0:px=.slice a0 0 c0:=oB;rcases a0 with _|b0
  ·subst e0;exact QH hF hw
  ·exact QI hF hw e0
 ·exact QJ hF hw hne hlen
namespace FK
def c0:=dL Tryz.f97
end FK
theorem QM {w₀:World} {C:Nat->Nat} {xs:List bP} {px:Value} (hF:bA w₀ C) (hw:aF w₀ (aA C) xs px) (hlen:xs.length<=1000000):Calls Tryz.prog 97 #[px] w₀ (bW λv w'=>aH [] w₀ C w' C/\aF w' (aA C) xs v):=by
 have bR:=hF;have hT:=z9 w₀ C;replace hF:=hF.bX;replace hw:=hw.c1;refine cM FK.c0 5 [px] Tryz.func97 ?_;show Run _ _ _ _ [(0,px)] _ _;refine aj (aq [af 0] ?_);refine aO 2 (.slice none 0 0) (ai.nil (aj (aq [af 0,nn 1,af 2] ?_)));refine ah 3 0 ?_;refine cE 4 125 [3] [24] Tryz.call125 rfl (QL hF hw hlen) ?_;rintro nc w1 ⟨s_1,hn⟩;refine aJ 2 4 (ai.nil ?_);refine cq Tryz.func97 Tryz.results97 ?_;replace hT:=hT.t s_1;exact⟨hT.bV (by decide),hn.out hT bR (fJ C)⟩
namespace Bg
def c0:=dL Tryz.f63
def o1:=fG (cl (aZ c0))
end Bg
theorem QN {w₀:World} {C:Nat->Nat} {aK:Int} {sh:List bZ} {ds:List bP} {vs bS:Value} (hF:bA w₀ C) (hsh:aF w₀ (aA C) sh vs) (hds:aF w₀ (aA C) ds bS) (QO:sh.length<=1000000) (yQ:ds.length<=1000000):Calls Tryz.prog 63 #[.agg #[.int .i64 aK,vs,bS]] w₀ (bW λv w'=>∃jh gH,v=.agg #[.int .i64 aK,jh,gH]/\aH [] w₀ C w' C/\aF w' (aA C) sh jh/\aF w' (aA C) ds gH):=by
 have bR:=hF;have hT:=z9 w₀ C;replace hF:=hF.bX;replace hsh:=hsh.c1;replace hds:=hds.c1;refine cM Bg.c0 12 [.agg #[.int .i64 aK,vs,bS]] Tryz.func63 ?_;show Run _ _ _ _ [(0,.agg #[.int .i64 aK,vs,bS])] _ _;refine aj (aq [nn 0,nn 1] ?_);refine bD (kq 1 (.box 26 (.tmp 0))) rfl rfl (cW (cs:=[.int .i64 aK,vs,bS]) hF 3 rfl rfl) ?_;rintro _ w1 ⟨d_,ct,rfl,s_1,hx,hF⟩;refine bD (kq 2 (.alloc 26)) rfl rfl (eO (cs:=[.int .i64 0,.slice none 0 0,.slice none 0 0]) hF 4 (by kernel_rfl)) ?_;rintro _ w2 ⟨fm,eM,rfl,s_2,hy,hF⟩;refine ai.nil (aj ?_);refine CB (id:=1) (ops:=Bg.o1) [] (fm) 7 [af 0,af 1,af 3,af 4,nn 2,af 6,nn 5] [af 8,nn 9] eD (by kernel_rfl) (by kernel_rfl) (by kernel_rfl) ?_;intro w3 ay;have hR:=aH.refl [] w3 (fm);refine aL 3 26 1 1 1 ?_;replace hx:=(hx.t s_2).t ay;refine eY 4 23 3 (hx.cR ·) ?_;refine aL 6 26 1 2 2 ?_;refine eY 7 24 6 (hx.cR ·) ?_;replace hsh:=((hsh.t s_1).t s_2).t ay;replace hF:=hF.st ay;refine gj 5 96 [4] [23] Tryz.call96 rfl (Ki hF hsh (by omega)) ?_;rintro jh w4 ⟨aC,hn⟩;refine⟨(hR.trans aC (by simp)).ext,?_⟩;refine aL 9 26 1 1 1 ?_;replace hds:=(((hds.t s_1).t s_2).t ay).t aC;replace hF:=hF.st aC;refine gj 8 97 [7] [24] Tryz.call97 rfl (QM hF hds (by omega)) ?_;rintro gH fQ ⟨aB,hm⟩;replace hR:=hR.t aC;refine⟨(hR.trans aB (by simp)).ext,?_⟩;replace hR:=hR.t aB;refine Cy hR.ext ?_;replace hx:=(hx.t aC).t aB;replace hn:=hn.t aB;refine dD (k0 (.store 23 (.tmp 9) (.tmp 5))) rfl (jW rfl rfl (by kernel_rfl) (hn.one rfl).1 (hn.one rfl).2 hx (by simp)) ?_;rintro _ gx ⟨rfl,aD,hx⟩;refine CA ?_;refine aL 10 26 1 2 2 ?_;replace hm:=hm.t aD;refine dD (k0 (.store 24 (.tmp 10) (.tmp 8))) rfl (jW rfl rfl (by kernel_rfl) (hm.one rfl).1 (hm.one rfl).2 hx (by simp)) ?_;rintro _ w7 ⟨rfl,bp,hx⟩;refine ai.nil (aj (aq [nn 0,nn 1] ?_));refine bI 11 26 1 3 ([.int .i64 aK,jh,gH]) hx.at_ ?_
 replace hy:=((((hy.t ay).t aC).t aB).t aD).t bp;replace hn:=(hn.t aD).t bp;replace hm:=hm.t bp;refine dD (k0 (.store 26 (.tmp 2) (.tmp 11))) rfl (dP (vs:=[.int .i64 aK,jh,gH]) (n:=3) rfl rfl (by kernel_rfl) rfl rfl (by repeat' first|exact ff|refine fh ?_ ?_|rfl|exact(hn.one rfl).2|exact(hm.one rfl).2) hy rfl) ?_;rintro _ h_ ⟨rfl,bh,hy⟩;refine ai.nil ?_;refine tj (by kernel_rfl) Tryz.func63 Tryz.results63 rfl hy.at_ (by kernel_rfl) (by kernel_rfl) rfl ?_;replace hT:=(((((((hT.t s_1).t s_2).t ay).t aC).t aB).t aD).t bp).t bh;replace hn:=hn.t bh;replace hm:=hm.t bh;exact⟨jh,gH,rfl,hT.bV (by decide),hn.out hT bR (fJ C),hm.out hT bR (fJ C)⟩
end
end Go.Proofs.YtionghonhnedgaaGreat
set_option linter.unusedVariables false
set_option linter.unusedSimpArgs false
set_option maxRecDepth 100000
set_option maxHeartbeats 4000000
namespace Go.Proofs.YtionghonhnedgaaGreat
open Go.K Go.K.bF
noncomputable section
namespace Kj
def c0:=dL Tryz.f99
end Kj
theorem Kk {w₀:World} {C:Nat->Nat} {k:Nat} (hF:bA w₀ C) (hk:k<=1000000) (j:Nat) (hj:j≠0):Calls Tryz.prog 99 #[.slice none 0 0,.int .i64 k] w₀ (bW λv w'=>∃bL,aH [] w₀ C w' bL/\bA w' bL/\cC w' bL j 50 v ([]:List bZ)):=by
 have bR:=hF;have hT:=z9 w₀ C;replace hF:=hF.bX;refine cM Kj.c0 27 [.slice none 0 0,.int .i64 k] Tryz.func99 ?_;show Run _ _ _ _ [(0,.slice none 0 0),(1,.int .i64 k)] _ _;refine aj (aq [af 0] ?_);refine aO 4 (.slice none 0 0) (ai.nil (aj (aj (aq [af 0,af 1] ?_))));refine ah 5 1 ?_;refine au (kq 6 (.binOp .lss 3 (.tmp 5) (.const (.int .i64 0)) 3)) (λ_=>dV rfl rfl) ?_;refine ai.nil ?_;refine cV 6 rfl (λh6=>?_) (λh6=>?_)
 ·
  omega
 refine bK (aj (aj (aq [af 0,af 1,nn 2,af 3,af 4,af 5,af 6,af 7] ?_)));refine ah 8 1 (ah 9 0 ?_);refine ot (kq 10 (.call {callee:=.builtin .cap,args:=#[(.tmp 9)],argTypes:=#[23]})) rfl rfl trivial (E4 rfl Tryz.underlying23) ?_;refine ah 11 0 ?_;refine au (kq 12 (.call {callee:=.builtin .len,args:=#[(.tmp 11)],argTypes:=#[23]})) (λ_=>uX rfl Tryz.underlying23) ?_;refine au (kq 13 (.binOp .sub 3 (.tmp 10) (.tmp 12) 3)) (λ_=>jo rfl rfl (by omega) (by omega)) ?_;refine au (kq 14 (.binOp .sub 3 (.tmp 8) (.tmp 13) 3)) (λ_=>jo rfl rfl (by omega) (by omega)) ?_;rw[show(k:Int)-(((0:Nat):Int)-((0:Nat):Int))=(k:Int) from by simp];refine aJ 1 14 (ai.nil (aj (aq [af 0,af 1] ?_)));refine ah 15 1 ?_;refine au (kq 16 (.binOp .gtr 3 (.tmp 15) (.const (.int .i64 0)) 3)) (λ_=>eL rfl rfl) ?_;refine ai.nil ?_;refine cV 16 rfl (λjr=>?_) (λjr=>?_)
 ·
  have QS:0<k:=by omega
  refine aq [af 0,af 1,nn 2,af 3,af 4,nn 5,af 6,af 7,af 8,af 9] ?_;refine ah 17 0 (ah 18 0 ?_);refine ot (kq 19 (.call {callee:=.builtin .cap,args:=#[(.tmp 18)],argTypes:=#[23]})) rfl rfl trivial (E4 rfl Tryz.underlying23) ?_;refine au (kq 20 (.slice 23 (.tmp 17) none (some (.tmp 19)) none)) (λ_=>PB rfl rfl Tryz.underlying23 (by kernel_rfl)) ?_;refine ah 21 1 ?_;refine bD (kq 22 (.call {callee:=.builtin .append,args:=#[(.tmp 20),(.tmp 21)],argTypes:=#[23,3]})) rfl rfl (PA (α:=bZ) (e:=50) (bytes:=40) (n:=k) (j:=3) hF (by decide) rfl rfl (by kernel_rfl) (by decide) (by decide) Tryz.underlying3 QS (by omega)) ?_;rintro _ w1 ⟨d_,W1,gc,rfl,s_1,hz,hF⟩;refine ah 23 0 ?_;refine au (kq 24 (.call {callee:=.builtin .len,args:=#[(.tmp 23)],argTypes:=#[23]})) (λ_=>uX rfl Tryz.underlying23) ?_;refine au (kq 25 (.slice 23 (.tmp 22) none (some (.tmp 24)) none)) (λ_=>PD rfl rfl Tryz.underlying23 (by kernel_rfl)) ?_;refine aJ 0 25 (ai.nil (aj (aq [af 0,af 1] ?_)));refine ah 26 0 (aJ 4 26 (ai.nil ?_));refine cq Tryz.func99 Tryz.results99 ?_;replace hT:=hT.t s_1;obtain⟨oC,ny,oD,zp,oE⟩:=hz.jD hT bR (fJ C) (λb _=>kf C (by decide) b) (by decide) j hj;exact⟨oC,(hT.bV (by decide)).jD ny,oD,oE⟩
 refine bK (aj (aq [af 0,af 1] ?_));refine ah 26 0 (aJ 4 26 (ai.nil ?_));refine cq Tryz.func99 Tryz.results99 ?_;exact⟨C,hT.bV (by decide),bR.st (hT.bV (by decide)),cC.nil⟩
namespace FL
def c0:=dL Tryz.f65
end FL
theorem QU {w₀:World} {C:Nat->Nat} {ll:List (List bZ)} {eV:Value} (hF:bA w₀ C) (hl:aF w₀ (aA C) ll eV) (hlen:ll.flatten.length<=100000) (j:Nat) (hj:j≠0):Calls Tryz.prog 65 #[eV] w₀ (bW λv w'=>∃bL,aH [] w₀ C w' bL/\bA w' bL/\cC w' bL j 50 v ll.flatten):=by
 have bR:=hF;have hT:=z9 w₀ C;replace hF:=hF.bX;replace hl:=hl.c1;refine cM FL.c0 36 [eV] Tryz.func65 ?_;show Run _ _ _ _ [(0,eV)] _ _;refine aj (aq [af 0] ?_);refine aO 2 (.slice none 0 0) (ai.nil (aj (aq [af 0] ?_)));refine aO 3 (.int .i64 0) (ai.nil (aj (aj (aq [af 0,af 1,af 2] ?_))));refine ah 9 0 ?_;refine zE 10 9 136 (hl.cz rfl Tryz.underlying136) ?_;refine mN 11 (.int .i64 0) ?_;refine ai.nil (dm 0 ?_);refine fD (ι:=Nat×(Nat->Nat)) (I:=λx w=>x.1<=ll.length/\bA w x.2/\aH [2,3,4,5,6,7,8,9] w₀ (bX C) w x.2/\aF w (aA x.2) ll eV) (e:=λx=>[(0,eV),(3,.int .i64 ((ll.take x.1).flatten.length:Nat)),(9,eV),(10,.int .i64 ll.length),(11,.int .i64 x.1)]) (m:=λx=>ll.length-x.1) (eZ:=(0,bX C)) (ak 0 (ak 3 (ak 9 (ak 10 (ak 11 (b6 _)))))) ?_ ?_
 · exact⟨Nat.zero_le _,hF,hT,hl⟩
 intro⟨i,cO⟩ w1 hI dW;obtain⟨hi,hF,hT,hl⟩:=hI;try simp only at hi hF hT hl
 show Run _ _ _ _ [(0,eV),(3,.int .i64 ((ll.take i).flatten.length:Nat)),(9,eV),(10,.int .i64 ll.length),(11,.int .i64 i)] _ _;have hle:=hl.le;have hfl:=ve (ll:=ll) i;refine aj (aq [af 0] ?_);refine fM 12 3 11 10 (ai.nil (aj ?_));refine cV 12 rfl (λh12=>?_) (λh12=>?_)
 ·
  have hil:i<ll.length:=by omega
  have hft:=congrArg List.length (CP hil);rw[List.length_append] at hft;have FM:=ve (ll:=ll) (i+1);refine bK (aj (dm 1 (aj (aq [af 0,nn 1,af 2] ?_))));refine eX 23 13 136 9 11 hl rfl (h:=?_);intro CU rP oy;try simp only[b_] at oy
  refine gK (kq 14 (.load 23 (.tmp 13))) rfl rfl trivial oy (by kernel_rfl) rfl rfl ?_;intro CV g14;refine aJ 5 14 (ai.nil (aj (aq [af 0,af 1,af 2,af 3,af 4] ?_)));refine ah 15 3 (ah 16 5 ?_);refine zE 17 16 23 (g14.cz rfl Tryz.underlying23) ?_;refine au (kq 18 (.binOp .add 3 (.tmp 15) (.tmp 17) 3)) (λ_=>gU rfl rfl (by omega) (by omega)) ?_;refine aJ 3 18 (ai.nil (aj (aq [af 0,af 1] ?_)));refine ah 19 3 ?_;refine au (kq 20 (.binOp .lss 3 (.tmp 19) (.const (.int .i64 0)) 3)) (λ_=>dV rfl rfl) ?_;refine ai.nil ?_;refine cV 20 rfl (λjt=>?_) (λjt=>?_)
  ·
   omega
  refine bK (dZ (aq [af 0,af 1] ?_));refine eG 22 3 11 1 (ah 11 22 (ai.nil ?_));refine kp (ak 0 (cA 3 rfl (eq_int (by simp only;omega)) (ak 9 (ak 10 (cA 11 rfl (eq_int (by simp)) (b6 _)))))) (dW (i+1,cO) _ ⟨(by first|omega|(simp only;omega)),hF,hT,hl⟩ (by first|omega|(simp only;omega)))
 have hil:i=ll.length:=by omega
 refine fq 0 ?_;refine aj (aq [af 0,nn 1,af 2] ?_);refine ah 23 3 ?_;refine dS (kq 24 (.call {callee:=.value (.func 99),args:=#[(.const (.slice none 0 0)),(.tmp 23)],argTypes:=#[23,3]})) rfl rfl (dn Tryz.call99 rfl) (Kk hF (by omega) 3 (by decide)) ?_;rintro pq w2 ⟨rY,s_1,hF,ho⟩;refine aJ 6 24 (ai.nil (aj (aj (aq [af 0,af 1,af 2] ?_))));refine ah 25 0 ?_;replace hl:=hl.t s_1;refine zE 26 25 136 (hl.cz rfl Tryz.underlying136) ?_;refine mN 27 (.int .i64 0) ?_;refine ai.nil (dm 2 ?_);refine fD (ι:=Nat×Value×(Nat->Nat)) (I:=λx w=>x.1<=ll.length/\bA w x.2.2/\aH [2,3,4,5,6,7,8,9] w₀ (bX C) w x.2.2/\aF w (aA x.2.2) ll eV/\cC w x.2.2 3 50 x.2.1 ((ll.take x.1).flatten)) (e:=λx=>[(6,x.2.1),(25,eV),(26,.int .i64 ll.length),(27,.int .i64 x.1)]) (m:=λx=>ll.length-x.1) (eZ:=(0,pq,rY)) (ak 6 (ak 25 (ak 26 (ak 27 (b6 _))))) ?_ ?_
 ·
   replace hT:=hT.t s_1;exact⟨Nat.zero_le _,hF,hT,hl,ho⟩
 intro⟨k,gy,fI⟩ w3 hI ko;obtain⟨hk,hF,hT,hl,ho⟩:=hI;try simp only at hk hF hT hl ho
 show Run _ _ _ _ [(6,gy),(25,eV),(26,.int .i64 ll.length),(27,.int .i64 k)] _ _;have hle:=hl.le;have hfl:=ve (ll:=ll) k;refine aj (aq [af 0] ?_);refine fM 28 3 27 26 (ai.nil (aj ?_));refine cV 28 rfl (λoF=>?_) (λoF=>?_)
 ·
  have dQ:k<ll.length:=by omega
  have hft:=CP dQ;have FN:=congrArg List.length hft;rw[List.length_append] at FN;have FM:=ve (ll:=ll) (k+1);refine bK (aj (dm 3 (aj (aq [af 0,nn 1,af 2] ?_))));refine eX 23 29 136 25 27 hl rfl (h:=?_);intro CZ y9 pg;try simp only[b_] at pg
  refine gK (kq 30 (.load 23 (.tmp 29))) rfl rfl trivial pg (by kernel_rfl) rfl rfl ?_;intro v30 xb;refine aJ 8 30 (ai.nil (aq [af 0,af 1,nn 2,af 3] ?_));refine ah 31 6 (ah 32 8 ?_);refine bD (kq 33 (.call {callee:=.builtin .append,args:=#[(.tmp 31),(.tmp 32)],argTypes:=#[23,23]})) rfl rfl (gJ (e:=50) (bytes:=40) hF (by decide) rfl rfl (by kernel_rfl) (by decide) ho xb (by omega) (by omega)) ?_;rintro v33 w4 ⟨iG,s_2,ho,hF⟩;refine aJ 6 33 (ai.nil (dZ (aq [af 0,af 1] ?_)));refine eG 34 3 27 1 (ah 27 34 (ai.nil ?_));replace hT:=hT.t s_2;replace hl:=hl.t s_2;refine kp (ak 6 (ak 25 (ak 26 (cA 27 rfl (eq_int (by simp)) (b6 _))))) (ko (k+1,v33,iG) _ ⟨(by first|omega|(simp only;omega)),hF,hT,hl,(by simp only;rw[hft];exact ho)⟩ (by first|omega|(simp only;omega)))
 have dQ:k=ll.length:=by omega
 rw[dQ,List.take_length] at ho;refine fq 2 ?_;refine aj (aq [af 0,af 1] ?_);refine ah 35 6 (aJ 2 35 (ai.nil ?_));refine cq Tryz.func65 Tryz.results65 ?_;obtain⟨oC,ny,oD,zp,oE⟩:=ho.jD hT bR (fJ C) (λb _=>kf C (by decide) b) (by decide) j hj;exact⟨oC,(hT.bV (by decide)).jD ny,oD,oE⟩
theorem QV {w₀:World} {C:Nat->Nat} {ll:List (List bZ)} {eV:Value} (hF:bA w₀ C) (hl:aF w₀ (aA C) ll eV) (hlen:ll.flatten.length<=100000):Calls Tryz.prog 65 #[eV] w₀ (bW λv w'=>aH [] w₀ C w' C/\aF w' (aA C) ll.flatten v):=by
 have bR:=hF;have hT:=z9 w₀ C;replace hF:=hF.bX;replace hl:=hl.c1;refine cM FL.c0 36 [eV] Tryz.func65 ?_;show Run _ _ _ _ [(0,eV)] _ _;refine aj (aq [af 0] ?_);refine aO 2 (.slice none 0 0) (ai.nil (aj (aq [af 0] ?_)));refine aO 3 (.int .i64 0) (ai.nil (aj (aj (aq [af 0,af 1,af 2] ?_))));refine ah 9 0 ?_;refine zE 10 9 136 (hl.cz rfl Tryz.underlying136) ?_;refine mN 11 (.int .i64 0) ?_;refine ai.nil (dm 0 ?_);refine fD (ι:=Nat×(Nat->Nat)) (I:=λx w=>x.1<=ll.length/\bA w x.2/\aH [2,3,4,5,6,7,8,9] w₀ (bX C) w x.2/\aF w (aA x.2) ll eV) (e:=λx=>[(0,eV),(3,.int .i64 ((ll.take x.1).flatten.length:Nat)),(9,eV),(10,.int .i64 ll.length),(11,.int .i64 x.1)]) (m:=λx=>ll.length-x.1) (eZ:=(0,bX C)) (ak 0 (ak 3 (ak 9 (ak 10 (ak 11 (b6 _)))))) ?_ ?_
 · exact⟨Nat.zero_le _,hF,hT,hl⟩
 intro⟨i,cO⟩ w1 hI dW;obtain⟨hi,hF,hT,hl⟩:=hI;try simp only at hi hF hT hl
 show Run _ _ _ _ [(0,eV),(3,.int .i64 ((ll.take i).flatten.length:Nat)),(9,eV),(10,.int .i64 ll.length),(11,.int .i64 i)] _ _;have hle:=hl.le;have hfl:=ve (ll:=ll) i;refine aj (aq [af 0] ?_);refine fM 12 3 11 10 (ai.nil (aj ?_));refine cV 12 rfl (λh12=>?_) (λh12=>?_)
 ·
  have hil:i<ll.length:=by omega
  have hft:=congrArg List.length (CP hil);rw[List.length_append] at hft;have FM:=ve (ll:=ll) (i+1);refine bK (aj (dm 1 (aj (aq [af 0,nn 1,af 2] ?_))));refine eX 23 13 136 9 11 hl rfl (h:=?_);intro CU rP oy;try simp only[b_] at oy
  refine gK (kq 14 (.load 23 (.tmp 13))) rfl rfl trivial oy (by kernel_rfl) rfl rfl ?_;intro CV g14;refine aJ 5 14 (ai.nil (aj (aq [af 0,af 1,af 2,af 3,af 4] ?_)));refine ah 15 3 (ah 16 5 ?_);refine zE 17 16 23 (g14.cz rfl Tryz.underlying23) ?_;refine au (kq 18 (.binOp .add 3 (.tmp 15) (.tmp 17) 3)) (λ_=>gU rfl rfl (by omega) (by omega)) ?_;refine aJ 3 18 (ai.nil (aj (aq [af 0,af 1] ?_)));refine ah 19 3 ?_;refine au (kq 20 (.binOp .lss 3 (.tmp 19) (.const (.int .i64 0)) 3)) (λ_=>dV rfl rfl) ?_;refine ai.nil ?_;refine cV 20 rfl (λjt=>?_) (λjt=>?_)
  ·
   omega
  refine bK (dZ (aq [af 0,af 1] ?_));refine eG 22 3 11 1 (ah 11 22 (ai.nil ?_));refine kp (ak 0 (cA 3 rfl (eq_int (by simp only;omega)) (ak 9 (ak 10 (cA 11 rfl (eq_int (by simp)) (b6 _)))))) (dW (i+1,cO) _ ⟨(by first|omega|(simp only;omega)),hF,hT,hl⟩ (by first|omega|(simp only;omega)))
 have hil:i=ll.length:=by omega
 refine fq 0 ?_;refine aj (aq [af 0,nn 1,af 2] ?_);refine ah 23 3 ?_;refine dS (kq 24 (.call {callee:=.value (.func 99),args:=#[(.const (.slice none 0 0)),(.tmp 23)],argTypes:=#[23,3]})) rfl rfl (dn Tryz.call99 rfl) (Kk hF (by omega) 3 (by decide)) ?_;rintro pq w2 ⟨rY,s_1,hF,ho⟩;refine aJ 6 24 (ai.nil (aj (aj (aq [af 0,af 1,af 2] ?_))));refine ah 25 0 ?_;replace hl:=hl.t s_1;refine zE 26 25 136 (hl.cz rfl Tryz.underlying136) ?_;refine mN 27 (.int .i64 0) ?_;refine ai.nil (dm 2 ?_);refine fD (ι:=Nat×Value×(Nat->Nat)) (I:=λx w=>x.1<=ll.length/\bA w x.2.2/\aH [2,3,4,5,6,7,8,9] w₀ (bX C) w x.2.2/\aF w (aA x.2.2) ll eV/\cC w x.2.2 3 50 x.2.1 ((ll.take x.1).flatten)) (e:=λx=>[(6,x.2.1),(25,eV),(26,.int .i64 ll.length),(27,.int .i64 x.1)]) (m:=λx=>ll.length-x.1) (eZ:=(0,pq,rY)) (ak 6 (ak 25 (ak 26 (ak 27 (b6 _))))) ?_ ?_
 ·
   replace hT:=hT.t s_1;exact⟨Nat.zero_le _,hF,hT,hl,ho⟩
 intro⟨k,gy,fI⟩ w3 hI ko;obtain⟨hk,hF,hT,hl,ho⟩:=hI;try simp only at hk hF hT hl ho
 show Run _ _ _ _ [(6,gy),(25,eV),(26,.int .i64 ll.length),(27,.int .i64 k)] _ _;have hle:=hl.le;have hfl:=ve (ll:=ll) k;refine aj (aq [af 0] ?_);refine fM 28 3 27 26 (ai.nil (aj ?_));refine cV 28 rfl (λoF=>?_) (λoF=>?_)
 ·
  have dQ:k<ll.length:=by omega
  have hft:=CP dQ;have FN:=congrArg List.length hft;rw[List.length_append] at FN;have FM:=ve (ll:=ll) (k+1);refine bK (aj (dm 3 (aj (aq [af 0,nn 1,af 2] ?_))));refine eX 23 29 136 25 27 hl rfl (h:=?_);intro CZ y9 pg;try simp only[b_] at pg
  refine gK (kq 30 (.load 23 (.tmp 29))) rfl rfl trivial pg (by kernel_rfl) rfl rfl ?_;intro v30 xb;refine aJ 8 30 (ai.nil (aq [af 0,af 1,nn 2,af 3] ?_));refine ah 31 6 (ah 32 8 ?_);refine bD (kq 33 (.call {callee:=.builtin .append,args:=#[(.tmp 31),(.tmp 32)],argTypes:=#[23,23]})) rfl rfl (gJ (e:=50) (bytes:=40) hF (by decide) rfl rfl (by kernel_rfl) (by decide) ho xb (by omega) (by omega)) ?_;rintro v33 w4 ⟨iG,s_2,ho,hF⟩;refine aJ 6 33 (ai.nil (dZ (aq [af 0,af 1] ?_)));refine eG 34 3 27 1 (ah 27 34 (ai.nil ?_));replace hT:=hT.t s_2;replace hl:=hl.t s_2;refine kp (ak 6 (ak 25 (ak 26 (cA 27 rfl (eq_int (by simp)) (b6 _))))) (ko (k+1,v33,iG) _ ⟨(by first|omega|(simp only;omega)),hF,hT,hl,(by simp only;rw[hft];exact ho)⟩ (by first|omega|(simp only;omega)))
 have dQ:k=ll.length:=by omega
 rw[dQ,List.take_length] at ho;refine fq 2 ?_;refine aj (aq [af 0,af 1] ?_);refine ah 35 6 (aJ 2 35 (ai.nil ?_));refine cq Tryz.func65 Tryz.results65 ?_;exact⟨hT.bV (by decide),ho.out hT bR (fJ C) (λb _=>kf C (by decide) b) (by omega)⟩
end
end Go.Proofs.YtionghonhnedgaaGreat
