/- Steps through functions of the program. -/
import Derived.Test.YtionghonhnedgaaGreatJVFVG
import Derived.Test.YtionghonhnedgaaGreatL2
import Derived.Test.YtionghonhnedgaaGreatShelf
import Derived.Test.YtionghonhnedgaaGreatJVAVE
set_option linter.unusedVariables false
set_option linter.unusedSimpArgs false
set_option maxRecDepth 100000
set_option maxHeartbeats 4000000
namespace Go.Proofs.YtionghonhnedgaaGreat
open Go.K Go.K.bF
noncomputable section
theorem Sx {w:World} {C:Nat->Nat} {j:Nat} {v:Value} {ys:List bZ} (hF:bA w C) (ho:cC w C j 50 v ys) (hd:mR ys) (hlen:ys.length<=140737488355328):
  Calls Tryz.prog 98 #[v,.func (.func 45) #[] #[]] w (bW λu w'=>u=.tuple #[]/\∃zs,gp iF ys zs/\aH [j] w C w' C/\cC w' C j 50 v zs/\bA w' C):=
 Rq (enc:=fP) (cf:=iF) Go.Proofs.Tryz.sortShown (λw=>Tryz.isAgg50 w) (λw=>Tryz.sizeOf50 w) (λh M x vs=>EU) (λx=>rfl) (by decide)
  (λx u hu=>by simp only[fP,List.mem_cons,List.not_mem_nil,or_false] at hu;rcases hu with rfl|rfl|rfl|rfl|rfl<;>rfl) PE (λi k hi hk hne=>hd.ne hi hk hne) (λargs w=>Tryz.call45 args w)
  (λW x y=>(J2 (C:=λ_=>0) (λb hb=>absurd rfl hb)).mono (by rintro e w' ⟨u,rfl,rfl,hs⟩;exact⟨_,rfl,rfl,hs.ext.mono (λb _ hb=>by simp at hb)⟩)) hF ho hlen
namespace Lx
def c0:=dL Tryz.f64
end Lx
theorem Ly {w₀:World} {C:Nat->Nat} {l m:List bZ} {dH Dx:Value} (hF:bA w₀ C) (hl:aF w₀ (aA C) l dH) (hm:aF w₀ (aA C) m Dx) (Sy:mR (l++m)) (hlen:l.length+m.length<=100000):Calls Tryz.prog 64 #[dH,Dx] w₀ (bW λv w'=>∃zs,gp iF (l++m) zs/\aH [] w₀ C w' C/\aF w' (aA C) zs v):=by
 have bR:=hF;have hT:=z9 w₀ C;replace hF:=hF.bX;replace hl:=hl.c1;replace hm:=hm.c1;have hfl:[l,m].flatten=l++m:=by simp
 have gT: (l++m).length=l.length+m.length:=List.length_append;refine cM Lx.c0 13 [dH,Dx] Tryz.func64 ?_;show Run _ _ _ _ [(0,dH),(1,Dx)] _ _;refine aj (aq [af 0] ?_);refine aO 4 (.slice none 0 0) (ai.nil (aj (aq [af 0,af 1,nn 2,nn 3,af 4] ?_)));refine ah 6 0 (ah 7 1 ?_);refine bD (kq 8 (.buildSlice 136 2 #[(0,(.tmp 6)),(1,(.tmp 7))])) rfl rfl (ig (ys:=([l,m]:List (List bZ))) (e:=23) (bytes:=24) hF (by kernel_rfl) rfl (by decide) (by decide) ⟨rfl,⟨_,rfl,hl⟩,rfl,⟨_,rfl,hm⟩,trivial⟩) ?_;rintro FI w1 ⟨s_1,g8,hF⟩;refine cE 9 65 [8] [136] Tryz.call65 rfl (QU hF g8 (by rw[hfl];omega) 3 (by decide)) ?_;rintro W7 w2 ⟨rY,s_2,hF,ho⟩;rw[hfl] at ho;refine aJ 5 9 (ai.nil (aj (aq [af 0,nn 1] ?_)));refine ah 10 5 ?_;refine dS (kq 11 (.call {callee:=.value (.func 98),args:=#[(.tmp 10),(.func 45)],argTypes:=#[23,89]})) rfl rfl (dn Tryz.call98 rfl) (Sx hF ho Sy (by omega)) ?_;rintro mP w3 ⟨rfl,zs,kr,ay,ho,hF⟩;have hzl:=kr.len;refine ai.nil (aj (aq [af 0,af 1] ?_));refine ah 12 5 (aJ 4 12 (ai.nil ?_));refine cq Tryz.func64 Tryz.results64 ?_;replace hT:=((hT.t s_1).t s_2).t ay;exact⟨zs,kr,hT.bV (by decide),ho.out hT bR (fJ C) (λb _=>kf C (by decide) b) (by omega)⟩
end
end Go.Proofs.YtionghonhnedgaaGreat
set_option linter.unusedVariables false
set_option linter.unusedSimpArgs false
set_option maxRecDepth 100000
set_option maxHeartbeats 4000000
namespace Go.Proofs.YtionghonhnedgaaGreat
open Go.K Go.K.bF
noncomputable section
namespace Lz
def c0:=dL Tryz.f47
end Lz
theorem qb {w₀:World} {C:Nat->Nat} {x:dh} (hF:bA w₀ C):Calls Tryz.prog 47 #[.agg #[.int .i64 x.a,.int .i64 x.b]] w₀ (bW λv w'=>v=.bool (iU x)/\aH [] w₀ C w' C):=by
 have bR:=hF;have hT:=z9 w₀ C;replace hF:=hF.bX;refine cM Lz.c0 21 [.agg #[.int .i64 x.a,.int .i64 x.b]] Tryz.func47 ?_;show Run _ _ _ _ [(0,.agg #[.int .i64 x.a,.int .i64 x.b])] _ _;refine aj (aq [nn 0,af 1] ?_);refine bD (kq 1 (.box 32 (.tmp 0))) rfl rfl (cW (cs:=[.int .i64 x.a,.int .i64 x.b]) hF 3 rfl rfl) ?_;rintro _ w1 ⟨d_,ct,rfl,s_1,hx,hF⟩;refine aO 2 (.bool false) (ai.nil ?_);refine kp (ak 1 (b6 _)) ?_;refine aj ?_;refine i_ 2 (iU x) (d_) ?_ ?_
 ·
  intro dx;by_cases hA:0<=x.a
  ·
   by_cases hB:x.a<4
   ·
    by_cases hC:1<=x.b
    ·
     refine aq [af 0,nn 1,af 2,af 3,af 4,nn 5,af 6,af 7,af 8,af 9,nn 10,af 11,af 12,af 13,af 14,nn 15,af 16,af 17,af 18] ?_;refine aL 3 32 1 0 0 ?_;refine cm 4 3 3 hx.at_ rfl rfl ?_;refine au (kq 5 (.binOp .geq 3 (.tmp 4) (.const (.int .i64 0)) 3)) (λ_=>eE (ga rfl rfl) hA) ?_;refine ah 6 5 ?_;refine bT 7 32 1 0 0 3 true ?_;refine cv 8 3 7 3 true hx.at_ ?_;refine au (ax 9 (.binOp .lss 3 (.tmp 8) (.const (.int .i64 4)) 3) 3 true) (λ_=>eE (dV rfl rfl) hB) ?_;refine eR 10 6 9 ?_;refine ah 11 10 ?_;refine bT 12 32 1 1 1 8 true ?_;refine cv 13 3 12 8 true hx.at_ ?_;refine au (ax 14 (.binOp .geq 3 (.tmp 13) (.const (.int .i64 1)) 3) 8 true) (λ_=>eE (ga rfl rfl) hC) ?_;refine eR 15 11 14 ?_;refine ah 16 15 ?_;refine bT 17 32 1 1 1 13 true ?_;refine cv 18 3 17 13 true hx.at_ ?_;refine au (ax 19 (.binOp .leq 3 (.tmp 18) (.const (.int .i64 1048576)) 3) 13 true) (λ_=>qE rfl rfl) ?_;refine eR 20 16 19 ?_;refine aJ 2 20 ?_;exact ai.nil (dx _ _ _ (aH.refl _ _ _) rfl (by unfold iU;rw[decide_eq_true hA,decide_eq_true hB,decide_eq_true hC];rfl) (ei 19))
    refine aq [af 0,nn 1,af 2,af 3,af 4,nn 5,af 6,af 7,af 8,af 9,nn 10,af 11,af 12,af 13,af 14,nn 15,af 16,af 17,af 18] ?_;refine aL 3 32 1 0 0 ?_;refine cm 4 3 3 hx.at_ rfl rfl ?_;refine au (kq 5 (.binOp .geq 3 (.tmp 4) (.const (.int .i64 0)) 3)) (λ_=>eE (ga rfl rfl) hA) ?_;refine ah 6 5 ?_;refine bT 7 32 1 0 0 3 true ?_;refine cv 8 3 7 3 true hx.at_ ?_;refine au (ax 9 (.binOp .lss 3 (.tmp 8) (.const (.int .i64 4)) 3) 3 true) (λ_=>eE (dV rfl rfl) hB) ?_;refine eR 10 6 9 ?_;refine ah 11 10 ?_;refine bT 12 32 1 1 1 8 true ?_;refine cv 13 3 12 8 true hx.at_ ?_;refine au (ax 14 (.binOp .geq 3 (.tmp 13) (.const (.int .i64 1)) 3) 8 true) (λ_=>dN (ga rfl rfl) hC) ?_;refine eR 15 11 14 ?_;refine ah 16 15 ?_;refine aG 17 13 true ?_;refine bN (ax 18 (.load 3 (.tmp 17)) 13 true) rfl rfl trivial ?_;refine aG 19 13 true ?_;refine fT 20 16 19 ?_;refine aJ 2 20 ?_;exact ai.nil (dx _ _ _ (aH.refl _ _ _) rfl (by unfold iU;rw[decide_eq_true hA,decide_eq_true hB,decide_eq_false hC];rfl) (ei 19))
   refine aq [af 0,nn 1,af 2,af 3,af 4,nn 5,af 6,af 7,af 8,af 9,nn 10,af 11,af 12,af 13,af 14,nn 15,af 16,af 17,af 18] ?_;refine aL 3 32 1 0 0 ?_;refine cm 4 3 3 hx.at_ rfl rfl ?_;refine au (kq 5 (.binOp .geq 3 (.tmp 4) (.const (.int .i64 0)) 3)) (λ_=>eE (ga rfl rfl) hA) ?_;refine ah 6 5 ?_;refine bT 7 32 1 0 0 3 true ?_;refine cv 8 3 7 3 true hx.at_ ?_;refine au (ax 9 (.binOp .lss 3 (.tmp 8) (.const (.int .i64 4)) 3) 3 true) (λ_=>dN (dV rfl rfl) hB) ?_;refine eR 10 6 9 ?_;refine ah 11 10 ?_;refine aG 12 8 true ?_;refine bN (ax 13 (.load 3 (.tmp 12)) 8 true) rfl rfl trivial ?_;refine aG 14 8 true ?_;refine fT 15 11 14 ?_;refine ah 16 15 ?_;refine aG 17 13 true ?_;refine bN (ax 18 (.load 3 (.tmp 17)) 13 true) rfl rfl trivial ?_;refine aG 19 13 true ?_;refine fT 20 16 19 ?_;refine aJ 2 20 ?_;exact ai.nil (dx _ _ _ (aH.refl _ _ _) rfl (by unfold iU;rw[decide_eq_true hA,decide_eq_false hB];rfl) (ei 19))
  refine aq [af 0,nn 1,af 2,af 3,af 4,nn 5,af 6,af 7,af 8,af 9,nn 10,af 11,af 12,af 13,af 14,nn 15,af 16,af 17,af 18] ?_;refine aL 3 32 1 0 0 ?_;refine cm 4 3 3 hx.at_ rfl rfl ?_;refine au (kq 5 (.binOp .geq 3 (.tmp 4) (.const (.int .i64 0)) 3)) (λ_=>dN (ga rfl rfl) hA) ?_;refine ah 6 5 ?_;refine aG 7 3 true ?_;refine bN (ax 8 (.load 3 (.tmp 7)) 3 true) rfl rfl trivial ?_;refine aG 9 3 true ?_;refine fT 10 6 9 ?_;refine ah 11 10 ?_;refine aG 12 8 true ?_;refine bN (ax 13 (.load 3 (.tmp 12)) 8 true) rfl rfl trivial ?_;refine aG 14 8 true ?_;refine fT 15 11 14 ?_;refine ah 16 15 ?_;refine aG 17 13 true ?_;refine bN (ax 18 (.load 3 (.tmp 17)) 13 true) rfl rfl trivial ?_;refine aG 19 13 true ?_;refine fT 20 16 19 ?_;refine aJ 2 20 ?_;exact ai.nil (dx _ _ _ (aH.refl _ _ _) rfl (by unfold iU;rw[decide_eq_false hA];rfl) (ei 19))
 intro w2 s_2;refine cq Tryz.func47 Tryz.results47 ?_;replace hT:=(hT.t s_1).t s_2;exact⟨rfl,hT.bV (by decide)⟩
namespace LA
def c0:=dL Tryz.f76
end LA
theorem Gp {w₀:World} {C:Nat->Nat} {x y:dh} (hF:bA w₀ C):Calls Tryz.prog 76 #[.agg #[.int .i64 x.a,.int .i64 x.b],.agg #[.int .i64 y.a,.int .i64 y.b]] w₀ (bW λv w'=>v=.bool (decide (qP x y))/\aH [] w₀ C w' C):=by
 have bR:=hF;have hT:=z9 w₀ C;replace hF:=hF.bX;refine cM LA.c0 24 [.agg #[.int .i64 x.a,.int .i64 x.b],.agg #[.int .i64 y.a,.int .i64 y.b]] Tryz.func76 ?_;show Run _ _ _ _ [(0,.agg #[.int .i64 x.a,.int .i64 x.b]),(1,.agg #[.int .i64 y.a,.int .i64 y.b])] _ _;refine aj (aq [nn 0,nn 1,af 2] ?_);refine bD (kq 2 (.box 32 (.tmp 0))) rfl rfl (cW (cs:=[.int .i64 x.a,.int .i64 x.b]) hF 3 rfl rfl) ?_;rintro _ w1 ⟨d_,ct,rfl,s_1,hx,hF⟩;refine bD (kq 3 (.box 32 (.tmp 1))) rfl rfl (cW (cs:=[.int .i64 y.a,.int .i64 y.b]) hF 3 rfl rfl) ?_;rintro _ w2 ⟨fm,eM,rfl,s_2,hy,hF⟩;refine aO 4 (.bool false) (ai.nil ?_);refine kp (ak 2 (ak 3 (b6 _))) ?_;refine aj ?_;refine i_ 4 (decide (qP x y)) (fm) ?_ ?_
 ·
  intro dx;by_cases hA:x.a<y.a
  ·
   refine aq [af 0,nn 1,af 2,nn 3,af 4,af 5,af 6,nn 7,af 8,nn 9,af 10,af 11,af 12,nn 13,af 14,nn 15,af 16,af 17,af 18,af 19] ?_;refine aL 5 32 2 0 0 ?_;replace hx:=hx.t s_2;refine cm 6 3 5 hx.at_ rfl rfl ?_;refine aL 7 32 3 0 0 ?_;refine cm 8 3 7 hy.at_ rfl rfl ?_;refine au (kq 9 (.binOp .lss 3 (.tmp 6) (.tmp 8) 3)) (λ_=>eE (dV rfl rfl) hA) ?_;refine ah 10 9 ?_;refine aG 11 5 false ?_;refine bN (ax 12 (.load 3 (.tmp 11)) 5 false) rfl rfl trivial ?_;refine aG 13 5 false ?_;refine bN (ax 14 (.load 3 (.tmp 13)) 5 false) rfl rfl trivial ?_;refine aG 15 5 false (aG 16 5 false ?_);refine aG 17 11 true ?_;refine bN (ax 18 (.load 3 (.tmp 17)) 11 true) rfl rfl trivial ?_;refine aG 19 11 true ?_;refine bN (ax 20 (.load 3 (.tmp 19)) 11 true) rfl rfl trivial ?_;refine aG 21 11 true ?_;refine aG 22 5 false ?_;refine ef 23 10 22 ?_;refine aJ 4 23 ?_;exact ai.nil (dx _ _ _ (aH.refl _ _ _) rfl (by rw[decide_eq_true (show qP x y from Or.inl hA)]) (ei 20))
  by_cases hB:x.a=y.a
  ·
   refine aq [af 0,nn 1,af 2,nn 3,af 4,af 5,af 6,nn 7,af 8,nn 9,af 10,af 11,af 12,nn 13,af 14,nn 15,af 16,af 17,af 18,af 19] ?_;refine aL 5 32 2 0 0 ?_;replace hx:=hx.t s_2;refine cm 6 3 5 hx.at_ rfl rfl ?_;refine aL 7 32 3 0 0 ?_;refine cm 8 3 7 hy.at_ rfl rfl ?_;refine au (kq 9 (.binOp .lss 3 (.tmp 6) (.tmp 8) 3)) (λ_=>dN (dV rfl rfl) hA) ?_;refine ah 10 9 ?_;refine bT 11 32 2 0 0 5 false ?_;refine cv 12 3 11 5 false hx.at_ ?_;refine bT 13 32 3 0 0 5 false ?_;refine cv 14 3 13 5 false hy.at_ ?_;refine au (ax 15 (.binOp .eql 3 (.tmp 12) (.tmp 14) 3) 5 false) (λ_=>eE (gB rfl rfl) hB) ?_;refine dI 16 15 5 false ?_;refine bT 17 32 2 1 1 11 true ?_;refine cv 18 3 17 11 true hx.at_ ?_;refine bT 19 32 3 1 1 11 true ?_;refine cv 20 3 19 11 true hy.at_ ?_;refine au (ax 21 (.binOp .lss 3 (.tmp 18) (.tmp 20) 3) 11 true) (λ_=>dV rfl rfl) ?_;refine au (ax 22 (.pick (.tmp 16) (.tmp 21) (.const (.bool false))) 5 false) (λ_=>Cc rfl rfl) ?_;refine de 23 10 22 ?_;refine aJ 4 23 ?_;exact ai.nil (dx _ _ _ (aH.refl _ _ _) rfl (by congr 1;apply decide_eq_decide.2;unfold qP;omega) (ei 20))
  refine aq [af 0,nn 1,af 2,nn 3,af 4,af 5,af 6,nn 7,af 8,nn 9,af 10,af 11,af 12,nn 13,af 14,nn 15,af 16,af 17,af 18,af 19] ?_;refine aL 5 32 2 0 0 ?_;replace hx:=hx.t s_2;refine cm 6 3 5 hx.at_ rfl rfl ?_;refine aL 7 32 3 0 0 ?_;refine cm 8 3 7 hy.at_ rfl rfl ?_;refine au (kq 9 (.binOp .lss 3 (.tmp 6) (.tmp 8) 3)) (λ_=>dN (dV rfl rfl) hA) ?_;refine ah 10 9 ?_;refine bT 11 32 2 0 0 5 false ?_;refine cv 12 3 11 5 false hx.at_ ?_;refine bT 13 32 3 0 0 5 false ?_;refine cv 14 3 13 5 false hy.at_ ?_;refine au (ax 15 (.binOp .eql 3 (.tmp 12) (.tmp 14) 3) 5 false) (λ_=>dN (gB rfl rfl) hB) ?_;refine dI 16 15 5 false ?_;refine aG 17 11 true ?_;refine bN (ax 18 (.load 3 (.tmp 17)) 11 true) rfl rfl trivial ?_;refine aG 19 11 true ?_;refine bN (ax 20 (.load 3 (.tmp 19)) 11 true) rfl rfl trivial ?_;refine aG 21 11 true ?_;refine au (ax 22 (.pick (.tmp 16) (.tmp 21) (.const (.bool false))) 5 false) (λ_=>An rfl rfl) ?_;refine de 23 10 22 ?_;refine aJ 4 23 ?_;exact ai.nil (dx _ _ _ (aH.refl _ _ _) rfl (by rw[decide_eq_false (show¬qP x y from by unfold qP;omega)]) (ei 20))
 intro w3 ay;refine cq Tryz.func76 Tryz.results76 ?_;replace hT:=((hT.t s_1).t s_2).t ay;exact⟨rfl,hT.bV (by decide)⟩
namespace LB
def c0:=dL Tryz.f82
end LB
theorem Sz {w₀:World} {C:Nat->Nat} {x y:dh} (hF:bA w₀ C):Calls Tryz.prog 82 #[.agg #[.int .i64 x.a,.int .i64 x.b],.agg #[.int .i64 y.a,.int .i64 y.b]] w₀ (bW λv w'=>v=.bool (iO x y)/\aH [] w₀ C w' C):=by
 have bR:=hF;have hT:=z9 w₀ C;replace hF:=hF.bX;refine cM LB.c0 18 [.agg #[.int .i64 x.a,.int .i64 x.b],.agg #[.int .i64 y.a,.int .i64 y.b]] Tryz.func82 ?_;show Run _ _ _ _ [(0,.agg #[.int .i64 x.a,.int .i64 x.b]),(1,.agg #[.int .i64 y.a,.int .i64 y.b])] _ _;refine aj (aq [nn 0,nn 1,af 2] ?_);refine bD (kq 2 (.box 32 (.tmp 0))) rfl rfl (cW (cs:=dU x) hF 3 rfl rfl) ?_;rintro _ w1 ⟨d_,ct,rfl,s_1,hx,hF⟩;refine bD (kq 3 (.box 32 (.tmp 1))) rfl rfl (cW (cs:=dU y) hF 3 rfl rfl) ?_;rintro _ w2 ⟨fm,eM,rfl,s_2,hy,hF⟩;refine aO 4 (.bool false) (ai.nil ?_);refine kp (ak 2 (ak 3 (b6 _))) ?_;refine aj ?_;refine i_ 4 (iO x y) (fm) ?_ ?_
 ·
  intro dx;by_cases hA:iU x=true
  ·
   by_cases hB:iU y=true
   ·
    refine aq [nn 0,nn 1,af 2,nn 3,nn 4,af 5,af 6,af 7,nn 8,af 9,nn 10,af 11,af 12,af 13] ?_;have hcs:=aH.gC hF;replace hx:=hx.t s_2;refine bI 5 32 2 2 (dU x) hx.at_ ?_;refine cE 6 47 [5] [32] Tryz.call47 rfl (qb hF) ?_;rintro mP w3 ⟨rfl,ay⟩;rw[hA];refine ah 7 6 ?_;replace hy:=hy.t ay;refine jg 8 32 3 2 true 2 (dU y) hy.at_ ?_;replace hF:=hF.st ay;refine dS (ax 9 (.call {callee:=.value (.func 47),args:=#[(.tmp 8)],argTypes:=#[32]}) 2 true) rfl rfl (dn Tryz.call47 rfl) (qb hF) ?_;rintro ng w4 ⟨rfl,aC⟩;rw[hB];refine eR 10 7 9 ?_;refine ah 11 10 ?_;refine bT 12 32 2 0 0 6 true ?_;replace hx:=(hx.t ay).t aC;refine cv 13 3 12 6 true hx.at_ ?_;refine bT 14 32 3 0 0 6 true ?_;replace hy:=hy.t aC;refine cv 15 3 14 6 true hy.at_ ?_;refine au (ax 16 (.binOp .lss 3 (.tmp 13) (.tmp 15) 3) 6 true) (λ_=>dV rfl rfl) ?_;refine eR 17 11 16 ?_;refine aJ 4 17 ?_;replace hcs:=(hcs.t ay).t aC;exact ai.nil (dx _ _ _ hcs rfl (by unfold iO;rw[hA,hB];rfl) (ei 14))
   refine aq [nn 0,nn 1,af 2,nn 3,nn 4,af 5,af 6,af 7,nn 8,af 9,nn 10,af 11,af 12,af 13] ?_;have hcs:=aH.gC hF;replace hx:=hx.t s_2;refine bI 5 32 2 2 (dU x) hx.at_ ?_;refine cE 6 47 [5] [32] Tryz.call47 rfl (qb hF) ?_;rintro nJ fQ ⟨rfl,aB⟩;rw[hA];refine ah 7 6 ?_;replace hy:=hy.t aB;refine jg 8 32 3 2 true 2 (dU y) hy.at_ ?_;replace hF:=hF.st aB;refine dS (ax 9 (.call {callee:=.value (.func 47),args:=#[(.tmp 8)],argTypes:=#[32]}) 2 true) rfl rfl (dn Tryz.call47 rfl) (qb hF) ?_;rintro mw gx ⟨rfl,aD⟩;rw[Bool.eq_false_iff.2 hB];refine eR 10 7 9 ?_;refine ah 11 10 ?_;refine aG 12 6 true ?_;refine bN (ax 13 (.load 3 (.tmp 12)) 6 true) rfl rfl trivial ?_;refine aG 14 6 true ?_;refine bN (ax 15 (.load 3 (.tmp 14)) 6 true) rfl rfl trivial ?_;refine aG 16 6 true ?_;refine fT 17 11 16 ?_;refine aJ 4 17 ?_;replace hcs:=(hcs.t aB).t aD;exact ai.nil (dx _ _ _ hcs rfl (by unfold iO;rw[hA,Bool.eq_false_iff.2 hB];simp) (ei 14))
  refine aq [nn 0,nn 1,af 2,nn 3,nn 4,af 5,af 6,af 7,nn 8,af 9,nn 10,af 11,af 12,af 13] ?_;have hcs:=aH.gC hF;replace hx:=hx.t s_2;refine bI 5 32 2 2 (dU x) hx.at_ ?_;refine cE 6 47 [5] [32] Tryz.call47 rfl (qb hF) ?_;rintro ox w7 ⟨rfl,bp⟩;rw[Bool.eq_false_iff.2 hA];refine ah 7 6 ?_;refine bN (ax 8 (.load 32 (.tmp 3)) 2 true) rfl rfl trivial ?_;refine bN (ax 9 (.call {callee:=.value (.func 47),args:=#[(.tmp 8)],argTypes:=#[32]}) 2 true) rfl rfl trivial ?_;refine fT 10 7 9 ?_;refine ah 11 10 ?_;refine aG 12 6 true ?_;refine bN (ax 13 (.load 3 (.tmp 12)) 6 true) rfl rfl trivial ?_;refine aG 14 6 true ?_;refine bN (ax 15 (.load 3 (.tmp 14)) 6 true) rfl rfl trivial ?_;refine aG 16 6 true ?_;refine fT 17 11 16 ?_;refine aJ 4 17 ?_;replace hcs:=hcs.t bp;exact ai.nil (dx _ _ _ hcs rfl (by unfold iO;rw[Bool.eq_false_iff.2 hA];simp) (ei 14))
 intro h_ bh;refine cq Tryz.func82 Tryz.results82 ?_;replace hT:=((hT.t s_1).t s_2).t bh;exact⟨rfl,hT.bV (by decide)⟩
namespace LC
def c0:=dL Tryz.f83
end LC
theorem Gq (x:Int) (w:World):Calls Tryz.prog 83 #[.int .i64 x] w (bW λv w'=>v=.bool (fV x)/\w'=w):=by
 refine cM LC.c0 9 [.int .i64 x] Tryz.func83 ?_;show Run _ _ _ _ [(0,.int .i64 x)] _ _;refine aj (aq [af 0] ?_);refine aO 2 (.bool false) (ai.nil (aj ?_));by_cases hA:1<=x
 ·
  refine aq [af 0,af 1,af 2,af 3,af 4,af 5,af 6] ?_;refine ah 3 0 ?_;refine au (kq 4 (.binOp .geq 3 (.tmp 3) (.const (.int .i64 1)) 3)) (λ_=>eE (ga rfl rfl) hA) ?_;refine ah 5 4 ?_;refine dI 6 0 2 true ?_;refine au (ax 7 (.binOp .leq 3 (.tmp 6) (.const (.int .i64 1048576)) 3) 2 true) (λ_=>qE rfl rfl) ?_;refine eR 8 5 7 ?_;refine aJ 2 8 (ai.nil ?_);refine cq Tryz.func83 Tryz.results83 ?_;exact⟨by unfold fV;congr 1;apply decide_eq_decide.2;omega,rfl⟩
 refine aq [af 0,af 1,af 2,af 3,af 4,af 5,af 6] ?_;refine ah 3 0 ?_;refine au (kq 4 (.binOp .geq 3 (.tmp 3) (.const (.int .i64 1)) 3)) (λ_=>dN (ga rfl rfl) hA) ?_;refine ah 5 4 ?_;refine aG 6 2 true (aG 7 2 true ?_);refine fT 8 5 7 ?_;refine aJ 2 8 (ai.nil ?_);refine cq Tryz.func83 Tryz.results83 ?_;exact⟨by unfold fV;rw[decide_eq_false (λe=>hA e.1)],rfl⟩
namespace LD
def c0:=dL Tryz.f105
end LD
theorem SA {w₀:World} {C:Nat->Nat} {a b c d:dh} (hF:bA w₀ C):Calls Tryz.prog 105 #[.agg #[.int .i64 a.a,.int .i64 a.b],.agg #[.int .i64 b.a,.int .i64 b.b],.agg #[.int .i64 c.a,.int .i64 c.b],.agg #[.int .i64 d.a,.int .i64 d.b]] w₀ (bW λv w'=>v=.int .i64 (tq a b c d)/\aH [] w₀ C w' C):=by
 have bR:=hF;have hT:=z9 w₀ C;replace hF:=hF.bX;refine cM LD.c0 21 [.agg #[.int .i64 a.a,.int .i64 a.b],.agg #[.int .i64 b.a,.int .i64 b.b],.agg #[.int .i64 c.a,.int .i64 c.b],.agg #[.int .i64 d.a,.int .i64 d.b]] Tryz.func105 ?_;show Run _ _ _ _ [(0,.agg #[.int .i64 a.a,.int .i64 a.b]),(1,.agg #[.int .i64 b.a,.int .i64 b.b]),(2,.agg #[.int .i64 c.a,.int .i64 c.b]),(3,.agg #[.int .i64 d.a,.int .i64 d.b])] _ _;refine aj (aq [nn 0,nn 1,nn 2,nn 3,af 4] ?_);refine bD (kq 4 (.box 32 (.tmp 0))) rfl rfl (cW (cs:=dU a) hF 3 rfl rfl) ?_;rintro _ w1 ⟨d_,ct,rfl,s_1,ha,hF⟩;refine bD (kq 5 (.box 32 (.tmp 1))) rfl rfl (cW (cs:=dU b) hF 3 rfl rfl) ?_;rintro _ w2 ⟨fm,eM,rfl,s_2,hb,hF⟩;refine bD (kq 6 (.box 32 (.tmp 2))) rfl rfl (cW (cs:=dU c) hF 3 rfl rfl) ?_;rintro _ w3 ⟨nh,gG,rfl,ay,hc,hF⟩;refine bD (kq 7 (.box 32 (.tmp 3))) rfl rfl (cW (cs:=dU d) hF 3 rfl rfl) ?_;rintro _ w4 ⟨iG,gD,rfl,aC,hd,hF⟩;refine aO 8 (.int .i64 0) (ai.nil (aj (aj (aq [nn 0,nn 1,af 2] ?_))));replace ha:=((ha.t s_2).t ay).t aC;refine bI 9 32 4 2 (dU a) ha.at_ ?_;replace hc:=hc.t aC;refine bI 10 32 6 2 (dU c) hc.at_ ?_;refine au (kq 11 (.binOp .neq 32 (.tmp 9) (.tmp 10) 32)) (λ_=>IC (a:=_) (b:=_) Tryz.underlying32 (by decide) (by decide) (by kernel_rfl) Tryz.underlying3 rfl rfl) ?_;refine ai.nil ?_;refine cV 11 rfl (λvN=>?_) (λvN=>?_)
 ·
  refine aj (aj (aq [nn 0,nn 1,nn 2] ?_));refine bI 12 32 4 2 (dU a) ha.at_ ?_;refine bI 13 32 6 2 (dU c) hc.at_ ?_;refine cE 14 76 [12,13] [32,32] Tryz.call76 rfl (Gp (x:=a) (y:=c) hF) ?_;rintro nJ fQ ⟨rfl,aB⟩;refine ai.nil ?_;refine cV 14 rfl (λiu=>?_) (λiu=>?_)
  ·
   refine aj (aq [af 0] ?_);refine au (kq 8 (.assign (.const (.int .i64 (-1))))) (λ_=>sx rfl) ?_;refine ai.nil ?_;refine cq Tryz.func105 Tryz.results105 ?_;replace hT:=((((hT.t s_1).t s_2).t ay).t aC).t aB;exact⟨by unfold tq;rw[uh,tK a c,tK b d];rw[if_neg vN,if_pos iu];rfl,hT.bV (by decide)⟩
  refine bK (aj (aq [af 0] ?_));refine aO 8 (.int .i64 1) (ai.nil ?_);refine cq Tryz.func105 Tryz.results105 ?_;replace hT:=((((hT.t s_1).t s_2).t ay).t aC).t aB;exact⟨by unfold tq;rw[uh,tK a c,tK b d];rw[if_neg vN,if_neg iu];rfl,hT.bV (by decide)⟩
 refine bK (aj (aj (aq [nn 0,nn 1,af 2] ?_)));replace hb:=(hb.t ay).t aC;refine bI 15 32 5 2 (dU b) hb.at_ ?_;refine bI 16 32 7 2 (dU d) hd.at_ ?_;refine au (kq 17 (.binOp .eql 32 (.tmp 15) (.tmp 16) 32)) (λ_=>wJ (a:=_) (b:=_) Tryz.underlying32 (by decide) (by decide) (by kernel_rfl) Tryz.underlying3 rfl rfl) ?_;refine ai.nil ?_;refine cV 17 rfl (λpH=>?_) (λpH=>?_)
 ·
  refine aj (aq [af 0] ?_);refine aO 8 (.int .i64 0) (ai.nil ?_);refine cq Tryz.func105 Tryz.results105 ?_;replace hT:=(((hT.t s_1).t s_2).t ay).t aC;exact⟨by unfold tq;rw[uh,tK a c,tK b d];rw[if_pos (Classical.not_not.1 vN),if_pos pH];rfl,hT.bV (by decide)⟩
 refine bK (aj (aj (aq [nn 0,nn 1,nn 2] ?_)));refine bI 18 32 5 2 (dU b) hb.at_ ?_;refine bI 19 32 7 2 (dU d) hd.at_ ?_;refine cE 20 76 [18,19] [32,32] Tryz.call76 rfl (Gp (x:=b) (y:=d) hF) ?_;rintro mw gx ⟨rfl,aD⟩;refine ai.nil ?_;refine cV 20 rfl (λjt=>?_) (λjt=>?_)
 ·
  refine aj (aq [af 0] ?_);refine au (kq 8 (.assign (.const (.int .i64 (-1))))) (λ_=>sx rfl) ?_;refine ai.nil ?_;refine cq Tryz.func105 Tryz.results105 ?_;replace hT:=((((hT.t s_1).t s_2).t ay).t aC).t aD;exact⟨by unfold tq;rw[uh,tK a c,tK b d];rw[if_pos (Classical.not_not.1 vN),if_neg pH,if_pos jt];rfl,hT.bV (by decide)⟩
 refine bK (aj (aq [af 0] ?_));refine aO 8 (.int .i64 1) (ai.nil ?_);refine cq Tryz.func105 Tryz.results105 ?_;replace hT:=((((hT.t s_1).t s_2).t ay).t aC).t aD;exact⟨by unfold tq;rw[uh,tK a c,tK b d];rw[if_pos (Classical.not_not.1 vN),if_neg pH,if_neg jt];rfl,hT.bV (by decide)⟩
namespace LG
def c0:=dL Tryz.f71
end LG
theorem Gs {w₀:World} {C:Nat->Nat} {x y:bP} (hF:bA w₀ C):Calls Tryz.prog 71 #[.agg (fk x).toArray,.agg (fk y).toArray] w₀ (bW λv w'=>v=.int .i64 (fZ x y)/\aH [] w₀ C w' C):=by
 have bR:=hF;have hT:=z9 w₀ C;replace hF:=hF.bX;refine cM LG.c0 38 [.agg (fk x).toArray,.agg (fk y).toArray] Tryz.func71 ?_;show Run _ _ _ _ [(0,.agg (fk x).toArray),(1,.agg (fk y).toArray)] _ _;refine aj (aq [nn 0,nn 1,af 2] ?_);refine bD (kq 2 (.box 75 (.tmp 0))) rfl rfl (cW (cs:=fk x) hF 3 rfl rfl) ?_;rintro _ w1 ⟨d_,ct,rfl,s_1,hx,hF⟩;refine bD (kq 3 (.box 75 (.tmp 1))) rfl rfl (cW (cs:=fk y) hF 3 rfl rfl) ?_;rintro _ w2 ⟨fm,eM,rfl,s_2,hy,hF⟩;refine aO 4 (.int .i64 0) (ai.nil (aj (aj (aq [af 0,nn 1,af 2,nn 3,af 4,nn 5,af 6,nn 7,nn 8,af 9] ?_))));refine aL 6 75 2 0 0 ?_;replace hx:=hx.t s_2;refine bI 7 32 6 2 (dU x.A) hx.at_ ?_;refine aL 8 75 2 1 2 ?_;refine bI 9 32 8 2 (dU x.B) hx.at_ ?_;refine aL 10 75 3 0 0 ?_;refine bI 11 32 10 2 (dU y.A) hy.at_ ?_;refine aL 12 75 3 1 2 ?_;refine bI 13 32 12 2 (dU y.B) hy.at_ ?_;refine cE 14 105 [7,9,11,13] [32,32,32,32] Tryz.call105 rfl (SA (a:=x.A) (b:=x.B) (c:=y.A) (d:=y.B) hF) ?_;rintro mP w3 ⟨rfl,ay⟩;refine aJ 5 14 (ai.nil (aj (aq [af 0,af 1] ?_)));refine ah 15 5 ?_;refine au (kq 16 (.binOp .neq 3 (.tmp 15) (.const (.int .i64 0)) 3)) (λ_=>fc rfl rfl) ?_;refine ai.nil ?_;refine cV 16 rfl (λjr=>?_) (λjr=>?_)
 ·
  refine aj (aq [af 0,af 1] ?_);refine ah 17 5 (aJ 4 17 (ai.nil ?_));refine cq Tryz.func71 Tryz.results71 ?_;replace hT:=((hT.t s_1).t s_2).t ay;exact⟨by unfold fZ;rw[ue,r9 x.aI y.aI,r9 x.ek y.ek];rw[if_pos jr],hT.bV (by decide)⟩
 refine bK (aj (aj (aq [af 0,nn 1,af 2,nn 3,af 4] ?_)));refine aL 18 75 2 2 4 ?_;replace hx:=hx.t ay;refine cm 19 3 18 hx.at_ rfl rfl ?_;refine aL 20 75 3 2 4 ?_;replace hy:=hy.t ay;refine cm 21 3 20 hy.at_ rfl rfl ?_;refine au (kq 22 (.binOp .neq 3 (.tmp 19) (.tmp 21) 3)) (λ_=>fc rfl rfl) ?_;refine ai.nil ?_;refine cV 22 rfl (λfK=>?_) (λfK=>?_)
 ·
  refine aj (aj (aq [af 0,nn 1,af 2,nn 3,af 4] ?_));refine aL 23 75 2 2 4 ?_;refine cm 24 3 23 hx.at_ rfl rfl ?_;refine aL 25 75 3 2 4 ?_;refine cm 26 3 25 hy.at_ rfl rfl ?_;refine fM 27 3 24 26 (ai.nil ?_);refine cV 27 rfl (λgq=>?_) (λgq=>?_)
  ·
   refine aj (aq [af 0] ?_);refine au (kq 4 (.assign (.const (.int .i64 (-1))))) (λ_=>sx rfl) ?_;refine ai.nil ?_;refine cq Tryz.func71 Tryz.results71 ?_;replace hT:=((hT.t s_1).t s_2).t ay;exact⟨by unfold fZ;rw[ue,r9 x.aI y.aI,r9 x.ek y.ek];rw[if_neg jr,if_neg fK,if_pos gq];rfl,hT.bV (by decide)⟩
  refine bK (aj (aq [af 0] ?_));refine aO 4 (.int .i64 1) (ai.nil ?_);refine cq Tryz.func71 Tryz.results71 ?_;replace hT:=((hT.t s_1).t s_2).t ay;exact⟨by unfold fZ;rw[ue,r9 x.aI y.aI,r9 x.ek y.ek];rw[if_neg jr,if_neg fK,if_neg gq];rfl,hT.bV (by decide)⟩
 refine bK (aj (aj (aq [af 0,nn 1,af 2,nn 3,af 4] ?_)));refine aL 28 75 2 3 5 ?_;refine cm 29 3 28 hx.at_ rfl rfl ?_;refine aL 30 75 3 3 5 ?_;refine cm 31 3 30 hy.at_ rfl rfl ?_;refine au (kq 32 (.binOp .neq 3 (.tmp 29) (.tmp 31) 3)) (λ_=>fc rfl rfl) ?_;refine ai.nil ?_;refine cV 32 rfl (λgI=>?_) (λgI=>?_)
 ·
  refine aj (aj (aq [af 0,nn 1,af 2,nn 3,af 4] ?_));refine aL 33 75 2 3 5 ?_;refine cm 34 3 33 hx.at_ rfl rfl ?_;refine aL 35 75 3 3 5 ?_;refine cm 36 3 35 hy.at_ rfl rfl ?_;refine fM 37 3 34 36 (ai.nil ?_);refine cV 37 rfl (λy8=>?_) (λy8=>?_)
  ·
   refine aj (aq [af 0] ?_);refine au (kq 4 (.assign (.const (.int .i64 (-1))))) (λ_=>sx rfl) ?_;refine ai.nil ?_;refine cq Tryz.func71 Tryz.results71 ?_;replace hT:=((hT.t s_1).t s_2).t ay;exact⟨by unfold fZ;rw[ue,r9 x.aI y.aI,r9 x.ek y.ek];rw[if_neg jr,if_pos (Classical.not_not.1 fK),if_neg gI,if_pos y8];rfl,hT.bV (by decide)⟩
  refine bK (aj (aq [af 0] ?_));refine aO 4 (.int .i64 1) (ai.nil ?_);refine cq Tryz.func71 Tryz.results71 ?_;replace hT:=((hT.t s_1).t s_2).t ay;exact⟨by unfold fZ;rw[ue,r9 x.aI y.aI,r9 x.ek y.ek];rw[if_neg jr,if_pos (Classical.not_not.1 fK),if_neg gI,if_neg y8];rfl,hT.bV (by decide)⟩
 refine bK (aj (aq [af 0] ?_));refine aO 4 (.int .i64 0) (ai.nil ?_);refine cq Tryz.func71 Tryz.results71 ?_;replace hT:=((hT.t s_1).t s_2).t ay;exact⟨by unfold fZ;rw[ue,r9 x.aI y.aI,r9 x.ek y.ek];rw[if_neg jr,if_pos (Classical.not_not.1 fK),if_pos (Classical.not_not.1 gI)];rfl,hT.bV (by decide)⟩
namespace LH
def c0:=dL Tryz.f40
end LH
theorem Dy {w₀:World} {C:Nat->Nat} {x y:bZ} (hF:bA w₀ C):Calls Tryz.prog 40 #[.agg (fP x).toArray,.agg (fP y).toArray] w₀ (bW λv w'=>v=.bool (decide (iF x y<0))/\aH [] w₀ C w' C):=by
 have bR:=hF;have hT:=z9 w₀ C;replace hF:=hF.bX;refine cM LH.c0 30 [.agg (fP x).toArray,.agg (fP y).toArray] Tryz.func40 ?_;show Run _ _ _ _ [(0,.agg (fP x).toArray),(1,.agg (fP y).toArray)] _ _;refine aj (aq [nn 0,nn 1,af 2] ?_);refine bD (kq 2 (.box 50 (.tmp 0))) rfl rfl (cW (cs:=fP x) hF 3 rfl rfl) ?_;rintro _ w1 ⟨d_,ct,rfl,s_1,hx,hF⟩;refine bD (kq 3 (.box 50 (.tmp 1))) rfl rfl (cW (cs:=fP y) hF 3 rfl rfl) ?_;rintro _ w2 ⟨fm,eM,rfl,s_2,hy,hF⟩;refine aO 4 (.bool false) (ai.nil (aj (aj (aq [af 0,nn 1,af 2,nn 3,af 4] ?_))));refine aL 5 50 2 0 0 ?_;replace hx:=hx.t s_2;refine bI 6 32 5 2 (dU x.r) hx.at_ ?_;refine aL 7 50 3 0 0 ?_;refine bI 8 32 7 2 (dU y.r) hy.at_ ?_;refine au (kq 9 (.binOp .neq 32 (.tmp 6) (.tmp 8) 32)) (λ_=>IC (a:=_) (b:=_) Tryz.underlying32 (by decide) (by decide) (by kernel_rfl) Tryz.underlying3 rfl rfl) ?_;refine ai.nil ?_;refine cV 9 rfl (λiI=>?_) (λiI=>?_)
 ·
  refine aj (aq [af 0,nn 1,af 2,nn 3,nn 4,af 5] ?_);refine aL 10 50 2 0 0 ?_;refine bI 11 32 10 2 (dU x.r) hx.at_ ?_;refine aL 12 50 3 0 0 ?_;refine bI 13 32 12 2 (dU y.r) hy.at_ ?_;refine cE 14 76 [11,13] [32,32] Tryz.call76 rfl (Gp (x:=x.r) (y:=y.r) hF) ?_;rintro mP w3 ⟨rfl,ay⟩;refine aJ 4 14 (ai.nil ?_);refine cq Tryz.func40 Tryz.results40 ?_;replace hT:=((hT.t s_1).t s_2).t ay;exact⟨by congr 1;apply decide_eq_decide.2;rw[pT];have hne:¬(x.r.a=y.r.a/\x.r.b=y.r.b):=λe=>iI (IG e.1 e.2);unfold qP ow;omega,hT.bV (by decide)⟩
 refine bK (aj (aj (aq [af 0,nn 1,af 2,nn 3,af 4] ?_)));refine aL 15 50 2 1 2 ?_;refine cm 16 3 15 hx.at_ rfl rfl ?_;refine aL 17 50 3 1 2 ?_;refine cm 18 3 17 hy.at_ rfl rfl ?_;refine au (kq 19 (.binOp .neq 3 (.tmp 16) (.tmp 18) 3)) (λ_=>fc rfl rfl) ?_;refine ai.nil ?_;refine cV 19 rfl (λn_=>?_) (λn_=>?_)
 ·
  refine aj (aq [af 0,nn 1,af 2,nn 3,af 4,af 5] ?_);refine aL 20 50 2 1 2 ?_;refine cm 21 3 20 hx.at_ rfl rfl ?_;refine aL 22 50 3 1 2 ?_;refine cm 23 3 22 hy.at_ rfl rfl ?_;refine fM 24 3 21 23 (aJ 4 24 (ai.nil ?_));refine cq Tryz.func40 Tryz.results40 ?_;replace hT:=(hT.t s_1).t s_2;exact⟨by congr 1;apply decide_eq_decide.2;rw[pT];have e:=Classical.not_not.1 iI;unfold ow;rw[e];omega,hT.bV (by decide)⟩
 refine bK (aj (aq [af 0,nn 1,af 2,nn 3,af 4,af 5] ?_));refine aL 25 50 2 2 3 ?_;refine cm 26 3 25 hx.at_ rfl rfl ?_;refine aL 27 50 3 2 3 ?_;refine cm 28 3 27 hy.at_ rfl rfl ?_;refine fM 29 3 26 28 (aJ 4 29 (ai.nil ?_));refine cq Tryz.func40 Tryz.results40 ?_;replace hT:=(hT.t s_1).t s_2;exact⟨by congr 1;apply decide_eq_decide.2;rw[pT];have e:=Classical.not_not.1 iI;have e2:=Classical.not_not.1 n_;unfold ow;rw[e,e2];omega,hT.bV (by decide)⟩
end
end Go.Proofs.YtionghonhnedgaaGreat
set_option linter.unusedVariables false
set_option linter.unusedSimpArgs false
set_option maxRecDepth 100000
set_option maxHeartbeats 4000000
namespace Go.Proofs.YtionghonhnedgaaGreat
open Go.K Go.K.bF
noncomputable section
namespace Dz
def c0:=dL Tryz.f46
def tN:=(cl (aZ (cl (aZ (aZ c0)))))
def Ft:=(cl (cl (aZ (aZ (cl tN)))))
def SB:=(aZ (aZ (aZ (cl (aZ Ft)))))
def uj:=fG (cl (aZ SB))
end Dz
theorem SC {w₀:World} {C:Nat->Nat} {l:List bP} {dH:Value} (hF:bA w₀ C) (hl:aF w₀ (aA C) l dH):Calls Tryz.prog 46 #[dH] w₀ (bW λv w'=>v=.int .i64 (oJ l)/\aH [] w₀ C w' C):=by
 have bR:=hF;have hT:=z9 w₀ C;replace hF:=hF.bX;replace hl:=hl.c1;refine cM Dz.c0 47 [dH] Tryz.func46 ?_;show Run _ _ _ _ [(0,dH)] _ _;refine aj (aq [af 0] ?_);refine aO 2 (.int .i64 0) (ai.nil (aj (aj (aq [af 0,af 1,af 2] ?_))));refine ah 5 0 ?_;refine zE 6 5 24 (hl.cz rfl Tryz.underlying24) ?_;refine au (kq 7 (.binOp .gtr 3 (.tmp 6) (.const (.int .i64 4096)) 3)) (λ_=>eL rfl rfl) ?_;refine ai.nil ?_;refine cV 7 rfl (λh7=>?_) (λh7=>?_)
 ·
  refine aj (aq [af 0] ?_);refine aO 2 (.int .i64 1) (ai.nil ?_);refine cq Tryz.func46 Tryz.results46 ?_;exact⟨congrArg (Value.int .i64) (by unfold oJ;rw[if_pos (by omega)]),hT.bV (by decide)⟩
 have hlim:¬4096<l.length:=by omega
 refine bK (aj (aj (aq [af 0,af 1,af 2] ?_)));refine ah 8 0 ?_;refine zE 9 8 24 (hl.cz rfl Tryz.underlying24) ?_;refine mN 10 (.int .i64 0) ?_;refine ai.nil (dm 0 ?_);refine fD (ι:=Nat×(Nat->Nat)) (I:=λx w=>x.1<=l.length/\(∀k,k<x.1->rq l k=0)/\bA w x.2/\aH [2,3,4,5,6,7,8,9] w₀ (bX C) w x.2/\aF w (aA x.2) l dH) (e:=λx=>[(0,dH),(8,dH),(9,.int .i64 l.length),(10,.int .i64 x.1)]) (m:=λx=>l.length-x.1) (eZ:=(0,bX C)) (ak 0 (ak 8 (ak 9 (ak 10 (b6 _))))) ?_ ?_
 · exact⟨Nat.zero_le _,λk hk=>by first|omega|(simp only at hk;omega),hF,hT,hl⟩
 intro⟨i,cO⟩ w1 hI dW;obtain⟨hi,h0,hF,hT,hl⟩:=hI;try simp only at hi h0 hF hT hl
 show Run _ _ _ _ [(0,dH),(8,dH),(9,.int .i64 l.length),(10,.int .i64 i)] _ _;have hle:=hl.le;refine aj (aq [af 0] ?_);refine fM 11 3 10 9 (ai.nil (aj ?_));refine cV 11 rfl (λvN=>?_) (λvN=>?_)
 ·
  have hil:i<l.length:=by omega
  refine bK (aj (dm 1 (aj (aq [af 0,af 1,nn 2,nn 3,af 4,nn 5] ?_))));refine ah 12 10 ?_;refine eX 75 13 24 8 10 hl rfl (h:=?_);intro CU rP oy;try simp only[b_] at oy
  refine sF (kq 14 (.load 75 (.tmp 13))) rfl rfl trivial oy (by kernel_rfl) (by kernel_rfl) rfl rfl ?_;intro CV g14;obtain rfl:=nI.1 g14;refine bD (kq 4 (.alloc 75)) rfl rfl (eO (cs:=[.int .i64 0,.int .i64 0,.int .i64 0,.int .i64 0,.int .i64 0,.int .i64 0,.bool false]) hF 4 (by kernel_rfl)) ?_;rintro _ w2 ⟨fm,eM,rfl,s_1,hx,hF⟩;refine aJ 3 12 ?_;refine dD (k0 (.store 75 (.tmp 4) (.tmp 14))) rfl (dP (vs:=fk ((l[i]'hil))) (n:=7) rfl rfl (by kernel_rfl) rfl rfl (iq rfl) hx rfl) ?_;rintro _ w3 ⟨rfl,s_2,hx⟩;refine ai.nil (dm 2 (aj (aq [af 0,nn 1,af 2,nn 3,nn 4,af 5,af 6] ?_)));refine aL 16 75 4 0 0 ?_;refine bI 17 32 16 2 (dU (l[i]'hil).A) hx.at_ ?_;refine aL 18 75 4 1 2 ?_;refine bI 19 32 18 2 (dU (l[i]'hil).B) hx.at_ ?_;replace hF:=hF.st s_2;refine cE 20 80 [17,19] [32,32] Tryz.call80 rfl (C6 (x:=(l[i]'hil).A) (y:=(l[i]'hil).B) hF) ?_;rintro ng w4 ⟨rfl,ay⟩;refine au (kq 21 (.unOp .not 4 (.tmp 20))) (λ_=>eC rfl) ?_;refine aJ 15 21 (ai.nil ?_);refine iT 15 rfl (λsR=>?_) (λsR=>?_)
  ·
   have hc:iO (l[i]'hil).A (l[i]'hil).B=false:=by simpa using sR
   refine aj (aq [af 0] ?_);refine aO 2 (.int .i64 41) (ai.nil ?_);refine cq Tryz.func46 Tryz.results46 ?_;replace hT:=((hT.t s_1).t s_2).t ay;exact⟨congrArg (Value.int .i64) (by unfold oJ;rw[if_neg hlim,vG h0 hil (KI hil hc) (by decide)]),hT.bV (by decide)⟩
  have hc:iO (l[i]'hil).A (l[i]'hil).B=true:=by simpa using sR
  refine aj ?_;refine i_ 22 (!(fV (l[i]'hil).aI&&fV (l[i]'hil).ek)) (fm) ?_ ?_
  ·
   intro dx;by_cases hA:fV (l[i]'hil).aI=true
   ·
    refine aq [af 0,nn 1,nn 2,af 3,af 4,af 5,nn 6,nn 7,af 8,af 9,af 10] ?_;replace hF:=hF.st ay;have hcs:=aH.gC hF;refine aL 23 75 4 2 4 ?_;replace hx:=hx.t ay;refine cm 24 3 23 hx.at_ rfl rfl ?_;refine cE 25 81 [24] [3] Tryz.call81 rfl (FF _ _) ?_;rintro nJ fQ ⟨rfl,rfl⟩;rw[hA];refine au (kq 26 (.unOp .not 4 (.tmp 25))) (λ_=>eC rfl) ?_;refine ah 27 26 ?_;refine bT 28 75 4 3 5 4 false ?_;refine cv 29 3 28 4 false hx.at_ ?_;refine dS (ax 30 (.call {callee:=.value (.func 81),args:=#[(.tmp 29)],argTypes:=#[3]}) 4 false) rfl rfl (dn Tryz.call81 rfl) (FF _ _) ?_;rintro mw gx ⟨rfl,rfl⟩;refine au (ax 31 (.unOp .not 4 (.tmp 30)) 4 false) (λ_=>eC rfl) ?_;refine de 32 27 31 ?_;refine aJ 22 32 ?_;exact ai.nil (dx _ _ _ hcs rfl (by rw[hA];simp) (ei 11))
   refine aq [af 0,nn 1,nn 2,af 3,af 4,af 5,nn 6,nn 7,af 8,af 9,af 10] ?_;replace hF:=hF.st ay;have hcs:=aH.gC hF;refine aL 23 75 4 2 4 ?_;replace hx:=hx.t ay;refine cm 24 3 23 hx.at_ rfl rfl ?_;refine cE 25 81 [24] [3] Tryz.call81 rfl (FF _ _) ?_;rintro ox w7 ⟨rfl,rfl⟩;rw[Bool.eq_false_iff.2 hA];refine au (kq 26 (.unOp .not 4 (.tmp 25))) (λ_=>eC rfl) ?_;refine ah 27 26 ?_;refine aG 28 4 false ?_;refine bN (ax 29 (.load 3 (.tmp 28)) 4 false) rfl rfl trivial ?_;refine bN (ax 30 (.call {callee:=.value (.func 81),args:=#[(.tmp 29)],argTypes:=#[3]}) 4 false) rfl rfl trivial ?_;refine aG 31 4 false ?_;refine ef 32 27 31 ?_;refine aJ 22 32 ?_;exact ai.nil (dx _ _ _ hcs rfl (by rw[Bool.eq_false_iff.2 hA];simp) (ei 11))
  intro h_ aC;refine iT 22 rfl (λfK=>?_) (λfK=>?_)
  ·
   have hv: (fV (l[i]'hil).aI&&fV (l[i]'hil).ek)=false:=by rw[Bool.not_eq_true'] at fK;exact fK
   refine aj (aq [af 0] ?_);refine aO 2 (.int .i64 42) (ai.nil ?_);refine cq Tryz.func46 Tryz.results46 ?_;replace hT:=(((hT.t s_1).t s_2).t ay).t aC;exact⟨congrArg (Value.int .i64) (by unfold oJ;rw[if_neg hlim,vG h0 hil (KJ hil hc hv) (by decide)]),hT.bV (by decide)⟩
  have hv: (fV (l[i]'hil).aI&&fV (l[i]'hil).ek)=true:=by rw[Bool.not_eq_false'] at fK;exact fK
  refine aj ?_;by_cases hA: (0:Int)<i
  ·
   refine eU (id:=10) (ops:=Dz.uj) [] (fm) [af 0,af 1,af 2,af 3,af 4,af 5,af 6,af 7,af 8,nn 9,af 10,af 11,af 12] eD (by kernel_rfl) (by kernel_rfl) (by kernel_rfl) ?_;intro jF aB;have hR:=aH.refl [] jF (fm);refine ah 34 3 ?_;refine au (kq 35 (.binOp .gtr 3 (.tmp 34) (.const (.int .i64 0)) 3)) (λ_=>eE (eL rfl rfl) hA) ?_;refine ah 36 35 ?_;refine dI 37 0 2 true (dI 38 3 2 true ?_);refine au (ax 39 (.binOp .sub 3 (.tmp 38) (.const (.int .i64 1)) 3) 2 true) (λ_=>jo rfl rfl (by omega) (by omega)) ?_;replace hl:=((((hl.t s_1).t s_2).t ay).t aC).t aB;refine iS (e:=75) (ax 40 (.indexAddr 24 (.tmp 37) (.tmp 39)) 2 true) rfl rfl hl rfl (by kernel_rfl) rfl (by omega) (by omega) ?_;intro SD SE nB;try simp only[b_] at nB
   refine mY (ax 41 (.load 75 (.tmp 40)) 2 true) rfl rfl (λw' hS=>nB.cR hS) nB (by kernel_rfl) (by kernel_rfl) rfl rfl ?_;intro v41 uu;have nP: ((i:Int)-1).toNat=i-1:=by omega
   simp only[nP] at uu;obtain rfl:=nI.1 uu;replace hx:=((hx.t ay).t aC).t aB;refine fN (ax 42 (.load 75 (.tmp 4)) 2 true) rfl rfl (λw' hS=>jf (n:=7) (vs:=fk (l[i]'hil)) (hx.stay hS (by decide)) (by kernel_rfl) (by kernel_rfl) rfl rfl rfl) ?_;replace hF:=((hF.st ay).st aC).st aB;refine jy (ax 43 (.call {callee:=.value (.func 69),args:=#[(.tmp 41),(.tmp 42)],argTypes:=#[75,75]}) 2 true) rfl rfl (dn Tryz.call69 rfl) (C7 (y:=(l[i]'hil)) hF) ?_;rintro vu jG ⟨rfl,aD⟩;refine⟨(hR.trans aD (by simp)).ext,?_⟩;refine au (ax 44 (.binOp .geq 3 (.tmp 43) (.const (.int .i64 0)) 3) 2 true) (λ_=>ga rfl rfl) ?_;refine eR 45 36 44 ?_;refine aJ 33 45 (ai.nil ?_);refine cV 33 rfl (λjR=>?_) (λjR=>?_)
   ·
    refine aj (aq [af 0] ?_);refine aO 2 (.int .i64 12) (ai.nil ?_);refine cq Tryz.func46 Tryz.results46 ?_;replace hT:=(((((hT.t s_1).t s_2).t ay).t aC).t aB).t aD;exact⟨congrArg (Value.int .i64) (by unfold oJ;rw[if_neg hlim,vG h0 hil (KK hil hc hv (by omega) (by omega)) (by decide)]),hT.bV (by decide)⟩
   refine bK (dZ (dZ (aq [af 0,af 1] ?_)));refine eG 46 3 10 1 (ah 10 46 (ai.nil ?_));replace hT:=(((((hT.t s_1).t s_2).t ay).t aC).t aB).t aD;replace hF:=hF.st aD;replace hl:=hl.t aD;refine kp (ak 0 (ak 8 (ak 9 (cA 10 rfl (eq_int (by simp)) (b6 _))))) (dW (i+1,fm) _ ⟨(by first|omega|(simp only;omega)),(vH h0 (Bj hil hc hv (λh0=>by omega))),hF,hT,hl⟩ (by first|omega|(simp only;omega)))
  refine eU (id:=10) (ops:=Dz.uj) [] (fm) [af 0,af 1,af 2,af 3,af 4,af 5,af 6,af 7,af 8,nn 9,af 10,af 11,af 12] eD (by kernel_rfl) (by kernel_rfl) (by kernel_rfl) ?_;intro mA bp;have hR:=aH.refl [] mA (fm);refine ah 34 3 ?_;refine au (kq 35 (.binOp .gtr 3 (.tmp 34) (.const (.int .i64 0)) 3)) (λ_=>dN (eL rfl rfl) hA) ?_;refine ah 36 35 ?_;refine aG 37 2 true (aG 38 2 true (aG 39 2 true (aG 40 2 true (aG 41 2 true (aG 42 2 true ?_)))));refine bN (ax 43 (.call {callee:=.value (.func 69),args:=#[(.tmp 41),(.tmp 42)],argTypes:=#[75,75]}) 2 true) rfl rfl hR.ext ?_;refine aG 44 2 true ?_;refine fT 45 36 44 ?_;refine aJ 33 45 ?_;refine ai.nil (fe 33 (bK (dZ (dZ (aq [af 0,af 1] ?_)))));refine eG 46 3 10 1 (ah 10 46 (ai.nil ?_));replace hT:=((((hT.t s_1).t s_2).t ay).t aC).t bp;replace hl:=((((hl.t s_1).t s_2).t ay).t aC).t bp;replace hF:=((hF.st ay).st aC).st bp;refine kp (ak 0 (ak 8 (ak 9 (cA 10 rfl (eq_int (by simp)) (b6 _))))) (dW (i+1,fm) _ ⟨(by first|omega|(simp only;omega)),(vH h0 (Bj hil hc hv (λh0=>absurd h0 (by omega)))),hF,hT,hl⟩ (by first|omega|(simp only;omega)))
 have hil:i=l.length:=by omega
 refine fq 0 ?_;refine aj (aq [af 0] ?_);refine aO 2 (.int .i64 0) (ai.nil ?_);refine cq Tryz.func46 Tryz.results46 ?_;exact⟨congrArg (Value.int .i64) (by unfold oJ;rw[if_neg hlim,zx (by rw[<-hil];exact h0)]),hT.bV (by decide)⟩
namespace Bw
def c0:=dL Tryz.f48
def tN:=(cl (aZ (cl (aZ (aZ c0)))))
def sY:=(cl (cl (cl (aZ (cl tN)))))
def qp:=fG (cl sY)
def Gt:=(aZ (cl (cl (aZ (cl tN)))))
def uj:=fG (cl (aZ Gt))
end Bw
theorem SF {w₀:World} {C:Nat->Nat} {l:List bP} {dH:Value} (hF:bA w₀ C) (hl:aF w₀ (aA C) l dH):Calls Tryz.prog 48 #[dH] w₀ (bW λv w'=>v=.int .i64 (oJ l)/\aH [] w₀ C w' C):=by
 have bR:=hF;have hT:=z9 w₀ C;replace hF:=hF.bX;replace hl:=hl.c1;refine cM Bw.c0 56 [dH] Tryz.func48 ?_;show Run _ _ _ _ [(0,dH)] _ _;refine aj (aq [af 0] ?_);refine aO 2 (.int .i64 0) (ai.nil (aj (aj (aq [af 0,af 1,af 2] ?_))));refine ah 4 0 ?_;refine zE 5 4 24 (hl.cz rfl Tryz.underlying24) ?_;refine au (kq 6 (.binOp .gtr 3 (.tmp 5) (.const (.int .i64 4096)) 3)) (λ_=>eL rfl rfl) ?_;refine ai.nil ?_;refine cV 6 rfl (λh6=>?_) (λh6=>?_)
 ·
  refine aj (aq [af 0] ?_);refine aO 2 (.int .i64 1) (ai.nil ?_);refine cq Tryz.func48 Tryz.results48 ?_;exact⟨congrArg (Value.int .i64) (by unfold oJ;rw[if_pos (by omega)]),hT.bV (by decide)⟩
 have hlim:¬4096<l.length:=by omega
 refine bK (aj (aj (aq [af 0] ?_)));refine aO 3 (.int .i64 0) ?_;refine ai.nil (dm 0 ?_);refine fD (ι:=Nat×(Nat->Nat)) (I:=λx w=>x.1<=l.length/\(∀k,k<x.1->rq l k=0)/\bA w x.2/\aH [2,3,4,5,6,7,8,9] w₀ (bX C) w x.2/\aF w (aA x.2) l dH) (e:=λx=>[(0,dH),(3,.int .i64 x.1)]) (m:=λx=>l.length-x.1) (eZ:=(0,bX C)) (ak 0 (ak 3 (b6 _))) ?_ ?_
 · exact⟨Nat.zero_le _,λk hk=>by first|omega|(simp only at hk;omega),hF,hT,hl⟩
 intro⟨i,cO⟩ w1 hI dW;obtain⟨hi,h0,hF,hT,hl⟩:=hI;try simp only at hi h0 hF hT hl
 show Run _ _ _ _ [(0,dH),(3,.int .i64 i)] _ _;have hle:=hl.le;refine aj (aj (aq [af 0,af 1,af 2,af 3] ?_));refine ah 7 3 (ah 8 0 ?_);refine zE 9 8 24 (hl.cz rfl Tryz.underlying24) ?_;refine fM 10 3 7 9 (ai.nil ?_);refine cV 10 rfl (λou=>?_) (λou=>?_)
 ·
  have hil:i<l.length:=by omega
  refine bK (aj (dm 1 (aj (aj ?_))));refine eU (id:=6) (ops:=Bw.qp) [] (cO) [af 0,af 1,af 2,af 3,af 4,af 5,af 6,af 7,af 8,af 9,nn 10,af 11] eD (by kernel_rfl) (by kernel_rfl) (by kernel_rfl) ?_;intro w2 s_1;have hR:=aH.refl [] w2 (cO);replace hl:=hl.t s_1;have zR:=hl;refine ah 13 0 (ah 14 3 ?_);refine eX 75 15 24 13 14 zR rfl (h:=?_);intro Qf Bb sR;try simp only[b_] at sR
  have jr:=dF.Rt sR;refine aL 16 75 15 0 0 ?_;refine mY (kq 17 (.load 32 (.tmp 16))) rfl rfl (λw' hS=>jr.cR hS) jr (by kernel_rfl) (by kernel_rfl) rfl rfl ?_;intro v17 g17;have W8:=g17;replace g17:=g17.st hR (by first|decide|(simp<;>omega));obtain rfl:=rI.1 g17;refine ah 18 0 (ah 19 3 ?_);refine eX 75 20 24 18 19 zR rfl (h:=?_);intro zf zg jt;try simp only[b_] at jt
  have rz:=dF.Ru jt;refine aL 21 75 20 1 2 ?_;refine mY (kq 22 (.load 32 (.tmp 21))) rfl rfl (λw' hS=>rz.cR hS) rz (by kernel_rfl) (by kernel_rfl) rfl rfl ?_;intro v22 g22;have W9:=g22;replace g22:=g22.st hR (by first|decide|(simp<;>omega));obtain rfl:=rI.1 g22;replace hF:=hF.st s_1;refine gj 23 82 [17,22] [32,32] Tryz.call82 rfl (Sz (x:=(l[i]'hil).A) (y:=(l[i]'hil).B) hF) ?_;rintro mP w3 ⟨rfl,s_2⟩;refine⟨(hR.trans s_2 (by simp)).ext,?_⟩;refine au (kq 24 (.unOp .not 4 (.tmp 23))) (λ_=>eC rfl) ?_;refine ai.nil ?_;refine iT 24 rfl (λw_=>?_) (λw_=>?_)
  ·
   have hc:iO (l[i]'hil).A (l[i]'hil).B=false:=by simpa using w_
   refine aj (aq [af 0] ?_);refine aO 2 (.int .i64 41) (ai.nil ?_);refine cq Tryz.func48 Tryz.results48 ?_;replace hT:=(hT.t s_1).t s_2;exact⟨congrArg (Value.int .i64) (by unfold oJ;rw[if_neg hlim,vG h0 hil (KI hil hc) (by decide)]),hT.bV (by decide)⟩
  have hc:iO (l[i]'hil).A (l[i]'hil).B=true:=by simpa using w_
  refine bK (aj (aj ?_));refine i_ 40 (!(fV (l[i]'hil).aI&&fV (l[i]'hil).ek)) (cO) ?_ ?_
  ·
   intro dx;by_cases hA:fV (l[i]'hil).aI=true
   ·
    refine aq [af 0,af 1,af 2,af 3,nn 4,nn 5,af 6,af 7,af 8,af 9,af 10,af 11,nn 12,nn 13,af 14,af 15] ?_;replace hF:=hF.st s_2;have hcs:=aH.gC hF;refine ah 25 0 (ah 26 3 ?_);replace hl:=hl.t s_2;refine eX 75 27 24 25 26 hl rfl (h:=?_);intro Gu Gv gq;try simp only[b_] at gq
    have oF:=dF.KE gq;refine aL 28 75 27 2 4 ?_;refine gK (kq 29 (.load 3 (.tmp 28))) rfl rfl trivial oF (by kernel_rfl) rfl rfl ?_;intro LI uB;first|(obtain rfl:=fu.1 uB)|(obtain rfl:=eo.1 uB)
    refine cE 30 83 [29] [3] Tryz.call83 rfl (Gq _ _) ?_;rintro ng w4 ⟨rfl,rfl⟩;rw[hA];refine au (kq 31 (.unOp .not 4 (.tmp 30))) (λ_=>eC rfl) ?_;refine ah 32 31 ?_;refine dI 33 0 7 false (dI 34 3 7 false ?_);refine iS (e:=75) (ax 35 (.indexAddr 24 (.tmp 33) (.tmp 34)) 7 false) rfl rfl hl rfl (by kernel_rfl) rfl (by omega) (by omega) ?_;intro W_ Xa vj;try simp only[b_] at vj
    have rQ:=dF.KF vj;refine bT 36 75 35 3 5 7 false ?_;refine gK (ax 37 (.load 3 (.tmp 36)) 7 false) rfl rfl trivial rQ (by kernel_rfl) rfl rfl ?_;intro v37 A1;first|(obtain rfl:=fu.1 A1)|(obtain rfl:=eo.1 A1)
    refine dS (ax 38 (.call {callee:=.value (.func 83),args:=#[(.tmp 37)],argTypes:=#[3]}) 7 false) rfl rfl (dn Tryz.call83 rfl) (Gq _ _) ?_;rintro nJ fQ ⟨rfl,rfl⟩;refine au (ax 39 (.unOp .not 4 (.tmp 38)) 7 false) (λ_=>eC rfl) ?_;refine de 40 32 39 ?_;exact ai.nil (dx _ _ _ hcs rfl (by rw[hA];simp) (ei 16))
   refine aq [af 0,af 1,af 2,af 3,nn 4,nn 5,af 6,af 7,af 8,af 9,af 10,af 11,nn 12,nn 13,af 14,af 15] ?_;replace hF:=hF.st s_2;have hcs:=aH.gC hF;refine ah 25 0 (ah 26 3 ?_);replace hl:=hl.t s_2;refine eX 75 27 24 25 26 hl rfl (h:=?_);intro Gu Gv gq;try simp only[b_] at gq
   have oF:=dF.KE gq;refine aL 28 75 27 2 4 ?_;refine gK (kq 29 (.load 3 (.tmp 28))) rfl rfl trivial oF (by kernel_rfl) rfl rfl ?_;intro LI uB;first|(obtain rfl:=fu.1 uB)|(obtain rfl:=eo.1 uB)
   refine cE 30 83 [29] [3] Tryz.call83 rfl (Gq _ _) ?_;rintro mw gx ⟨rfl,rfl⟩;rw[Bool.eq_false_iff.2 hA];refine au (kq 31 (.unOp .not 4 (.tmp 30))) (λ_=>eC rfl) ?_;refine ah 32 31 ?_;refine aG 33 7 false (aG 34 7 false (aG 35 7 false (aG 36 7 false ?_)));refine bN (ax 37 (.load 3 (.tmp 36)) 7 false) rfl rfl trivial ?_;refine bN (ax 38 (.call {callee:=.value (.func 83),args:=#[(.tmp 37)],argTypes:=#[3]}) 7 false) rfl rfl trivial ?_;refine aG 39 7 false ?_;refine ef 40 32 39 ?_;exact ai.nil (dx _ _ _ hcs rfl (by rw[Bool.eq_false_iff.2 hA];simp) (ei 16))
  intro w7 ay;refine iT 40 rfl (λnB=>?_) (λnB=>?_)
  ·
   have hv: (fV (l[i]'hil).aI&&fV (l[i]'hil).ek)=false:=by rw[Bool.not_eq_true'] at nB;exact nB
   refine aj (aq [af 0] ?_);refine aO 2 (.int .i64 42) (ai.nil ?_);refine cq Tryz.func48 Tryz.results48 ?_;replace hT:=((hT.t s_1).t s_2).t ay;exact⟨congrArg (Value.int .i64) (by unfold oJ;rw[if_neg hlim,vG h0 hil (KJ hil hc hv) (by decide)]),hT.bV (by decide)⟩
  have hv: (fV (l[i]'hil).aI&&fV (l[i]'hil).ek)=true:=by rw[Bool.not_eq_false'] at nB;exact nB
  refine bK (aj ?_);by_cases hA: (0:Int)<i
  ·
   refine eU (id:=10) (ops:=Bw.uj) [] (cO) [af 0,af 1,af 2,af 3,af 4,af 5,af 6,af 7,af 8,af 9,af 10,af 11,nn 12,af 13,af 14] eD (by kernel_rfl) (by kernel_rfl) (by kernel_rfl) ?_;intro h_ aC;have hR:=aH.refl [] h_ (cO);replace hl:=((hl.t s_2).t ay).t aC;have zR:=hl;refine ah 41 3 ?_;refine au (kq 42 (.binOp .gtr 3 (.tmp 41) (.const (.int .i64 0)) 3)) (λ_=>eE (eL rfl rfl) hA) ?_;refine ah 43 42 ?_;refine dI 44 0 2 true (dI 45 3 2 true ?_);refine au (ax 46 (.binOp .sub 3 (.tmp 45) (.const (.int .i64 1)) 3) 2 true) (λ_=>jo rfl rfl (by omega) (by omega)) ?_;refine iS (e:=75) (ax 47 (.indexAddr 24 (.tmp 44) (.tmp 46)) 2 true) rfl rfl zR rfl (by kernel_rfl) rfl (by omega) (by omega) ?_;intro Jj Jk sN;try simp only[b_] at sN
   refine mY (ax 48 (.load 75 (.tmp 47)) 2 true) rfl rfl (λw' hS=>sN.cR hS) sN (by kernel_rfl) (by kernel_rfl) rfl rfl ?_;intro Jl qT;have Xb:=qT;replace qT:=qT.st hR (by first|decide|(simp<;>omega));have nP: ((i:Int)-1).toNat=i-1:=by omega
   simp only[nP] at qT;obtain rfl:=nI.1 qT;refine dI 49 0 2 true (dI 50 3 2 true ?_);refine iS (e:=75) (ax 51 (.indexAddr 24 (.tmp 49) (.tmp 50)) 2 true) rfl rfl zR rfl (by kernel_rfl) rfl (by omega) (by omega) ?_;intro Xc Xd uC;try simp only[b_] at uC
   refine mY (ax 52 (.load 75 (.tmp 51)) 2 true) rfl rfl (λw' hS=>uC.cR hS) uC (by kernel_rfl) (by kernel_rfl) rfl rfl ?_;intro LJ qu;have Xe:=qu;replace qu:=qu.st hR (by first|decide|(simp<;>omega));obtain rfl:=nI.1 qu;replace hF:=((hF.st s_2).st ay).st aC;refine jy (ax 53 (.call {callee:=.value (.func 71),args:=#[(.tmp 48),(.tmp 52)],argTypes:=#[75,75]}) 2 true) rfl rfl (dn Tryz.call71 rfl) (Gs (y:=(l[i]'hil)) hF) ?_;rintro tF jF ⟨rfl,aB⟩;refine⟨(hR.trans aB (by simp)).ext,?_⟩;refine au (ax 54 (.binOp .geq 3 (.tmp 53) (.const (.int .i64 0)) 3) 2 true) (λ_=>ga rfl rfl) ?_;refine eR 55 43 54 ?_;refine ai.nil ?_;refine cV 55 rfl (λGw=>?_) (λGw=>?_)
   ·
    refine aj (aq [af 0] ?_);refine aO 2 (.int .i64 12) (ai.nil ?_);refine cq Tryz.func48 Tryz.results48 ?_;replace hT:=((((hT.t s_1).t s_2).t ay).t aC).t aB;exact⟨congrArg (Value.int .i64) (by unfold oJ;rw[if_neg hlim,vG h0 hil (KK hil hc hv (by omega) (by omega)) (by decide)]),hT.bV (by decide)⟩
   refine bK (dZ (aq [af 0,af 1,af 2] ?_));refine ah 11 3 ?_;refine eG 12 3 11 1 (aJ 3 12 (ai.nil ?_));replace hT:=((((hT.t s_1).t s_2).t ay).t aC).t aB;replace hF:=hF.st aB;replace hl:=hl.t aB;refine kp (ak 0 (cA 3 rfl (eq_int (by simp)) (b6 _))) (dW (i+1,cO) _ ⟨(by first|omega|(simp only;omega)),(vH h0 (Bj hil hc hv (λh0=>by omega))),hF,hT,hl⟩ (by first|omega|(simp only;omega)))
  refine eU (id:=10) (ops:=Bw.uj) [] (cO) [af 0,af 1,af 2,af 3,af 4,af 5,af 6,af 7,af 8,af 9,af 10,af 11,nn 12,af 13,af 14] eD (by kernel_rfl) (by kernel_rfl) (by kernel_rfl) ?_;intro jG aD;have hR:=aH.refl [] jG (cO);replace hl:=((hl.t s_2).t ay).t aD;have zR:=hl;refine ah 41 3 ?_;refine au (kq 42 (.binOp .gtr 3 (.tmp 41) (.const (.int .i64 0)) 3)) (λ_=>dN (eL rfl rfl) hA) ?_;refine ah 43 42 ?_;refine aG 44 2 true (aG 45 2 true (aG 46 2 true (aG 47 2 true (aG 48 2 true (aG 49 2 true (aG 50 2 true (aG 51 2 true (aG 52 2 true ?_))))))));refine bN (ax 53 (.call {callee:=.value (.func 71),args:=#[(.tmp 48),(.tmp 52)],argTypes:=#[75,75]}) 2 true) rfl rfl hR.ext ?_;refine aG 54 2 true ?_;refine fT 55 43 54 ?_;refine ai.nil (fe 55 (bK (dZ (aq [af 0,af 1,af 2] ?_))));refine ah 11 3 ?_;refine eG 12 3 11 1 (aJ 3 12 (ai.nil ?_));replace hT:=(((hT.t s_1).t s_2).t ay).t aD;replace hF:=((hF.st s_2).st ay).st aD;refine kp (ak 0 (cA 3 rfl (eq_int (by simp)) (b6 _))) (dW (i+1,cO) _ ⟨(by first|omega|(simp only;omega)),(vH h0 (Bj hil hc hv (λh0=>absurd h0 (by omega)))),hF,hT,hl⟩ (by first|omega|(simp only;omega)))
 have hil:i=l.length:=by omega
 refine fq 0 ?_;refine aj (aq [af 0] ?_);refine aO 2 (.int .i64 0) (ai.nil ?_);refine cq Tryz.func48 Tryz.results48 ?_;exact⟨congrArg (Value.int .i64) (by unfold oJ;rw[if_neg hlim,zx (by rw[<-hil];exact h0)]),hT.bV (by decide)⟩
end
end Go.Proofs.YtionghonhnedgaaGreat
