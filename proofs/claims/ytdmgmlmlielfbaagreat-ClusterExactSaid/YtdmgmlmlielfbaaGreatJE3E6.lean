/- Steps through functions of the program. -/
import Derived.Test.YtdmgmlmlielfbaaGreatJE1E2
import Derived.Test.YtdmgmlmlielfbaaGreatL2
set_option linter.unusedVariables false
set_option linter.unusedSimpArgs false
set_option maxRecDepth 100000
set_option maxHeartbeats 4000000
namespace Go.Proofs.YtdmgmlmlielfbaaGreat
open Go.K Go.K.bg
noncomputable section
namespace Hw
def c0:=cz Tryz.f53
def qg:=(cl (cl (aJ (cl (aJ c0)))))
def jR:=dy (cl (cl (cl (aJ qg))))
end Hw
theorem Bw {w₀:World} {C:Nat->Nat} {l:List av} {aF:Value} (hF:aM w₀ C) (hl:aG w₀ (aB C) l aF):Calls Tryz.prog 53 #[aF] w₀ (bM λv w'=>v=.bool (decide (l.Pairwise dV))/\ay [] w₀ C w' C):=by
 have bp:=hF;have hT:=z9 w₀ C;replace hF:=hF.bE;replace hl:=hl.c1;refine ct Hw.c0 21 [aF] Tryz.func53 ?_;show Run _ _ _ _ [(0,aF)] _ _;refine aj (aq [af 0] ?_);refine aR 2 (.bool false) (ai.nil (aj (aj (aq [af 0] ?_))));refine aR 3 (.int .i64 1) ?_;refine ai.nil (bF 0 ?_);refine cM (ι:=Nat×(Nat->Nat)) (I:=λx w=>1<=x.1/\x.1<=max 1 l.length/\(∀q (hq:q<x.1) (hl:q<l.length),∀h1:0<q,dV (l[q-1]'(by omega)) l[q])/\aM w x.2/\ay [2,3,4,5,6,7,8,9] w₀ (bE C) w x.2/\aG w (aB x.2) l aF) (e:=λx=>[(0,aF),(3,.int .i64 x.1)]) (m:=λx=>l.length-x.1) (cD:=(1,bE C)) (ak 0 (ak 3 (aY _))) ?_ ?_
 · exact⟨Nat.le_refl _,by omega,λq hq hl h1=>by simp only at hq;omega,hF,hT,hl⟩
 intro⟨i,bC⟩ w1 hI cn;obtain⟨hi,hi2,h0,hF,hT,hl⟩:=hI;try simp only at hi hi2 h0 hF hT hl
 show Run _ _ _ _ [(0,aF),(3,.int .i64 i)] _ _;have hle:=hl.le;refine aj (aj (aq [af 0,af 1,af 2,af 3] ?_));refine ah 4 3 (ah 5 0 ?_);refine zE 6 5 53 (hl.b8 rfl Tryz.underlying53) ?_;refine dm 7 3 4 6 (ai.nil ?_);refine bI 7 rfl (λh7=>?_) (λh7=>?_)
 ·
  have hil:i<l.length:=by omega
  refine bk (aj (bF 1 (aj ?_)));refine cw (id:=4) (ops:=Hw.jR) [] (bC) [af 0,af 1,af 2,af 3,af 4,af 5,af 6,af 7,af 8,nn 9,af 10] cm (by kernel_rfl) (by kernel_rfl) (by kernel_rfl) ?_;intro w2 s_1;have hR:=ay.refl [] w2 (bC);refine ah 10 0 (ah 11 3 ?_);refine ax (au 12 (.binOp .sub 3 (.tmp 11) (.const (.int .i64 1)) 3)) (λ_=>fu rfl rfl (by omega) (by omega)) ?_;replace hl:=hl.t s_1;refine cq 47 13 53 10 12 hl rfl (h:=?_);intro C9 ye iu;try simp only[aI] at iu
  refine cB (au 14 (.load 47 (.tmp 13))) rfl rfl (λw' hS=>iu.bu hS) iu (by kernel_rfl) (by kernel_rfl) rfl rfl ?_;intro yf g14;have ki: ((i:Int)-1).toNat=i-1:=by omega
  simp only[ki] at g14;obtain rfl:=bY.1 g14;refine ah 15 0 (ah 16 3 ?_);refine cq 47 17 53 15 16 hl rfl (h:=?_);intro cF D9 eR;try simp only[aI] at eR
  refine cB (au 18 (.load 47 (.tmp 17))) rfl rfl (λw' hS=>eR.bu hS) eR (by kernel_rfl) (by kernel_rfl) rfl rfl ?_;intro qA g18;obtain rfl:=bY.1 g18;replace hF:=hF.st s_1;refine dI 19 55 [14,18] [47,47] Tryz.call55 rfl (wA (x:=l[i-1]'(by omega)) (y:=l[i]'hil) hF) ?_;rintro lq w3 ⟨rfl,s_2⟩;refine⟨(hR.trans s_2 (by simp)).ext,?_⟩;refine ax (au 20 (.binOp .geq 3 (.tmp 19) (.const (.int .i64 0)) 3)) (λ_=>e6 rfl rfl) ?_;refine ai.nil ?_;refine bI 20 rfl (λjT=>?_) (λjT=>?_)
  ·
   refine aj (aq [af 0] ?_);refine aR 2 (.bool false) (ai.nil ?_);refine bN Tryz.func53 Tryz.results53 ?_;replace hT:=(hT.t s_1).t s_2;exact⟨by rw[decide_eq_false (MV hil (by omega) (λe=>by have:=sq.2 e;omega))],hT.bW (by decide)⟩
  have hlt:dV (l[i-1]'(by omega)) (l[i]'hil):=sq.1 (by omega);refine bk (bS (aq [af 0,af 1,af 2] ?_));refine ah 8 3 ?_;refine bZ 9 3 8 1 (aD 3 9 (ai.nil ?_));replace hT:=(hT.t s_1).t s_2;replace hF:=hF.st s_2;replace hl:=hl.t s_2;refine kp (aL 0 rfl rfl (aL 3 rfl (eq_int (by simp)) (aY _))) (cn (i+1,bC) _ ⟨(by first|omega|(simp only;omega)),(by first|omega|(simp only;omega)),(λq hq j_ h1=>by
    simp only at hq;by_cases e:q=i
    ·subst e;exact hlt
    ·exact h0 q (by omega) j_ h1),hF,hT,hl⟩ (by first|omega|(simp only;omega)))
 refine cA 0 ?_;refine aj (aq [af 0] ?_);refine aR 2 (.bool true) (ai.nil ?_);refine bN Tryz.func53 Tryz.results53 ?_;exact⟨by rw[decide_eq_true (MU λq hq h1=>h0 q (by omega) hq h1)],hT.bW (by decide)⟩
theorem lJ {s:List av} {c:av}: (s.any λx=>decide (c=x))=decide (c∈s):=by
 rw[Bool.eq_iff_iff,tI,decide_eq_true_iff]
namespace zb
def c0:=cz Tryz.f95
def oV:=(cl (aJ (cl (aJ (aJ c0)))))
def VY:=(aJ (aJ (cl (aJ (cl oV)))))
def xk:=(cl (aJ (aJ (cl (cl VY)))))
def oF:=dy (cl (aJ (aJ (cl xk))))
end zb
theorem NK {w₀:World} {C:Nat->Nat} {l:List aO} {s:List av} {bL b7 vs:Value} (hF:aM w₀ C) (hl:aG w₀ (aB C) l bL) (hs0:aG w₀ (aB C) s vs) (h1:1<=s.length) (hn:s.Nodup) (hlen:s.length<=8796093021952):Calls Tryz.prog 95 #[.agg #[bL,b7],vs] w₀ (bM λv w'=>v=.bool (j6 l s)/\ay [] w₀ C w' C):=by
 have bp:=hF;have hT:=z9 w₀ C;replace hF:=hF.bE;replace hl:=hl.c1;replace hs0:=hs0.c1;refine ct zb.c0 69 [.agg #[bL,b7],vs] Tryz.func95 ?_;show Run _ _ _ _ [(0,.agg #[bL,b7]),(1,vs)] _ _;refine aj (aq [nn 0,af 1] ?_);refine bT (au 2 (.box 75 (.tmp 0))) rfl rfl (eU (cs:=[bL,b7]) hF 3 rfl rfl) ?_;rintro _ w1 ⟨eu,c4,rfl,s_1,hx,hF⟩;refine aR 4 (.bool false) (ai.nil (aj (aq [af 0,af 1,af 2] ?_)));refine ah 11 1 ?_;replace hs0:=hs0.t s_1;refine L4 (e':=47) (m:=1) (au 12 (.slice 53 (.tmp 11) none (some (.const (.int .i64 1))) (some (.const (.int .i64 1))))) rfl rfl hs0 rfl (by kernel_rfl) rfl rfl h1 ?_;intro a1 AX;refine aD 5 12 (ai.nil (aj (aj (aq [af 0] ?_))));have hs1: (s.take 1).length=1:=by rw[List.length_take];omega
 refine aR 6 (.bool true) ?_;refine ai.nil (bF 0 ?_);refine cM (ι:=Bool×(List av)×Value×(Nat->Nat)) (I:=λx w=>mj l s x.2.1/\(x.1=false->∀bd∈l,bd.A∈s->bd.B∈s->(bd.A∈x.2.1↔bd.B∈x.2.1))/\aM w x.2.2.2/\ay [2,3,4,5,6,7,8,9] w₀ (bE C) w x.2.2.2/\aG w (aB x.2.2.2) l bL/\aG w (aB x.2.2.2) s vs/\dN w x.2.2.2 3 c4 (.cells [bL,b7].toArray 75)/\nV w x.2.2.2 5 47 x.2.2.1 x.2.1) (e:=λx=>[(1,vs),(2,.pointer (some ⟨c4,0,none⟩)),(5,x.2.2.1),(6,.bool x.1)]) (m:=λx=>2*(s.length-x.2.1.length)+(if x.1 then 1 else 0)) (cD:=(true,s.take 1,.slice a1 1 1,eu)) (ak 1 (ak 2 (ak 5 (ak 6 (aY _))))) ?_ ?_
 ·
   replace hT:=hT.t s_1;replace hl:=hl.t s_1;exact⟨mj.start h1,λe=>(by cases e),hF,hT,hl,hs0,hx,.inr ⟨a1,(by rw[hs1]),AX⟩⟩
 intro⟨g0,ys,vy,bC⟩ w2 hI cn;obtain⟨hR,hg,hF,hT,hl,hs0,hx,hy⟩:=hI;try simp only at hR hg hF hT hl hs0 hx hy
 show Run _ _ _ _ [(1,vs),(2,.pointer (some ⟨c4,0,none⟩)),(5,vy),(6,.bool g0)] _ _;have yj:=hR.len;refine aj (aj (aq [af 0] ?_));refine ah 13 6 (ai.nil ?_);refine iL 13 rfl (λiu=>?_) (λiu=>?_)
 ·
  subst iu;refine bk (bF 1 (aj (aq [af 0] ?_)));refine aR 6 (.bool false) (ai.nil (aj (aq [af 0,nn 1,af 2,af 3] ?_)));refine bD 14 75 2 0 0 ?_;refine dL 15 23 14 hx.at_ rfl rfl ?_;refine zE 16 15 23 (hl.b8 rfl Tryz.underlying23) ?_;refine ig 17 (.int .i64 0) ?_;refine ai.nil (bF 2 ?_);refine cM (ι:=Nat×Bool×(List av)×Value×(Nat->Nat)) (I:=λx w=>x.1<=l.length/\mj l s x.2.2.1/\(x.2.1=true->ys.length<x.2.2.1.length)/\(x.2.1=false->x.2.2.1=ys/\∀i (hi:i<x.1) (hl:i<l.length),l[i].A∈s->l[i].B∈s->(l[i].A∈ys↔l[i].B∈ys))/\aM w x.2.2.2.2/\ay [2,3,4,5,6,7,8,9] w₀ (bE C) w x.2.2.2.2/\aG w (aB x.2.2.2.2) l bL/\aG w (aB x.2.2.2.2) s vs/\dN w x.2.2.2.2 3 c4 (.cells [bL,b7].toArray 75)/\nV w x.2.2.2.2 5 47 x.2.2.2.1 x.2.2.1) (e:=λx=>[(1,vs),(2,.pointer (some ⟨c4,0,none⟩)),(5,x.2.2.2.1),(6,.bool x.2.1),(15,bL),(16,.int .i64 l.length),(17,.int .i64 x.1)]) (m:=λx=>l.length-x.1) (cD:=(0,false,ys,vy,bC)) (ak 1 (ak 2 (ak 5 (ak 6 (ak 15 (ak 16 (ak 17 (aY _)))))))) ?_ ?_
  · exact⟨Nat.zero_le _,hR,λe=>(by cases e),λ_=>⟨rfl,λi hi=>by simp only at hi;omega⟩,hF,hT,hl,hs0,hx,hy⟩
  intro⟨k,g,zs,vy,cO⟩ w3 hI d_;obtain⟨hk,oG,qk,mY,hF,hT,hl,hs0,hx,hy⟩:=hI;try simp only at hk oG qk mY hF hT hl hs0 hx hy
  show Run _ _ _ _ [(1,vs),(2,.pointer (some ⟨c4,0,none⟩)),(5,vy),(6,.bool g),(15,bL),(16,.int .i64 l.length),(17,.int .i64 k)] _ _;have hle:=hl.le;have VZ:=hs0.le;have hzl:=oG.len;refine aj (aq [af 0] ?_);refine dm 18 3 17 16 (ai.nil (aj ?_));refine bI 18 rfl (λoH=>?_) (λoH=>?_)
  ·
   have aK:k<l.length:=by omega
   have Bx:=List.getElem_mem aK;refine bk (aj (bF 3 (aj (aq [af 0,nn 1,nn 2,nn 3] ?_))));refine cq 49 19 23 15 17 hl rfl (h:=?_);intro Nr y3 nr;try simp only[aI] at nr
   refine ku (au 20 (.load 49 (.tmp 19))) rfl rfl trivial nr (by kernel_rfl) (by kernel_rfl) rfl rfl ?_;intro v20 g20;obtain rfl:=jK.1 g20;refine bT (au 8 (.alloc 49)) rfl rfl (gJ (cs:=[.int .i64 0,.int .i64 0,.int .i64 0,.int .i64 0,.int .i64 0]) hF 6 (by kernel_rfl)) ?_;rintro _ w4 ⟨gw,rC,rfl,s_2,hb,hF⟩;refine cE (k0 (.store 49 (.tmp 8) (.tmp 20))) rfl (gB (vs:=j0 (l[k]'aK)) (n:=5) rfl rfl (by kernel_rfl) rfl rfl (g_ rfl) hb rfl) ?_;rintro _ ew ⟨rfl,aH,hb⟩;refine ai.nil (aj (aj ?_));by_cases hA: (l[k]'aK).A∈s
   ·
    by_cases hB: (l[k]'aK).B∈s
    ·
     refine aq [af 0,af 1,nn 2,nn 3,af 4,af 5,af 6,af 7,nn 8,nn 9,af 10,af 11] ?_;refine ah 21 1 (bD 22 49 8 0 0 ?_);refine dz 23 47 22 2 (aZ (l[k]'aK).A) hb.at_ ?_;replace hs0:=(hs0.t s_2).t aH;replace hF:=hF.st aH;refine bU 24 61 [21,23] [53,47] Tryz.call61 rfl (lH (c:=(l[k]'aK).A) hF hs0) ?_;rintro mh fh ⟨rfl,aV⟩;rw[lJ,decide_eq_true hA];refine ax (au 25 (.unOp .not 4 (.tmp 24))) (λ_=>dF rfl) ?_;refine ah 26 25 ?_;refine aX 27 1 5 false (cW 28 49 8 1 2 5 false ?_);replace hb:=hb.t aV;refine lg 29 47 28 5 false 2 (aZ (l[k]'aK).B) hb.at_ ?_;replace hF:=hF.st aV;replace hs0:=hs0.t aV;refine dY (aA 30 (.call {callee:=.value (.func 61),args:=#[(.tmp 27),(.tmp 29)],argTypes:=#[53,47]}) 5 false) rfl rfl (cL Tryz.call61 rfl) (lH (c:=(l[k]'aK).B) hF hs0) ?_;rintro mM w7 ⟨rfl,aQ⟩;rw[lJ,decide_eq_true hB];refine ax (aA 31 (.unOp .not 4 (.tmp 30)) 5 false) (λ_=>dF rfl) ?_;refine eo 32 26 31 ?_;refine ai.nil (gD 32 (bk (aj ?_)));by_cases hP: (l[k]'aK).A∈zs
     ·
      by_cases hQ: (l[k]'aK).B∈zs
      ·
       refine cw (id:=9) (ops:=zb.oF) [] (gw) [af 0,af 1,af 2,af 4,af 5,af 6,nn 3,nn 7,af 8,af 9] cm (by kernel_rfl) (by kernel_rfl) (by kernel_rfl) ?_;intro fR bh;have hR:=ay.refl [] fR (gw);refine ah 33 5 (bD 34 49 8 0 0 ?_);replace hb:=(hb.t aQ).t bh;refine iN 35 47 34 2 (aZ (l[k]'aK).A) (hb.stay · (by decide)) ?_;refine ah 37 5 (bD 38 49 8 1 2 ?_);refine iN 39 47 38 2 (aZ (l[k]'aK).B) (hb.stay · (by decide)) ?_;replace hy:=((((hy.t s_2).t aH).t aV).t aQ).t bh;refine dI 36 61 [33,35] [53,47] Tryz.call61 rfl (lH (C:=iC) (c:=(l[k]'aK).A) (mS _) (hy.lF (by omega))) ?_;rintro _ gC ⟨rfl,bq⟩;replace bq:=bq.re (gw);rw[lJ,decide_eq_true hP];refine⟨(hR.trans bq (by simp)).ext,?_⟩;replace hy:=hy.t bq;refine dI 40 61 [37,39] [53,47] Tryz.call61 rfl (lH (C:=iC) (c:=(l[k]'aK).B) (mS _) (hy.lF (by omega))) ?_;rintro _ iD ⟨rfl,br⟩;replace br:=br.re (gw);rw[lJ,decide_eq_true hQ];replace hR:=hR.t bq;refine⟨(hR.trans br (by simp)).ext,?_⟩;refine aD 9 36 (aD 10 40 ?_);refine ai.nil (bF 4 (aj (aq [af 0,af 1,af 2,af 3,af 4,af 5] ?_)));refine ah 42 9 (ah 43 42 ?_);refine aX 44 10 1 true ?_;refine ax (aA 45 (.unOp .not 4 (.tmp 44)) 1 true) (λ_=>dF rfl) ?_;refine en 46 43 45 ?_;refine aD 41 46 ?_;refine ai.nil (gD 41 (aj (aq [af 0,af 1,af 2,af 3,af 4,af 5] ?_)));refine ah 53 10 (ah 54 53 ?_);refine aX 55 9 1 true ?_;refine ax (aA 56 (.unOp .not 4 (.tmp 55)) 1 true) (λ_=>dF rfl) ?_;refine en 57 54 56 ?_;refine aD 52 57 ?_;refine ai.nil (gD 52 (bk (bS (bS (aq [af 0,af 1] ?_)))));refine bZ 63 3 17 1 (ah 17 63 (ai.nil ?_))
       replace hT:=((((((hT.t s_2).t aH).t aV).t aQ).t bh).t bq).t br;replace hl:=((((((hl.t s_2).t aH).t aV).t aQ).t bh).t bq).t br;replace hx:=((((((hx.t s_2).t aH).t aV).t aQ).t bh).t bq).t br;replace hF:=(((hF.st aQ).st bh).st bq).st br;replace hs0:=(((hs0.t aQ).t bh).t bq).t br;replace hy:=hy.t br;refine kp (aL 1 rfl rfl (aL 2 rfl rfl (aL 5 rfl rfl (aL 6 rfl rfl (aL 15 rfl rfl (aL 16 rfl rfl (aL 17 rfl (eq_int (by simp)) (aY _)))))))) (d_ (k+1,g,zs,vy,gw) _ ⟨(by first|omega|(simp only;omega)),(by first|omega|(simp only;omega)),(by first|omega|(simp only;omega)),(λe=>by
           obtain⟨h1,h2⟩:=mY e;exact⟨h1,λi hi hl' a b=>by
             simp only at hi;by_cases e2:i=k
             ·subst e2;rw[<-h1];first|exact⟨λ_=>hQ,λ_=>hP⟩|exact⟨λe=>absurd e hP,λe=>absurd e hQ⟩
             ·exact h2 i (by omega) hl' a b⟩),hF,hT,hl,hs0,hx,hy⟩ (by first|omega|(simp only;omega)))
      refine cw (id:=9) (ops:=zb.oF) [] (gw) [af 0,af 1,af 2,af 4,af 5,af 6,nn 3,nn 7,af 8,af 9] cm (by kernel_rfl) (by kernel_rfl) (by kernel_rfl) ?_;intro ja bK;have hR:=ay.refl [] ja (gw);refine ah 33 5 (bD 34 49 8 0 0 ?_);replace hb:=(hb.t aQ).t bK;refine iN 35 47 34 2 (aZ (l[k]'aK).A) (hb.stay · (by decide)) ?_;refine ah 37 5 (bD 38 49 8 1 2 ?_);refine iN 39 47 38 2 (aZ (l[k]'aK).B) (hb.stay · (by decide)) ?_;replace hy:=((((hy.t s_2).t aH).t aV).t aQ).t bK;refine dI 36 61 [33,35] [53,47] Tryz.call61 rfl (lH (C:=iC) (c:=(l[k]'aK).A) (mS _) (hy.lF (by omega))) ?_;rintro _ jy ⟨rfl,bH⟩;replace bH:=bH.re (gw);rw[lJ,decide_eq_true hP];refine⟨(hR.trans bH (by simp)).ext,?_⟩;replace hy:=hy.t bH;refine dI 40 61 [37,39] [53,47] Tryz.call61 rfl (lH (C:=iC) (c:=(l[k]'aK).B) (mS _) (hy.lF (by omega))) ?_;rintro _ jS ⟨rfl,bJ⟩;replace bJ:=bJ.re (gw);rw[lJ,decide_eq_false hQ];replace hR:=hR.t bH;refine⟨(hR.trans bJ (by simp)).ext,?_⟩;refine aD 9 36 (aD 10 40 ?_);refine ai.nil (bF 4 (aj (aq [af 0,af 1,af 2,af 3,af 4,af 5] ?_)));refine ah 42 9 (ah 43 42 ?_);refine aX 44 10 1 true ?_;refine ax (aA 45 (.unOp .not 4 (.tmp 44)) 1 true) (λ_=>dF rfl) ?_;refine en 46 43 45 ?_;refine aD 41 46 ?_;refine ai.nil (jI 41 (aq [af 0,af 1,nn 2,nn 3,nn 4,af 5,af 6] ?_));refine ah 47 5 (bD 48 49 8 1 2 ?_);replace hb:=(hb.t bH).t bJ;refine dz 49 47 48 2 (aZ (l[k]'aK).B) hb.at_ ?_;replace hF:=(((hF.st aQ).st bK).st bH).st bJ;refine bT (au 50 (.buildSlice 53 1 #[(0,(.tmp 49))])) rfl rfl (fI (ys:=([(l[k]'aK).B]:List av)) (e:=47) (bytes:=16) hF (by kernel_rfl) rfl (by decide) (by decide) ⟨rfl,⟨_,rfl,bY.2 rfl⟩,trivial⟩) ?_;rintro v50 kB ⟨b5,f_,hF⟩;replace hy:=(hy.t bJ).t b5
      refine bT (au 51 (.call {callee:=.builtin .append,args:=#[(.tmp 47),(.tmp 50)],argTypes:=#[53,53]})) rfl rfl (L3 (e:=47) (bytes:=16) hF (j:=5) (by decide) rfl rfl (by kernel_rfl) (by decide) hy f_ (by simp) (by simp only[List.length_cons,List.length_nil];omega) (by simp only[List.length_cons,List.length_nil];omega)) ?_;rintro Hx kM ⟨Hy,bX,hy,hF⟩;refine aD 5 51 (aR 6 (.bool true) (ai.nil (bS (bS (aq [af 0,af 1] ?_)))));refine bZ 63 3 17 1 (ah 17 63 (ai.nil ?_));replace hT:=((((((((hT.t s_2).t aH).t aV).t aQ).t bK).t bH).t bJ).t b5).t bX;replace hl:=((((((((hl.t s_2).t aH).t aV).t aQ).t bK).t bH).t bJ).t b5).t bX;replace hx:=((((((((hx.t s_2).t aH).t aV).t aQ).t bK).t bH).t bJ).t b5).t bX;replace hs0:=(((((hs0.t aQ).t bK).t bH).t bJ).t b5).t bX;refine kp (aL 1 rfl rfl (aL 2 rfl rfl (aL 5 rfl rfl (aL 6 rfl rfl (aL 15 rfl rfl (aL 16 rfl rfl (aL 17 rfl (eq_int (by simp)) (aY _)))))))) (d_ (k+1,true,zs++[(l[k]'aK).B],Hx,Hy) _ ⟨(by first|omega|(simp only;omega)),(oG.add Bx hA hB (.inr ⟨rfl,hP⟩) hQ),(λ_=>by
           simp only[List.length_append,List.length_cons,List.length_nil];cases eg:g with
           |true=>have:=qk eg;omega
           |false=>have:=(mY eg).1;rw[this];omega),(λe=>by cases e),hF,hT,hl,hs0,hx,(.inl hy)⟩ (by first|omega|(simp only;omega)))
     by_cases hQ: (l[k]'aK).B∈zs
     ·
      refine cw (id:=9) (ops:=zb.oF) [] (gw) [af 0,af 1,af 2,af 4,af 5,af 6,nn 3,nn 7,af 8,af 9] cm (by kernel_rfl) (by kernel_rfl) (by kernel_rfl) ?_;intro kN bV;have hR:=ay.refl [] kN (gw);refine ah 33 5 (bD 34 49 8 0 0 ?_);replace hb:=(hb.t aQ).t bV;refine iN 35 47 34 2 (aZ (l[k]'aK).A) (hb.stay · (by decide)) ?_;refine ah 37 5 (bD 38 49 8 1 2 ?_);refine iN 39 47 38 2 (aZ (l[k]'aK).B) (hb.stay · (by decide)) ?_;replace hy:=((((hy.t s_2).t aH).t aV).t aQ).t bV;refine dI 36 61 [33,35] [53,47] Tryz.call61 rfl (lH (C:=iC) (c:=(l[k]'aK).A) (mS _) (hy.lF (by omega))) ?_;rintro _ mW ⟨rfl,ck⟩;replace ck:=ck.re (gw);rw[lJ,decide_eq_false hP];refine⟨(hR.trans ck (by simp)).ext,?_⟩;replace hy:=hy.t ck;refine dI 40 61 [37,39] [53,47] Tryz.call61 rfl (lH (C:=iC) (c:=(l[k]'aK).B) (mS _) (hy.lF (by omega))) ?_;rintro _ lT ⟨rfl,cv⟩;replace cv:=cv.re (gw);rw[lJ,decide_eq_true hQ];replace hR:=hR.t ck;refine⟨(hR.trans cv (by simp)).ext,?_⟩;refine aD 9 36 (aD 10 40 ?_);refine ai.nil (bF 4 (aj (aq [af 0,af 1,af 2,af 3,af 4,af 5] ?_)));refine ah 42 9 (ah 43 42 ?_);refine aC 44 1 true (aC 45 1 true ?_);refine gl 46 43 45 ?_;refine aD 41 46 ?_;refine ai.nil (gD 41 (aj (aq [af 0,af 1,af 2,af 3,af 4,af 5] ?_)));refine ah 53 10 (ah 54 53 ?_);refine aX 55 9 1 true ?_;refine ax (aA 56 (.unOp .not 4 (.tmp 55)) 1 true) (λ_=>dF rfl) ?_;refine en 57 54 56 ?_;refine aD 52 57 ?_;refine ai.nil (jI 52 (aq [af 0,af 1,nn 2,nn 3,nn 4,af 5,af 6] ?_));refine ah 58 5 (bD 59 49 8 0 0 ?_);replace hb:=(hb.t ck).t cv;refine dz 60 47 59 2 (aZ (l[k]'aK).A) hb.at_ ?_;replace hF:=(((hF.st aQ).st bV).st ck).st cv;refine bT (au 61 (.buildSlice 53 1 #[(0,(.tmp 60))])) rfl rfl (fI (ys:=([(l[k]'aK).A]:List av)) (e:=47) (bytes:=16) hF (by kernel_rfl) rfl (by decide) (by decide) ⟨rfl,⟨_,rfl,bY.2 rfl⟩,trivial⟩) ?_
      rintro V0 mX ⟨cC,Bz,hF⟩;replace hy:=(hy.t cv).t cC;refine bT (au 62 (.call {callee:=.builtin .append,args:=#[(.tmp 58),(.tmp 61)],argTypes:=#[53,53]})) rfl rfl (L3 (e:=47) (bytes:=16) hF (j:=5) (by decide) rfl rfl (by kernel_rfl) (by decide) hy Bz (by simp) (by simp only[List.length_cons,List.length_nil];omega) (by simp only[List.length_cons,List.length_nil];omega)) ?_;rintro Hx n5 ⟨vA,cR,hy,hF⟩;refine aD 5 62 (aR 6 (.bool true) (ai.nil (bS (bS (aq [af 0,af 1] ?_)))));refine bZ 63 3 17 1 (ah 17 63 (ai.nil ?_));replace hT:=((((((((hT.t s_2).t aH).t aV).t aQ).t bV).t ck).t cv).t cC).t cR;replace hl:=((((((((hl.t s_2).t aH).t aV).t aQ).t bV).t ck).t cv).t cC).t cR;replace hx:=((((((((hx.t s_2).t aH).t aV).t aQ).t bV).t ck).t cv).t cC).t cR;replace hs0:=(((((hs0.t aQ).t bV).t ck).t cv).t cC).t cR;refine kp (aL 1 rfl rfl (aL 2 rfl rfl (aL 5 rfl rfl (aL 6 rfl rfl (aL 15 rfl rfl (aL 16 rfl rfl (aL 17 rfl (eq_int (by simp)) (aY _)))))))) (d_ (k+1,true,zs++[(l[k]'aK).A],Hx,vA) _ ⟨(by first|omega|(simp only;omega)),(oG.add Bx hA hB (.inl ⟨rfl,hQ⟩) hP),(λ_=>by
           simp only[List.length_append,List.length_cons,List.length_nil];cases eg:g with
           |true=>have:=qk eg;omega
           |false=>have:=(mY eg).1;rw[this];omega),(λe=>by cases e),hF,hT,hl,hs0,hx,(.inl hy)⟩ (by first|omega|(simp only;omega)))
     refine cw (id:=9) (ops:=zb.oF) [] (gw) [af 0,af 1,af 2,af 4,af 5,af 6,nn 3,nn 7,af 8,af 9] cm (by kernel_rfl) (by kernel_rfl) (by kernel_rfl) ?_;intro pF cK;have hR:=ay.refl [] pF (gw);refine ah 33 5 (bD 34 49 8 0 0 ?_);replace hb:=(hb.t aQ).t cK;refine iN 35 47 34 2 (aZ (l[k]'aK).A) (hb.stay · (by decide)) ?_;refine ah 37 5 (bD 38 49 8 1 2 ?_);refine iN 39 47 38 2 (aZ (l[k]'aK).B) (hb.stay · (by decide)) ?_;replace hy:=((((hy.t s_2).t aH).t aV).t aQ).t cK;refine dI 36 61 [33,35] [53,47] Tryz.call61 rfl (lH (C:=iC) (c:=(l[k]'aK).A) (mS _) (hy.lF (by omega))) ?_;rintro _ t_ ⟨rfl,dx⟩;replace dx:=dx.re (gw);rw[lJ,decide_eq_false hP];refine⟨(hR.trans dx (by simp)).ext,?_⟩;replace hy:=hy.t dx;refine dI 40 61 [37,39] [53,47] Tryz.call61 rfl (lH (C:=iC) (c:=(l[k]'aK).B) (mS _) (hy.lF (by omega))) ?_;rintro _ vC ⟨rfl,ej⟩;replace ej:=ej.re (gw);rw[lJ,decide_eq_false hQ];replace hR:=hR.t dx;refine⟨(hR.trans ej (by simp)).ext,?_⟩;refine aD 9 36 (aD 10 40 ?_);refine ai.nil (bF 4 (aj (aq [af 0,af 1,af 2,af 3,af 4,af 5] ?_)));refine ah 42 9 (ah 43 42 ?_);refine aC 44 1 true (aC 45 1 true ?_);refine gl 46 43 45 ?_;refine aD 41 46 ?_;refine ai.nil (gD 41 (aj (aq [af 0,af 1,af 2,af 3,af 4,af 5] ?_)));refine ah 53 10 (ah 54 53 ?_);refine aC 55 1 true (aC 56 1 true ?_);refine gl 57 54 56 ?_;refine aD 52 57 ?_;refine ai.nil (gD 52 (bk (bS (bS (aq [af 0,af 1] ?_)))));refine bZ 63 3 17 1 (ah 17 63 (ai.nil ?_));replace hT:=((((((hT.t s_2).t aH).t aV).t aQ).t cK).t dx).t ej;replace hl:=((((((hl.t s_2).t aH).t aV).t aQ).t cK).t dx).t ej;replace hx:=((((((hx.t s_2).t aH).t aV).t aQ).t cK).t dx).t ej;replace hF:=(((hF.st aQ).st cK).st dx).st ej;replace hs0:=(((hs0.t aQ).t cK).t dx).t ej;replace hy:=hy.t ej
     refine kp (aL 1 rfl rfl (aL 2 rfl rfl (aL 5 rfl rfl (aL 6 rfl rfl (aL 15 rfl rfl (aL 16 rfl rfl (aL 17 rfl (eq_int (by simp)) (aY _)))))))) (d_ (k+1,g,zs,vy,gw) _ ⟨(by first|omega|(simp only;omega)),(by first|omega|(simp only;omega)),(by first|omega|(simp only;omega)),(λe=>by
           obtain⟨h1,h2⟩:=mY e;exact⟨h1,λi hi hl' a b=>by
             simp only at hi;by_cases e2:i=k
             ·subst e2;rw[<-h1];first|exact⟨λ_=>hQ,λ_=>hP⟩|exact⟨λe=>absurd e hP,λe=>absurd e hQ⟩
             ·exact h2 i (by omega) hl' a b⟩),hF,hT,hl,hs0,hx,hy⟩ (by first|omega|(simp only;omega)))
    refine aq [af 0,af 1,nn 2,nn 3,af 4,af 5,af 6,af 7,nn 8,nn 9,af 10,af 11] ?_;refine ah 21 1 (bD 22 49 8 0 0 ?_);refine dz 23 47 22 2 (aZ (l[k]'aK).A) hb.at_ ?_;replace hs0:=(hs0.t s_2).t aH;replace hF:=hF.st aH;refine bU 24 61 [21,23] [53,47] Tryz.call61 rfl (lH (c:=(l[k]'aK).A) hF hs0) ?_;rintro va sV ⟨rfl,eD⟩;rw[lJ,decide_eq_true hA];refine ax (au 25 (.unOp .not 4 (.tmp 24))) (λ_=>dF rfl) ?_;refine ah 26 25 ?_;refine aX 27 1 5 false (cW 28 49 8 1 2 5 false ?_);replace hb:=hb.t eD;refine lg 29 47 28 5 false 2 (aZ (l[k]'aK).B) hb.at_ ?_;replace hF:=hF.st eD;replace hs0:=hs0.t eD;refine dY (aA 30 (.call {callee:=.value (.func 61),args:=#[(.tmp 27),(.tmp 29)],argTypes:=#[53,47]}) 5 false) rfl rfl (cL Tryz.call61 rfl) (lH (c:=(l[k]'aK).B) hF hs0) ?_;rintro NL xl ⟨rfl,dG⟩;rw[lJ,decide_eq_false hB];refine ax (aA 31 (.unOp .not 4 (.tmp 30)) 5 false) (λ_=>dF rfl) ?_;refine eo 32 26 31 ?_;refine ai.nil (jI 32 (cA 3 ?_));refine aq [af 0,af 1] ?_;refine bZ 63 3 17 1 (ah 17 63 (ai.nil ?_));replace hT:=(((hT.t s_2).t aH).t eD).t dG;replace hl:=(((hl.t s_2).t aH).t eD).t dG;replace hx:=(((hx.t s_2).t aH).t eD).t dG;replace hy:=(((hy.t s_2).t aH).t eD).t dG;replace hF:=hF.st dG;replace hs0:=hs0.t dG;refine kp (aL 1 rfl rfl (aL 2 rfl rfl (aL 5 rfl rfl (aL 6 rfl rfl (aL 15 rfl rfl (aL 16 rfl rfl (aL 17 rfl (eq_int (by simp)) (aY _)))))))) (d_ (k+1,g,zs,vy,gw) _ ⟨(by first|omega|(simp only;omega)),(by first|omega|(simp only;omega)),(by first|omega|(simp only;omega)),(λe=>by
         obtain⟨h1,h2⟩:=mY e;exact⟨h1,λi hi hl' a b=>by
           simp only at hi;by_cases e2:i=k
           · subst e2;first|exact absurd a hA|exact absurd b hB
           · exact h2 i (by omega) hl' a b⟩),hF,hT,hl,hs0,hx,hy⟩ (by first|omega|(simp only;omega)))
   refine aq [af 0,af 1,nn 2,nn 3,af 4,af 5,af 6,af 7,nn 8,nn 9,af 10,af 11] ?_;refine ah 21 1 (bD 22 49 8 0 0 ?_);refine dz 23 47 22 2 (aZ (l[k]'aK).A) hb.at_ ?_;replace hs0:=(hs0.t s_2).t aH;replace hF:=hF.st aH;refine bU 24 61 [21,23] [53,47] Tryz.call61 rfl (lH (c:=(l[k]'aK).A) hF hs0) ?_;rintro Hz xm ⟨rfl,eG⟩;rw[lJ,decide_eq_false hA];refine ax (au 25 (.unOp .not 4 (.tmp 24))) (λ_=>dF rfl) ?_;refine ah 26 25 ?_;refine aC 27 5 false (aC 28 5 false ?_);refine c9 (aA 29 (.load 47 (.tmp 28)) 5 false) rfl rfl trivial ?_;refine c9 (aA 30 (.call {callee:=.value (.func 61),args:=#[(.tmp 27),(.tmp 29)],argTypes:=#[53,47]}) 5 false) rfl rfl trivial ?_;refine aC 31 5 false ?_;refine iM 32 26 31 ?_;refine ai.nil (jI 32 (cA 3 ?_));refine aq [af 0,af 1] ?_;refine bZ 63 3 17 1 (ah 17 63 (ai.nil ?_));replace hT:=((hT.t s_2).t aH).t eG;replace hl:=((hl.t s_2).t aH).t eG;replace hx:=((hx.t s_2).t aH).t eG;replace hy:=((hy.t s_2).t aH).t eG;replace hF:=hF.st eG;replace hs0:=hs0.t eG;refine kp (aL 1 rfl rfl (aL 2 rfl rfl (aL 5 rfl rfl (aL 6 rfl rfl (aL 15 rfl rfl (aL 16 rfl rfl (aL 17 rfl (eq_int (by simp)) (aY _)))))))) (d_ (k+1,g,zs,vy,gw) _ ⟨(by first|omega|(simp only;omega)),(by first|omega|(simp only;omega)),(by first|omega|(simp only;omega)),(λe=>by
        obtain⟨h1,h2⟩:=mY e;exact⟨h1,λi hi hl' a b=>by
          simp only at hi;by_cases e2:i=k
          · subst e2;first|exact absurd a hA|exact absurd b hB
          · exact h2 i (by omega) hl' a b⟩),hF,hT,hl,hs0,hx,hy⟩ (by first|omega|(simp only;omega)))
  have aK:k=l.length:=by omega
  refine cA 2 ?_;refine bS ?_;by_cases rY:g=true
  ·
   have hlt:=qk rY;refine kp (ak 1 (ak 2 (ak 5 (ak 6 (aY _))))) (cn (g,zs,vy,cO) _ ⟨oG,(λe=>by rw[rY] at e;cases e),hF,hT,hl,hs0,hx,hy⟩ (by simp only[rY];have:=oG.len;simp;omega))
  obtain⟨wq,xZ⟩:=mY (by simpa using rY);refine kp (aL 1 rfl rfl (aL 2 rfl rfl (aL 5 rfl rfl (aL 6 rfl rfl (aY _))))) (cn (g,zs,vy,cO) _ ⟨oG,(λ_ x hx a b=>by
        obtain⟨i,hi,rfl⟩:=List.getElem_of_mem hx;rw[wq];exact xZ i (by omega) hi a b),hF,hT,hl,hs0,hx,hy⟩ (by simp only[rY];rw[wq];simp))
 subst iu;refine cA 0 ?_;refine aj (aq [af 0,af 1,af 2,af 3,af 4,af 5] ?_);refine ah 64 5 ?_;refine zE 65 64 53 (hy.b8 rfl Tryz.underlying53) ?_;refine ah 66 1 ?_;refine zE 67 66 53 (hs0.b8 rfl Tryz.underlying53) ?_;refine ax (au 68 (.binOp .eql 3 (.tmp 65) (.tmp 67) 3)) (λ_=>dW (fO rfl rfl) (show _=Value.bool (j6 l s) from congrArg Value.bool (by rw[Bool.eq_iff_iff,decide_eq_true_iff];exact hR.fin hn (hg rfl)))) ?_;refine aD 4 68 (ai.nil ?_);refine bN Tryz.func95 Tryz.results95 ?_;exact⟨rfl,hT.bW (by decide)⟩
end
end Go.Proofs.YtdmgmlmlielfbaaGreat
set_option linter.unusedVariables false
set_option linter.unusedSimpArgs false
set_option maxRecDepth 100000
set_option maxHeartbeats 4000000
namespace Go.Proofs.YtdmgmlmlielfbaaGreat
open Go.K Go.K.bg
noncomputable section
namespace NM
def c0:=cz Tryz.f94
end NM
theorem V1 {w₀:World} {C:Nat->Nat} {ds:List bG} {bL b7:Value} {x a:av} {b1 b2:Nat} (hF:aM w₀ C) (hap:fm w₀ (aB C) ds b7) (h1:w₀.heap[b1]?=some (.cells [bL,b7].toArray 75)) (h2:w₀.heap[b2]?=some (.cells (aZ a).toArray 47)):Calls Tryz.prog 94 #[dg x,.pointer (some ⟨b1,0,none⟩),.pointer (some ⟨b2,0,none⟩)] w₀ (bM λv w'=>v=.bool (eC ds x a)/\ay [] w₀ C w' C):=by
 have bp:=hF;have hT:=z9 w₀ C;replace hF:=hF.bE;replace hap:fm w₀ (aB (bE C)) ds b7:=by rw[fP];exact hap
 replace h1:=jq.of h1 C;replace h2:=jq.of h2 C;refine ct NM.c0 9 [dg x,.pointer (some ⟨b1,0,none⟩),.pointer (some ⟨b2,0,none⟩)] Tryz.func94 ?_;show Run _ _ _ _ [(0,dg x),(1,.pointer (some ⟨b1,0,none⟩)),(2,.pointer (some ⟨b2,0,none⟩))] _ _;refine aj (aq [nn 0,af 1] ?_);refine bT (au 3 (.box 47 (.tmp 0))) rfl rfl (eU (cs:=aZ x) hF 3 rfl rfl) ?_;rintro _ w1 ⟨eu,c4,rfl,s_1,hb,hF⟩;refine aR 4 (.bool false) (ai.nil (aj (aq [nn 0,nn 1,nn 2,nn 3,af 4] ?_)));replace h1:=h1.t s_1;refine dz 5 75 1 2 ([bL,b7]) h1.at_ ?_;refine dz 6 47 3 2 (aZ x) hb.at_ ?_;replace h2:=h2.t s_1;refine dz 7 47 2 2 (aZ a) h2.at_ ?_;replace hap:=hap.t s_1;refine bU 8 80 [5,6,7] [75,47,47] Tryz.call80 rfl (Hv (a:=x) (b:=a) hF hap) ?_;rintro kz w2 ⟨rfl,s_2⟩;refine aD 4 8 (ai.nil ?_);refine bN Tryz.func94 Tryz.results94 ?_;replace hT:=(hT.t s_1).t s_2;exact⟨rfl,hT.bW (by decide)⟩
namespace NN
def c0:=cz Tryz.f54
end NN
theorem D_ {w₀:World} {C:Nat->Nat} {l:List aO} {ds:List bG} {s:List av} {bL b7 vs:Value} (hF:aM w₀ C) (hl:aG w₀ (aB C) l bL) (hap:fm w₀ (aB C) ds b7) (hs0:aG w₀ (aB C) s vs) (hlen:s.length<=8796093021952):Calls Tryz.prog 54 #[.agg #[bL,b7],vs] w₀ (bM λv w'=>v=.bool (mo l ds s)/\ay [] w₀ C w' C):=by
 have bp:=hF;have hT:=z9 w₀ C;replace hF:=hF.bE;replace hl:=hl.c1;replace hs0:=hs0.c1;replace hap:fm w₀ (aB (bE C)) ds b7:=by rw[fP];exact hap
 refine ct NN.c0 26 [.agg #[bL,b7],vs] Tryz.func54 ?_;show Run _ _ _ _ [(0,.agg #[bL,b7]),(1,vs)] _ _;refine aj (aq [nn 0,af 1] ?_);refine bT (au 2 (.box 75 (.tmp 0))) rfl rfl (eU (cs:=[bL,b7]) hF 3 rfl rfl) ?_;rintro _ w1 ⟨eu,c4,rfl,s_1,hx,hF⟩;refine aR 4 (.bool false) (ai.nil (aj (aj (aq [af 0,af 1,af 2] ?_))));refine ah 7 1 ?_;replace hs0:=hs0.t s_1;refine zE 8 7 53 (hs0.b8 rfl Tryz.underlying53) ?_;refine ax (au 9 (.binOp .lss 3 (.tmp 8) (.const (.int .i64 2)) 3)) (λ_=>eX rfl rfl) ?_;refine ai.nil ?_;refine bI 9 rfl (λe7=>?_) (λe7=>?_)
 ·
  refine aj (aq [af 0] ?_);refine aR 4 (.bool false) (ai.nil ?_);refine bN Tryz.func54 Tryz.results54 ?_;replace hT:=hT.t s_1;exact⟨by unfold mo;rw[decide_eq_false (by omega)];rfl,hT.bW (by decide)⟩
 have xo:2<=s.length:=by omega
 refine bk (aj (aj (aq [af 0,af 1,af 2] ?_)));refine ah 10 1 ?_;refine zE 11 10 53 (hs0.b8 rfl Tryz.underlying53) ?_;refine ig 12 (.int .i64 0) ?_;refine ai.nil (bF 0 ?_);replace hl:=hl.t s_1;refine cM (ι:=Nat×(Nat->Nat)) (I:=λx w=>x.1<=s.length/\(∀q (hq:q<x.1) (hl:q<s.length),(s.take q).any (λb=>eC ds b s[q])=false)/\aM w x.2/\ay [2,3,4,5,6,7,8,9] w₀ (bE C) w x.2/\aG w (aB x.2) l bL/\aG w (aB x.2) s vs/\fm w (aB x.2) ds b7/\dN w x.2 3 c4 (.cells [bL,b7].toArray 75)) (e:=λx=>[(1,vs),(2,.pointer (some ⟨c4,0,none⟩)),(10,vs),(11,.int .i64 s.length),(12,.int .i64 x.1)]) (m:=λx=>s.length-x.1) (cD:=(0,eu)) (ak 1 (ak 2 (ak 10 (ak 11 (ak 12 (aY _)))))) ?_ ?_
 ·
   replace hT:=hT.t s_1;replace hap:=hap.t s_1;exact⟨Nat.zero_le _,λq hq=>by simp only at hq;omega,hF,hT,hl,hs0,hap,hx⟩
 intro⟨i,bC⟩ w2 hI cn;obtain⟨hi,h0,hF,hT,hl,hs0,hap,hx⟩:=hI;try simp only at hi h0 hF hT hl hs0 hap hx
 show Run _ _ _ _ [(1,vs),(2,.pointer (some ⟨c4,0,none⟩)),(10,vs),(11,.int .i64 s.length),(12,.int .i64 i)] _ _;have hle:=hs0.le;refine aj (aq [af 0] ?_);refine dm 13 3 12 11 (ai.nil (aj ?_));refine bI 13 rfl (λiu=>?_) (λiu=>?_)
 ·
  have hil:i<s.length:=by omega
  refine bk (aj (bF 1 (aj (aq [af 0,af 1,nn 2,nn 3,af 4,nn 5] ?_))));refine ah 14 12 ?_;refine cq 47 15 53 10 12 hs0 rfl (h:=?_);intro Ny DZ gW;try simp only[aI] at gW
  refine ku (au 16 (.load 47 (.tmp 15))) rfl rfl trivial gW (by kernel_rfl) (by kernel_rfl) rfl rfl ?_;intro ql g16;obtain rfl:=bY.1 g16;refine bT (au 6 (.alloc 47)) rfl rfl (gJ (cs:=[.int .i64 0,.int .i64 0]) hF 4 (by kernel_rfl)) ?_;rintro _ w3 ⟨nM,pZ,rfl,s_2,ha,hF⟩;refine aD 5 14 ?_;refine cE (k0 (.store 47 (.tmp 6) (.tmp 16))) rfl (gB (vs:=aZ (s[i]'hil)) (n:=2) rfl rfl (by kernel_rfl) rfl rfl (g_ rfl) ha rfl) ?_;rintro _ w4 ⟨rfl,aH,ha⟩;refine ai.nil (aj (aq [af 0,af 1,af 2,af 3,nn 4] ?_));refine ah 17 1 (ah 18 5 ?_);replace hs0:=(hs0.t s_2).t aH;refine q8 (e':=47) (au 19 (.slice 53 (.tmp 17) none (some (.tmp 18)) none)) rfl rfl hs0 rfl (by kernel_rfl) rfl (by omega) (by omega) ?_;intro Aw nr;try simp only[aI] at nr
  refine ax (au 20 (.makeFunc (.func 94) #[] #[(.tmp 2),(.tmp 6)])) (λ_=>wu rfl rfl) ?_;replace hap:=(hap.t s_2).t aH;replace hx:=(hx.t s_2).t aH;replace hF:=hF.st aH;have eO:∀w1,ay [] _ (nM) w1 (nM)->∀x∈s.take i,Calls Tryz.prog 94 ([dg x]++#[Value.pointer (some ⟨c4,0,none⟩),Value.pointer (some ⟨pZ,0,none⟩)].toList).toArray w1 (bM λv w'=>v=.bool (eC ds x (s[i]'hil))/\ay [] w1 (nM) w' (nM)):=λw1 h1 x _=>V1 (hF.st h1) (hap.st h1 (by decide)) (h1.same hx.at_) (h1.same ha.at_);refine bU 21 77 [19,20] [53,114] Tryz.call77 rfl (Bv (p:=λx=>eC ds x (s[i]'hil)) (nf:=94) (caps:=#[Value.pointer (some ⟨c4,0,none⟩),Value.pointer (some ⟨pZ,0,none⟩)]) (λargs w=>Tryz.call94 args w) eO hF nr) ?_;rintro ox ew ⟨rfl,aV⟩;refine ai.nil ?_;refine iL 21 rfl (λkO=>?_) (λkO=>?_)
  ·
   have hno:=L7 hil kO;refine aj (aq [af 0] ?_);refine aR 4 (.bool false) (ai.nil ?_);refine bN Tryz.func54 Tryz.results54 ?_;replace hT:=((hT.t s_2).t aH).t aV;exact⟨by unfold mo;rw[hno];simp,hT.bW (by decide)⟩
  skip
  refine bk (bS (aq [af 0,af 1] ?_));refine bZ 22 3 12 1 (ah 12 22 (ai.nil ?_));replace hT:=((hT.t s_2).t aH).t aV;replace hl:=((hl.t s_2).t aH).t aV;replace hF:=hF.st aV;replace hs0:=hs0.t aV;replace hap:=hap.t aV;replace hx:=hx.t aV;refine kp (aL 1 rfl rfl (aL 2 rfl rfl (aL 10 rfl rfl (aL 11 rfl rfl (aL 12 rfl (eq_int (by simp)) (aY _)))))) (cn (i+1,nM) _ ⟨(by first|omega|(simp only;omega)),(λq hq j_=>by
    simp only at hq;by_cases e:q=i
    ·subst e;exact kO
    ·exact h0 q (by omega) j_),hF,hT,hl,hs0,hap,hx⟩ (by first|omega|(simp only;omega)))
 have hil:i=s.length:=by omega
 refine cA 0 ?_;refine aj (aq [nn 0,af 1,nn 2,af 3] ?_);have oB:=L6 (λq hq=>h0 q (by omega) hq);refine dz 23 75 2 2 ([bL,b7]) hx.at_ ?_;refine ah 24 1 ?_;refine bU 25 95 [23,24] [75,53] Tryz.call95 rfl (NK (b7:=b7) hF hl hs0 (by omega) (L5 (Du.1 oB)) hlen) ?_;rintro mh fh ⟨rfl,aQ⟩;refine aD 4 25 (ai.nil ?_);refine bN Tryz.func54 Tryz.results54 ?_;replace hT:=hT.t aQ;exact⟨by unfold mo;rw[oB,decide_eq_true xo];rfl,hT.bW (by decide)⟩
end
end Go.Proofs.YtdmgmlmlielfbaaGreat
set_option linter.unusedVariables false
set_option linter.unusedSimpArgs false
set_option maxRecDepth 100000
set_option maxHeartbeats 4000000
namespace Go.Proofs.YtdmgmlmlielfbaaGreat
open Go.K Go.K.bg
noncomputable section
namespace NP
def c0:=cz Tryz.f63
end NP
theorem V2 {w₀:World} {C:Nat->Nat} {l:List (List av)} {aF:Value} {p:List av->Bool} {nf:Nat} {caps:Array Value} (l7:∀args w,(callFunc nf args).run Tryz.prog w=.ok (.enter nf args) w) (hp:∀w1,ay [] w₀ C w1 C->∀x∈l,∀vx,aG w1 (aB C) x vx->Calls Tryz.prog nf ([vx]++caps.toList).toArray w1 (bM λv w'=>v=.bool (p x)/\ay [] w1 C w' C)) (hF:aM w₀ C) (hl:aG w₀ (aB C) l aF):Calls Tryz.prog 63 #[aF,.func (.func nf) #[] caps] w₀ (bM λv w'=>v=.int .i64 (idxOf p l)/\ay [] w₀ C w' C):=by
 have hT:=ay.refl [] w₀ C;refine ct NP.c0 19 [aF,.func (.func nf) #[] caps] Tryz.func63 ?_;show Run _ _ _ _ [(0,aF),(1,.func (.func nf) #[] caps)] _ _;refine aj (aq [af 0] ?_);refine aR 4 (.int .i64 0) (ai.nil (aj (aj (aq [af 0,af 1,af 2] ?_))));refine ah 6 0 ?_;refine zE 7 6 25 (hl.b8 rfl Tryz.underlying25) ?_;refine ig 8 (.int .i64 0) ?_;refine ai.nil (bF 0 ?_);refine cM (ι:=Nat) (I:=λx w=>x<=l.length/\(∀i (hi:i<x) (hl:i<l.length),p l[i]=false)/\aM w C/\ay [] w₀ C w C/\aG w (aB C) l aF) (e:=λx=>[(0,aF),(1,.func (.func nf) #[] caps),(7,.int .i64 l.length),(8,.int .i64 x)]) (m:=λx=>l.length-x) (cD:=0) (ak 0 (ak 1 (ak 7 (ak 8 (aY _))))) ?_ ?_
 · exact⟨Nat.zero_le _,λi hi _=>by first|omega|(simp only at hi;omega),hF,hT,hl⟩
 intro k w1 hI cn;obtain⟨hk,h0,hF,hT,hl⟩:=hI;try simp only at hk h0 hF hT hl
 show Run _ _ _ _ [(0,aF),(1,.func (.func nf) #[] caps),(7,.int .i64 l.length),(8,.int .i64 k)] _ _;have hle:=hl.le;refine aj (aq [af 0] ?_);refine dm 9 3 8 7 (ai.nil (aj ?_));refine bI 9 rfl (λe7=>?_) (λe7=>?_)
 ·
  have aK:k<l.length:=by omega
  refine bk (aj (bF 1 (aj (aq [af 0,af 1] ?_))));refine ah 10 8 (aD 5 10 (ai.nil (aj (aq [af 0,af 1,af 2,af 3,nn 4,nn 5] ?_))));refine ah 11 1 (ah 12 0 (ah 13 5 ?_));refine cq 53 14 25 12 13 hl rfl (h:=?_);intro rL kK er;try simp only[aI] at er
  refine jt (au 15 (.load 53 (.tmp 14))) rfl rfl trivial er (by kernel_rfl) rfl rfl ?_;intro tF g15;refine dY (au 16 (.call {callee:=.value (.tmp 11),args:=#[(.tmp 15)],argTypes:=#[53]})) rfl rfl (uB l7 rfl rfl) (hp _ hT (l[k]'aK) (List.getElem_mem aK) _ g15) ?_;rintro kz w2 ⟨rfl,s_1⟩;refine ai.nil ?_;refine iL 16 rfl (λdK=>?_) (λdK=>?_)
  ·
   refine aj (aq [af 0,af 1] ?_);refine ah 17 5 (aD 4 17 (ai.nil ?_));refine bN Tryz.func63 Tryz.results63 ?_;replace hT:=hT.t s_1;exact⟨by rw[wD aK (λi hi=>h0 i hi (by omega)) dK],hT⟩
  refine bk (bS (aq [af 0,af 1] ?_));refine bZ 18 3 8 1 (ah 8 18 (ai.nil ?_));replace hF:=hF.st s_1;replace hT:=hT.t s_1;replace hl:=hl.t s_1;refine kp (aL 0 rfl rfl (aL 1 rfl rfl (aL 7 rfl rfl (aL 8 rfl (eq_int (by simp)) (aY _))))) (cn (k+1) _ ⟨(by first|omega|(simp only;omega)),(λi hi hl=>by
    by_cases e:i=k
    ·subst e;exact dK
    ·exact h0 i (by first|omega|(simp only at hi;omega)) hl),hF,hT,hl⟩ (by first|omega|(simp only;omega)))
 have aK:k=l.length:=by omega
 refine cA 0 ?_;refine aj (aq [af 0] ?_);refine ax (au 4 (.assign (.const (.int .i64 (-1))))) (λ_=>nJ rfl) ?_;refine ai.nil ?_;refine bN Tryz.func63 Tryz.results63 ?_;exact⟨by rw[Az (λi hi=>h0 i (by omega) hi)],hT⟩
namespace NQ
def c0:=cz Tryz.f59
end NQ
theorem V3 {w₀:World} {C:Nat->Nat} {l:List (List av)} {aF:Value} {p:List av->Bool} {nf:Nat} {caps:Array Value} (l7:∀args w,(callFunc nf args).run Tryz.prog w=.ok (.enter nf args) w) (hp:∀w1,ay [] w₀ C w1 C->∀x∈l,∀vx,aG w1 (aB C) x vx->Calls Tryz.prog nf ([vx]++caps.toList).toArray w1 (bM λv w'=>v=.bool (p x)/\ay [] w1 C w' C)) (hF:aM w₀ C) (hl:aG w₀ (aB C) l aF):Calls Tryz.prog 59 #[aF,.func (.func nf) #[] caps] w₀ (bM λv w'=>v=.bool (l.any p)/\ay [] w₀ C w' C):=by
 have hT:=ay.refl [] w₀ C;refine ct NQ.c0 9 [aF,.func (.func nf) #[] caps] Tryz.func59 ?_;show Run _ _ _ _ [(0,aF),(1,.func (.func nf) #[] caps)] _ _;refine aj (aq [af 0] ?_);refine aR 4 (.bool false) (ai.nil (aj (aq [af 0,af 1,nn 2,af 3,af 4] ?_)));refine ah 5 0 (ah 6 1 ?_);refine bU 7 63 [5,6] [25,86] Tryz.call63 rfl (V2 l7 hp hF hl) ?_;rintro j3 w1 ⟨rfl,s_1⟩;refine ax (au 8 (.binOp .geq 3 (.tmp 7) (.const (.int .i64 0)) 3)) (λ_=>e6 rfl rfl) ?_;refine aD 4 8 (ai.nil ?_);refine bN Tryz.func59 Tryz.results59 ?_;replace hT:=hT.t s_1;exact⟨by rw[tH],hT⟩
end
end Go.Proofs.YtdmgmlmlielfbaaGreat
set_option linter.unusedVariables false
set_option linter.unusedSimpArgs false
set_option maxRecDepth 100000
set_option maxHeartbeats 4000000
namespace Go.Proofs.YtdmgmlmlielfbaaGreat
open Go.K Go.K.bg
noncomputable section
namespace NR
def c0:=cz Tryz.f60
end NR
theorem V4 {w₀:World} {C:Nat->Nat} {b:aO} {x:List av} {vx:Value} {b1:Nat} (hF:aM w₀ C) (hx:aG w₀ (aB C) x vx) (h1:w₀.heap[b1]?=some (.cells (j0 b).toArray 49)):Calls Tryz.prog 60 #[vx,.pointer (some ⟨b1,0,none⟩)] w₀ (bM λv w'=>v=.bool (qG b x)/\ay [] w₀ C w' C):=by
 have bp:=hF;have hT:=z9 w₀ C;replace hF:=hF.bE;replace hx:=hx.c1;replace h1:=jq.of h1 C;refine ct NR.c0 14 [vx,.pointer (some ⟨b1,0,none⟩)] Tryz.func60 ?_;show Run _ _ _ _ [(0,vx),(1,.pointer (some ⟨b1,0,none⟩))] _ _;refine aj (aq [af 0] ?_);refine aR 3 (.bool false) (ai.nil (aj ?_));by_cases hA:b.A∈x
 ·
  by_cases hB:b.B∈x
  ·
   refine aq [af 0,af 1,nn 2,nn 3,af 4,af 5,af 6,nn 7,nn 8,af 9,af 10] ?_;refine ah 4 0 (bD 5 49 1 0 0 ?_);refine dz 6 47 5 2 (aZ b.A) h1.at_ ?_;refine bU 7 61 [4,6] [53,47] Tryz.call61 rfl (lH (c:=b.A) hF hx) ?_;rintro j3 w1 ⟨rfl,s_1⟩;rw[lJ,decide_eq_true hA];refine ah 8 7 ?_;refine aX 9 0 4 true (cW 10 49 1 1 2 4 true ?_);replace h1:=h1.t s_1;refine lg 11 47 10 4 true 2 (aZ b.B) h1.at_ ?_;replace hF:=hF.st s_1;replace hx:=hx.t s_1;refine dY (aA 12 (.call {callee:=.value (.func 61),args:=#[(.tmp 9),(.tmp 11)],argTypes:=#[53,47]}) 4 true) rfl rfl (cL Tryz.call61 rfl) (lH (c:=b.B) hF hx) ?_;rintro kz w2 ⟨rfl,s_2⟩;rw[lJ,decide_eq_true hB];refine en 13 8 12 ?_;refine aD 3 13 (ai.nil ?_);refine bN Tryz.func60 Tryz.results60 ?_;replace hT:=(hT.t s_1).t s_2;exact⟨by rw[FX,decide_eq_true hA,decide_eq_true hB];rfl,hT.bW (by decide)⟩
  refine aq [af 0,af 1,nn 2,nn 3,af 4,af 5,af 6,nn 7,nn 8,af 9,af 10] ?_;refine ah 4 0 (bD 5 49 1 0 0 ?_);refine dz 6 47 5 2 (aZ b.A) h1.at_ ?_;refine bU 7 61 [4,6] [53,47] Tryz.call61 rfl (lH (c:=b.A) hF hx) ?_;rintro lq w3 ⟨rfl,aH⟩;rw[lJ,decide_eq_true hA];refine ah 8 7 ?_;refine aX 9 0 4 true (cW 10 49 1 1 2 4 true ?_);replace h1:=h1.t aH;refine lg 11 47 10 4 true 2 (aZ b.B) h1.at_ ?_;replace hF:=hF.st aH;replace hx:=hx.t aH;refine dY (aA 12 (.call {callee:=.value (.func 61),args:=#[(.tmp 9),(.tmp 11)],argTypes:=#[53,47]}) 4 true) rfl rfl (cL Tryz.call61 rfl) (lH (c:=b.B) hF hx) ?_;rintro j4 w4 ⟨rfl,aV⟩;rw[lJ,decide_eq_false hB];refine en 13 8 12 ?_;refine aD 3 13 (ai.nil ?_);refine bN Tryz.func60 Tryz.results60 ?_;replace hT:=(hT.t aH).t aV;exact⟨by rw[FX,decide_eq_true hA,decide_eq_false hB];rfl,hT.bW (by decide)⟩
 refine aq [af 0,af 1,nn 2,nn 3,af 4,af 5,af 6,nn 7,nn 8,af 9,af 10] ?_;refine ah 4 0 (bD 5 49 1 0 0 ?_);refine dz 6 47 5 2 (aZ b.A) h1.at_ ?_;refine bU 7 61 [4,6] [53,47] Tryz.call61 rfl (lH (c:=b.A) hF hx) ?_;rintro ox ew ⟨rfl,aQ⟩;rw[lJ,decide_eq_false hA];refine ah 8 7 ?_;refine aC 9 4 true (aC 10 4 true ?_);refine c9 (aA 11 (.load 47 (.tmp 10)) 4 true) rfl rfl trivial ?_;refine c9 (aA 12 (.call {callee:=.value (.func 61),args:=#[(.tmp 9),(.tmp 11)],argTypes:=#[53,47]}) 4 true) rfl rfl trivial ?_;refine gl 13 8 12 ?_;refine aD 3 13 (ai.nil ?_);refine bN Tryz.func60 Tryz.results60 ?_;replace hT:=hT.t aQ;exact⟨by rw[FX,decide_eq_false hA];rfl,hT.bW (by decide)⟩
namespace NS
def c0:=cz Tryz.f28
end NS
theorem HA {w₀:World} {C:Nat->Nat} {l:List aO} {ps:List (List av)} {aF cu:Value} (hF:aM w₀ C) (hl:aG w₀ (aB C) l aF) (hp:aG w₀ (aB C) ps cu):Calls Tryz.prog 28 #[aF,cu] w₀ (bM λv w'=>v=.int .i64 (IntKind.i64.wrap (eN l ps))/\ay [] w₀ C w' C):=by
 have bp:=hF;have hT:=z9 w₀ C;replace hF:=hF.bE;replace hl:=hl.c1;replace hp:=hp.c1;refine ct NS.c0 23 [aF,cu] Tryz.func28 ?_;show Run _ _ _ _ [(0,aF),(1,cu)] _ _;refine aj (aq [af 0] ?_);refine aR 4 (.int .i64 0) (ai.nil (aj (aq [af 0] ?_)));refine aR 5 (.int .i64 0) (ai.nil (aj (aj (aq [af 0,af 1,af 2] ?_))));refine ah 8 0 ?_;refine zE 9 8 23 (hl.b8 rfl Tryz.underlying23) ?_;refine ig 10 (.int .i64 0) ?_;refine ai.nil (bF 0 ?_);refine cM (ι:=Nat×(Nat->Nat)) (I:=λx w=>x.1<=l.length/\aM w x.2/\ay [2,3,4,5,6,7,8,9] w₀ (bE C) w x.2/\aG w (aB x.2) l aF/\aG w (aB x.2) ps cu) (e:=λx=>[(1,cu),(5,.int .i64 (IntKind.i64.wrap (eN (l.take x.1) ps))),(8,aF),(9,.int .i64 l.length),(10,.int .i64 x.1)]) (m:=λx=>l.length-x.1) (cD:=(0,bE C)) (ak 1 (aL 5 rfl (eq_int (by simp[eN];rfl)) (ak 8 (ak 9 (ak 10 (aY _)))))) ?_ ?_
 · exact⟨Nat.zero_le _,hF,hT,hl,hp⟩
 intro⟨k,bC⟩ w1 hI cn;obtain⟨hk,hF,hT,hl,hp⟩:=hI;try simp only at hk hF hT hl hp
 show Run _ _ _ _ [(1,cu),(5,.int .i64 (IntKind.i64.wrap (eN (l.take k) ps))),(8,aF),(9,.int .i64 l.length),(10,.int .i64 k)] _ _;have hle:=hl.le;refine aj (aq [af 0] ?_);refine dm 11 3 10 9 (ai.nil (aj ?_));refine bI 11 rfl (λkY=>?_) (λkY=>?_)
 ·
  have aK:k<l.length:=by omega
  have uc:=FW aK ps;refine bk (aj (bF 1 (aj (aq [af 0,nn 1,nn 2,nn 3] ?_))));refine cq 49 12 23 8 10 hl rfl (h:=?_);intro nO oa h12;try simp only[aI] at h12
  refine ku (au 13 (.load 49 (.tmp 12))) rfl rfl trivial h12 (by kernel_rfl) (by kernel_rfl) rfl rfl ?_;intro yE g13;obtain rfl:=jK.1 g13;refine bT (au 7 (.alloc 49)) rfl rfl (gJ (cs:=[.int .i64 0,.int .i64 0,.int .i64 0,.int .i64 0,.int .i64 0]) hF 4 (by kernel_rfl)) ?_;rintro _ w2 ⟨dM,fW,rfl,s_1,hb,hF⟩;refine cE (k0 (.store 49 (.tmp 7) (.tmp 13))) rfl (gB (vs:=j0 (l[k]'aK)) (n:=5) rfl rfl (by kernel_rfl) rfl rfl (g_ rfl) hb rfl) ?_;rintro _ w3 ⟨rfl,s_2,hb⟩;refine ai.nil (aj (aq [af 0,af 1,nn 2] ?_));refine ah 14 1 ?_;refine ax (au 15 (.makeFunc (.func 60) #[] #[(.tmp 7)])) (λ_=>wu rfl rfl) ?_;replace hF:=hF.st s_2;have eO:∀w1,ay [] _ (dM) w1 (dM)->∀x∈ps,∀vx,aG w1 (aB (dM)) x vx->Calls Tryz.prog 60 ([vx]++#[Value.pointer (some ⟨fW,0,none⟩)].toList).toArray w1 (bM λv w'=>v=.bool (qG (l[k]'aK) x)/\ay [] w1 (dM) w' (dM)):=λw1 h1 x _ vx hx=>V4 (hF.st h1) hx (h1.same hb.at_);replace hp:=(hp.t s_1).t s_2;refine bU 16 59 [14,15] [25,86] Tryz.call59 rfl (V3 (p:=qG (l[k]'aK)) (nf:=60) (caps:=#[Value.pointer (some ⟨fW,0,none⟩)]) (λargs w=>Tryz.call60 args w) eO hF hp) ?_;rintro j4 w4 ⟨rfl,aH⟩;refine ai.nil ?_;refine iL 16 rfl (λdK=>?_) (λdK=>?_)
  ·
   rw[if_pos dK] at uc;refine aq [af 0,af 1,nn 2,af 3,af 4] ?_;refine ah 17 5 (bD 18 49 7 2 4 ?_);replace hb:=hb.t aH;refine dL 19 3 18 hb.at_ rfl rfl ?_;refine ax (au 20 (.binOp .add 3 (.tmp 17) (.tmp 19) 3)) (λ_=>dW (val_add rfl rfl) (congrArg (Value.int .i64) (M4 _ _))) ?_;refine aD 5 20 (ai.nil (bS (aq [af 0,af 1] ?_)));refine bZ 21 3 10 1 (ah 10 21 (ai.nil ?_));replace hT:=((hT.t s_1).t s_2).t aH;replace hl:=((hl.t s_1).t s_2).t aH;replace hF:=hF.st aH;replace hp:=hp.t aH;refine kp (ak 1 (aL 5 rfl (eq_int (by simp only;rw[uc])) (ak 8 (ak 9 (aL 10 rfl (eq_int (by simp)) (aY _)))))) (cn (k+1,dM) _ ⟨(by first|omega|(simp only;omega)),hF,hT,hl,hp⟩ (by first|omega|(simp only;omega)))
  rw[if_neg (by rw[dK];decide)] at uc;refine bk (bS (aq [af 0,af 1] ?_));refine bZ 21 3 10 1 (ah 10 21 (ai.nil ?_));replace hT:=((hT.t s_1).t s_2).t aH;replace hl:=((hl.t s_1).t s_2).t aH;replace hF:=hF.st aH;replace hp:=hp.t aH;refine kp (ak 1 (aL 5 rfl (eq_int (by simp only;rw[uc])) (ak 8 (ak 9 (aL 10 rfl (eq_int (by simp)) (aY _)))))) (cn (k+1,dM) _ ⟨(by first|omega|(simp only;omega)),hF,hT,hl,hp⟩ (by first|omega|(simp only;omega)))
 have aK:k=l.length:=by omega
 refine cA 0 ?_;refine aj (aq [af 0,af 1] ?_);refine ah 22 5 (aD 4 22 (ai.nil ?_));refine bN Tryz.func28 Tryz.results28 ?_;exact⟨by rw[aK,u0],hT.bW (by decide)⟩
theorem NT {w₀:World} {C:Nat->Nat} {l:List aO} {ps:List (List av)} {aF cu:Value} (hF:aM w₀ C) (hl:aG w₀ (aB C) l aF) (hp:aG w₀ (aB C) ps cu) (hw:∀x∈l,1<=x.w/\x.w<=1048576) (hlen:l.length<=4096):Calls Tryz.prog 28 #[aF,cu] w₀ (bM λv w'=>v=.int .i64 (eN l ps)/\ay [] w₀ C w' C):=by
 have h:=HA hF hl hp;have hb:=wJ hw ps l.length (Nat.le_refl _);rw[u0] at hb;rw[A0 (by omega) (by omega)] at h;exact h
end
end Go.Proofs.YtdmgmlmlielfbaaGreat
