/- Steps through functions of the program. -/
import Derived.Test.YtmdhggfehknjjaaGreatJD4E2
import Derived.Test.YtmdhggfehknjjaaGreatL2
import Derived.Test.YtmdhggfehknjjaaGreatJE9F5
import Derived.Test.YtmdhggfehknjjaaGreatJF6
import Derived.Test.YtmdhggfehknjjaaGreatJE3E8
import Derived.Test.YtmdhggfehknjjaaGreatL3
import Derived.Test.YtmdhggfehknjjaaGreatJC6X0
set_option maxRecDepth 100000
set_option maxHeartbeats 4000000
namespace Go.Proofs.YtmdhggfehknjjaaGreat
open Go.K Go.K.aZ
noncomputable section
namespace aaz
def c0:=cw Tryz.f136
end aaz
theorem aaA {w₀:World} {C:Nat->Nat} {ds:List bC} {bz c4:Value} {x a:ak} {b1 b2:Nat} (hF:aL w₀ C) (hap:gp w₀ (au C) ds c4) (h1:w₀.heap[b1]?=some (.cells [bz,c4].toArray 129)) (h2:w₀.heap[b2]?=some (.cells (bh a).toArray 55)):Calls Tryz.prog 136 #[dH x,.pointer (some ⟨b1,0,none⟩),.pointer (some ⟨b2,0,none⟩)] w₀ (bH λv w'=>v=.bool (eU ds a x)/\ax [] w₀ C w' C):=by
 have bq:=hF;have hT:=z9 w₀ C;replace hF:=hF.bk;replace hap:gp w₀ (au (bk C)) ds c4:=by rw[fu];exact hap
 replace h1:=j0.of h1 C;replace h2:=j0.of h2 C;refine cg Tryz.func136 ?_;refine aG 2 ?_ [2];refine bD (eX (cs:=bh x) hF 3 rfl rfl) ?_;rintro _ w1 ⟨eP,ct,rfl,s_1,hb,hF⟩;refine bQ 4 ?_ [16];replace h1:=h1.t s_1;refine cu 2 ([bz,c4]) h1.at_ ?_;replace h2:=h2.t s_1;refine cu 2 (bh a) h2.at_ ?_;refine cu 2 (bh x) hb.at_ ?_;replace hap:=hap.t s_1;refine bZ Tryz.call137 (M_ (a:=a) (b:=x) hF hap) ?_;rintro kO w2 ⟨rfl,s_2⟩;refine ay 2 ?_;refine bI Tryz.func136 ?_;replace hT:=(hT.t s_1).t s_2;exact⟨rfl,hT.bN ai⟩
namespace aaB
def c0:=cw Tryz.f135
end aaB
theorem UI {w₀:World} {C:Nat->Nat} {ds:List bC} {bz c4 gL:Value} {a:ak} {q:List ak} {b1 b2:Nat} (hF:aL w₀ C) (hap:gp w₀ (au C) ds c4) (hq:av w₀ (au C) q gL) (h1:w₀.heap[b1]?=some (.cells [bz,c4].toArray 129)) (h2:w₀.heap[b2]?=some (.cells [gL].toArray 52)):Calls Tryz.prog 135 #[dH a,.pointer (some ⟨b2,0,none⟩),.pointer (some ⟨b1,0,none⟩)] w₀ (bH λv w'=>v=.bool (q.any λx=>eU ds a x)/\ax [] w₀ C w' C):=by
 have bq:=hF;have hT:=z9 w₀ C;replace hF:=hF.bk;replace hap:gp w₀ (au (bk C)) ds c4:=by rw[fu];exact hap
 replace hq:=hq.c1;replace h1:=j0.of h1 C;replace h2:=j0.of h2 C;refine cg Tryz.func135 ?_;refine aG 2 ?_ [2];refine bD (eX (cs:=bh a) hF 3 rfl rfl) ?_;rintro _ w1 ⟨eP,ct,rfl,s_1,hb,hF⟩;refine bQ 4 ?_ [10];replace h2:=h2.t s_1;refine bU h2.at_ ?_;refine bK (λ_=>AB rfl rfl) ?_;replace hap:=hap.t s_1;replace h1:=h1.t s_1;have fG:∀w1,ax [] _ (eP) w1 (eP)->∀x∈q,Calls Tryz.prog 136 ([dH x]++#[Value.pointer (some ⟨b1,0,none⟩),Value.pointer (some ⟨ct,0,none⟩)].toList).toArray w1 (bH λv w'=>v=.bool (eU ds a x)/\ax [] w1 (eP) w' (eP)):=λw1 yW x _=>aaA (hF.st yW) (hap.st yW ai) (yW.same h1.at_) (yW.same hb.at_);replace hq:=hq.t s_1;refine bZ Tryz.call134 (FH (p:=λx=>eU ds a x) (nf:=136) (caps:=#[Value.pointer (some ⟨b1,0,none⟩),Value.pointer (some ⟨ct,0,none⟩)]) (λargs w=>Tryz.call136 args w) fG hF hq) ?_;rintro kO w2 ⟨rfl,s_2⟩;refine ay 2 ?_;refine bI Tryz.func135 ?_;replace hT:=(hT.t s_1).t s_2;exact⟨rfl,hT.bN ai⟩
end
end Go.Proofs.YtmdhggfehknjjaaGreat
namespace Go.Proofs.YtmdhggfehknjjaaGreat
open Go.K Go.K.aZ
noncomputable section
theorem aaC {s:List ak} {r:ak} (h: (1:Int)<s.length):s[(0:Int).toNat]'sV=r↔1<s.length/\s.head?=some r:=by
 rw[List.head?_eq_getElem?,List.getElem?_eq_getElem ah];simp only[Option.some.injEq];exact⟨λe=>⟨by omega,e⟩,λe=>e.2⟩
namespace aaD
def c0:=cw Tryz.f79
def rI:=(aC (aC (aC (aC (aC c0)))))
def A7:=(aC (cl (cl (aC (cl rI)))))
def Nh:=(cl (aC (cl (cl (aC A7)))))
def DJ:=di Nh
def aaE:=(cl (aC (cl (aC (aC rI)))))
def NP:=(cl (cl (aC (aC (cl aaE)))))
def xK:=di (cl (aC (aC NP)))
end aaD
theorem aaF {w₀:World} {C:Nat->Nat} {l:List aD} {ds:List bC} {bz c4 aK:Value} (hF:aL w₀ C) (hl:av w₀ (au C) l aK) (hap:gp w₀ (au C) ds c4) (hne:l≠[]) (hlen:l.length<=4096):Calls Tryz.prog 79 #[.agg #[bz,c4],aK] w₀ (bH λv w'=>∃zs,fH iL l zs/\ax [] w₀ C w' C/\av w' (au C) (nq (aO l) (dW ds zs)) v):=by
 have bq:=hF;have hT:=z9 w₀ C;replace hF:=hF.bk;replace hl:=hl.c1;replace hap:gp w₀ (au (bk C)) ds c4:=by rw[fu];exact hap
 have ag0:=lJ l;refine cg Tryz.func79 ?_;refine aG 2 ?_ [2];refine bD (eX (cs:=[bz,c4]) hF 3 rfl rfl) ?_;rintro _ w1 ⟨eP,ct,rfl,s_1,hx,hF⟩;refine bQ 4 ?_ [2];refine bD (Cv hF 5 dH (λs:gC=>s.v)) ?_;rintro _ EY ⟨v8,bm,rfl,s_2,hm,hF⟩;refine bQ 6 ?_ [13];replace hl:=(hl.t s_1).t s_2;refine dc Tryz.call130 rfl (C9 hF hl ah) ?_;rintro NQ w2 ⟨aB,hrf⟩;refine dE hrf.ln ?_;refine ay 3 ?_;refine cH (ι:=Nat×(List (ak×gC))×(Nat->Nat)) (I:=λx w=>x.1<=(aO l).length/\aL w x.2.2/\ax [2,3,4,5,6,7,8,9] w₀ (bk C) w x.2.2/\av w (au x.2.2) l aK/\gp w (au x.2.2) ds c4/\cE w x.2.2 3 ct (.cells [bz,c4].toArray 129)/\fZ w x.2.2 5 bm dH (λs:gC=>s.v) x.2.1/\av w (au x.2.2) (aO l) NQ/\mO w x.2.2 x.2.1 ((aO l).take x.1) (λr=>[r])) (e:=λx=>[(1,aK),(2,.pointer (some ⟨ct,0,none⟩)),(5,.map (some bm)),(22,NQ),(23,.int .i64 (aO l).length),(24,.int .i64 x.1)]) (m:=λx=>(aO l).length-x.1) (cC:=(0,[],v8)) (af 1 (af 2 (af 5 (af 22 (af 23 (af 24 (aR _))))))) ?_ ?_
 ·
   replace hT:=((hT.t s_1).t s_2).t aB;replace hap:=((hap.t s_1).t s_2).t aB;replace hx:=(hx.t s_2).t aB;replace hF:=hF.st aB;replace hl:=hl.t aB;replace hm:=hm.t aB;exact⟨Nat.zero_le _,hF,hT,hl,hap,hx,hm,hrf,mO.nil⟩
 intro⟨i,m,a_⟩ w3 hI bV;obtain⟨hi,hF,hT,hl,hap,hx,hm,hrf,hg⟩:=hI;try simp only at hi hF hT hl hap hx hm hrf hg
 show Run _ _ _ _ [(1,aK),(2,.pointer (some ⟨ct,0,none⟩)),(5,.map (some bm)),(22,NQ),(23,.int .i64 (aO l).length),(24,.int .i64 i)] _ _;have hle:=hrf.le;refine aI 5 ?_ [1];refine bF 25 rfl (λje=>?_) (λje=>?_)
 ·
  have hil:i<(aO l).length:=by omega
  refine aG 5 ?_ [1];refine bn hrf ?_;intro _ iN xK nV;refine iq nV ?_;intro zw Ba;obtain rfl:=bR.1 Ba;refine bD (fD (cs:=[.int .i64 0,.int .i64 0]) hF 4 aq) ?_;rintro _ w4 ⟨gR,pE,rfl,aM,ha,hF⟩;refine cq (eO (vs:=bh (((aO l)[i]'hil))) (n:=2) rfl rfl aq rfl rfl (jf rfl) ha rfl) ?_;rintro _ ez ⟨rfl,aV,ha⟩;refine bQ 3 ?_ [1];refine cu 2 (bh ((aO l)[i]'hil)) ha.at_ ?_;refine cu 2 (bh ((aO l)[i]'hil)) ha.at_ ?_;replace hF:=hF.st aV;refine bD (fk (ys:=([((aO l)[i]'hil)]:List ak)) (e:=55) (bytes:=16) hF aq rfl ai ai ⟨rfl,⟨_,rfl,bR.2 rfl⟩,trivial⟩) ?_;rintro v31 fE ⟨aX,qT,hF⟩;replace hm:=((hm.t aM).t aV).t aX;refine cq (xo (k:=((aO l)[i]'hil)) (u:=(⟨v31⟩:gC)) hm Tryz.underlying186 (nP Tryz.underlying55 ai ai aq Tryz.underlying3) rfl rfl rfl) ?_;rintro _ w7 ⟨rfl,bp,hm⟩;refine ay 6 ?_ [3];have F2:=((aM.aY aV).aY aX).aY bp;replace hT:=(((hT.t aM).t aV).t aX).t bp;replace hl:=hl.t F2;replace hap:=hap.t F2;replace hx:=hx.t F2;replace hrf:=hrf.t F2;replace hg:=hg.t F2;replace hF:=hF.st bp;replace qT:=qT.t bp;refine kp (af 1 (af 2 (af 5 (af 22 (af 23 (aH 24 rfl (eq_int aF) (aR _))))))) (bV (i+1,iu m ((aO l)[i]'hil) ⟨v31⟩,gR) _ ⟨aJ,hF,hT,hl,hap,hx,hm,hrf,(by simp only;rw[LP hil];exact hg.add qT)⟩ aJ)
 have hil:i=(aO l).length:=by omega
 rw[hil,List.take_length] at hg;refine aG 4 ?_ [5];refine dc Tryz.call42 rfl (ot hF hl hne ah 7 ai) ?_;rintro tK fR ⟨sC,bM,hF,ho⟩;refine bQ 5 ?_ [1];refine dc Tryz.call132 rfl (aay hF ai ho (λ_ _=>trivial) ah) ?_;rintro vV gE ⟨rfl,zs,tJ,bE,ho,hF⟩;have hzl:zs.length=l.length:=tJ.len;replace hx:=(hx.t bM).t bE;have aaG:∀x∈zs,x∈l:=λx hx=>tJ.sub x hx;refine bQ 5 ?_ [7];refine dE ho.ln ?_;refine ay 3 ?_;refine cH (ι:=Nat×(List (ak×gC))×(Nat->Nat)) (I:=λx w=>x.1<=zs.length/\jN l ds (dW ds (zs.take x.1))/\aL w x.2.2/\ax [2,3,4,5,6,7,8,9] w₀ (bk C) w x.2.2/\av w (au x.2.2) l aK/\gp w (au x.2.2) ds c4/\cE w x.2.2 3 ct (.cells [bz,c4].toArray 129)/\fZ w x.2.2 5 bm dH (λs:gC=>s.v) x.2.1/\bg w x.2.2 7 58 tK zs/\mO w x.2.2 x.2.1 (aO l) (dW ds (zs.take x.1))) (e:=λx=>[(1,aK),(2,.pointer (some ⟨ct,0,none⟩)),(5,.map (some bm)),(8,tK),(37,tK),(38,.int .i64 zs.length),(39,.int .i64 x.1)]) (m:=λx=>zs.length-x.1) (cC:=(0,m,sC)) (af 1 (af 2 (af 5 (af 8 (af 37 (af 38 (af 39 (aR _)))))))) ?_ ?_
 ·
   have lB:=bM.aY bE;replace hT:=(hT.t bM).t bE;replace hl:=hl.t lB;replace hap:=hap.t lB;replace hm:=hm.t lB;replace hg:=hg.t lB;exact⟨Nat.zero_le _,jN.start,hF,hT,hl,hap,hx,hm,ho,hg⟩
 intro⟨k,m,de⟩ iI hI ei;obtain⟨hk,hI,hF,hT,hl,hap,hx,hm,ho,hg⟩:=hI;try simp only at hk hI hF hT hl hap hx hm ho hg
 show Run _ _ _ _ [(1,aK),(2,.pointer (some ⟨ct,0,none⟩)),(5,.map (some bm)),(8,tK),(37,tK),(38,.int .i64 zs.length),(39,.int .i64 k)] _ _;refine aI 5 ?_ [1];refine bF 40 rfl (λkj=>?_) (λkj=>?_)
 ·
  have aA:k<zs.length:=by omega
  have qX:=aaG _ (List.getElem_mem aA);have UJ: (zs[k]'aA).A∈aO l:=jB.2 ⟨_,qX,.inl rfl⟩;have UK: (zs[k]'aA).B∈aO l:=jB.2 ⟨_,qX,.inr rfl⟩;have eV:=ZJ (ds:=ds) aA;have Jl:=hI.step qX;rw[<-eV] at Jl;have mw:=hI.len UJ;have iA:=hI.len UK;refine aG 5 ?_ [1];refine dx ho ?_;intro DC aaH;refine lI ho aaH ?_;intro _ wR oM;obtain rfl:=gY.1 oM;refine bD (fD (cs:=[.int .i64 0,.int .i64 0,.int .i64 0,.int .i64 0,.int .i64 0]) hF 4 aq) ?_;rintro _ jj ⟨uN,ag1,rfl,bS,hb,hF⟩;refine cq (eO (vs:=iH (zs[k]'aA)) (n:=5) rfl rfl aq rfl rfl (jf rfl) hb rfl) ?_;rintro _ jQ ⟨rfl,b7,hb⟩;refine ay 2 ?_;refine cm [] (uN) [1,3,5,7,9,11,13,15,16,19,20] b5 ?_;intro ki cn;have hR:=ax.refl [] ki (uN);replace hg:=((hg.t bS).t b7).t cn;obtain⟨bX,Jm,hp⟩:=hg.look UJ;obtain⟨gL,aaI,hq⟩:=hg.look UK;refine aj 2 ?_ [0];replace hb:=hb.t cn;refine dn 2 (bh (zs[k]'aA).A) hb.sz ?_;replace hm:=((hm.t bS).t b7).t cn;refine lW (λw' hS=>gV ((hm.stay hS ai).lookup (z0:=(⟨.slice none 0 0⟩:gC)) (k:=(zs[k]'aA).A) Tryz.underlying186 (nP Tryz.underlying55 ai ai aq Tryz.underlying3) Tryz.zeroValue52 rfl rfl) Jm) ?_;refine aj 2 ?_ [2];refine dn 2 (bh (zs[k]'aA).B) hb.sz ?_;refine lW (λw' hS=>gV ((hm.stay hS ai).lookup (z0:=(⟨.slice none 0 0⟩:gC)) (k:=(zs[k]'aA).B) Tryz.underlying186 (nP Tryz.underlying55 ai ai aq Tryz.underlying3) Tryz.zeroValue52 rfl rfl) aaI) ?_;replace hF:=(hF.st b7).st cn;refine ej (fD (cs:=[.slice none 0 0]) hF 8 aq) ?_;rintro _ kA ⟨oO,Ad,rfl,bY,uR,hF⟩;refine⟨(hR.trans bY aF).ext,?_⟩;refine aj 1 ?_;refine jU rfl ?_;replace hq:=hq.t bY;refine cq (jI rfl rfl aq (hq.one rfl).1 (hq.one rfl).2 uR aF) ?_;rintro _ kR ⟨rfl,bT,uR⟩;refine ay 3 ?_;by_cases hX: (zs[k]'aA).B∈(dW ds (zs.take k) (zs[k]'aA).A)
  ·
   refine aG 3 ?_ [371,2];replace hb:=(hb.t bY).t bT;refine cu 2 (bh (zs[k]'aA).B) hb.at_ ?_;replace hp:=(hp.t bY).t bT;replace hF:=hF.st bT;refine bZ Tryz.call49 (jC (c:=(zs[k]'aA).B) hF hp) ?_;rintro Jn kB ⟨rfl,b_⟩;rw[jE,decide_eq_true hX];refine ay 12 ?_ [3];have nG:=((((bS.aY b7).aY cn).aY bY).aY bT).aY b_;replace hT:=(((((hT.t bS).t b7).t cn).t bY).t bT).t b_;replace hl:=hl.t nG;replace hap:=hap.t nG;replace hx:=hx.t nG;replace ho:=ho.t nG;replace hm:=((hm.t bY).t bT).t b_;replace hg:=((hg.t bY).t bT).t b_;replace hF:=hF.st b_;refine kp (af 1 (af 2 (af 5 (af 8 (af 37 (af 38 (aH 39 rfl (eq_int aF) (aR _)))))))) (ei (k+1,m,oO) _ ⟨aJ,Jl,hF,hT,hl,hap,hx,hm,ho,(by simp only;rw[eV,H7 (.inl hX)];exact hg)⟩ aJ)
  by_cases hY:vQ ds (dW ds (zs.take k) (zs[k]'aA).A) (dW ds (zs.take k) (zs[k]'aA).B)=true
  ·
   refine aG 3 ?_ [371,2];replace hb:=(hb.t bY).t bT;refine cu 2 (bh (zs[k]'aA).B) hb.at_ ?_;replace hp:=(hp.t bY).t bT;replace hF:=hF.st bT;refine bZ Tryz.call49 (jC (c:=(zs[k]'aA).B) hF hp) ?_;rintro Ae mb ⟨rfl,cB⟩;rw[jE,decide_eq_false hX];refine aj 2 ?_;refine bK (λ_=>AB rfl rfl) ?_;have kD:=((((bS.aY b7).aY cn).aY bY).aY bT).aY cB;replace hap:=hap.t kD;replace hx:=hx.t kD;replace hq:=(hq.t bT).t cB;replace hF:=hF.st cB;replace uR:=uR.t cB;have fG:∀w1,ax [] _ (oO) w1 (oO)->∀x∈(dW ds (zs.take k) (zs[k]'aA).A),Calls Tryz.prog 135 ([dH x]++#[Value.pointer (some ⟨Ad,0,none⟩),Value.pointer (some ⟨ct,0,none⟩)].toList).toArray w1 (bH λv w'=>v=.bool ((dW ds (zs.take k) (zs[k]'aA).B).any λo=>eU ds x o)/\ax [] w1 (oO) w' (oO)):=λw1 h1 x _=>UI (hF.st h1) (hap.st h1 ai) (hq.st h1 ai) (h1.same hx.at_) (h1.same uR.at_);replace hp:=hp.t cB;refine bZ Tryz.call134 (FH (p:=λx=>(dW ds (zs.take k) (zs[k]'aA).B).any λo=>eU ds x o) (nf:=135) (caps:=#[Value.pointer (some ⟨Ad,0,none⟩),Value.pointer (some ⟨ct,0,none⟩)]) (λargs w=>Tryz.call135 args w) fG hF hp) ?_;rintro F4 mc ⟨rfl,dR⟩;rw[show((dW ds (zs.take k) (zs[k]'aA).A).any λx=>(dW ds (zs.take k) (zs[k]'aA).B).any λo=>eU ds x o)=true from hY];refine ay 8 ?_ [3];have UL:=((bY.aY bT).aY cB).aY dR;replace hT:=((((((hT.t bS).t b7).t cn).t bY).t bT).t cB).t dR;replace hl:=(hl.t kD).t dR;replace ho:=(ho.t kD).t dR;replace hm:=hm.t UL;replace hg:=hg.t UL;replace hF:=hF.st dR;replace hap:=hap.t dR;replace hx:=hx.t dR;refine kp (af 1 (af 2 (af 5 (af 8 (af 37 (af 38 (aH 39 rfl (eq_int aF) (aR _)))))))) (ei (k+1,m,oO) _ ⟨aJ,Jl,hF,hT,hl,hap,hx,hm,ho,(by simp only;rw[eV,H7 (.inr hY)];exact hg)⟩ aJ)
  refine aG 3 ?_ [371,2];replace hb:=(hb.t bY).t bT;refine cu 2 (bh (zs[k]'aA).B) hb.at_ ?_;replace hp:=(hp.t bY).t bT;replace hF:=hF.st bT;refine bZ Tryz.call49 (jC (c:=(zs[k]'aA).B) hF hp) ?_;rintro NR mg ⟨rfl,cL⟩;rw[jE,decide_eq_false hX];refine aj 2 ?_;refine bK (λ_=>AB rfl rfl) ?_;have BI:=((((bS.aY b7).aY cn).aY bY).aY bT).aY cL;replace hap:=hap.t BI;replace hx:=hx.t BI;replace hq:=(hq.t bT).t cL;replace hF:=hF.st cL;replace uR:=uR.t cL;have fG:∀w1,ax [] _ (oO) w1 (oO)->∀x∈(dW ds (zs.take k) (zs[k]'aA).A),Calls Tryz.prog 135 ([dH x]++#[Value.pointer (some ⟨Ad,0,none⟩),Value.pointer (some ⟨ct,0,none⟩)].toList).toArray w1 (bH λv w'=>v=.bool ((dW ds (zs.take k) (zs[k]'aA).B).any λo=>eU ds x o)/\ax [] w1 (oO) w' (oO)):=λw1 h1 x _=>UI (hF.st h1) (hap.st h1 ai) (hq.st h1 ai) (h1.same hx.at_) (h1.same uR.at_);replace hp:=hp.t cL;refine bZ Tryz.call134 (FH (p:=λx=>(dW ds (zs.take k) (zs[k]'aA).B).any λo=>eU ds x o) (nf:=135) (caps:=#[Value.pointer (some ⟨Ad,0,none⟩),Value.pointer (some ⟨ct,0,none⟩)]) (λargs w=>Tryz.call135 args w) fG hF hp) ?_;rintro Jo mQ ⟨rfl,eH⟩;rw[show((dW ds (zs.take k) (zs[k]'aA).A).any λx=>(dW ds (zs.take k) (zs[k]'aA).B).any λo=>eU ds x o)=false from(Bool.eq_false_iff.2 hY)];refine bQ 7 ?_ [17];replace uR:=uR.t eH;refine bU uR.at_ ?_;replace hF:=hF.st eH;replace hp:=hp.t eH;replace hq:=hq.t eH;refine bD (fk (ys:=([(dW ds (zs.take k) (zs[k]'aA).A),(dW ds (zs.take k) (zs[k]'aA).B)]:List (List ak))) (e:=52) (bytes:=24) hF aq rfl ai ai ⟨rfl,⟨_,rfl,hp⟩,rfl,⟨_,rfl,hq⟩,trivial⟩) ?_;rintro L8 oK ⟨fq,sD,hF⟩;have hfl:[(dW ds (zs.take k) (zs[k]'aA).A),(dW ds (zs.take k) (zs[k]'aA).B)].flatten=((dW ds (zs.take k) (zs[k]'aA).A)++(dW ds (zs.take k) (zs[k]'aA).B)):=by simp
  have ag2: ((dW ds (zs.take k) (zs[k]'aA).A)++(dW ds (zs.take k) (zs[k]'aA).B)).length<=4*l.length:=by rw[List.length_append];omega
  refine dc Tryz.call138 rfl (Cq hF sD (by rw[hfl];omega)) ?_;rintro BJ qV ⟨eN,qM⟩;rw[hfl] at qM;refine bQ 5 ?_ [7];refine dE qM.ln ?_;refine ay 3 ?_;refine cH (ι:=Nat×(List (ak×gC))×(Nat->Nat)) (I:=λx w=>x.1<=((dW ds (zs.take k) (zs[k]'aA).A)++(dW ds (zs.take k) (zs[k]'aA).B)).length/\aL w x.2.2/\ax [2,3,4,5,6,7,8,9] w₀ (bk C) w x.2.2/\av w (au x.2.2) l aK/\gp w (au x.2.2) ds c4/\cE w x.2.2 3 ct (.cells [bz,c4].toArray 129)/\fZ w x.2.2 5 bm dH (λs:gC=>s.v) x.2.1/\bg w x.2.2 7 58 tK zs/\mO w x.2.2 x.2.1 (aO l) (zj (dW ds (zs.take k)) ((dW ds (zs.take k) (zs[k]'aA).A)++(dW ds (zs.take k) (zs[k]'aA).B)) x.1)/\av w (au x.2.2) ((dW ds (zs.take k) (zs[k]'aA).A)++(dW ds (zs.take k) (zs[k]'aA).B)) BJ) (e:=λx=>[(1,aK),(2,.pointer (some ⟨ct,0,none⟩)),(5,.map (some bm)),(8,tK),(13,BJ),(37,tK),(38,.int .i64 zs.length),(39,.int .i64 k),(64,BJ),(65,.int .i64 ((dW ds (zs.take k) (zs[k]'aA).A)++(dW ds (zs.take k) (zs[k]'aA).B)).length),(66,.int .i64 x.1)]) (m:=λx=>((dW ds (zs.take k) (zs[k]'aA).A)++(dW ds (zs.take k) (zs[k]'aA).B)).length-x.1) (cC:=(0,m,oO)) (af 1 (af 2 (af 5 (af 8 (af 13 (af 37 (af 38 (af 39 (af 64 (af 65 (af 66 (aR _)))))))))))) ?_ ?_
  ·
    have mG:=((((bY.aY bT).aY cL).aY eH).aY fq).aY eN;have UM:=((BI.aY eH).aY fq).aY eN;replace hT:=((((((((hT.t bS).t b7).t cn).t bY).t bT).t cL).t eH).t fq).t eN;replace hl:=hl.t UM;replace ho:=ho.t UM;replace hm:=hm.t mG;replace hg:=hg.t mG;replace hap:=((hap.t eH).t fq).t eN;replace hx:=((hx.t eH).t fq).t eN;replace hF:=hF.st eN;exact⟨Nat.zero_le _,hF,hT,hl,hap,hx,hm,ho,(by rw[ZF];exact hg),qM⟩
  intro⟨j,m,i_⟩ tG hI j5;obtain⟨hj,hF,hT,hl,hap,hx,hm,ho,hg,qM⟩:=hI;try simp only at hj hF hT hl hap hx hm ho hg qM
  show Run _ _ _ _ [(1,aK),(2,.pointer (some ⟨ct,0,none⟩)),(5,.map (some bm)),(8,tK),(13,BJ),(37,tK),(38,.int .i64 zs.length),(39,.int .i64 k),(64,BJ),(65,.int .i64 ((dW ds (zs.take k) (zs[k]'aA).A)++(dW ds (zs.take k) (zs[k]'aA).B)).length),(66,.int .i64 j)] _ _;have ag3:=qM.le;refine aI 5 ?_ [1];refine bF 67 rfl (λF5=>?_) (λF5=>?_)
  ·
   have hjl:j<((dW ds (zs.take k) (zs[k]'aA).A)++(dW ds (zs.take k) (zs[k]'aA).B)).length:=by omega
   refine aG 5 ?_ [1];refine bn qM ?_;intro _ UN UO F6;refine iq F6 ?_;intro ag4 Ja;obtain rfl:=bR.1 Ja;refine bD (fD (cs:=[.int .i64 0,.int .i64 0]) hF 9 aq) ?_;rintro _ pO ⟨aaJ,ag5,rfl,fS,hz,hF⟩;refine cq (eO (vs:=bh ((((dW ds (zs.take k) (zs[k]'aA).A)++(dW ds (zs.take k) (zs[k]'aA).B))[j]'hjl))) (n:=2) rfl rfl aq rfl rfl (jf rfl) hz rfl) ?_;rintro _ wH ⟨rfl,fO,hz⟩;refine bQ 3 ?_ [5];refine cu 2 (bh (((dW ds (zs.take k) (zs[k]'aA).A)++(dW ds (zs.take k) (zs[k]'aA).B))[j]'hjl)) hz.at_ ?_;refine aj 1 ?_;replace hm:=(hm.t fS).t fO;refine cq (xo (k:=(((dW ds (zs.take k) (zs[k]'aA).A)++(dW ds (zs.take k) (zs[k]'aA).B))[j]'hjl)) (u:=(⟨BJ⟩:gC)) hm Tryz.underlying186 (nP Tryz.underlying55 ai ai aq Tryz.underlying3) rfl rfl rfl) ?_;rintro _ wI ⟨rfl,gF,hm⟩;refine ay 6 ?_ [3];have uS:=(fS.aY fO).aY gF;replace hT:=((hT.t fS).t fO).t gF;replace hl:=hl.t uS;replace hap:=hap.t uS;replace hx:=hx.t uS;replace ho:=ho.t uS;replace hg:=hg.t uS;replace qM:=qM.t uS;replace hF:=(hF.st fO).st gF;refine kp (af 1 (af 2 (af 5 (af 8 (af 13 (af 37 (af 38 (af 39 (af 64 (af 65 (aH 66 rfl (eq_int aF) (aR _)))))))))))) (j5 (j+1,iu m (((dW ds (zs.take k) (zs[k]'aA).A)++(dW ds (zs.take k) (zs[k]'aA).B))[j]'hjl) ⟨BJ⟩,aaJ) _ ⟨aJ,hF,hT,hl,hap,hx,hm,ho,(hg.put qM (λr _=>ZH hjl r)),qM⟩ aJ)
  have hjl:j=((dW ds (zs.take k) (zs[k]'aA).A)++(dW ds (zs.take k) (zs[k]'aA).B)).length:=by omega
  rw[hjl,<-ZI hX (Bool.eq_false_iff.2 hY),<-eV] at hg;refine aI 6 ?_ [3];refine kp (af 1 (af 2 (af 5 (af 8 (af 37 (af 38 (aH 39 rfl (eq_int aF) (aR _)))))))) (ei (k+1,m,i_) _ ⟨aJ,Jl,hF,hT,hl,hap,hx,hm,ho,hg⟩ aJ)
 have aA:k=zs.length:=by omega
 rw[aA,List.take_length] at hI hg;refine aG 9 ?_ [1,13];refine dc Tryz.call130 rfl (C9 hF hl ah) ?_;rintro NS wQ ⟨gU,kZ⟩;refine dE kZ.ln ?_;refine ay 3 ?_;refine cH (ι:=Nat×Value×(Nat->Nat)) (I:=λx w=>x.1<=(aO l).length/\aL w x.2.2/\ax [2,3,4,5,6,7,8,9] w₀ (bk C) w x.2.2/\av w (au x.2.2) l aK/\gp w (au x.2.2) ds c4/\cE w x.2.2 3 ct (.cells [bz,c4].toArray 129)/\fZ w x.2.2 5 bm dH (λs:gC=>s.v) m/\mO w x.2.2 m (aO l) (dW ds zs)/\av w (au x.2.2) (aO l) NS/\bg w x.2.2 6 52 x.2.1 (nq ((aO l).take x.1) (dW ds zs))) (e:=λx=>[(1,aK),(5,.map (some bm)),(16,x.2.1),(76,NS),(77,.int .i64 (aO l).length),(78,.int .i64 x.1)]) (m:=λx=>(aO l).length-x.1) (cC:=(0,.slice none 0 0,de)) (af 1 (af 5 (af 16 (af 76 (af 77 (af 78 (aR _))))))) ?_ ?_
 ·
   replace hF:=hF.st gU;replace hT:=hT.t gU;replace hl:=hl.t gU;replace hap:=hap.t gU;replace hx:=hx.t gU;replace hm:=hm.t gU;replace hg:=hg.t gU;exact⟨Nat.zero_le _,hF,hT,hl,hap,hx,hm,hg,kZ,bg.nil⟩
 intro⟨i,cM,ya⟩ Ac hI mS;obtain⟨hi,hF,hT,hl,hap,hx,hm,hg,kZ,hout⟩:=hI;try simp only at hi hF hT hl hap hx hm hg kZ hout
 show Run _ _ _ _ [(1,aK),(5,.map (some bm)),(16,cM),(76,NS),(77,.int .i64 (aO l).length),(78,.int .i64 i)] _ _;have hle:=kZ.le;have xB:=R3 (g:=dW ds zs) ((aO l).take i);rw[List.length_take] at xB;refine aI 5 ?_ [1];refine bF 79 rfl (λF7=>?_) (λF7=>?_)
 ·
  have hil:i<(aO l).length:=by omega
  have hmr:=List.getElem_mem hil;have qJ:=hI.len hmr;have Jp:=ZK (g:=dW ds zs) hil;refine aG 5 ?_ [1];refine bn kZ ?_;intro _ ag6 ag7 BF;refine iq BF ?_;intro ag8 Uk;obtain rfl:=bR.1 Uk;refine bD (fD (cs:=[.int .i64 0,.int .i64 0]) hF 4 aq) ?_;rintro _ yc ⟨Jq,ag9,rfl,iB,ha,hF⟩;refine cq (eO (vs:=bh (((aO l)[i]'hil))) (n:=2) rfl rfl aq rfl rfl (jf rfl) ha rfl) ?_;rintro _ uQ ⟨rfl,iJ,ha⟩;refine bQ 4 ?_ [33];refine cu 2 (bh ((aO l)[i]'hil)) ha.at_ ?_;replace hg:=(hg.t iB).t iJ;obtain⟨bX,Jm,hp⟩:=hg.look hmr;replace hm:=(hm.t iB).t iJ;refine ov (gV (hm.lookup (z0:=(⟨.slice none 0 0⟩:gC)) (k:=((aO l)[i]'hil)) Tryz.underlying186 (nP Tryz.underlying55 ai ai aq Tryz.underlying3) Tryz.zeroValue52 rfl rfl) Jm) ?_;replace hF:=hF.st iJ;refine bZ Tryz.call140 (zI hF hp) ?_;rintro UQ DP ⟨b1,rfl,mW,aaK⟩;replace hF:=hF.st mW;replace hp:=hp.t mW;refine dc Tryz.call139 rfl (u0 hF aaK.at_ hp ah) ?_;rintro ag_ BK ⟨lC,hps⟩;have hsl: (jJ (dW ds zs ((aO l)[i]'hil))).length=(dW ds zs ((aO l)[i]'hil)).length:=(xq _).length_eq;refine ay 3 ?_;refine kJ 96 (vS (dW ds zs) ((aO l)[i]'hil)) (Jq) ?_ ?_
  ·
   intro c5;by_cases hA: (1:Int)<(jJ (dW ds zs ((aO l)[i]'hil))).length
   ·
    refine cm [] (Jq) [1,3,5,7,9,11,13,15,17,19] b5 ?_;intro F8 rM;have hcs:=rM;refine aj 1 ?_;replace hps:=hps.t rM;refine dE hps.ln ?_;refine dT hA ?_;refine aj 2 ?_;refine bn hps ?_;intro _ aha ahb Jr;refine ck Jr ?_;intro v93 Js;replace ha:=((ha.t mW).t lC).t rM;refine dn 2 (bh ((aO l)[i]'hil)) ha.sz ?_;obtain rfl:=bR.1 Js;refine bK (λ_=>iw (a:=_) (b:=_) Tryz.underlying55 ai ai aq Tryz.underlying3 rfl rfl) ?_;refine aj 1 ?_;exact cD.nil (c5 _ _ _ hcs rfl (by unfold vS;congr 1;apply decide_eq_decide.2;exact aaC hA) (ef 10))
   refine cm [] (Jq) [1,3,5,7,9,11,13,15,17,19] b5 ?_;intro Jt rN;have hcs:=rN;refine aj 1 ?_;replace hps:=hps.t rN;refine dE hps.ln ?_;refine ey hA ?_;refine aj 7 ?_;exact cD.nil (c5 _ _ _ hcs rfl (by unfold vS;rw[decide_eq_false (λe=>hA ah)]) (ef 10))
  intro Ga lQ;refine gJ 96 rfl (λNT=>?_) (λNT=>?_)
  ·
   rw[if_pos NT] at Jp;refine aG 3 ?_ [19];replace hF:=(hF.st lC).st lQ;replace hps:=hps.t lQ;refine bD (fk (ys:=([jJ (dW ds zs ((aO l)[i]'hil))]:List (List ak))) (e:=52) (bytes:=24) hF aq rfl ai ai ⟨rfl,⟨_,rfl,hps⟩,trivial⟩) ?_;rintro UR Ju ⟨sM,wN,hF⟩;replace hout:=(((((hout.t iB).t iJ).t mW).t lC).t lQ).t sM;refine bD (eY (e:=52) (bytes:=24) hF ai rfl rfl aq ai hout wN fC fC) ?_;rintro NC NU ⟨US,sN,hout,hF⟩;refine ay 7 ?_ [3];have UT:=(((mW.aY lC).aY lQ).aY sM).aY sN;have uT:=(((((iB.aY iJ).aY mW).aY lC).aY lQ).aY sM).aY sN;replace hT:=((((((hT.t iB).t iJ).t mW).t lC).t lQ).t sM).t sN;replace hl:=hl.t uT;replace hap:=hap.t uT;replace hx:=hx.t uT;replace kZ:=kZ.t uT;replace hm:=hm.t UT;replace hg:=hg.t UT;refine kp (af 1 (af 5 (af 16 (af 76 (af 77 (aH 78 rfl (eq_int aF) (aR _))))))) (mS (i+1,NC,US) _ ⟨aJ,hF,hT,hl,hap,hx,hm,hg,kZ,(by simp only;rw[Jp];exact hout)⟩ aJ)
  rw[if_neg (by rw[NT];decide)] at Jp;refine aI 6 ?_ [3];have Gb:=(((iB.aY iJ).aY mW).aY lC).aY lQ;replace hT:=((((hT.t iB).t iJ).t mW).t lC).t lQ;replace hl:=hl.t Gb;replace hap:=hap.t Gb;replace hx:=hx.t Gb;replace kZ:=kZ.t Gb;replace hout:=hout.t Gb;replace hm:=((hm.t mW).t lC).t lQ;replace hg:=((hg.t mW).t lC).t lQ;replace hF:=(hF.st lC).st lQ;refine kp (af 1 (af 5 (af 16 (af 76 (af 77 (aH 78 rfl (eq_int aF) (aR _))))))) (mS (i+1,cM,Jq) _ ⟨aJ,hF,hT,hl,hap,hx,hm,hg,kZ,(by simp only;rw[Jp];exact hout)⟩ aJ)
 have hil:i=(aO l).length:=by omega
 rw[hil,List.take_length] at hout;refine aI 6 ?_ [3];refine bI Tryz.func79 ?_;exact⟨zs,tJ,hT.bN ai,hout.out hT bq (fu C) (λb _=>jT C ai b) (by have:=R3 (g:=dW ds zs) (aO l);omega)⟩
end
end Go.Proofs.YtmdhggfehknjjaaGreat
namespace Go.Proofs.YtmdhggfehknjjaaGreat
open Go.K Go.K.aZ
noncomputable section
namespace aaM
def c0:=cw Tryz.f76
end aaM
theorem aaN {w₀:World} {C:Nat->Nat} {l:List aD} {ds:List bC} {bz c4 aK:Value} (hF:aL w₀ C) (hl:av w₀ (au C) l aK) (hap:gp w₀ (au C) ds c4) (hw:∀x∈l,1<=x.w/\x.w<=1048576) (k7:l.length<=4096) (sK:8<(aO l).length->l≠[]/\l.length<=4096):Calls Tryz.prog 76 #[.agg #[bz,c4],aK] w₀ (bH λv w'=>∃bX,v=.tuple #[bX,.int .i64 (dJ ds l).2]/\ax [] w₀ C w' C/\av w' (au C) (dJ ds l).1 bX):=by
 have bq:=hF;have hT:=z9 w₀ C;replace hF:=hF.bk;replace hl:=hl.c1;replace hap:gp w₀ (au (bk C)) ds c4:=by rw[fu];exact hap
 refine cg Tryz.func76 ?_;refine aG 2 ?_ [6];refine bD (eX (cs:=[bz,c4]) hF 3 rfl rfl) ?_;rintro _ w1 ⟨eP,ct,rfl,s_1,hx,hF⟩;refine bQ 7 ?_ [1];replace hl:=hl.t s_1;refine dc Tryz.call77 rfl (yF hF hl ah) ?_;rintro kO w2 ⟨rfl,s_2⟩;refine ay 1 ?_;refine bF 7 rfl (λh7=>?_) (λh7=>?_)
 ·
  refine aG 2 ?_ [26];replace hx:=hx.t s_2;refine cu 2 ([bz,c4]) hx.at_ ?_;refine aj 1 ?_;replace hap:=(hap.t s_1).t s_2;replace hF:=hF.st s_2;replace hl:=hl.t s_2;refine dc Tryz.call78 rfl (yI hF hl hap ah hw k7) ?_;rintro FR w3 ⟨aB,hg⟩;refine ay 3 ?_;refine rm aq Tryz.func76 Tryz.results76 rfl rfl ?_;unfold dJ;rw[if_pos h7];replace hT:=((hT.t s_1).t s_2).t aB;exact⟨_,rfl,hT.bN ai,hg.out hT bq (fu C)⟩
 obtain⟨hne,hlen⟩:=sK ah;refine aG 3 ?_ [26];replace hx:=hx.t s_2;refine cu 2 ([bz,c4]) hx.at_ ?_;refine aj 1 ?_;replace hap:=(hap.t s_1).t s_2;replace hF:=hF.st s_2;replace hl:=hl.t s_2;refine bZ Tryz.call79 (aaF hF hl hap hne hlen) ?_;rintro FR ez ⟨zs,tJ,aM,hg⟩;rw[show nq (aO l) (dW ds zs)=rG l ds from by unfold rG;rw[<-tJ.eq uo (λ_ _=>trivial)]] at hg;refine ay 3 ?_;refine rm aq Tryz.func76 Tryz.results76 rfl rfl ?_;unfold dJ;rw[if_neg h7];replace hT:=((hT.t s_1).t s_2).t aM;exact⟨_,rfl,hT.bN ai,hg.out hT bq (fu C)⟩
end
end Go.Proofs.YtmdhggfehknjjaaGreat
namespace Go.Proofs.YtmdhggfehknjjaaGreat
open Go.K Go.K.aZ
noncomputable section
namespace aaO
def c0:=cw Tryz.f184
def o1:=di (cl (aC c0))
end aaO
theorem aaQ {w₀:World} {C:Nat->Nat} {x y:List ak} {vx vy:Value} (hF:aL w₀ C) (hx:av w₀ (au C) x vx) (hy:av w₀ (au C) y vy) (eV:0<x.length) (NV:0<y.length):Calls Tryz.prog 184 #[vx,vy] w₀ (bH λv w'=>v=.int .i64 (fQ x y)/\ax [] w₀ C w' C):=by
 have bq:=hF;have hT:=z9 w₀ C;replace hF:=hF.bk;replace hx:=hx.c1;replace hy:=hy.c1;refine cg Tryz.func184 ?_;refine aI 5 ?_ [1];refine cm [] (bk C) [1,3,5,7,9,11,12,15] b5 ?_;intro w1 s_1;have hR:=ax.refl [] w1 (bk C);replace hx:=hx.t s_1;have hle1:=hx.le;replace hy:=hy.t s_1;have hle2:=hy.le;refine aj 1 ?_;refine bn hx ?_;intro _ aaR ru h6;refine ck h6 ?_;intro z7 g7;obtain rfl:=bR.1 g7;refine aj 1 ?_;refine bn hy ?_;intro _ FQ wG gi;refine ck gi ?_;intro v10 g10;obtain rfl:=bR.1 g10;replace hF:=hF.st s_1;refine dC Tryz.call53 (vT hF) ?_;rintro kO w2 ⟨rfl,s_2⟩;refine⟨(hR.trans s_2 aF).ext,?_⟩;refine ay 2 ?_;refine bI Tryz.func184 ?_;replace hT:=(hT.t s_1).t s_2;exact⟨by rw[H8 eV NV]<;>rfl,hT.bN ai⟩
theorem aaS {w₀:World} {C:Nat->Nat} {j:Nat} {v:Value} {ys:List (List ak)} (hF:aL w₀ C) (hj:j≠0) (ho:bg w₀ C j 52 v ys) (sO:∀x∈ys,0<x.length) (hds:∀i k (hi:i<(ys).length) (hk:k<(ys).length),i≠k->fQ (ys)[i] (ys)[k]≠0) (hlen:ys.length<=1000000):Calls Tryz.prog 51 #[v,.func (.func 184) #[] #[]] w₀ (bH λu w'=>u=.tuple #[]/\∃zs,fH fQ ys zs/\ax [j] w₀ C w' C/\bg w' C j 52 v zs/\aL w' C):=
 Ti (cf:=fQ) Go.Proofs.Tryz.sortL rfl A4 hds (λargs w=>Tryz.call184 args w) (λW hs hF x hx y hy vx vy NW NY=>aaQ hF NW NY (sO x hx) (sO y hy)) hj hF ho ah
namespace aaT
def c0:=cw Tryz.f129
end aaT
theorem aaU {w₀:World} {C:Nat->Nat} {j:Nat} {v:Value} {ys:List (List ak)} (hF:aL w₀ C) (hj:j≠0) (ho:bg w₀ C j 52 v ys) (sO:∀x∈ys,0<x.length) (hds:∀i k (hi:i<(ys).length) (hk:k<(ys).length),i≠k->fQ (ys)[i] (ys)[k]≠0) (hlen:ys.length<=1000000):
  Calls Tryz.prog 129 #[v] w₀ (bH λu w'=>u=v/\∃zs,fH fQ ys zs/\ax [j] w₀ C w' C/\bg w' C j 52 v zs/\aL w' C):=by
 have hT:=ax.refl [j] w₀ C;refine cg Tryz.func129 ?_;refine aG 7 ?_ [1,1];refine bZ Tryz.call51 (aaS hF hj ho sO hds hlen) ?_;rintro lX w1 ⟨rfl,zs,tJ,s_1,ho,hF⟩;replace hT:=hT.trans s_1 (by simp<;>omega);refine ay 6 ?_ [3];refine bI Tryz.func129 ?_;exact⟨rfl,zs,tJ,hT,ho,hF⟩
end
end Go.Proofs.YtmdhggfehknjjaaGreat
namespace Go.Proofs.YtmdhggfehknjjaaGreat
open Go.K Go.K.aZ
noncomputable section
namespace aaV
def c0:=cw Tryz.f75
end aaV
theorem aaW {w₀:World} {C:Nat->Nat} {l:List aD} {ds:List bC} {aK cO:Value} {gf:Nat} {wf:List aD->List (List ak)×Int} (ja:∀args w,(callFunc gf args).run Tryz.prog w=.ok (.enter gf args) w) (hW:R5 Tryz.prog gf l ds wf) (hF:aL w₀ C) (hl:av w₀ (au C) l aK) (hz:av w₀ (au C) ds cO) (l9:gD l=0) (k7:l.length<=4096) (zZ:ds.length<=4096) (hO:∀i (h:i<ds.length),uj ds[i]) (qn:∀i (h:i+1<ds.length),lZ ds[i] ds[i+1]<0)
    (hw:∀x∈l,1<=x.w/\x.w<=1048576) (sO:∀x∈eu wf (aP l),0<x.length) (hds:∀i k (hi:i<(eu wf (aP l)).length) (hk:k<(eu wf (aP l)).length),i≠k->fQ (eu wf (aP l))[i] (eu wf (aP l))[k]≠0) (h12: (eu wf (aP l)).length<=1000000):Calls Tryz.prog 75 #[aK,cO,.func (.func gf) #[] #[]] w₀ (bH λv w'=>ax [] w₀ C w' C/\
     ((∃k,∃hk:k<(aP l).length,(∀q (hq:q<k),(wf (aP l)[q]).2=0)/\(wf (aP l)[k]).2≠0/\v=.tuple #[.slice none 0 0,.int .i64 0,.int .i64 (wf (aP l)[k]).2])\/
      ((∀q (hq:q<(aP l).length),(wf (aP l)[q]).2=0)/\∃zs bX,fH fQ (eu wf (aP l)) zs/\v=.tuple #[bX,.int .i64 (e9 l zs),.int .i64 0]/\av w' (au C) zs bX))):=by
 have bq:=hF;have hT:=z9 w₀ C;replace hF:=hF.bk;replace hl:=hl.c1;replace hz:=hz.c1;refine cg Tryz.func75 ?_;refine aG 10 ?_ [7,315];refine bZ Tryz.call128 (Ua hF hl hz l9 zZ hO qn) ?_;rintro lX w1 ⟨c4,rfl,s_1,hap⟩;refine aj 3 ?_;replace hF:=hF.st s_1;refine bD (fD (cs:=[.slice none 0 0,.map none]) hF 4 aq) ?_;rintro _ w2 ⟨dm,ew,rfl,s_2,bW,hF⟩;replace hl:=(hl.t s_1).t s_2;replace hap:=hap.t s_2;refine cq (eO (vs:=[aK,c4]) (n:=2) rfl rfl aq rfl rfl (by repeat' first|exact kX|refine kY ?_ ?_|rfl|exact(hl.one rfl).2|exact hap.one.2) bW rfl) ?_;rintro _ w3 ⟨rfl,aB,bW⟩;refine bQ 6 ?_ [3];refine bK (λ_=>G6 (wZ rfl rfl) ai) ?_;refine bQ 6 ?_ [125];replace hF:=hF.st aB;replace hl:=hl.t aB;refine dc Tryz.call84 rfl (Sl hF hl ah) ?_;rintro j4 w4 ⟨lR,rfl,aM,hu⟩;rw[if_pos l9] at hu;rw[l9];refine bQ 14 ?_ [1,7];refine dE hu.ln ?_;refine ay 3 ?_;refine cH (ι:=Nat×Value×(Nat->Nat)) (I:=λx w=>x.1<=(aP l).length/\(∀q (hq:q<x.1) (mC:q<(aP l).length),(wf (aP l)[q]).2=0)/\aL w x.2.2/\ax [2,3,4,5,6,7,8,9] w₀ (bk C) w x.2.2/\av w (au x.2.2) l aK/\gp w (au x.2.2) ds c4/\cE w x.2.2 4 ew (.cells [aK,c4].toArray 129)/\av w (au x.2.2) (aP l) lR/\bg w x.2.2 6 52 x.2.1 (eu wf ((aP l).take x.1))) (e:=λx=>[(0,aK),(2,.func (.func gf) #[] #[]),(9,.pointer (some ⟨ew,0,none⟩)),(13,x.2.1),(32,lR),(33,.int .i64 (aP l).length),(34,.int .i64 x.1)]) (m:=λx=>(aP l).length-x.1) (cC:=(0,.slice none 0 0,dm)) (af 0 (af 2 (af 9 (af 13 (af 32 (af 33 (af 34 (aR _)))))))) ?_ ?_
 ·
   replace hT:=(((hT.t s_1).t s_2).t aB).t aM;replace hap:=(hap.t aB).t aM;replace hF:=hF.st aM;replace hl:=hl.t aM;replace bW:=bW.t aM;exact⟨Nat.zero_le _,λq hq=>by simp only at hq;omega,hF,hT,hl,hap,bW,hu,bg.nil⟩
 intro⟨k,cM,a_⟩ ez hI bV;obtain⟨hk,h0,hF,hT,hl,hap,bW,hu,ho⟩:=hI;try simp only at hk h0 hF hT hl hap bW hu ho
 show Run _ _ _ _ [(0,aK),(2,.func (.func gf) #[] #[]),(9,.pointer (some ⟨ew,0,none⟩)),(13,cM),(32,lR),(33,.int .i64 (aP l).length),(34,.int .i64 k)] _ _;have hle:=hu.le;refine aI 5 ?_ [1];refine bF 35 rfl (λk8=>?_) (λk8=>?_)
 ·
  have aA:k<(aP l).length:=by omega
  have eV:=ur (wf:=wf) aA;have qp:=xF (wf:=wf) (ps:=(aP l)) (k+1);have hnl:=congrArg List.length eV;rw[List.length_append] at hnl;refine aG 5 ?_ [5];refine bn hu ?_;intro _ ahc ahd lu;refine iF lu ?_;intro v37 oa;refine bQ 5 ?_ [501];refine cu 2 ([aK,c4]) bW.at_ ?_;refine aj 1 ?_;refine nz ?_;refine G3 (iT 42 (.call {callee:=.value 39,args:=#[40,41],argTypes:=#[129,23]})) rfl rfl (xb ja rfl rfl) (hW _ _ k aA _ _ _ hF oa hap) ?_;rintro nr fE ⟨bX,rfl,aV,hps⟩;refine cK ?_;refine ay 12 ?_ [3];refine bF 46 rfl (λh46=>?_) (λh46=>?_)
  ·
   refine aI 7 ?_ [15];refine Br aq Tryz.func75 Tryz.results75 rfl rfl rfl ?_;replace hT:=hT.t aV;exact⟨hT.bN ai,.inl ⟨k,aA,λq hq=>h0 q hq ah,h46,rfl⟩⟩
  have aaX: (wf ((aP l)[k]'aA)).2=0:=by omega
  refine aG 4 ?_ [11];replace hF:=hF.st aV;replace ho:=ho.t aV;refine bD (eY (e:=52) (bytes:=24) hF ai rfl rfl aq ai ho hps ah ah) ?_;rintro v50 w7 ⟨pH,aX,ho,hF⟩;refine ay 7 ?_ [3];have uU:=aV.aY aX;replace hT:=(hT.t aV).t aX;replace hl:=hl.t uU;replace hap:=hap.t uU;replace bW:=bW.t uU;replace hu:=hu.t uU;refine kp (aH 0 rfl rfl (aH 2 rfl rfl (aH 9 rfl rfl (aH 13 rfl rfl (aH 32 rfl rfl (aH 33 rfl rfl (aH 34 rfl (eq_int aF) (aR _)))))))) (bV (k+1,v50,pH) _ ⟨aJ,(λq hq mC=>by
      simp only at hq;by_cases e:q=k
      ·subst e;exact aaX
      ·exact h0 q ah mC),hF,hT,hl,hap,bW,hu,(by simp only;rw[eV];exact ho)⟩ aJ)
 have aA:k=(aP l).length:=by omega
 rw[aA,List.take_length] at ho;refine aG 4 ?_ [237];refine dc Tryz.call129 rfl (aaU hF ai ho sO hds h12) ?_;rintro wF fR ⟨rfl,zs,tJ,bt,ho,hF⟩;have hzl:=tJ.len;refine aj 2 ?_;replace hl:=hl.t bt;refine dc Tryz.call54 rfl (Uh (C:=ji) (nR _) hl.c0 (ho.mD ah) hw k7) ?_;rintro _ gE ⟨rfl,bM⟩;replace bM:=bM.re (a_);refine ay 4 ?_;refine Br aq Tryz.func75 Tryz.results75 rfl rfl rfl ?_;replace hT:=(hT.t bt).t bM;replace ho:=ho.t bM;exact⟨hT.bN ai,.inr ⟨λq hq=>h0 q ah hq,zs,_,tJ,rfl,ho.out hT bq (fu C) (λb _=>jT C ai b) ah⟩⟩
theorem aaY {gf:Nat} {w₀:World} {C:Nat->Nat} {l:List aD} {ds:List bC} {aK cO:Value} (hF:aL w₀ C) (hl:av w₀ (au C) l aK) (hz:av w₀ (au C) ds cO) (hE:iO l ds≠0):Calls Tryz.prog 75 #[aK,cO,.func (.func gf) #[] #[]] w₀ (bH λv w'=>v=.tuple #[.slice none 0 0,.int .i64 0,.int .i64 (iO l ds)]/\ax [] w₀ C w' C):=by
 have bq:=hF;have hT:=z9 w₀ C;replace hF:=hF.bk;replace hl:=hl.c1;replace hz:=hz.c1;refine cg Tryz.func75 ?_;refine aG 10 ?_ [7,315];refine bZ Tryz.call128 (Ub hF hl hz hE) ?_;rintro lX w1 ⟨rfl,s_1⟩;refine aj 3 ?_;replace hF:=hF.st s_1;refine bD (fD (cs:=[.slice none 0 0,.map none]) hF 4 aq) ?_;rintro _ w2 ⟨dm,ew,rfl,s_2,bW,hF⟩;refine cq (eO (vs:=[.slice none 0 0,.map none]) (n:=2) rfl rfl aq rfl rfl (by intro u hu;simp only[List.mem_cons,List.not_mem_nil,or_false] at hu;rcases hu with rfl|rfl<;>first|rfl) bW rfl) ?_;rintro _ w3 ⟨rfl,aB,bW⟩;refine bQ 6 ?_ [3];refine bK (λ_=>KF (wZ rfl rfl) (hE)) ?_;refine ay 9 ?_ [15];refine Br aq Tryz.func75 Tryz.results75 rfl rfl rfl ?_;replace hT:=((hT.t s_1).t s_2).t aB;exact⟨rfl,hT.bN ai⟩
end
end Go.Proofs.YtmdhggfehknjjaaGreat
namespace Go.Proofs.YtmdhggfehknjjaaGreat
open Go.K Go.K.aZ
noncomputable section
namespace aaZ
def c0:=cw Tryz.f41
end aaZ
theorem aa0 {w₀:World} {C:Nat->Nat} {l:List aD} {ds:List bC} {aK cO:Value} (hW:R5 Tryz.prog 76 l ds (dJ ds)) (hF:aL w₀ C) (hl:av w₀ (au C) l aK) (hz:av w₀ (au C) ds cO) (l9:gD l=0) (k7:l.length<=4096) (zZ:ds.length<=4096) (hO:∀i (h:i<ds.length),uj ds[i]) (qn:∀i (h:i+1<ds.length),lZ ds[i] ds[i+1]<0)
   (hw:∀x∈l,1<=x.w/\x.w<=1048576) (sO:∀x∈eu (dJ ds) (aP l),0<x.length) (hds:∀i k (hi:i<(eu (dJ ds) (aP l)).length) (hk:k<(eu (dJ ds) (aP l)).length),i≠k->fQ (eu (dJ ds) (aP l))[i] (eu (dJ ds) (aP l))[k]≠0)(h12: (eu (dJ ds) (aP l)).length<=1000000):Calls Tryz.prog 41 #[aK,cO] w₀ (bH λv w'=>ax [] w₀ C w' C/\
    ((∃k,∃hk:k<(aP l).length,(∀q (hq:q<k),(dJ ds (aP l)[q]).2=0)/\(dJ ds (aP l)[k]).2≠0/\v=.tuple #[.slice none 0 0,.int .i64 0,.int .i64 (dJ ds (aP l)[k]).2])\/
     ((∀q (hq:q<(aP l).length),(dJ ds (aP l)[q]).2=0)/\∃zs bX,fH fQ (eu (dJ ds) (aP l)) zs/\v=.tuple #[bX,.int .i64 (e9 l zs),.int .i64 0]/\av w' (au C) zs bX))):=by
 refine cg Tryz.func41 ?_;refine aG 10 ?_ [7,507];refine bZ Tryz.call75 (aaW (gf:=76) (wf:=dJ ds) (λargs w=>Tryz.call76 args w) hW hF hl hz l9 k7 zZ hO qn hw sO hds h12) ?_;rintro e7 w1 ⟨s_1,hout⟩;obtain⟨r1,r2,r3,aa1⟩:∃r1 r2 r3,e7=.tuple #[r1,r2,r3]:=by
  rcases hout with⟨k,hk,_,_,e⟩|⟨_,zs,bX,_,e,_⟩
  ·exact⟨_,_,_,e⟩
  exact⟨_,_,_,e⟩
 subst aa1;refine ay 7 ?_;refine Br aq Tryz.func41 Tryz.results41 rfl rfl rfl ?_;exact⟨s_1,hout⟩
theorem aa2 {w₀:World} {C:Nat->Nat} {l:List aD} {ds:List bC} {aK cO:Value} (hF:aL w₀ C) (hl:av w₀ (au C) l aK) (hz:av w₀ (au C) ds cO) (hE:iO l ds≠0):Calls Tryz.prog 41 #[aK,cO] w₀ (bH λv w'=>v=.tuple #[.slice none 0 0,.int .i64 0,.int .i64 (iO l ds)]/\ax [] w₀ C w' C):=by
 refine cg Tryz.func41 ?_;refine aG 10 ?_ [7,507];refine bZ Tryz.call75 (aaY hF hl hz hE) ?_;rintro lX w1 ⟨rfl,s_1⟩;refine ay 7 ?_;refine Br aq Tryz.func41 Tryz.results41 rfl rfl rfl ?_;exact⟨rfl,s_1⟩
theorem UU {w₀:World} {C:Nat->Nat} {l:List aD} {ds:List bC} {aK cO:Value} (hF:aL w₀ C) (hl:av w₀ (au C) l aK) (hz:av w₀ (au C) ds cO):Calls Tryz.prog 41 #[aK,cO] w₀ (bH λv w'=>∃u,v=.tuple #[u,.int .i64 (h_ (dJ ds) l ds).2.1,.int .i64 (h_ (dJ ds) l ds).2.2]/\ax [] w₀ C w' C/\av w' (au C) (h_ (dJ ds) l ds).1 u):=by
 by_cases hE:iO l ds=0
 ·have hv:=Dj (xP hE).1;obtain⟨d1,d2,d3⟩:=Lv (xP hE).2;have hQ:∀i (h:i<(aP l).length),eG (aP l)[i] ds (dJ ds (aP l)[i]).1:=λi h=>uD ds _;refine(aa0 (hW:=λw1 a_ i hi LQ bz c4 aa3 hp1 aa4=>aaN aa3 hp1 aa4 (IA (CH hv hi)) (CH hv hi).1 (λ_=>⟨SU hi,by have:=Ff hi;have:=hv.1;omega⟩)) hF hl hz hv.check hv.1 d1 d2 d3 (IA hv) (λx hx=>by have:=Di hQ x hx;omega) (S6 hQ) (by have:=zL hQ;have:=lJ l;have:=hv.1;omega)).mono (bH.mono λv w' h=>?_);rcases h.2 with⟨k,hk,_,h2,e⟩|⟨h1,zs,bX,hS,e,hr⟩
  ·exact absurd (Fj ds _) h2
  have hP:=Bj hQ hS;rw[Fi hE h1,Iu hP hS];exact⟨bX,e,h.1,hr⟩
 refine(aa2 hF hl hz hE).mono (bH.mono λv w' h=>?_);rw[IE hE];exact⟨_,h.1,h.2,gu⟩
end
end Go.Proofs.YtmdhggfehknjjaaGreat
