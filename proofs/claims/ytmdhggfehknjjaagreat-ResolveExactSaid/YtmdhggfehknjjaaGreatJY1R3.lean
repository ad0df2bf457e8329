/- Steps through functions of the program. -/
import Derived.Test.YtmdhggfehknjjaaGreatJC6X0
import Derived.Test.YtmdhggfehknjjaaGreatL1
import Derived.Test.YtmdhggfehknjjaaGreatL2
import Derived.Test.YtmdhggfehknjjaaGreatJF7G3
import Derived.Test.YtmdhggfehknjjaaGreatJXBXD
import Derived.Test.YtmdhggfehknjjaaGreatL3
set_option maxRecDepth 100000
set_option maxHeartbeats 4000000
namespace Go.Proofs.YtmdhggfehknjjaaGreat
open Go.K Go.K.aZ
noncomputable section
namespace acP
def c0:=cw Tryz.f59
end acP
theorem VD {w₀:World} {C:Nat->Nat} {i b:Nat} {lo hi:Int} (hF:aL w₀ C) (uA:i≠0) (hd:fK w₀ C i b) (h1:lo<=hi) (h2:-1000000000<=lo) (h3:hi<=1000000000):
  Calls Tryz.prog 59 #[.pointer (some ⟨b,0,none⟩),.int .i64 lo,.int .i64 hi] w₀ (bH λv w'=>∃n:Int,v=.int .i64 n/\lo<=n/\n<=hi/\ax [i] w₀ C w' C/\fK w' C i b):=by
 have bq:=hF;have hbc:=hd.AE;replace hd:=hd.eM uA;have hT:=ax.refl [2,3,4,5,6,7,8,9] w₀ (eM C i);replace hF:=hF.eM i;refine cg Tryz.func59 ?_;refine aG 12 ?_ [1,447];refine dc Tryz.call26 rfl (sY (n:=hi-lo+1) hF ai hd ah ah) ?_;rintro lX w1 ⟨k,rfl,hk,s_1,hd⟩;refine ay 3 ?_;refine bI Tryz.func59 ?_;replace hT:=hT.t s_1;exact⟨_,rfl,by omega,by omega,hT.lV ai,hd.out hT bq hbc⟩
namespace acQ
def c0:=cw Tryz.f40
end acQ
theorem VE {w₀:World} {C:Nat->Nat} {i b:Nat} (hF:aL w₀ C) (hi:i≠0) (hd:fK w₀ C i b):
   Calls Tryz.prog 40 #[.pointer (some ⟨b,0,none⟩)] w₀ (bH λv w'=>∃c:ak,v=.agg (bh c).toArray/\ax [i] w₀ C w' C/\fK w' C i b):=by
 have bq:=hF;have hbc:=hd.AE;replace hd:=hd.eM hi;have hT:=ax.refl [2,3,4,5,6,7,8,9] w₀ (eM C i);replace hF:=hF.eM i;refine cg Tryz.func40 ?_;refine aG 2 ?_ [0];refine bD (fD (cs:=[.int .i64 0,.int .i64 0]) hF 3 aq) ?_;rintro _ w1 ⟨eP,ct,rfl,s_1,hx,hF⟩;refine bQ 5 ?_ [1];replace hd:=hd.u s_1;refine dc Tryz.call15 rfl (vG hF ai hd ai ai) ?_;rintro kO w2 ⟨t,rfl,s_2,hd⟩;refine ay 1 ?_;refine gJ 4 rfl (λh4=>?_) (λh4=>?_)
 ·
  refine aG 3 ?_ [21];replace hF:=hF.st s_2;refine dc Tryz.call59 rfl (VD (lo:=-1) (hi:=4) hF ai hd ai ai ai) ?_;rintro lP w3 ⟨x,rfl,_,_,aB,hd⟩;refine aj 1 ?_;replace hF:=hF.st aB;refine dc Tryz.call59 rfl (VD (lo:=-1) (hi:=2) hF ai hd ai ai ai) ?_;rintro j4 w4 ⟨y,rfl,_,_,aM,hd⟩;refine bK (λ_=>gO (zs:=[.int .i64 0,.int .i64 0]) (ps:=[(0,1),(1,1)]) (eo:=[(0,[.int .i64 x]),(1,[.int .i64 y])]) (cs:=[.int .i64 x,.int .i64 y]) aq aq ⟨rfl,⟨_,rfl,rfl⟩,rfl,⟨_,rfl,rfl⟩,trivial⟩ rfl) ?_;replace hx:=((hx.t s_2).t aB).t aM;refine cq (eO (vs:=bh ⟨x,y⟩) (n:=2) rfl rfl aq rfl rfl (jf rfl) hx rfl) ?_;rintro _ ez ⟨rfl,aV,hx⟩;refine ay 1 ?_;refine KR aq Tryz.func40 Tryz.results40 rfl hx.at_ aq aq rfl ?_;replace hT:=((((hT.t s_1).t s_2).t aB).t aM).t aV;replace hd:=hd.u aV;exact⟨_,rfl,hT.lV ai,hd.out hT bq hbc⟩
 refine aG 4 ?_ [53];replace hF:=hF.st s_2;refine dc Tryz.call26 rfl (sY (n:=3) hF ai hd ah ah) ?_;rintro nr fE ⟨p,rfl,hp,aX,hd⟩;refine aj 1 ?_;replace hF:=hF.st aX;refine dc Tryz.call26 rfl (sY (n:=4) hF ai hd ah ah) ?_;rintro mE w7 ⟨p2,rfl,hp2,bp,hd⟩;refine aj 1 ?_;refine bK (λ_=>gO (zs:=[.int .i64 0,.int .i64 0]) (ps:=[(0,1),(1,1)]) (eo:=[(0,[.int .i64 (p:Int)]),(1,[.int .i64 (1+(p2:Int))])]) (cs:=[.int .i64 (p:Int),.int .i64 (1+(p2:Int))]) aq aq ⟨rfl,⟨_,rfl,rfl⟩,rfl,⟨_,rfl,rfl⟩,trivial⟩ rfl) ?_;replace hx:=((hx.t s_2).t aX).t bp;refine cq (eO (vs:=bh ⟨(p:Int),1+(p2:Int)⟩) (n:=2) rfl rfl aq rfl rfl (jf rfl) hx rfl) ?_;rintro _ fR ⟨rfl,bt,hx⟩;refine ay 1 ?_;refine KR aq Tryz.func40 Tryz.results40 rfl hx.at_ aq aq rfl ?_;replace hT:=((((hT.t s_1).t s_2).t aX).t bp).t bt;replace hd:=hd.u bt;exact⟨_,rfl,hT.lV ai,hd.out hT bq hbc⟩
namespace VF
def c0:=cw Tryz.f16
def tZ:=(cl (aC (aC (aC (aC c0)))))
def nu:=(aC (aC (aC (cl (aC tZ)))))
def uv:=(aC (aC (aC (aC (aC nu)))))
def DE:=di (cl (aC uv))
end VF
theorem acR {w₀:World} {C:Nat->Nat} {i b:Nat} (hF:aL w₀ C) (hi:i≠0) (hd:fK w₀ C i b):
    Calls Tryz.prog 16 #[.pointer (some ⟨b,0,none⟩)] w₀ (bH λv w'=>∃l:List aD,l.length<=4097/\ax [i] w₀ C w' C/\av w' (au C) l v/\fK w' C i b):=by
 have bq:=hF;have hbc:=hd.AE;replace hd:=hd.eM hi;have hT:=ax.refl [2,3,4,5,6,7,8,9] w₀ (eM C i);replace hF:=hF.eM i;refine cg Tryz.func16 ?_;refine aG 7 ?_ [1,5];refine dc Tryz.call12 rfl (Sn (R:=3) (I:=3) (one:=4) hF ai hd ai ai ai ai) ?_;rintro bz w1 ⟨qq,qX,_,hall⟩;obtain⟨BD,s_1,hF,ho,hd⟩:=hall 4 ai;have hbL:=qX.2.2;refine bQ 6 ?_ [7];refine dE ho.ln ?_;refine ay 2 ?_;refine bF 9 rfl (λgi=>?_) (λgi=>?_)
 ·
  refine aI 5 ?_ [3];refine bI Tryz.func16 ?_;replace hT:=hT.t s_1;exact⟨_,pT,hT.lV ai,ho.out hT bq (nK C i) (λb _=>qv C i ai b) pT,hd.out hT bq hbc⟩
 have Gs:0<qq.length:=by omega
 refine aG 5 ?_ [23];refine dE ho.ln ?_;refine dc Tryz.call26 rfl (sY (n:=(qq.length:Int)) hF ai hd ah ah) ?_;rintro kO w2 ⟨z,rfl,hz,s_2,hd⟩;have hzl:z<qq.length:=by omega
 refine bQ 6 ?_ [1];replace hF:=hF.st s_2;refine dc Tryz.call26 rfl (sY (n:=8) hF ai hd ah ah) ?_;rintro lP w3 ⟨q,rfl,hq,aB,hd⟩;refine ay 7 ?_ [3];refine bF 17 rfl (λfF=>?_) (λfF=>?_)
 ·
  refine aG 4 ?_ [55];replace hF:=hF.st aB;refine dc Tryz.call40 rfl (VE hF ai hd) ?_;rintro j4 w4 ⟨c,rfl,aM,hd⟩;replace ho:=((ho.t s_2).t aB).t aM;refine dx ho ?_;intro g23 EX;refine aj 1 ?_ [0];refine cq (Lx (off:=0) (k:=2) (us:=bh c) (x0:=(⟨c,qq[z].B,qq[z].w⟩:aD)) ho EX ah rfl rfl aq rfl rfl (jf rfl) ai (λvs hv=>by rw[y5.1 hv];exact y5.2 rfl)) ?_;rintro _ ez ⟨rfl,aV,ho⟩;refine ay 7 ?_ [3];refine bI Tryz.func16 ?_;replace hT:=((((hT.t s_1).t s_2).t aB).t aM).t aV;replace hd:=hd.u aV;exact⟨_,pT,hT.lV ai,ho.out hT bq (nK C i) (λb _=>qv C i ai b) pT,hd.out hT bq hbc⟩
 refine aI 5 ?_ [3];refine bF 25 rfl (λje=>?_) (λje=>?_)
 ·
  refine aG 4 ?_ [55];replace hF:=hF.st aB;refine dc Tryz.call40 rfl (VE hF ai hd) ?_;rintro nr fE ⟨c,rfl,aX,hd⟩;replace ho:=((ho.t s_2).t aB).t aX;refine dx ho ?_;intro qT acS;refine aj 1 ?_ [2];refine cq (Lx (off:=2) (k:=2) (us:=bh c) (x0:=(⟨qq[z].A,c,qq[z].w⟩:aD)) ho acS ah rfl rfl aq rfl rfl (jf rfl) ai (λvs hv=>by rw[y5.1 hv];exact y5.2 rfl)) ?_;rintro _ w7 ⟨rfl,bp,ho⟩;refine ay 7 ?_ [3];refine bI Tryz.func16 ?_;replace hT:=((((hT.t s_1).t s_2).t aB).t aX).t bp;replace hd:=hd.u bp;exact⟨_,pT,hT.lV ai,ho.out hT bq (nK C i) (λb _=>qv C i ai b) pT,hd.out hT bq hbc⟩
 refine aI 5 ?_ [3];refine bF 33 rfl (λmT=>?_) (λmT=>?_)
 ·
  refine aG 3 ?_ [427];replace hF:=hF.st aB;refine bD (fk (ys:=([0,1048576,1048577]:List Int)) (e:=3) (bytes:=8) hF aq rfl ai ai ⟨rfl,⟨_,rfl,jc.2 rfl⟩,rfl,⟨_,rfl,jc.2 rfl⟩,rfl,⟨_,rfl,jc.2 rfl⟩,trivial⟩) ?_;rintro v37 fR ⟨bt,oa,hF⟩;refine aj 1 ?_;replace hd:=hd.u bt;refine dc Tryz.call26 rfl (sY (n:=3) hF ai hd ah ah) ?_;rintro vV gE ⟨p,rfl,hp,bM,hd⟩;have ahF: ([0,1048576,1048577]:List Int).length=3:=rfl;replace oa:=oa.t bM;refine bn oa ?_;intro _ Bv Bw kj;try simp only[fP] at kj
  refine iF kj ?_;intro v41 DC;first|(obtain rfl:=kG.1 DC)|(obtain rfl:=jc.1 DC)
  replace ho:=(((ho.t s_2).t aB).t bt).t bM;refine dx ho ?_;intro oM acT;refine aj 1 ?_ [4];refine cq (Lx (off:=4) (k:=1) (us:=[.int .i64 (([0,1048576,1048577]:List Int)[p]'ah)]) (x0:=(⟨qq[z].A,qq[z].B,([0,1048576,1048577]:List Int)[p]'ah⟩:aD)) ho acT ah rfl rfl aq rfl rfl (by intro u hu;rw[List.mem_singleton.1 hu];rfl) ai (λvs hv=>by rw[y5.1 hv];exact y5.2 rfl)) ?_;rintro _ iI ⟨rfl,bE,ho⟩;refine ay 7 ?_ [3];refine bI Tryz.func16 ?_;replace hT:=(((((hT.t s_1).t s_2).t aB).t bt).t bM).t bE;replace hd:=hd.u bE;exact⟨_,pT,hT.lV ai,ho.out hT bq (nK C i) (λb _=>qv C i ai b) pT,hd.out hT bq hbc⟩
 refine aI 5 ?_ [3];refine bF 44 rfl (λjP=>?_) (λjP=>?_)
 ·
  refine aG 4 ?_ [143];replace ho:=(ho.t s_2).t aB;refine dx ho ?_;intro uM DK;refine lI ho DK ?_;intro _ v50 hU;obtain rfl:=gY.1 hU;replace hF:=hF.st aB;refine bD (fk (ys:=([qq[z]]:List aD)) (e:=58) (bytes:=40) hF aq rfl ai ai ⟨rfl,⟨_,rfl,gY.2 rfl⟩,trivial⟩) ?_;rintro v51 jj ⟨bP,iY,hF⟩;replace ho:=ho.t bP;refine bD (eY (e:=58) (bytes:=40) hF ai rfl rfl aq ai ho iY fC fC) ?_;rintro Bc jQ ⟨zx,bS,ho,hF⟩;refine ay 8 ?_ [3];refine bI Tryz.func16 ?_;replace hT:=((((hT.t s_1).t s_2).t aB).t bP).t bS;replace hd:=(hd.u bP).u bS;exact⟨_,pT,hT.lV ai,ho.out hT bq (nK C i) (λb _=>qv C i ai b) pT,hd.out hT bq hbc⟩
 refine aI 5 ?_ [3];refine bF 53 rfl (λyg=>?_) (λyg=>?_)
 ·
  refine Eh (id:=15) (ops:=VF.DE) [4] (BD) [0,1,2,3,4,6,7,8] 5 [nn 9,eE 10,nn 11,eE 12,nn 13] 9 [nn 5,eE 10,nn 11,eE 12,nn 13] b5 aq aq aq ?_ ?_
  ·
   intro ki b7;show cD _ _ _ _ _ _ _ (jG 5 0 (jG 3 6 (nn 5::nn 9::eE 10::nn 11::eE 12::nn 13::[]))) _ _;have hR:=ax.refl [4] ki (BD);refine cK ?_;refine aj 4 ?_;replace ho:=((ho.t s_2).t aB).t b7;refine dx ho ?_;intro wj Fa;refine aj 2 ?_;refine dx ho ?_;intro sP OE;refine lI ho Fa ?_;intro _ v60 wk;try simp only[show(0:Int).toNat=0 from rfl] at wk
   refine lI ho OE ?_;intro _ v64 xL
   skip
   refine dx ho ?_;intro DQ OG;refine lH (iU ho OG ah rfl rfl aq wk) ?_;rintro _ kA ⟨rfl,cn,ho⟩;refine⟨(hR.trans cn aF).ext,?_⟩;have hsl: (qq.set z qq[0]).length=qq.length:=List.length_set;refine dx ho ?_;intro Gu OH;refine jU rfl ?_;replace xL:=xL.t cn;refine cq (iU ho OH ah rfl rfl aq xL) ?_;rintro _ kR ⟨rfl,bY,ho⟩;refine ay 7 ?_ [3];refine bI Tryz.func16 ?_;replace hT:=(((((hT.t s_1).t s_2).t aB).t b7).t cn).t bY;replace hd:=((hd.u b7).u cn).u bY;exact⟨_,pT,hT.lV ai,ho.out hT bq (nK C i) (λb _=>qv C i ai b) pT,hd.out hT bq hbc⟩
  intro kB bT;show cD _ _ _ _ _ _ _ (jG 5 0 (jG 3 6 (nn 9::nn 5::eE 10::nn 11::eE 12::nn 13::[]))) _ _;have hR:=ax.refl [4] kB (BD);refine cK ?_;refine aj 4 ?_;replace ho:=((ho.t s_2).t aB).t bT;refine dx ho ?_;intro wj Fa;refine aj 2 ?_;refine dx ho ?_;intro sP OE;refine lI ho OE ?_;intro _ v64 xL
  skip
  refine lI ho Fa ?_;intro _ v60 wk;try simp only[show(0:Int).toNat=0 from rfl] at wk
  refine dx ho ?_;intro DQ OG;refine lH (iU ho OG ah rfl rfl aq wk) ?_;rintro _ mb ⟨rfl,b_,ho⟩;refine⟨(hR.trans b_ aF).ext,?_⟩;have hsl: (qq.set z qq[0]).length=qq.length:=List.length_set;refine dx ho ?_;intro Gu OH;refine jU rfl ?_;replace xL:=xL.t b_;refine cq (iU ho OH ah rfl rfl aq xL) ?_;rintro _ mc ⟨rfl,cQ,ho⟩;refine ay 7 ?_ [3];refine bI Tryz.func16 ?_;replace hT:=(((((hT.t s_1).t s_2).t aB).t bT).t b_).t cQ;replace hd:=((hd.u bT).u b_).u cQ;exact⟨_,pT,hT.lV ai,ho.out hT bq (nK C i) (λb _=>qv C i ai b) pT,hd.out hT bq hbc⟩
 refine aI 7 ?_ [3];refine bI Tryz.func16 ?_;replace hT:=((hT.t s_1).t s_2).t aB;replace ho:=(ho.t s_2).t aB;exact⟨_,pT,hT.lV ai,ho.out hT bq (nK C i) (λb _=>qv C i ai b) pT,hd.out hT bq hbc⟩
end
end Go.Proofs.YtmdhggfehknjjaaGreat
namespace Go.Proofs.YtmdhggfehknjjaaGreat
open Go.K Go.K.aZ
noncomputable section
namespace acU
def c0:=cw Tryz.f85
def kP:=(cl (aC (cl (aC (aC c0)))))
def tf:=(cl (cl (aC (aC (cl kP)))))
def ru:=di (cl (aC tf))
end acU
theorem VG {w₀:World} {C:Nat->Nat} {xs ys:List aD} {cR bz:Value} (hF:aL w₀ C) (ha:av w₀ (au C) xs cR) (hb:av w₀ (au C) ys bz):Calls Tryz.prog 85 #[cR,bz] w₀ (bH λv w'=>v=.bool (decide (xs=ys))/\ax [] w₀ C w' C):=by
 have bq:=hF;have hT:=z9 w₀ C;replace hF:=hF.bk;replace ha:=ha.c1;replace hb:=hb.c1;refine cg Tryz.func85 ?_;refine aG 8 ?_ [1,31];refine dE ha.ln ?_;refine aj 1 ?_;refine dE hb.ln ?_;refine ay 2 ?_;refine bF 10 rfl (λjd=>?_) (λjd=>?_)
 ·
  have hne:xs≠ys:=λe=>by rw[e] at jd;exact jd rfl
  refine aI 4 ?_ [1];refine bI Tryz.func85 ?_;exact⟨by rw[decide_eq_false hne],hT.bN ai⟩
 have l5:xs.length=ys.length:=by omega
 refine aG 5 ?_ [7];refine dE ha.ln ?_;refine ay 3 ?_;refine cH (ι:=Nat×(Nat->Nat)) (I:=λx w=>x.1<=xs.length/\(∀i (hi:i<x.1) (h1:i<xs.length) (h2:i<ys.length),xs[i]=ys[i])/\aL w x.2/\ax [2,3,4,5,6,7,8,9] w₀ (bk C) w x.2/\av w (au x.2) xs cR/\av w (au x.2) ys bz) (e:=λx=>[(0,cR),(1,bz),(12,.int .i64 xs.length),(13,.int .i64 x.1)]) (m:=λx=>xs.length-x.1) (cC:=(0,bk C)) (af 0 (af 1 (af 12 (af 13 (aR _))))) ?_ ?_
 · exact⟨Nat.zero_le _,λi hi=>by simp only at hi;omega,hF,hT,ha,hb⟩
 intro⟨k,a_⟩ w1 hI bV;obtain⟨hk,h0,hF,hT,ha,hb⟩:=hI;try simp only at hk h0 hF hT ha hb
 show Run _ _ _ _ [(0,cR),(1,bz),(12,.int .i64 xs.length),(13,.int .i64 k)] _ _;have hle:=ha.le;refine aI 5 ?_ [1];refine bF 14 rfl (λfJ=>?_) (λfJ=>?_)
 ·
  have aA:k<xs.length:=by omega
  have OI:k<ys.length:=by omega
  refine aI 9 ?_ [3];refine cm [] (a_) [1,3,5,7,9,11,13,15,17] b5 ?_;intro w2 s_1;refine aj 2 ?_;replace ha:=ha.t s_1;refine bn ha ?_;intro _ VH BP j_;refine ck j_ ?_;intro xG g19;refine aj 2 ?_;replace hb:=hb.t s_1;refine bn hb ?_;intro _ JG JH iM;refine ck iM ?_;intro v23 g23;obtain rfl:=gY.1 g19;obtain rfl:=gY.1 g23;refine bK (λ_=>Rx (a:=_) (b:=_) Tryz.underlying58 ai ai ai aq (Ep Tryz.underlying55 ai ai aq Tryz.underlying3) Tryz.underlying3 aq aq aq rfl rfl) ?_;refine ay 1 ?_;refine bF 24 rfl (λgl=>?_) (λgl=>?_)
  ·
   have hne:xs≠ys:=λe=>gl (by subst e;rfl);refine aI 4 ?_ [1];refine bI Tryz.func85 ?_;replace hT:=hT.t s_1;exact⟨by rw[decide_eq_false hne],hT.bN ai⟩
  have B0:xs[k]=ys[k]:=Classical.not_not.1 gl;refine aI 6 ?_ [3];replace hF:=hF.st s_1;replace hT:=hT.t s_1;refine kp (aH 0 rfl rfl (aH 1 rfl rfl (aH 12 rfl rfl (aH 13 rfl (eq_int aF) (aR _))))) (bV (k+1,a_) _ ⟨aJ,(λi hi h1 h2=>by
    simp only at hi;by_cases e:i=k
    ·subst e;exact B0
    ·exact h0 i ah h1 h2),hF,hT,ha,hb⟩ aJ)
 have aA:k=xs.length:=by omega
 have heq:xs=ys:=MN l5 (λi h1 h2=>h0 i ah h1 h2);refine aI 5 ?_ [1];refine bI Tryz.func85 ?_;exact⟨by rw[decide_eq_true heq],hT.bN ai⟩
namespace acV
def c0:=cw Tryz.f87
def kP:=(cl (aC (cl (aC (aC c0)))))
def tf:=(cl (cl (aC (aC (cl kP)))))
def ru:=di (cl (aC tf))
end acV
theorem acW {w₀:World} {C:Nat->Nat} {xs ys:List CC} {cR bz:Value} (hF:aL w₀ C) (ha:av w₀ (au C) xs cR) (hb:av w₀ (au C) ys bz):Calls Tryz.prog 87 #[cR,bz] w₀ (bH λv w'=>v=.bool (decide (xs=ys))/\ax [] w₀ C w' C):=by
 have bq:=hF;have hT:=z9 w₀ C;replace hF:=hF.bk;replace ha:=ha.c1;replace hb:=hb.c1;refine cg Tryz.func87 ?_;refine aG 8 ?_ [1,31];refine dE ha.ln ?_;refine aj 1 ?_;refine dE hb.ln ?_;refine ay 2 ?_;refine bF 10 rfl (λjd=>?_) (λjd=>?_)
 ·
  have hne:xs≠ys:=λe=>by rw[e] at jd;exact jd rfl
  refine aI 4 ?_ [1];refine bI Tryz.func87 ?_;exact⟨by rw[decide_eq_false hne],hT.bN ai⟩
 have l5:xs.length=ys.length:=by omega
 refine aG 5 ?_ [7];refine dE ha.ln ?_;refine ay 3 ?_;refine cH (ι:=Nat×(Nat->Nat)) (I:=λx w=>x.1<=xs.length/\(∀i (hi:i<x.1) (h1:i<xs.length) (h2:i<ys.length),xs[i]=ys[i])/\aL w x.2/\ax [2,3,4,5,6,7,8,9] w₀ (bk C) w x.2/\av w (au x.2) xs cR/\av w (au x.2) ys bz) (e:=λx=>[(0,cR),(1,bz),(12,.int .i64 xs.length),(13,.int .i64 x.1)]) (m:=λx=>xs.length-x.1) (cC:=(0,bk C)) (af 0 (af 1 (af 12 (af 13 (aR _))))) ?_ ?_
 · exact⟨Nat.zero_le _,λi hi=>by simp only at hi;omega,hF,hT,ha,hb⟩
 intro⟨k,a_⟩ w1 hI bV;obtain⟨hk,h0,hF,hT,ha,hb⟩:=hI;try simp only at hk h0 hF hT ha hb
 show Run _ _ _ _ [(0,cR),(1,bz),(12,.int .i64 xs.length),(13,.int .i64 k)] _ _;have hle:=ha.le;refine aI 5 ?_ [1];refine bF 14 rfl (λfJ=>?_) (λfJ=>?_)
 ·
  have aA:k<xs.length:=by omega
  have OI:k<ys.length:=by omega
  refine aI 9 ?_ [3];refine cm [] (a_) [1,3,5,7,9,11,13,15,17] b5 ?_;intro w2 s_1;refine aj 2 ?_;replace ha:=ha.t s_1;refine bn ha ?_;intro _ VH BP j_;refine ck j_ ?_;intro xG g19;refine aj 2 ?_;replace hb:=hb.t s_1;refine bn hb ?_;intro _ JG JH iM;refine ck iM ?_;intro v23 g23;obtain rfl:=Bs.1 g19;obtain rfl:=Bs.1 g23;refine bK (λ_=>TJ (a:=_) (b:=_) (ML Tryz.underlying138 ai ai aq Tryz.underlying55 ai ai aq Tryz.underlying3 aq aq) aq rfl rfl) ?_;refine ay 1 ?_;refine bF 24 rfl (λgl=>?_) (λgl=>?_)
  ·
   have hne:xs≠ys:=λe=>gl (by subst e;rfl);refine aI 4 ?_ [1];refine bI Tryz.func87 ?_;replace hT:=hT.t s_1;exact⟨by rw[decide_eq_false hne],hT.bN ai⟩
  have B0:xs[k]=ys[k]:=Classical.not_not.1 gl;refine aI 6 ?_ [3];replace hF:=hF.st s_1;replace hT:=hT.t s_1;refine kp (aH 0 rfl rfl (aH 1 rfl rfl (aH 12 rfl rfl (aH 13 rfl (eq_int aF) (aR _))))) (bV (k+1,a_) _ ⟨aJ,(λi hi h1 h2=>by
    simp only at hi;by_cases e:i=k
    ·subst e;exact B0
    ·exact h0 i ah h1 h2),hF,hT,ha,hb⟩ aJ)
 have aA:k=xs.length:=by omega
 have heq:xs=ys:=MN l5 (λi h1 h2=>h0 i ah h1 h2);refine aI 5 ?_ [1];refine bI Tryz.func87 ?_;exact⟨by rw[decide_eq_true heq],hT.bN ai⟩
namespace acX
def c0:=cw Tryz.f42
end acX
theorem acY {w₀:World} {C:Nat->Nat} {c0:Nat} (hF:aL w₀ C) (hw:av w₀ (au C) ([]:List aD) (.slice none 0 c0)):Calls Tryz.prog 42 #[.slice none 0 c0] w₀ (bH λv w'=>ax [] w₀ C w' C/\av w' (au C) ([]:List aD) v):=by
 have bq:=hF;have hT:=z9 w₀ C;replace hF:=hF.bk;replace hw:av w₀ (au (bk C)) ([]:List aD) (.slice none 0 c0):=by rw[fu];exact hw
 refine cg Tryz.func42 ?_;refine aG 8 ?_ [1,3];refine bK (λ_=>Lp rfl Tryz.underlying23) ?_;refine ay 6 ?_ [1];refine bI Tryz.func42 ?_;exact⟨hT.bN ai,gu⟩
theorem acZ {w₀:World} {C:Nat->Nat} {px:Value} (hF:aL w₀ C) (hw:av w₀ (au C) ([]:List aD) px) {b0:Addr} {c0:Nat} (nF:px=.slice (some b0) 0 c0):Calls Tryz.prog 42 #[px] w₀ (bH λv w'=>ax [] w₀ C w' C/\av w' (au C) ([]:List aD) v):=by
 have bq:=hF;have hT:=z9 w₀ C;replace hF:=hF.bk;replace hw:av w₀ (au (bk C)) ([]:List aD) px:=by rw[fu];exact hw
 refine cg Tryz.func42 ?_;refine aG 8 ?_ [1,3];refine bK (λ_=>AU ((show _=some px from rfl).trans (congrArg some nF)) Tryz.underlying23) ?_;refine bQ 5 ?_ [10];refine bD (CS (n:=5) (e:=58) (bytes:=40) hF aq) ?_;rintro _ w1 ⟨⟨a5,rfl⟩,s_1,hF⟩;refine aj 1 ?_;replace hw:=hw.t s_1;refine bD (Ri (α:=aD) (C:=bk C) (e:=58) (bytes:=40) rfl rfl aq hw) ?_;rintro z7 w2 ⟨rfl,s_2⟩;refine ay 2 ?_;refine bI Tryz.func42 ?_;replace hT:=(hT.t s_1).t s_2;exact⟨hT.bN ai,CT⟩
theorem ac0 {w₀:World} {C:Nat->Nat} {xs:List aD} {px:Value} (hF:aL w₀ C) (hw:av w₀ (au C) xs px) (hne:xs≠[]) (hlen:xs.length<=1000000):Calls Tryz.prog 42 #[px] w₀ (bH λv w'=>ax [] w₀ C w' C/\av w' (au C) xs v):=by
 have bq:=hF;have hT:=z9 w₀ C;replace hF:=hF.bk;replace hw:=hw.c1;obtain⟨a0,c0,nF,Bx,_,hs0⟩:=ko.1 hw;obtain⟨b0,rfl⟩:∃b,a0=some b:=by
  rcases hs0 with h|⟨b,o,rfl,_⟩
  ·exact absurd h hne
  exact⟨_,rfl⟩
 clear hs0;refine cg Tryz.func42 ?_;refine aG 8 ?_ [1,3];refine bK (λ_=>AU ((show _=some px from rfl).trans (congrArg some nF)) Tryz.underlying23) ?_;refine bQ 5 ?_ [10];refine bD (CS (n:=5) (e:=58) (bytes:=40) hF aq) ?_;rintro _ w1 ⟨⟨a5,rfl⟩,s_1,hF⟩;refine aj 1 ?_;replace hw:=hw.t s_1;refine bD (EE (j:=5) (e:=58) (bytes:=40) (ys:=([]:List aD)) hF ai rfl rfl aq ai CT hw hne yD yD) ?_;rintro z7 w2 ⟨dm,s_2,hn,hF⟩;refine ay 2 ?_;simp only[List.nil_append] at hn;refine bI Tryz.func42 ?_;replace hT:=(hT.t s_1).t s_2;exact⟨hT.bN ai,hn.out hT bq (fu C) (λb _=>jT C ai b) ah⟩
theorem VI {w₀:World} {C:Nat->Nat} {xs:List aD} {px:Value} (hF:aL w₀ C) (hw:av w₀ (au C) xs px) (hlen:xs.length<=1000000):Calls Tryz.prog 42 #[px] w₀ (bH λv w'=>ax [] w₀ C w' C/\av w' (au C) xs v):=by
 by_cases hne:xs=[]
 ·subst hne;obtain⟨a0,c0,nF,Bx,_,hs0⟩:=ko.1 hw;have e0:px=.slice a0 0 c0:=nF;rcases a0 with _|b0
  ·subst e0;exact acY hF hw
  ·exact acZ hF hw e0
 ·exact ac0 hF hw hne hlen
namespace ac1
def c0:=cw Tryz.f150
end ac1
theorem ac2 {w₀:World} {C:Nat->Nat} {c0:Nat} (hF:aL w₀ C) (hw:av w₀ (au C) ([]:List ak) (.slice none 0 c0)):Calls Tryz.prog 150 #[.slice none 0 c0] w₀ (bH λv w'=>ax [] w₀ C w' C/\av w' (au C) ([]:List ak) v):=by
 have bq:=hF;have hT:=z9 w₀ C;replace hF:=hF.bk;replace hw:av w₀ (au (bk C)) ([]:List ak) (.slice none 0 c0):=by rw[fu];exact hw
 refine cg Tryz.func150 ?_;refine aG 8 ?_ [1,3];refine bK (λ_=>Lp rfl Tryz.underlying52) ?_;refine ay 6 ?_ [1];refine bI Tryz.func150 ?_;exact⟨hT.bN ai,gu⟩
theorem ac3 {w₀:World} {C:Nat->Nat} {px:Value} (hF:aL w₀ C) (hw:av w₀ (au C) ([]:List ak) px) {b0:Addr} {c0:Nat} (nF:px=.slice (some b0) 0 c0):Calls Tryz.prog 150 #[px] w₀ (bH λv w'=>ax [] w₀ C w' C/\av w' (au C) ([]:List ak) v):=by
 have bq:=hF;have hT:=z9 w₀ C;replace hF:=hF.bk;replace hw:av w₀ (au (bk C)) ([]:List ak) px:=by rw[fu];exact hw
 refine cg Tryz.func150 ?_;refine aG 8 ?_ [1,3];refine bK (λ_=>AU ((show _=some px from rfl).trans (congrArg some nF)) Tryz.underlying52) ?_;refine bQ 5 ?_ [10];refine bD (CS (n:=2) (e:=55) (bytes:=16) hF aq) ?_;rintro _ w1 ⟨⟨a5,rfl⟩,s_1,hF⟩;refine aj 1 ?_;replace hw:=hw.t s_1;refine bD (Ri (α:=ak) (C:=bk C) (e:=55) (bytes:=16) rfl rfl aq hw) ?_;rintro z7 w2 ⟨rfl,s_2⟩;refine ay 2 ?_;refine bI Tryz.func150 ?_;replace hT:=(hT.t s_1).t s_2;exact⟨hT.bN ai,CT⟩
theorem ac4 {w₀:World} {C:Nat->Nat} {xs:List ak} {px:Value} (hF:aL w₀ C) (hw:av w₀ (au C) xs px) (hne:xs≠[]) (hlen:xs.length<=1000000):Calls Tryz.prog 150 #[px] w₀ (bH λv w'=>ax [] w₀ C w' C/\av w' (au C) xs v):=by
 have bq:=hF;have hT:=z9 w₀ C;replace hF:=hF.bk;replace hw:=hw.c1;obtain⟨a0,c0,nF,Bx,_,hs0⟩:=ko.1 hw;obtain⟨b0,rfl⟩:∃b,a0=some b:=by
  rcases hs0 with h|⟨b,o,rfl,_⟩
  ·exact absurd h hne
  exact⟨_,rfl⟩
 clear hs0;refine cg Tryz.func150 ?_;refine aG 8 ?_ [1,3];refine bK (λ_=>AU ((show _=some px from rfl).trans (congrArg some nF)) Tryz.underlying52) ?_;refine bQ 5 ?_ [10];refine bD (CS (n:=2) (e:=55) (bytes:=16) hF aq) ?_;rintro _ w1 ⟨⟨a5,rfl⟩,s_1,hF⟩;refine aj 1 ?_;replace hw:=hw.t s_1;refine bD (EE (j:=5) (e:=55) (bytes:=16) (ys:=([]:List ak)) hF ai rfl rfl aq ai CT hw hne yD yD) ?_;rintro z7 w2 ⟨dm,s_2,hn,hF⟩;refine ay 2 ?_;simp only[List.nil_append] at hn;refine bI Tryz.func150 ?_;replace hT:=(hT.t s_1).t s_2;exact⟨hT.bN ai,hn.out hT bq (fu C) (λb _=>jT C ai b) ah⟩
theorem ac5 {w₀:World} {C:Nat->Nat} {xs:List ak} {px:Value} (hF:aL w₀ C) (hw:av w₀ (au C) xs px) (hlen:xs.length<=1000000):Calls Tryz.prog 150 #[px] w₀ (bH λv w'=>ax [] w₀ C w' C/\av w' (au C) xs v):=by
 by_cases hne:xs=[]
 ·subst hne;obtain⟨a0,c0,nF,Bx,_,hs0⟩:=ko.1 hw;have e0:px=.slice a0 0 c0:=nF;rcases a0 with _|b0
  ·subst e0;exact ac2 hF hw
  ·exact ac3 hF hw e0
 ·exact ac4 hF hw hne hlen
namespace ac6
def c0:=cw Tryz.f93
end ac6
theorem ac7 {w₀:World} {C:Nat->Nat} {xs:List ak} {px:Value} (hF:aL w₀ C) (hw:av w₀ (au C) xs px) (hlen:xs.length<=1000000):Calls Tryz.prog 93 #[px] w₀ (bH λv w'=>ax [] w₀ C w' C/\av w' (au C) xs v):=by
 have bq:=hF;have hT:=z9 w₀ C;replace hF:=hF.bk;replace hw:=hw.c1;refine cg Tryz.func93 ?_;refine aG 7 ?_ [1,5];refine bZ Tryz.call150 (ac5 hF hw hlen) ?_;rintro lX w1 ⟨s_1,hn⟩;refine ay 2 ?_;refine bI Tryz.func93 ?_;replace hT:=hT.t s_1;exact⟨hT.bN ai,hn.out hT bq (fu C)⟩
end
end Go.Proofs.YtmdhggfehknjjaaGreat
namespace Go.Proofs.YtmdhggfehknjjaaGreat
open Go.K Go.K.aZ
noncomputable section
namespace ac8
def c0:=cw Tryz.f17
end ac8
theorem VJ {w₀:World} {C:Nat->Nat} {l:List aD} {ds:List bC} {aK cO:Value} (hF:aL w₀ C) (hl:av w₀ (au C) l aK) (hz:av w₀ (au C) ds cO):Calls Tryz.prog 17 #[aK,cO] w₀ (bH λv w'=>∃bz bX,v=.tuple #[.agg #[bz,bX,.int .i64 (j9 l ds)],.int .i64 (h_ (dJ ds) l ds).2.2]/\ax [] w₀ C w' C/\av w' (au C) (qR l ds) bz/\av w' (au C) (oF l ds) bX):=by
 have bq:=hF;have hT:=z9 w₀ C;replace hF:=hF.bk;replace hl:=hl.c1;replace hz:=hz.c1;refine cg Tryz.func17 ?_;refine aG 2 ?_ [2];refine bD (fD (cs:=[.slice none 0 0,.slice none 0 0,.int .i64 0]) hF 3 aq) ?_;rintro _ w1 ⟨eP,ct,rfl,s_1,bW,hF⟩;refine bQ 6 ?_ [1019];replace hl:=hl.t s_1;replace hz:=hz.t s_1;refine bZ Tryz.call41 (UU hF hl hz) ?_;rintro _ w2 ⟨oQ,rfl,s_2,hp1⟩;refine ay 14 ?_ [3];refine bF 17 rfl (λfF=>?_) (λfF=>?_)
 ·
  refine aG 2 ?_ [11];refine bK (λ_=>gO (zs:=[.slice none 0 0,.slice none 0 0,.int .i64 0]) (ps:=[(0,1),(1,1),(2,1)]) (eo:=[]) (cs:=[.slice none 0 0,.slice none 0 0,.int .i64 0]) aq aq trivial rfl) ?_;refine aj 1 ?_;replace bW:=bW.t s_2;refine cq (eO (vs:=[.slice none 0 0,.slice none 0 0,.int .i64 0]) (n:=3) rfl rfl aq rfl rfl (by intro u hu;simp only[List.mem_cons,List.not_mem_nil,or_false] at hu;rcases hu with rfl|rfl|rfl<;>first|rfl) bW rfl) ?_;rintro _ w3 ⟨rfl,aB,bW⟩;refine ay 2 ?_;refine tX aq Tryz.func17 Tryz.results17 rfl rfl bW.at_ aq aq rfl ?_;replace hT:=((hT.t s_1).t s_2).t aB;exact⟨.slice none 0 0,.slice none 0 0,by rw[(Bt fF).2.2.1];rfl,hT.bN ai,by rw[(Bt fF).1];exact gu,by rw[(Bt fF).2.1];exact gu⟩
 have hE: (h_ (dJ ds) l ds).2.2=0:=Classical.not_not.1 fF;have k7:=TU hE;refine aG 4 ?_ [93];replace hF:=hF.st s_2;replace hl:=hl.t s_2;refine dc Tryz.call42 rfl (VI hF hl ah) ?_;rintro v21 w4 ⟨aM,hn⟩;refine aj 2 ?_;replace hp1:=hp1.t aM;refine bK (λ_=>gO (zs:=[.slice none 0 0,.slice none 0 0,.int .i64 0]) (ps:=[(0,1),(1,1),(2,1)]) (eo:=[(0,[v21]),(1,[oQ]),(2,[.int .i64 (h_ (dJ ds) l ds).2.1])]) (cs:=[v21,oQ,.int .i64 (h_ (dJ ds) l ds).2.1]) aq aq (by exact⟨rfl,⟨_,rfl,(hn.one rfl).1⟩,rfl,⟨_,rfl,(hp1.one rfl).1⟩,rfl,⟨_,rfl,rfl⟩,trivial⟩) rfl) ?_;replace bW:=(bW.t s_2).t aM;refine cq (eO (vs:=[v21,oQ,.int .i64 (h_ (dJ ds) l ds).2.1]) (n:=3) rfl rfl aq rfl rfl (by repeat' first|exact kX|refine kY ?_ ?_|rfl|exact(hn.one rfl).2|exact(hp1.one rfl).2) bW rfl) ?_;rintro _ ez ⟨rfl,aV,bW⟩;refine ay 2 ?_;refine tX aq Tryz.func17 Tryz.results17 rfl rfl bW.at_ aq aq rfl ?_;replace hT:=(((hT.t s_1).t s_2).t aM).t aV;replace hp1:=hp1.t aV;replace hn:=hn.t aV;exact⟨v21,oQ,by rw[(zV hE).2.2,hE];first|rfl|done,hT.bN ai,by rw[(zV hE).1];exact hn.out hT bq (fu C),by rw[(zV hE).2.1];exact hp1.out hT bq (fu C)⟩
namespace ac9
def c0:=cw Tryz.f14
end ac9
theorem VK {w₀:World} {C:Nat->Nat} {l:List aD} {ds:List bC} {aK cO:Value} (hF:aL w₀ C) (hl:av w₀ (au C) l aK) (hz:av w₀ (au C) ds cO):Calls Tryz.prog 14 #[aK,cO] w₀ (bH λv w'=>∃bz bX,v=.tuple #[.agg #[bz,bX,.int .i64 (j9 l ds)],.int .i64 (h_ (dJ ds) l ds).2.2]/\ax [] w₀ C w' C/\av w' (au C) (qR l ds) bz/\av w' (au C) (oF l ds) bX):=by
 have bq:=hF;have hT:=z9 w₀ C;replace hF:=hF.bk;replace hl:=hl.c1;replace hz:=hz.c1;refine cg Tryz.func14 ?_;refine aG 2 ?_ [2];refine bD (fD (cs:=[.slice none 0 0,.slice none 0 0,.int .i64 0]) hF 3 aq) ?_;rintro _ w1 ⟨eP,ct,rfl,s_1,bW,hF⟩;refine bQ 6 ?_ [1019];replace hl:=hl.t s_1;replace hz:=hz.t s_1;refine bZ Tryz.call39 (Vw hF hl hz) ?_;rintro _ w2 ⟨oQ,rfl,s_2,hp1⟩;refine ay 14 ?_ [3];refine bF 17 rfl (λfF=>?_) (λfF=>?_)
 ·
  refine aG 2 ?_ [11];refine bK (λ_=>gO (zs:=[.slice none 0 0,.slice none 0 0,.int .i64 0]) (ps:=[(0,1),(1,1),(2,1)]) (eo:=[]) (cs:=[.slice none 0 0,.slice none 0 0,.int .i64 0]) aq aq trivial rfl) ?_;refine aj 1 ?_;replace bW:=bW.t s_2;refine cq (eO (vs:=[.slice none 0 0,.slice none 0 0,.int .i64 0]) (n:=3) rfl rfl aq rfl rfl (by intro u hu;simp only[List.mem_cons,List.not_mem_nil,or_false] at hu;rcases hu with rfl|rfl|rfl<;>first|rfl) bW rfl) ?_;rintro _ w3 ⟨rfl,aB,bW⟩;refine ay 2 ?_;refine tX aq Tryz.func14 Tryz.results14 rfl rfl bW.at_ aq aq rfl ?_;replace hT:=((hT.t s_1).t s_2).t aB;exact⟨.slice none 0 0,.slice none 0 0,by rw[(Bt fF).2.2.1];rfl,hT.bN ai,by rw[(Bt fF).1];exact gu,by rw[(Bt fF).2.1];exact gu⟩
 have hE: (h_ (dJ ds) l ds).2.2=0:=Classical.not_not.1 fF;have k7:=TU hE;refine aG 4 ?_ [93];replace hF:=hF.st s_2;replace hl:=hl.t s_2;refine bD (Iv (j:=4) (e:=58) (bytes:=40) hF ai rfl rfl aq ai hl ah ah) ?_;rintro v21 w4 ⟨gR,aM,hn,hF,_⟩;replace hF:=hF.bu 4;replace hT:=((hT.t s_1).t s_2).t aM;replace hT:=hT.bu (n:=4) (λb=>Nat.lt_of_lt_of_le (r7 C b) ai);replace hl:=hl.t aM;replace hl:=hl.bu 4;replace hz:=(hz.t s_2).t aM;replace hz:=hz.bu 4;replace bW:=(bW.t s_2).t aM;replace bW:=bW.bu (n:=4) ai;replace hp1:=hp1.t aM;replace hp1:=hp1.bu 4;have VL:=hn.bu (n:=4) ai ah;replace hn:=VL;clear VL;refine aj 2 ?_;refine bK (λ_=>gO (zs:=[.slice none 0 0,.slice none 0 0,.int .i64 0]) (ps:=[(0,1),(1,1),(2,1)]) (eo:=[(0,[v21]),(1,[oQ]),(2,[.int .i64 (h_ (dJ ds) l ds).2.1])]) (cs:=[v21,oQ,.int .i64 (h_ (dJ ds) l ds).2.1]) aq aq (by exact⟨rfl,⟨_,rfl,(hn.one rfl).1⟩,rfl,⟨_,rfl,(hp1.one rfl).1⟩,rfl,⟨_,rfl,rfl⟩,trivial⟩) rfl) ?_;refine cq (eO (vs:=[v21,oQ,.int .i64 (h_ (dJ ds) l ds).2.1]) (n:=3) rfl rfl aq rfl rfl (by repeat' first|exact kX|refine kY ?_ ?_|rfl|exact(hn.one rfl).2|exact(hp1.one rfl).2) bW rfl) ?_;rintro _ ez ⟨rfl,aV,bW⟩;refine ay 2 ?_;refine tX aq Tryz.func14 Tryz.results14 rfl rfl bW.at_ aq aq rfl ?_;replace hT:=hT.t aV;replace hp1:=hp1.t aV;replace hn:=hn.t aV;exact⟨v21,oQ,by rw[(zV hE).2.2,hE];first|rfl|done,hT.bN ai,by rw[(zV hE).1];exact hn.out hT bq (fu C),by rw[(zV hE).2.1];exact hp1.out hT bq (fu C)⟩
end
end Go.Proofs.YtmdhggfehknjjaaGreat
namespace Go.Proofs.YtmdhggfehknjjaaGreat
open Go.K Go.K.aZ
noncomputable section
namespace ac_
def c0:=cw Tryz.f86
end ac_
theorem VM {w₀:World} {C:Nat->Nat} {s:List ak} {l:List aD} {vs aK:Value} (hF:aL w₀ C) (hs0:av w₀ (au C) s vs) (hl:av w₀ (au C) l aK) (k7:l.length<=4096):Calls Tryz.prog 86 #[vs,aK] w₀ (bH λv w'=>ax [] w₀ C w' C/\av w' (au C) (n9 s l) v):=by
 have bq:=hF;have hT:=z9 w₀ C;replace hF:=hF.bk;replace hs0:=hs0.c1;replace hl:=hl.c1;refine cg Tryz.func86 ?_;refine aG 12 ?_ [1,1,7];refine dE hl.ln ?_;refine ay 3 ?_;refine cH (ι:=Nat×Value×(Nat->Nat)) (I:=λx w=>x.1<=l.length/\aL w x.2.2/\ax [2,3,4,5,6,7,8,9] w₀ (bk C) w x.2.2/\av w (au x.2.2) s vs/\av w (au x.2.2) l aK/\bg w x.2.2 4 58 x.2.1 (n9 s (l.take x.1))) (e:=λx=>[(0,vs),(5,x.2.1),(8,aK),(9,.int .i64 l.length),(10,.int .i64 x.1)]) (m:=λx=>l.length-x.1) (cC:=(0,.slice none 0 0,bk C)) (af 0 (af 5 (af 8 (af 9 (af 10 (aR _)))))) ?_ ?_
 · exact⟨Nat.zero_le _,hF,hT,hs0,hl,bg.nil⟩
 intro⟨k,cM,a_⟩ w1 hI bV;obtain⟨hk,hF,hT,hs0,hl,ho⟩:=hI;try simp only at hk hF hT hs0 hl ho
 show Run _ _ _ _ [(0,vs),(5,cM),(8,aK),(9,.int .i64 l.length),(10,.int .i64 k)] _ _;have hle:=hl.le;have hel:=TH (s:=s) (l:=l) k;refine aI 5 ?_ [1];refine bF 11 rfl (λkQ=>?_) (λkQ=>?_)
 ·
  have aA:k<l.length:=by omega
  have eV:=TG (s:=s) aA;refine aG 5 ?_ [1];refine bn hl ?_;intro _ Uf DJ h12;refine iq h12 ?_;intro Ug g13;obtain rfl:=gY.1 g13;refine bD (fD (cs:=[.int .i64 0,.int .i64 0,.int .i64 0,.int .i64 0,.int .i64 0]) hF 5 aq) ?_;rintro _ w2 ⟨dm,ew,rfl,s_1,bW,hF⟩;refine cq (eO (vs:=iH (l[k]'aA)) (n:=5) rfl rfl aq rfl rfl (jf rfl) bW rfl) ?_;rintro _ w3 ⟨rfl,s_2,bW⟩;refine ay 2 ?_;by_cases hA: (l[k]'aA).A∈s
  ·
   refine aG 3 ?_ [627,0];refine cu 2 (bh (l[k]'aA).A) bW.at_ ?_;replace hs0:=(hs0.t s_1).t s_2;replace hF:=hF.st s_2;refine bZ Tryz.call49 (jC (c:=(l[k]'aA).A) hF hs0) ?_;rintro j4 w4 ⟨rfl,aB⟩;rw[jE,decide_eq_true hA];refine bQ 10 ?_ [17];replace bW:=bW.t aB;refine cu 5 (iH (l[k]'aA)) bW.at_ ?_;replace hF:=hF.st aB;refine bD (fk (ys:=([l[k]'aA]:List aD)) (e:=58) (bytes:=40) hF aq rfl ai ai ⟨rfl,⟨_,rfl,gY.2 rfl⟩,trivial⟩) ?_;rintro v26 ez ⟨aM,uP,hF⟩;replace ho:=(((ho.t s_1).t s_2).t aB).t aM;refine bD (eY (e:=58) (bytes:=40) hF ai rfl rfl aq ai ho uP fC fC) ?_;rintro zw fE ⟨Gn,aV,ho,hF⟩;refine ay 7 ?_ [3];rw[if_pos (.inl hA)] at eV;replace hT:=((((hT.t s_1).t s_2).t aB).t aM).t aV;replace hl:=((((hl.t s_1).t s_2).t aB).t aM).t aV;replace hs0:=((hs0.t aB).t aM).t aV;refine kp (af 0 (af 5 (af 8 (af 9 (aH 10 rfl (eq_int aF) (aR _)))))) (bV (k+1,zw,Gn) _ ⟨aJ,hF,hT,hs0,hl,(by simp only;rw[eV];exact ho)⟩ aJ)
  by_cases hB: (l[k]'aA).B∈s
  ·
   refine aG 3 ?_ [627,0];refine cu 2 (bh (l[k]'aA).A) bW.at_ ?_;replace hs0:=(hs0.t s_1).t s_2;replace hF:=hF.st s_2;refine bZ Tryz.call49 (jC (c:=(l[k]'aA).A) hF hs0) ?_;rintro mE w7 ⟨rfl,aX⟩;rw[jE,decide_eq_false hA];refine aj 3 ?_ [2];replace bW:=bW.t aX;refine cu 2 (bh (l[k]'aA).B) bW.at_ ?_;replace hF:=hF.st aX;replace hs0:=hs0.t aX;refine bZ Tryz.call49 (jC (c:=(l[k]'aA).B) hF hs0) ?_;rintro wF fR ⟨rfl,bp⟩;rw[jE,decide_eq_true hB];refine bQ 5 ?_ [17];replace bW:=bW.t bp;refine cu 5 (iH (l[k]'aA)) bW.at_ ?_;replace hF:=hF.st bp;refine bD (fk (ys:=([l[k]'aA]:List aD)) (e:=58) (bytes:=40) hF aq rfl ai ai ⟨rfl,⟨_,rfl,gY.2 rfl⟩,trivial⟩) ?_;rintro v26 gE ⟨bt,uP,hF⟩;replace ho:=((((ho.t s_1).t s_2).t aX).t bp).t bt;refine bD (eY (e:=58) (bytes:=40) hF ai rfl rfl aq ai ho uP fC fC) ?_;rintro zw iI ⟨Gm,bM,ho,hF⟩;refine ay 7 ?_ [3];rw[if_pos (.inr hB)] at eV;replace hT:=(((((hT.t s_1).t s_2).t aX).t bp).t bt).t bM;replace hl:=(((((hl.t s_1).t s_2).t aX).t bp).t bt).t bM;replace hs0:=((hs0.t bp).t bt).t bM;refine kp (af 0 (af 5 (af 8 (af 9 (aH 10 rfl (eq_int aF) (aR _)))))) (bV (k+1,zw,Gm) _ ⟨aJ,hF,hT,hs0,hl,(by simp only;rw[eV];exact ho)⟩ aJ)
  refine aG 3 ?_ [627,0];refine cu 2 (bh (l[k]'aA).A) bW.at_ ?_;replace hs0:=(hs0.t s_1).t s_2;replace hF:=hF.st s_2;refine bZ Tryz.call49 (jC (c:=(l[k]'aA).A) hF hs0) ?_;rintro A_ jj ⟨rfl,bE⟩;rw[jE,decide_eq_false hA];refine aj 3 ?_ [2];replace bW:=bW.t bE;refine cu 2 (bh (l[k]'aA).B) bW.at_ ?_;replace hF:=hF.st bE;replace hs0:=hs0.t bE;refine bZ Tryz.call49 (jC (c:=(l[k]'aA).B) hF hs0) ?_;rintro Aa jQ ⟨rfl,bP⟩;rw[jE,decide_eq_false hB];refine ay 9 ?_ [3];rw[if_neg (λh=>h.elim hA hB)] at eV;have wT:=((s_1.aY s_2).aY bE).aY bP;replace hT:=(((hT.t s_1).t s_2).t bE).t bP;replace hl:=hl.t wT;replace ho:=ho.t wT;replace hF:=hF.st bP;replace hs0:=hs0.t bP;refine kp (af 0 (af 5 (af 8 (af 9 (aH 10 rfl (eq_int aF) (aR _)))))) (bV (k+1,cM,dm) _ ⟨aJ,hF,hT,hs0,hl,(by simp only;rw[eV];exact ho)⟩ aJ)
 have aA:k=l.length:=by omega
 rw[aA,List.take_length] at ho hel;refine aI 6 ?_ [3];refine bI Tryz.func86 ?_;exact⟨hT.bN ai,ho.out hT bq (fu C) (λb _=>jT C ai b) ah⟩
end
end Go.Proofs.YtmdhggfehknjjaaGreat
