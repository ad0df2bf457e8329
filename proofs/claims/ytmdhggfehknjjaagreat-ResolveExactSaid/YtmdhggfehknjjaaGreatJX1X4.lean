/- Steps through functions of the program. -/
import Derived.Test.YtmdhggfehknjjaaGreatJD4E2
import Derived.Test.YtmdhggfehknjjaaGreatL3
set_option maxRecDepth 100000
set_option maxHeartbeats 4000000
namespace Go.Proofs.YtmdhggfehknjjaaGreat
open Go.K Go.K.aZ
noncomputable section
namespace aa5
def c0:=cw Tryz.f58
def kP:=(cl (aC (cl (aC (aC c0)))))
def rI:=(aC (cl (cl (aC (cl kP)))))
def EW:=di (cl (aC (aC rI)))
end aa5
theorem NZ {w₀:World} {C:Nat->Nat} {l:List aD} {aK:Value} (hF:aL w₀ C) (hl:av w₀ (au C) l aK):Calls Tryz.prog 58 #[aK] w₀ (bH λv w'=>v=.int .i64 (gD l)/\ax [] w₀ C w' C):=by
 have bq:=hF;have hT:=z9 w₀ C;replace hF:=hF.bk;replace hl:=hl.c1;refine cg Tryz.func58 ?_;refine aG 8 ?_ [1,7];refine dE hl.ln ?_;refine ay 2 ?_;refine bF 7 rfl (λh7=>?_) (λh7=>?_)
 ·
  refine aI 4 ?_ [1];refine bI Tryz.func58 ?_;exact⟨by rw[QC ah],hT.bN ai⟩
 have hlim:l.length<=4096:=by omega
 refine aI 7 ?_ [1];refine cH (ι:=Nat×(Nat->Nat)) (I:=λx w=>x.1<=l.length/\(∀k,k<x.1->uc l k=0)/\aL w x.2/\ax [2,3,4,5,6,7,8,9] w₀ (bk C) w x.2/\av w (au x.2) l aK) (e:=λx=>[(0,aK),(3,.int .i64 x.1)]) (m:=λx=>l.length-x.1) (cC:=(0,bk C)) (af 0 (af 3 (aR _))) ?_ ?_
 · exact⟨Nat.zero_le _,λk hk=>by simp at hk,hF,hT,hl⟩
 intro⟨i,a_⟩ w1 hI bV;obtain⟨hi,h0,hF,hT,hl⟩:=hI;try simp only at hi h0 hF hT hl
 show Run _ _ _ _ [(0,aK),(3,.int .i64 i)] _ _;refine aG 5 ?_ [15];refine dE hl.ln ?_;refine ay 2 ?_;refine bF 11 rfl (λkQ=>?_) (λkQ=>?_)
 ·
  have hil:i<l.length:=by omega
  have hE:=K0 hil;refine aG 7 ?_ [7];refine bn hl ?_;intro _ gG pI en;refine iq en ?_;intro v17 g17;obtain rfl:=gY.1 g17;refine bD (fD (cs:=[.int .i64 0,.int .i64 0,.int .i64 0,.int .i64 0,.int .i64 0]) hF 4 aq) ?_;rintro _ w2 ⟨dm,ew,rfl,s_1,hx,hF⟩;refine cq (eO (vs:=iH (l[i]'hil)) (n:=5) rfl rfl aq rfl rfl (jf rfl) hx rfl) ?_;rintro _ w3 ⟨rfl,s_2,hx⟩;refine ay 3 ?_;refine kJ 36 (!jK (l[i]'hil).A (l[i]'hil).B) (dm) ?_ ?_
  ·
   intro c5;by_cases hA:mK (l[i]'hil).A=true
   ·
    by_cases hB:mK (l[i]'hil).B=true
    ·
     by_cases hC: (l[i]'hil).B.a<=(l[i]'hil).A.a
     ·
      refine aG 1 ?_ [450361];replace hF:=hF.st s_2;have hcs:=ax.ou hF;refine aj 1 ?_ [0];refine cu 2 (bh (l[i]'hil).A) hx.at_ ?_;refine bZ Tryz.call100 (td (x:=(l[i]'hil).A) hF) ?_;rintro j4 w4 ⟨rfl,aB⟩;rw[hA];refine aj 3 ?_ [2];replace hx:=hx.t aB;refine cu 2 (bh (l[i]'hil).B) hx.at_ ?_;replace hF:=hF.st aB;refine bZ Tryz.call100 (td (x:=(l[i]'hil).B) hF) ?_;rintro mP ez ⟨rfl,aM⟩;rw[hB];refine aj 5 ?_ [0,0];replace hx:=hx.t aM;refine bU hx.at_ ?_;refine aj 2 ?_ [2,0];refine bU hx.at_ ?_;refine dT hC ?_;refine aj 1 ?_;replace hcs:=(hcs.t aB).t aM;exact cD.nil (c5 _ _ _ hcs rfl (by unfold jK;rw[hA,hB,decide_eq_false ah];rfl) (ef 19))
     refine aG 1 ?_ [450361];replace hF:=hF.st s_2;have hcs:=ax.ou hF;refine aj 1 ?_ [0];refine cu 2 (bh (l[i]'hil).A) hx.at_ ?_;refine bZ Tryz.call100 (td (x:=(l[i]'hil).A) hF) ?_;rintro nr fE ⟨rfl,aV⟩;rw[hA];refine aj 3 ?_ [2];replace hx:=hx.t aV;refine cu 2 (bh (l[i]'hil).B) hx.at_ ?_;replace hF:=hF.st aV;refine bZ Tryz.call100 (td (x:=(l[i]'hil).B) hF) ?_;rintro mE w7 ⟨rfl,aX⟩;rw[hB];refine aj 5 ?_ [0,0];replace hx:=hx.t aX;refine bU hx.at_ ?_;refine aj 2 ?_ [2,0];refine bU hx.at_ ?_;refine ey hC ?_;refine aj 1 ?_;replace hcs:=(hcs.t aV).t aX;exact cD.nil (c5 _ _ _ hcs rfl (by unfold jK;rw[hA,hB,decide_eq_true ah];rfl) (ef 19))
    refine aG 1 ?_ [450361];replace hF:=hF.st s_2;have hcs:=ax.ou hF;refine aj 1 ?_ [0];refine cu 2 (bh (l[i]'hil).A) hx.at_ ?_;refine bZ Tryz.call100 (td (x:=(l[i]'hil).A) hF) ?_;rintro wF fR ⟨rfl,bp⟩;rw[hA];refine aj 3 ?_ [2];replace hx:=hx.t bp;refine cu 2 (bh (l[i]'hil).B) hx.at_ ?_;replace hF:=hF.st bp;refine bZ Tryz.call100 (td (x:=(l[i]'hil).B) hF) ?_;rintro vV gE ⟨rfl,bt⟩;rw[Bool.eq_false_iff.2 hB];refine aj 11 ?_;replace hcs:=(hcs.t bp).t bt;exact cD.nil (c5 _ _ _ hcs rfl (by unfold jK;rw[hA,Bool.eq_false_iff.2 hB];rfl) (ef 19))
   refine aG 1 ?_ [450361];replace hF:=hF.st s_2;have hcs:=ax.ou hF;refine aj 1 ?_ [0];refine cu 2 (bh (l[i]'hil).A) hx.at_ ?_;refine bZ Tryz.call100 (td (x:=(l[i]'hil).A) hF) ?_;rintro uz iI ⟨rfl,bM⟩;rw[Bool.eq_false_iff.2 hA];refine aj 16 ?_;replace hcs:=hcs.t bM;exact cD.nil (c5 _ _ _ hcs rfl (by unfold jK;rw[Bool.eq_false_iff.2 hA];rfl) (ef 19))
  intro jj bE;refine gJ 36 rfl (λlu=>?_) (λlu=>?_)
  ·
   refine aI 4 ?_ [1];refine bI Tryz.func58 ?_;rw[if_pos (by simpa using lu)] at hE;replace hT:=((hT.t s_1).t s_2).t bE;exact⟨by rw[CB hlim hil h0 (by rw[hE];decide),hE],hT.bN ai⟩
  refine aI 3 ?_;refine kJ 44 (decide ((l[i]'hil).w<1\/1048576<(l[i]'hil).w)) (dm) ?_ ?_
  ·
   intro c5;by_cases hA: (l[i]'hil).w<1
   ·
    refine aG 2 ?_ [221,4];replace hx:=hx.t bE;refine bU hx.at_ ?_;refine dT hA ?_;refine aj 5 ?_;exact cD.nil (c5 _ _ _ (ax.refl _ _ _) rfl (by rw[decide_eq_true (Or.inl hA)]) (ef 8))
   refine aG 2 ?_ [221,4];replace hx:=hx.t bE;refine bU hx.at_ ?_;refine ey hA ?_;refine aj 2 ?_ [4];refine bU hx.at_ ?_;refine aj 2 ?_;exact cD.nil (c5 _ _ _ (ax.refl _ _ _) rfl (by congr 1;apply decide_eq_decide.2;omega) (ef 8))
  intro jQ bP;refine bF 44 rfl (λjP=>?_) (λjP=>?_)
  ·
   refine aI 4 ?_ [1];refine bI Tryz.func58 ?_;rw[if_neg (by simpa using lu),if_pos jP] at hE;replace hT:=(((hT.t s_1).t s_2).t bE).t bP;exact⟨by rw[CB hlim hil h0 (by rw[hE];decide),hE],hT.bN ai⟩
  refine aI 2 ?_;refine kJ 80 (decide (0<i/\¬gZ (l[i-1]'ah) (l[i]'hil))) (dm) ?_ ?_
  ·
   intro c5;by_cases hA: (0:Int)<i
   ·
    by_cases hB:er (l[((i:Int)-1).toNat]'ah).A (l[i]'hil).A
    ·
     refine cm [] (dm) [1,3,5,7,9,11,13,15,17,19,21,22,25,27,29,31,33,35,37,39,41,43,45,47,49,51,53,55,57,59,61,62,65,67,69,71] b5 ?_;intro ki bS;have hcs:=bS;have hR:=ax.refl [] ki (dm);replace hx:=((hx.t bE).t bP).t bS;have hx0:=hx;replace hl:=((((hl.t s_1).t s_2).t bE).t bP).t bS;have jl:=hl;refine aj 1 ?_;refine dT hA ?_;refine aj 4 ?_;refine bn jl ?_;intro _ DH DI sJ;have q5:=bJ.jr sJ;refine aj 1 ?_ [0];refine ck q5 ?_;intro v53 gW;have BL:=gW;replace gW:=gW.st hR (by first|decide|(simp<;>omega));obtain rfl:=bR.1 gW;refine aj 1 ?_ [0];refine dn 2 (bh (l[i]'hil).A) hx0.sz ?_;replace hF:=(((hF.st s_2).st bE).st bP).st bS;refine gn Tryz.call44 rfl (qj (x:=(l[((i:Int)-1).toNat]'ah).A) (y:=(l[i]'hil).A) hF) ?_;rintro UW kA ⟨rfl,b7⟩;rw[decide_eq_true hB];refine⟨(hR.trans b7 aF).ext,?_⟩;refine aj 19 ?_;replace hR:=hR.t b7;refine aj 5 ?_;replace hcs:=hcs.t b7;exact cD.nil (c5 _ _ _ hcs rfl (by
  have e1: ((i:Int)-1).toNat=i-1:=by omega
  simp only[e1] at hB;rw[decide_eq_false (λe=>e.2 (Or.inl hB))];rfl) (ef 36))
    by_cases hC: (l[((i:Int)-1).toNat]'ah).A=(l[i]'hil).A
    ·
     refine cm [] (dm) [1,3,5,7,9,11,13,15,17,19,21,22,25,27,29,31,33,35,37,39,41,43,45,47,49,51,53,55,57,59,61,62,65,67,69,71] b5 ?_;intro kR cn;have hcs:=cn;have hR:=ax.refl [] kR (dm);replace hx:=((hx.t bE).t bP).t cn;have hx0:=hx;replace hl:=((((hl.t s_1).t s_2).t bE).t bP).t cn;have jl:=hl;refine aj 1 ?_;refine dT hA ?_;refine aj 4 ?_;refine bn jl ?_;intro _ DH DI sJ;have q5:=bJ.jr sJ;refine aj 1 ?_ [0];refine ck q5 ?_;intro v53 gW;have BL:=gW;replace gW:=gW.st hR (by first|decide|(simp<;>omega));obtain rfl:=bR.1 gW;refine aj 1 ?_ [0];refine dn 2 (bh (l[i]'hil).A) hx0.sz ?_;replace hF:=(((hF.st s_2).st bE).st bP).st cn;refine gn Tryz.call44 rfl (qj (x:=(l[((i:Int)-1).toNat]'ah).A) (y:=(l[i]'hil).A) hF) ?_;rintro Jn kB ⟨rfl,bY⟩;rw[decide_eq_false hB];refine⟨(hR.trans bY aF).ext,?_⟩;refine aj 4 ?_;refine bn jl ?_;intro _ aa6 aa7 oe;have Gc:=bJ.jr oe;refine aj 1 ?_ [0];refine ck Gc ?_;intro zC sP;have aa8:=sP;replace hR:=hR.t bY;replace sP:=sP.st hR (by first|decide|(simp<;>omega));obtain rfl:=bR.1 sP;refine aj 1 ?_ [0];refine dn 2 (bh (l[i]'hil).A) hx0.sz ?_;refine bK (λ_=>mu (iw (a:=(l[((i:Int)-1).toNat]'ah).A) (b:=((l[i]'hil).A)) Tryz.underlying55 ai ai aq Tryz.underlying3 rfl rfl) hC) ?_;refine aj 4 ?_;refine bn jl ?_;intro _ aa9 aa_ N0;have yd:=bJ.mJ N0;refine aj 1 ?_ [2];refine ck yd ?_;intro UX wM;have ahe:=wM;replace wM:=wM.st hR (by first|decide|(simp<;>omega));obtain rfl:=bR.1 wM;refine aj 1 ?_ [2];refine dn 2 (bh (l[i]'hil).B) hx0.sz ?_;replace hF:=hF.st bY;refine gn Tryz.call44 rfl (qj (x:=(l[((i:Int)-1).toNat]'ah).B) (y:=(l[i]'hil).B) hF) ?_;rintro Ae mb ⟨rfl,bT⟩;refine⟨(hR.trans bT aF).ext,?_⟩;refine aj 2 ?_;refine bK (λ_=>rW rfl) ?_;refine aj 1 ?_;replace hcs:=(hcs.t bY).t bT;exact cD.nil (c5 _ _ _ hcs rfl (by
  have e1: ((i:Int)-1).toNat=i-1:=by omega
  simp only[e1] at hB hC⊢;congr 1;apply decide_eq_decide.2;unfold gZ;constructor
  · intro h1;exact⟨by omega,λh2=>h2.elim hB (λh3=>h1 h3.2)⟩
  · intro h1 h2;exact h1.2 (Or.inr ⟨hC,h2⟩)) (ef 36))
    refine cm [] (dm) [1,3,5,7,9,11,13,15,17,19,21,22,25,27,29,31,33,35,37,39,41,43,45,47,49,51,53,55,57,59,61,62,65,67,69,71] b5 ?_;intro mc b_;have hcs:=b_;have hR:=ax.refl [] mc (dm);replace hx:=((hx.t bE).t bP).t b_;have hx0:=hx;replace hl:=((((hl.t s_1).t s_2).t bE).t bP).t b_;have jl:=hl;refine aj 1 ?_;refine dT hA ?_;refine aj 4 ?_;refine bn jl ?_;intro _ DH DI sJ;have q5:=bJ.jr sJ;refine aj 1 ?_ [0];refine ck q5 ?_;intro v53 gW;have BL:=gW;replace gW:=gW.st hR (by first|decide|(simp<;>omega));obtain rfl:=bR.1 gW;refine aj 1 ?_ [0];refine dn 2 (bh (l[i]'hil).A) hx0.sz ?_;replace hF:=(((hF.st s_2).st bE).st bP).st b_;refine gn Tryz.call44 rfl (qj (x:=(l[((i:Int)-1).toNat]'ah).A) (y:=(l[i]'hil).A) hF) ?_;rintro NR mg ⟨rfl,cQ⟩;rw[decide_eq_false hB];refine⟨(hR.trans cQ aF).ext,?_⟩;refine aj 4 ?_;refine bn jl ?_;intro _ aa6 aa7 oe;have Gc:=bJ.jr oe;refine aj 1 ?_ [0];refine ck Gc ?_;intro zC sP;have aa8:=sP;replace hR:=hR.t cQ;replace sP:=sP.st hR (by first|decide|(simp<;>omega));obtain rfl:=bR.1 sP;refine aj 1 ?_ [0];refine dn 2 (bh (l[i]'hil).A) hx0.sz ?_;refine bK (λ_=>lG (iw (a:=(l[((i:Int)-1).toNat]'ah).A) (b:=((l[i]'hil).A)) Tryz.underlying55 ai ai aq Tryz.underlying3 rfl rfl) hC) ?_;refine aj 14 ?_;replace hcs:=hcs.t cQ;exact cD.nil (c5 _ _ _ hcs rfl (by
  have e1: ((i:Int)-1).toNat=i-1:=by omega
  simp only[e1] at hB hC;rw[decide_eq_true (show 0<i/\¬gZ (l[i-1]'ah) (l[i]'hil) from⟨by omega,λh2=>h2.elim hB (λh3=>hC h3.1)⟩)];rfl) (ef 36))
   refine cm [] (dm) [1,3,5,7,9,11,13,15,17,19,21,22,25,27,29,31,33,35,37,39,41,43,45,47,49,51,53,55,57,59,61,62,65,67,69,71] b5 ?_;intro mQ cB;have hcs:=cB;have hR:=ax.refl [] mQ (dm);replace hx:=((hx.t bE).t bP).t cB;have hx0:=hx;replace hl:=((((hl.t s_1).t s_2).t bE).t bP).t cB;have jl:=hl;refine aj 1 ?_;refine ey hA ?_;refine aj 34 ?_;exact cD.nil (c5 _ _ _ hcs rfl (by rw[decide_eq_false (λe=>hA ah)]) (ef 36))
  intro oK dP;refine bF 80 rfl (λBF=>?_) (λBF=>?_)
  ·
   refine aI 4 ?_ [1];refine bI Tryz.func58 ?_;rw[if_neg (by simpa using lu),if_neg jP,if_pos BF] at hE;replace hT:=((((hT.t s_1).t s_2).t bE).t bP).t dP;exact⟨by rw[CB hlim hil h0 (by rw[hE];decide),hE],hT.bN ai⟩
  refine aI 7 ?_ [7];replace hT:=((((hT.t s_1).t s_2).t bE).t bP).t dP;replace hl:=((((hl.t s_1).t s_2).t bE).t bP).t dP;replace hF:=(((hF.st s_2).st bE).st bP).st dP;refine kp (aH 0 rfl rfl (aH 3 rfl (eq_int aF) (aR _))) (bV (i+1,dm) _ ⟨aJ,(λk hk=>by
       simp only at hk;by_cases e:k=i
       ·subst e;rw[hE,if_neg (by simpa using lu),if_neg jP,if_neg BF]
       ·exact h0 k ah),hF,hT,hl⟩ aJ)
 have hil:i=l.length:=by omega
 refine aI 5 ?_ [1];refine bI Tryz.func58 ?_;subst hil;exact⟨by rw[KZ hlim h0],hT.bN ai⟩
end
end Go.Proofs.YtmdhggfehknjjaaGreat
namespace Go.Proofs.YtmdhggfehknjjaaGreat
open Go.K Go.K.aZ
noncomputable section
namespace UY
def c0:=cw Tryz.f56
def qH:=(cl (cl (cl (aC (aC c0)))))
def o2:=di (cl (cl qH))
def sB:=(cl (cl (aC (aC (aC c0)))))
def vY:=di sB
def nu:=(cl (aC (aC (aC (aC c0)))))
def ru:=di nu
end UY
theorem BM {w₀:World} {C:Nat->Nat} {l:List ak} {c:ak} {aK:Value} (hF:aL w₀ C) (hl:av w₀ (au C) l aK) (hlen:l.length<=8796093022000):Calls Tryz.prog 56 #[aK,.agg #[.int .i64 c.a,.int .i64 c.b]] w₀ (bH λv w'=>ax [] w₀ C w' C/\av w' (au C) (fM l c) v):=by
 have bq:=hF;have hT:=z9 w₀ C;replace hF:=hF.bk;replace hl:=hl.c1;refine cg Tryz.func56 ?_;refine aG 2 ?_ [2];refine bD (eX (cs:=bh c) hF 3 rfl rfl) ?_;rintro _ w1 ⟨eP,ct,rfl,s_1,hx,hF⟩;refine ay 8 ?_ [1];refine cH (ι:=Nat×(Nat->Nat)) (I:=λx w=>x.1<=l.length/\(∀i,i<x.1->∀(hi:i<l.length),oC l[i] c=true)/\aL w x.2/\ax [2,3,4,5,6,7,8,9] w₀ (bk C) w x.2/\av w (au x.2) l aK/\cE w x.2 3 ct (.cells (bh c).toArray 55)) (e:=λx=>[(0,aK),(3,.pointer (some ⟨ct,0,none⟩)),(4,.slice none 0 0),(5,.int .i64 x.1)]) (m:=λx=>l.length-x.1) (cC:=(0,eP)) (af 0 (af 3 (af 4 (af 5 (aR _))))) ?_ ?_
 ·
   replace hT:=hT.t s_1;replace hl:=hl.t s_1;exact⟨Nat.zero_le _,λi hi=>by simp at hi,hF,hT,hl,hx⟩
 intro⟨k,a_⟩ w2 hI bV;obtain⟨hk,h0,hF,hT,hl,hx⟩:=hI;try simp only at hk h0 hF hT hl hx
 show Run _ _ _ _ [(0,aK),(3,.pointer (some ⟨ct,0,none⟩)),(4,.slice none 0 0),(5,.int .i64 k)] _ _;refine aI 2 ?_;refine kJ 18 ((if h:k<l.length then oC l[k] c else false)) (a_) ?_ ?_
 ·
  intro c5;by_cases hA: (k:Int)<l.length
  ·
   refine cm [] (a_) [1,3,5,7,9,11,13,15,17,19,20,23] b5 ?_;intro w3 s_2;have hcs:=s_2;have hR:=ax.refl [] w3 (a_);refine aj 2 ?_;replace hl:=hl.t s_2;refine dE hl.ln ?_;refine dT hA ?_;refine aj 3 ?_;refine bn hl ?_;intro _ gT qI fJ;refine ck fJ ?_;intro vU g15;obtain rfl:=bR.1 g15;replace hx:=hx.t s_2;refine dn 2 (bh c) hx.sz ?_;replace hF:=hF.st s_2;refine dC Tryz.call44 (qj (x:=l[k]) (y:=c) hF) ?_;rintro j4 w4 ⟨rfl,aB⟩;refine⟨(hR.trans aB aF).ext,?_⟩;refine aj 1 ?_;replace hcs:=hcs.t aB;exact cD.nil (c5 _ _ _ hcs rfl (by rw[dif_pos ah,Tn]) (ef 12))
  refine cm [] (a_) [1,3,5,7,9,11,13,15,17,19,20,23] b5 ?_;intro ez aM;have hcs:=aM;have hR:=ax.refl [] ez (a_);refine aj 2 ?_;replace hl:=hl.t aM;refine dE hl.ln ?_;refine ey hA ?_;refine aj 8 ?_;exact cD.nil (c5 _ _ _ hcs rfl (by rw[dif_neg ah]) (ef 12))
 intro fE aV;refine gJ 18 rfl (λj_=>?_) (λj_=>?_)
 ·
  have aA:k<l.length:=by
    apply Classical.byContradiction;intro e;rw[dif_neg e] at j_;cases j_
  rw[dif_pos aA] at j_;refine aI 8 ?_ [7];replace hF:=hF.st aV;replace hT:=hT.t aV;replace hl:=hl.t aV;replace hx:=hx.t aV;refine kp (aH 0 rfl rfl (aH 3 rfl rfl (aH 4 rfl rfl (aH 5 rfl (eq_int aF) (aR _))))) (bV (k+1,a_) _ ⟨aJ,(λi hi hl=>by
      simp only at hi;by_cases e:i=k
      ·subst e;exact j_
      ·exact h0 i ah hl),hF,hT,hl,hx⟩ aJ)
 have hins:=R6 (c:=c) hk (λi hi h=>h0 i hi h) (λh=>by rw[dif_pos h] at j_;exact j_);refine aI 3 ?_;refine kJ 32 ((if h:k<l.length then decide (l[k]=c) else false)) (a_) ?_ ?_
 ·
  intro c5;by_cases hA: (k:Int)<l.length
  ·
   refine cm [] (a_) [1,3,5,7,9,11,13,15,17,19,21,23] b5 ?_;intro w7 aX;have hcs:=aX;refine aj 2 ?_;replace hl:=(hl.t aV).t aX;refine dE hl.ln ?_;refine dT hA ?_;refine aj 3 ?_;refine bn hl ?_;intro _ UZ U0 iz;refine ck iz ?_;intro qS eZ;obtain rfl:=bR.1 eZ;replace hx:=(hx.t aV).t aX;refine dn 2 (bh c) hx.sz ?_;refine bK (λ_=>iw (a:=l[k]) (b:=c) Tryz.underlying55 ai ai aq Tryz.underlying3 rfl rfl) ?_;refine aj 1 ?_;exact cD.nil (c5 _ _ _ hcs rfl (by rw[dif_pos ah]) (ef 12))
  refine cm [] (a_) [1,3,5,7,9,11,13,15,17,19,21,23] b5 ?_;intro fR bp;have hcs:=bp;refine aj 2 ?_;replace hl:=(hl.t aV).t bp;refine dE hl.ln ?_;refine ey hA ?_;refine aj 8 ?_;exact cD.nil (c5 _ _ _ hcs rfl (by rw[dif_neg ah]) (ef 12))
 intro gE bt;refine gJ 32 rfl (λg_=>?_) (λg_=>?_)
 ·
  have aA:k<l.length:=by
    apply Classical.byContradiction;intro e;rw[dif_neg e] at g_;cases g_
  rw[dif_pos aA] at g_;rw[dif_pos aA,if_pos (of_decide_eq_true g_)] at hins;refine aI 5 ?_ [3];refine bI Tryz.func56 ?_;replace hT:=(hT.t aV).t bt;replace hl:=(hl.t aV).t bt;exact⟨hT.bN ai,by rw[hins];exact hl.out hT bq (fu C)⟩
 have E5:fM l c=l.take k++c::l.drop k:=by
   rw[hins];by_cases aA:k<l.length
   · rw[dif_pos aA] at g_⊢;rw[if_neg (of_decide_eq_false g_)]
   rw[dif_neg aA,List.take_of_length_le ah,List.drop_of_length_le ah]
 refine aI 2 ?_;refine Eh (id:=6) (ops:=UY.ru) [5] (a_) [0,1,2,4] 3 [nn 5,nn 6,eE 7] 5 [nn 3,nn 6,eE 7] b5 aq aq aq ?_ ?_
 ·
  intro iI bM;show cD _ _ _ _ _ _ _ [eE 0,eE 1,eE 2,eE 4,nn 3,nn 5,nn 6,eE 7] _ _;have hR:=ax.refl [5] iI (a_);refine cK ?_;refine aj 2 ?_;replace hl:=((hl.t aV).t bt).t bM;refine nz ?_;refine qx (e':=55) (iT 36 (.slice 52 34 none (some 35) none)) rfl rfl hl rfl aq rfl ah ah ?_;intro zz lu;try simp only[fP] at lu
  replace hx:=((hx.t aV).t bt).t bM;refine cK ?_;refine dn 2 (bh c) hx.sz ?_;replace hF:=((hF.st aV).st bt).st bM;refine ej (eY (e:=55) (bytes:=16) hF ai rfl rfl aq ai (bg.nil (α:=ak) (j:=5)) lu fV fV) ?_;rintro v37 jj ⟨uN,bE,hn,hF⟩;refine⟨(hR.trans bE aF).ext,?_⟩;refine ej (fk (ys:=([c]:List ak)) (e:=55) (bytes:=16) hF aq rfl ai ai ⟨rfl,⟨_,rfl,bR.2 rfl⟩,trivial⟩) ?_;rintro v39 jQ ⟨bP,Ge,hF⟩;replace hR:=hR.t bE;refine⟨(hR.trans bP aF).ext,?_⟩;replace hn:=hn.t bP;refine ej (eY (e:=55) (bytes:=16) hF ai rfl rfl aq ai hn Ge fV fV) ?_;rintro v40 ki ⟨Fb,bS,hn,hF⟩;replace hR:=hR.t bP;refine⟨(hR.trans bS aF).ext,?_⟩;refine bQ 7 ?_ [47];replace hl:=((hl.t bE).t bP).t bS;refine nz ?_;refine xk (e':=55) (iT 44 (.slice 52 42 (some 43) none none)) rfl rfl hl rfl aq rfl ah ah ?_;intro v44 jP;try simp only[fP] at jP
  refine cK ?_;refine bD (eY (e:=55) (bytes:=16) hF ai rfl rfl aq ai hn jP fV fV) ?_;rintro v45 kA ⟨oO,b7,hn,hF⟩;refine ay 2 ?_;refine bI Tryz.func56 ?_;have e: ([]++List.take k l++[c])++List.drop k l=fM l c:=by rw[E5];simp
  rw[e] at hn;replace hT:=((((((hT.t aV).t bt).t bM).t bE).t bP).t bS).t b7;exact⟨hT.bN ai,hn.out hT bq (fu C) (λb _=>jT C ai b) (by have:=zk c l;omega)⟩
 intro kR cn;show cD _ _ _ _ _ _ _ [eE 0,eE 1,eE 2,eE 4,nn 5,nn 3,nn 6,eE 7] _ _;have hR:=ax.refl [5] kR (a_);refine cK ?_;refine aj 2 ?_;replace hl:=((hl.t aV).t bt).t cn;refine nz ?_;refine qx (e':=55) (iT 36 (.slice 52 34 none (some 35) none)) rfl rfl hl rfl aq rfl ah ah ?_;intro zz lu;try simp only[fP] at lu
 replace hx:=((hx.t aV).t bt).t cn;refine cK ?_;refine dn 2 (bh c) hx.sz ?_;replace hF:=((hF.st aV).st bt).st cn;refine ej (fk (ys:=([c]:List ak)) (e:=55) (bytes:=16) hF aq rfl ai ai ⟨rfl,⟨_,rfl,bR.2 rfl⟩,trivial⟩) ?_;rintro v39 kB ⟨bY,Ge,hF⟩;refine⟨(hR.trans bY aF).ext,?_⟩;replace lu:=lu.t bY;refine ej (eY (e:=55) (bytes:=16) hF ai rfl rfl aq ai (bg.nil (α:=ak) (j:=5)) lu fV fV) ?_;rintro v37 mb ⟨FP,bT,hn,hF⟩;replace hR:=hR.t bY;refine⟨(hR.trans bT aF).ext,?_⟩;replace Ge:=Ge.t bT;refine ej (eY (e:=55) (bytes:=16) hF ai rfl rfl aq ai hn Ge fV fV) ?_;rintro v40 mc ⟨Gf,b_,hn,hF⟩;replace hR:=hR.t bT;refine⟨(hR.trans b_ aF).ext,?_⟩;refine bQ 7 ?_ [47];replace hl:=((hl.t bY).t bT).t b_;refine nz ?_;refine xk (e':=55) (iT 44 (.slice 52 42 (some 43) none none)) rfl rfl hl rfl aq rfl ah ah ?_;intro v44 jP;try simp only[fP] at jP
 refine cK ?_;refine bD (eY (e:=55) (bytes:=16) hF ai rfl rfl aq ai hn jP fV fV) ?_;rintro v45 mg ⟨E6,cQ,hn,hF⟩;refine ay 2 ?_;refine bI Tryz.func56 ?_;have e: ([]++List.take k l++[c])++List.drop k l=fM l c:=by rw[E5];simp
 rw[e] at hn;replace hT:=((((((hT.t aV).t bt).t cn).t bY).t bT).t b_).t cQ;exact⟨hT.bN ai,hn.out hT bq (fu C) (λb _=>jT C ai b) (by have:=zk c l;omega)⟩
namespace abb
def c0:=cw Tryz.f25
def qa:=(cl (aC (cl (aC (aC c0)))))
def x3:=di (cl (cl (aC (cl qa))))
end abb
theorem BN {w₀:World} {C:Nat->Nat} {l:List aD} {aK:Value} (hF:aL w₀ C) (hl:av w₀ (au C) l aK) (hlen:l.length<=100000):Calls Tryz.prog 25 #[aK] w₀ (bH λv w'=>ax [] w₀ C w' C/\av w' (au C) (aO l) v):=by
 have bq:=hF;have hT:=z9 w₀ C;replace hF:=hF.bk;replace hl:=hl.c1;refine cg Tryz.func25 ?_;refine aI 14 ?_ [1,1,1];refine cH (ι:=Nat×Value×(Nat->Nat)) (I:=λx w=>x.1<=l.length/\aL w x.2.2/\ax [2,3,4,5,6,7,8,9] w₀ (bk C) w x.2.2/\av w (au x.2.2) l aK/\av w (au x.2.2) (uu (mL (l.take x.1))) x.2.1) (e:=λx=>[(0,aK),(3,x.2.1),(4,.int .i64 x.1)]) (m:=λx=>l.length-x.1) (cC:=(0,.slice none 0 0,bk C)) (af 0 (af 3 (af 4 (aR _)))) ?_ ?_
 · exact⟨Nat.zero_le _,hF,hT,hl,gu⟩
 intro⟨i,cM,a_⟩ w1 hI bV;obtain⟨hi,hF,hT,hl,ho⟩:=hI;try simp only at hi hF hT hl ho
 show Run _ _ _ _ [(0,aK),(3,cM),(4,.int .i64 i)] _ _;have hrl:=ZL (mL (l.take i));rw[Eu,List.length_take] at hrl;refine aG 5 ?_ [15];refine dE hl.ln ?_;refine ay 2 ?_;refine bF 8 rfl (λh8=>?_) (λh8=>?_)
 ·
  have hil:i<l.length:=by omega
  obtain⟨os,hos⟩:∃os,os=uu (mL (l.take i)):=⟨_,rfl⟩
  rw[<-hos] at ho hrl;have Jv:=zk l[i].A os;refine aI 3 ?_;refine cm [] (a_) [1,3,5,7,9,11,15,17,19,21,23,12,24,27] b5 ?_;intro w2 s_1;have hR:=ax.refl [] w2 (a_);refine aj 3 ?_;replace hl:=hl.t s_1;refine bn hl ?_;intro _ gT qI fJ;have jO:=bJ.jr fJ;refine aj 1 ?_ [0];refine ck jO ?_;intro qW g16;obtain rfl:=bR.1 g16;refine aj 2 ?_;refine bn hl ?_;intro _ T9 T_ lg;have nX:=bJ.mJ lg;refine aj 1 ?_ [2];refine ck nX ?_;intro v22 g22;obtain rfl:=bR.1 g22;replace hF:=hF.st s_1;replace ho:=ho.t s_1;refine gn Tryz.call56 rfl (BM (c:=l[i].A) hF ho ah) ?_;rintro N1 w3 ⟨s_2,hq1⟩;refine⟨(hR.trans s_2 aF).ext,?_⟩;replace hF:=hF.st s_2;refine gn Tryz.call56 rfl (BM (c:=l[i].B) hF hq1 ah) ?_;rintro Gg w4 ⟨aB,mC⟩;replace hR:=hR.t s_2;refine⟨(hR.trans aB aF).ext,?_⟩;refine ay 8 ?_ [7];replace hT:=((hT.t s_1).t s_2).t aB;replace hl:=(hl.t s_2).t aB;replace hF:=hF.st aB;refine kp (af 0 (af 3 (aH 4 rfl (eq_int aF) (aR _)))) (bV (i+1,Gg,a_) _ ⟨aJ,hF,hT,hl,(by simp only;rw[z1 hil,<-hos];exact mC)⟩ aJ)
 have hil:i=l.length:=by omega
 subst hil;rw[List.take_length,dz] at ho;refine aI 6 ?_ [3];refine bI Tryz.func25 ?_;exact⟨hT.bN ai,ho.out hT bq (fu C)⟩
end
end Go.Proofs.YtmdhggfehknjjaaGreat
namespace Go.Proofs.YtmdhggfehknjjaaGreat
open Go.K Go.K.aZ
noncomputable section
namespace abd
def c0:=cw Tryz.f29
def qH:=(cl (cl (aC (cl (aC c0)))))
def vY:=di (cl (cl (cl (aC qH))))
end abd
theorem iQ {w₀:World} {C:Nat->Nat} {l:List ak} {c:ak} {aK:Value} (hF:aL w₀ C) (hl:av w₀ (au C) l aK):Calls Tryz.prog 29 #[aK,.agg #[.int .i64 c.a,.int .i64 c.b]] w₀ (bH λv w'=>v=.int .i64 (idxOf (λx=>decide (c=x)) l)/\ax [] w₀ C w' C):=by
 have bq:=hF;have hT:=z9 w₀ C;replace hF:=hF.bk;replace hl:=hl.c1;refine cg Tryz.func29 ?_;refine aG 2 ?_ [2];refine bD (eX (cs:=bh c) hF 3 rfl rfl) ?_;rintro _ w1 ⟨eP,ct,rfl,s_1,hx,hF⟩;refine ay 8 ?_ [1];refine cH (ι:=Nat×(Nat->Nat)) (I:=λx w=>x.1<=l.length/\(∀i,i<x.1->∀(hi:i<l.length),(λx=>decide (c=x)) l[i]=false)/\aL w x.2/\ax [2,3,4,5,6,7,8,9] w₀ (bk C) w x.2/\av w (au x.2) l aK/\cE w x.2 3 ct (.cells (bh c).toArray 55)) (e:=λx=>[(0,aK),(3,.pointer (some ⟨ct,0,none⟩)),(4,.int .i64 0),(5,.int .i64 x.1)]) (m:=λx=>l.length-x.1) (cC:=(0,eP)) (af 0 (af 3 (af 4 (af 5 (aR _))))) ?_ ?_
 ·
   replace hT:=hT.t s_1;replace hl:=hl.t s_1;exact⟨Nat.zero_le _,λi hi=>by simp at hi,hF,hT,hl,hx⟩
 intro⟨k,a_⟩ w2 hI bV;obtain⟨hk,h0,hF,hT,hl,hx⟩:=hI;try simp only at hk h0 hF hT hl hx
 show Run _ _ _ _ [(0,aK),(3,.pointer (some ⟨ct,0,none⟩)),(4,.int .i64 0),(5,.int .i64 k)] _ _;have hle:=hl.le;refine aG 5 ?_ [15];refine dE hl.ln ?_;refine ay 2 ?_;refine bF 9 rfl (λgi=>?_) (λgi=>?_)
 ·
  have aA:k<l.length:=by omega
  refine aI 4 ?_;refine cm [] (a_) [1,3,5,7,9,11] b5 ?_;intro w3 s_2;refine aj 2 ?_;replace hl:=hl.t s_2;refine bn hl ?_;intro _ gT qI fJ;refine ck fJ ?_;intro vU g15;obtain rfl:=bR.1 g15;replace hx:=hx.t s_2;refine dn 2 (bh c) hx.sz ?_;refine bK (λ_=>iw (a:=l[k]) (b:=c) Tryz.underlying55 ai ai aq Tryz.underlying3 rfl rfl) ?_;refine ay 1 ?_;refine bF 17 rfl (λfF=>?_) (λfF=>?_)
  ·
   refine aI 5 ?_ [3];refine bI Tryz.func29 ?_;replace hT:=hT.t s_2;exact⟨by rw[AH aA (λi hi=>h0 i hi ah) (decide_eq_true fF.symm)],hT.bN ai⟩
  refine aI 7 ?_ [7];replace hF:=hF.st s_2;replace hT:=hT.t s_2;refine kp (aH 0 rfl rfl (aH 3 rfl rfl (aH 4 rfl rfl (aH 5 rfl (eq_int aF) (aR _))))) (bV (k+1,a_) _ ⟨aJ,(λi hi hl=>by
    simp only at hi;by_cases e:i=k
    ·subst e;exact decide_eq_false (λe=>fF e.symm)
    ·exact h0 i ah hl),hF,hT,hl,hx⟩ aJ)
 have aA:k=l.length:=by omega
 refine aI 5 ?_ [1];refine bI Tryz.func29 ?_;exact⟨by rw[Ey (λi hi=>h0 i ah hi)],hT.bN ai⟩
namespace abe
def c0:=cw Tryz.f28
def qH:=(cl (cl (aC (cl (aC c0)))))
def vY:=di (cl (cl (cl (aC qH))))
end abe
theorem BO {w₀:World} {C:Nat->Nat} {l:List (List ak)} {c:ak} {aK:Value} (hF:aL w₀ C) (hl:av w₀ (au C) l aK):Calls Tryz.prog 28 #[aK,.agg #[.int .i64 c.a,.int .i64 c.b]] w₀ (bH λv w'=>v=.int .i64 (qd l c)/\ax [] w₀ C w' C):=by
 have bq:=hF;have hT:=z9 w₀ C;replace hF:=hF.bk;replace hl:=hl.c1;refine cg Tryz.func28 ?_;refine aG 2 ?_ [2];refine bD (eX (cs:=bh c) hF 3 rfl rfl) ?_;rintro _ w1 ⟨eP,ct,rfl,s_1,hx,hF⟩;refine ay 8 ?_ [1];refine cH (ι:=Nat×(Nat->Nat)) (I:=λx w=>x.1<=l.length/\(∀i,i<x.1->∀(hi:i<l.length),(λp=>p.any λx=>decide (c=x)) l[i]=false)/\aL w x.2/\ax [2,3,4,5,6,7,8,9] w₀ (bk C) w x.2/\av w (au x.2) l aK/\cE w x.2 3 ct (.cells (bh c).toArray 55)) (e:=λx=>[(0,aK),(3,.pointer (some ⟨ct,0,none⟩)),(4,.int .i64 0),(5,.int .i64 x.1)]) (m:=λx=>l.length-x.1) (cC:=(0,eP)) (af 0 (af 3 (af 4 (af 5 (aR _))))) ?_ ?_
 ·
   replace hT:=hT.t s_1;replace hl:=hl.t s_1;exact⟨Nat.zero_le _,λi hi=>by simp at hi,hF,hT,hl,hx⟩
 intro⟨k,a_⟩ w2 hI bV;obtain⟨hk,h0,hF,hT,hl,hx⟩:=hI;try simp only at hk h0 hF hT hl hx
 show Run _ _ _ _ [(0,aK),(3,.pointer (some ⟨ct,0,none⟩)),(4,.int .i64 0),(5,.int .i64 k)] _ _;have hle:=hl.le;refine aG 5 ?_ [15];refine dE hl.ln ?_;refine ay 2 ?_;refine bF 9 rfl (λgi=>?_) (λgi=>?_)
 ·
  have aA:k<l.length:=by omega
  refine aI 4 ?_;refine cm [] (a_) [1,3,5,7,9,10,13] b5 ?_;intro w3 s_2;have hR:=ax.refl [] w3 (a_);refine aj 2 ?_;replace hl:=hl.t s_2;refine bn hl ?_;intro _ gT qI fJ;refine fU fJ ?_;intro vU g15;replace hx:=hx.t s_2;refine dn 2 (bh c) hx.sz ?_;replace hF:=hF.st s_2;refine dC Tryz.call29 (iQ (c:=c) hF g15) ?_;rintro j4 w4 ⟨rfl,aB⟩;refine⟨(hR.trans aB aF).ext,?_⟩;refine ay 2 ?_;refine bF 18 rfl (λj_=>?_) (λj_=>?_)
  ·
   refine aI 5 ?_ [3];refine bI Tryz.func28 ?_;replace hT:=(hT.t s_2).t aB;exact⟨by unfold qd;rw[AH aA (λi hi=>h0 i hi ah) (by show(List.any _ _)=true;rw[<-xx];exact decide_eq_true j_)],hT.bN ai⟩
  refine aI 7 ?_ [7];replace hT:=(hT.t s_2).t aB;replace hF:=hF.st aB;replace hl:=hl.t aB;replace hx:=hx.t aB;refine kp (aH 0 rfl rfl (aH 3 rfl rfl (aH 4 rfl rfl (aH 5 rfl (eq_int aF) (aR _))))) (bV (k+1,a_) _ ⟨aJ,(λi hi hl=>by
    simp only at hi;by_cases e:i=k
    ·subst e;show(List.any _ _)=false;rw[<-xx];exact decide_eq_false j_
    ·exact h0 i ah hl),hF,hT,hl,hx⟩ aJ)
 have aA:k=l.length:=by omega
 refine aI 5 ?_ [1];refine bI Tryz.func28 ?_;exact⟨by unfold qd;rw[Ey (λi hi=>h0 i ah hi)],hT.bN ai⟩
end
end Go.Proofs.YtmdhggfehknjjaaGreat
namespace Go.Proofs.YtmdhggfehknjjaaGreat
open Go.K Go.K.aZ
noncomputable section
namespace abf
def c0:=cw Tryz.f27
def FD:=(aC (aC (aC (aC (aC c0)))))
def A8:=(aC (cl (cl (aC (cl FD)))))
def Gh:=(cl (cl (aC (aC (cl A8)))))
def pI:=di (cl (cl (cl (aC Gh))))
def abg:=(cl (aC (cl (cl (aC Gh)))))
def Uc:=di abg
def N2:=(aC (aC (cl (cl (aC Gh)))))
def BP:=di (cl (cl N2))
end abf
theorem abh {w₀:World} {C:Nat->Nat} {l:List aD} {aK:Value} (hF:aL w₀ C) (hl:av w₀ (au C) l aK) (hlen:l.length<=100000):
    Calls Tryz.prog 27 #[aK] w₀ (bH λv w'=>∃u,v=.tuple #[u,.int .i64 (gD l)]/\ax [] w₀ C w' C/\av w' (au C) (if gD l=0 then dM l else[]) u):=by
 have bq:=hF;have hT:=z9 w₀ C;replace hF:=hF.bk;replace hl:=hl.c1;refine cg Tryz.func27 ?_;refine aG 9 ?_ [3,5];refine bZ Tryz.call58 (NZ hF hl) ?_;rintro lX w1 ⟨rfl,s_1⟩;refine ay 7 ?_ [3];refine bF 20 rfl (λlg=>?_) (λlg=>?_)
 ·
  refine aI 6 ?_ [7];refine rm aq Tryz.func27 Tryz.results27 rfl rfl ?_;replace hT:=hT.t s_1;exact⟨_,rfl,hT.bN ai,by rw[if_neg lg];exact gu⟩
 have l9:gD l=0:=Classical.not_not.1 lg;have k7:=Et l9;have RA:=lJ l;refine aG 4 ?_ [5];replace hF:=hF.st s_1;replace hl:=hl.t s_1;refine bZ Tryz.call25 (BN hF hl hlen) ?_;rintro l7 w2 ⟨s_2,cW⟩;refine bQ 5 ?_ [11];refine dE cW.ln ?_;replace hF:=hF.st s_2;refine bD (El (e:=3) (bytes:=8) (x0:=(0:Nat)) (zs:=[.int .i64 0]) hF (j:=3) ai aq aq rfl rfl ah ah ah (λh M=>rfl)) ?_;rintro v26 w3 ⟨nt,aB,hw,hF⟩;refine ay 2 ?_;try simp only[fP] at hw
 refine aI 6 ?_ [1];refine cH (ι:=Nat×(List Nat)×(Nat->Nat)) (I:=λx w=>x.1<=(aO l).length/\x.2.1.length=(aO l).length/\(∀k (hk:k<x.2.1.length),k<x.1->x.2.1[k]=k)/\aL w x.2.2/\ax [2,3,4,5,6,7,8,9] w₀ (bk C) w x.2.2/\av w (au x.2.2) l aK/\av w (au x.2.2) (aO l) l7/\bg w x.2.2 3 3 v26 x.2.1) (e:=λx=>[(0,aK),(5,l7),(6,v26),(7,.int .i64 x.1)]) (m:=λx=>(aO l).length-x.1) (cC:=(0,List.replicate (aO l).length 0,nt)) (af 0 (af 5 (af 6 (af 7 (aR _))))) ?_ ?_
 ·
   replace hT:=((hT.t s_1).t s_2).t aB;replace hl:=(hl.t s_2).t aB;replace cW:=cW.t aB;exact⟨Nat.zero_le _,(by simp only;exact List.length_replicate),(λk hk h=>by simp only at h;omega),hF,hT,hl,cW,hw⟩
 intro⟨i,low,a_⟩ w4 hI bV;obtain⟨hi,l5,hlv,hF,hT,hl,cW,hw⟩:=hI;try simp only at hi l5 hlv hF hT hl cW hw
 show Run _ _ _ _ [(0,aK),(5,l7),(6,v26),(7,.int .i64 i)] _ _;refine aG 5 ?_ [15];refine dE hw.ln ?_;refine ay 2 ?_;refine bF 30 rfl (λuG=>?_) (λuG=>?_)
 ·
  have hil:i<(aO l).length:=by omega
  refine aG 7 ?_ [15];refine dx hw ?_;intro Bh FT;refine cq (iU hw FT ah rfl rfl aq (kG.2 rfl)) ?_;rintro _ ez ⟨rfl,aM,hw⟩;refine ay 7 ?_ [7];replace hF:=hF.st aM;replace hT:=hT.t aM;replace hl:=hl.t aM;replace cW:=cW.t aM;refine kp (aH 0 rfl rfl (aH 5 rfl rfl (aH 6 rfl rfl (aH 7 rfl (eq_int aF) (aR _))))) (bV (i+1,low.set i i,a_) _ ⟨aJ,(by simp only[List.length_set];exact l5),(λk hk h=>by
     simp only at h;rw[List.getElem_set];split
     ·assumption
     ·simp only[List.length_set] at hk;exact hlv k hk ah),hF,hT,hl,cW,hw⟩ aJ)
 have hil:i=(aO l).length:=by omega
 obtain rfl:low=List.range (aO l).length:=List.ext_getElem (by simpa using l5) (λk h1 h2=>by rw[hlv k h1 ah,List.getElem_range]);clear hlv l5;refine aI 7 ?_ [1];refine cH (ι:=(List Nat)×Bool×(Nat->Nat)) (I:=λx w=>uE l x.1/\(x.2.1=false->Fix l l x.1)/\aL w x.2.2/\ax [2,3,4,5,6,7,8,9] w₀ (bk C) w x.2.2/\av w (au x.2.2) l aK/\av w (au x.2.2) (aO l) l7/\bg w x.2.2 3 3 v26 x.1) (e:=λx=>[(0,aK),(5,l7),(6,v26),(8,.bool x.2.1)]) (m:=λx=>2*x.1.sum+x.2.1.toNat) (cC:=(List.range (aO l).length,true,a_)) (af 0 (af 5 (af 6 (af 8 (aR _))))) ?_ ?_
 · exact⟨uE.start l,(λe=>by cases e),hF,hT,hl,cW,hw⟩
 intro⟨low,ch,a_⟩ fE hI ei;obtain⟨hW,fG,hF,hT,hl,cW,hw⟩:=hI;try simp only at hW fG hF hT hl cW hw
 show Run _ _ _ _ [(0,aK),(5,l7),(6,v26),(8,.bool ch)] _ _;refine aI 5 ?_ [1];refine gJ 37 rfl (λlp=>?_) (λlp=>?_)
 ·
  subst lp;refine aI 11 ?_ [1,1];refine cH (ι:=Nat×(List Nat)×Bool×(Nat->Nat)) (I:=λx w=>x.1<=l.length/\uE l x.2.1/\x.2.1.sum<=low.sum/\(x.2.2.1=true->x.2.1.sum<low.sum)/\(x.2.2.1=false->x.2.1=low/\Fix l (l.take x.1) x.2.1)/\aL w x.2.2.2/\ax [2,3,4,5,6,7,8,9] w₀ (bk C) w x.2.2.2/\av w (au x.2.2.2) l aK/\av w (au x.2.2.2) (aO l) l7/\bg w x.2.2.2 3 3 v26 x.2.1) (e:=λx=>[(0,aK),(5,l7),(6,v26),(8,.bool x.2.2.1),(9,.int .i64 x.1)]) (m:=λx=>l.length-x.1) (cC:=(0,low,false,a_)) (af 0 (af 5 (af 6 (af 8 (af 9 (aR _)))))) ?_ ?_
  · exact⟨Nat.zero_le _,hW,Nat.le_refl _,(λe=>by cases e),(λ_=>⟨rfl,λy hy=>by simp at hy⟩),hF,hT,hl,cW,hw⟩
  intro⟨k,lw,Jw,a_⟩ w7 hI j5;obtain⟨hk,BH,hle,hlt,pY,hF,hT,hl,cW,hw⟩:=hI;try simp only at hk BH hle hlt pY hF hT hl cW hw
  show Run _ _ _ _ [(0,aK),(5,l7),(6,v26),(8,.bool Jw),(9,.int .i64 k)] _ _;have N3:=BH.len;refine aG 5 ?_ [15];refine dE hl.ln ?_;refine ay 2 ?_;refine bF 41 rfl (λpQ=>?_) (λpQ=>?_)
  ·
   have aA:k<l.length:=by omega
   obtain⟨gj,lD,U1,ea⟩:=QZ (l:=aO l) (c:=l[k].A) (jB.2 ⟨_,List.getElem_mem aA,.inl rfl⟩);obtain⟨ib,hib,U2,eb⟩:=QZ (l:=aO l) (c:=l[k].B) (jB.2 ⟨_,List.getElem_mem aA,.inr rfl⟩);refine aI 4 ?_;refine cm [] (a_) [1,3,5,7,9,11,15,17,19,21,23,25,12,26,29,31] b5 ?_;intro fR aV;have hR:=ax.refl [] fR (a_);refine aj 3 ?_;replace hl:=hl.t aV;refine bn hl ?_;intro _ FF FG uF;have h48:=bJ.jr uF;refine aj 1 ?_ [0];refine ck h48 ?_;intro v49 uM;obtain rfl:=bR.1 uM;refine aj 3 ?_;refine bn hl ?_;intro _ N4 N5 qZ;have nW:=bJ.mJ qZ;refine aj 1 ?_ [2];refine ck nW ?_;intro LW zy;obtain rfl:=bR.1 zy;replace hF:=hF.st aV;replace cW:=cW.t aV;refine dC Tryz.call29 (iQ (c:=l[k].A) hF cW) ?_;rintro vV gE ⟨rfl,aX⟩;rw[lD];refine⟨(hR.trans aX aF).ext,?_⟩;replace hF:=hF.st aX;replace cW:=cW.t aX;refine dC Tryz.call29 (iQ (c:=l[k].B) hF cW) ?_;rintro uz iI ⟨rfl,bp⟩;rw[hib];replace hR:=hR.t aX;refine⟨(hR.trans bp aF).ext,?_⟩;refine ay 4 ?_;refine cm [] (a_) [1,3,5,7,9,11,13,15,17] b5 ?_;intro jj bt;refine aj 2 ?_;replace hw:=(((hw.t aV).t aX).t bp).t bt;refine dx hw ?_;intro wk abj;refine pZ hw abj ?_;intro _ p4 I8;first|(obtain rfl:=kG.1 I8)|(obtain rfl:=jc.1 I8)
   refine aj 2 ?_;refine dx hw ?_;intro xL L9;refine pZ hw L9 ?_;intro _ abk DQ;first|(obtain rfl:=kG.1 DQ)|(obtain rfl:=jc.1 DQ)
   refine ay 2 ?_;refine bF 66 rfl (λq6=>?_) (λq6=>?_)
   ·
    have hne:lw[gj]≠lw[ib]:=λe=>q6 (by rw[e]);obtain⟨abl,hlt3⟩:=BH.put (List.getElem_mem aA) U1 U2 ea eb ah ah hne;refine aI 1 ?_;refine cm [] (a_) [1,3,5,7,9,11,13,15,17,19] b5 ?_;intro jQ bM;refine aj 2 ?_;replace hw:=hw.t bM;refine dx hw ?_;intro Ja DL;refine pZ hw DL ?_;intro _ v70 qY;first|(obtain rfl:=kG.1 qY)|(obtain rfl:=jc.1 qY)
    refine aj 2 ?_;refine dx hw ?_;intro wM Jj;refine pZ hw Jj ?_;intro _ FX tI;first|(obtain rfl:=kG.1 tI)|(obtain rfl:=jc.1 tI)
    refine bK (λ_=>gV (XJ rfl rfl Tryz.underlying3) (congrArg (Value.int .i64) (show min ((lw[gj]:Nat):Int) ((lw[ib]:Nat):Int)=((min lw[gj] lw[ib]:Nat):Int) from by omega))) ?_;refine bQ 10 ?_ [383];refine dx hw ?_;intro ahf abm;refine cq (iU hw abm ah rfl rfl aq (kG.2 rfl)) ?_;rintro _ ki ⟨rfl,bE,hw⟩;have hs1: (lw.set gj (min lw[gj] lw[ib])).length=lw.length:=List.length_set;refine dx hw ?_;intro ahg abn;refine cq (iU hw abn ah rfl rfl aq (kG.2 rfl)) ?_;rintro _ kA ⟨rfl,bP,hw⟩;refine ay 10 ?_ [1,7];replace hT:=((((((hT.t aV).t aX).t bp).t bt).t bM).t bE).t bP;replace hl:=(((((hl.t aX).t bp).t bt).t bM).t bE).t bP;replace hF:=((((hF.st bp).st bt).st bM).st bE).st bP;replace cW:=((((cW.t bp).t bt).t bM).t bE).t bP;refine kp (af 0 (af 5 (af 6 (af 8 (aH 9 rfl (eq_int aF) (aR _)))))) (j5 (k+1,(lw.set gj (min lw[gj] lw[ib])).set ib (min lw[gj] lw[ib]),true,a_) _ ⟨aJ,abl,rU,(λ_=>by simp only;omega),(λe=>by cases e),hF,hT,hl,cW,hw⟩ aJ)
   have heq:lw[gj]=lw[ib]:=by have:=Classical.not_not.1 q6;exact_mod_cast this
   refine aI 7 ?_ [7];replace hT:=(((hT.t aV).t aX).t bp).t bt;replace hl:=((hl.t aX).t bp).t bt;replace hF:=(hF.st bp).st bt;replace cW:=(cW.t bp).t bt;refine kp (aH 0 rfl rfl (aH 5 rfl rfl (aH 6 rfl rfl (aH 8 rfl rfl (aH 9 rfl (eq_int aF) (aR _)))))) (j5 (k+1,lw,Jw,a_) _ ⟨aJ,BH,hle,hlt,(λe=>by
       obtain⟨e1,e2⟩:=pY e;refine⟨e1,λy hy a b ha hb ea' eb'=>?_⟩;rw[List.take_succ_eq_append_getElem aA] at hy;rcases List.mem_append.1 hy with hy|hy
       ·exact e2 y hy a b ha hb ea' eb'
       ·simp only[List.mem_singleton] at hy;subst hy;obtain rfl:=MI (vI l) ha U1 (by rw[ea',ea]);obtain rfl:=MI (vI l) hb U2 (by rw[eb',eb]);show lw.getD a 0=lw.getD b 0;rw[List.getD_eq_getElem?_getD,List.getD_eq_getElem?_getD,List.getElem?_eq_getElem ah,List.getElem?_eq_getElem ah];exact heq),hF,hT,hl,cW,hw⟩ aJ)
  have aA:k=l.length:=by omega
  subst aA;rw[List.take_length] at pY;refine aI 2 ?_;refine kp (aH 0 rfl rfl (aH 5 rfl rfl (aH 6 rfl rfl (aH 8 rfl rfl (aR _))))) (ei (lw,Jw,a_) _ ⟨BH,(λe=>(pY e).2),hF,hT,hl,cW,hw⟩ (by
      simp only;cases Jw with
      |true=>have:=hlt rfl;simp;omega
      |false=>have:=(pY rfl).1;subst this;simp))
 have zu:=fG lp;refine aI 11 ?_ [1,1];refine cH (ι:=Nat×Value×(Nat->Nat)) (I:=λx w=>x.1<=(aO l).length/\aL w x.2.2/\ax [2,3,4,5,6,7,8,9] w₀ (bk C) w x.2.2/\av w (au x.2.2) l aK/\av w (au x.2.2) (aO l) l7/\bg w x.2.2 3 3 v26 low/\bg w x.2.2 4 52 x.2.1 (tA l x.1)) (e:=λx=>[(0,aK),(5,l7),(6,v26),(13,x.2.1),(14,.int .i64 x.1)]) (m:=λx=>(aO l).length-x.1) (cC:=(0,.slice none 0 0,a_)) (af 0 (af 5 (af 6 (af 13 (af 14 (aR _)))))) ?_ ?_
 · exact⟨Nat.zero_le _,hF,hT,hl,cW,hw,by rw[Tr];exact bg.nil⟩
 intro⟨i,cM,a_⟩ kR hI mS;obtain⟨hi,hF,hT,hl,cW,hw,ho⟩:=hI;try simp only at hi hF hT hl cW hw ho
 show Run _ _ _ _ [(0,aK),(5,l7),(6,v26),(13,cM),(14,.int .i64 i)] _ _;have N3:=hW.len;have xB:=B1 l i;refine aG 5 ?_ [15];refine dE cW.ln ?_;refine ay 2 ?_;refine bF 87 rfl (λGi=>?_) (λGi=>?_)
 ·
  have hil:i<(aO l).length:=by omega
  have hst:=B2 hW zu hil ah;refine aG 8 ?_ [55];refine dx hw ?_;intro ahh abo;refine vF hw abo ?_;intro _ v93 Js;first|(obtain rfl:=kG.1 Js)|(obtain rfl:=jc.1 Js)
  refine ay 3 ?_;refine bF 95 rfl (λwS=>?_) (λwS=>?_)
  ·
   have hne:¬low[i]=i:=λe=>wS (by exact_mod_cast e);rw[if_neg hne] at hst;refine aI 6 ?_ [7];refine kp (af 0 (af 5 (af 6 (af 13 (aH 14 rfl (eq_int aF) (aR _)))))) (mS (i+1,cM,a_) _ ⟨aJ,hF,hT,hl,cW,hw,(by simp only;rw[hst];exact ho)⟩ aJ)
  have heq:low[i]=i:=by have:=Classical.not_not.1 wS;exact_mod_cast this
  rw[if_pos heq] at hst;obtain⟨pr,N6⟩:∃p:ak->Bool,p=λr=>decide (b8 l r=b8 l (aO l)[i]):=⟨_,rfl⟩
  rw[<-N6] at hst;refine aI 11 ?_ [1,1];refine cH (ι:=Nat×Value×(Nat->Nat)) (I:=λx w=>x.1<=(aO l).length/\aL w x.2.2/\ax [2,3,4,5,6,7,8,9] w₀ (bk C) w x.2.2/\av w (au x.2.2) l aK/\av w (au x.2.2) (aO l) l7/\bg w x.2.2 3 3 v26 low/\bg w x.2.2 4 52 cM (tA l i)/\bg w x.2.2 5 55 x.2.1 (((aO l).take x.1).filter pr)) (e:=λx=>[(0,aK),(5,l7),(6,v26),(13,cM),(14,.int .i64 i),(15,x.2.1),(16,.int .i64 x.1)]) (m:=λx=>(aO l).length-x.1) (cC:=(0,.slice none 0 0,a_)) (af 0 (af 5 (af 6 (af 13 (af 14 (af 15 (af 16 (aR _)))))))) ?_ ?_
  · exact⟨Nat.zero_le _,hF,hT,hl,cW,hw,ho,bg.nil⟩
  intro⟨k,bX,a_⟩ kB hI wO;obtain⟨hk,hF,hT,hl,cW,hw,ho,hp⟩:=hI;try simp only at hk hF hT hl cW hw ho hp
  show Run _ _ _ _ [(0,aK),(5,l7),(6,v26),(13,cM),(14,.int .i64 i),(15,bX),(16,.int .i64 k)] _ _;have mw:=List.length_filter_le pr ((aO l).take k);rw[List.length_take] at mw;refine aG 5 ?_ [15];refine dE cW.ln ?_;refine ay 2 ?_;refine bF 99 rfl (λabp=>?_) (λabp=>?_)
  ·
   have aA:k<(aO l).length:=by omega
   have hft:=vk pr aA;refine aG 7 ?_ [55];refine dx hw ?_;intro ahi abq;refine vF hw abq ?_;intro _ v105 U3;first|(obtain rfl:=kG.1 U3)|(obtain rfl:=jc.1 U3)
   refine ay 3 ?_;refine bF 107 rfl (λuV=>?_) (λuV=>?_)
   ·
    have hpk:pr (aO l)[k]=true:=by rw[N6];exact decide_eq_true ((Tt hW zu hil aA ah ah heq).1 (by exact_mod_cast uV))
    rw[if_pos hpk] at hft;refine aG 4 ?_ [143];refine bn cW ?_;intro _ abr abt N7;refine iq N7 ?_;intro abu Jx;obtain rfl:=bR.1 Jx;refine bD (fk (ys:=([(aO l)[k]]:List ak)) (e:=55) (bytes:=16) hF aq rfl ai ai ⟨rfl,⟨_,rfl,bR.2 rfl⟩,trivial⟩) ?_;rintro U4 mb ⟨bS,Jy,hF⟩;replace hp:=hp.t bS;refine bD (eY (e:=55) (bytes:=16) hF ai rfl rfl aq ai hp Jy fC fC) ?_;rintro U5 mc ⟨Gf,b7,hp,hF⟩;refine ay 8 ?_ [7];have sQ:=bS.aY b7;replace hT:=(hT.t bS).t b7;replace hl:=hl.t sQ;replace cW:=cW.t sQ;replace hw:=hw.t sQ;replace ho:=ho.t sQ;refine kp (af 0 (af 5 (af 6 (af 13 (af 14 (af 15 (aH 16 rfl (eq_int aF) (aR _)))))))) (wO (k+1,U5,Gf) _ ⟨aJ,hF,hT,hl,cW,hw,ho,(by simp only;rw[hft];exact hp)⟩ aJ)
   have hpk:¬pr (aO l)[k]=true:=by rw[N6];intro e;exact uV (by have:=(Tt hW zu hil aA ah ah heq).2 (of_decide_eq_true e);exact_mod_cast this)
   rw[if_neg hpk] at hft;refine aI 7 ?_ [7];refine kp (af 0 (af 5 (af 6 (af 13 (af 14 (af 15 (aH 16 rfl (eq_int aF) (aR _)))))))) (wO (k+1,bX,a_) _ ⟨aJ,hF,hT,hl,cW,hw,ho,(by simp only;rw[hft];exact hp)⟩ aJ)
  have aA:k=(aO l).length:=by omega
  subst aA;rw[List.take_length] at hp;have ahj:=List.length_filter_le pr (aO l);replace hF:=hF.bu 5;replace hT:=hT.bu (n:=5) (λb=>Nat.lt_of_lt_of_le (r7 C b) ai);replace hl:=hl.bu 5;replace cW:=cW.bu 5;replace hw:=hw.Kx (n:=5) ai;replace ho:=ho.Kx (n:=5) ai;have hpv:=hp.bu (n:=5) ai ah;refine aG 4 ?_ [19];refine bD (fk (ys:=([(aO l).filter pr]:List (List ak))) (e:=52) (bytes:=24) hF aq rfl ai ai ⟨rfl,⟨_,rfl,hpv⟩,trivial⟩) ?_;rintro v117 mg ⟨bY,Jz,hF⟩;replace ho:=ho.t bY;refine bD (eY (e:=52) (bytes:=24) hF ai rfl rfl aq ai ho Jz fC fC) ?_;rintro abv mQ ⟨z6,bT,ho,hF⟩;refine ay 8 ?_ [7];replace hT:=(hT.t bY).t bT;replace hl:=(hl.t bY).t bT;replace cW:=(cW.t bY).t bT;replace hw:=(hw.t bY).t bT;refine kp (af 0 (af 5 (af 6 (af 13 (aH 14 rfl (eq_int aF) (aR _)))))) (mS (i+1,abv,z6) _ ⟨aJ,hF,hT,hl,cW,hw,(by simp only;rw[hst];exact ho)⟩ aJ)
 have hil:i=(aO l).length:=by omega
 subst hil;rw[W1] at ho;refine aI 7 ?_ [7];refine rm aq Tryz.func27 Tryz.results27 rfl rfl ?_;rw[l9];exact⟨_,rfl,hT.bN ai,by rw[if_pos rfl];exact ho.out hT bq (fu C) (λb _=>jT C ai b) (by have:=K5 l;omega)⟩
end
end Go.Proofs.YtmdhggfehknjjaaGreat
