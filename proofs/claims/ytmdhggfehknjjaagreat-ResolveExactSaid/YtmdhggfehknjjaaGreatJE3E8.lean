/- Steps through functions of the program. -/
import Derived.Test.YtmdhggfehknjjaaGreatJD4E2
import Derived.Test.YtmdhggfehknjjaaGreatL3
import Derived.Test.YtmdhggfehknjjaaGreatL2
set_option maxRecDepth 100000
set_option maxHeartbeats 4000000
namespace Go.Proofs.YtmdhggfehknjjaaGreat
open Go.K Go.K.aZ
noncomputable section
namespace vw
def c0:=cw Tryz.f141
def qH:=(cl (cl (aC (cl (aC c0)))))
def vY:=di (cl (cl (cl (aC qH))))
end vw
theorem FI {w₀:World} {C:Nat->Nat} {l:List ak} {aK:Value} (hF:aL w₀ C) (hl:av w₀ (au C) l aK):Calls Tryz.prog 141 #[aK] w₀ (bH λv w'=>v=.bool (decide (l.Pairwise er))/\ax [] w₀ C w' C):=by
 have bq:=hF;have hT:=z9 w₀ C;replace hF:=hF.bk;replace hl:=hl.c1;refine cg Tryz.func141 ?_;refine aI 10 ?_ [1,1];refine cH (ι:=Nat×(Nat->Nat)) (I:=λx w=>1<=x.1/\x.1<=max 1 l.length/\(∀q (hq:q<x.1) (hl:q<l.length),∀h1:0<q,er (l[q-1]'ah) l[q])/\aL w x.2/\ax [2,3,4,5,6,7,8,9] w₀ (bk C) w x.2/\av w (au x.2) l aK) (e:=λx=>[(0,aK),(3,.int .i64 x.1)]) (m:=λx=>l.length-x.1) (cC:=(1,bk C)) (af 0 (af 3 (aR _))) ?_ ?_
 · exact⟨Nat.le_refl _,by omega,λq hq hl h1=>by simp only at hq;omega,hF,hT,hl⟩
 intro⟨i,a_⟩ w1 hI bV;obtain⟨hi,hi2,h0,hF,hT,hl⟩:=hI;try simp only at hi hi2 h0 hF hT hl
 show Run _ _ _ _ [(0,aK),(3,.int .i64 i)] _ _;have hle:=hl.le;refine aG 5 ?_ [15];refine dE hl.ln ?_;refine ay 2 ?_;refine bF 7 rfl (λh7=>?_) (λh7=>?_)
 ·
  have hil:i<l.length:=by omega
  refine aI 4 ?_;refine cm [] (a_) [1,3,5,7,9,11,13,15,17,18,21] b5 ?_;intro w2 s_1;have hR:=ax.refl [] w2 (a_);refine aj 3 ?_;replace hl:=hl.t s_1;refine bn hl ?_;intro _ Ie Ig k5;refine ck k5 ?_;intro C8 g14;have lq: ((i:Int)-1).toNat=i-1:=by omega
  simp only[lq] at g14;obtain rfl:=bR.1 g14;refine aj 2 ?_;refine bn hl ?_;intro _ agz Uc fF;refine ck fF ?_;intro qh g18;obtain rfl:=bR.1 g18;replace hF:=hF.st s_1;refine gn Tryz.call53 rfl (vT (x:=l[i-1]'ah) (y:=l[i]'hil) hF) ?_;rintro lP w3 ⟨rfl,s_2⟩;refine⟨(hR.trans s_2 aF).ext,?_⟩;refine ay 2 ?_;refine bF 20 rfl (λlg=>?_) (λlg=>?_)
  ·
   refine aI 4 ?_ [1];refine bI Tryz.func141 ?_;replace hT:=(hT.t s_1).t s_2;exact⟨by rw[decide_eq_false (S2 hil ah (λe=>by have:=t_.2 e;omega))],hT.bN ai⟩
  have hlt:er (l[i-1]'ah) (l[i]'hil):=t_.1 ah;refine aI 7 ?_ [7];replace hT:=(hT.t s_1).t s_2;replace hF:=hF.st s_2;replace hl:=hl.t s_2;refine kp (aH 0 rfl rfl (aH 3 rfl (eq_int aF) (aR _))) (bV (i+1,a_) _ ⟨aJ,aJ,(λq hq k9 h1=>by
    simp only at hq;by_cases e:q=i
    ·subst e;exact hlt
    ·exact h0 q ah k9 h1),hF,hT,hl⟩ aJ)
 refine aI 5 ?_ [1];refine bI Tryz.func141 ?_;exact⟨by rw[decide_eq_true (S1 λq hq h1=>h0 q ah hq h1)],hT.bN ai⟩
theorem jE {s:List ak} {c:ak}: (s.any λx=>decide (c=x))=decide (c∈s):=by
 rw[Bool.eq_iff_iff,xy,decide_eq_true_iff]
namespace F9
def c0:=cw Tryz.f195
def qa:=(cl (aC (cl (aC (aC c0)))))
def CJ:=(aC (aC (cl (aC (cl qa)))))
def uH:=(cl (aC (aC (cl (cl CJ)))))
def wG:=di (cl (aC (aC (cl uH))))
end F9
theorem Ud {w₀:World} {C:Nat->Nat} {l:List aD} {s:List ak} {bz c4 vs:Value} (hF:aL w₀ C) (hl:av w₀ (au C) l bz) (hs0:av w₀ (au C) s vs) (h1:1<=s.length) (hn:s.Nodup) (hlen:s.length<=8796093021952):Calls Tryz.prog 195 #[.agg #[bz,c4],vs] w₀ (bH λv w'=>v=.bool (k4 l s)/\ax [] w₀ C w' C):=by
 have bq:=hF;have hT:=z9 w₀ C;replace hF:=hF.bk;replace hl:=hl.c1;replace hs0:=hs0.c1;refine cg Tryz.func195 ?_;refine aG 2 ?_ [2];refine bD (eX (cs:=[bz,c4]) hF 3 rfl rfl) ?_;rintro _ w1 ⟨eP,ct,rfl,s_1,hx,hF⟩;refine bQ 5 ?_ [7];replace hs0:=hs0.t s_1;refine nz ?_;refine Zl (e':=55) (m:=1) (iT 12 (.slice 52 11 none (some (.const (.int .i64 1))) (some (.const (.int .i64 1))))) rfl rfl hs0 rfl aq rfl rfl h1 ?_;intro a1 Mi;refine cK ?_;refine bQ 5 ?_ [1];have hs1: (s.take 1).length=1:=by rw[List.length_take];omega
 refine ay 3 ?_;refine cH (ι:=Bool×(List ak)×Value×(Nat->Nat)) (I:=λx w=>nT l s x.2.1/\(x.1=false->∀bd∈l,bd.A∈s->bd.B∈s->(bd.A∈x.2.1↔bd.B∈x.2.1))/\aL w x.2.2.2/\ax [2,3,4,5,6,7,8,9] w₀ (bk C) w x.2.2.2/\av w (au x.2.2.2) l bz/\av w (au x.2.2.2) s vs/\cE w x.2.2.2 3 ct (.cells [bz,c4].toArray 129)/\oB w x.2.2.2 5 55 x.2.2.1 x.2.1) (e:=λx=>[(1,vs),(2,.pointer (some ⟨ct,0,none⟩)),(5,x.2.2.1),(6,.bool x.1)]) (m:=λx=>2*(s.length-x.2.1.length)+(if x.1 then 1 else 0)) (cC:=(true,s.take 1,.slice a1 1 1,eP)) (af 1 (af 2 (af 5 (af 6 (aR _))))) ?_ ?_
 ·
   replace hT:=hT.t s_1;replace hl:=hl.t s_1;exact⟨nT.start h1,λe=>(by cases e),hF,hT,hl,hs0,hx,.inr ⟨a1,(by rw[hs1]),Mi⟩⟩
 intro⟨g0,ys,vy,a_⟩ w2 hI bV;obtain⟨hR,hg,hF,hT,hl,hs0,hx,hy⟩:=hI;try simp only at hR hg hF hT hl hs0 hx hy
 show Run _ _ _ _ [(1,vs),(2,.pointer (some ⟨ct,0,none⟩)),(5,vy),(6,.bool g0)] _ _;have xH:=hR.len;refine aI 5 ?_ [1];refine gJ 13 rfl (λk5=>?_) (λk5=>?_)
 ·
  subst k5;refine aG 9 ?_ [1,13,0];refine bU hx.at_ ?_;refine dE hl.ln ?_;refine ay 3 ?_;refine cH (ι:=Nat×Bool×(List ak)×Value×(Nat->Nat)) (I:=λx w=>x.1<=l.length/\nT l s x.2.2.1/\(x.2.1=true->ys.length<x.2.2.1.length)/\(x.2.1=false->x.2.2.1=ys/\∀i (hi:i<x.1) (hl:i<l.length),l[i].A∈s->l[i].B∈s->(l[i].A∈ys↔l[i].B∈ys))/\aL w x.2.2.2.2/\ax [2,3,4,5,6,7,8,9] w₀ (bk C) w x.2.2.2.2/\av w (au x.2.2.2.2) l bz/\av w (au x.2.2.2.2) s vs/\cE w x.2.2.2.2 3 ct (.cells [bz,c4].toArray 129)/\oB w x.2.2.2.2 5 55 x.2.2.2.1 x.2.2.1) (e:=λx=>[(1,vs),(2,.pointer (some ⟨ct,0,none⟩)),(5,x.2.2.2.1),(6,.bool x.2.1),(15,bz),(16,.int .i64 l.length),(17,.int .i64 x.1)]) (m:=λx=>l.length-x.1) (cC:=(0,false,ys,vy,a_)) (af 1 (af 2 (af 5 (af 6 (af 15 (af 16 (af 17 (aR _)))))))) ?_ ?_
  · exact⟨Nat.zero_le _,hR,λe=>(by cases e),λ_=>⟨rfl,λi hi=>by simp only at hi;omega⟩,hF,hT,hl,hs0,hx,hy⟩
  intro⟨k,g,zs,vy,de⟩ w3 hI ei;obtain⟨hk,qU,sK,oJ,hF,hT,hl,hs0,hx,hy⟩:=hI;try simp only at hk qU sK oJ hF hT hl hs0 hx hy
  show Run _ _ _ _ [(1,vs),(2,.pointer (some ⟨ct,0,none⟩)),(5,vy),(6,.bool g),(15,bz),(16,.int .i64 l.length),(17,.int .i64 k)] _ _;have hle:=hl.le;have y3:=hs0.le;have hzl:=qU.len;refine aI 5 ?_ [1];refine bF 18 rfl (λj_=>?_) (λj_=>?_)
  ·
   have aA:k<l.length:=by omega
   have FJ:=List.getElem_mem aA;refine aG 5 ?_ [1];refine bn hl ?_;intro _ Md E7 rH;refine iq rH ?_;intro v20 g20;obtain rfl:=gY.1 g20;refine bD (fD (cs:=[.int .i64 0,.int .i64 0,.int .i64 0,.int .i64 0,.int .i64 0]) hF 6 aq) ?_;rintro _ w4 ⟨gR,pE,rfl,s_2,hb,hF⟩;refine cq (eO (vs:=iH (l[k]'aA)) (n:=5) rfl rfl aq rfl rfl (jf rfl) hb rfl) ?_;rintro _ ez ⟨rfl,aB,hb⟩;refine ay 3 ?_;by_cases hA: (l[k]'aA).A∈s
   ·
    by_cases hB: (l[k]'aA).B∈s
    ·
     refine aG 3 ?_ [3315,0];refine cu 2 (bh (l[k]'aA).A) hb.at_ ?_;replace hs0:=(hs0.t s_2).t aB;replace hF:=hF.st aB;refine bZ Tryz.call49 (jC (c:=(l[k]'aA).A) hF hs0) ?_;rintro nr fE ⟨rfl,aM⟩;rw[jE,decide_eq_true hA];refine aj 4 ?_ [2];replace hb:=hb.t aM;refine cu 2 (bh (l[k]'aA).B) hb.at_ ?_;replace hF:=hF.st aM;replace hs0:=hs0.t aM;refine bZ Tryz.call49 (jC (c:=(l[k]'aA).B) hF hs0) ?_;rintro mE w7 ⟨rfl,aV⟩;rw[jE,decide_eq_true hB];refine ay 6 ?_;by_cases hP: (l[k]'aA).A∈zs
     ·
      by_cases hQ: (l[k]'aA).B∈zs
      ·
       refine cm [] (gR) [1,3,5,9,11,13,6,14,17,19] b5 ?_;intro fR aX;have hR:=ax.refl [] fR (gR);refine aj 2 ?_ [0];replace hb:=(hb.t aV).t aX;refine dn 2 (bh (l[k]'aA).A) hb.sz ?_;refine aj 2 ?_ [2];refine dn 2 (bh (l[k]'aA).B) hb.sz ?_;replace hy:=((((hy.t s_2).t aB).t aM).t aV).t aX;refine gn Tryz.call49 rfl (jC (C:=ji) (c:=(l[k]'aA).A) (nR _) (hy.mD ah)) ?_;rintro _ gE ⟨rfl,bp⟩;replace bp:=bp.re (gR);rw[jE,decide_eq_true hP];refine⟨(hR.trans bp aF).ext,?_⟩;replace hy:=hy.t bp;refine gn Tryz.call49 rfl (jC (C:=ji) (c:=(l[k]'aA).B) (nR _) (hy.mD ah)) ?_;rintro _ iI ⟨rfl,bt⟩;replace bt:=bt.re (gR);rw[jE,decide_eq_true hQ];replace hR:=hR.t bp;refine⟨(hR.trans bt aF).ext,?_⟩;refine ay 31 ?_ [63,63,3];have x6:=(((((s_2.aY aB).aY aM).aY aV).aY aX).aY bp).aY bt;replace hT:=((((((hT.t s_2).t aB).t aM).t aV).t aX).t bp).t bt;replace hl:=hl.t x6;replace hx:=hx.t x6;replace hF:=(((hF.st aV).st aX).st bp).st bt;replace hs0:=(((hs0.t aV).t aX).t bp).t bt;replace hy:=hy.t bt;refine kp (aH 1 rfl rfl (aH 2 rfl rfl (aH 5 rfl rfl (aH 6 rfl rfl (aH 15 rfl rfl (aH 16 rfl rfl (aH 17 rfl (eq_int aF) (aR _)))))))) (ei (k+1,g,zs,vy,gR) _ ⟨aJ,aJ,aJ,(λe=>by
           obtain⟨h1,h2⟩:=oJ e;exact⟨h1,λi hi hl' a b=>by
             simp only at hi;by_cases e2:i=k
             ·subst e2;rw[<-h1];first|exact⟨λ_=>hQ,λ_=>hP⟩|exact⟨λe=>absurd e hP,λe=>absurd e hQ⟩
             ·exact h2 i ah hl' a b⟩),hF,hT,hl,hs0,hx,hy⟩ aJ)
      refine cm [] (gR) [1,3,5,9,11,13,6,14,17,19] b5 ?_;intro jj bE;have hR:=ax.refl [] jj (gR);refine aj 2 ?_ [0];replace hb:=(hb.t aV).t bE;refine dn 2 (bh (l[k]'aA).A) hb.sz ?_;refine aj 2 ?_ [2];refine dn 2 (bh (l[k]'aA).B) hb.sz ?_;replace hy:=((((hy.t s_2).t aB).t aM).t aV).t bE;refine gn Tryz.call49 rfl (jC (C:=ji) (c:=(l[k]'aA).A) (nR _) (hy.mD ah)) ?_;rintro _ jQ ⟨rfl,bP⟩;replace bP:=bP.re (gR);rw[jE,decide_eq_true hP];refine⟨(hR.trans bP aF).ext,?_⟩;replace hy:=hy.t bP;refine gn Tryz.call49 rfl (jC (C:=ji) (c:=(l[k]'aA).B) (nR _) (hy.mD ah)) ?_;rintro _ ki ⟨rfl,bS⟩;replace bS:=bS.re (gR);rw[jE,decide_eq_false hQ];replace hR:=hR.t bP;refine⟨(hR.trans bS aF).ext,?_⟩;refine bQ 17 ?_ [63,99,2];replace hb:=(hb.t bP).t bS;refine cu 2 (bh (l[k]'aA).B) hb.at_ ?_;replace hF:=(((hF.st aV).st bE).st bP).st bS;refine bD (fk (ys:=([(l[k]'aA).B]:List ak)) (e:=55) (bytes:=16) hF aq rfl ai ai ⟨rfl,⟨_,rfl,bR.2 rfl⟩,trivial⟩) ?_;rintro v50 kA ⟨b7,hU,hF⟩;replace hy:=(hy.t bS).t b7;refine bD (RN (e:=55) (bytes:=16) hF (j:=5) ai rfl rfl aq ai hy hU aF fC fC) ?_;rintro Na kR ⟨Nb,cn,hy,hF⟩;refine ay 9 ?_ [3];have uI:=(((((((s_2.aY aB).aY aM).aY aV).aY bE).aY bP).aY bS).aY b7).aY cn;replace hT:=((((((((hT.t s_2).t aB).t aM).t aV).t bE).t bP).t bS).t b7).t cn;replace hl:=hl.t uI;replace hx:=hx.t uI;replace hs0:=(((((hs0.t aV).t bE).t bP).t bS).t b7).t cn;refine kp (aH 1 rfl rfl (aH 2 rfl rfl (aH 5 rfl rfl (aH 6 rfl rfl (aH 15 rfl rfl (aH 16 rfl rfl (aH 17 rfl (eq_int aF) (aR _)))))))) (ei (k+1,true,zs++[(l[k]'aA).B],Na,Nb) _ ⟨aJ,(qU.add FJ hA hB (.inr ⟨rfl,hP⟩) hQ),(λ_=>by
           simp only[List.length_append,List.length_cons,List.length_nil];cases eg:g with
           |true=>have:=sK eg;omega
           |false=>have:=(oJ eg).1;rw[this];omega),(λe=>by cases e),hF,hT,hl,hs0,hx,(.inl hy)⟩ aJ)
     by_cases hQ: (l[k]'aA).B∈zs
     ·
      refine cm [] (gR) [1,3,5,9,11,13,6,14,17,19] b5 ?_;intro kB bT;have hR:=ax.refl [] kB (gR);refine aj 2 ?_ [0];replace hb:=(hb.t aV).t bT;refine dn 2 (bh (l[k]'aA).A) hb.sz ?_;refine aj 2 ?_ [2];refine dn 2 (bh (l[k]'aA).B) hb.sz ?_;replace hy:=((((hy.t s_2).t aB).t aM).t aV).t bT;refine gn Tryz.call49 rfl (jC (C:=ji) (c:=(l[k]'aA).A) (nR _) (hy.mD ah)) ?_;rintro _ mb ⟨rfl,b_⟩;replace b_:=b_.re (gR);rw[jE,decide_eq_false hP];refine⟨(hR.trans b_ aF).ext,?_⟩;replace hy:=hy.t b_;refine gn Tryz.call49 rfl (jC (C:=ji) (c:=(l[k]'aA).B) (nR _) (hy.mD ah)) ?_;rintro _ mc ⟨rfl,cQ⟩;replace cQ:=cQ.re (gR);rw[jE,decide_eq_true hQ];replace hR:=hR.t b_;refine⟨(hR.trans cQ aF).ext,?_⟩;refine bQ 27 ?_ [63,63,99,0];replace hb:=(hb.t b_).t cQ;refine cu 2 (bh (l[k]'aA).A) hb.at_ ?_;replace hF:=(((hF.st aV).st bT).st b_).st cQ;refine bD (fk (ys:=([(l[k]'aA).A]:List ak)) (e:=55) (bytes:=16) hF aq rfl ai ai ⟨rfl,⟨_,rfl,bR.2 rfl⟩,trivial⟩) ?_;rintro p4 mg ⟨cB,I8,hF⟩;replace hy:=(hy.t cQ).t cB;refine bD (RN (e:=55) (bytes:=16) hF (j:=5) ai rfl rfl aq ai hy I8 aF fC fC) ?_;rintro Na mQ ⟨z6,dP,hy,hF⟩;refine ay 9 ?_ [3];have tF:=(((((((s_2.aY aB).aY aM).aY aV).aY bT).aY b_).aY cQ).aY cB).aY dP;replace hT:=((((((((hT.t s_2).t aB).t aM).t aV).t bT).t b_).t cQ).t cB).t dP;replace hl:=hl.t tF;replace hx:=hx.t tF;replace hs0:=(((((hs0.t aV).t bT).t b_).t cQ).t cB).t dP;refine kp (aH 1 rfl rfl (aH 2 rfl rfl (aH 5 rfl rfl (aH 6 rfl rfl (aH 15 rfl rfl (aH 16 rfl rfl (aH 17 rfl (eq_int aF) (aR _)))))))) (ei (k+1,true,zs++[(l[k]'aA).A],Na,z6) _ ⟨aJ,(qU.add FJ hA hB (.inl ⟨rfl,hQ⟩) hP),(λ_=>by
           simp only[List.length_append,List.length_cons,List.length_nil];cases eg:g with
           |true=>have:=sK eg;omega
           |false=>have:=(oJ eg).1;rw[this];omega),(λe=>by cases e),hF,hT,hl,hs0,hx,(.inl hy)⟩ aJ)
     refine cm [] (gR) [1,3,5,9,11,13,6,14,17,19] b5 ?_;intro oK eS;have hR:=ax.refl [] oK (gR);refine aj 2 ?_ [0];replace hb:=(hb.t aV).t eS;refine dn 2 (bh (l[k]'aA).A) hb.sz ?_;refine aj 2 ?_ [2];refine dn 2 (bh (l[k]'aA).B) hb.sz ?_;replace hy:=((((hy.t s_2).t aB).t aM).t aV).t eS;refine gn Tryz.call49 rfl (jC (C:=ji) (c:=(l[k]'aA).A) (nR _) (hy.mD ah)) ?_;rintro _ qV ⟨rfl,cL⟩;replace cL:=cL.re (gR);rw[jE,decide_eq_false hP];refine⟨(hR.trans cL aF).ext,?_⟩;replace hy:=hy.t cL;refine gn Tryz.call49 rfl (jC (C:=ji) (c:=(l[k]'aA).B) (nR _) (hy.mD ah)) ?_;rintro _ tG ⟨rfl,eT⟩;replace eT:=eT.re (gR);rw[jE,decide_eq_false hQ];replace hR:=hR.t cL;refine⟨(hR.trans eT aF).ext,?_⟩;refine ay 31 ?_ [63,63,3];have uJ:=(((((s_2.aY aB).aY aM).aY aV).aY eS).aY cL).aY eT;replace hT:=((((((hT.t s_2).t aB).t aM).t aV).t eS).t cL).t eT;replace hl:=hl.t uJ;replace hx:=hx.t uJ;replace hF:=(((hF.st aV).st eS).st cL).st eT;replace hs0:=(((hs0.t aV).t eS).t cL).t eT;replace hy:=hy.t eT;refine kp (aH 1 rfl rfl (aH 2 rfl rfl (aH 5 rfl rfl (aH 6 rfl rfl (aH 15 rfl rfl (aH 16 rfl rfl (aH 17 rfl (eq_int aF) (aR _)))))))) (ei (k+1,g,zs,vy,gR) _ ⟨aJ,aJ,aJ,(λe=>by
           obtain⟨h1,h2⟩:=oJ e;exact⟨h1,λi hi hl' a b=>by
             simp only at hi;by_cases e2:i=k
             ·subst e2;rw[<-h1];first|exact⟨λ_=>hQ,λ_=>hP⟩|exact⟨λe=>absurd e hP,λe=>absurd e hQ⟩
             ·exact h2 i ah hl' a b⟩),hF,hT,hl,hs0,hx,hy⟩ aJ)
    refine aG 3 ?_ [3315,0];refine cu 2 (bh (l[k]'aA).A) hb.at_ ?_;replace hs0:=(hs0.t s_2).t aB;replace hF:=hF.st aB;refine bZ Tryz.call49 (jC (c:=(l[k]'aA).A) hF hs0) ?_;rintro agA pO ⟨rfl,fq⟩;rw[jE,decide_eq_true hA];refine aj 4 ?_ [2];replace hb:=hb.t fq;refine cu 2 (bh (l[k]'aA).B) hb.at_ ?_;replace hF:=hF.st fq;replace hs0:=hs0.t fq;refine bZ Tryz.call49 (jC (c:=(l[k]'aA).B) hF hs0) ?_;rintro Nc wH ⟨rfl,eN⟩;rw[jE,decide_eq_false hB];refine ay 9 ?_ [3];have mG:=((s_2.aY aB).aY fq).aY eN;replace hT:=(((hT.t s_2).t aB).t fq).t eN;replace hl:=hl.t mG;replace hx:=hx.t mG;replace hy:=hy.t mG;replace hF:=hF.st eN;replace hs0:=hs0.t eN;refine kp (aH 1 rfl rfl (aH 2 rfl rfl (aH 5 rfl rfl (aH 6 rfl rfl (aH 15 rfl rfl (aH 16 rfl rfl (aH 17 rfl (eq_int aF) (aR _)))))))) (ei (k+1,g,zs,vy,gR) _ ⟨aJ,aJ,aJ,(λe=>by
         obtain⟨h1,h2⟩:=oJ e;exact⟨h1,λi hi hl' a b=>by
           simp only at hi;by_cases e2:i=k
           · subst e2;first|exact absurd a hA|exact absurd b hB
           · exact h2 i ah hl' a b⟩),hF,hT,hl,hs0,hx,hy⟩ aJ)
   refine aG 3 ?_ [3315,0];refine cu 2 (bh (l[k]'aA).A) hb.at_ ?_;replace hs0:=(hs0.t s_2).t aB;replace hF:=hF.st aB;refine bZ Tryz.call49 (jC (c:=(l[k]'aA).A) hF hs0) ?_;rintro Nd wI ⟨rfl,eL⟩;rw[jE,decide_eq_false hA];refine ay 15 ?_ [3];have Nf:=(s_2.aY aB).aY eL;replace hT:=((hT.t s_2).t aB).t eL;replace hl:=hl.t Nf;replace hx:=hx.t Nf;replace hy:=hy.t Nf;replace hF:=hF.st eL;replace hs0:=hs0.t eL;refine kp (aH 1 rfl rfl (aH 2 rfl rfl (aH 5 rfl rfl (aH 6 rfl rfl (aH 15 rfl rfl (aH 16 rfl rfl (aH 17 rfl (eq_int aF) (aR _)))))))) (ei (k+1,g,zs,vy,gR) _ ⟨aJ,aJ,aJ,(λe=>by
        obtain⟨h1,h2⟩:=oJ e;exact⟨h1,λi hi hl' a b=>by
          simp only at hi;by_cases e2:i=k
          · subst e2;first|exact absurd a hA|exact absurd b hB
          · exact h2 i ah hl' a b⟩),hF,hT,hl,hs0,hx,hy⟩ aJ)
  have aA:k=l.length:=by omega
  refine aI 2 ?_;by_cases uK:g=true
  ·
   have hlt:=sK uK;refine kp (af 1 (af 2 (af 5 (af 6 (aR _))))) (bV (g,zs,vy,de) _ ⟨qU,(λe=>by rw[uK] at e;cases e),hF,hT,hl,hs0,hx,hy⟩ (by simp only[uK];have:=qU.len;simp;omega))
  obtain⟨bL,bG⟩:=oJ (by simpa using uK);refine kp (aH 1 rfl rfl (aH 2 rfl rfl (aH 5 rfl rfl (aH 6 rfl rfl (aR _))))) (bV (g,zs,vy,de) _ ⟨qU,(λ_ x hx a b=>by
        obtain⟨i,hi,rfl⟩:=List.getElem_of_mem hx;rw[bL];exact bG i ah hi a b),hF,hT,hl,hs0,hx,hy⟩ (by simp only[uK];rw[bL];simp))
 subst k5;refine aG 4 ?_ [63];refine dE hy.ln ?_;refine aj 1 ?_;refine dE hs0.ln ?_;refine bK (λ_=>gV (GX rfl rfl) (show _=Value.bool (k4 l s) from congrArg Value.bool (by rw[Bool.eq_iff_iff,decide_eq_true_iff];exact hR.fin hn (hg rfl)))) ?_;refine ay 2 ?_;refine bI Tryz.func195 ?_;exact⟨rfl,hT.bN ai⟩
end
end Go.Proofs.YtmdhggfehknjjaaGreat
namespace Go.Proofs.YtmdhggfehknjjaaGreat
open Go.K Go.K.aZ
noncomputable section
namespace pW
def c0:=cw Tryz.f194
end pW
theorem lN {w₀:World} {C:Nat->Nat} {ds:List bC} {bz c4:Value} {x a:ak} {b1 b2:Nat} (hF:aL w₀ C) (hap:gp w₀ (au C) ds c4) (h1:w₀.heap[b1]?=some (.cells [bz,c4].toArray 129)) (h2:w₀.heap[b2]?=some (.cells (bh a).toArray 55)):Calls Tryz.prog 194 #[dH x,.pointer (some ⟨b1,0,none⟩),.pointer (some ⟨b2,0,none⟩)] w₀ (bH λv w'=>v=.bool (eU ds x a)/\ax [] w₀ C w' C):=by
 have bq:=hF;have hT:=z9 w₀ C;replace hF:=hF.bk;replace hap:gp w₀ (au (bk C)) ds c4:=by rw[fu];exact hap
 replace h1:=j0.of h1 C;replace h2:=j0.of h2 C;refine cg Tryz.func194 ?_;refine aG 2 ?_ [2];refine bD (eX (cs:=bh x) hF 3 rfl rfl) ?_;rintro _ w1 ⟨eP,ct,rfl,s_1,hb,hF⟩;refine bQ 4 ?_ [16];replace h1:=h1.t s_1;refine cu 2 ([bz,c4]) h1.at_ ?_;refine cu 2 (bh x) hb.at_ ?_;replace h2:=h2.t s_1;refine cu 2 (bh a) h2.at_ ?_;replace hap:=hap.t s_1;refine bZ Tryz.call137 (M_ (a:=x) (b:=a) hF hap) ?_;rintro kO w2 ⟨rfl,s_2⟩;refine ay 2 ?_;refine bI Tryz.func194 ?_;replace hT:=(hT.t s_1).t s_2;exact⟨rfl,hT.bN ai⟩
namespace lS
def c0:=cw Tryz.f142
end lS
theorem I9 {w₀:World} {C:Nat->Nat} {l:List aD} {ds:List bC} {s:List ak} {bz c4 vs:Value} (hF:aL w₀ C) (hl:av w₀ (au C) l bz) (hap:gp w₀ (au C) ds c4) (hs0:av w₀ (au C) s vs) (hlen:s.length<=8796093021952):Calls Tryz.prog 142 #[.agg #[bz,c4],vs] w₀ (bH λv w'=>v=.bool (nU l ds s)/\ax [] w₀ C w' C):=by
 have bq:=hF;have hT:=z9 w₀ C;replace hF:=hF.bk;replace hl:=hl.c1;replace hs0:=hs0.c1;replace hap:gp w₀ (au (bk C)) ds c4:=by rw[fu];exact hap
 refine cg Tryz.func142 ?_;refine aG 2 ?_ [2];refine bD (eX (cs:=[bz,c4]) hF 3 rfl rfl) ?_;rintro _ w1 ⟨eP,ct,rfl,s_1,hx,hF⟩;refine bQ 6 ?_ [7];replace hs0:=hs0.t s_1;refine dE hs0.ln ?_;refine ay 2 ?_;refine bF 9 rfl (λgi=>?_) (λgi=>?_)
 ·
  refine aI 4 ?_ [1];refine bI Tryz.func142 ?_;replace hT:=hT.t s_1;exact⟨by unfold nU;rw[decide_eq_false ah];rfl,hT.bN ai⟩
 have x7:2<=s.length:=by omega
 refine aG 5 ?_ [7];refine dE hs0.ln ?_;refine ay 3 ?_;replace hl:=hl.t s_1;refine cH (ι:=Nat×(Nat->Nat)) (I:=λx w=>x.1<=s.length/\(∀q (hq:q<x.1) (hl:q<s.length),(s.take q).any (λb=>eU ds b s[q])=false)/\aL w x.2/\ax [2,3,4,5,6,7,8,9] w₀ (bk C) w x.2/\av w (au x.2) l bz/\av w (au x.2) s vs/\gp w (au x.2) ds c4/\cE w x.2 3 ct (.cells [bz,c4].toArray 129)) (e:=λx=>[(1,vs),(2,.pointer (some ⟨ct,0,none⟩)),(10,vs),(11,.int .i64 s.length),(12,.int .i64 x.1)]) (m:=λx=>s.length-x.1) (cC:=(0,eP)) (af 1 (af 2 (af 10 (af 11 (af 12 (aR _)))))) ?_ ?_
 ·
   replace hT:=hT.t s_1;replace hap:=hap.t s_1;exact⟨Nat.zero_le _,λq hq=>by simp only at hq;omega,hF,hT,hl,hs0,hap,hx⟩
 intro⟨i,a_⟩ w2 hI bV;obtain⟨hi,h0,hF,hT,hl,hs0,hap,hx⟩:=hI;try simp only at hi h0 hF hT hl hs0 hap hx
 show Run _ _ _ _ [(1,vs),(2,.pointer (some ⟨ct,0,none⟩)),(10,vs),(11,.int .i64 s.length),(12,.int .i64 i)] _ _;have hle:=hs0.le;refine aI 5 ?_ [1];refine bF 13 rfl (λk5=>?_) (λk5=>?_)
 ·
  have hil:i<s.length:=by omega
  refine aG 6 ?_ [19];refine bn hs0 ?_;intro _ M9 DE jO;refine iq jO ?_;intro qW g16;obtain rfl:=bR.1 g16;refine bD (fD (cs:=[.int .i64 0,.int .i64 0]) hF 4 aq) ?_;rintro _ w3 ⟨nt,pz,rfl,s_2,ha,hF⟩;refine aj 1 ?_;refine cq (eO (vs:=bh (s[i]'hil)) (n:=2) rfl rfl aq rfl rfl (jf rfl) ha rfl) ?_;rintro _ w4 ⟨rfl,aB,ha⟩;refine bQ 5 ?_ [15];replace hs0:=(hs0.t s_2).t aB;refine nz ?_;refine qx (e':=55) (iT 19 (.slice 52 17 none (some 18) none)) rfl rfl hs0 rfl aq rfl ah ah ?_;intro xG rH;try simp only[fP] at rH
  refine cK ?_;refine bK (λ_=>AB rfl rfl) ?_;replace hap:=(hap.t s_2).t aB;replace hx:=(hx.t s_2).t aB;replace hF:=hF.st aB;have fG:∀w1,ax [] _ (nt) w1 (nt)->∀x∈s.take i,Calls Tryz.prog 194 ([dH x]++#[Value.pointer (some ⟨ct,0,none⟩),Value.pointer (some ⟨pz,0,none⟩)].toList).toArray w1 (bH λv w'=>v=.bool (eU ds x (s[i]'hil))/\ax [] w1 (nt) w' (nt)):=λw1 h1 x _=>lN (hF.st h1) (hap.st h1 ai) (h1.same hx.at_) (h1.same ha.at_);refine bZ Tryz.call134 (FH (p:=λx=>eU ds x (s[i]'hil)) (nf:=194) (caps:=#[Value.pointer (some ⟨ct,0,none⟩),Value.pointer (some ⟨pz,0,none⟩)]) (λargs w=>Tryz.call194 args w) fG hF rH) ?_;rintro mP ez ⟨rfl,aM⟩;refine ay 1 ?_;refine gJ 21 rfl (λnX=>?_) (λnX=>?_)
  ·
   have hno:=RQ hil nX;refine aI 4 ?_ [1];refine bI Tryz.func142 ?_;replace hT:=((hT.t s_2).t aB).t aM;exact⟨by unfold nU;rw[hno];simp,hT.bN ai⟩
  skip
  refine aI 6 ?_ [3];replace hT:=((hT.t s_2).t aB).t aM;replace hl:=((hl.t s_2).t aB).t aM;replace hF:=hF.st aM;replace hs0:=hs0.t aM;replace hap:=hap.t aM;replace hx:=hx.t aM;refine kp (aH 1 rfl rfl (aH 2 rfl rfl (aH 10 rfl rfl (aH 11 rfl rfl (aH 12 rfl (eq_int aF) (aR _)))))) (bV (i+1,nt) _ ⟨aJ,(λq hq k9=>by
    simp only at hq;by_cases e:q=i
    ·subst e;exact nX
    ·exact h0 q ah k9),hF,hT,hl,hs0,hap,hx⟩ aJ)
 have hil:i=s.length:=by omega
 refine aG 3 ?_ [10];have qG:=RP (λq hq=>h0 q ah hq);refine cu 2 ([bz,c4]) hx.at_ ?_;refine aj 1 ?_;refine dc Tryz.call195 rfl (Ud (c4:=c4) hF hl hs0 ah (RO (HX.1 qG)) hlen) ?_;rintro nr fE ⟨rfl,aV⟩;refine ay 2 ?_;refine bI Tryz.func142 ?_;replace hT:=hT.t aV;exact⟨by unfold nU;rw[qG,decide_eq_true x7];rfl,hT.bN ai⟩
end
end Go.Proofs.YtmdhggfehknjjaaGreat
namespace Go.Proofs.YtmdhggfehknjjaaGreat
open Go.K Go.K.aZ
noncomputable section
namespace cF
def c0:=cw Tryz.f162
end cF
theorem oI {w₀:World} {C:Nat->Nat} {l:List (List ak)} {aK:Value} {p:List ak->Bool} {nf:Nat} {caps:Array Value} (ja:∀args w,(callFunc nf args).run Tryz.prog w=.ok (.enter nf args) w) (hp:∀w1,ax [] w₀ C w1 C->∀x∈l,∀vx,av w1 (au C) x vx->Calls Tryz.prog nf ([vx]++caps.toList).toArray w1 (bH λv w'=>v=.bool (p x)/\ax [] w1 C w' C)) (hF:aL w₀ C) (hl:av w₀ (au C) l aK):Calls Tryz.prog 162 #[aK,.func (.func nf) #[] caps] w₀ (bH λv w'=>v=.int .i64 (idxOf p l)/\ax [] w₀ C w' C):=by
 have hT:=ax.refl [] w₀ C;refine cg Tryz.func162 ?_;refine aG 8 ?_ [1,7];refine dE hl.ln ?_;refine ay 3 ?_;refine cH (ι:=Nat) (I:=λx w=>x<=l.length/\(∀i (hi:i<x) (hl:i<l.length),p l[i]=false)/\aL w C/\ax [] w₀ C w C/\av w (au C) l aK) (e:=λx=>[(0,aK),(1,.func (.func nf) #[] caps),(7,.int .i64 l.length),(8,.int .i64 x)]) (m:=λx=>l.length-x) (cC:=0) (af 0 (af 1 (af 7 (af 8 (aR _))))) ?_ ?_
 · exact⟨Nat.zero_le _,λi hi _=>by first|omega|(simp only at hi;omega),hF,hT,hl⟩
 intro k w1 hI bV;obtain⟨hk,h0,hF,hT,hl⟩:=hI;try simp only at hk h0 hF hT hl
 show Run _ _ _ _ [(0,aK),(1,.func (.func nf) #[] caps),(7,.int .i64 l.length),(8,.int .i64 k)] _ _;have hle:=hl.le;refine aI 5 ?_ [1];refine bF 9 rfl (λgi=>?_) (λgi=>?_)
 ·
  have aA:k<l.length:=by omega
  refine aG 13 ?_ [3,15];refine bn hl ?_;intro _ gT qI fJ;refine iF fJ ?_;intro vU g15;refine nz ?_;refine G3 (iT 16 (.call {callee:=.value 11,args:=#[15],argTypes:=#[52]})) rfl rfl (xb ja rfl rfl) (hp _ hT (l[k]'aA) (List.getElem_mem aA) _ g15) ?_;rintro kO w2 ⟨rfl,s_1⟩;refine cK ?_;refine ay 1 ?_;refine gJ 16 rfl (λen=>?_) (λen=>?_)
  ·
   refine aI 5 ?_ [3];refine bI Tryz.func162 ?_;replace hT:=hT.t s_1;exact⟨by rw[AH aA (λi hi=>h0 i hi ah) en],hT⟩
  refine aI 6 ?_ [3];replace hF:=hF.st s_1;replace hT:=hT.t s_1;replace hl:=hl.t s_1;refine kp (aH 0 rfl rfl (aH 1 rfl rfl (aH 7 rfl rfl (aH 8 rfl (eq_int aF) (aR _))))) (bV (k+1) _ ⟨aJ,(λi hi hl=>by
    by_cases e:i=k
    ·subst e;exact en
    ·exact h0 i (by first|omega|(simp only at hi;omega)) hl),hF,hT,hl⟩ aJ)
 have aA:k=l.length:=by omega
 refine aI 5 ?_ [1];refine bI Tryz.func162 ?_;exact⟨by rw[Ey (λi hi=>h0 i ah hi)],hT⟩
namespace oN
def c0:=cw Tryz.f98
end oN
theorem Fv {w₀:World} {C:Nat->Nat} {l:List (List ak)} {aK:Value} {p:List ak->Bool} {nf:Nat} {caps:Array Value} (ja:∀args w,(callFunc nf args).run Tryz.prog w=.ok (.enter nf args) w) (hp:∀w1,ax [] w₀ C w1 C->∀x∈l,∀vx,av w1 (au C) x vx->Calls Tryz.prog nf ([vx]++caps.toList).toArray w1 (bH λv w'=>v=.bool (p x)/\ax [] w1 C w' C)) (hF:aL w₀ C) (hl:av w₀ (au C) l aK):Calls Tryz.prog 98 #[aK,.func (.func nf) #[] caps] w₀ (bH λv w'=>v=.bool (l.any p)/\ax [] w₀ C w' C):=by
 have hT:=ax.refl [] w₀ C;refine cg Tryz.func98 ?_;refine aG 8 ?_ [1,27];refine bZ Tryz.call162 (oI ja hp hF hl) ?_;rintro lX w1 ⟨rfl,s_1⟩;refine ay 3 ?_;refine bI Tryz.func98 ?_;replace hT:=hT.t s_1;exact⟨by rw[xx],hT⟩
end
end Go.Proofs.YtmdhggfehknjjaaGreat
namespace Go.Proofs.YtmdhggfehknjjaaGreat
open Go.K Go.K.aZ
noncomputable section
namespace nk
def c0:=cw Tryz.f99
end nk
theorem gB {w₀:World} {C:Nat->Nat} {b:aD} {x:List ak} {vx:Value} {b1:Nat} (hF:aL w₀ C) (hx:av w₀ (au C) x vx) (h1:w₀.heap[b1]?=some (.cells (iH b).toArray 58)):Calls Tryz.prog 99 #[vx,.pointer (some ⟨b1,0,none⟩)] w₀ (bH λv w'=>v=.bool (s9 b x)/\ax [] w₀ C w' C):=by
 have bq:=hF;have hT:=z9 w₀ C;replace hF:=hF.bk;replace hx:=hx.c1;replace h1:=j0.of h1 C;refine cg Tryz.func99 ?_;refine aI 5 ?_ [1];by_cases hA:b.A∈x
 ·
  by_cases hB:b.B∈x
  ·
   refine aG 3 ?_ [1651,0];refine cu 2 (bh b.A) h1.at_ ?_;refine bZ Tryz.call49 (jC (c:=b.A) hF hx) ?_;rintro lX w1 ⟨rfl,s_1⟩;rw[jE,decide_eq_true hA];refine aj 3 ?_ [2];replace h1:=h1.t s_1;refine cu 2 (bh b.B) h1.at_ ?_;replace hF:=hF.st s_1;replace hx:=hx.t s_1;refine bZ Tryz.call49 (jC (c:=b.B) hF hx) ?_;rintro kO w2 ⟨rfl,s_2⟩;rw[jE,decide_eq_true hB];refine ay 3 ?_;refine bI Tryz.func99 ?_;replace hT:=(hT.t s_1).t s_2;exact⟨by rw[LJ,decide_eq_true hA,decide_eq_true hB];rfl,hT.bN ai⟩
  refine aG 3 ?_ [1651,0];refine cu 2 (bh b.A) h1.at_ ?_;refine bZ Tryz.call49 (jC (c:=b.A) hF hx) ?_;rintro lP w3 ⟨rfl,aB⟩;rw[jE,decide_eq_true hA];refine aj 3 ?_ [2];replace h1:=h1.t aB;refine cu 2 (bh b.B) h1.at_ ?_;replace hF:=hF.st aB;replace hx:=hx.t aB;refine bZ Tryz.call49 (jC (c:=b.B) hF hx) ?_;rintro j4 w4 ⟨rfl,aM⟩;rw[jE,decide_eq_false hB];refine ay 3 ?_;refine bI Tryz.func99 ?_;replace hT:=(hT.t aB).t aM;exact⟨by rw[LJ,decide_eq_true hA,decide_eq_false hB];rfl,hT.bN ai⟩
 refine aG 3 ?_ [1651,0];refine cu 2 (bh b.A) h1.at_ ?_;refine bZ Tryz.call49 (jC (c:=b.A) hF hx) ?_;rintro mP ez ⟨rfl,aV⟩;rw[jE,decide_eq_false hA];refine ay 8 ?_;refine bI Tryz.func99 ?_;replace hT:=hT.t aV;exact⟨by rw[LJ,decide_eq_false hA];rfl,hT.bN ai⟩
namespace dg
def c0:=cw Tryz.f54
end dg
theorem Ue {w₀:World} {C:Nat->Nat} {l:List aD} {ps:List (List ak)} {aK bX:Value} (hF:aL w₀ C) (hl:av w₀ (au C) l aK) (hp:av w₀ (au C) ps bX):Calls Tryz.prog 54 #[aK,bX] w₀ (bH λv w'=>v=.int .i64 (IntKind.i64.wrap (e9 l ps))/\ax [] w₀ C w' C):=by
 have bq:=hF;have hT:=z9 w₀ C;replace hF:=hF.bk;replace hl:=hl.c1;replace hp:=hp.c1;refine cg Tryz.func54 ?_;refine aG 12 ?_ [1,1,7];refine dE hl.ln ?_;refine ay 3 ?_;refine cH (ι:=Nat×(Nat->Nat)) (I:=λx w=>x.1<=l.length/\aL w x.2/\ax [2,3,4,5,6,7,8,9] w₀ (bk C) w x.2/\av w (au x.2) l aK/\av w (au x.2) ps bX) (e:=λx=>[(1,bX),(5,.int .i64 (IntKind.i64.wrap (e9 (l.take x.1) ps))),(8,aK),(9,.int .i64 l.length),(10,.int .i64 x.1)]) (m:=λx=>l.length-x.1) (cC:=(0,bk C)) (af 1 (aH 5 rfl (eq_int (by simp[e9];rfl)) (af 8 (af 9 (af 10 (aR _)))))) ?_ ?_
 · exact⟨Nat.zero_le _,hF,hT,hl,hp⟩
 intro⟨k,a_⟩ w1 hI bV;obtain⟨hk,hF,hT,hl,hp⟩:=hI;try simp only at hk hF hT hl hp
 show Run _ _ _ _ [(1,bX),(5,.int .i64 (IntKind.i64.wrap (e9 (l.take k) ps))),(8,aK),(9,.int .i64 l.length),(10,.int .i64 k)] _ _;have hle:=hl.le;refine aI 5 ?_ [1];refine bF 11 rfl (λkQ=>?_) (λkQ=>?_)
 ·
  have aA:k<l.length:=by omega
  have x8:=LI aA ps;refine aG 5 ?_ [1];refine bn hl ?_;intro _ Uf DJ h12;refine iq h12 ?_;intro Ug g13;obtain rfl:=gY.1 g13;refine bD (fD (cs:=[.int .i64 0,.int .i64 0,.int .i64 0,.int .i64 0,.int .i64 0]) hF 4 aq) ?_;rintro _ w2 ⟨dm,ew,rfl,s_1,hb,hF⟩;refine cq (eO (vs:=iH (l[k]'aA)) (n:=5) rfl rfl aq rfl rfl (jf rfl) hb rfl) ?_;rintro _ w3 ⟨rfl,s_2,hb⟩;refine bQ 4 ?_ [3];refine bK (λ_=>AB rfl rfl) ?_;replace hF:=hF.st s_2;have fG:∀w1,ax [] _ (dm) w1 (dm)->∀x∈ps,∀vx,av w1 (au (dm)) x vx->Calls Tryz.prog 99 ([vx]++#[Value.pointer (some ⟨ew,0,none⟩)].toList).toArray w1 (bH λv w'=>v=.bool (s9 (l[k]'aA) x)/\ax [] w1 (dm) w' (dm)):=λw1 h1 x _ vx hx=>gB (hF.st h1) hx (h1.same hb.at_);replace hp:=(hp.t s_1).t s_2;refine bZ Tryz.call98 (Fv (p:=s9 (l[k]'aA)) (nf:=99) (caps:=#[Value.pointer (some ⟨ew,0,none⟩)]) (λargs w=>Tryz.call99 args w) fG hF hp) ?_;rintro j4 w4 ⟨rfl,aB⟩;refine ay 1 ?_;refine gJ 16 rfl (λen=>?_) (λen=>?_)
  ·
   rw[if_pos en] at x8;refine aG 3 ?_ [27,4];replace hb:=hb.t aB;refine bU hb.at_ ?_;refine bK (λ_=>gV (val_add rfl rfl) (congrArg (Value.int .i64) (S7 _ _))) ?_;refine ay 7 ?_ [3];replace hT:=((hT.t s_1).t s_2).t aB;replace hl:=((hl.t s_1).t s_2).t aB;replace hF:=hF.st aB;replace hp:=hp.t aB;refine kp (af 1 (aH 5 rfl (eq_int (by simp only;rw[x8])) (af 8 (af 9 (aH 10 rfl (eq_int aF) (aR _)))))) (bV (k+1,dm) _ ⟨aJ,hF,hT,hl,hp⟩ aJ)
  rw[if_neg (by rw[en];decide)] at x8;refine aI 6 ?_ [3];replace hT:=((hT.t s_1).t s_2).t aB;replace hl:=((hl.t s_1).t s_2).t aB;replace hF:=hF.st aB;replace hp:=hp.t aB;refine kp (af 1 (aH 5 rfl (eq_int (by simp only;rw[x8])) (af 8 (af 9 (aH 10 rfl (eq_int aF) (aR _)))))) (bV (k+1,dm) _ ⟨aJ,hF,hT,hl,hp⟩ aJ)
 have aA:k=l.length:=by omega
 refine aI 6 ?_ [3];refine bI Tryz.func54 ?_;exact⟨by rw[aA,CY],hT.bN ai⟩
theorem Uh {w₀:World} {C:Nat->Nat} {l:List aD} {ps:List (List ak)} {aK bX:Value} (hF:aL w₀ C) (hl:av w₀ (au C) l aK) (hp:av w₀ (au C) ps bX) (hw:∀x∈l,1<=x.w/\x.w<=1048576) (hlen:l.length<=4096):Calls Tryz.prog 54 #[aK,bX] w₀ (bH λv w'=>v=.int .i64 (e9 l ps)/\ax [] w₀ C w' C):=by
 have h:=Ue hF hl hp;have hb:=EP hw ps l.length (Nat.le_refl _);rw[CY] at hb;rw[Mr ah ah] at h;exact h
end
end Go.Proofs.YtmdhggfehknjjaaGreat
namespace Go.Proofs.YtmdhggfehknjjaaGreat
open Go.K Go.K.aZ
noncomputable section
namespace e5
def c0:=cw Tryz.f150
end e5
theorem qc {w₀:World} {C:Nat->Nat} {xs:List ak} {px:Value} (hF:aL w₀ C) (hw:av w₀ (au C) xs px) (hne:xs≠[]) (hlen:xs.length<=1000000) (j:Nat) (hj:j≠0):Calls Tryz.prog 150 #[px] w₀ (bH λv w'=>∃aQ,ax [] w₀ C w' aQ/\aL w' aQ/\bg w' aQ j 55 v xs):=by
 have bq:=hF;have hT:=z9 w₀ C;replace hF:=hF.bk;replace hw:=hw.c1;obtain⟨a0,c0,nF,Bx,_,hs0⟩:=ko.1 hw;obtain⟨b0,rfl⟩:∃b,a0=some b:=by
  rcases hs0 with h|⟨b,o,rfl,_⟩
  ·exact absurd h hne
  exact⟨_,rfl⟩
 clear hs0;refine cg Tryz.func150 ?_;refine aG 8 ?_ [1,3];refine bK (λ_=>AU ((show _=some px from rfl).trans (congrArg some nF)) Tryz.underlying52) ?_;refine bQ 5 ?_ [10];refine bD (CS (n:=2) (e:=55) (bytes:=16) hF aq) ?_;rintro _ w1 ⟨⟨a5,rfl⟩,s_1,hF⟩;refine aj 1 ?_;replace hw:=hw.t s_1;refine bD (EE (j:=5) (e:=55) (bytes:=16) (ys:=([]:List ak)) hF ai rfl rfl aq ai CT hw hne yD yD) ?_;rintro z7 w2 ⟨dm,s_2,hn,hF⟩;refine ay 2 ?_;simp only[List.nil_append] at hn;refine bI Tryz.func150 ?_;replace hT:=(hT.t s_1).t s_2;obtain⟨rJ,qi,hFg,Da,uC⟩:=hn.mM hT bq (fu C) (λb _=>jT C ai b) ai j hj;exact⟨rJ,(hT.bN ai).mM qi,hFg,uC⟩
namespace TS
def c0:=cw Tryz.f187
end TS
theorem c6 {w₀:World} {C:Nat->Nat} {l:List aD} {rows:List (List ak)} {st:iW} {bz c4 e7:Value} {b:Nat} (hF:aL w₀ C) (hl:av w₀ (au C) l bz) (hS:H6 184 52 55 w₀ C b bz c4 e7 rows st) (jv:∀s∈rows,s.Nodup) (oc:∀s∈rows,s.length<=1000) (hrows:rows.length<=1000) (hw:∀x∈l,1<=x.w/\x.w<=1048576) (k7:l.length<=4096):
    Calls Tryz.prog 187 #[.pointer (some ⟨b,0,none⟩)] w₀ (bH λv w'=>∃aQ,v=.tuple #[]/\ax [3,4,5] w₀ C w' aQ/\aL w' aQ/\H6 184 52 55 w' aQ b bz c4 e7 rows (nj l st rows)):=by
 obtain⟨vs,us,iX,hx,ho,hr,cz⟩:=hS;have bq:=hF;have hT:=ax.refl [3,4,5,6,7] w₀ (fm C);replace hF:=hF.fm;replace hl:=hl.fm;replace hx:=hx.fm (.inl rfl);replace ho:=ho.fm (.inr (.inl rfl));replace hr:=hr.fm (.inr (.inr rfl));replace cz:=cz.fm;have hrl:=hr.len;refine cg Tryz.func187 ?_;refine aG 10 ?_ [1,55,3];refine bU hx.at_ ?_;refine dE ho.ln ?_;refine ay 3 ?_;refine cH (ι:=Nat×Value×(Nat->Nat)) (I:=λx w=>x.1<=us.length/\(∀q (hq:q<x.1) (hl:q<rows.length),2<=(rows[q]).length->k4 l (rows[q])=true)/\aL w x.2.2/\ax [3,4,5,6,7] w₀ (fm C) w x.2.2/\av w (au x.2.2) l bz/\cE w x.2.2 3 b (.cells [bz,c4,e7,vs,.bool st.found,iX,.int .i64 st.val].toArray 184)/\bg w x.2.2 4 52 vs (us.map gC.mk)/\fI w x.2.2 5 55 us rows/\av w (au x.2.2) st.best iX/\bg w x.2.2 6 52 x.2.1 (gQ (rows.take x.1))) (e:=λx=>[(0,.pointer (some ⟨b,0,none⟩)),(2,x.2.1),(9,vs),(10,.int .i64 us.length),(11,.int .i64 x.1)]) (m:=λx=>us.length-x.1) (cC:=(0,.slice none 0 0,fm C)) (af 0 (af 2 (af 9 (aH 10 rfl (eq_int aF) (af 11 (aR _)))))) ?_ ?_
 · exact⟨Nat.zero_le _,λq hq=>by simp only at hq;omega,hF,hT,hl,hx,ho,hr,cz,bg.nil⟩
 intro⟨i,bX,a_⟩ w1 hI bV;obtain⟨hi,hJ,hF,hT,hl,hx,ho,hr,cz,hp⟩:=hI;try simp only at hi hJ hF hT hl hx ho hr cz hp
 show Run _ _ _ _ [(0,.pointer (some ⟨b,0,none⟩)),(2,bX),(9,vs),(10,.int .i64 us.length),(11,.int .i64 i)] _ _;have hrl:=hr.len;have qX:=RT (rows.take i);have r6: (rows.take i).length<=rows.length:=by rw[List.length_take];omega
 refine aI 5 ?_ [1];refine bF 12 rfl (λh12=>?_) (λh12=>?_)
 ·
  have hiu:i<us.length:=by omega
  have hir:i<rows.length:=by omega
  have hmem:=List.getElem_mem hir;have hnk:=jv _ hmem;have hlk:=oc _ hmem;have jm:=RU hir;refine aG 5 ?_ [5];refine dx ho ?_;intro g13 pe;refine vF ho pe ?_;intro _ C8 g14;obtain rfl:C8=us[i]'hiu:=by have:=(lY.1 g14).1;simpa using this
  clear g14;refine bQ 6 ?_ [7];refine bK (λw'=>((hr.mD hiu hir ah).Ci rfl Tryz.underlying52) w') ?_;refine ay 2 ?_;refine bF 17 rfl (λfF=>?_) (λfF=>?_)
  ·
   rw[if_neg ah] at jm;refine aI 5 ?_ [3];refine kp (aH 0 rfl rfl (aH 2 rfl rfl (aH 9 rfl rfl (aH 10 rfl rfl (aH 11 rfl (eq_int aF) (aR _)))))) (bV (i+1,bX,a_) _ ⟨aJ,(λq hq k9 h2=>by
     simp only at hq;by_cases e:q=i
     · subst e;omega
     · exact hJ q ah k9 h2),hF,hT,hl,hx,ho,hr,cz,(by simp only;rw[jm];exact hp)⟩ aJ)
  rw[if_pos ah] at jm;refine aG 7 ?_ [87,0];refine cu 2 ([bz,c4]) hx.at_ ?_;refine aj 1 ?_;refine dc Tryz.call195 rfl (Ud (C:=ji) (l:=l) (c4:=c4) (nR _) hl.c0 (hr.mD hiu hir ah) ah hnk ah) ?_;rintro _ w2 ⟨rfl,s_1⟩;replace s_1:=s_1.re (a_);refine ay 2 ?_;refine gJ 24 rfl (λgl=>?_) (λgl=>?_)
  ·
   have hjn:k4 l (rows[i]'hir)=false:=by simpa using gl
   refine yG aq Tryz.func187 Tryz.results187 ?_;have Bz:nj l st rows=st:=Zv (Zu hir ah hjn);rw[Bz];replace hF:=hF.st s_1;replace hT:=hT.t s_1;replace hx:=hx.t s_1;replace ho:=ho.t s_1;replace hr:=hr.u s_1;replace cz:=cz.t s_1;exact⟨_,rfl,hT.eR,sx hT bq hF,⟨vs,us,iX,hx.eR hT (.inl rfl),ho.eR hT bq (.inr (.inl rfl)),hr.eR hT bq (.inr (.inr rfl)),cz.eR hT bq⟩⟩
  have hjn:k4 l (rows[i]'hir)=true:=by simpa using gl
  refine aG 4 ?_ [35];replace hr:=hr.u s_1;refine dc Tryz.call150 rfl (qc (C:=ji) (xs:=rows[i]'hir) (nR _) (hr.mD hiu hir ah) (by intro e;rw[e] at fF;simp at fF) ah 9 ai) ?_;rintro zw w3 ⟨agC,s_2,_,fG⟩;replace hF:=hF.st s_1;have rR:=fG.HZ s_2 ai hF ah;replace s_2:ax [] _ (a_) _ (a_):=⟨s_2.ext.mono (λb _ hb=>by cases hb),λ_ _=>rfl⟩
  replace hF:=hF.st s_2;refine bD (fk (ys:=([rows[i]'hir]:List (List ak))) (e:=52) (bytes:=24) hF aq rfl ai ai ⟨rfl,⟨_,rfl,rR⟩,trivial⟩) ?_;rintro v28 w4 ⟨aB,mj,hF⟩;replace hp:=((hp.t s_1).t s_2).t aB;refine bD (eY (e:=52) (bytes:=24) hF ai rfl rfl aq ai hp mj fC fC) ?_;rintro qS ez ⟨zo,aM,hp,hF⟩;refine ay 7 ?_ [3];have tH:=((s_1.aY s_2).aY aB).aY aM;replace hT:=(((hT.t s_1).t s_2).t aB).t aM;replace hl:=hl.t tH;replace hx:=hx.t tH;replace ho:=ho.t tH;replace cz:=cz.t tH;replace hr:=((hr.u s_2).u aB).u aM;refine kp (aH 0 rfl rfl (aH 2 rfl rfl (aH 9 rfl rfl (aH 10 rfl rfl (aH 11 rfl (eq_int aF) (aR _)))))) (bV (i+1,qS,zo) _ ⟨aJ,(λq hq k9 h2=>by
      simp only at hq;by_cases e:q=i
      · subst e;exact hjn
      · exact hJ q ah k9 h2),hF,hT,hl,hx,ho,hr,cz,(by simp only;rw[jm];exact hp)⟩ aJ)
 have hiu:i=rows.length:=by omega
 rw[hiu,List.take_length] at hp;refine aG 3 ?_ [175];have qD:oA l rows=true:=Zp (λq hq h2=>hJ q ah hq h2);obtain⟨X6,o5⟩:=EP hw (gQ rows) l.length (Nat.le_refl _);rw[CY] at X6 o5;have Mz:=RT rows;refine aj 4 ?_ [0,0];refine bU hx.at_ ?_;refine aj 1 ?_;refine dc Tryz.call54 rfl (Uh (C:=ji) (nR _) hl.c0 (hp.mD ah) hw k7) ?_;rintro _ fE ⟨rfl,aX⟩;replace aX:=aX.re (a_);refine ay 3 ?_;by_cases uL:st.found=true
 ·
  by_cases hgt:st.val<e9 l (gQ rows)
  ·
   refine aG 4 ?_ [7159,4];replace hx:=hx.t aX;refine bU hx.at_ ?_;rw[show st.found=true from uL];refine aj 6 ?_ [6];refine bU hx.at_ ?_;refine bK (λ_=>mu (GV rfl rfl) ah) ?_;refine bQ 11 ?_ [7039,4];refine cq (jI rfl rfl aq rfl rfl hx aF) ?_;rintro _ w7 ⟨rfl,bp,hx⟩;refine aj 2 ?_ [5];replace hp:=(hp.t aX).t bp;refine cq (jI rfl rfl aq hp.one.1 hp.one.2 hx aF) ?_;rintro _ fR ⟨rfl,bt,hx⟩;refine aj 2 ?_ [6];refine cq (jI rfl rfl aq rfl rfl hx aF) ?_;rintro _ gE ⟨rfl,bM,hx⟩;refine ay 1 ?_;refine qy Tryz.func187 rfl ?_;have Bz:nj l st rows=⟨true,gQ rows,e9 l (gQ rows)⟩:=RW qD (.inr ah);rw[Bz];replace hF:=(((hF.st aX).st bp).st bt).st bM;replace hT:=(((hT.t aX).t bp).t bt).t bM;replace ho:=(((ho.t aX).t bp).t bt).t bM;replace hr:=(((hr.u aX).u bp).u bt).u bM;replace hp:=(hp.t bt).t bM;exact⟨_,rfl,hT.eR,sx hT bq hF,⟨vs,us,bX,hx.eR hT (.inl rfl),ho.eR hT bq (.inr (.inl rfl)),hr.eR hT bq (.inr (.inr rfl)),hp.RY hT bq ai ah⟩⟩
  refine aG 4 ?_ [7159,4];replace hx:=hx.t aX;refine bU hx.at_ ?_;rw[show st.found=true from uL];refine aj 6 ?_ [6];refine bU hx.at_ ?_;refine bK (λ_=>lG (GV rfl rfl) ah) ?_;refine ay 4 ?_;refine qy Tryz.func187 rfl ?_;have Bz:nj l st rows=st:=Zw uL ah;rw[Bz];replace hF:=hF.st aX;replace hT:=hT.t aX;replace ho:=ho.t aX;replace hr:=hr.u aX;replace cz:=cz.t aX;exact⟨_,rfl,hT.eR,sx hT bq hF,⟨vs,us,iX,hx.eR hT (.inl rfl),ho.eR hT bq (.inr (.inl rfl)),hr.eR hT bq (.inr (.inr rfl)),cz.eR hT bq⟩⟩
 refine aG 4 ?_ [7159,4];replace hx:=hx.t aX;refine bU hx.at_ ?_;rw[show st.found=false from(Bool.eq_false_iff.2 uL)];refine bQ 19 ?_ [7039,4];refine cq (jI rfl rfl aq rfl rfl hx aF) ?_;rintro _ iI ⟨rfl,bE,hx⟩;refine aj 2 ?_ [5];replace hp:=(hp.t aX).t bE;refine cq (jI rfl rfl aq hp.one.1 hp.one.2 hx aF) ?_;rintro _ jj ⟨rfl,bP,hx⟩;refine aj 2 ?_ [6];refine cq (jI rfl rfl aq rfl rfl hx aF) ?_;rintro _ jQ ⟨rfl,bS,hx⟩;refine ay 1 ?_;refine qy Tryz.func187 rfl ?_;have Bz:nj l st rows=⟨true,gQ rows,e9 l (gQ rows)⟩:=RW qD (.inl (Bool.eq_false_iff.2 uL));rw[Bz];replace hF:=(((hF.st aX).st bE).st bP).st bS;replace hT:=(((hT.t aX).t bE).t bP).t bS;replace ho:=(((ho.t aX).t bE).t bP).t bS;replace hr:=(((hr.u aX).u bE).u bP).u bS;replace hp:=(hp.t bP).t bS;exact⟨_,rfl,hT.eR,sx hT bq hF,⟨vs,us,bX,hx.eR hT (.inl rfl),ho.eR hT bq (.inr (.inl rfl)),hr.eR hT bq (.inr (.inr rfl)),hp.RY hT bq ai ah⟩⟩
end
end Go.Proofs.YtmdhggfehknjjaaGreat
