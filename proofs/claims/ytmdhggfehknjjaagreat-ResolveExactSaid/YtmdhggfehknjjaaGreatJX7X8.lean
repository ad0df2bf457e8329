/- Steps through functions of the program. -/
import Derived.Test.YtmdhggfehknjjaaGreatJX5X6
import Derived.Test.YtmdhggfehknjjaaGreatL3
import Derived.Test.YtmdhggfehknjjaaGreatL2
set_option maxRecDepth 100000
set_option maxHeartbeats 4000000
namespace Go.Proofs.YtmdhggfehknjjaaGreat
open Go.K Go.K.aZ
noncomputable section
namespace abC
def c0:=cw Tryz.f181
def tZ:=(aC (cl (aC (aC (aC c0)))))
def N8:=(aC (cl (aC (cl (cl tZ)))))
def FK:=(cl (aC (cl (cl (aC N8)))))
def zl:=di (cl (cl FK))
def DJ:=di (cl (aC (aC (cl FK))))
def JC:=(aC (aC (aC (aC (cl FK)))))
def qI:=di (cl (cl JC))
end abC
theorem U9 {w₀:World} {C:Nat->Nat} {l:List aD} {s:List ak} {aK vs:Value} (hF:aL w₀ C) (hl:av w₀ (au C) l aK) (hs0:av w₀ (au C) s vs) (hn:s.Nodup) (hlen:s.length<=8796093021952):Calls Tryz.prog 181 #[aK,vs] w₀ (bH λv w'=>v=.bool (k4 l s)/\ax [] w₀ C w' C):=by
 have bq:=hF;have hT:=z9 w₀ C;replace hF:=hF.bk;replace hl:=hl.c1;replace hs0:=hs0.c1;refine cg Tryz.func181 ?_;refine aG 8 ?_ [1,7];refine dE hs0.ln ?_;refine ay 2 ?_;refine bF 14 rfl (λfJ=>?_) (λfJ=>?_)
 ·
  have abD:s=[]:=List.length_eq_zero_iff.1 ah;subst abD;refine aI 4 ?_ [1];refine bI Tryz.func181 ?_;exact⟨rfl,hT.bN ai⟩
 have h1:1<=s.length:=by omega
 refine aG 4 ?_ [7];refine nz ?_;refine qx (e':=55) (iT 16 (.slice 52 15 none (some (.const (.int .i64 1))) none)) rfl rfl hs0 rfl aq rfl ah ah ?_;intro qW en;try simp only[fP] at en
 replace en:av _ _ (s.take 1) qW:=en;refine cK ?_;refine ay 8 ?_ [1];refine cH (ι:=Bool×(List ak)×Value×(Nat->Nat)) (I:=λx w=>nT l s x.2.1/\(x.2.1.Pairwise λp q=>oC p q=true)/\(x.1=false->∀bd∈l,bd.A∈s->bd.B∈s->(bd.A∈x.2.1↔bd.B∈x.2.1))/\aL w x.2.2.2/\ax [2,3,4,5,6,7,8,9] w₀ (bk C) w x.2.2.2/\av w (au x.2.2.2) l aK/\av w (au x.2.2.2) s vs/\av w (au x.2.2.2) x.2.1 x.2.2.1) (e:=λx=>[(0,aK),(1,vs),(5,x.2.2.1),(6,.bool x.1)]) (m:=λx=>2*(s.length-x.2.1.length)+(if x.1 then 1 else 0)) (cC:=(true,s.take 1,qW,bk C)) (af 0 (af 1 (af 5 (af 6 (aR _))))) ?_ ?_
 · exact⟨nT.start h1,(by obtain⟨a,t,rfl⟩:=List.exists_cons_of_length_pos (show 0<s.length by omega);simp),λe=>(by cases e),hF,hT,hl,hs0,en⟩
 intro⟨g0,ys,vy,a_⟩ w1 hI bV;obtain⟨hR,hO,hg,hF,hT,hl,hs0,hy⟩:=hI;try simp only at hR hO hg hF hT hl hs0 hy
 show Run _ _ _ _ [(0,aK),(1,vs),(5,vy),(6,.bool g0)] _ _;have xH:=hR.len;refine aI 5 ?_ [1];refine gJ 17 rfl (λfF=>?_) (λfF=>?_)
 ·
  subst fF;refine aI 11 ?_ [1,1];refine cH (ι:=Nat×Bool×(List ak)×Value×(Nat->Nat)) (I:=λx w=>x.1<=l.length/\nT l s x.2.2.1/\(x.2.2.1.Pairwise λp q=>oC p q=true)/\(x.2.1=true->ys.length<x.2.2.1.length)/\(x.2.1=false->x.2.2.1=ys/\∀i (hi:i<x.1) (hl:i<l.length),l[i].A∈s->l[i].B∈s->(l[i].A∈ys↔l[i].B∈ys))/\aL w x.2.2.2.2/\ax [2,3,4,5,6,7,8,9] w₀ (bk C) w x.2.2.2.2/\av w (au x.2.2.2.2) l aK/\av w (au x.2.2.2.2) s vs/\av w (au x.2.2.2.2) x.2.2.1 x.2.2.2.1) (e:=λx=>[(0,aK),(1,vs),(5,x.2.2.2.1),(6,.bool x.2.1),(7,.int .i64 x.1)]) (m:=λx=>l.length-x.1) (cC:=(0,false,ys,vy,a_)) (af 0 (af 1 (af 5 (af 6 (af 7 (aR _)))))) ?_ ?_
  · exact⟨Nat.zero_le _,hR,hO,(λe=>by cases e),(λ_=>⟨rfl,λi hi=>by simp only at hi;omega⟩),hF,hT,hl,hs0,hy⟩
  intro⟨k,g,zs,vy,de⟩ w2 hI ei;obtain⟨hk,qU,Af,sK,oJ,hF,hT,hl,hs0,hy⟩:=hI;try simp only at hk qU Af sK oJ hF hT hl hs0 hy
  show Run _ _ _ _ [(0,aK),(1,vs),(5,vy),(6,.bool g),(7,.int .i64 k)] _ _;have hle:=hl.le;have y3:=hs0.le;have hzl:=qU.len;refine aG 5 ?_ [15];refine dE hl.ln ?_;refine ay 2 ?_;refine bF 21 rfl (λnX=>?_) (λnX=>?_)
  ·
   have aA:k<l.length:=by omega
   have FJ:=List.getElem_mem aA;refine aI 4 ?_;by_cases hA: (l[k]'aA).A∈s
   ·
    by_cases hB: (l[k]'aA).B∈s
    ·
     refine cm [] (de) [1,3,5,7,9,11,17,19,21,23,25,27,12,15,28,31,33,35] b5 ?_;intro w3 s_1;have hR:=ax.refl [] w3 (de);refine aj 3 ?_;replace hl:=hl.t s_1;refine bn hl ?_;intro _ FE zY j7;have iz:=bJ.jr j7;refine aj 1 ?_ [0];refine ck iz ?_;intro qS eZ;obtain rfl:=bR.1 eZ;refine aj 3 ?_;refine bn hl ?_;intro _ uB Dc k8;have lu:=bJ.mJ k8;refine aj 1 ?_ [2];refine ck lu ?_;intro v37 oa;obtain rfl:=bR.1 oa;replace hF:=hF.st s_1;replace hs0:=hs0.t s_1;refine dC Tryz.call29 (iQ (c:=(l[k]'aA).A) hF hs0) ?_;rintro j4 w4 ⟨rfl,s_2⟩;refine⟨(hR.trans s_2 aF).ext,?_⟩;refine dT (nY hA) ?_;replace hF:=hF.st s_2;replace hs0:=hs0.t s_2;refine dC Tryz.call29 (iQ (c:=(l[k]'aA).B) hF hs0) ?_;rintro mP ez ⟨rfl,aB⟩;replace hR:=hR.t s_2;refine⟨(hR.trans aB aF).ext,?_⟩;refine dT (nY hB) ?_;refine ay 16 ?_ [63];by_cases hP: (l[k]'aA).A∈zs
     ·
      by_cases hQ: (l[k]'aA).B∈zs
      ·
       refine cm [] (de) [1,3,5,7,9,11,17,19,21,23,25,27,12,15,28,31,33,35] b5 ?_;intro fE aM;have hR:=ax.refl [] fE (de);refine aj 3 ?_;replace hl:=((hl.t s_2).t aB).t aM;refine bn hl ?_;intro _ De Df jR;have h50:=bJ.jr jR;refine aj 1 ?_ [0];refine ck h50 ?_;intro v51 iY;obtain rfl:=bR.1 iY;refine aj 3 ?_;refine bn hl ?_;intro _ JD JE oP;have yb:=bJ.mJ oP;refine aj 1 ?_ [2];refine ck yb ?_;intro v59 wj;obtain rfl:=bR.1 wj;replace hy:=(((hy.t s_1).t s_2).t aB).t aM;replace hF:=(hF.st aB).st aM;refine dC Tryz.call29 (iQ (c:=(l[k]'aA).A) hF hy) ?_;rintro mE w7 ⟨rfl,aV⟩;refine⟨(hR.trans aV aF).ext,?_⟩;refine dT (nY hP) ?_;replace hF:=hF.st aV;replace hy:=hy.t aV;refine dC Tryz.call29 (iQ (c:=(l[k]'aA).B) hF hy) ?_;rintro wF fR ⟨rfl,aX⟩;replace hR:=hR.t aV;refine⟨(hR.trans aX aF).ext,?_⟩;refine dT (nY hQ) ?_;refine bQ 7 ?_ [7];refine bK (λ_=>gV (EI Tryz.underlying4 rfl rfl) (show _=Value.bool false from rfl)) ?_;refine ay 9 ?_ [7];replace hT:=(((((hT.t s_1).t s_2).t aB).t aM).t aV).t aX;replace hs0:=(((hs0.t aB).t aM).t aV).t aX;replace hl:=(hl.t aV).t aX;replace hF:=hF.st aX;replace hy:=hy.t aX;refine kp (aH 0 rfl rfl (aH 1 rfl rfl (aH 5 rfl rfl (aH 6 rfl rfl (aH 7 rfl (eq_int aF) (aR _)))))) (ei (k+1,g,zs,vy,de) _ ⟨aJ,aJ,aJ,aJ,(λe=>by
          obtain⟨h1,h2⟩:=oJ e;exact⟨h1,λi hi hl' a b=>by
           simp only at hi;by_cases e2:i=k
           ·subst e2;rw[<-h1];first|exact⟨λ_=>hQ,λ_=>hP⟩|exact⟨λe=>absurd e hP,λe=>absurd e hQ⟩
           ·exact h2 i ah hl' a b⟩),hF,hT,hl,hs0,hy⟩ aJ)
      refine cm [] (de) [1,3,5,7,9,11,17,19,21,23,25,27,12,15,28,31,33,35] b5 ?_;intro gE bp;have hR:=ax.refl [] gE (de);refine aj 3 ?_;replace hl:=((hl.t s_2).t aB).t bp;refine bn hl ?_;intro _ De Df jR;have h50:=bJ.jr jR;refine aj 1 ?_ [0];refine ck h50 ?_;intro v51 iY;obtain rfl:=bR.1 iY;refine aj 3 ?_;refine bn hl ?_;intro _ JD JE oP;have yb:=bJ.mJ oP;refine aj 1 ?_ [2];refine ck yb ?_;intro v59 wj;obtain rfl:=bR.1 wj;replace hy:=(((hy.t s_1).t s_2).t aB).t bp;replace hF:=(hF.st aB).st bp;refine dC Tryz.call29 (iQ (c:=(l[k]'aA).A) hF hy) ?_;rintro uz iI ⟨rfl,bt⟩;refine⟨(hR.trans bt aF).ext,?_⟩;refine dT (nY hP) ?_;replace hF:=hF.st bt;replace hy:=hy.t bt;refine dC Tryz.call29 (iQ (c:=(l[k]'aA).B) hF hy) ?_;rintro A_ jj ⟨rfl,bM⟩;replace hR:=hR.t bt;refine⟨(hR.trans bM aF).ext,?_⟩;refine ey (qK hQ) ?_;refine bQ 7 ?_ [7];refine bK (λ_=>gV (EI Tryz.underlying4 rfl rfl) (show _=Value.bool true from rfl)) ?_;refine ay 3 ?_;refine cm [] (de) [1,3,5,7,9,11,15,17,19,21,23,12,24,27] b5 ?_;intro jQ bE;have hR:=ax.refl [] jQ (de);refine aj 3 ?_;replace hl:=((hl.t bt).t bM).t bE;refine bn hl ?_;intro _ UN UO F6;have BQ:=bJ.jr F6;refine aj 1 ?_ [0];refine ck BQ ?_;intro v70 qY;obtain rfl:=bR.1 qY;refine aj 2 ?_;refine bn hl ?_;intro _ abE abF Oa;have BR:=bJ.mJ Oa;refine aj 1 ?_ [2];refine ck BR ?_;intro v76 wJ;obtain rfl:=bR.1 wJ;obtain⟨hp1,hp2,mX⟩:=qU.put Af FJ hA hB (by first|exact .inl ⟨hP,hQ⟩|exact .inr ⟨hP,hQ⟩);have Jv:=zk (l[k]'aA).A zs;have mw:=hp1.len;replace hF:=(hF.st bM).st bE;replace hy:=(hy.t bM).t bE;refine gn Tryz.call56 rfl (BM (c:=(l[k]'aA).A) hF hy ah) ?_;rintro N1 ki ⟨bP,hq1⟩;refine⟨(hR.trans bP aF).ext,?_⟩;replace hF:=hF.st bP;refine gn Tryz.call56 rfl (BM (c:=(l[k]'aA).B) hF hq1 ah) ?_;rintro Gg kA ⟨bS,mC⟩;replace hR:=hR.t bP
      refine⟨(hR.trans bS aF).ext,?_⟩;refine ay 11 ?_ [1,7];replace hT:=((((((((hT.t s_1).t s_2).t aB).t bp).t bt).t bM).t bE).t bP).t bS;replace hs0:=((((((hs0.t aB).t bp).t bt).t bM).t bE).t bP).t bS;replace hl:=(hl.t bP).t bS;replace hF:=hF.st bS;refine kp (aH 0 rfl rfl (aH 1 rfl rfl (aH 5 rfl rfl (aH 6 rfl rfl (aH 7 rfl (eq_int aF) (aR _)))))) (ei (k+1,true,fM (fM zs (l[k]'aA).A) (l[k]'aA).B,Gg,de) _ ⟨aJ,hp1,hp2,(λ_=>by
          rw[mX];cases eg:g with
          |true=>have:=sK eg;omega
          |false=>have:=(oJ eg).1;rw[this];omega),(λe=>by cases e),hF,hT,hl,hs0,mC⟩ aJ)
     by_cases hQ: (l[k]'aA).B∈zs
     ·
      refine cm [] (de) [1,3,5,7,9,11,17,19,21,23,25,27,12,15,28,31,33,35] b5 ?_;intro kR b7;have hR:=ax.refl [] kR (de);refine aj 3 ?_;replace hl:=((hl.t s_2).t aB).t b7;refine bn hl ?_;intro _ De Df jR;have h50:=bJ.jr jR;refine aj 1 ?_ [0];refine ck h50 ?_;intro v51 iY;obtain rfl:=bR.1 iY;refine aj 3 ?_;refine bn hl ?_;intro _ JD JE oP;have yb:=bJ.mJ oP;refine aj 1 ?_ [2];refine ck yb ?_;intro v59 wj;obtain rfl:=bR.1 wj;replace hy:=(((hy.t s_1).t s_2).t aB).t b7;replace hF:=(hF.st aB).st b7;refine dC Tryz.call29 (iQ (c:=(l[k]'aA).A) hF hy) ?_;rintro Jn kB ⟨rfl,cn⟩;refine⟨(hR.trans cn aF).ext,?_⟩;refine ey (qK hP) ?_;replace hF:=hF.st cn;replace hy:=hy.t cn;refine dC Tryz.call29 (iQ (c:=(l[k]'aA).B) hF hy) ?_;rintro Ae mb ⟨rfl,bY⟩;replace hR:=hR.t cn;refine⟨(hR.trans bY aF).ext,?_⟩;refine dT (nY hQ) ?_;refine bQ 7 ?_ [7];refine bK (λ_=>gV (EI Tryz.underlying4 rfl rfl) (show _=Value.bool true from rfl)) ?_;refine ay 3 ?_;refine cm [] (de) [1,3,5,7,9,11,15,17,19,21,23,12,24,27] b5 ?_;intro mc bT;have hR:=ax.refl [] mc (de);refine aj 3 ?_;replace hl:=((hl.t cn).t bY).t bT;refine bn hl ?_;intro _ UN UO F6;have BQ:=bJ.jr F6;refine aj 1 ?_ [0];refine ck BQ ?_;intro v70 qY;obtain rfl:=bR.1 qY;refine aj 2 ?_;refine bn hl ?_;intro _ abE abF Oa;have BR:=bJ.mJ Oa;refine aj 1 ?_ [2];refine ck BR ?_;intro v76 wJ;obtain rfl:=bR.1 wJ;obtain⟨hp1,hp2,mX⟩:=qU.put Af FJ hA hB (by first|exact .inl ⟨hP,hQ⟩|exact .inr ⟨hP,hQ⟩);have Jv:=zk (l[k]'aA).A zs;have mw:=hp1.len;replace hF:=(hF.st bY).st bT;replace hy:=(hy.t bY).t bT;refine gn Tryz.call56 rfl (BM (c:=(l[k]'aA).A) hF hy ah) ?_;rintro N1 mg ⟨b_,hq1⟩;refine⟨(hR.trans b_ aF).ext,?_⟩;replace hF:=hF.st b_;refine gn Tryz.call56 rfl (BM (c:=(l[k]'aA).B) hF hq1 ah) ?_;rintro Gg mQ ⟨cQ,mC⟩
      replace hR:=hR.t b_;refine⟨(hR.trans cQ aF).ext,?_⟩;refine ay 11 ?_ [1,7];replace hT:=((((((((hT.t s_1).t s_2).t aB).t b7).t cn).t bY).t bT).t b_).t cQ;replace hs0:=((((((hs0.t aB).t b7).t cn).t bY).t bT).t b_).t cQ;replace hl:=(hl.t b_).t cQ;replace hF:=hF.st cQ;refine kp (aH 0 rfl rfl (aH 1 rfl rfl (aH 5 rfl rfl (aH 6 rfl rfl (aH 7 rfl (eq_int aF) (aR _)))))) (ei (k+1,true,fM (fM zs (l[k]'aA).A) (l[k]'aA).B,Gg,de) _ ⟨aJ,hp1,hp2,(λ_=>by
          rw[mX];cases eg:g with
          |true=>have:=sK eg;omega
          |false=>have:=(oJ eg).1;rw[this];omega),(λe=>by cases e),hF,hT,hl,hs0,mC⟩ aJ)
     refine cm [] (de) [1,3,5,7,9,11,17,19,21,23,25,27,12,15,28,31,33,35] b5 ?_;intro oK cB;have hR:=ax.refl [] oK (de);refine aj 3 ?_;replace hl:=((hl.t s_2).t aB).t cB;refine bn hl ?_;intro _ De Df jR;have h50:=bJ.jr jR;refine aj 1 ?_ [0];refine ck h50 ?_;intro v51 iY;obtain rfl:=bR.1 iY;refine aj 3 ?_;refine bn hl ?_;intro _ JD JE oP;have yb:=bJ.mJ oP;refine aj 1 ?_ [2];refine ck yb ?_;intro v59 wj;obtain rfl:=bR.1 wj;replace hy:=(((hy.t s_1).t s_2).t aB).t cB;replace hF:=(hF.st aB).st cB;refine dC Tryz.call29 (iQ (c:=(l[k]'aA).A) hF hy) ?_;rintro aas qV ⟨rfl,dP⟩;refine⟨(hR.trans dP aF).ext,?_⟩;refine ey (qK hP) ?_;replace hF:=hF.st dP;replace hy:=hy.t dP;refine dC Tryz.call29 (iQ (c:=(l[k]'aA).B) hF hy) ?_;rintro U_ tG ⟨rfl,dR⟩;replace hR:=hR.t dP;refine⟨(hR.trans dR aF).ext,?_⟩;refine ey (qK hQ) ?_;refine bQ 7 ?_ [7];refine bK (λ_=>gV (EI Tryz.underlying4 rfl rfl) (show _=Value.bool false from rfl)) ?_;refine ay 9 ?_ [7];replace hT:=(((((hT.t s_1).t s_2).t aB).t cB).t dP).t dR;replace hs0:=(((hs0.t aB).t cB).t dP).t dR;replace hl:=(hl.t dP).t dR;replace hF:=hF.st dR;replace hy:=hy.t dR;refine kp (aH 0 rfl rfl (aH 1 rfl rfl (aH 5 rfl rfl (aH 6 rfl rfl (aH 7 rfl (eq_int aF) (aR _)))))) (ei (k+1,g,zs,vy,de) _ ⟨aJ,aJ,aJ,aJ,(λe=>by
          obtain⟨h1,h2⟩:=oJ e;exact⟨h1,λi hi hl' a b=>by
           simp only at hi;by_cases e2:i=k
           ·subst e2;rw[<-h1];first|exact⟨λ_=>hQ,λ_=>hP⟩|exact⟨λe=>absurd e hP,λe=>absurd e hQ⟩
           ·exact h2 i ah hl' a b⟩),hF,hT,hl,hs0,hy⟩ aJ)
    refine cm [] (de) [1,3,5,7,9,11,17,19,21,23,25,27,12,15,28,31,33,35] b5 ?_;intro pO eS;have hR:=ax.refl [] pO (de);refine aj 3 ?_;replace hl:=hl.t eS;refine bn hl ?_;intro _ FE zY j7;have iz:=bJ.jr j7;refine aj 1 ?_ [0];refine ck iz ?_;intro qS eZ;obtain rfl:=bR.1 eZ;refine aj 3 ?_;refine bn hl ?_;intro _ uB Dc k8;have lu:=bJ.mJ k8;refine aj 1 ?_ [2];refine ck lu ?_;intro v37 oa;obtain rfl:=bR.1 oa;replace hF:=hF.st eS;replace hs0:=hs0.t eS;refine dC Tryz.call29 (iQ (c:=(l[k]'aA).A) hF hs0) ?_;rintro Nc wH ⟨rfl,cL⟩;refine⟨(hR.trans cL aF).ext,?_⟩;refine dT (nY hA) ?_;replace hF:=hF.st cL;replace hs0:=hs0.t cL;refine dC Tryz.call29 (iQ (c:=(l[k]'aA).B) hF hs0) ?_;rintro Nd wI ⟨rfl,eT⟩;replace hR:=hR.t cL;refine⟨(hR.trans eT aF).ext,?_⟩;refine ey (qK hB) ?_;refine ay 20 ?_ [63,7];replace hT:=((hT.t eS).t cL).t eT;replace hy:=((hy.t eS).t cL).t eT;replace hl:=(hl.t cL).t eT;replace hF:=hF.st eT;replace hs0:=hs0.t eT;refine kp (aH 0 rfl rfl (aH 1 rfl rfl (aH 5 rfl rfl (aH 6 rfl rfl (aH 7 rfl (eq_int aF) (aR _)))))) (ei (k+1,g,zs,vy,de) _ ⟨aJ,aJ,aJ,aJ,(λe=>by
         obtain⟨h1,h2⟩:=oJ e;exact⟨h1,λi hi hl' a b=>by
          simp only at hi;by_cases e2:i=k
          ·subst e2;first|exact absurd a hA|exact absurd b hB
          ·exact h2 i ah hl' a b⟩),hF,hT,hl,hs0,hy⟩ aJ)
   by_cases hB: (l[k]'aA).B∈s
   ·
    refine cm [] (de) [1,3,5,7,9,11,17,19,21,23,25,27,12,15,28,31,33,35] b5 ?_;intro wQ eH;have hR:=ax.refl [] wQ (de);refine aj 3 ?_;replace hl:=hl.t eH;refine bn hl ?_;intro _ FE zY j7;have iz:=bJ.jr j7;refine aj 1 ?_ [0];refine ck iz ?_;intro qS eZ;obtain rfl:=bR.1 eZ;refine aj 3 ?_;refine bn hl ?_;intro _ uB Dc k8;have lu:=bJ.mJ k8;refine aj 1 ?_ [2];refine ck lu ?_;intro v37 oa;obtain rfl:=bR.1 oa;replace hF:=hF.st eH;replace hs0:=hs0.t eH;refine dC Tryz.call29 (iQ (c:=(l[k]'aA).A) hF hs0) ?_;rintro UC Ac ⟨rfl,fq⟩;refine⟨(hR.trans fq aF).ext,?_⟩;refine ey (qK hA) ?_;replace hF:=hF.st fq;replace hs0:=hs0.t fq;refine dC Tryz.call29 (iQ (c:=(l[k]'aA).B) hF hs0) ?_;rintro UE yc ⟨rfl,eN⟩;replace hR:=hR.t fq;refine⟨(hR.trans eN aF).ext,?_⟩;refine dT (nY hB) ?_;refine ay 20 ?_ [63,7];replace hT:=((hT.t eH).t fq).t eN;replace hy:=((hy.t eH).t fq).t eN;replace hl:=(hl.t fq).t eN;replace hF:=hF.st eN;replace hs0:=hs0.t eN;refine kp (aH 0 rfl rfl (aH 1 rfl rfl (aH 5 rfl rfl (aH 6 rfl rfl (aH 7 rfl (eq_int aF) (aR _)))))) (ei (k+1,g,zs,vy,de) _ ⟨aJ,aJ,aJ,aJ,(λe=>by
         obtain⟨h1,h2⟩:=oJ e;exact⟨h1,λi hi hl' a b=>by
          simp only at hi;by_cases e2:i=k
          ·subst e2;first|exact absurd a hA|exact absurd b hB
          ·exact h2 i ah hl' a b⟩),hF,hT,hl,hs0,hy⟩ aJ)
   refine cm [] (de) [1,3,5,7,9,11,17,19,21,23,25,27,12,15,28,31,33,35] b5 ?_;intro uQ iC;have hR:=ax.refl [] uQ (de);refine aj 3 ?_;replace hl:=hl.t iC;refine bn hl ?_;intro _ FE zY j7;have iz:=bJ.jr j7;refine aj 1 ?_ [0];refine ck iz ?_;intro qS eZ;obtain rfl:=bR.1 eZ;refine aj 3 ?_;refine bn hl ?_;intro _ uB Dc k8;have lu:=bJ.mJ k8;refine aj 1 ?_ [2];refine ck lu ?_;intro v37 oa;obtain rfl:=bR.1 oa;replace hF:=hF.st iC;replace hs0:=hs0.t iC;refine dC Tryz.call29 (iQ (c:=(l[k]'aA).A) hF hs0) ?_;rintro UQ DP ⟨rfl,eL⟩;refine⟨(hR.trans eL aF).ext,?_⟩;refine ey (qK hA) ?_;replace hF:=hF.st eL;replace hs0:=hs0.t eL;refine dC Tryz.call29 (iQ (c:=(l[k]'aA).B) hF hs0) ?_;rintro ahm BK ⟨rfl,fS⟩;replace hR:=hR.t eL;refine⟨(hR.trans fS aF).ext,?_⟩;refine ey (qK hB) ?_;refine ay 20 ?_ [63,7];replace hT:=((hT.t iC).t eL).t fS;replace hy:=((hy.t iC).t eL).t fS;replace hl:=(hl.t eL).t fS;replace hF:=hF.st fS;replace hs0:=hs0.t fS;refine kp (aH 0 rfl rfl (aH 1 rfl rfl (aH 5 rfl rfl (aH 6 rfl rfl (aH 7 rfl (eq_int aF) (aR _)))))) (ei (k+1,g,zs,vy,de) _ ⟨aJ,aJ,aJ,aJ,(λe=>by
         obtain⟨h1,h2⟩:=oJ e;exact⟨h1,λi hi hl' a b=>by
          simp only at hi;by_cases e2:i=k
          ·subst e2;first|exact absurd a hA|exact absurd b hB
          ·exact h2 i ah hl' a b⟩),hF,hT,hl,hs0,hy⟩ aJ)
  have aA:k=l.length:=by omega
  refine aI 2 ?_;by_cases uK:g=true
  ·
   have hlt:=sK uK;refine kp (af 0 (af 1 (af 5 (af 6 (aR _))))) (bV (g,zs,vy,de) _ ⟨qU,Af,(λe=>by rw[uK] at e;cases e),hF,hT,hl,hs0,hy⟩ (by simp only[uK];have:=qU.len;simp;omega))
  obtain⟨bL,bG⟩:=oJ (by simpa using uK);refine kp (aH 0 rfl rfl (aH 1 rfl rfl (aH 5 rfl rfl (aH 6 rfl rfl (aR _))))) (bV (g,zs,vy,de) _ ⟨qU,Af,(λ_ x hx a b=>by
        obtain⟨i,hi,rfl⟩:=List.getElem_of_mem hx;rw[bL];exact bG i ah hi a b),hF,hT,hl,hs0,hy⟩ (by simp only[uK];rw[bL];simp))
 subst fF;refine aG 4 ?_ [63];refine dE hy.ln ?_;refine aj 1 ?_;refine dE hs0.ln ?_;refine bK (λ_=>gV (GX rfl rfl) (show _=Value.bool (k4 l s) from congrArg Value.bool (by rw[Bool.eq_iff_iff,decide_eq_true_iff];exact hR.fin hn (hg rfl)))) ?_;refine ay 2 ?_;refine bI Tryz.func181 ?_;exact⟨rfl,hT.bN ai⟩
namespace abG
def c0:=cw Tryz.f149
def kP:=(cl (aC (cl (aC (aC c0)))))
def rI:=(aC (cl (cl (aC (cl kP)))))
def E0:=(cl (cl (aC (cl (cl rI)))))
def wG:=di (cl E0)
end abG
theorem JF {w₀:World} {C:Nat->Nat} {l:List aD} {ds:List bC} {s:List ak} {aK cO vs:Value} (hF:aL w₀ C) (hl:av w₀ (au C) l aK) (hz:av w₀ (au C) ds cO) (hs0:av w₀ (au C) s vs) (hlen:s.length<=8796093021952):Calls Tryz.prog 149 #[aK,cO,vs] w₀ (bH λv w'=>v=.bool (nU l ds s)/\ax [] w₀ C w' C):=by
 have bq:=hF;have hT:=z9 w₀ C;replace hF:=hF.bk;replace hl:=hl.c1;replace hz:=hz.c1;replace hs0:=hs0.c1;refine cg Tryz.func149 ?_;refine aG 8 ?_ [1,7];refine dE hs0.ln ?_;refine ay 2 ?_;refine bF 11 rfl (λkQ=>?_) (λkQ=>?_)
 ·
  refine aI 4 ?_ [1];refine bI Tryz.func149 ?_;exact⟨by unfold nU;rw[decide_eq_false ah];rfl,hT.bN ai⟩
 have x7:2<=s.length:=by omega
 refine aI 7 ?_ [1];refine cH (ι:=Nat×(Nat->Nat)) (I:=λx w=>x.1<=s.length/\(∀q (hq:q<x.1) (hl:q<s.length),(s.take q).any (λb=>eU ds b s[q])=false)/\aL w x.2/\ax [2,3,4,5,6,7,8,9] w₀ (bk C) w x.2/\av w (au x.2) l aK/\av w (au x.2) ds cO/\av w (au x.2) s vs) (e:=λx=>[(0,aK),(1,cO),(2,vs),(7,.int .i64 x.1)]) (m:=λx=>s.length-x.1) (cC:=(0,bk C)) (af 0 (af 1 (af 2 (af 7 (aR _))))) ?_ ?_
 · exact⟨Nat.zero_le _,λq hq=>by simp only at hq;omega,hF,hT,hl,hz,hs0⟩
 intro⟨i,a_⟩ w1 hI bV;obtain⟨hi,h0,hF,hT,hl,hz,hs0⟩:=hI;try simp only at hi h0 hF hT hl hz hs0
 show Run _ _ _ _ [(0,aK),(1,cO),(2,vs),(7,.int .i64 i)] _ _;have hle:=hs0.le;refine aG 5 ?_ [15];refine dE hs0.ln ?_;refine ay 2 ?_;refine bF 15 rfl (λjO=>?_) (λjO=>?_)
 ·
  have hil:i<s.length:=by omega
  refine aI 8 ?_ [1];refine cH (ι:=Nat×(Nat->Nat)) (I:=λx w=>x.1<=i/\(∀q (hq:q<x.1) (hl:q<s.length),eU ds s[q] (s[i]'hil)=false)/\aL w x.2/\ax [2,3,4,5,6,7,8,9] w₀ (bk C) w x.2/\av w (au x.2) l aK/\av w (au x.2) ds cO/\av w (au x.2) s vs) (e:=λx=>[(0,aK),(1,cO),(2,vs),(7,.int .i64 i),(8,.int .i64 x.1)]) (m:=λx=>i-x.1) (cC:=(0,a_)) (af 0 (af 1 (af 2 (af 7 (af 8 (aR _)))))) ?_ ?_
  · exact⟨Nat.zero_le _,λq hq=>by simp only at hq;omega,hF,hT,hl,hz,hs0⟩
  intro⟨k,de⟩ w2 hI ei;obtain⟨hk,h1,hF,hT,hl,hz,hs0⟩:=hI;try simp only at hk h1 hF hT hl hz hs0
  show Run _ _ _ _ [(0,aK),(1,cO),(2,vs),(7,.int .i64 i),(8,.int .i64 k)] _ _;have hle:=hs0.le;refine aI 7 ?_ [7];refine bF 20 rfl (λlg=>?_) (λlg=>?_)
  ·
   have hki:k<i:=by omega
   have aA:k<s.length:=by omega
   refine aI 4 ?_;refine cm [] (de) [1,3,5,7,9,11,13,15,17,18,21] b5 ?_;intro w3 s_1;have hR:=ax.refl [] w3 (de);refine aj 3 ?_;replace hs0:=hs0.t s_1;refine bn hs0 ?_;intro _ iN xK nV;refine ck nV ?_;intro zw Ba;obtain rfl:=bR.1 Ba;refine aj 2 ?_;refine bn hs0 ?_;intro _ oH Wt uG;refine ck uG ?_;intro v31 qT;obtain rfl:=bR.1 qT;replace hF:=hF.st s_1;replace hz:=hz.t s_1;refine dC Tryz.call127 (N_ (a:=s[i]'hil) (b:=s[k]'aA) hF hz) ?_;rintro j4 w4 ⟨rfl,s_2⟩;rw[Ry];refine⟨(hR.trans s_2 aF).ext,?_⟩;refine ay 2 ?_;refine gJ 33 rfl (λmT=>?_) (λmT=>?_)
   ·
    have hbd:eU ds (s[k]'aA) (s[i]'hil)=true:=by simpa using mT
    have hno:=RQ hil (List.any_eq_true.2 ⟨s[k]'aA,List.mem_take_iff_getElem.2 ⟨k,by omega,rfl⟩,hbd⟩);refine aI 4 ?_ [1];refine bI Tryz.func149 ?_;replace hT:=(hT.t s_1).t s_2;exact⟨by unfold nU;rw[hno];simp,hT.bN ai⟩
   have hbd:eU ds (s[k]'aA) (s[i]'hil)=false:=by simpa using mT
   refine aI 7 ?_ [7];replace hT:=(hT.t s_1).t s_2;replace hl:=(hl.t s_1).t s_2;replace hF:=hF.st s_2;replace hz:=hz.t s_2;replace hs0:=hs0.t s_2;refine kp (aH 0 rfl rfl (aH 1 rfl rfl (aH 2 rfl rfl (aH 7 rfl rfl (aH 8 rfl (eq_int aF) (aR _)))))) (ei (k+1,de) _ ⟨aJ,(λq hq k9=>by
      simp only at hq;by_cases e:q=k
      · subst e;exact hbd
      · exact h1 q ah k9),hF,hT,hl,hz,hs0⟩ aJ)
  have hki:k=i:=by omega
  refine aI 7 ?_ [7];refine kp (aH 0 rfl rfl (aH 1 rfl rfl (aH 2 rfl rfl (aH 7 rfl (eq_int aF) (aR _))))) (bV (i+1,de) _ ⟨aJ,(λq hq k9=>by
     simp only at hq;by_cases e:q=i
     · subst e;rw[List.any_eq_false];intro x hx;obtain⟨j,hj,rfl⟩:=List.mem_take_iff_getElem.1 hx;rw[h1 j ah ah];simp
     · exact h0 q ah k9),hF,hT,hl,hz,hs0⟩ aJ)
 have hil:i=s.length:=by omega
 refine aG 3 ?_ [11];have qG:=RP (λq hq=>h0 q ah hq);refine aj 2 ?_;refine bZ Tryz.call181 (U9 hF hl hs0 (RO (HX.1 qG)) hlen) ?_;rintro mP ez ⟨rfl,aB⟩;refine ay 2 ?_;refine bI Tryz.func149 ?_;replace hT:=hT.t aB;exact⟨by unfold nU;rw[qG,decide_eq_true x7];rfl,hT.bN ai⟩
namespace abH
def c0:=cw Tryz.f55
def qa:=(cl (aC (cl (aC (aC c0)))))
def Oc:=(aC (cl (cl (aC (cl qa)))))
def uH:=(cl (cl (aC (cl (cl Oc)))))
def Ui:=di (cl uH)
end abH
theorem Od {w₀:World} {C:Nat->Nat} {l:List aD} {ps:List (List ak)} {aK bX:Value} (hF:aL w₀ C) (hl:av w₀ (au C) l aK) (hp:av w₀ (au C) ps bX):Calls Tryz.prog 55 #[aK,bX] w₀ (bH λv w'=>v=.int .i64 (IntKind.i64.wrap (e9 l ps))/\ax [] w₀ C w' C):=by
 have bq:=hF;have hT:=z9 w₀ C;replace hF:=hF.bk;replace hl:=hl.c1;replace hp:=hp.c1;refine cg Tryz.func55 ?_;refine aI 14 ?_ [1,1,1];refine cH (ι:=Nat×(Nat->Nat)) (I:=λx w=>x.1<=l.length/\aL w x.2/\ax [2,3,4,5,6,7,8,9] w₀ (bk C) w x.2/\av w (au x.2) l aK/\av w (au x.2) ps bX) (e:=λx=>[(0,aK),(1,bX),(5,.int .i64 (IntKind.i64.wrap (e9 (l.take x.1) ps))),(6,.int .i64 x.1)]) (m:=λx=>l.length-x.1) (cC:=(0,bk C)) (af 0 (af 1 (aH 5 rfl (eq_int (by simp[e9];rfl)) (af 6 (aR _))))) ?_ ?_
 · exact⟨Nat.zero_le _,hF,hT,hl,hp⟩
 intro⟨i,a_⟩ w1 hI bV;obtain⟨hi,hF,hT,hl,hp⟩:=hI;try simp only at hi hF hT hl hp
 show Run _ _ _ _ [(0,aK),(1,bX),(5,.int .i64 (IntKind.i64.wrap (e9 (l.take i) ps))),(6,.int .i64 i)] _ _;have hle:=hl.le;refine aG 5 ?_ [15];refine dE hl.ln ?_;refine ay 2 ?_;refine bF 11 rfl (λkQ=>?_) (λkQ=>?_)
 ·
  have hil:i<l.length:=by omega
  have x8:=LI hil ps;refine aI 8 ?_ [1];refine cH (ι:=Nat×(Nat->Nat)) (I:=λx w=>x.1<=ps.length/\(∀q (hq:q<x.1) (hl:q<ps.length),s9 (l[i]'hil) ps[q]=false)/\aL w x.2/\ax [2,3,4,5,6,7,8,9] w₀ (bk C) w x.2/\av w (au x.2) l aK/\av w (au x.2) ps bX) (e:=λx=>[(0,aK),(1,bX),(5,.int .i64 (IntKind.i64.wrap (e9 (l.take i) ps))),(6,.int .i64 i),(7,.int .i64 x.1)]) (m:=λx=>ps.length-x.1) (cC:=(0,a_)) (af 0 (af 1 (af 5 (af 6 (af 7 (aR _)))))) ?_ ?_
  · exact⟨Nat.zero_le _,λq hq=>by simp only at hq;omega,hF,hT,hl,hp⟩
  intro⟨k,de⟩ w2 hI ei;obtain⟨hk,h0,hF,hT,hl,hp⟩:=hI;try simp only at hk h0 hF hT hl hp
  show Run _ _ _ _ [(0,aK),(1,bX),(5,.int .i64 (IntKind.i64.wrap (e9 (l.take i) ps))),(6,.int .i64 i),(7,.int .i64 k)] _ _;have hle:=hl.le;have ahn:=hp.le;refine aG 5 ?_ [15];refine dE hp.ln ?_;refine ay 2 ?_;refine bF 17 rfl (λfF=>?_) (λfF=>?_)
  ·
   have aA:k<ps.length:=by omega
   refine aI 4 ?_;by_cases hA: (l[i]'hil).A∈(ps[k]'aA)
   ·
    by_cases hB: (l[i]'hil).B∈(ps[k]'aA)
    ·
     refine cm [] (de) [1,3,5,7,9,11,13,15,17,18,21,23,25,27,29,31,33,35,37,39,41,42,45,47] b5 ?_;intro w3 s_1;have hR:=ax.refl [] w3 (de);replace hl:=hl.t s_1;have jl:=hl;replace hp:=hp.t s_1;have kT:=hp;refine aj 2 ?_;refine bn kT ?_;intro _ JG JH iM;refine fU iM ?_;intro v23 g23;have Va:=g23;replace g23:=g23.st hR (by first|decide|(simp<;>omega));refine aj 2 ?_;refine bn jl ?_;intro _ iN xK nV;have j7:=bJ.jr nV;refine aj 1 ?_ [0];refine ck j7 ?_;intro v28 mj;have Vb:=mj;replace mj:=mj.st hR (by first|decide|(simp<;>omega));obtain rfl:=bR.1 mj;replace hF:=hF.st s_1;refine dC Tryz.call29 (iQ (c:=(l[i]'hil).A) hF g23) ?_;rintro j4 w4 ⟨rfl,s_2⟩;refine⟨(hR.trans s_2 aF).ext,?_⟩;refine dT (nY hA) ?_;refine aj 3 ?_;refine bn kT ?_;intro _ Vc Vd mR;refine fU mR ?_;intro v35 kS;have abI:=kS;replace hR:=hR.t s_2;replace kS:=kS.st hR (by first|decide|(simp<;>omega));refine aj 2 ?_;refine bn jl ?_;intro _ zm Sc uw;have k6:=bJ.mJ uw;refine aj 1 ?_ [2];refine ck k6 ?_;intro v40 gK;have BS:=gK;replace gK:=gK.st hR (by first|decide|(simp<;>omega));obtain rfl:=bR.1 gK;replace hF:=hF.st s_2;refine dC Tryz.call29 (iQ (c:=(l[i]'hil).B) hF kS) ?_;rintro mP ez ⟨rfl,aB⟩;refine⟨(hR.trans aB aF).ext,?_⟩;refine dT (nY hB) ?_;refine bQ 5 ?_ [223];rw[if_pos (List.any_eq_true.2 ⟨_,List.getElem_mem aA,decide_eq_true ⟨hA,hB⟩⟩)] at x8;refine aj 3 ?_;replace hl:=(hl.t s_2).t aB;refine bn hl ?_;intro _ FF FG uF;have h48:=bJ.gA uF;refine aj 1 ?_ [4];refine iF h48 ?_;intro v49 uM;first|(obtain rfl:=kG.1 uM)|(obtain rfl:=jc.1 uM)
     refine bK (λ_=>gV (val_add rfl rfl) (congrArg (Value.int .i64) (S7 _ _))) ?_;refine ay 9 ?_ [7];replace hT:=((hT.t s_1).t s_2).t aB;replace hp:=(hp.t s_2).t aB;replace hF:=hF.st aB;refine kp (af 0 (af 1 (aH 5 rfl (eq_int (by simp only;rw[x8])) (aH 6 rfl (eq_int aF) (aR _))))) (bV (i+1,de) _ ⟨aJ,hF,hT,hl,hp⟩ aJ)
    refine cm [] (de) [1,3,5,7,9,11,13,15,17,18,21,23,25,27,29,31,33,35,37,39,41,42,45,47] b5 ?_;intro fE aM;have hR:=ax.refl [] fE (de);replace hl:=hl.t aM;have jl:=hl;replace hp:=hp.t aM;have kT:=hp;refine aj 2 ?_;refine bn kT ?_;intro _ JG JH iM;refine fU iM ?_;intro v23 g23;have Va:=g23;replace g23:=g23.st hR (by first|decide|(simp<;>omega));refine aj 2 ?_;refine bn jl ?_;intro _ iN xK nV;have j7:=bJ.jr nV;refine aj 1 ?_ [0];refine ck j7 ?_;intro v28 mj;have Vb:=mj;replace mj:=mj.st hR (by first|decide|(simp<;>omega));obtain rfl:=bR.1 mj;replace hF:=hF.st aM;refine dC Tryz.call29 (iQ (c:=(l[i]'hil).A) hF g23) ?_;rintro mE w7 ⟨rfl,aV⟩;refine⟨(hR.trans aV aF).ext,?_⟩;refine dT (nY hA) ?_;refine aj 3 ?_;refine bn kT ?_;intro _ Vc Vd mR;refine fU mR ?_;intro v35 kS;have abI:=kS;replace hR:=hR.t aV;replace kS:=kS.st hR (by first|decide|(simp<;>omega));refine aj 2 ?_;refine bn jl ?_;intro _ zm Sc uw;have k6:=bJ.mJ uw;refine aj 1 ?_ [2];refine ck k6 ?_;intro v40 gK;have BS:=gK;replace gK:=gK.st hR (by first|decide|(simp<;>omega));obtain rfl:=bR.1 gK;replace hF:=hF.st aV;refine dC Tryz.call29 (iQ (c:=(l[i]'hil).B) hF kS) ?_;rintro wF fR ⟨rfl,aX⟩;refine⟨(hR.trans aX aF).ext,?_⟩;refine ey (qK hB) ?_;refine ay 10 ?_ [7];replace hT:=((hT.t aM).t aV).t aX;replace hl:=(hl.t aV).t aX;replace hp:=(hp.t aV).t aX;replace hF:=hF.st aX;refine kp (aH 0 rfl rfl (aH 1 rfl rfl (aH 5 rfl rfl (aH 6 rfl rfl (aH 7 rfl (eq_int aF) (aR _)))))) (ei (k+1,de) _ ⟨aJ,(λq hq k9=>by
       simp only at hq;by_cases e:q=k
       · subst e;exact decide_eq_false (λe=>by first|exact hB e.2|exact hA e.1)
       · exact h0 q ah k9),hF,hT,hl,hp⟩ aJ)
   refine cm [] (de) [1,3,5,7,9,11,13,15,17,18,21,23,25,27,29,31,33,35,37,39,41,42,45,47] b5 ?_;intro gE bp;have hR:=ax.refl [] gE (de);replace hl:=hl.t bp;have jl:=hl;replace hp:=hp.t bp;have kT:=hp;refine aj 2 ?_;refine bn kT ?_;intro _ JG JH iM;refine fU iM ?_;intro v23 g23;have Va:=g23;replace g23:=g23.st hR (by first|decide|(simp<;>omega));refine aj 2 ?_;refine bn jl ?_;intro _ iN xK nV;have j7:=bJ.jr nV;refine aj 1 ?_ [0];refine ck j7 ?_;intro v28 mj;have Vb:=mj;replace mj:=mj.st hR (by first|decide|(simp<;>omega));obtain rfl:=bR.1 mj;replace hF:=hF.st bp;refine dC Tryz.call29 (iQ (c:=(l[i]'hil).A) hF g23) ?_;rintro uz iI ⟨rfl,bt⟩;refine⟨(hR.trans bt aF).ext,?_⟩;refine ey (qK hA) ?_;refine aj 10 ?_;replace hR:=hR.t bt;refine ay 12 ?_ [7];replace hT:=(hT.t bp).t bt;replace hF:=hF.st bt;replace hl:=hl.t bt;replace hp:=hp.t bt;refine kp (aH 0 rfl rfl (aH 1 rfl rfl (aH 5 rfl rfl (aH 6 rfl rfl (aH 7 rfl (eq_int aF) (aR _)))))) (ei (k+1,de) _ ⟨aJ,(λq hq k9=>by
      simp only at hq;by_cases e:q=k
      · subst e;exact decide_eq_false (λe=>by first|exact hB e.2|exact hA e.1)
      · exact h0 q ah k9),hF,hT,hl,hp⟩ aJ)
  have aA:k=ps.length:=by omega
  rw[if_neg (by rw[Bool.not_eq_true,List.any_eq_false];intro x hx;obtain⟨q,hq,rfl⟩:=List.getElem_of_mem hx;rw[h0 q ah hq];simp)] at x8;refine aI 7 ?_ [7];refine kp (af 0 (af 1 (aH 5 rfl (eq_int (by simp only;rw[x8])) (aH 6 rfl (eq_int aF) (aR _))))) (bV (i+1,de) _ ⟨aJ,hF,hT,hl,hp⟩ aJ)
 have hil:i=l.length:=by omega
 refine aI 6 ?_ [3];refine bI Tryz.func55 ?_;exact⟨by rw[hil,CY],hT.bN ai⟩
end
end Go.Proofs.YtmdhggfehknjjaaGreat
namespace Go.Proofs.YtmdhggfehknjjaaGreat
open Go.K Go.K.aZ
noncomputable section
namespace abJ
def c0:=cw Tryz.f182
end abJ
theorem DR {w₀:World} {C:Nat->Nat} {rows:List (List ak)} {bX:Value} (hF:aL w₀ C) (hp:av w₀ (au C) rows bX) (d_:∀r∈rows,r.length<=1000000) (fc:rows.length<=1000000):Calls Tryz.prog 182 #[bX] w₀ (bH λv w'=>∃aQ,ax [] w₀ C w' aQ/\aL w' aQ/\∃us,bg w' aQ 6 52 v (us.map gC.mk)/\fI w' aQ 7 55 us rows):=by
 have bq:=hF;have hT:=ax.refl [6,7] w₀ (bk C);replace hF:=hF.bk;replace hp:=hp.c1;refine cg Tryz.func182 ?_;refine aI 14 ?_ [1,1,1];refine cH (ι:=Nat×(List Value)×Value×(Nat->Nat)) (I:=λx w=>x.1<=rows.length/\aL w x.2.2.2/\ax [6,7] w₀ (bk C) w x.2.2.2/\av w (au x.2.2.2) rows bX/\bg w x.2.2.2 6 52 x.2.2.1 (x.2.1.map gC.mk)/\fI w x.2.2.2 7 55 x.2.1 (rows.take x.1)) (e:=λx=>[(0,bX),(3,x.2.2.1),(4,.int .i64 x.1)]) (m:=λx=>rows.length-x.1) (cC:=(0,[],.slice none 0 0,bk C)) (af 0 (af 3 (af 4 (aR _)))) ?_ ?_
 · exact⟨Nat.zero_le _,hF,hT,hp,bg.nil,by rw[List.take_zero];exact fI.nil⟩
 intro⟨i,us,cM,a_⟩ w1 hI bV;obtain⟨hi,hF,hT,hp,ho,hr⟩:=hI;try simp only at hi hF hT hp ho hr
 show Run _ _ _ _ [(0,bX),(3,cM),(4,.int .i64 i)] _ _;have hle:=hp.le;have wL:=hr.len;have r6: (rows.take i).length=i:=by rw[List.length_take];omega
 refine aG 5 ?_ [15];refine dE hp.ln ?_;refine ay 2 ?_;refine bF 8 rfl (λh8=>?_) (λh8=>?_)
 ·
  have hil:i<rows.length:=by omega
  have hrb:=d_ _ (List.getElem_mem hil);refine aG 7 ?_ [271];refine bn hp ?_;intro _ gT qI fJ;refine iF fJ ?_;intro vU g15;have hlt:=hr.lt;refine bD (Iv (j:=7) (e:=55) (bytes:=16) hF ai rfl rfl aq ai g15 ah ah) ?_;rintro qW w2 ⟨dm,s_1,Oe,hF,hfr⟩;have hone:=Oe.one.2;replace hr:=hr.u s_1;replace hr:=hr.snoc ai Oe (hr.fresh hfr hlt);rw[<-List.take_succ_eq_append_getElem hil] at hr;clear hlt hfr Oe;refine bD (fk (ys:=([⟨qW⟩]:List gC)) (e:=52) (bytes:=24) hF aq rfl ai ai ⟨rfl,⟨_,rfl,lY.2 ⟨rfl,hone⟩⟩,trivial⟩) ?_;rintro v17 w3 ⟨s_2,g17,hF⟩;replace ho:=(ho.t s_1).t s_2;refine bD (eY (e:=52) (bytes:=24) hF ai rfl rfl aq ai ho g17 GO GO) ?_;rintro qh w4 ⟨gR,aB,ho,hF⟩;refine ay 2 ?_;rw[show us.map gC.mk++[⟨qW⟩]=(us++[qW]).map gC.mk from by simp] at ho;refine aI 6 ?_ [7];replace hT:=((hT.t s_1).t s_2).t aB;replace hp:=((hp.t s_1).t s_2).t aB;replace hr:=(hr.u s_2).u aB;refine kp (af 0 (af 3 (aH 4 rfl (eq_int aF) (aR _)))) (bV (i+1,us++[qW],qh,gR) _ ⟨aJ,hF,hT,hp,ho,hr⟩ aJ)
 have hil:i=rows.length:=by omega
 rw[hil,List.take_length] at hr;refine aI 6 ?_ [3];refine bI Tryz.func182 ?_;exact⟨_,hT.ql,hT.e3 bq hF,us,ho.ql hT bq ai,hr.ql hT bq ai⟩
end
end Go.Proofs.YtmdhggfehknjjaaGreat
