/- Steps through functions of the program. -/
import Derived.Test.YtmdhggfehknjjaaGreatJM3M4
import Derived.Test.YtmdhggfehknjjaaGreatJN5M2
set_option maxRecDepth 100000
set_option maxHeartbeats 4000000
namespace Go.Proofs.YtmdhggfehknjjaaGreat
open Go.K Go.K.bn
noncomputable section
namespace vM
def c0:=qQ Tryz.f66
def Yn:=(b7 (b7 (b7 (b7 (b7 c0)))))
def Qa:=(cl (b7 (cl (b7 (b7 Yn)))))
def Qb:=(b7 (cl (cl (b7 (cl Qa)))))
def Qc:=(cl (cl (b7 (cl (cl Qb)))))
def Yo:=(cl (b7 (cl (cl (b7 Qc)))))
def Qd:=(b7 (cl (cl (b7 (cl Yo)))))
def yO:=nD (cl (cl (cl Qd)))
def ac_:=(b7 (b7 (cl (cl (b7 Qc)))))
end vM
theorem ada {w₀:World} {C:Nat->Nat} {pr:Int} {aJ df:List Int} {bz vd:Value} {bK:List Int} {e8:Value} {kk:Int} {bR:Nat} {sh:List (List dP)} {aC:Value} (hF:aF w₀ C) (hW:mg pr aJ df) (ha:aq w₀ (aj C) aJ bz) (hd:aq w₀ (aj C) df vd) (ht:aq w₀ (aj C) bK e8) (hl:aq w₀ (aj C) sh aC) (gF:q_ aJ.length bR sh):Calls Tryz.prog 66 #[.agg #[.int .i64 pr,bz,vd],e8,.int .i64 kk,aC] w₀ (aZ λv w'=>∃u,v=.tuple #[u,.int .i64 (iy aJ.length bK kk bR sh)]/\av [] w₀ C w' C/\aq w' (aj C) (Fq ⟨pr,aJ,df,bK⟩ kk bR sh) u):=by
 have aO:=hF;replace hF:=hF.aI;replace ha:=ha.c1;replace hd:=hd.c1;replace ht:=ht.c1;replace hl:=hl.c1;refine bG Tryz.func66 ?_;refine aA 2 ?_ [6];refine aR (cu (cs:=[.int .i64 pr,bz,vd]) hF 3 rfl rfl) ?_;rintro _ w1 ⟨cm,bq,rfl,s_1,hw,hF⟩;refine bh 6 ?_ [4];refine bF 3 ([.int .i64 pr,bz,vd]) hw.at_ ?_;refine bD Tryz.call112 (Yh hF hW ha.mv hd.mv) ?_;rintro fP w2 ⟨rfl,s_2⟩;refine bh 5 ?_ [3];refine aP (λ_=>dR (jQ rfl rfl) ak) ?_;refine bh 7 ?_ [55];refine dE ht.mv.ln ?_;refine ah 1 ?_ [1];refine aX hw.mv.at_ ?_;refine dE ha.mv.ln ?_;refine ax 2 ?_;refine a_ 37 rfl (λgK=>?_) (λgK=>?_)
 ·
  have hE:iy aJ.length bK kk bR sh=8:=Xi af;refine aB 5 ?_ [3];refine jo ai Tryz.func66 Tryz.results66 rfl rfl ?_;have DX:iy aJ.length bK kk bR sh≠0:=by rw[hE];decide
  exact⟨_,by rw[hE],(z9 w₀ C).o1,by rw[HU (m:=⟨pr,aJ,df,bK⟩) DX];exact eT⟩
 have jD:bK.length=aJ.length:=by omega
 refine aB 7 ?_ [1];refine cg (ι:=Nat×(Nat->Nat)) (λx w=>x.1<=bK.length/\(∀j (h:j<bK.length),j<x.1->0<=bK[j]/\bK[j]<=1000)/\aF w x.2/\av [2,3,4,5,6,7,8,9] w₀ (aI C) w x.2/\aq w (aj x.2) aJ bz/\aq w (aj x.2) df vd/\aq w (aj x.2) bK e8/\aq w (aj x.2) sh aC/\bS w x.2 3 bq (.cells [.int .i64 pr,bz,vd].toArray 65)) (λx=>[(1,e8),(2,.int .i64 kk),(3,aC),(4,.pointer (some ⟨bq,0,none⟩)),(11,.int .i64 x.1)]) (λx=>bK.length-x.1) (0,cm) ?_ ?_
 · exact⟨Nat.zero_le _,(λj h hj=>absurd hj b_),hF.mv,(z9 w₀ C).mv,ha.mv,hd.mv,ht.mv,hl.mv,hw.mv⟩
 intro⟨i,aK⟩ w3 hI bu;obtain⟨hi,h0,hF,hT,ha,hd,ht,hl,hw⟩:=hI;try simp only at hi h0 hF hT ha hd ht hl hw
 show Run _ _ _ _ [(1,e8),(2,.int .i64 kk),(3,aC),(4,.pointer (some ⟨bq,0,none⟩)),(11,.int .i64 i)] _ _;have hle:=ht.le;refine aA 5 ?_ [15];refine dE ht.ln ?_;refine ax 2 ?_;refine a_ 41 rfl (λkZ=>?_) (λkZ=>?_)
 ·
  have hil:i<bK.length:=by omega
  refine aB 4 ?_;by_cases hA:bK[i]'hil<0
  ·
   refine aA 3 ?_ [3575];refine aL ht ?_;intro _ Hu Hv h46;refine dW h46 ?_;intro yc ni;first|(obtain rfl:=dJ.1 ni)|(obtain rfl:=cO.1 ni)
   refine dT hA ?_;refine bh 11 ?_ [3];have hE:iy aJ.length bK kk bR sh=2:=Xj jD hil af;refine ax 3 ?_;refine jo ai Tryz.func66 Tryz.results66 rfl rfl ?_;have DX:iy aJ.length bK kk bR sh≠0:=by rw[hE];decide
   exact⟨_,by rw[hE],hT.o1,by rw[HU (m:=⟨pr,aJ,df,bK⟩) DX];exact eT⟩
  by_cases hB:1000<bK[i]'hil
  ·
   refine aA 3 ?_ [3575];refine aL ht ?_;intro _ Hu Hv h46;refine dW h46 ?_;intro yc ni;first|(obtain rfl:=dJ.1 ni)|(obtain rfl:=cO.1 ni)
   refine cL hA ?_;refine ah 3 ?_;refine aL ht ?_;intro _ DT DU ko;refine dW ko ?_;intro v53 j3;first|(obtain rfl:=dJ.1 j3)|(obtain rfl:=cO.1 j3)
   refine dT hB ?_;refine bh 5 ?_ [3];have hE:iy aJ.length bK kk bR sh=2:=Xj jD hil af;refine ax 3 ?_;refine jo ai Tryz.func66 Tryz.results66 rfl rfl ?_;have DX:iy aJ.length bK kk bR sh≠0:=by rw[hE];decide
   exact⟨_,by rw[hE],hT.o1,by rw[HU (m:=⟨pr,aJ,df,bK⟩) DX];exact eT⟩
  refine aA 3 ?_ [3575];refine aL ht ?_;intro _ Hu Hv h46;refine dW h46 ?_;intro yc ni;first|(obtain rfl:=dJ.1 ni)|(obtain rfl:=cO.1 ni)
  refine cL hA ?_;refine ah 3 ?_;refine aL ht ?_;intro _ DT DU ko;refine dW ko ?_;intro v53 j3;first|(obtain rfl:=dJ.1 j3)|(obtain rfl:=cO.1 j3)
  refine cL hB ?_;refine ax 10 ?_ [7];refine bC (bu (i+1,aK) _ ⟨aD,(λj h hj=>by
        try simp only at hj
        by_cases e:j=i
        ·subst e;omega
        ·exact h0 j h af),hF,hT,ha,hd,ht,hl,hw⟩ aD)
 have hil:i=bK.length:=by omega
 have rG:=abn (λj h=>h0 j h af);refine aA 5 ?_ [7];refine dE hl.ln ?_;refine kV (λw' hS=>dR (jr rfl rfl) (by have:=gF.len;omega)) ?_;refine ax 9 ?_ [1];refine cg (ι:=Nat×(Nat->Nat)) (λx w=>x.1<=sh.length/\(∀j,j<x.1->mA kk bR (kP sh j)=0)/\aF w x.2/\av [2,3,4,5,6,7,8,9] w₀ (aI C) w x.2/\aq w (aj x.2) aJ bz/\aq w (aj x.2) df vd/\aq w (aj x.2) bK e8/\aq w (aj x.2) sh aC/\bS w x.2 3 bq (.cells [.int .i64 pr,bz,vd].toArray 65)) (λx=>[(1,e8),(2,.int .i64 kk),(3,aC),(4,.pointer (some ⟨bq,0,none⟩)),(12,.int .i64 x.1)]) (λx=>sh.length-x.1) (0,aK) ?_ ?_
 · exact⟨Nat.zero_le _,(λj hj=>absurd hj b_),hF,hT,ha,hd,ht,hl,hw⟩
 intro⟨i,dm⟩ w4 hI eD;obtain⟨hi,h0,hF,hT,ha,hd,ht,hl,hw⟩:=hI;try simp only at hi h0 hF hT ha hd ht hl hw
 show Run _ _ _ _ [(1,e8),(2,.int .i64 kk),(3,aC),(4,.pointer (some ⟨bq,0,none⟩)),(12,.int .i64 i)] _ _;have hle:=hl.le;refine aA 5 ?_ [15];refine dE hl.ln ?_;refine ax 2 ?_;refine a_ 62 rfl (λAv=>?_) (λAv=>?_)
 ·
  have hil:i<sh.length:=by omega
  refine aB 4 ?_;refine bX [] (dm) [1,3,5,7,9,11,13,15,16,19] bP ?_;intro dc cq;refine ah 1 ?_ [1];refine di hw.mv.sz ?_;refine dE ha.mv.ln ?_;refine ah 3 ?_;refine aL hl.mv ?_;intro _ Yp Yq Iq;refine ew Iq ?_;intro v72 Qe;refine dC Tryz.call113 (ac4 (nf:=aJ.length) (bR:=bR) (k:=kk) hF.mv Qe (gF.all _ (List.getElem_mem hil)) hW.l1 hW.qt) ?_;rintro lz ei ⟨rfl,cI⟩;rw[show mA kk bR (sh[i]'hil)=mA kk bR (kP sh i) from by rw[show kP sh i=sh[i]'hil from lK hil]];refine⟨aW,?_⟩;refine ax 7 ?_ [3];refine a_ 75 rfl (λyP=>?_) (λyP=>?_)
  ·
   have hE:iy aJ.length bK kk bR sh=mA kk bR (kP sh i):=(Lp jD rG).trans (HG (f:=(λi=>mA kk bR (kP sh i))) h0 yP hil);refine aB 6 ?_ [7];refine jo ai Tryz.func66 Tryz.results66 rfl rfl ?_;have DX:iy aJ.length bK kk bR sh≠0:=by rw[hE];exact yP
   exact⟨_,by rw[hE],hT.o1,by rw[HU (m:=⟨pr,aJ,df,bK⟩) DX];exact eT⟩
  have xT:mA kk bR (kP sh i)=0:=Classical.not_not.1 yP;refine aB 7 ?_ [7];refine bC (eD (i+1,dm) _ ⟨aD,(λj hj=>by
        try simp only at hj
        by_cases e:j=i
        ·subst e;exact xT
        ·exact h0 j af),hF.mv,hT.mv,ha.mv,hd.mv,ht.mv,hl.mv,hw.mv⟩ aD)
 have hil:i=sh.length:=by omega
 have hE:iy aJ.length bK kk bR sh=0:=(Lp jD rG).trans (BL (λj hj=>h0 j af));refine aB 11 ?_ [1,1];refine cg (ι:=Nat×Value×(Nat->Nat)) (λx w=>x.1<=sh.length/\aF w x.2.2/\av [2,3,4,5,6,7,8,9] w₀ (aI C) w x.2.2/\aq w (aj x.2.2) aJ bz/\aq w (aj x.2.2) df vd/\aq w (aj x.2.2) bK e8/\aq w (aj x.2.2) sh aC/\bS w x.2.2 3 bq (.cells [.int .i64 pr,bz,vd].toArray 65)/\aQ w x.2.2 4 156 x.2.1 (ja ⟨pr,aJ,df,bK⟩ sh x.1)) (λx=>[(1,e8),(3,aC),(4,.pointer (some ⟨bq,0,none⟩)),(14,x.2.1),(15,.int .i64 x.1)]) (λx=>sh.length-x.1) (0,.slice none 0 0,dm) ?_ ?_
 · exact⟨Nat.zero_le _,hF,hT,ha,hd,ht,hl,hw,aQ.nil⟩
 intro⟨r,ct,k5⟩ w7 hI kJ;obtain⟨hr,hF,hT,ha,hd,ht,hl,hw,ho⟩:=hI;try simp only at hr hF hT ha hd ht hl hw ho
 show Run _ _ _ _ [(1,e8),(3,aC),(4,.pointer (some ⟨bq,0,none⟩)),(14,ct),(15,.int .i64 r)] _ _;have hle:=hl.le;have hcb:=KG (m:=⟨pr,aJ,df,bK⟩) gF r;have hsl:=gF.len;refine aA 5 ?_ [15];refine dE hl.ln ?_;refine ax 2 ?_;refine a_ 80 rfl (λxe=>?_) (λxe=>?_)
 ·
  have hrl:r<sh.length:=by omega
  have kE:=gF.all _ (List.getElem_mem hrl);have lF:=kE.len;refine aB 8 ?_ [1];refine cg (ι:=Nat×Value×(Nat->Nat)) (λx w=>x.1<=(sh[r]'hrl).length/\aF w x.2.2/\av [2,3,4,5,6,7,8,9] w₀ (aI C) w x.2.2/\aq w (aj x.2.2) aJ bz/\aq w (aj x.2.2) df vd/\aq w (aj x.2.2) bK e8/\aq w (aj x.2.2) sh aC/\bS w x.2.2 3 bq (.cells [.int .i64 pr,bz,vd].toArray 65)/\aQ w x.2.2 4 156 x.2.1 (ja ⟨pr,aJ,df,bK⟩ sh r++m_ ⟨pr,aJ,df,bK⟩ sh r ((sh[r]'hrl).take x.1))) (λx=>[(1,e8),(3,aC),(4,.pointer (some ⟨bq,0,none⟩)),(14,x.2.1),(15,.int .i64 r),(16,.int .i64 x.1)]) (λx=>(sh[r]'hrl).length-x.1) (0,ct,k5) ?_ ?_
  · exact⟨Nat.zero_le _,hF,hT,ha,hd,ht,hl,hw,by simpa[m_] using ho⟩
  intro⟨i,ct,ur⟩ fk hI pg;obtain⟨hi,hF,hT,ha,hd,ht,hl,hw,ho⟩:=hI;try simp only at hi hF hT ha hd ht hl hw ho
  show Run _ _ _ _ [(1,e8),(3,aC),(4,.pointer (some ⟨bq,0,none⟩)),(14,ct),(15,.int .i64 r),(16,.int .i64 i)] _ _;have Ew:=Od (m:=⟨pr,aJ,df,bK⟩) (r:=r) (l:=(sh[r]'hrl).take i) gF;have adb: ((sh[r]'hrl).take i).length<=4:=by rw[List.length_take];omega
  refine aA 6 ?_ [111];refine aL hl ?_;intro _ aj6 aj7 Qf;refine dW Qf ?_;intro v87 ade;refine dE ade.ln ?_;refine ax 2 ?_;refine a_ 89 rfl (λadf=>?_) (λadf=>?_)
  ·
   have hil:i<(sh[r]'hrl).length:=by omega
   have hx0:=kE.all _ (List.getElem_mem hil);refine aB 10 ?_ [7];refine cg (ι:=Nat×Value×(Nat->Nat)) (λx w=>r+1+x.1<=sh.length/\aF w x.2.2/\av [2,3,4,5,6,7,8,9] w₀ (aI C) w x.2.2/\aq w (aj x.2.2) aJ bz/\aq w (aj x.2.2) df vd/\aq w (aj x.2.2) bK e8/\aq w (aj x.2.2) sh aC/\bS w x.2.2 3 bq (.cells [.int .i64 pr,bz,vd].toArray 65)/\aQ w x.2.2 4 156 x.2.1 (ja ⟨pr,aJ,df,bK⟩ sh r++m_ ⟨pr,aJ,df,bK⟩ sh r ((sh[r]'hrl).take i)++od ⟨pr,aJ,df,bK⟩ sh r ((sh[r]'hrl)[i]'hil) x.1)) (λx=>[(1,e8),(3,aC),(4,.pointer (some ⟨bq,0,none⟩)),(14,x.2.1),(15,.int .i64 r),(16,.int .i64 i),(17,.int .i64 ((r+1+x.1:Nat):Int))]) (λx=>sh.length-x.1) (0,ct,ur) ?_ ?_
   · exact⟨by simp only;omega,hF,hT,ha,hd,ht,hl,hw,by simpa[od] using ho⟩
   intro⟨q,ct,yQ⟩ fJ hI yR;obtain⟨hq,hF,hT,ha,hd,ht,hl,hw,ho⟩:=hI;try simp only at hq hF hT ha hd ht hl hw ho
   show Run _ _ _ _ [(1,e8),(3,aC),(4,.pointer (some ⟨bq,0,none⟩)),(14,ct),(15,.int .i64 r),(16,.int .i64 i),(17,.int .i64 ((r+1+q:Nat):Int))] _ _;have hrb:=Oc (m:=⟨pr,aJ,df,bK⟩) (r:=r) (x:=((sh[r]'hrl)[i]'hil)) gF q;refine aA 5 ?_ [15];refine dE hl.ln ?_;refine ax 2 ?_;refine a_ 97 rfl (λQg=>?_) (λQg=>?_)
   ·
    have cD:r+1+q<sh.length:=by omega
    have DY:=gF.all _ (List.getElem_mem cD);have adg:=DY.len;refine aB 8 ?_ [1];refine cg (ι:=Nat×Value×(Nat->Nat)) (λx w=>x.1<=(sh[r+1+q]'cD).length/\aF w x.2.2/\av [2,3,4,5,6,7,8,9] w₀ (aI C) w x.2.2/\aq w (aj x.2.2) aJ bz/\aq w (aj x.2.2) df vd/\aq w (aj x.2.2) bK e8/\aq w (aj x.2.2) sh aC/\bS w x.2.2 3 bq (.cells [.int .i64 pr,bz,vd].toArray 65)/\aQ w x.2.2 4 156 x.2.1 (ja ⟨pr,aJ,df,bK⟩ sh r++m_ ⟨pr,aJ,df,bK⟩ sh r ((sh[r]'hrl).take i)++od ⟨pr,aJ,df,bK⟩ sh r ((sh[r]'hrl)[i]'hil) q++oc ⟨pr,aJ,df,bK⟩ r (r+1+q) ((sh[r]'hrl)[i]'hil) ((sh[r+1+q]'cD).take x.1))) (λx=>[(1,e8),(3,aC),(4,.pointer (some ⟨bq,0,none⟩)),(14,x.2.1),(15,.int .i64 r),(16,.int .i64 i),(17,.int .i64 ((r+1+q:Nat):Int)),(18,.int .i64 x.1)]) (λx=>(sh[r+1+q]'cD).length-x.1) (0,ct,yQ) ?_ ?_
    · exact⟨Nat.zero_le _,hF,hT,ha,hd,ht,hl,hw,by simpa[oc] using ho⟩
    intro⟨j,ct,FL⟩ gn hI LM;obtain⟨hj,hF,hT,ha,hd,ht,hl,hw,ho⟩:=hI;try simp only at hj hF hT ha hd ht hl hw ho
    show Run _ _ _ _ [(1,e8),(3,aC),(4,.pointer (some ⟨bq,0,none⟩)),(14,ct),(15,.int .i64 r),(16,.int .i64 i),(17,.int .i64 ((r+1+q:Nat):Int)),(18,.int .i64 j)] _ _;have Ip:=Oa (m:=⟨pr,aJ,df,bK⟩) (r:=r) (s:=r+1+q) (x:=((sh[r]'hrl)[i]'hil)) (l:=(sh[r+1+q]'cD).take j);have adh: ((sh[r+1+q]'cD).take j).length<=4:=by rw[List.length_take];omega
    have CU: (ja ⟨pr,aJ,df,bK⟩ sh r++m_ ⟨pr,aJ,df,bK⟩ sh r ((sh[r]'hrl).take i)++od ⟨pr,aJ,df,bK⟩ sh r ((sh[r]'hrl)[i]'hil) q++oc ⟨pr,aJ,df,bK⟩ r (r+1+q) ((sh[r]'hrl)[i]'hil) ((sh[r+1+q]'cD).take j)).length<=4000:=by simp only[List.length_append];omega
    refine aA 6 ?_ [111];refine aL hl ?_;intro _ aj8 aj9 Ir;refine dW Ir ?_;intro aj_ Yr;refine dE Yr.ln ?_;refine ax 2 ?_;refine a_ 106 rfl (λadi=>?_) (λadi=>?_)
    ·
     have hjl:j<(sh[r+1+q]'cD).length:=by omega
     have hy0:=DY.all _ (List.getElem_mem hjl);have en:=U7 (m:=⟨pr,aJ,df,bK⟩) (r:=r) (s:=r+1+q) (x:=((sh[r]'hrl)[i]'hil)) hjl;refine aB 4 ?_
     refine GO (ι:=Nat×Nat×Value×Value×Value×Value×Value×Value×(Nat->Nat)) (k:=[.code (K.b7 (K.cl (K.cl vM.Qd))),.inBlock 11,.code (K.b7 vM.Qd),.inLoop (K.cl (K.cl (K.b7 (K.cl vM.Yo)))),.inBlock 10,.inBlock 9,.code vM.ac_,.inLoop (K.cl (K.cl (K.b7 vM.Qc))),.inBlock 8,.inBlock 7,.code (K.b7 (K.b7 (K.cl (K.cl vM.Qb)))),.inLoop (K.cl (K.cl vM.Qb)),.inBlock 6,.inBlock 5,.code (K.b7 (K.b7 (K.cl vM.Qa))),.inLoop (K.cl vM.Qa),.inBlock 4,.code (K.b7 (K.b7 (K.b7 vM.Yn)))]) (I:=λx w=>aF w x.2.2.2.2.2.2.2.2/\av [2,3,4,5,6,7,8,9] w₀ (aI C) w x.2.2.2.2.2.2.2.2/\aq w (aj x.2.2.2.2.2.2.2.2) aJ bz/\aq w (aj x.2.2.2.2.2.2.2.2) df vd/\aq w (aj x.2.2.2.2.2.2.2.2) bK e8/\aq w (aj x.2.2.2.2.2.2.2.2) sh aC/\bS w x.2.2.2.2.2.2.2.2 3 bq (.cells [.int .i64 pr,bz,vd].toArray 65)/\aq w (aj x.2.2.2.2.2.2.2.2) ((sh[r]'hrl)[i]'hil).rc.dy x.2.2.1/\aq w (aj x.2.2.2.2.2.2.2.2) ((sh[r]'hrl)[i]'hil).hs x.2.2.2.1/\aq w (aj x.2.2.2.2.2.2.2.2) ((sh[r]'hrl)[i]'hil).has x.2.2.2.2.1/\aq w (aj x.2.2.2.2.2.2.2.2) ((sh[r+1+q]'cD)[j]'hjl).rc.dy x.2.2.2.2.2.1/\aq w (aj x.2.2.2.2.2.2.2.2) ((sh[r+1+q]'cD)[j]'hjl).hs x.2.2.2.2.2.2.1/\aq w (aj x.2.2.2.2.2.2.2.2) ((sh[r+1+q]'cD)[j]'hjl).has x.2.2.2.2.2.2.2.1/\aQ w x.2.2.2.2.2.2.2.2 4 156 ct (ja ⟨pr,aJ,df,bK⟩ sh r++m_ ⟨pr,aJ,df,bK⟩ sh r ((sh[r]'hrl).take i)++od ⟨pr,aJ,df,bK⟩ sh r ((sh[r]'hrl)[i]'hil) q++oc ⟨pr,aJ,df,bK⟩ r (r+1+q) ((sh[r]'hrl)[i]'hil) ((sh[r+1+q]'cD).take j))/\bS w x.2.2.2.2.2.2.2.2 5 x.1 (.cells [.int .i64 ((sh[r]'hrl)[i]'hil).rc.id,.int .i64 ((sh[r]'hrl)[i]'hil).rc.ver,x.2.2.1,x.2.2.2.1,x.2.2.2.2.1].toArray 83)/\bS w x.2.2.2.2.2.2.2.2 7 x.2.1 (.cells [.int .i64 ((sh[r+1+q]'cD)[j]'hjl).rc.id,.int .i64 ((sh[r+1+q]'cD)[j]'hjl).rc.ver,x.2.2.2.2.2.1,x.2.2.2.2.2.2.1,x.2.2.2.2.2.2.2.1].toArray 83)) (e:=λx=>[(1,e8),(3,aC),(4,.pointer (some ⟨bq,0,none⟩)),(14,ct),(15,.int .i64 r),(16,.int .i64 i),(17,.int .i64 ((r+1+q:Nat):Int)),(18,.int .i64 j),(19,.pointer (some ⟨x.1,0,none⟩)),(20,.pointer (some ⟨x.2.1,0,none⟩))]) ?_ ?_
     ·
      intro⟨adj,adk,jk,pa,o_,ub,pb,xg,adl⟩ iK hI;obtain⟨hF,hT,ha,hd,ht,hl,hw,fla,kr,hba,flb,xh,t_,ho,bI,qJ⟩:=hI;try simp only at*
      show Run _ _ _ _ [(1,e8),(3,aC),(4,.pointer (some ⟨bq,0,none⟩)),(14,ct),(15,.int .i64 r),(16,.int .i64 i),(17,.int .i64 ((r+1+q:Nat):Int)),(18,.int .i64 j),(19,.pointer (some ⟨adj,0,none⟩)),(20,.pointer (some ⟨adk,0,none⟩))] _ _;refine aA 3 ?_ [8];refine bF 5 ([.int .i64 ((sh[r]'hrl)[i]'hil).rc.id,.int .i64 ((sh[r]'hrl)[i]'hil).rc.ver,jk,pa,o_]) bI.at_ ?_;refine bF 5 ([.int .i64 ((sh[r+1+q]'cD)[j]'hjl).rc.id,.int .i64 ((sh[r+1+q]'cD)[j]'hjl).rc.ver,ub,pb,xg]) qJ.at_ ?_;refine bD Tryz.call114 (ac7 (fe:=((sh[r]'hrl)[i]'hil)) (eG:=((sh[r+1+q]'cD)[j]'hjl)) (k:=bR) hF kr hba xh t_ hx0.hl hx0.ha hy0.hl hy0.ha) ?_;rintro yT iV ⟨rfl,de⟩;refine ax 2 ?_;refine f_ 126 rfl (λQh=>?_) (λQh=>?_)
      ·
       have wX:r6 ((sh[r]'hrl)[i]'hil) ((sh[r+1+q]'cD)[j]'hjl)=false:=by simpa using Qh
       rw[if_neg (by rw[wX];decide),List.append_nil] at en;refine aB 6 ?_ [7];refine bC (LM (j+1,ct,adl) _ ⟨aD,hF.mv,hT.mv,ha.mv,hd.mv,ht.mv,hl.mv,hw.mv,(by simp only;rw[en];exact ho.mv)⟩ aD)
      have wX:r6 ((sh[r]'hrl)[i]'hil) ((sh[r+1+q]'cD)[j]'hjl)=true:=by simpa using Qh
      rw[if_pos wX] at en;have oT:=hx0.fl;have yU:=hy0.fl;have hw1:=hW.l1;have aka:=hW.qt;refine aA 4 ?_ [997,0];refine bF 3 ([.int .i64 ((sh[r]'hrl)[i]'hil).rc.id,.int .i64 ((sh[r]'hrl)[i]'hil).rc.ver,jk]) bI.mv.at_ ?_;refine ah 1 ?_ [0];refine bF 3 ([.int .i64 ((sh[r+1+q]'cD)[j]'hjl).rc.id,.int .i64 ((sh[r+1+q]'cD)[j]'hjl).rc.ver,ub]) qJ.mv.at_ ?_;refine cz Tryz.call115 rfl (acX (a:=((sh[r]'hrl)[i]'hil).rc) (b:=((sh[r+1+q]'cD)[j]'hjl).rc) hF.mv fla.mv flb.mv af af af hx0.fo hy0.fo) ?_;rintro Is ki ⟨vs,rfl,ej,qS⟩;refine bh 10 ?_ [251];refine cz Tryz.call116 rfl (ac0 hF.mv ht.mv qS (by rw[KD af];omega) af af rG (U2 hx0.fo hy0.fo)) ?_;rintro Iu kH ⟨rfl,eS⟩;rw[show oF (mh bK (pR ((sh[r]'hrl)[i]'hil).rc ((sh[r+1+q]'cD)[j]'hjl).rc)) bK.length=zP bK ((sh[r]'hrl)[i]'hil).rc ((sh[r+1+q]'cD)[j]'hjl).rc from rfl];refine bh 8 ?_ [250];refine bF 3 ([.int .i64 pr,bz,vd]) hw.mv.at_ ?_;refine ah 1 ?_;refine cz Tryz.call117 rfl (acS (p:=zP bK ((sh[r]'hrl)[i]'hil).rc ((sh[r+1+q]'cD)[j]'hjl).rc) hF.mv hW ha.mv hd.mv (by rw[<-jD];exact U3 _ _ _)) ?_;rintro Qi lR ⟨rfl,fA⟩;refine bh 11 ?_ [81391,0,0];refine aX bI.mv.at_ ?_;refine aP (λ_=>eW (zs:=[.int .i64 0,.int .i64 0]) (ps:=[(0,1),(1,1)]) (c4:=[(0,[.int .i64 r]),(1,[.int .i64 ((sh[r]'hrl)[i]'hil).rc.id])]) (cs:=aV (⟨r,((sh[r]'hrl)[i]'hil).rc.id⟩:au)) ai ai (by exact⟨rfl,⟨_,rfl,rfl⟩,rfl,⟨_,rfl,rfl⟩,trivial⟩) rfl) ?_;refine ah 3 ?_ [0,0];refine aX qJ.mv.at_ ?_;refine aP (λ_=>eW (zs:=[.int .i64 0,.int .i64 0]) (ps:=[(0,1),(1,1)]) (c4:=[(0,[.int .i64 ((r+1+q:Nat):Int)]),(1,[.int .i64 ((sh[r+1+q]'cD)[j]'hjl).rc.id])]) (cs:=aV (⟨(r+1+q:Nat),((sh[r+1+q]'cD)[j]'hjl).rc.id⟩:au)) ai ai (by exact⟨rfl,⟨_,rfl,rfl⟩,rfl,⟨_,rfl,rfl⟩,trivial⟩) rfl) ?_;refine ah 2 ?_
      refine aP (λ_=>eW (zs:=[.int .i64 0,.int .i64 0,.int .i64 0,.int .i64 0,.int .i64 0,.int .i64 0]) (ps:=[(0,2),(2,2),(4,1),(5,1)]) (c4:=[(0,aV (⟨r,((sh[r]'hrl)[i]'hil).rc.id⟩:au)),(1,aV (⟨(r+1+q:Nat),((sh[r+1+q]'cD)[j]'hjl).rc.id⟩:au)),(2,[.int .i64 ((zP bK ((sh[r]'hrl)[i]'hil).rc ((sh[r+1+q]'cD)[j]'hjl).rc:Nat):Int)]),(3,[.int .i64 (kX pr aJ df (zP bK ((sh[r]'hrl)[i]'hil).rc ((sh[r+1+q]'cD)[j]'hjl).rc) aJ.length)])]) (cs:=Br (tL ⟨pr,aJ,df,bK⟩ (⟨r,((sh[r]'hrl)[i]'hil).rc.id⟩:au) (⟨(r+1+q:Nat),((sh[r+1+q]'cD)[j]'hjl).rc.id⟩:au) ((sh[r]'hrl)[i]'hil) ((sh[r+1+q]'cD)[j]'hjl))) ai ai (by exact⟨rfl,⟨_,rfl,rfl⟩,rfl,⟨_,rfl,rfl⟩,rfl,⟨_,rfl,rfl⟩,rfl,⟨_,rfl,rfl⟩,trivial⟩) rfl) ?_;refine aR (ez (ys:=([tL ⟨pr,aJ,df,bK⟩ (⟨r,((sh[r]'hrl)[i]'hil).rc.id⟩:au) (⟨(r+1+q:Nat),((sh[r+1+q]'cD)[j]'hjl).rc.id⟩:au) ((sh[r]'hrl)[i]'hil) ((sh[r+1+q]'cD)[j]'hjl)]:List iN)) (e:=156) (bytes:=48) hF.mv ai rfl ak ak ⟨rfl,⟨_,rfl,KC.2 rfl⟩,trivial⟩) ?_;rintro akb mo ⟨fT,adn,hF⟩;refine aR (eO (e:=156) (bytes:=48) hF ak rfl rfl ai ak ho.mv adn dH dH) ?_;rintro v162 nQ ⟨DZ,gY,ho,hF⟩;refine ax 8 ?_ [7];refine bC (LM (j+1,v162,DZ) _ ⟨aD,hF,hT.mv,ha.mv,hd.mv,ht.mv,hl.mv,hw.mv,(by simp only;rw[en,<-List.append_assoc];exact ho)⟩ aD)
     intro Ys;refine Ex (id:=32) (ops:=vM.yO) [5,7] (FL) [0,1,2,3,4,5,6,7,8,9,10,11,12,13] 14 [nn 15,nn 16,nn 17] 15 [nn 14,nn 16,nn 17] bP ai ai ai ?_ ?_
     ·
      intro oh eY;show bQ _ _ _ _ _ _ _ (jm 14 0 (nn 14::nn 15::nn 16::nn 17::[])) _ _;refine ck ?_;refine ah 2 ?_;refine aL hl.mv ?_;intro _ Qj Qk D0;refine ew D0 ?_;intro Ql B0;refine ah 1 ?_;refine aL B0 ?_;intro _ ado adp Qm;refine cn Qm ?_;intro Yt B4;obtain⟨jk,pa,o_,rfl,fla,kr,hba⟩:=x7.1 B4;clear B4;refine ah 2 ?_;refine aL hl.mv ?_;intro _ Yu Yv Iv;refine ew Iv ?_;intro Yw Iw;refine ah 1 ?_;refine aL Iw ?_;intro _ adq adr Qn;refine cn Qn ?_;intro Qo xk;obtain⟨ub,pb,xg,rfl,flb,xh,t_⟩:=x7.1 xk;clear xk;refine c5 (dn (cs:=[.int .i64 0,.int .i64 0,.slice none 0 0,.slice none 0 0,.slice none 0 0]) hF.mv 5 ai) ?_;rintro _ mJ ⟨Iy,ads,rfl,iW,bI,hF⟩;refine⟨aW,?_⟩;refine c5 (dn (cs:=[.int .i64 0,.int .i64 0,.slice none 0 0,.slice none 0 0,.slice none 0 0]) hF 7 ai) ?_;rintro _ qC ⟨Aw,adt,rfl,jx,qJ,hF⟩;refine⟨aW,?_⟩;refine j7 (cC (vs:=[.int .i64 ((sh[r]'hrl)[i]'hil).rc.id,.int .i64 ((sh[r]'hrl)[i]'hil).rc.ver,jk,pa,o_]) (n:=5) rfl rfl ai rfl rfl (by repeat' first|exact gR|refine gT ?_ ?_|rfl|exact(fla.mv.one rfl).2|exact(kr.mv.one rfl).2|exact(hba.mv.one rfl).2) bI.mv rfl) ?_;rintro _ tO ⟨rfl,jX,bI⟩;refine⟨aW,?_⟩;refine gU rfl ?_;refine bM (cC (vs:=[.int .i64 ((sh[r+1+q]'cD)[j]'hjl).rc.id,.int .i64 ((sh[r+1+q]'cD)[j]'hjl).rc.ver,ub,pb,xg]) (n:=5) rfl rfl ai rfl rfl (by repeat' first|exact gR|refine gT ?_ ?_|rfl|exact(flb.mv.one rfl).2|exact(xh.mv.one rfl).2|exact(t_.mv.one rfl).2) qJ.mv rfl) ?_;rintro _ wN ⟨rfl,mq,qJ⟩;refine ax 1 ?_;refine bC (Ys (ads,adt,jk,pa,o_,ub,pb,xg,Aw) _ ⟨hF.mv,hT.mv,ha.mv,hd.mv,ht.mv,hl.mv,hw.mv,fla.mv,kr.mv,hba.mv,flb.mv,xh.mv,t_.mv,ho.mv,bI.mv,qJ⟩)
     intro wO lU;show bQ _ _ _ _ _ _ _ (jm 14 0 (nn 15::nn 14::nn 16::nn 17::[])) _ _;refine ck ?_;refine ah 2 ?_;refine aL hl.mv ?_;intro _ Qj Qk D0;refine ew D0 ?_;intro Ql B0;refine ah 1 ?_;refine aL B0 ?_;intro _ ado adp Qm;refine cn Qm ?_;intro Yt B4;obtain⟨jk,pa,o_,rfl,fla,kr,hba⟩:=x7.1 B4;clear B4;refine ah 2 ?_;refine aL hl.mv ?_;intro _ Yu Yv Iv;refine ew Iv ?_;intro Yw Iw;refine ah 1 ?_;refine aL Iw ?_;intro _ adq adr Qn;refine cn Qn ?_;intro Qo xk;obtain⟨ub,pb,xg,rfl,flb,xh,t_⟩:=x7.1 xk;clear xk;refine c5 (dn (cs:=[.int .i64 0,.int .i64 0,.slice none 0 0,.slice none 0 0,.slice none 0 0]) hF.mv 7 ai) ?_;rintro _ wP ⟨Yx,Yy,rfl,nh,qJ,hF⟩;refine⟨aW,?_⟩;refine c5 (dn (cs:=[.int .i64 0,.int .i64 0,.slice none 0 0,.slice none 0 0,.slice none 0 0]) hF 5 ai) ?_;rintro _ zX ⟨Qp,adu,rfl,oJ,bI,hF⟩;refine⟨aW,?_⟩;refine j7 (cC (vs:=[.int .i64 ((sh[r]'hrl)[i]'hil).rc.id,.int .i64 ((sh[r]'hrl)[i]'hil).rc.ver,jk,pa,o_]) (n:=5) rfl rfl ai rfl rfl (by repeat' first|exact gR|refine gT ?_ ?_|rfl|exact(fla.mv.one rfl).2|exact(kr.mv.one rfl).2|exact(hba.mv.one rfl).2) bI rfl) ?_;rintro _ Bx ⟨rfl,nR,bI⟩;refine⟨aW,?_⟩;refine gU rfl ?_;refine bM (cC (vs:=[.int .i64 ((sh[r+1+q]'cD)[j]'hjl).rc.id,.int .i64 ((sh[r+1+q]'cD)[j]'hjl).rc.ver,ub,pb,xg]) (n:=5) rfl rfl ai rfl rfl (by repeat' first|exact gR|refine gT ?_ ?_|rfl|exact(flb.mv.one rfl).2|exact(xh.mv.one rfl).2|exact(t_.mv.one rfl).2) qJ.mv rfl) ?_;rintro _ Dp ⟨rfl,om,qJ⟩;refine ax 1 ?_;refine bC (Ys (adu,Yy,jk,pa,o_,ub,pb,xg,Qp) _ ⟨hF.mv,hT.mv,ha.mv,hd.mv,ht.mv,hl.mv,hw.mv,fla.mv,kr.mv,hba.mv,flb.mv,xh.mv,t_.mv,ho.mv,bI.mv,qJ⟩)
    have hjl:j=(sh[r+1+q]'cD).length:=by omega
    refine aB 7 ?_ [7];refine kp (bT 1 (bT 3 (bT 4 (bT 14 (bT 15 (bT 16 (fD 17 rfl (eq_int sN) (fL _)))))))) (yR (q+1,ct,FL) _ ⟨aD,hF,hT,ha,hd,ht,hl,hw,(by simp only;rw[hjl,List.take_length] at ho;rw[U8,show kP sh (r+1+q)=(sh[r+1+q]'cD) from lK cD,<-List.append_assoc];exact ho)⟩ aD)
   have cD:q=sh.length-(r+1):=by omega
   refine aB 7 ?_ [7];refine bC (pg (i+1,ct,yQ) _ ⟨aD,hF,hT,ha,hd,ht,hl,hw,(by simp only;rw[U9 hil,<-List.append_assoc,<-cD];exact ho)⟩ aD)
  have hil:i=(sh[r]'hrl).length:=by omega
  refine aB 7 ?_ [7];refine bC (kJ (r+1,ct,ur) _ ⟨aD,hF,hT,ha,hd,ht,hl,hw,(by simp only;rw[hil,List.take_length] at ho;rw[U_,show kP sh r=(sh[r]'hrl) from lK hrl];exact ho)⟩ aD)
 have hrl:r=sh.length:=by omega
 subst hrl;refine aA 5 ?_ [7];refine dE ho.ln ?_;refine aP (λ_=>dR (jr rfl rfl) af) ?_;refine ax 9 ?_ [7];refine jo ai Tryz.func66 Tryz.results66 rfl rfl ?_;exact⟨_,by rw[hE],hT.o1,by rw[Lq (m:=⟨pr,aJ,df,bK⟩) hE];exact ho.out hT aO (er C) (λb _=>gI C ak b) af⟩
end
end Go.Proofs.YtmdhggfehknjjaaGreat
namespace Go.Proofs.YtmdhggfehknjjaaGreat
open Go.K Go.K.bn
end Go.Proofs.YtmdhggfehknjjaaGreat
namespace Go.Proofs.YtmdhggfehknjjaaGreat
open Go.K Go.K.bn
noncomputable section
theorem adv {w₀:World} {C:Nat->Nat} {fe eG:dP} {u p q u2 p2 q2:Value} {k:Nat} (hF:aF w₀ C) (hp:aq w₀ (aj C) fe.hs p) (hq:aq w₀ (aj C) fe.has q) (hp2:aq w₀ (aj C) eG.hs p2) (iq:aq w₀ (aj C) eG.has q2) (mY:fe.hs.length=k) (hk2:fe.has.length=k) (yx:eG.hs.length=k) (BZ:eG.has.length=k):Calls Tryz.prog 103 #[.agg #[.int .i64 fe.rc.id,.int .i64 fe.rc.ver,u,p,q],.agg #[.int .i64 eG.rc.id,.int .i64 eG.rc.ver,u2,p2,q2]] w₀ (aZ λv w'=>v=.bool (r6 fe eG)/\av [] w₀ C w' C):=by
 have aO:=hF;replace hF:=hF.aI;replace hp:=hp.c1;replace hq:=hq.c1;replace hp2:=hp2.c1;replace iq:=iq.c1;refine bG Tryz.func103 ?_;refine aA 2 ?_ [4];refine aR (cu (cs:=[.int .i64 fe.rc.id,.int .i64 fe.rc.ver,u,p,q]) hF 3 rfl rfl) ?_;rintro _ w1 ⟨cm,bq,rfl,s_1,hx,hF⟩;refine aR (cu (cs:=[.int .i64 eG.rc.id,.int .i64 eG.rc.ver,u2,p2,q2]) hF 4 rfl rfl) ?_;rintro _ w2 ⟨cw,cM,rfl,s_2,hy,hF⟩;refine bh 6 ?_ [15213,3];refine aX hx.mv.at_ ?_;refine dE hp.mv.ln ?_;refine ah 1 ?_ [4];refine aX hx.mv.at_ ?_;refine dE hq.mv.ln ?_;refine ah 1 ?_ [3];refine aX hy.at_ ?_;refine dE hp2.mv.ln ?_;refine ah 1 ?_ [4];refine aX hy.at_ ?_;refine dE iq.mv.ln ?_;refine aP (λ_=>X3 (n:=(k:Int)) rfl rfl rfl rfl af af af af Tryz.underlying3) ?_;refine ax 3 ?_;refine cg (ι:=Nat×(Nat->Nat)) (λx w=>x.1<=k/\(∀j,j<x.1->zQ fe eG j=false)/\aF w x.2/\av [2,3,4,5,6,7,8,9] w₀ (aI C) w x.2/\aq w (aj x.2) fe.hs p/\aq w (aj x.2) fe.has q/\aq w (aj x.2) eG.hs p2/\aq w (aj x.2) eG.has q2/\bS w x.2 3 bq (.cells [.int .i64 fe.rc.id,.int .i64 fe.rc.ver,u,p,q].toArray 83)/\bS w x.2 4 cM (.cells [.int .i64 eG.rc.id,.int .i64 eG.rc.ver,u2,p2,q2].toArray 83)) (λx=>[(2,.pointer (some ⟨bq,0,none⟩)),(3,.pointer (some ⟨cM,0,none⟩)),(18,.int .i64 k),(19,.int .i64 x.1)]) (λx=>k-x.1) (0,cw) ?_ ?_
 · exact⟨Nat.zero_le _,λj hj=>by simp at hj,hF,(z9 w₀ C).mv,hp.mv,hq.mv,hp2.mv,iq.mv,hx.mv,hy⟩
 intro⟨i,aK⟩ w3 hI bu;obtain⟨hi,h0,hF,hT,hp,hq,hp2,iq,hx,hy⟩:=hI;try simp only at hi h0 hF hT hp hq hp2 iq hx hy
 show Run _ _ _ _ [(2,.pointer (some ⟨bq,0,none⟩)),(3,.pointer (some ⟨cM,0,none⟩)),(18,.int .i64 k),(19,.int .i64 i)] _ _;have hle:=hp.le;refine aB 5 ?_ [1];refine a_ 20 rfl (λk6=>?_) (λk6=>?_)
 ·
  have hil:i<k:=by omega
  have i1:i<fe.hs.length:=by omega
  have i2:i<fe.has.length:=by omega
  have i3:i<eG.hs.length:=by omega
  have i4:i<eG.has.length:=by omega
  have kY:=KE i1 i2 i3 i4;refine aB 9 ?_ [3];refine iL 46 (zQ fe eG i) (aK) ?_ ?_
  ·
   intro bU;by_cases hA:fe.has[i]'i2=true
   ·
    by_cases hB:eG.has[i]'i4=true
    ·
     refine bX [] (aK) [1,3,5,7,9,11,13,15,17,19,21,23,25,27,29,31,33,35,37,39,41,43,45,47,49] bP ?_;intro w4 cq;have hcs:=cq;refine ah 1 ?_ [4];refine di hx.mv.sz ?_;refine ah 1 ?_;refine aL hq.mv ?_;intro _ Yz YA gw;refine ew gw ?_;intro v26 sD;obtain rfl:=jt.1 sD;rw[hA];refine ah 2 ?_ [4];refine di hy.mv.sz ?_;refine ah 1 ?_;refine aL iq.mv ?_;intro _ DQ DR jA;refine ew jA ?_;intro v32 uj;obtain rfl:=jt.1 uj;rw[hB];refine ah 3 ?_ [3];refine di hx.mv.sz ?_;refine ah 1 ?_;refine aL hp.mv ?_;intro _ E6 E7 jY;refine ew jY ?_;intro v39 uY;obtain rfl:=l9.1 uY;refine ah 1 ?_ [3];refine di hy.mv.sz ?_;refine ah 1 ?_;refine aL hp2.mv ?_;intro _ LC LD tj;refine ew tj ?_;intro v44 oV;obtain rfl:=l9.1 oV;refine ah 2 ?_;exact bQ.nil (bU _ _ _ hcs rfl (by rw[kY,hA,hB];rfl) (cB 25))
    refine bX [] (aK) [1,3,5,7,9,11,13,15,17,19,21,23,25,27,29,31,33,35,37,39,41,43,45,47,49] bP ?_;intro dc cI;have hcs:=cI;refine ah 1 ?_ [4];refine di hx.mv.sz ?_;refine ah 1 ?_;refine aL hq.mv ?_;intro _ Yz YA gw;refine ew gw ?_;intro v26 sD;obtain rfl:=jt.1 sD;rw[hA];refine ah 2 ?_ [4];refine di hy.mv.sz ?_;refine ah 1 ?_;refine aL iq.mv ?_;intro _ DQ DR jA;refine ew jA ?_;intro v32 uj;obtain rfl:=jt.1 uj;rw[Bool.eq_false_iff.2 hB];refine ah 14 ?_;exact bQ.nil (bU _ _ _ hcs rfl (by rw[kY,hA,Bool.eq_false_iff.2 hB];rfl) (cB 25))
   refine bX [] (aK) [1,3,5,7,9,11,13,15,17,19,21,23,25,27,29,31,33,35,37,39,41,43,45,47,49] bP ?_;intro ei de;have hcs:=de;refine ah 1 ?_ [4];refine di hx.mv.sz ?_;refine ah 1 ?_;refine aL hq.mv ?_;intro _ Yz YA gw;refine ew gw ?_;intro v26 sD;obtain rfl:=jt.1 sD;rw[Bool.eq_false_iff.2 hA];refine ah 20 ?_;exact bQ.nil (bU _ _ _ hcs rfl (by rw[kY,Bool.eq_false_iff.2 hA];rfl) (cB 25))
  intro w7 ej;refine f_ 46 rfl (λh46=>?_) (λh46=>?_)
  ·
   refine aB 4 ?_ [1];refine bg Tryz.func103 ?_;exact⟨by rw[U5 mY hk2 yx BZ hil h46],hT.o1⟩
  refine aB 6 ?_ [3];refine bC (bu (i+1,aK) _ ⟨aD,(λj hj=>by
      try simp only at hj
      by_cases e:j=i
      ·subst e;exact h46
      ·exact h0 j af),hF.mv,hT.mv,hp.mv,hq.mv,hp2.mv,iq.mv,hx.mv,hy.mv⟩ aD)
 have hil:i=k:=by omega
 subst hil;refine aB 5 ?_ [1];refine bg Tryz.func103 ?_;exact⟨by rw[U6 mY hk2 yx BZ h0],hT.o1⟩
theorem adw {w₀:World} {C:Nat->Nat} {pr:Int} {aJ df:List Int} {bz vd:Value} {bK:List Int} {e8:Value} {a b:au} {fe eG:dP} {u p q u2 p2 q2:Value} (hF:aF w₀ C) (hW:mg pr aJ df) (ha:aq w₀ (aj C) aJ bz) (hd:aq w₀ (aj C) df vd) (ht:aq w₀ (aj C) bK e8) (jD:bK.length=aJ.length) (rG:∀x∈bK,0<=x/\x<=1000) (hw1:aq w₀ (aj C) fe.rc.dy u) (Ay:aq w₀ (aj C) eG.rc.dy u2) (akc:fe.rc.dy.length=aJ.length) (akd:eG.rc.dy.length=aJ.length) (yW:∀z∈fe.rc.dy,pQ z) (adx:∀z∈eG.rc.dy,pQ z) (jB:p.oneCell'=true) (h12:q.oneCell'=true) (jl:p2.oneCell'=true) (eZ:q2.oneCell'=true):Calls Tryz.prog 104 #[.agg #[.int .i64 pr,bz,vd],e8,.agg #[.int .i64 a.a,.int .i64 a.b],.agg #[.int .i64 b.a,.int .i64 b.b],.agg #[.int .i64 fe.rc.id,.int .i64 fe.rc.ver,u,p,q],.agg #[.int .i64 eG.rc.id,.int .i64 eG.rc.ver,u2,p2,q2]] w₀ (aZ λv w'=>v=.agg (Br (tL ⟨pr,aJ,df,bK⟩ a b fe eG)).toArray/\av [] w₀ C w' C):=by
 have aO:=hF;replace hF:=hF.aI;replace ha:=ha.c1;replace hd:=hd.c1;replace ht:=ht.c1;replace hw1:=hw1.c1;replace Ay:=Ay.c1;have Fu:=hW.l1;have ake:=hW.qt;refine bG Tryz.func104 ?_;refine aA 2 ?_ [0];refine aR (cu (cs:=[.int .i64 pr,bz,vd]) hF 3 rfl rfl) ?_;rintro _ w1 ⟨cm,bq,rfl,s_1,hw,hF⟩;refine aR (cu (cs:=aV a) hF 4 rfl rfl) ?_;rintro _ w2 ⟨cw,cM,rfl,s_2,LN,hF⟩;refine aR (cu (cs:=aV b) hF 4 rfl rfl) ?_;rintro _ w3 ⟨jd,je,rfl,cq,hrb,hF⟩;refine aR (cu (cs:=[.int .i64 fe.rc.id,.int .i64 fe.rc.ver,u,p,q]) hF 5 rfl rfl) ?_;rintro _ w4 ⟨fW,nT,rfl,cI,hx,hF⟩;refine aR (cu (cs:=[.int .i64 eG.rc.id,.int .i64 eG.rc.ver,u2,p2,q2]) hF 5 rfl rfl) ?_;rintro _ dc ⟨qG,lC,rfl,de,hy,hF⟩;refine aR (dn (cs:=[.int .i64 0,.int .i64 0,.int .i64 0,.int .i64 0,.int .i64 0,.int .i64 0]) hF 6 ai) ?_;rintro _ ei ⟨yd,akf,rfl,ej,hr,hF⟩;refine bh 4 ?_ [997,0];refine bF 3 ([.int .i64 fe.rc.id,.int .i64 fe.rc.ver,u]) hx.mv.at_ ?_;refine ah 1 ?_ [0];refine bF 3 ([.int .i64 eG.rc.id,.int .i64 eG.rc.ver,u2]) hy.mv.at_ ?_;refine cz Tryz.call167 rfl (acE (a:=fe.rc) (b:=eG.rc) hF hw1.mv Ay.mv af af af) ?_;rintro jJ w7 ⟨vs,rfl,eS,qS⟩;refine bh 8 ?_ [4];refine bF 2 (aV a) LN.mv.at_ ?_;refine bF 2 (aV b) hrb.mv.at_ ?_;refine aP (λ_=>eW (zs:=[.int .i64 0,.int .i64 0,.int .i64 0,.int .i64 0,.int .i64 0,.int .i64 0]) (ps:=[(0,2),(2,2),(4,1),(5,1)]) (c4:=[(0,aV a),(1,aV b)]) (cs:=[.int .i64 a.a,.int .i64 a.b,.int .i64 b.a,.int .i64 b.b,.int .i64 0,.int .i64 0]) ai ai (by exact⟨rfl,⟨_,rfl,rfl⟩,rfl,⟨_,rfl,rfl⟩,trivial⟩) rfl) ?_;refine aR (dn (cs:=[.int .i64 0,.int .i64 0,.int .i64 0,.int .i64 0,.int .i64 0,.int .i64 0]) hF.mv 7 ai) ?_;rintro _ fk ⟨xd,B5,rfl,fA,hc,hF⟩;refine bM (cC (vs:=[.int .i64 a.a,.int .i64 a.b,.int .i64 b.a,.int .i64 b.b,.int .i64 0,.int .i64 0]) (n:=6) rfl rfl ai rfl rfl (fE rfl) hc rfl) ?_;rintro _ fJ ⟨rfl,fT,hc⟩;refine bh 5 ?_ [123]
 refine cz Tryz.call168 rfl (acH hF.mv ht.mv qS.mv (by rw[KD af];omega) af af rG (U2 yW adx)) ?_;rintro vK gn ⟨rfl,gY⟩;rw[show oF (mh bK (pR fe.rc eG.rc)) bK.length=zP bK fe.rc eG.rc from rfl];refine ah 4 ?_ [4];refine bM (ic rfl rfl ai rfl rfl hc.mv b_) ?_;rintro _ iK ⟨rfl,eY,hc⟩;refine bh 3 ?_ [242];refine bF 3 ([.int .i64 pr,bz,vd]) hw.mv.at_ ?_;refine ah 1 ?_ [4];refine aX hc.at_ ?_;refine cz Tryz.call169 rfl (o5 (p:=zP bK fe.rc eG.rc) hF.mv hW ha.mv hd.mv (by rw[<-jD];exact U3 _ _ _)) ?_;rintro yT iV ⟨rfl,iW⟩;refine ah 4 ?_ [5];refine bM (ic rfl rfl ai rfl rfl hc.mv b_) ?_;rintro _ ki ⟨rfl,jx,hc⟩;refine bh 3 ?_ [0];refine bF 6 (Br (tL ⟨pr,aJ,df,bK⟩ a b fe eG)) hc.at_ ?_;refine bM (cC (vs:=Br (tL ⟨pr,aJ,df,bK⟩ a b fe eG)) (n:=6) rfl rfl ai rfl rfl (fE rfl) hr.mv rfl) ?_;rintro _ kH ⟨rfl,jX,hr⟩;refine ax 1 ?_;refine rS ai Tryz.func104 Tryz.results104 rfl hr.at_ ai ai rfl ?_;exact⟨rfl,(z9 w₀ C).o1⟩
end
end Go.Proofs.YtmdhggfehknjjaaGreat
namespace Go.Proofs.YtmdhggfehknjjaaGreat
open Go.K Go.K.bn
end Go.Proofs.YtmdhggfehknjjaaGreat
