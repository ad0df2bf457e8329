/- Steps through functions of the program. -/
import Derived.Test.YtmdhggfehknjjaaGreatJX9XA
import Derived.Test.YtmdhggfehknjjaaGreatL3
import Derived.Test.YtmdhggfehknjjaaGreatJC6D4
import Derived.Test.YtmdhggfehknjjaaGreatL1
import Derived.Test.YtmdhggfehknjjaaGreatL2
import Derived.Test.YtmdhggfehknjjaaGreatJF8X1
set_option maxRecDepth 100000
set_option maxHeartbeats 4000000
namespace Go.Proofs.YtmdhggfehknjjaaGreat
open Go.K Go.K.bn
noncomputable section
theorem agz {w₀:World} {C:Nat->Nat} {l:List aH} {ds:List bp} {aC bW:Value} (hF:aF w₀ C) (hl:aq w₀ (aj C) l aC) (hz:aq w₀ (aj C) ds bW) (lF:l.length<=4096):Calls Tryz.prog 73 #[aC,bW] w₀ (aZ λv w'=>av [] w₀ C w' C/\aq w' (aj C) (sY l ds) v):=by
 have aO:=hF;replace hF:=hF.aI;replace hl:=hl.c1;replace hz:=hz.c1;refine bG Tryz.func73 ?_;refine aA 7 ?_ [1,5];refine cz Tryz.call25 rfl (Mj hF hl af) ?_;rintro gZ w1 ⟨s_1,hrf⟩;refine ax 2 ?_;obtain⟨rf,ZZ⟩:∃x,x=aM l:=⟨_,rfl⟩
 have QW:=oD l;rw[<-ZZ] at hrf QW;refine aB 10 ?_ [1,1];refine cg (ι:=Nat×Value×(Nat->Nat)) (λx w=>x.1<=rf.length/\aF w x.2.2/\av [2,3,4,5,6,7,8,9] w₀ (aI C) w x.2.2/\aq w (aj x.2.2) l aC/\aq w (aj x.2.2) ds bW/\aQ w x.2.2 4 52 x.2.1 ((rf.take x.1).map λr=>[r])/\aq w (aj x.2.2) rf gZ) (λx=>[(0,aC),(1,bW),(5,gZ),(6,x.2.1),(7,.int .i64 x.1)]) (λx=>rf.length-x.1) (0,.slice none 0 0,aI C) ?_ ?_
 · exact⟨Nat.zero_le _,hF.mv,(z9 w₀ C).mv,hl.mv,hz.mv,aQ.nil,hrf⟩
 intro⟨i,vs,aK⟩ w2 hI bu;obtain⟨hi,hF,hT,hl,hz,ho,hrf⟩:=hI;try simp only at hi hF hT hl hz ho hrf
 show Run _ _ _ _ [(0,aC),(1,bW),(5,gZ),(6,vs),(7,.int .i64 i)] _ _;have hle:=hrf.le;have jD: ((rf.take i).map λr=>[r]).length=i:=by rw[List.length_map,List.length_take];omega
 refine aA 5 ?_ [15];refine dE hrf.ln ?_;refine ax 2 ?_;refine a_ 23 rfl (λh23=>?_) (λh23=>?_)
 ·
  have hil:i<rf.length:=by omega
  refine aA 7 ?_ [271];refine aL hrf ?_;intro _ vG vH gE;refine gJ gE ?_;intro v30 fK;obtain rfl:=bV.1 fK;refine aR (ez (ys:=([(rf[i]'hil)]:List au)) (e:=55) (bytes:=16) hF ai rfl ak ak ⟨rfl,⟨_,rfl,bV.2 rfl⟩,trivial⟩) ?_;rintro v31 w3 ⟨s_2,nj,hF⟩;refine aR (ez (ys:=([[(rf[i]'hil)]]:List (List au))) (e:=52) (bytes:=24) hF ai rfl ak ak ⟨rfl,⟨_,rfl,nj⟩,trivial⟩) ?_;rintro v32 w4 ⟨cq,uj,hF⟩;refine aR (eO (e:=52) (bytes:=24) hF ak rfl rfl ai ak ho.mv uj dH dH) ?_;rintro v33 dc ⟨qG,cI,ho,hF⟩;refine ax 8 ?_ [7];refine bC (bu (i+1,v33,qG) _ ⟨aD,hF,hT.mv,hl.mv,hz.mv,(by simp only;rw[List.take_succ_eq_append_getElem hil,List.map_append];exact ho),hrf.mv⟩ aD)
 have hil:i=rf.length:=by omega
 rw[hil,List.take_length,ZZ] at ho;clear hrf;refine aA 4 ?_ [11];refine dE hl.ln ?_;refine aR (Bc (e:=4) (bytes:=1) (x0:=false) (zs:=[.bool false]) hF (j:=5) ak ai ai rfl rfl af af af (λh M=>rfl)) ?_;rintro xq ei ⟨yd,de,hd,hF⟩;refine ax 2 ?_;rw[aaA] at hd;refine aB 6 ?_ [1];refine cg (ι:=Nat×(List Nat)×(List (List au))×Value×Value×(Nat->Nat)) (λx w=>x.1<=l.length/\x.2.1.length=x.1/\sA l ds x.2.1 x.2.2.1/\aF w x.2.2.2.2.2/\av [2,3,4,5,6,7,8,9] w₀ (aI C) w x.2.2.2.2.2/\aq w (aj x.2.2.2.2.2) l aC/\aq w (aj x.2.2.2.2.2) ds bW/\aQ w x.2.2.2.2.2 4 52 x.2.2.2.1 x.2.2.1/\aQ w x.2.2.2.2.2 5 4 x.2.2.2.2.1 (rC l x.2.1)) (λx=>[(0,aC),(1,bW),(6,x.2.2.2.1),(8,x.2.2.2.2.1),(9,.int .i64 x.1)]) (λx=>l.length-x.1) (0,[],((aM l).map λr=>[r]),vs,xq,yd) ?_ ?_
 · exact⟨Nat.zero_le _,rfl,sA.nil,hF,hT.mv,hl.mv,hz.mv,ho.mv,hd⟩
 intro⟨c,is,sets,vs,vd,dm⟩ w7 hI eD;obtain⟨hc,dM,lP,hF,hT,hl,hz,ho,hd⟩:=hI;try simp only at hc dM lP hF hT hl hz ho hd
 show Run _ _ _ _ [(0,aC),(1,bW),(6,vs),(8,vd),(9,.int .i64 c)] _ _;have hle:=hl.le;have E8:=Ac l is;refine aA 5 ?_ [15];refine dE hl.ln ?_;refine ax 2 ?_;refine a_ 40 rfl (λjZ=>?_) (λjZ=>?_)
 ·
  have D7:c<l.length:=by omega
  refine aB 13 ?_ [1,1];refine cg (ι:=Nat×Int×(Nat->Nat)) (λx w=>x.1<=l.length/\ve l is x.1 x.2.1/\aF w x.2.2/\av [2,3,4,5,6,7,8,9] w₀ (aI C) w x.2.2/\aq w (aj x.2.2) l aC/\aq w (aj x.2.2) ds bW/\aQ w x.2.2 4 52 vs sets/\aQ w x.2.2 5 4 vd (rC l is)) (λx=>[(0,aC),(1,bW),(6,vs),(8,vd),(9,.int .i64 c),(10,.int .i64 x.2.1),(11,.int .i64 x.1)]) (λx=>l.length-x.1) (0,-1,dm) ?_ ?_
  · exact⟨Nat.zero_le _,ve.start,hF,hT,hl,hz,ho,hd⟩
  intro⟨i,b,k5⟩ fk hI kJ;obtain⟨hi,hB,hF,hT,hl,hz,ho,hd⟩:=hI;try simp only at hi hB hF hT hl hz ho hd
  show Run _ _ _ _ [(0,aC),(1,bW),(6,vs),(8,vd),(9,.int .i64 c),(10,.int .i64 b),(11,.int .i64 i)] _ _;refine aA 5 ?_ [15];refine dE hl.ln ?_;refine ax 2 ?_;refine a_ 46 rfl (λh46=>?_) (λh46=>?_)
  ·
   have hil:i<l.length:=by omega
   refine aB 4 ?_;by_cases hin:i∈is
   ·
    refine aA 3 ?_ [28663];refine c6 hd ?_ (h1:=by(have e:=Ac l is;omega));intro lT mP;refine xI hd mP ?_ (hi:=by(have e:=Ac l is;omega));intro _ Aq k4;obtain rfl:=jt.1 k4;refine aP (λ_=>fN (oz rfl) (show _=Value.bool false from congrArg Value.bool (by rw[HM,decide_eq_true hin];rfl))) ?_;refine ax 19 ?_ [7];refine bC (kJ (i+1,b,k5) _ ⟨aD,(hB.skip (.inl hin)),hF,hT,hl,hz,ho,hd⟩ aD)
   by_cases RX:b<0
   ·
    refine aA 3 ?_ [28663];refine c6 hd ?_ (h1:=by(have e:=Ac l is;omega));intro lT mP;refine xI hd mP ?_ (hi:=by(have e:=Ac l is;omega));intro _ Aq k4;obtain rfl:=jt.1 k4;refine aP (λ_=>fN (oz rfl) (show _=Value.bool true from congrArg Value.bool (by rw[HM,decide_eq_false hin];rfl))) ?_;refine ah 2 ?_;refine dT RX ?_;refine ax 19 ?_ [3,7];refine bC (kJ (i+1,(i:Int),k5) _ ⟨aD,(hB.take hin (.inl RX)),hF,hT,hl,hz,ho,hd⟩ aD)
   refine aA 3 ?_ [28663];refine c6 hd ?_ (h1:=by(have e:=Ac l is;omega));intro lT mP;refine xI hd mP ?_ (hi:=by(have e:=Ac l is;omega));intro _ Aq k4;obtain rfl:=jt.1 k4;refine aP (λ_=>fN (oz rfl) (show _=Value.bool true from congrArg Value.bool (by rw[HM,decide_eq_false hin];rfl))) ?_;refine ah 2 ?_;refine cL RX ?_;refine ah 4 ?_;refine cz Tryz.call126 rfl (agy (i:=i) (k:=b) hF hl hil af (by have:=(hB.some_ af).1;omega)) ?_;rintro vE fJ ⟨rfl,ej⟩;refine ax 3 ?_;refine a_ 63 rfl (λh63=>?_) (λh63=>?_)
   ·
    refine aB 10 ?_ [3,7];refine bC (kJ (i+1,(i:Int),k5) _ ⟨aD,(hB.take hin (.inr h63)),hF.mv,hT.mv,hl.mv,hz.mv,ho.mv,hd.mv⟩ aD)
   refine aB 7 ?_ [7];refine bC (kJ (i+1,b,k5) _ ⟨aD,(hB.skip (.inr ⟨by omega,h63⟩)),hF.mv,hT.mv,hl.mv,hz.mv,ho.mv,hd.mv⟩ aD)
  have hil:i=l.length:=by omega
  rw[hil] at hB;have hb0:=lP.ord.some af hB;obtain⟨m,rfl⟩:∃m:Nat,b=m:=⟨b.toNat,by omega⟩
  have Cj:=lP.ord.add hb0 hB;have hml:=(hB.some_ hb0).1;rw[fh] at Cj hml;obtain⟨ga,ib,lZ,hib,agA,agC,uB⟩:=lP.at_ hml;have hsl:=lP.aaU;obtain⟨gg,_,_,adP⟩:=lP.gr;have hrl:=oD l;have Ck:=lP.add Cj;rw[uB] at Ck;refine aA 5 ?_ [7];refine c6 hd ?_ (h1:=by(have e:=Ac l is;omega));intro aln agD;refine bM (gQ hd agD (by(have e:=Ac l is;omega)) rfl rfl ai (jt.2 rfl)) ?_;rintro _ gn ⟨rfl,eS,hd⟩;refine ax 1 ?_;rw[aaB] at hd;refine aB 1 ?_;refine bX [] (k5) [1,3,5,7,9,11,15,17,19,21,23,25,12,26,29,31] bP ?_;intro iK fA;refine ah 3 ?_;refine aL hl.mv ?_;intro _ Yp Yq Iq;have Ee:=bk.mE Iq;refine ah 1 ?_ [0];refine cn Ee ?_;intro LU Ci;obtain rfl:=bV.1 Ci;refine ah 3 ?_;refine aL hl.mv ?_;intro _ alo alp agE;have Rv:=bk.qo agE;refine ah 1 ?_ [2];refine cn Rv ?_;intro v80 IZ;obtain rfl:=bV.1 IZ;refine gl Tryz.call28 rfl (RH (C:=ji) (c:=(l[m]'hml).A) (oG _) (ho.mv.nc af)) ?_;rintro _ iV ⟨rfl,fT⟩;rw[agA];replace gY:=fT.re (k5);refine⟨aW,?_⟩;refine gl Tryz.call28 rfl (RH (C:=ji) (c:=(l[m]'hml).B) (oG _) (ho.mv.nc af)) ?_;rintro _ ki ⟨rfl,eY⟩;rw[agC];replace iW:=eY.re (k5);refine⟨aW,?_⟩;refine ax 10 ?_ [7];refine a_ 84 rfl (λMp=>?_) (λMp=>?_)
  ·
   rw[if_pos Mp] at Ck;refine aB 6 ?_ [7];refine bC (eD (c+1,is++[m],sets,vs,vd,k5) _ ⟨aD,(by rw[List.length_append,dM];rfl),Ck,hF.mv,hT.mv,hl.mv,hz.mv,ho.mv,hd.mv⟩ aD)
  rw[if_neg Mp] at Ck;have hik:ga≠ib:=λe=>Mp (by rw[e]);have hsi:=hsl _ (List.getElem_mem lZ);have hsk:=hsl _ (List.getElem_mem hib);refine aB 11 ?_ [1,1];refine xE (ι:=Nat×(Nat->Nat)) (I:=λx w=>x.1<=(sets[ga]'lZ).length/\aF w x.2/\av [2,3,4,5,6,7,8,9] w₀ (aI C) w x.2/\aq w (aj x.2) l aC/\aq w (aj x.2) ds bW/\aQ w x.2 4 52 vs sets/\aQ w x.2 5 4 vd (rC l (is++[m]))) (e:=λx=>[(0,aC),(1,bW),(6,vs),(8,vd),(9,.int .i64 c),(12,.int .i64 ga),(13,.int .i64 ib),(14,.bool (((sets[ga]'lZ).take x.1).all (λx=>(sets[ib]'hib).all λy=>!eP ds x y))),(15,.int .i64 x.1)]) (m:=λx=>(sets[ga]'lZ).length-x.1) (nB:=(0,k5)) (bT 0 (bT 1 (bT 6 (bT 8 (bT 9 (bT 12 (bT 13 (fD 14 rfl (congrArg Value.bool b_) (bT 15 (fL _)))))))))) ?_ ?_
  · exact⟨Nat.zero_le _,hF.mv,hT.mv,hl.mv,hz.mv,ho.mv,hd.mv⟩
  intro⟨a,ur⟩ kH hI pg;obtain⟨ha,hF,hT,hl,hz,ho,hd⟩:=hI;try simp only at ha hF hT hl hz ho hd
  show Run _ _ _ _ [(0,aC),(1,bW),(6,vs),(8,vd),(9,.int .i64 c),(12,.int .i64 ga),(13,.int .i64 ib),(14,.bool (((sets[ga]'lZ).take a).all (λx=>(sets[ib]'hib).all λy=>!eP ds x y))),(15,.int .i64 a)] _ _;refine aA 6 ?_ [111];refine c6 ho ?_;intro zf agF;refine xI ho agF ?_;intro _ L3 agG;refine dE agG.ln ?_;refine ax 2 ?_;refine a_ 91 rfl (λRY=>?_) (λRY=>?_)
  ·
   have ze:a<(sets[ga]'lZ).length:=by omega
   refine aB 8 ?_ [1];refine xE (ι:=Nat×(Nat->Nat)) (I:=λx w=>x.1<=(sets[ib]'hib).length/\aF w x.2/\av [2,3,4,5,6,7,8,9] w₀ (aI C) w x.2/\aq w (aj x.2) l aC/\aq w (aj x.2) ds bW/\aQ w x.2 4 52 vs sets/\aQ w x.2 5 4 vd (rC l (is++[m]))) (e:=λx=>[(0,aC),(1,bW),(6,vs),(8,vd),(9,.int .i64 c),(12,.int .i64 ga),(13,.int .i64 ib),(14,.bool (((sets[ga]'lZ).take a).all (λx=>(sets[ib]'hib).all λy=>!eP ds x y)&&((sets[ib]'hib).take x.1).all λy=>!eP ds ((sets[ga]'lZ)[a]'ze) y)),(15,.int .i64 a),(16,.int .i64 x.1)]) (m:=λx=>(sets[ib]'hib).length-x.1) (nB:=(0,ur)) (bT 0 (bT 1 (bT 6 (bT 8 (bT 9 (bT 12 (bT 13 (fD 14 rfl (congrArg Value.bool b_) (bT 15 (bT 16 (fL _))))))))))) ?_ ?_
   · exact⟨Nat.zero_le _,hF,hT,hl,hz,ho,hd⟩
   intro⟨q,yQ⟩ lR hI yR;obtain⟨hq,hF,hT,hl,hz,ho,hd⟩:=hI;try simp only at hq hF hT hl hz ho hd
   show Run _ _ _ _ [(0,aC),(1,bW),(6,vs),(8,vd),(9,.int .i64 c),(12,.int .i64 ga),(13,.int .i64 ib),(14,.bool (((sets[ga]'lZ).take a).all (λx=>(sets[ib]'hib).all λy=>!eP ds x y)&&((sets[ib]'hib).take q).all λy=>!eP ds ((sets[ga]'lZ)[a]'ze) y)),(15,.int .i64 a),(16,.int .i64 q)] _ _;refine aA 6 ?_ [111];refine c6 ho ?_;intro alq agH;refine xI ho agH ?_;intro _ agl RS;refine dE RS.ln ?_;refine ax 2 ?_;refine a_ 100 rfl (λRT=>?_) (λRT=>?_)
   ·
    have cD:q<(sets[ib]'hib).length:=by omega
    refine aB 3 ?_;rcases Bool.eq_false_or_eq_true ((((sets[ga]'lZ).take a).all (λx=>(sets[ib]'hib).all λy=>!eP ds x y)&&((sets[ib]'hib).take q).all λy=>!eP ds ((sets[ga]'lZ)[a]'ze) y)) with hok|hok
    ·
     rw[hok];refine bX [] (yQ) [1,3,5,7,9,11,13,15,17,19,21,23,25,27,29,31,33,34,37,39] bP ?_;intro mo jx;refine ah 5 ?_;refine c6 ho.mv ?_;intro alr agI;refine qT ho.mv agI ?_;intro _ v109 agJ;refine ah 1 ?_;refine aL agJ ?_;intro _ Qj Qk D0;refine cn D0 ?_;intro Ql B0;obtain rfl:=bV.1 B0;refine ah 2 ?_;refine c6 ho.mv ?_;intro B4 agK;refine qT ho.mv agK ?_;intro _ ZV agL;refine ah 1 ?_;refine aL agL ?_;intro _ Yu Yv Iv;refine cn Iv ?_;intro Yw Iw;obtain rfl:=bV.1 Iw;refine dC Tryz.call127 (RL (a:=(sets[ga]'lZ)[a]'ze) (b:=(sets[ib]'hib)[q]'cD) hF.mv hz.mv) ?_;rintro Dn nQ ⟨rfl,jX⟩;refine⟨aW,?_⟩;refine ax 9 ?_ [7];refine kp (bT 0 (bT 1 (bT 6 (bT 8 (bT 9 (bT 12 (bT 13 (fD 14 rfl (congrArg Value.bool (by simp only;rw[Pe cD,<-Bool.and_assoc,hok,Bool.true_and])) (bT 15 (fD 16 rfl (eq_int b_) (fL _))))))))))) (yR (q+1,yQ) _ ⟨aD,hF.mv,hT.mv,hl.mv,hz.mv,ho.mv,hd.mv⟩ aD)
    rw[hok];refine bX [] (yQ) [1,3,5,7,9,11,13,15,17,19,21,23,25,27,29,31,33,34,37,39] bP ?_;intro oh mq;refine ah 17 ?_;refine nz ?_;refine mb (k8 120 (mV 127 #[105,112,119] #[27,55,55]) 1 true) rfl rfl aW ?_;refine ck ?_;refine ax 9 ?_ [7];refine kp (bT 0 (bT 1 (bT 6 (bT 8 (bT 9 (bT 12 (bT 13 (fD 14 rfl (congrArg Value.bool (by simp only;rw[Pe cD,<-Bool.and_assoc,hok];rfl)) (bT 15 (fD 16 rfl (eq_int b_) (fL _))))))))))) (yR (q+1,yQ) _ ⟨aD,hF.mv,hT.mv,hl.mv,hz.mv,ho.mv,hd.mv⟩ aD)
   have cD:q=(sets[ib]'hib).length:=by omega
   refine aB 7 ?_ [7];refine kp (bT 0 (bT 1 (bT 6 (bT 8 (bT 9 (bT 12 (bT 13 (fD 14 rfl (congrArg Value.bool (by simp only;rw[Pe ze,cD,List.take_length])) (fD 15 rfl (eq_int b_) (fL _)))))))))) (pg (a+1,yQ) _ ⟨aD,hF,hT,hl,hz,ho,hd⟩ aD)
  have ze:a=(sets[ga]'lZ).length:=by omega
  refine aB 5 ?_ [1];refine f_ 122 rfl (λJp=>?_) (λJp=>?_)
  ·
   have hfit:Fm ds (sets[ga]'lZ) (sets[ib]'hib)=true:=by rw[ze,List.take_length] at Jp;exact Jp
   rw[if_pos hfit] at Ck;refine aB 6 ?_ [1];refine cg (ι:=Nat×(Nat->Nat)) (λx w=>x.1<=(sets[ib]'hib).length/\aF w x.2/\av [2,3,4,5,6,7,8,9] w₀ (aI C) w x.2/\aq w (aj x.2) l aC/\aq w (aj x.2) ds bW/\aQ w x.2 4 52 vs (sets.set ga (((sets[ib]'hib).take x.1).foldl fF (sets[ga]'lZ)))/\aQ w x.2 5 4 vd (rC l (is++[m]))) (λx=>[(0,aC),(1,bW),(6,vs),(8,vd),(9,.int .i64 c),(12,.int .i64 ga),(13,.int .i64 ib),(17,.int .i64 x.1)]) (λx=>(sets[ib]'hib).length-x.1) (0,ur) ?_ ?_
   · exact⟨Nat.zero_le _,hF,hT,hl,hz,(by simp only[List.take_zero,List.foldl_nil,List.set_getElem_self];exact ho),hd⟩
   intro⟨j,FL⟩ mJ hI LM;obtain⟨hj,hF,hT,hl,hz,ho,hd⟩:=hI;try simp only at hj hF hT hl hz ho hd
   show Run _ _ _ _ [(0,aC),(1,bW),(6,vs),(8,vd),(9,.int .i64 c),(12,.int .i64 ga),(13,.int .i64 ib),(17,.int .i64 j)] _ _;have hfl:=aaQ ((sets[ib]'hib).take j) (sets[ga]'lZ);rw[List.length_take] at hfl;have qS: (sets.set ga (((sets[ib]'hib).take j).foldl fF (sets[ga]'lZ))).length=sets.length:=List.length_set;refine aA 6 ?_ [111];refine c6 ho ?_;intro F5 agM;refine xI ho agM ?_;intro _ v127 Mb;rw[List.getElem_set_ne hik] at Mb;refine dE Mb.ln ?_;refine ax 2 ?_;refine a_ 129 rfl (λagO=>?_) (λagO=>?_)
   ·
    have hjl:j<(sets[ib]'hib).length:=by omega
    refine aB 3 ?_;refine bX [] (FL) [1,3,5,7,9,11,13,15,17,19,21,23,25,26,29,30] bP ?_;intro qC lU;refine ah 4 ?_;refine c6 ho.mv ?_;intro als agQ;refine qT ho.mv agQ ?_;intro _ alu Z0;rw[List.getElem_set_self] at Z0;refine ah 2 ?_;refine c6 ho.mv ?_;intro alv agR;refine qT ho.mv agR ?_;intro _ v141 Z1;rw[List.getElem_set_ne hik] at Z1;refine ah 1 ?_;refine aL Z1 ?_;intro _ alw alx agS;refine cn agS ?_;intro aly agV;obtain rfl:=bV.1 agV;refine gl Tryz.call56 rfl (Ef (c:=(sets[ib]'hib)[j]'hjl) hF.mv Z0 af) ?_;rintro RG tO ⟨nh,hq1⟩;refine⟨aW,?_⟩;refine c6 ho.mv ?_;intro alz agW;refine gU rfl ?_;refine bM (gQ ho.mv agW af rfl rfl ai hq1) ?_;rintro _ wN ⟨rfl,oJ,ho⟩;refine ax 1 ?_;rw[List.set_set,show fF (((sets[ib]'hib).take j).foldl fF (sets[ga]'lZ)) ((sets[ib]'hib)[j]'hjl)=((sets[ib]'hib).take (j+1)).foldl fF (sets[ga]'lZ) from by rw[List.take_succ_eq_append_getElem hjl,List.foldl_append];rfl] at ho;refine aB 6 ?_ [7];refine bC (LM (j+1,FL) _ ⟨aD,hF.mv,hT.mv,hl.mv,hz.mv,ho,hd.mv⟩ aD)
   have hjl:j=(sets[ib]'hib).length:=by omega
   rw[hjl,List.take_length] at ho;have alA: (sets.set ga ((sets[ib]'hib).foldl fF (sets[ga]'lZ))).length=sets.length:=List.length_set;refine aA 4 ?_ [7];refine c6 ho ?_;intro alB agX;refine bM (gQ ho agX af rfl rfl ai eT) ?_;rintro _ wO ⟨rfl,nR,ho⟩;refine ax 7 ?_ [7];refine bC (eD (c+1,is++[m],(sets.set ga ((sets[ib]'hib).foldl fF (sets[ga]'lZ))).set ib [],vs,vd,FL) _ ⟨aD,(by rw[List.length_append,dM];rfl),Ck,hF.mv,hT.mv,hl.mv,hz.mv,ho,hd.mv⟩ aD)
  have hfit:Fm ds (sets[ga]'lZ) (sets[ib]'hib)=false:=by rw[ze,List.take_length] at Jp;exact Jp
  rw[if_neg (by rw[hfit];decide)] at Ck;refine aB 7 ?_ [7];refine bC (eD (c+1,is++[m],sets,vs,vd,ur) _ ⟨aD,(by rw[List.length_append,dM];rfl),Ck,hF,hT,hl,hz,ho,hd⟩ aD)
 have agY:is.length=l.length:=by omega
 obtain⟨gg,_,_,hsl⟩:=lP.gr;have hrl:=oD l;replace hF:=hF.bO 4;replace hl:=hl.bO 4;replace hz:=hz.bO 4;replace hT:=hT.bO (n:=4) (λb=>Nat.lt_of_lt_of_le (zl C b) ak);clear hd;have Jq:=ho.bO (n:=4) ak af;clear ho;have hp:=Jq;clear Jq;refine aA 4 ?_ [5];refine cz Tryz.call74 rfl (RW hF hp af) ?_;rintro j4 wP ⟨om,hq⟩;rw[lP.fin agY] at hq;refine ax 2 ?_;refine bg Tryz.func73 ?_;exact⟨hT.o1,hq.out hT.mv aO (er C)⟩
theorem agZ {w₀:World} {C:Nat->Nat} {l:List aH} {ds:List bp} {aC bW:Value} (hF:aF w₀ C) (hl:aq w₀ (aj C) l aC) (hz:aq w₀ (aj C) ds bW):Calls Tryz.prog 39 #[aC,bW] w₀ (aZ λv w'=>∃u,v=.tuple #[u,.int .i64 (iP (dK ds) l ds).2.1,.int .i64 (iP (dK ds) l ds).2.2]/\av [] w₀ C w' C/\aq w' (aj C) (iP (dK ds) l ds).1 u):=by
 have aO:=hF;replace hF:=hF.aI;replace hl:=hl.c1;replace hz:=hz.c1;refine bG Tryz.func39 ?_;refine aA 11 ?_ [7,11];refine bD Tryz.call71 (age hF hl hz) ?_;rintro kQ w1 ⟨rfl,s_1⟩;refine ax 7 ?_ [3];refine a_ 16 rfl (λcZ=>?_) (λcZ=>?_)
 ·
  refine aB 7 ?_ [15];refine DN ai Tryz.func39 Tryz.results39 rfl rfl rfl ?_;exact⟨_,by rw[Lj cZ],(z9 w₀ C).o1,by rw[Lj cZ];exact eT⟩
 have hE:iY l ds=0:=Classical.not_not.1 cZ;have hV:=HP (BO hE).1;have lF:=hV.1;refine aA 4 ?_ [125];refine cz Tryz.call47 rfl (agb hF.mv hl.mv af) ?_;rintro fP w2 ⟨u,rfl,s_2,hsp⟩;rw[if_pos (BO hE).1] at hsp;refine ax 16 ?_ [1,1];refine cg (ι:=Nat×Value×(Nat->Nat)) (λx w=>x.1<=(aY l).length/\aF w x.2.2/\av [2,3,4,5,6,7,8,9] w₀ (aI C) w x.2.2/\aq w (aj x.2.2) l aC/\aq w (aj x.2.2) ds bW/\aq w (aj x.2.2) (aY l) u/\aQ w x.2.2 4 52 x.2.1 (eE (dK ds) ((aY l).take x.1))) (λx=>[(0,aC),(1,bW),(8,u),(10,x.2.1),(11,.int .i64 x.1)]) (λx=>(aY l).length-x.1) (0,.slice none 0 0,aI C) ?_ ?_
 · exact⟨Nat.zero_le _,hF.mv,(z9 w₀ C).mv,hl.mv,hz.mv,hsp,aQ.nil⟩
 intro⟨i,bz,aK⟩ w3 hI bu;obtain⟨hi,hF,hT,hl,hz,hsp,ho⟩:=hI;try simp only at hi hF hT hl hz hsp ho
 show Run _ _ _ _ [(0,aC),(1,bW),(8,u),(10,bz),(11,.int .i64 i)] _ _;have hle:=hsp.le;refine aA 5 ?_ [15];refine dE hsp.ln ?_;refine ax 2 ?_;refine a_ 26 rfl (λkI=>?_) (λkI=>?_)
 ·
  have hil:i<(aY l).length:=by omega
  refine aA 7 ?_ [103];refine aL hsp ?_;intro _ DQ DR jA;refine dW jA ?_;intro v32 uj;have Jr:=E2 hV hil;have hsh:=OX hil;refine cz Tryz.call25 rfl (Mj hF uj af) ?_;rintro gZ w4 ⟨cq,hrf⟩;refine dE hrf.ln ?_;refine ax 2 ?_;refine a_ 35 rfl (λgj=>?_) (λgj=>?_)
  ·
   have hw1: (dK ds ((aY l)[i]'hil)).1=rj ((aY l)[i]'hil) ds:=by unfold dK;rw[if_pos af]
   refine aA 4 ?_ [303];refine aL hsp.mv ?_;intro _ P7 P8 oU;refine dW oU ?_;intro v40 qf;refine ah 1 ?_;try have Jr:=E2 hV hil
   try have hsh:=OX hil
   refine cz Tryz.call72 rfl (agx hF.mv qf hz.mv af (Li Jr) Jr.1 (aaZ Jr)) ?_;rintro ag0 dc ⟨cI,Js⟩;refine aR (eO (e:=52) (bytes:=24) hF.mv ak rfl rfl ai ak ho.mv Js (by have h1:=Dv (wf:=dK ds) (ps:=aY l) (i+1);rw[z_ hil,List.length_append] at h1;have h2:=Dw (l:=l) (ds:=ds) (wf:=dK ds) (λi hi=>ye ds _);have h3:=oD l;first|omega|(rw[hw1] at h1;omega)) (by have h1:=Dv (wf:=dK ds) (ps:=aY l) (i+1);rw[z_ hil,List.length_append] at h1;have h2:=Dw (l:=l) (ds:=ds) (wf:=dK ds) (λi hi=>ye ds _);have h3:=oD l;first|omega|(rw[hw1] at h1;omega))) ?_;rintro B6 ei ⟨yd,de,ho,hF⟩;refine ax 8 ?_ [7];refine bC (bu (i+1,B6,yd) _ ⟨aD,hF,hT.mv,hl.mv,hz.mv,hsp.mv,(by simp only;rw[z_ hil,hw1];exact ho)⟩ aD)
  have hw1: (dK ds ((aY l)[i]'hil)).1=sY ((aY l)[i]'hil) ds:=by unfold dK;rw[if_neg af]
  refine aA 4 ?_ [303];refine aL hsp.mv ?_;intro _ FF FG uh;refine dW uh ?_;intro DP lE;refine ah 1 ?_;refine bD Tryz.call73 (agz hF.mv lE hz.mv Jr.1) ?_;rintro ag0 w7 ⟨ej,Js⟩;refine aR (eO (e:=52) (bytes:=24) hF.mv ak rfl rfl ai ak ho.mv Js (by have h1:=Dv (wf:=dK ds) (ps:=aY l) (i+1);rw[z_ hil,List.length_append] at h1;have h2:=Dw (l:=l) (ds:=ds) (wf:=dK ds) (λi hi=>ye ds _);have h3:=oD l;first|omega|(rw[hw1] at h1;omega)) (by have h1:=Dv (wf:=dK ds) (ps:=aY l) (i+1);rw[z_ hil,List.length_append] at h1;have h2:=Dw (l:=l) (ds:=ds) (wf:=dK ds) (λi hi=>ye ds _);have h3:=oD l;first|omega|(rw[hw1] at h1;omega))) ?_;rintro v51 fk ⟨xd,eS,ho,hF⟩;refine ax 8 ?_ [7];refine bC (bu (i+1,v51,xd) _ ⟨aD,hF,hT.mv,hl.mv,hz.mv,hsp.mv,(by simp only;rw[z_ hil,hw1];exact ho)⟩ aD)
 have hil:i=(aY l).length:=by omega
 rw[hil,List.take_length] at ho;have h2:=Dw (l:=l) (ds:=ds) (wf:=dK ds) (λi hi=>ye ds _);have h3:=oD l;replace hF:=hF.bO 4;replace hl:=hl.bO 4;replace hz:=hz.bO 4;replace hsp:=hsp.bO 4;replace hT:=hT.bO (n:=4) (λb=>Nat.lt_of_lt_of_le (zl C b) ak);have Jq:=ho.bO (n:=4) ak af;clear ho;have hp:=Jq;clear Jq;refine aA 4 ?_ [5];refine cz Tryz.call74 rfl (RW hF hp af) ?_;rintro j4 fJ ⟨fA,hq⟩;refine bh 7 ?_ [119];have s7:=Hr (Li hV) (jL (eE (dK ds) (aY l))) l.length (Nat.le_refl _);rw[E3] at s7;refine bD Tryz.call55 (ZQ hF.mv hl.mv hq) ?_;rintro vK gn ⟨rfl,fT⟩;rw[Pp af af];refine ax 4 ?_;refine DN ai Tryz.func39 Tryz.results39 rfl rfl rfl ?_;exact⟨_,by rw[HQ hE (λk hk=>HR ds _)],hT.o1,by rw[HQ hE (λk hk=>HR ds _)];exact hq.mv.out hT.mv aO (er C)⟩
end
end Go.Proofs.YtmdhggfehknjjaaGreat
namespace Go.Proofs.YtmdhggfehknjjaaGreat
open Go.K Go.K.bn
end Go.Proofs.YtmdhggfehknjjaaGreat
namespace Go.Proofs.YtmdhggfehknjjaaGreat
open Go.K Go.K.bn
noncomputable section
theorem Z2 {w₀:World} {C:Nat->Nat} {i b:Nat} {lo hi:Int} (hF:aF w₀ C) (xo:i≠0) (hd:eX w₀ C i b) (h1:lo<=hi) (h2:-1000000000<=lo) (h3:hi<=1000000000):
  Calls Tryz.prog 59 #[.pointer (some ⟨b,0,none⟩),.int .i64 lo,.int .i64 hi] w₀ (aZ λv w'=>∃n:Int,v=.int .i64 n/\lo<=n/\n<=hi/\av [i] w₀ C w' C/\eX w' C i b):=by
 have aO:=hF;have hbc:=hd.uW;replace hd:=hd.cv xo;replace hF:=hF.cv i;refine bG Tryz.func59 ?_;refine aA 12 ?_ [1,447];refine cz Tryz.call26 rfl (lQ (n:=hi-lo+1) hF ak hd af af) ?_;rintro kQ w1 ⟨k,rfl,hk,s_1,hd⟩;refine ax 3 ?_;refine bg Tryz.func59 ?_;exact⟨_,rfl,by omega,by omega,(av.refl [2,3,4,5,6,7,8,9] w₀ (cv C i)).o2,hd.out (av.refl [2,3,4,5,6,7,8,9] w₀ (cv C i)).mv aO hbc⟩
theorem ag1 {w₀:World} {C:Nat->Nat} {i b:Nat} (hF:aF w₀ C) (hi:i≠0) (hd:eX w₀ C i b):
   Calls Tryz.prog 40 #[.pointer (some ⟨b,0,none⟩)] w₀ (aZ λv w'=>∃c:au,v=.agg (aV c).toArray/\av [i] w₀ C w' C/\eX w' C i b):=by
 have aO:=hF;have hbc:=hd.uW;replace hd:=hd.cv hi;replace hF:=hF.cv i;refine bG Tryz.func40 ?_;refine aA 2 ?_ [0];refine aR (dn (cs:=[.int .i64 0,.int .i64 0]) hF 3 ai) ?_;rintro _ w1 ⟨cm,bq,rfl,s_1,hx,hF⟩;refine bh 5 ?_ [1];refine cz Tryz.call15 rfl (Di hF ak hd.mv ak ak) ?_;rintro fP w2 ⟨t,rfl,s_2,hd⟩;refine ax 1 ?_;refine f_ 4 rfl (λh4=>?_) (λh4=>?_)
 ·
  refine aA 3 ?_ [21];refine cz Tryz.call59 rfl (Z2 (lo:=-1) (hi:=4) hF.mv ak hd ak ak ak) ?_;rintro iu w3 ⟨x,rfl,_,_,cq,hd⟩;refine ah 1 ?_;refine cz Tryz.call59 rfl (Z2 (lo:=-1) (hi:=2) hF.mv ak hd ak ak ak) ?_;rintro fS w4 ⟨y,rfl,_,_,cI,hd⟩;refine aP (λ_=>eW (zs:=[.int .i64 0,.int .i64 0]) (ps:=[(0,1),(1,1)]) (c4:=[(0,[.int .i64 x]),(1,[.int .i64 y])]) (cs:=[.int .i64 x,.int .i64 y]) ai ai ⟨rfl,⟨_,rfl,rfl⟩,rfl,⟨_,rfl,rfl⟩,trivial⟩ rfl) ?_;refine bM (cC (vs:=aV ⟨x,y⟩) (n:=2) rfl rfl ai rfl rfl (fE rfl) hx.mv rfl) ?_;rintro _ dc ⟨rfl,de,hx⟩;refine ax 1 ?_;refine rS ai Tryz.func40 Tryz.results40 rfl hx.at_ ai ai rfl ?_;exact⟨_,rfl,(av.refl [2,3,4,5,6,7,8,9] w₀ (cv C i)).o2,hd.mv.out (av.refl [2,3,4,5,6,7,8,9] w₀ (cv C i)).mv aO hbc⟩
 refine aA 4 ?_ [53];refine cz Tryz.call26 rfl (lQ (n:=3) hF.mv ak hd af af) ?_;rintro lz ei ⟨p,rfl,hp,ej,hd⟩;refine ah 1 ?_;refine cz Tryz.call26 rfl (lQ (n:=4) hF.mv ak hd af af) ?_;rintro jJ w7 ⟨p2,rfl,hp2,eS,hd⟩;refine ah 1 ?_;refine aP (λ_=>eW (zs:=[.int .i64 0,.int .i64 0]) (ps:=[(0,1),(1,1)]) (c4:=[(0,[.int .i64 (p:Int)]),(1,[.int .i64 (1+(p2:Int))])]) (cs:=[.int .i64 (p:Int),.int .i64 (1+(p2:Int))]) ai ai ⟨rfl,⟨_,rfl,rfl⟩,rfl,⟨_,rfl,rfl⟩,trivial⟩ rfl) ?_;refine bM (cC (vs:=aV ⟨(p:Int),1+(p2:Int)⟩) (n:=2) rfl rfl ai rfl rfl (fE rfl) hx.mv rfl) ?_;rintro _ fk ⟨rfl,fA,hx⟩;refine ax 1 ?_;refine rS ai Tryz.func40 Tryz.results40 rfl hx.at_ ai ai rfl ?_;exact⟨_,rfl,(av.refl [2,3,4,5,6,7,8,9] w₀ (cv C i)).o2,hd.mv.out (av.refl [2,3,4,5,6,7,8,9] w₀ (cv C i)).mv aO hbc⟩
theorem Z3 {w₀:World} {C:Nat->Nat} {xs ys:List aH} {bz bH:Value} (hF:aF w₀ C) (ha:aq w₀ (aj C) xs bz) (hb:aq w₀ (aj C) ys bH):Calls Tryz.prog 85 #[bz,bH] w₀ (aZ λv w'=>v=.bool (decide (xs=ys))/\av [] w₀ C w' C):=by
 have aO:=hF;replace hF:=hF.aI;replace ha:=ha.c1;replace hb:=hb.c1;refine bG Tryz.func85 ?_;refine aA 8 ?_ [1,31];refine dE ha.ln ?_;refine ah 1 ?_;refine dE hb.ln ?_;refine ax 2 ?_;refine a_ 10 rfl (λgq=>?_) (λgq=>?_)
 ·
  have hne:xs≠ys:=λe=>by rw[e] at gq;exact gq rfl
  refine aB 4 ?_ [1];refine bg Tryz.func85 ?_;exact⟨by rw[decide_eq_false hne],(z9 w₀ C).o1⟩
 have kE:xs.length=ys.length:=by omega
 refine aA 5 ?_ [7];refine dE ha.ln ?_;refine ax 3 ?_;refine cg (ι:=Nat×(Nat->Nat)) (λx w=>x.1<=xs.length/\(∀i (hi:i<x.1) (h1:i<xs.length) (h2:i<ys.length),xs[i]=ys[i])/\aF w x.2/\av [2,3,4,5,6,7,8,9] w₀ (aI C) w x.2/\aq w (aj x.2) xs bz/\aq w (aj x.2) ys bH) (λx=>[(0,bz),(1,bH),(12,.int .i64 xs.length),(13,.int .i64 x.1)]) (λx=>xs.length-x.1) (0,aI C) ?_ ?_
 · exact⟨Nat.zero_le _,λi hi=>by simp only at hi;omega,hF,(z9 w₀ C),ha,hb⟩
 intro⟨k,aK⟩ w1 hI bu;obtain⟨hk,h0,hF,hT,ha,hb⟩:=hI;try simp only at hk h0 hF hT ha hb
 show Run _ _ _ _ [(0,bz),(1,bH),(12,.int .i64 xs.length),(13,.int .i64 k)] _ _;have hle:=ha.le;refine aB 5 ?_ [1];refine a_ 14 rfl (λeR=>?_) (λeR=>?_)
 ·
  have ay:k<xs.length:=by omega
  have ng:k<ys.length:=by omega
  refine aB 9 ?_ [3];refine bX [] (aK) [1,3,5,7,9,11,13,15,17] bP ?_;intro w2 s_1;refine ah 2 ?_;refine aL ha.mv ?_;intro _ Z4 Z5 lW;refine cn lW ?_;intro yY g19;refine ah 2 ?_;refine aL hb.mv ?_;intro _ Ap Ie eZ;refine cn eZ ?_;intro v23 g23;obtain rfl:=jU.1 g19;obtain rfl:=jU.1 g23;refine aP (λ_=>Vx (a:=_) (b:=_) Tryz.underlying58 ak ak ak ai (GF Tryz.underlying55 ak ak ai Tryz.underlying3) Tryz.underlying3 ai ai ai rfl rfl) ?_;refine ax 1 ?_;refine a_ 24 rfl (λfM=>?_) (λfM=>?_)
  ·
   have hne:xs≠ys:=λe=>fM (by subst e;rfl);refine aB 4 ?_ [1];refine bg Tryz.func85 ?_;exact⟨by rw[decide_eq_false hne],hT.o1⟩
  have Jt:xs[k]=ys[k]:=Classical.not_not.1 fM;refine aB 6 ?_ [3];refine bC (bu (k+1,aK) _ ⟨aD,(λi hi h1 h2=>by
    simp only at hi;by_cases e:i=k
    ·subst e;exact Jt
    ·exact h0 i af h1 h2),hF.mv,hT.mv,ha.mv,hb.mv⟩ aD)
 have ay:k=xs.length:=by omega
 have heq:xs=ys:=O4 kE (λi h1 h2=>h0 i af h1 h2);refine aB 5 ?_ [1];refine bg Tryz.func85 ?_;exact⟨by rw[decide_eq_true heq],hT.o1⟩
theorem ag2 {w₀:World} {C:Nat->Nat} {xs ys:List CC} {bz bH:Value} (hF:aF w₀ C) (ha:aq w₀ (aj C) xs bz) (hb:aq w₀ (aj C) ys bH):Calls Tryz.prog 87 #[bz,bH] w₀ (aZ λv w'=>v=.bool (decide (xs=ys))/\av [] w₀ C w' C):=by
 have aO:=hF;replace hF:=hF.aI;replace ha:=ha.c1;replace hb:=hb.c1;refine bG Tryz.func87 ?_;refine aA 8 ?_ [1,31];refine dE ha.ln ?_;refine ah 1 ?_;refine dE hb.ln ?_;refine ax 2 ?_;refine a_ 10 rfl (λgq=>?_) (λgq=>?_)
 ·
  have hne:xs≠ys:=λe=>by rw[e] at gq;exact gq rfl
  refine aB 4 ?_ [1];refine bg Tryz.func87 ?_;exact⟨by rw[decide_eq_false hne],(z9 w₀ C).o1⟩
 have kE:xs.length=ys.length:=by omega
 refine aA 5 ?_ [7];refine dE ha.ln ?_;refine ax 3 ?_;refine cg (ι:=Nat×(Nat->Nat)) (λx w=>x.1<=xs.length/\(∀i (hi:i<x.1) (h1:i<xs.length) (h2:i<ys.length),xs[i]=ys[i])/\aF w x.2/\av [2,3,4,5,6,7,8,9] w₀ (aI C) w x.2/\aq w (aj x.2) xs bz/\aq w (aj x.2) ys bH) (λx=>[(0,bz),(1,bH),(12,.int .i64 xs.length),(13,.int .i64 x.1)]) (λx=>xs.length-x.1) (0,aI C) ?_ ?_
 · exact⟨Nat.zero_le _,λi hi=>by simp only at hi;omega,hF,(z9 w₀ C),ha,hb⟩
 intro⟨k,aK⟩ w1 hI bu;obtain⟨hk,h0,hF,hT,ha,hb⟩:=hI;try simp only at hk h0 hF hT ha hb
 show Run _ _ _ _ [(0,bz),(1,bH),(12,.int .i64 xs.length),(13,.int .i64 k)] _ _;have hle:=ha.le;refine aB 5 ?_ [1];refine a_ 14 rfl (λeR=>?_) (λeR=>?_)
 ·
  have ay:k<xs.length:=by omega
  have ng:k<ys.length:=by omega
  refine aB 9 ?_ [3];refine bX [] (aK) [1,3,5,7,9,11,13,15,17] bP ?_;intro w2 s_1;refine ah 2 ?_;refine aL ha.mv ?_;intro _ Z4 Z5 lW;refine cn lW ?_;intro yY g19;refine ah 2 ?_;refine aL hb.mv ?_;intro _ Ap Ie eZ;refine cn eZ ?_;intro v23 g23;obtain rfl:=Dx.1 g19;obtain rfl:=Dx.1 g23;refine aP (λ_=>Wp (a:=_) (b:=_) (O2 Tryz.underlying138 ak ak ai Tryz.underlying55 ak ak ai Tryz.underlying3 ai ai) ai rfl rfl) ?_;refine ax 1 ?_;refine a_ 24 rfl (λfM=>?_) (λfM=>?_)
  ·
   have hne:xs≠ys:=λe=>fM (by subst e;rfl);refine aB 4 ?_ [1];refine bg Tryz.func87 ?_;exact⟨by rw[decide_eq_false hne],hT.o1⟩
  have Jt:xs[k]=ys[k]:=Classical.not_not.1 fM;refine aB 6 ?_ [3];refine bC (bu (k+1,aK) _ ⟨aD,(λi hi h1 h2=>by
    simp only at hi;by_cases e:i=k
    ·subst e;exact Jt
    ·exact h0 i af h1 h2),hF.mv,hT.mv,ha.mv,hb.mv⟩ aD)
 have ay:k=xs.length:=by omega
 have heq:xs=ys:=O4 kE (λi h1 h2=>h0 i af h1 h2);refine aB 5 ?_ [1];refine bg Tryz.func87 ?_;exact⟨by rw[decide_eq_true heq],hT.o1⟩
namespace ag3
def c0:=qQ Tryz.f42
end ag3
theorem ag4 {w₀:World} {C:Nat->Nat} {c0:Nat} (hF:aF w₀ C) (hw:aq w₀ (aj C) ([]:List aH) (.slice none 0 c0)):Calls Tryz.prog 42 #[.slice none 0 c0] w₀ (aZ λv w'=>av [] w₀ C w' C/\aq w' (aj C) ([]:List aH) v):=by
 have aO:=hF;replace hF:=hF.aI;replace hw:aq w₀ (aj (aI C)) ([]:List aH) (.slice none 0 c0):=by rw[er];exact hw
 refine bG Tryz.func42 ?_;refine aA 8 ?_ [1,3];refine aP (λ_=>OO rfl Tryz.underlying23) ?_;refine ax 6 ?_ [1];refine bg Tryz.func42 ?_;exact⟨(z9 w₀ C).o1,eT⟩
theorem ag5 {w₀:World} {C:Nat->Nat} {px:Value} (hF:aF w₀ C) (hw:aq w₀ (aj C) ([]:List aH) px) {b0:Addr} {c0:Nat} (ox:px=.slice (some b0) 0 c0):Calls Tryz.prog 42 #[px] w₀ (aZ λv w'=>av [] w₀ C w' C/\aq w' (aj C) ([]:List aH) v):=by
 have aO:=hF;replace hF:=hF.aI;replace hw:aq w₀ (aj (aI C)) ([]:List aH) px:=by rw[er];exact hw
 refine bG Tryz.func42 ?_;refine aA 8 ?_ [1,3];refine aP (λ_=>Du ((show _=some px from rfl).trans (congrArg some ox)) Tryz.underlying23) ?_;refine bh 5 ?_ [10];refine aR (E_ (n:=5) (e:=58) (bytes:=40) hF ai) ?_;rintro _ w1 ⟨⟨a5,rfl⟩,s_1,hF⟩;refine ah 1 ?_;refine aR (VZ (α:=aH) (C:=aI C) (e:=58) (bytes:=40) rfl rfl ai hw.mv) ?_;rintro tg w2 ⟨rfl,s_2⟩;refine ax 2 ?_;refine bg Tryz.func42 ?_;exact⟨(z9 w₀ C).o1,Fa⟩
theorem ag6 {w₀:World} {C:Nat->Nat} {xs:List aH} {px:Value} (hF:aF w₀ C) (hw:aq w₀ (aj C) xs px) (hne:xs≠[]) (hlen:xs.length<=1000000):Calls Tryz.prog 42 #[px] w₀ (aZ λv w'=>av [] w₀ C w' C/\aq w' (aj C) xs v):=by
 have aO:=hF;replace hF:=hF.aI;replace hw:=hw.c1;obtain⟨a0,c0,ox,D7,_,hs0⟩:=kT.1 hw;obtain⟨b0,rfl⟩:∃b,a0=some b:=by
  rcases hs0 with h|⟨b,o,rfl,_⟩
  ·exact absurd h hne
  exact⟨_,rfl⟩
 clear hs0;refine bG Tryz.func42 ?_;refine aA 8 ?_ [1,3];refine aP (λ_=>Du ((show _=some px from rfl).trans (congrArg some ox)) Tryz.underlying23) ?_;refine bh 5 ?_ [10];refine aR (E_ (n:=5) (e:=58) (bytes:=40) hF ai) ?_;rintro _ w1 ⟨⟨a5,rfl⟩,s_1,hF⟩;refine ah 1 ?_;refine aR (GU (j:=5) (e:=58) (bytes:=40) (ys:=([]:List aH)) hF ak rfl rfl ai ak Fa hw.mv hne xA xA) ?_;rintro tg w2 ⟨cw,s_2,hn,hF⟩;refine ax 2 ?_;simp only[List.nil_append] at hn;refine bg Tryz.func42 ?_;exact⟨(z9 w₀ C).o1,hn.out (z9 w₀ C).mv aO (er C) (λb _=>gI C ak b) af⟩
theorem Z6 {w₀:World} {C:Nat->Nat} {xs:List aH} {px:Value} (hF:aF w₀ C) (hw:aq w₀ (aj C) xs px) (hlen:xs.length<=1000000):Calls Tryz.prog 42 #[px] w₀ (aZ λv w'=>av [] w₀ C w' C/\aq w' (aj C) xs v):=by
 by_cases hne:xs=[]
 ·subst hne;obtain⟨a0,c0,ox,D7,_,hs0⟩:=kT.1 hw;have e0:px=.slice a0 0 c0:=ox;rcases a0 with _|b0
  ·subst e0;exact ag4 hF hw
  ·exact ag5 hF hw e0
 ·exact ag6 hF hw hne hlen
namespace ag7
def c0:=qQ Tryz.f150
end ag7
theorem ag8 {w₀:World} {C:Nat->Nat} {c0:Nat} (hF:aF w₀ C) (hw:aq w₀ (aj C) ([]:List au) (.slice none 0 c0)):Calls Tryz.prog 150 #[.slice none 0 c0] w₀ (aZ λv w'=>av [] w₀ C w' C/\aq w' (aj C) ([]:List au) v):=by
 have aO:=hF;replace hF:=hF.aI;replace hw:aq w₀ (aj (aI C)) ([]:List au) (.slice none 0 c0):=by rw[er];exact hw
 refine bG Tryz.func150 ?_;refine aA 8 ?_ [1,3];refine aP (λ_=>OO rfl Tryz.underlying52) ?_;refine ax 6 ?_ [1];refine bg Tryz.func150 ?_;exact⟨(z9 w₀ C).o1,eT⟩
theorem ag9 {w₀:World} {C:Nat->Nat} {px:Value} (hF:aF w₀ C) (hw:aq w₀ (aj C) ([]:List au) px) {b0:Addr} {c0:Nat} (ox:px=.slice (some b0) 0 c0):Calls Tryz.prog 150 #[px] w₀ (aZ λv w'=>av [] w₀ C w' C/\aq w' (aj C) ([]:List au) v):=by
 have aO:=hF;replace hF:=hF.aI;replace hw:aq w₀ (aj (aI C)) ([]:List au) px:=by rw[er];exact hw
 refine bG Tryz.func150 ?_;refine aA 8 ?_ [1,3];refine aP (λ_=>Du ((show _=some px from rfl).trans (congrArg some ox)) Tryz.underlying52) ?_;refine bh 5 ?_ [10];refine aR (E_ (n:=2) (e:=55) (bytes:=16) hF ai) ?_;rintro _ w1 ⟨⟨a5,rfl⟩,s_1,hF⟩;refine ah 1 ?_;refine aR (VZ (α:=au) (C:=aI C) (e:=55) (bytes:=16) rfl rfl ai hw.mv) ?_;rintro tg w2 ⟨rfl,s_2⟩;refine ax 2 ?_;refine bg Tryz.func150 ?_;exact⟨(z9 w₀ C).o1,Fa⟩
theorem ag_ {w₀:World} {C:Nat->Nat} {xs:List au} {px:Value} (hF:aF w₀ C) (hw:aq w₀ (aj C) xs px) (hne:xs≠[]) (hlen:xs.length<=1000000):Calls Tryz.prog 150 #[px] w₀ (aZ λv w'=>av [] w₀ C w' C/\aq w' (aj C) xs v):=by
 have aO:=hF;replace hF:=hF.aI;replace hw:=hw.c1;obtain⟨a0,c0,ox,D7,_,hs0⟩:=kT.1 hw;obtain⟨b0,rfl⟩:∃b,a0=some b:=by
  rcases hs0 with h|⟨b,o,rfl,_⟩
  ·exact absurd h hne
  exact⟨_,rfl⟩
 clear hs0;refine bG Tryz.func150 ?_;refine aA 8 ?_ [1,3];refine aP (λ_=>Du ((show _=some px from rfl).trans (congrArg some ox)) Tryz.underlying52) ?_;refine bh 5 ?_ [10];refine aR (E_ (n:=2) (e:=55) (bytes:=16) hF ai) ?_;rintro _ w1 ⟨⟨a5,rfl⟩,s_1,hF⟩;refine ah 1 ?_;refine aR (GU (j:=5) (e:=55) (bytes:=16) (ys:=([]:List au)) hF ak rfl rfl ai ak Fa hw.mv hne xA xA) ?_;rintro tg w2 ⟨cw,s_2,hn,hF⟩;refine ax 2 ?_;simp only[List.nil_append] at hn;refine bg Tryz.func150 ?_;exact⟨(z9 w₀ C).o1,hn.out (z9 w₀ C).mv aO (er C) (λb _=>gI C ak b) af⟩
theorem aha {w₀:World} {C:Nat->Nat} {xs:List au} {px:Value} (hF:aF w₀ C) (hw:aq w₀ (aj C) xs px) (hlen:xs.length<=1000000):Calls Tryz.prog 150 #[px] w₀ (aZ λv w'=>av [] w₀ C w' C/\aq w' (aj C) xs v):=by
 by_cases hne:xs=[]
 ·subst hne;obtain⟨a0,c0,ox,D7,_,hs0⟩:=kT.1 hw;have e0:px=.slice a0 0 c0:=ox;rcases a0 with _|b0
  ·subst e0;exact ag8 hF hw
  ·exact ag9 hF hw e0
 ·exact ag_ hF hw hne hlen
theorem ahb {w₀:World} {C:Nat->Nat} {xs:List au} {px:Value} (hF:aF w₀ C) (hw:aq w₀ (aj C) xs px) (hlen:xs.length<=1000000):Calls Tryz.prog 93 #[px] w₀ (aZ λv w'=>av [] w₀ C w' C/\aq w' (aj C) xs v):=by
 have aO:=hF;replace hF:=hF.aI;replace hw:=hw.c1;refine bG Tryz.func93 ?_;refine aA 7 ?_ [1,5];refine bD Tryz.call150 (aha hF hw hlen) ?_;rintro kQ w1 ⟨s_1,hn⟩;refine ax 2 ?_;refine bg Tryz.func93 ?_;exact⟨(z9 w₀ C).o1,hn.out (z9 w₀ C).mv aO (er C)⟩
theorem Z7 {w₀:World} {C:Nat->Nat} {l:List aH} {ds:List bp} {aC bW:Value} (hF:aF w₀ C) (hl:aq w₀ (aj C) l aC) (hz:aq w₀ (aj C) ds bW):Calls Tryz.prog 17 #[aC,bW] w₀ (aZ λv w'=>∃bH cH,v=.tuple #[.agg #[bH,cH,.int .i64 (wV l ds)],.int .i64 (iP (dK ds) l ds).2.2]/\av [] w₀ C w' C/\aq w' (aj C) (Ad l ds) bH/\aq w' (aj C) (Ae l ds) cH):=by
 have aO:=hF;replace hF:=hF.aI;replace hl:=hl.c1;replace hz:=hz.c1;refine bG Tryz.func17 ?_;refine aA 2 ?_ [2];refine aR (dn (cs:=[.slice none 0 0,.slice none 0 0,.int .i64 0]) hF 3 ai) ?_;rintro _ w1 ⟨cm,bq,rfl,s_1,bI,hF⟩;refine bh 6 ?_ [1019];refine bD Tryz.call41 (ZE hF hl.mv hz.mv) ?_;rintro _ w2 ⟨qk,rfl,s_2,hp1⟩;refine ax 14 ?_ [3];refine a_ 17 rfl (λey=>?_) (λey=>?_)
 ·
  refine aA 2 ?_ [11];refine aP (λ_=>eW (zs:=[.slice none 0 0,.slice none 0 0,.int .i64 0]) (ps:=[(0,1),(1,1),(2,1)]) (c4:=[]) (cs:=[.slice none 0 0,.slice none 0 0,.int .i64 0]) ai ai trivial rfl) ?_;refine ah 1 ?_;refine bM (cC (vs:=[.slice none 0 0,.slice none 0 0,.int .i64 0]) (n:=3) rfl rfl ai rfl rfl (by intro u hu;simp only[List.mem_cons,List.not_mem_nil,or_false] at hu;rcases hu with rfl|rfl|rfl<;>first|rfl) bI.mv rfl) ?_;rintro _ w3 ⟨rfl,cq,bI⟩;refine ax 2 ?_;refine kM ai Tryz.func17 Tryz.results17 rfl rfl bI.at_ ai ai rfl ?_;exact⟨.slice none 0 0,.slice none 0 0,by rw[(Fp ey).2.2.1];rfl,(z9 w₀ C).o1,by rw[(Fp ey).1];exact eT,by rw[(Fp ey).2.1];exact eT⟩
 have hE: (iP (dK ds) l ds).2.2=0:=Classical.not_not.1 ey;have lF:=Xb hE;refine aA 4 ?_ [93];refine cz Tryz.call42 rfl (Z6 hF.mv hl.mv af) ?_;rintro v21 w4 ⟨cI,hn⟩;refine ah 2 ?_;refine aP (λ_=>eW (zs:=[.slice none 0 0,.slice none 0 0,.int .i64 0]) (ps:=[(0,1),(1,1),(2,1)]) (c4:=[(0,[v21]),(1,[qk]),(2,[.int .i64 (iP (dK ds) l ds).2.1])]) (cs:=[v21,qk,.int .i64 (iP (dK ds) l ds).2.1]) ai ai (by exact⟨rfl,⟨_,rfl,(hn.one rfl).1⟩,rfl,⟨_,rfl,(hp1.mv.one rfl).1⟩,rfl,⟨_,rfl,rfl⟩,trivial⟩) rfl) ?_;refine bM (cC (vs:=[v21,qk,.int .i64 (iP (dK ds) l ds).2.1]) (n:=3) rfl rfl ai rfl rfl (by repeat' first|exact gR|refine gT ?_ ?_|rfl|exact(hn.one rfl).2|exact(hp1.mv.one rfl).2) bI.mv rfl) ?_;rintro _ dc ⟨rfl,de,bI⟩;refine ax 2 ?_;refine kM ai Tryz.func17 Tryz.results17 rfl rfl bI.at_ ai ai rfl ?_;exact⟨v21,qk,by rw[(DE hE).2.2,hE];first|rfl|done,(z9 w₀ C).o1,by rw[(DE hE).1];exact hn.mv.out (z9 w₀ C).mv aO (er C),by rw[(DE hE).2.1];exact hp1.mv.out (z9 w₀ C).mv aO (er C)⟩
theorem ahc {w₀:World} {C:Nat->Nat} {l:List aH} {ds:List bp} {aC bW:Value} (hF:aF w₀ C) (hl:aq w₀ (aj C) l aC) (hz:aq w₀ (aj C) ds bW):Calls Tryz.prog 14 #[aC,bW] w₀ (aZ λv w'=>∃bH cH,v=.tuple #[.agg #[bH,cH,.int .i64 (wV l ds)],.int .i64 (iP (dK ds) l ds).2.2]/\av [] w₀ C w' C/\aq w' (aj C) (Ad l ds) bH/\aq w' (aj C) (Ae l ds) cH):=by
 have aO:=hF;replace hF:=hF.aI;replace hl:=hl.c1;replace hz:=hz.c1;refine bG Tryz.func14 ?_;refine aA 2 ?_ [2];refine aR (dn (cs:=[.slice none 0 0,.slice none 0 0,.int .i64 0]) hF 3 ai) ?_;rintro _ w1 ⟨cm,bq,rfl,s_1,bI,hF⟩;refine bh 6 ?_ [1019];refine bD Tryz.call39 (agZ hF hl.mv hz.mv) ?_;rintro _ w2 ⟨qk,rfl,s_2,hp1⟩;refine ax 14 ?_ [3];refine a_ 17 rfl (λey=>?_) (λey=>?_)
 ·
  refine aA 2 ?_ [11];refine aP (λ_=>eW (zs:=[.slice none 0 0,.slice none 0 0,.int .i64 0]) (ps:=[(0,1),(1,1),(2,1)]) (c4:=[]) (cs:=[.slice none 0 0,.slice none 0 0,.int .i64 0]) ai ai trivial rfl) ?_;refine ah 1 ?_;refine bM (cC (vs:=[.slice none 0 0,.slice none 0 0,.int .i64 0]) (n:=3) rfl rfl ai rfl rfl (by intro u hu;simp only[List.mem_cons,List.not_mem_nil,or_false] at hu;rcases hu with rfl|rfl|rfl<;>first|rfl) bI.mv rfl) ?_;rintro _ w3 ⟨rfl,cq,bI⟩;refine ax 2 ?_;refine kM ai Tryz.func14 Tryz.results14 rfl rfl bI.at_ ai ai rfl ?_;exact⟨.slice none 0 0,.slice none 0 0,by rw[(Fp ey).2.2.1];rfl,(z9 w₀ C).o1,by rw[(Fp ey).1];exact eT,by rw[(Fp ey).2.1];exact eT⟩
 have hE: (iP (dK ds) l ds).2.2=0:=Classical.not_not.1 ey;have lF:=Xb hE;refine aA 4 ?_ [93];refine aR (WR (j:=4) (e:=58) (bytes:=40) hF.mv ak rfl rfl ai ak hl.mv af af) ?_;rintro v21 w4 ⟨fW,cI,hn,hF,_⟩;replace hF:=hF.bO 4;replace hl:=hl.mv.bO 4;replace hz:=hz.mv.bO 4;replace bI:=bI.mv.bO (n:=4) ak;replace hp1:=hp1.mv.bO 4;have hT:=(z9 w₀ C).mv.bO (n:=4) (λb=>Nat.lt_of_lt_of_le (zl C b) ak);have Z8:=hn.bO (n:=4) ak af;replace hn:=Z8;clear Z8;refine ah 2 ?_;refine aP (λ_=>eW (zs:=[.slice none 0 0,.slice none 0 0,.int .i64 0]) (ps:=[(0,1),(1,1),(2,1)]) (c4:=[(0,[v21]),(1,[qk]),(2,[.int .i64 (iP (dK ds) l ds).2.1])]) (cs:=[v21,qk,.int .i64 (iP (dK ds) l ds).2.1]) ai ai (by exact⟨rfl,⟨_,rfl,(hn.one rfl).1⟩,rfl,⟨_,rfl,(hp1.one rfl).1⟩,rfl,⟨_,rfl,rfl⟩,trivial⟩) rfl) ?_;refine bM (cC (vs:=[v21,qk,.int .i64 (iP (dK ds) l ds).2.1]) (n:=3) rfl rfl ai rfl rfl (by repeat' first|exact gR|refine gT ?_ ?_|rfl|exact(hn.one rfl).2|exact(hp1.one rfl).2) bI rfl) ?_;rintro _ dc ⟨rfl,de,bI⟩;refine ax 2 ?_;refine kM ai Tryz.func14 Tryz.results14 rfl rfl bI.at_ ai ai rfl ?_;exact⟨v21,qk,by rw[(DE hE).2.2,hE];first|rfl|done,hT.o1,by rw[(DE hE).1];exact hn.mv.out hT.mv aO (er C),by rw[(DE hE).2.1];exact hp1.mv.out hT.mv aO (er C)⟩
end
end Go.Proofs.YtmdhggfehknjjaaGreat
