/- Steps through functions of the program. -/
import Derived.Test.YtmdhggfehknjjaaGreatJC1C5
import Derived.Test.YtmdhggfehknjjaaGreatL2
import Derived.Test.YtmdhggfehknjjaaGreatL3
set_option maxRecDepth 100000
set_option maxHeartbeats 4000000
namespace Go.Proofs.YtmdhggfehknjjaaGreat
open Go.K Go.K.bn
noncomputable section
theorem YI {w₀:World} {C:Nat->Nat} {l:List aH} {aC:Value} (hF:aF w₀ C) (hl:aq w₀ (aj C) l aC) (hlen:l.length<=100000):
    Calls Tryz.prog 83 #[aC] w₀ (aZ λv w'=>∃u,v=.tuple #[u,.int .i64 (gD l)]/\av [] w₀ C w' C/\(gD l≠0->u=.slice none 0 0)/\aq w' (aj C) (if gD l=0 then dU l else[]) u):=by
 have aO:=hF;replace hF:=hF.aI;replace hl:=hl.c1;refine bG Tryz.func83 ?_;refine aA 9 ?_ [3,5];refine bD Tryz.call82 (LQ hF hl) ?_;rintro kQ w1 ⟨rfl,s_1⟩;refine ax 7 ?_ [3];refine a_ 16 rfl (λcZ=>?_) (λcZ=>?_)
 ·
  refine aB 6 ?_ [7];refine jo ai Tryz.func83 Tryz.results83 rfl rfl ?_;exact⟨_,rfl,(z9 w₀ C).o1,λ_=>rfl,by rw[if_neg cZ];exact eT⟩
 have mS:gD l=0:=Classical.not_not.1 cZ;have lF:=GK mS;have adN:=oD l;refine aA 4 ?_ [5];refine cz Tryz.call144 rfl (adJ hF.mv hl.mv hlen 4 ak) ?_;rintro fP w2 ⟨rH,Qv,YJ,df,rfl,s_2,hF,hm,hf,hdom⟩;refine bh 4 ?_ [2];refine aR (CQ hF 5 dx EH) ?_;rintro _ FN ⟨vO,ba,rfl,cq,kY,hF⟩;refine bh 10 ?_ [1,13];refine bD Tryz.call130 (FM hF hl.mv hlen) ?_;rintro mR w3 ⟨cI,fR⟩;refine dE fR.ln ?_;refine ax 3 ?_;have hT:av ([2,3,4,5,6,7,8,9]++List.range' 10 (2*l.length+1)) w₀ (aI C) _ _:=(z9 w₀ C).mv.mono (by intro c hc;exact List.mem_append_left _ hc);refine cg (ι:=Nat×(List (au×au))×(List (au×Nat))×Value×(Nat->Value)×(Nat->Nat)) (λx w=>x.1<=(aM l).length/\pO x.2.1 (bZ l) df/\Dom x.2.1 (aM l)/\wz x.2.2.1 ((eC (bZ l) ((aM l).take x.1)).map (bZ l))/\aF w x.2.2.2.2.2/\av ([2,3,4,5,6,7,8,9]++List.range' 10 (2*l.length+1)) w₀ (aI C) w x.2.2.2.2.2/\aq w (aj x.2.2.2.2.2) (aM l) mR/\fH w x.2.2.2.2.2 4 Qv dx dx x.2.1/\fH w x.2.2.2.2.2 5 ba dx EH x.2.2.1/\aQ w x.2.2.2.2.2 3 52 x.2.2.2.1 (k_ x.2.2.2.2.1 (eC (bZ l) ((aM l).take x.1)).length)/\(∀i,i<(eC (bZ l) ((aM l).take x.1)).length->aQ w x.2.2.2.2.2 (10+i) 55 (x.2.2.2.2.1 i) ((iJ (bZ l) ((aM l).take x.1)).getD i []))) (λx=>[(5,.map (some Qv)),(6,.map (some ba)),(7,x.2.2.2.1),(22,mR),(23,.int .i64 (aM l).length),(24,.int .i64 x.1)]) (λx=>(aM l).length-x.1) (0,YJ,[],.slice none 0 0,λ_=> .slice none 0 0,vO) ?_ ?_
 · exact⟨Nat.zero_le _,hf,hdom,wz.nil,hF.mv,hT.mv,fR,hm.mv,kY.mv,aQ.nil,λi hi=>by simp[eC] at hi⟩
 intro⟨k,YJ,jk,ct,fI,aK⟩ w4 hI bu;obtain⟨hk,hf,hdom,hai,hF,hT,fR,hm,kY,ho,hin⟩:=hI;try simp only at hk hf hdom hai hF hT fR hm kY ho hin
 show Run _ _ _ _ [(5,.map (some Qv)),(6,.map (some ba)),(7,ct),(22,mR),(23,.int .i64 (aM l).length),(24,.int .i64 k)] _ _;have YK:=(CT (bZ l) ((aM l).take k)).length_le;rw[List.length_take] at YK;obtain⟨n,hn⟩:∃n,n=(eC (bZ l) ((aM l).take k)).length:=⟨_,rfl⟩
 rw[<-hn] at ho hin YK;have hsl:=xN fI n;refine aB 5 ?_ [1];refine a_ 25 rfl (λgw=>?_) (λgw=>?_)
 ·
  have ay:k<(aM l).length:=by omega
  have adO:=hdom ((aM l)[k]'ay) (List.getElem_mem ay);have IC:=List.take_succ_eq_append_getElem ay;refine aA 5 ?_ [1];refine aL fR ?_;intro _ y4 y5 kI;refine gJ kI ?_;intro y6 ux;obtain rfl:=bV.1 ux;refine aR (dn (cs:=[.int .i64 0,.int .i64 0]) hF 6 ai) ?_;rintro _ dc ⟨qG,lC,rfl,de,hx,hF⟩;replace hin:=λk hk=>(hin k hk).st de (by simp<;>omega) (by simp<;>omega);refine bM (cC (vs:=aV ((aM l)[k]'ay)) (n:=2) rfl rfl ai rfl rfl (fE rfl) hx rfl) ?_;rintro _ ei ⟨rfl,ej,hx⟩;replace hin:=λk hk=>(hin k hk).st ej (by simp<;>omega) (by simp<;>omega);refine bh 4 ?_ [1];refine bF 2 (aV ((aM l)[k]'ay)) hx.at_ ?_;refine cz Tryz.call145 rfl (Qt (r:=(aM l)[k]'ay) hF.mv ak hm.mv hf adO) ?_;rintro jJ w7 ⟨rfl,eS,u2,hm,hf,LN,hda,_⟩;replace hin:=λk hk=>(hin k hk).st eS (by simp<;>omega) (by simp<;>omega);refine aR (dn (cs:=[.int .i64 0,.int .i64 0]) hF.mv 7 ai) ?_;rintro _ fk ⟨xd,B5,rfl,fA,hy,hF⟩;replace hin:=λk hk=>(hin k hk).st fA (by simp<;>omega) (by simp<;>omega);refine bM (cC (vs:=aV (bZ l ((aM l)[k]'ay))) (n:=2) rfl rfl ai rfl rfl (fE rfl) hy rfl) ?_;rintro _ fJ ⟨rfl,fT,hy⟩;replace hin:=λk hk=>(hin k hk).st fT (by simp<;>omega) (by simp<;>omega);refine ax 2 ?_;by_cases hA: (eM jk (bZ l ((aM l)[k]'ay))).isSome=true
  ·
   refine aA 2 ?_ [249];refine bF 2 (aV (bZ l ((aM l)[k]'ay))) hy.at_ ?_;obtain⟨i0,YL⟩:=Option.isSome_iff_exists.1 hA;obtain⟨Qw,YM⟩:=hai.lt YL;simp only[List.length_map,List.getElem_map] at Qw YM;have xo:i0<n:=by rw[hn];exact Qw
   refine nF (fN (kY.mv.GB (z0:=(0:Nat)) (k:=bZ l ((aM l)[k]'ay)) Tryz.underlying200 (oC Tryz.underlying55 ak ak ai Tryz.underlying3) Tryz.zeroValue3 rfl rfl) (show _=Value.tuple #[.int .i64 ((i0:Nat):Int),.bool true] from by rw[YL];rfl)) ?_;refine ax 14 ?_ [3];refine bX [10+i0] (xd) [1,3,5,7,9,11,13,14,16,19,20] bP ?_;intro gn gY;replace hin:=λk hk=>(hin k hk).st gY (by simp<;>omega) (by simp<;>omega);refine ah 4 ?_;refine c6 ho.mv ?_;intro lT mP;refine qT ho.mv mP ?_;intro _ Aq k4;obtain⟨IE,_⟩:=mF.1 k4;rw[GN] at IE;subst IE;have B8:=(hin i0 xo).own.len;have Qx: ((iJ (bZ l) ((aM l).take k)).getD i0 []).length<=(aM l).length:=Ny _ _ _ tA;refine c7 2 (aV ((aM l)[k]'ay)) hx.mv.sz ?_;refine c5 (ez (ys:=([(aM l)[k]'ay]:List au)) (e:=55) (bytes:=16) hF.mv ai rfl ak ak ⟨rfl,⟨_,rfl,bV.2 rfl⟩,trivial⟩) ?_;rintro v54 iK ⟨eY,ue,hF⟩;refine⟨aW,?_⟩;replace hin:=λk hk=>(hin k hk).st eY (by simp<;>omega) (by simp<;>omega);refine c5 (eO (e:=55) (bytes:=16) hF af rfl rfl ai ak (hin i0 xo) ue dH dH) ?_;rintro v55 iV ⟨wK,iW,nU,hF⟩;refine⟨aW,?_⟩;replace hin:=λk hk (hne:k≠i0)=>(hin k hk).st iW (by simp<;>omega) (by simp<;>omega);refine c6 ho.mv ?_;intro tq Qy;refine gU rfl ?_;refine bM (gQ ho.mv Qy af rfl rfl ai (mF.2 ⟨rfl,nU.one.2⟩)) ?_;rintro _ ki ⟨rfl,jx,ho⟩;replace hin:=λk hk hne=>(hin k hk hne).st jx (by simp<;>omega) (by simp<;>omega);refine ax 6 ?_ [3];obtain⟨D1,IF⟩:=q3 (f:=bZ l) (r:=(aM l)[k]'ay) Qw YM;rw[<-IC] at D1 IF;have IG: (eC (bZ l) ((aM l).take (k+1))).length=n:=by rw[D1];exact hn.symm
   refine bC (bu (k+1,u2,jk,ct,kO fI i0 v55,wK) _ ⟨aD,aD,(λs jx=>hda _ (hdom s jx)),(by simp only;rw[D1];exact hai),hF.mv,hT.mv,fR.mv,hm.mv,kY.mv,(by simp only;rw[IG,<-Ka];exact ho),(λi hi=>by
      simp only at hi⊢;rw[IG] at hi;rw[IF];by_cases e:i=i0
      ·subst e;simp only[kO,if_pos];exact nU.mv
      ·simp only[kO,if_neg e];have:=hin i hi e;simpa only[kO,if_neg e] using this)⟩ aD)
  refine aA 2 ?_ [249];refine bF 2 (aV (bZ l ((aM l)[k]'ay))) hy.at_ ?_;have hno:eM jk (bZ l ((aM l)[k]'ay))=none:=by simpa using hA
  refine nF (fN (kY.mv.GB (z0:=(0:Nat)) (k:=bZ l ((aM l)[k]'ay)) Tryz.underlying200 (oC Tryz.underlying55 ak ak ai Tryz.underlying3) Tryz.zeroValue3 rfl rfl) (show _=Value.tuple #[.int .i64 ((0:Nat):Int),.bool false] from by rw[hno];rfl)) ?_;refine bh 16 ?_ [3,7];refine dE ho.mv.ln ?_;refine bh 5 ?_ [5];refine bF 2 (aV (bZ l ((aM l)[k]'ay))) hy.at_ ?_;refine ah 1 ?_;refine bM (xK (k:=bZ l ((aM l)[k]'ay)) (u:=(k_ fI n).length) kY.mv Tryz.underlying200 (oC Tryz.underlying55 ak ak ai Tryz.underlying3) rfl rfl rfl) ?_;rintro _ kH ⟨rfl,jX,kY⟩;replace hin:=λk hk=>(hin k hk).st jX (by simp<;>omega) (by simp<;>omega);refine bh 3 ?_ [9];refine aR (ez (ys:=([⟨.slice none 0 0⟩]:List gu)) (e:=52) (bytes:=24) hF.mv ai rfl ak ak ⟨rfl,⟨_,rfl,mF.2 ⟨rfl,rfl⟩⟩,trivial⟩) ?_;rintro v45 lR ⟨mq,yJ,hF⟩;replace hin:=λk hk=>(hin k hk).st mq (by simp<;>omega) (by simp<;>omega);refine aR (eO (e:=52) (bytes:=24) hF ak rfl rfl ai ak ho.mv yJ dH dH) ?_;rintro v46 mo ⟨D2,lU,ho,hF⟩;replace hin:=λk hk=>(hin k hk).st lU (by simp<;>omega) (by simp<;>omega);rw[y3] at ho;have II:∀i,i<n+1->aQ _ _ (10+i) 55 (kO fI n (.slice none 0 0) i) ((iJ (bZ l) ((aM l).take k)).getD i []):=λi hi=>by
    by_cases e:i=n
    ·subst e;simp only[kO,if_pos];rw[B1 af];exact aQ.nil
    simp only[kO,if_neg e];exact hin i af
  clear hin;have hin:=II;clear II;have xo:n<n+1:=Nat.lt_succ_self n;have adP:=xN (kO fI n (.slice none 0 0)) (n+1);rw[hsl];refine ax 2 ?_;refine bX [10+n] (D2) [1,3,5,7,9,11,13,14,16,19,20] bP ?_;intro nQ nh;replace hin:=λk hk=>(hin k hk).st nh (by simp<;>omega) (by simp<;>omega);refine ah 4 ?_;refine c6 ho.mv ?_;intro lT mP;refine qT ho.mv mP ?_;intro _ Aq k4;obtain⟨IE,_⟩:=mF.1 k4;rw[GN] at IE;subst IE;have B8:=(hin n xo).own.len;have Qx: ((iJ (bZ l) ((aM l).take k)).getD n []).length<=(aM l).length:=Ny _ _ _ tA;refine c7 2 (aV ((aM l)[k]'ay)) hx.mv.sz ?_;refine c5 (ez (ys:=([(aM l)[k]'ay]:List au)) (e:=55) (bytes:=16) hF.mv ai rfl ak ak ⟨rfl,⟨_,rfl,bV.2 rfl⟩,trivial⟩) ?_;rintro v54 oh ⟨oJ,ue,hF⟩;refine⟨aW,?_⟩;replace hin:=λk hk=>(hin k hk).st oJ (by simp<;>omega) (by simp<;>omega);refine c5 (eO (e:=55) (bytes:=16) hF af rfl rfl ai ak (hin n xo) ue dH dH) ?_;rintro v55 mJ ⟨Iy,nR,nU,hF⟩;refine⟨aW,?_⟩;replace hin:=λk hk (hne:k≠n)=>(hin k hk).st nR (by simp<;>omega) (by simp<;>omega);refine c6 ho.mv ?_;intro tq Qy;refine gU rfl ?_;refine bM (gQ ho.mv Qy af rfl rfl ai (mF.2 ⟨rfl,nU.one.2⟩)) ?_;rintro _ qC ⟨rfl,om,ho⟩;replace hin:=λk hk hne=>(hin k hk hne).st om (by simp<;>omega) (by simp<;>omega);refine ax 6 ?_ [3];obtain⟨D1,IF⟩:=Tr (f:=bZ l) (xs:=((aM l).take k)) (r:=(aM l)[k]'ay) (λq hq e=>hai.none hno (List.mem_map.2 ⟨q,hq,e⟩)) hn;rw[<-IC] at D1 IF;have IG: (eC (bZ l) ((aM l).take (k+1))).length=(n+1):=by rw[D1];rw[List.length_append,<-hn];rfl
  refine bC (bu (k+1,u2,ig jk (bZ l ((aM l)[k]'ay)) (k_ fI n).length,v46,kO (kO fI n (.slice none 0 0)) n v55,Iy) _ ⟨aD,aD,(λs om=>hda _ (hdom s om)),(by
      have:=hai.new hno;simp only;rw[D1,List.map_append,xN,hn];simpa using this),hF.mv,hT.mv,fR.mv,hm.mv,kY.mv,(by simp only;rw[IG,<-Ka];exact ho),(λi hi=>by
      simp only at hi⊢;rw[IG] at hi;rw[IF];by_cases e:i=n
      ·subst e;simp only[kO,if_pos];exact nU.mv
      ·simp only[kO,if_neg e];have:=hin i hi e;simpa only[kO,if_neg e] using this)⟩ aD)
 have ay:k=(aM l).length:=by omega
 subst ay;rw[List.take_length] at hn hin hai;refine aB 7 ?_ [7];refine jo ai Tryz.func83 Tryz.results83 rfl rfl ?_;rw[mS];have B8: (dU l).length=n:=by unfold dU;rw[oa,hn]
 rw[<-B8] at ho;refine⟨_,rfl,hT.JK Nx,λe=>absurd rfl e,?_⟩;rw[if_pos rfl];refine Nz (fI:=fI) (ho.out hT aO (er C) (λb _=>gI C ak b) (by rw[xN];omega)) λi hi=>?_;exact(hin i af).out hT aO (er C) (λb _=>gI C af b) (Nat.le_trans (Ny (bZ l) (aM l) i (Nat.le_refl _)) af)
theorem YN {w₀:World} {C:Nat->Nat} {l:List aH} {aC:Value} (hF:aF w₀ C) (hl:aq w₀ (aj C) l aC) (hlen:l.length<=100000):
    Calls Tryz.prog 84 #[aC] w₀ (aZ λv w'=>∃u,v=.tuple #[u,.int .i64 (gD l)]/\av [] w₀ C w' C/\aq w' (aj C) (if gD l=0 then aY l else[]) u):=by
 have aO:=hF;replace hF:=hF.aI;replace hl:=hl.c1;refine bG Tryz.func84 ?_;refine aA 8 ?_ [3,125];refine bD Tryz.call83 (YI hF hl hlen) ?_;rintro kQ w1 ⟨u,rfl,s_1,_,hp⟩;refine ax 12 ?_ [3];refine a_ 21 rfl (λjl=>?_) (λjl=>?_)
 ·
  refine aB 6 ?_ [7];refine jo ai Tryz.func84 Tryz.results84 rfl rfl ?_;exact⟨_,rfl,(z9 w₀ C).o1,by rw[if_neg jl];exact eT⟩
 have mS:gD l=0:=Classical.not_not.1 jl;have lF:=GK mS;have qn:=Nw l;rw[if_pos mS] at hp;refine aA 3 ?_ [2];refine aR (CQ hF.mv 3 dx EH) ?_;rintro _ FN ⟨vO,bm,rfl,s_2,hm,hF⟩;refine bh 6 ?_ [7];refine dE hp.mv.ln ?_;refine ax 3 ?_;have hT:av ([2,3,4,5,6,7,8,9]++List.range' 10 (2*l.length+1)) w₀ (aI C) _ _:=(z9 w₀ C).mv.mono (by intro c hc;exact List.mem_append_left _ hc);refine cg (ι:=Nat×(List (au×Nat))×(Nat->Nat)) (λx w=>x.1<=(dU l).length/\Ix x.2.1 (dU l) x.1 0/\aF w x.2.2/\av ([2,3,4,5,6,7,8,9]++List.range' 10 (2*l.length+1)) w₀ (aI C) w x.2.2/\aq w (aj x.2.2) l aC/\aq w (aj x.2.2) (dU l) u/\fH w x.2.2 3 bm dx EH x.2.1) (λx=>[(0,aC),(4,u),(6,.map (some bm)),(24,u),(25,.int .i64 (dU l).length),(26,.int .i64 x.1)]) (λx=>(dU l).length-x.1) (0,[],vO) ?_ ?_
 · exact⟨Nat.zero_le _,Ix.nil _,hF,hT.mv,hl.mv,hp.mv,hm⟩
 intro⟨k,j_,aK⟩ w2 hI bu;obtain⟨hk,D3,hF,hT,hl,hp,hm⟩:=hI;try simp only at hk D3 hF hT hl hp hm
 show Run _ _ _ _ [(0,aC),(4,u),(6,.map (some bm)),(24,u),(25,.int .i64 (dU l).length),(26,.int .i64 k)] _ _;refine aB 5 ?_ [1];refine a_ 27 rfl (λgM=>?_) (λgM=>?_)
 ·
  have ay:k<(dU l).length:=by omega
  have adQ: (dU l).getD k []=(dU l)[k]:=by rw[List.getD_eq_getElem?_getD,List.getElem?_eq_getElem ay];rfl
  refine aA 6 ?_ [27];refine aL hp ?_;intro _ vG vH gE;refine dW gE ?_;intro v30 fK;refine bh 6 ?_ [7];refine dE fK.ln ?_;refine ax 3 ?_;refine cg (ι:=Nat×(List (au×Nat))×(Nat->Nat)) (λx w=>x.1<=((dU l)[k]'ay).length/\Ix x.2.1 (dU l) k x.1/\aF w x.2.2/\av ([2,3,4,5,6,7,8,9]++List.range' 10 (2*l.length+1)) w₀ (aI C) w x.2.2/\aq w (aj x.2.2) l aC/\aq w (aj x.2.2) (dU l) u/\fH w x.2.2 3 bm dx EH x.2.1/\aq w (aj x.2.2) ((dU l)[k]'ay) v30) (λx=>[(0,aC),(4,u),(6,.map (some bm)),(7,.int .i64 k),(24,u),(25,.int .i64 (dU l).length),(26,.int .i64 k),(31,v30),(32,.int .i64 ((dU l)[k]'ay).length),(33,.int .i64 x.1)]) (λx=>((dU l)[k]'ay).length-x.1) (0,j_,aK) ?_ ?_
  · exact⟨Nat.zero_le _,D3,hF,hT,hl,hp,hm,fK⟩
  intro⟨j,j_,aK⟩ w3 hI eD;obtain⟨hj,D3,hF,hT,hl,hp,hm,fK⟩:=hI;try simp only at hj D3 hF hT hl hp hm fK
  show Run _ _ _ _ [(0,aC),(4,u),(6,.map (some bm)),(7,.int .i64 k),(24,u),(25,.int .i64 (dU l).length),(26,.int .i64 k),(31,v30),(32,.int .i64 ((dU l)[k]'ay).length),(33,.int .i64 j)] _ _;have akg:=fK.le;refine aB 5 ?_ [1];refine a_ 34 rfl (λlX=>?_) (λlX=>?_)
  ·
   have hjl:j<((dU l)[k]'ay).length:=by omega
   refine aA 5 ?_ [1];refine aL fK ?_;intro _ AB AE gj;refine gJ gj ?_;intro xq rI;obtain rfl:=bV.1 rI;refine aR (dn (cs:=[.int .i64 0,.int .i64 0]) hF 5 ai) ?_;rintro _ w4 ⟨fW,nT,rfl,cq,hx,hF⟩;refine bM (cC (vs:=aV ((((dU l)[k]'ay)[j]'hjl))) (n:=2) rfl rfl ai rfl rfl (fE rfl) hx rfl) ?_;rintro _ dc ⟨rfl,cI,hx⟩;refine bh 3 ?_ [5];refine bF 2 (aV (((dU l)[k]'ay)[j]'hjl)) hx.at_ ?_;refine ah 1 ?_;refine bM (xK (k:=(((dU l)[k]'ay)[j]'hjl)) (u:=k) hm.mv Tryz.underlying200 (oC Tryz.underlying55 ak ak ai Tryz.underlying3) rfl rfl rfl) ?_;rintro _ ei ⟨rfl,de,hm⟩;refine ax 6 ?_ [3];refine bC (eD (j+1,ig j_ (((dU l)[k]'ay)[j]'hjl) k,fW) _ ⟨aD,(D3.put ay hjl),hF.mv,hT.mv,hl.mv,hp.mv,hm,fK.mv⟩ aD)
  have hjl:j=((dU l)[k]'ay).length:=by omega
  have adR:=D3.next (by rw[adQ];omega);refine aB 6 ?_ [3];refine bC (bu (k+1,j_,aK) _ ⟨aD,adR,hF,hT,hl,hp,hm⟩ aD)
 have ay:k=(dU l).length:=by omega
 subst ay;refine aA 4 ?_ [11];refine dE hp.ln ?_;refine aR (Bc (e:=23) (bytes:=24) (x0:=(⟨.slice none 0 0⟩:gu)) (zs:=[.slice none 0 0]) hF (j:=4) ak ai ai rfl rfl af af af (λh M=>⟨rfl,rfl⟩)) ?_;rintro v44 w7 ⟨qg,ej,ho,hF⟩;rw[Ud] at ho;refine bh 6 ?_ [7];refine dE hl.mv.ln ?_;refine ax 3 ?_;refine cg (ι:=Nat×(Nat->Value)×(Nat->Nat)) (λx w=>x.1<=l.length/\aF w x.2.2/\av ([2,3,4,5,6,7,8,9]++List.range' 10 (2*l.length+1)) w₀ (aI C) w x.2.2/\aq w (aj x.2.2) l aC/\fH w x.2.2 3 bm dx EH j_/\aQ w x.2.2 4 23 v44 (k_ x.2.1 (dU l).length)/\(∀i,i<(dU l).length->aQ w x.2.2 (10+i) 58 (x.2.1 i) ((sR l x.1).getD i []))) (λx=>[(0,aC),(6,.map (some bm)),(11,v44),(45,aC),(46,.int .i64 l.length),(47,.int .i64 x.1)]) (λx=>l.length-x.1) (0,λ_=> .slice none 0 0,qg) ?_ ?_
 · exact⟨Nat.zero_le _,hF,hT.mv,hl.mv,hm.mv,ho,λi hi=>by rw[Ug];exact aQ.nil⟩
 intro⟨k,fI,aK⟩ fk hI kJ;obtain⟨hk,hF,hT,hl,hm,ho,hin⟩:=hI;try simp only at hk hF hT hl hm ho hin
 show Run _ _ _ _ [(0,aC),(6,.map (some bm)),(11,v44),(45,aC),(46,.int .i64 l.length),(47,.int .i64 k)] _ _;obtain⟨n,hn⟩:∃n,n=(dU l).length:=⟨_,rfl⟩
 rw[<-hn] at ho hin qn;have hsl:=xN fI n;refine aB 5 ?_ [1];refine a_ 48 rfl (λh48=>?_) (λh48=>?_)
 ·
  have ay:k<l.length:=by omega
  obtain⟨i0,D4⟩:=Uf (l:=l) (r:=l[k].A) (jG.2 ⟨_,List.getElem_mem ay,.inl rfl⟩);have xo:i0<n:=by obtain⟨h1,_⟩:=EN.1 D4;rw[hn];unfold dU;rwa [oa]
  have hlk:=D3 i0 _ (.inl ⟨by omega,D4⟩);have Qx:=Kg l k i0;refine aA 5 ?_ [1];refine aL hl ?_;intro _ FQ FR kK;refine gJ kK ?_;intro v50 ku;obtain rfl:=jU.1 ku;refine aR (dn (cs:=[.int .i64 0,.int .i64 0,.int .i64 0,.int .i64 0,.int .i64 0]) hF 5 ai) ?_;rintro _ fJ ⟨B9,IJ,rfl,eS,hx,hF⟩;replace hin:=λk hk=>(hin k hk).st eS (by simp<;>omega) (by simp<;>omega);refine bM (cC (vs:=jT (l[k]'ay)) (n:=5) rfl rfl ai rfl rfl (fE rfl) hx rfl) ?_;rintro _ gn ⟨rfl,fA,hx⟩;replace hin:=λk hk=>(hin k hk).st fA (by simp<;>omega) (by simp<;>omega);refine bh 5 ?_ [19,0];refine bF 2 (aV (l[k]'ay).A) hx.at_ ?_;refine nF (fN (hm.mv.lookup (z0:=(0:Nat)) (k:=(l[k]'ay).A) Tryz.underlying200 (oC Tryz.underlying55 ak ak ai Tryz.underlying3) Tryz.zeroValue3 rfl rfl) (show _=Value.int .i64 (i0:Int) from by rw[hlk];rfl)) ?_;refine ax 2 ?_;refine bX [10+i0] (B9) [1,3,5,7,9,11,13,14,16,19,20] bP ?_;intro iK fT;replace hin:=λk hk=>(hin k hk).st fT (by simp<;>omega) (by simp<;>omega);refine ah 4 ?_;refine c6 ho.mv ?_;intro yH adS;refine qT ho.mv adS ?_;intro _ v60 LR;obtain⟨YO,_⟩:=mF.1 LR;rw[GN] at YO;subst YO;refine c7 5 (jT (l[k]'ay)) hx.mv.sz ?_;refine c5 (ez (ys:=([l[k]'ay]:List aH)) (e:=58) (bytes:=40) hF.mv ai rfl ak ak ⟨rfl,⟨_,rfl,jU.2 rfl⟩,trivial⟩) ?_;rintro LI iV ⟨gY,w_,hF⟩;refine⟨aW,?_⟩;replace hin:=λk hk=>(hin k hk).st gY (by simp<;>omega) (by simp<;>omega);refine c5 (eO (e:=58) (bytes:=40) hF af rfl rfl ai ak (hin i0 xo) w_ dH dH) ?_;rintro IK ki ⟨zW,eY,h63,hF⟩;refine⟨aW,?_⟩;replace hin:=λk hk (hne:k≠i0)=>(hin k hk).st eY (by simp<;>omega) (by simp<;>omega);refine c6 ho.mv ?_;intro Ye Ic;refine gU rfl ?_;refine bM (gQ ho.mv Ic af rfl rfl ai (mF.2 ⟨rfl,h63.one.2⟩)) ?_;rintro _ kH ⟨rfl,iW,ho⟩;replace hin:=λk hk hne=>(hin k hk hne).st iW (by simp<;>omega) (by simp<;>omega)
  refine ax 6 ?_ [3];refine bC (kJ (k+1,kO fI i0 IK,zW) _ ⟨aD,hF.mv,hT.mv,hl.mv,hm.mv,(by simp only;rw[<-hn,<-Ka];exact ho),(λi hi=>by
     simp only;rw[Uh ay D4 hi];by_cases e:i=i0
     ·subst e;simp only[kO,if_pos];exact h63.mv
     ·simp only[kO,if_neg e];exact hin i af e)⟩ aD)
 have ay:k=l.length:=by omega
 subst ay;rw[Ke] at hin;refine aB 7 ?_ [7];refine jo ai Tryz.func84 Tryz.results84 rfl rfl ?_;rw[mS];have B8: (aY l).length=n:=by rw[EM,hn]
 rw[<-B8] at ho;refine⟨_,rfl,hT.JK Nx,?_⟩;rw[if_pos rfl];refine Nz (fI:=fI) (ho.out hT aO (er C) (λb _=>gI C ak b) (by rw[xN];omega)) λi hi=>?_;exact(hin i af).out hT aO (er C) (λb _=>gI C af b) (by rw[<-Ke];exact Nat.le_trans (Kg l _ i) af)
end
end Go.Proofs.YtmdhggfehknjjaaGreat
namespace Go.Proofs.YtmdhggfehknjjaaGreat
open Go.K Go.K.bn
theorem eX.mG {w':World} {aK aG:Nat->Nat} {b i:Nat} (h:eX w' aK 2 b) (h_:∀b,aj aG b->aj aK b) (hb:aG b=i):eX w' aG i b:=let⟨d,⟨h1,v,h2,h3⟩,h4⟩:=h;⟨d,⟨h1,v,aq.mG h2 h_,⟨hb,h3.at_⟩⟩,h4⟩
end Go.Proofs.YtmdhggfehknjjaaGreat
namespace Go.Proofs.YtmdhggfehknjjaaGreat
open Go.K Go.K.bn
noncomputable section
theorem Qz {w₀:World} {C:Nat->Nat} {x y:au} (hF:aF w₀ C):Calls Tryz.prog 80 #[.agg #[.int .i64 x.a,.int .i64 x.b],.agg #[.int .i64 y.a,.int .i64 y.b]] w₀ (aZ λv w'=>v=.bool (decide (eF x y))/\av [] w₀ C w' C):=by
 have aO:=hF;replace hF:=hF.aI;refine bG Tryz.func80 ?_;refine aA 2 ?_ [4];refine aR (cu (cs:=[.int .i64 x.a,.int .i64 x.b]) hF 3 rfl rfl) ?_;rintro _ w1 ⟨cm,bq,rfl,s_1,hx,hF⟩;refine aR (cu (cs:=[.int .i64 y.a,.int .i64 y.b]) hF 3 rfl rfl) ?_;rintro _ w2 ⟨cw,cM,rfl,s_2,hy,hF⟩;refine ax 2 ?_;refine kp (bT 2 (bT 3 (fL _))) ?_;refine aB 1 ?_;refine iL 4 (decide (eF x y)) (cw) ?_ ?_
 ·
  intro bU;by_cases hA:x.a<y.a
  ·
   refine aA 2 ?_ [1006965,0];refine aX hx.mv.at_ ?_;refine ah 1 ?_ [0];refine aX hy.at_ ?_;refine dT hA ?_;refine ah 15 ?_;exact bQ.nil (bU _ _ _ (av.refl _ _ _) rfl (by rw[decide_eq_true (show eF x y from Or.inl hA)]) (cB 20))
  by_cases hB:x.a=y.a
  ·
   refine aA 2 ?_ [1006965,0];refine aX hx.mv.at_ ?_;refine ah 1 ?_ [0];refine aX hy.at_ ?_;refine cL hA ?_;refine ah 2 ?_ [0];refine aX hx.mv.at_ ?_;refine ah 1 ?_ [0];refine aX hy.at_ ?_;refine dT hB ?_;refine ah 2 ?_ [1];refine aX hx.mv.at_ ?_;refine ah 1 ?_ [1];refine aX hy.at_ ?_;refine ah 4 ?_;exact bQ.nil (bU _ _ _ (av.refl _ _ _) rfl (by congr 1;apply decide_eq_decide.2;unfold eF;omega) (cB 20))
  refine aA 2 ?_ [1006965,0];refine aX hx.mv.at_ ?_;refine ah 1 ?_ [0];refine aX hy.at_ ?_;refine cL hA ?_;refine ah 2 ?_ [0];refine aX hx.mv.at_ ?_;refine ah 1 ?_ [0];refine aX hy.at_ ?_;refine cL hB ?_;refine ah 9 ?_;exact bQ.nil (bU _ _ _ (av.refl _ _ _) rfl (by rw[decide_eq_false (show¬eF x y from by unfold eF;omega)]) (cB 20))
 intro w3 cq;refine bg Tryz.func80 ?_;exact⟨rfl,(z9 w₀ C).o1⟩
theorem FT {w₀:World} {C:Nat->Nat} {x y:au} (hF:aF w₀ C):Calls Tryz.prog 44 #[.agg #[.int .i64 x.a,.int .i64 x.b],.agg #[.int .i64 y.a,.int .i64 y.b]] w₀ (aZ λv w'=>v=.bool (decide (eF x y))/\av [] w₀ C w' C):=by
 have aO:=hF;replace hF:=hF.aI;refine bG Tryz.func44 ?_;refine aA 2 ?_ [4];refine aR (cu (cs:=[.int .i64 x.a,.int .i64 x.b]) hF 3 rfl rfl) ?_;rintro _ w1 ⟨cm,bq,rfl,s_1,hx,hF⟩;refine aR (cu (cs:=[.int .i64 y.a,.int .i64 y.b]) hF 3 rfl rfl) ?_;rintro _ w2 ⟨cw,cM,rfl,s_2,hy,hF⟩;refine bh 4 ?_ [8];refine bF 2 (aV x) hx.mv.at_ ?_;refine bF 2 (aV y) hy.at_ ?_;refine bD Tryz.call80 (Qz (x:=x) (y:=y) hF) ?_;rintro iu w3 ⟨rfl,cq⟩;refine ax 2 ?_;refine bg Tryz.func44 ?_;exact⟨rfl,(z9 w₀ C).o1⟩
theorem adT {w₀:World} {C:Nat->Nat} {l:List au} {bz bH:Value} (hF:aF w₀ C) (ha:aq w₀ (aj C) l bz) (hb:aq w₀ (aj C) l bH):Calls Tryz.prog 38 #[bz,bH] w₀ (aZ λv w'=>v=.bool true/\av [] w₀ C w' C):=by
 have aO:=hF;replace hF:=hF.aI;replace ha:=ha.c1;replace hb:=hb.c1;refine bG Tryz.func38 ?_;refine aA 8 ?_ [1,31];refine dE ha.ln ?_;refine ah 1 ?_;refine dE hb.ln ?_;refine cL (λe=>e rfl) ?_;refine ax 9 ?_ [1];refine cg (ι:=Nat×(Nat->Nat)) (λx w=>x.1<=l.length/\aF w x.2/\av [2,3,4,5,6,7,8,9] w₀ (aI C) w x.2/\aq w (aj x.2) l bz/\aq w (aj x.2) l bH) (λx=>[(0,bz),(1,bH),(5,.int .i64 x.1)]) (λx=>l.length-x.1) (0,aI C) ?_ ?_
 · exact⟨Nat.zero_le _,hF,(z9 w₀ C),ha,hb⟩
 intro⟨i,aK⟩ w1 hI bu;obtain⟨hi,hF,hT,ha,hb⟩:=hI;try simp only at hi hF hT ha hb
 show Run _ _ _ _ [(0,bz),(1,bH),(5,.int .i64 i)] _ _;have hle:=ha.le;refine aA 5 ?_ [15];refine dE ha.ln ?_;refine ax 2 ?_;refine a_ 14 rfl (λeR=>?_) (λeR=>?_)
 ·
  have hil:i<l.length:=by omega
  refine aB 4 ?_;refine bX [] (aK) [1,3,5,7,9,11,13,15,17] bP ?_;intro w2 s_1;refine ah 2 ?_;refine aL ha.mv ?_;intro _ QA pq nu;refine cn nu ?_;intro v20 g20;refine ah 2 ?_;refine aL hb.mv ?_;intro _ sZ rq h23;refine cn h23 ?_;intro v24 g24;obtain rfl:=bV.1 g20;obtain rfl:=bV.1 g24;refine aP (λ_=>jR (J2 (a:=_) (b:=_) Tryz.underlying55 ak ak ai Tryz.underlying3 rfl rfl) (λe=>e rfl)) ?_;refine ax 9 ?_ [7];refine bC (bu (i+1,aK) _ ⟨aD,hF.mv,hT.mv,ha.mv,hb.mv⟩ aD)
 refine aB 5 ?_ [1];refine bg Tryz.func38 ?_;exact⟨rfl,hT.o1⟩
theorem QB (x:Int) (w:World):Calls Tryz.prog 106 #[.int .i64 x] w (aZ λv w'=>v=.bool (jI x)/\w'=w):=by
 refine bG Tryz.func106 ?_;refine aB 5 ?_ [1];by_cases hA:1<=x
 ·
  refine aA 2 ?_ [127];refine dT hA ?_;refine ax 6 ?_;refine bg Tryz.func106 ?_;exact⟨by unfold jI;congr 1;apply decide_eq_decide.2;omega,rfl⟩
 refine aA 2 ?_ [127];refine cL hA ?_;refine ax 6 ?_;refine bg Tryz.func106 ?_;exact⟨by unfold jI;rw[decide_eq_false (λe=>hA e.1)],rfl⟩
theorem adU {w₀:World} {C:Nat->Nat} {x y:bp} (hF:aF w₀ C):Calls Tryz.prog 107 #[.agg (mI x).toArray,.agg (mI y).toArray] w₀ (aZ λv w'=>v=.int .i64 (oE x y)/\av [] w₀ C w' C):=by
 have aO:=hF;replace hF:=hF.aI;refine bG Tryz.func107 ?_;refine aA 2 ?_ [4];refine aR (cu (cs:=mI x) hF 3 rfl rfl) ?_;rintro _ w1 ⟨cm,bq,rfl,s_1,hx,hF⟩;refine aR (cu (cs:=mI y) hF 3 rfl rfl) ?_;rintro _ w2 ⟨cw,cM,rfl,s_2,hy,hF⟩;refine ax 3 ?_;refine bX [] (cw) [1,3,5,7,9,11,13,15,19,21,23,25,29,31,33,35,16,26,36,38,40,43] bP ?_;intro w3 cq;refine ah 1 ?_ [0];refine c7 2 (aV x.A) hx.mv.sz ?_;refine ah 1 ?_ [2];refine c7 2 (aV x.B) hx.mv.sz ?_;refine ah 1 ?_ [0];refine c7 2 (aV y.A) hy.mv.sz ?_;refine ah 1 ?_ [2];refine c7 2 (aV y.B) hy.mv.sz ?_;refine ah 1 ?_ [4];refine di hx.mv.sz ?_;refine ah 1 ?_ [4];refine di hy.mv.sz ?_;refine ah 1 ?_ [5];refine di hx.mv.sz ?_;refine ah 1 ?_ [5];refine di hy.mv.sz ?_;refine dC Tryz.call143 (Qr (a:=x.A) (b:=x.B) (c:=y.A) (d:=y.B) hF.mv) ?_;rintro fS w4 ⟨rfl,cI⟩;refine⟨aW,?_⟩;refine dC Tryz.call97 (Iz _ _ _) ?_;rintro kf dc ⟨rfl,rfl⟩;refine⟨aW,?_⟩;refine dC Tryz.call97 (Iz _ _ _) ?_;rintro lz ei ⟨rfl,rfl⟩;refine⟨aW,?_⟩;refine c5 (ez (ys:=([sQ x.A x.B y.A y.B,kD x.bz y.bz,kD x.bH y.bH]:List Int)) (e:=3) (bytes:=8) hF.mv ai rfl ak ak ⟨rfl,⟨_,rfl,cO.2 rfl⟩,rfl,⟨_,rfl,cO.2 rfl⟩,rfl,⟨_,rfl,cO.2 rfl⟩,trivial⟩) ?_;rintro v24 w7 ⟨de,g24,hF⟩;refine⟨aW,?_⟩;refine dC Tryz.call96 (LO g24) ?_;rintro qB fk ⟨rfl,rfl⟩;refine⟨aW,?_⟩;refine ax 2 ?_;refine bg Tryz.func107 ?_;exact⟨rfl,(z9 w₀ C).o1⟩
theorem YP {w₀:World} {C:Nat->Nat} {x y:au} (hF:aF w₀ C):Calls Tryz.prog 118 #[.agg #[.int .i64 x.a,.int .i64 x.b],.agg #[.int .i64 y.a,.int .i64 y.b]] w₀ (aZ λv w'=>v=.bool (iB x y)/\av [] w₀ C w' C):=by
 have aO:=hF;replace hF:=hF.aI;refine bG Tryz.func118 ?_;refine aA 2 ?_ [4];refine aR (cu (cs:=aV x) hF 3 rfl rfl) ?_;rintro _ w1 ⟨cm,bq,rfl,s_1,hx,hF⟩;refine aR (cu (cs:=aV y) hF 3 rfl rfl) ?_;rintro _ w2 ⟨cw,cM,rfl,s_2,hy,hF⟩;refine ax 2 ?_;refine kp (bT 2 (bT 3 (fL _))) ?_;refine aB 1 ?_;refine iL 4 (iB x y) (cw) ?_ ?_
 ·
  intro bU;by_cases hA:nI x=true
  ·
   by_cases hB:nI y=true
   ·
    refine aA 1 ?_ [15076];refine bF 2 (aV x) hx.mv.at_ ?_;refine bD Tryz.call100 (vN hF) ?_;rintro iu w3 ⟨rfl,cq⟩;rw[hA];refine ah 1 ?_;refine bF 2 (aV y) hy.mv.at_ ?_;refine bD Tryz.call100 (vN hF.mv) ?_;rintro fS w4 ⟨rfl,cI⟩;rw[hB];refine ah 3 ?_ [0];refine aX hx.mv.at_ ?_;refine ah 1 ?_ [0];refine aX hy.mv.at_ ?_;refine ah 3 ?_;exact bQ.nil (bU _ _ _ (av.refl [] _ _).mv rfl (by unfold iB;rw[hA,hB];rfl) (cB 14))
   refine aA 1 ?_ [15076];refine bF 2 (aV x) hx.mv.at_ ?_;refine bD Tryz.call100 (vN hF) ?_;rintro kf dc ⟨rfl,de⟩;rw[hA];refine ah 1 ?_;refine bF 2 (aV y) hy.mv.at_ ?_;refine bD Tryz.call100 (vN hF.mv) ?_;rintro lz ei ⟨rfl,ej⟩;rw[Bool.eq_false_iff.2 hB];refine ah 9 ?_;exact bQ.nil (bU _ _ _ (av.refl [] _ _).mv rfl (by unfold iB;rw[hA,Bool.eq_false_iff.2 hB];simp) (cB 14))
  refine aA 1 ?_ [15076];refine bF 2 (aV x) hx.mv.at_ ?_;refine bD Tryz.call100 (vN hF) ?_;rintro jJ w7 ⟨rfl,eS⟩;rw[Bool.eq_false_iff.2 hA];refine ah 12 ?_;exact bQ.nil (bU _ _ _ (av.refl [] _ _).mv rfl (by unfold iB;rw[Bool.eq_false_iff.2 hA];simp) (cB 14))
 intro fk fA;refine bg Tryz.func118 ?_;exact⟨rfl,(z9 w₀ C).o1⟩
theorem QC (x:Int) (w:World):Calls Tryz.prog 119 #[.int .i64 x] w (aZ λv w'=>v=.bool (jI x)/\w'=w):=by
 refine bG Tryz.func119 ?_;refine aB 5 ?_ [1];by_cases hA:1<=x
 ·
  refine aA 2 ?_ [127];refine dT hA ?_;refine ax 6 ?_;refine bg Tryz.func119 ?_;exact⟨by unfold jI;congr 1;apply decide_eq_decide.2;omega,rfl⟩
 refine aA 2 ?_ [127];refine cL hA ?_;refine ax 6 ?_;refine bg Tryz.func119 ?_;exact⟨by unfold jI;rw[decide_eq_false (λe=>hA e.1)],rfl⟩
theorem YQ {w₀:World} {C:Nat->Nat} {a b c d:au} (hF:aF w₀ C):Calls Tryz.prog 178 #[.agg #[.int .i64 a.a,.int .i64 a.b],.agg #[.int .i64 b.a,.int .i64 b.b],.agg #[.int .i64 c.a,.int .i64 c.b],.agg #[.int .i64 d.a,.int .i64 d.b]] w₀ (aZ λv w'=>v=.int .i64 (sQ a b c d)/\av [] w₀ C w' C):=by
 have aO:=hF;replace hF:=hF.aI;refine bG Tryz.func178 ?_;refine aA 2 ?_ [16];refine aR (cu (cs:=aV a) hF 3 rfl rfl) ?_;rintro _ w1 ⟨cm,bq,rfl,s_1,ha,hF⟩;refine aR (cu (cs:=aV b) hF 3 rfl rfl) ?_;rintro _ w2 ⟨cw,cM,rfl,s_2,hb,hF⟩;refine aR (cu (cs:=aV c) hF 3 rfl rfl) ?_;rintro _ w3 ⟨jd,je,rfl,cq,hc,hF⟩;refine aR (cu (cs:=aV d) hF 3 rfl rfl) ?_;rintro _ w4 ⟨fW,nT,rfl,cI,hd,hF⟩;refine bh 5 ?_ [4];refine bF 2 (aV a) ha.mv.at_ ?_;refine bF 2 (aV c) hc.mv.at_ ?_;refine aP (λ_=>J2 (a:=_) (b:=_) Tryz.underlying55 ak ak ai Tryz.underlying3 rfl rfl) ?_;refine ax 1 ?_;refine a_ 11 rfl (λjB=>?_) (λjB=>?_)
 ·
  refine aA 3 ?_ [0];refine bF 2 (aV a) ha.mv.at_ ?_;refine bF 2 (aV c) hc.mv.at_ ?_;refine bD Tryz.call80 (Qz (x:=a) (y:=c) hF) ?_;rintro kf dc ⟨rfl,de⟩;refine ax 1 ?_;refine a_ 14 rfl (λeR=>?_) (λeR=>?_)
  ·
   refine aB 4 ?_ [1];refine bg Tryz.func178 ?_;exact⟨by unfold sQ;rw[Fc,yh a c,yh b d];rw[if_neg jB,if_pos eR];rfl,(z9 w₀ C).o1⟩
  refine aB 5 ?_ [1];refine bg Tryz.func178 ?_;exact⟨by unfold sQ;rw[Fc,yh a c,yh b d];rw[if_neg jB,if_neg eR];rfl,(z9 w₀ C).o1⟩
 refine aA 4 ?_ [4];refine bF 2 (aV b) hb.mv.at_ ?_;refine bF 2 (aV d) hd.at_ ?_;refine aP (λ_=>iA (a:=_) (b:=_) Tryz.underlying55 ak ak ai Tryz.underlying3 rfl rfl) ?_;refine ax 1 ?_;refine a_ 17 rfl (λey=>?_) (λey=>?_)
 ·
  refine aB 4 ?_ [1];refine bg Tryz.func178 ?_;exact⟨by unfold sQ;rw[Fc,yh a c,yh b d];rw[if_pos (Classical.not_not.1 jB),if_pos ey];rfl,(z9 w₀ C).o1⟩
 refine aA 4 ?_ [0];refine bF 2 (aV b) hb.mv.at_ ?_;refine bF 2 (aV d) hd.at_ ?_;refine bD Tryz.call80 (Qz (x:=b) (y:=d) hF) ?_;rintro lz ei ⟨rfl,ej⟩;refine ax 1 ?_;refine a_ 20 rfl (λk6=>?_) (λk6=>?_)
 ·
  refine aB 4 ?_ [1];refine bg Tryz.func178 ?_;exact⟨by unfold sQ;rw[Fc,yh a c,yh b d];rw[if_pos (Classical.not_not.1 jB),if_neg ey,if_pos k6];rfl,(z9 w₀ C).o1⟩
 refine aB 5 ?_ [1];refine bg Tryz.func178 ?_;exact⟨by unfold sQ;rw[Fc,yh a c,yh b d];rw[if_pos (Classical.not_not.1 jB),if_neg ey,if_neg k6];rfl,(z9 w₀ C).o1⟩
theorem adV {w₀:World} {C:Nat->Nat} {x y:bp} (hF:aF w₀ C):Calls Tryz.prog 120 #[.agg (mI x).toArray,.agg (mI y).toArray] w₀ (aZ λv w'=>v=.int .i64 (oE x y)/\av [] w₀ C w' C):=by
 have aO:=hF;replace hF:=hF.aI;refine bG Tryz.func120 ?_;refine aA 2 ?_ [4];refine aR (cu (cs:=mI x) hF 3 rfl rfl) ?_;rintro _ w1 ⟨cm,bq,rfl,s_1,hx,hF⟩;refine aR (cu (cs:=mI y) hF 3 rfl rfl) ?_;rintro _ w2 ⟨cw,cM,rfl,s_2,hy,hF⟩;refine bh 6 ?_ [597,0];refine bF 2 (aV x.A) hx.mv.at_ ?_;refine ah 1 ?_ [2];refine bF 2 (aV x.B) hx.mv.at_ ?_;refine ah 1 ?_ [0];refine bF 2 (aV y.A) hy.at_ ?_;refine ah 1 ?_ [2];refine bF 2 (aV y.B) hy.at_ ?_;refine bD Tryz.call178 (YQ (a:=x.A) (b:=x.B) (c:=y.A) (d:=y.B) hF) ?_;rintro iu w3 ⟨rfl,cq⟩;refine ax 7 ?_ [3];refine a_ 16 rfl (λcZ=>?_) (λcZ=>?_)
 ·
  refine aB 5 ?_ [3];refine bg Tryz.func120 ?_;exact⟨by unfold oE;rw[Fb,u9 x.bz y.bz,u9 x.bH y.bH];rw[if_pos cZ],(z9 w₀ C).o1⟩
 refine aA 5 ?_ [21,4];refine aX hx.mv.at_ ?_;refine ah 1 ?_ [4];refine aX hy.mv.at_ ?_;refine ax 2 ?_;refine a_ 22 rfl (λeZ=>?_) (λeZ=>?_)
 ·
  refine aA 4 ?_ [21,4];refine aX hx.mv.at_ ?_;refine ah 1 ?_ [4];refine aX hy.mv.at_ ?_;refine ax 2 ?_;refine a_ 27 rfl (λgM=>?_) (λgM=>?_)
  ·
   refine aB 4 ?_ [1];refine bg Tryz.func120 ?_;exact⟨by unfold oE;rw[Fb,u9 x.bz y.bz,u9 x.bH y.bH];rw[if_neg cZ,if_neg eZ,if_pos gM];rfl,(z9 w₀ C).o1⟩
  refine aB 5 ?_ [1];refine bg Tryz.func120 ?_;exact⟨by unfold oE;rw[Fb,u9 x.bz y.bz,u9 x.bH y.bH];rw[if_neg cZ,if_neg eZ,if_neg gM];rfl,(z9 w₀ C).o1⟩
 refine aA 5 ?_ [21,5];refine aX hx.mv.at_ ?_;refine ah 1 ?_ [5];refine aX hy.mv.at_ ?_;refine ax 2 ?_;refine a_ 32 rfl (λgA=>?_) (λgA=>?_)
 ·
  refine aA 4 ?_ [21,5];refine aX hx.mv.at_ ?_;refine ah 1 ?_ [5];refine aX hy.mv.at_ ?_;refine ax 2 ?_;refine a_ 37 rfl (λgK=>?_) (λgK=>?_)
  ·
   refine aB 4 ?_ [1];refine bg Tryz.func120 ?_;exact⟨by unfold oE;rw[Fb,u9 x.bz y.bz,u9 x.bH y.bH];rw[if_neg cZ,if_pos (Classical.not_not.1 eZ),if_neg gA,if_pos gK];rfl,(z9 w₀ C).o1⟩
  refine aB 5 ?_ [1];refine bg Tryz.func120 ?_;exact⟨by unfold oE;rw[Fb,u9 x.bz y.bz,u9 x.bH y.bH];rw[if_neg cZ,if_pos (Classical.not_not.1 eZ),if_neg gA,if_neg gK];rfl,(z9 w₀ C).o1⟩
 refine aB 5 ?_ [1];refine bg Tryz.func120 ?_;exact⟨by unfold oE;rw[Fb,u9 x.bz y.bz,u9 x.bH y.bH];rw[if_neg cZ,if_pos (Classical.not_not.1 eZ),if_pos (Classical.not_not.1 gA)];rfl,(z9 w₀ C).o1⟩
theorem IL {w₀:World} {C:Nat->Nat} {l:List bp} {aC:Value} (hF:aF w₀ C) (hl:aq w₀ (aj C) l aC):Calls Tryz.prog 63 #[aC] w₀ (aZ λv w'=>v=.int .i64 (iw l)/\av [] w₀ C w' C):=by
 have aO:=hF;replace hF:=hF.aI;replace hl:=hl.c1;refine bG Tryz.func63 ?_;refine aA 8 ?_ [1,7];refine dE hl.ln ?_;refine ax 2 ?_;refine a_ 7 rfl (λh7=>?_) (λh7=>?_)
 ·
  refine aB 4 ?_ [1];refine bg Tryz.func63 ?_;exact⟨congrArg (Value.int .i64) (by unfold iw;rw[if_pos af]),(z9 w₀ C).o1⟩
 have hlim:¬4096<l.length:=by omega
 refine aA 5 ?_ [7];refine dE hl.ln ?_;refine ax 3 ?_;refine cg (ι:=Nat×(Nat->Nat)) (λx w=>x.1<=l.length/\(∀k,k<x.1->tU l k=0)/\aF w x.2/\av [2,3,4,5,6,7,8,9] w₀ (aI C) w x.2/\aq w (aj x.2) l aC) (λx=>[(0,aC),(8,aC),(9,.int .i64 l.length),(10,.int .i64 x.1)]) (λx=>l.length-x.1) (0,aI C) ?_ ?_
 · exact⟨Nat.zero_le _,λk hk=>by first|omega|(simp only at hk;omega),hF,(z9 w₀ C),hl⟩
 intro⟨i,aK⟩ w1 hI bu;obtain⟨hi,h0,hF,hT,hl⟩:=hI;try simp only at hi h0 hF hT hl
 show Run _ _ _ _ [(0,aC),(8,aC),(9,.int .i64 l.length),(10,.int .i64 i)] _ _;have hle:=hl.le;refine aB 5 ?_ [1];refine a_ 11 rfl (λjB=>?_) (λjB=>?_)
 ·
  have hil:i<l.length:=by omega
  refine aA 6 ?_ [19];refine aL hl ?_;intro _ Ds zZ jc;refine gJ jc ?_;intro z6 g14;obtain rfl:=rZ.1 g14;refine aR (dn (cs:=[.int .i64 0,.int .i64 0,.int .i64 0,.int .i64 0,.int .i64 0,.int .i64 0,.bool false]) hF 4 ai) ?_;rintro _ w2 ⟨cw,cM,rfl,s_1,hx,hF⟩;refine ah 1 ?_;refine bM (cC (vs:=mI ((l[i]'hil))) (n:=7) rfl rfl ai rfl rfl (fE rfl) hx rfl) ?_;rintro _ w3 ⟨rfl,s_2,hx⟩;refine bh 5 ?_ [101,0];refine bF 2 (aV (l[i]'hil).A) hx.at_ ?_;refine ah 1 ?_ [2];refine bF 2 (aV (l[i]'hil).B) hx.at_ ?_;refine bD Tryz.call105 (Qq (x:=(l[i]'hil).A) (y:=(l[i]'hil).B) hF.mv) ?_;rintro fS w4 ⟨rfl,cq⟩;refine ax 3 ?_;refine f_ 15 rfl (λgL=>?_) (λgL=>?_)
  ·
   have hc:iB (l[i]'hil).A (l[i]'hil).B=false:=by simpa using gL
   refine aB 4 ?_ [1];refine bg Tryz.func63 ?_;exact⟨congrArg (Value.int .i64) (by unfold iw;rw[if_neg hlim,Fk h0 hil (Wy hil hc) ak]),hT.o1⟩
  have hc:iB (l[i]'hil).A (l[i]'hil).B=true:=by simpa using gL
  refine aB 1 ?_;refine iL 22 (!(jI (l[i]'hil).bz&&jI (l[i]'hil).bH)) (cw) ?_ ?_
  ·
   intro bU;by_cases hA:jI (l[i]'hil).bz=true
   ·
    refine aA 2 ?_ [1849,4];refine aX hx.mv.at_ ?_;refine bD Tryz.call106 (QB _ _) ?_;rintro kf dc ⟨rfl,rfl⟩;rw[hA];refine ah 3 ?_ [5];refine aX hx.mv.at_ ?_;refine bD Tryz.call106 (QB _ _) ?_;rintro lz ei ⟨rfl,rfl⟩;refine ah 3 ?_;exact bQ.nil (bU _ _ _ (av.refl [] _ _) rfl (by rw[hA];simp) (cB 11))
   refine aA 2 ?_ [1849,4];refine aX hx.mv.at_ ?_;refine bD Tryz.call106 (QB _ _) ?_;rintro jJ w7 ⟨rfl,rfl⟩;rw[Bool.eq_false_iff.2 hA];refine ah 8 ?_;exact bQ.nil (bU _ _ _ (av.refl [] _ _) rfl (by rw[Bool.eq_false_iff.2 hA];simp) (cB 11))
  intro fk cI;refine f_ 22 rfl (λeZ=>?_) (λeZ=>?_)
  ·
   have hv: (jI (l[i]'hil).bz&&jI (l[i]'hil).bH)=false:=by rw[Bool.not_eq_true'] at eZ;exact eZ
   refine aB 4 ?_ [1];refine bg Tryz.func63 ?_;exact⟨congrArg (Value.int .i64) (by unfold iw;rw[if_neg hlim,Fk h0 hil (Wz hil hc hv) ak]),hT.o1⟩
  have hv: (jI (l[i]'hil).bz&&jI (l[i]'hil).bH)=true:=by rw[Bool.not_eq_false'] at eZ;exact eZ
  refine aB 1 ?_;by_cases hA: (0:Int)<i
  ·
   refine bX [] (cw) [1,3,5,7,9,11,13,15,17,18,21,23,25] bP ?_;intro fJ de;refine ah 1 ?_;refine dT hA ?_;refine ah 4 ?_;refine aL hl.mv ?_;intro _ Bv Bw jZ;refine cn jZ ?_;intro v41 wM;have nV: ((i:Int)-1).toNat=i-1:=by omega
   simp only[nV] at wM;obtain rfl:=rZ.1 wM;refine c7 7 (mI (l[i]'hil)) hx.mv.sz ?_;refine dC Tryz.call107 (adU (y:=(l[i]'hil)) hF.mv) ?_;rintro vK gn ⟨rfl,ej⟩;refine⟨aW,?_⟩;refine ax 4 ?_;refine a_ 33 rfl (λlV=>?_) (λlV=>?_)
   ·
    refine aB 4 ?_ [1];refine bg Tryz.func63 ?_;exact⟨congrArg (Value.int .i64) (by unfold iw;rw[if_neg hlim,Fk h0 hil (WA hil hc hv af af) ak]),hT.o1⟩
   refine aB 7 ?_ [3];refine bC (bu (i+1,cw) _ ⟨aD,(La h0 (HK hil hc hv (λh0=>by omega))),hF.mv,hT.mv,hl.mv⟩ aD)
  refine bX [] (cw) [1,3,5,7,9,11,13,15,17,18,21,23,25] bP ?_;intro iK eS;refine ah 1 ?_;refine cL hA ?_;refine ah 7 ?_;refine nz ?_;refine mb (k8 43 (mV 107 #[41,42] #[89,89]) 2 true) rfl rfl aW ?_;refine ck ?_;refine ax 12 ?_ [3];refine bC (bu (i+1,cw) _ ⟨aD,(La h0 (HK hil hc hv (λh0=>absurd h0 af))),hF.mv,hT.mv,hl.mv⟩ aD)
 have hil:i=l.length:=by omega
 refine aB 5 ?_ [1];refine bg Tryz.func63 ?_;exact⟨congrArg (Value.int .i64) (by unfold iw;rw[if_neg hlim,BL (by rw[<-hil];exact h0)]),hT.o1⟩
theorem QD {w₀:World} {C:Nat->Nat} {l:List bp} {aC:Value} (hF:aF w₀ C) (hl:aq w₀ (aj C) l aC):Calls Tryz.prog 68 #[aC] w₀ (aZ λv w'=>v=.int .i64 (iw l)/\av [] w₀ C w' C):=by
 have aO:=hF;replace hF:=hF.aI;replace hl:=hl.c1;refine bG Tryz.func68 ?_;refine aA 8 ?_ [1,7];refine dE hl.ln ?_;refine ax 2 ?_;refine a_ 6 rfl (λh6=>?_) (λh6=>?_)
 ·
  refine aB 4 ?_ [1];refine bg Tryz.func68 ?_;exact⟨congrArg (Value.int .i64) (by unfold iw;rw[if_pos af]),(z9 w₀ C).o1⟩
 have hlim:¬4096<l.length:=by omega
 refine aB 7 ?_ [1];refine cg (ι:=Nat×(Nat->Nat)) (λx w=>x.1<=l.length/\(∀k,k<x.1->tU l k=0)/\aF w x.2/\av [2,3,4,5,6,7,8,9] w₀ (aI C) w x.2/\aq w (aj x.2) l aC) (λx=>[(0,aC),(3,.int .i64 x.1)]) (λx=>l.length-x.1) (0,aI C) ?_ ?_
 · exact⟨Nat.zero_le _,λk hk=>by first|omega|(simp only at hk;omega),hF,(z9 w₀ C),hl⟩
 intro⟨i,aK⟩ w1 hI bu;obtain⟨hi,h0,hF,hT,hl⟩:=hI;try simp only at hi h0 hF hT hl
 show Run _ _ _ _ [(0,aC),(3,.int .i64 i)] _ _;have hle:=hl.le;refine aA 5 ?_ [15];refine dE hl.ln ?_;refine ax 2 ?_;refine a_ 10 rfl (λgq=>?_) (λgq=>?_)
 ·
  have hil:i<l.length:=by omega
  refine aB 5 ?_;refine bX [] (aK) [1,3,5,7,9,11,13,15,17,19,20,23] bP ?_;intro w2 s_1;have iE:=hl.mv;refine ah 2 ?_;refine aL iE ?_;intro _ QE QF gL;have cZ:=bk.c5 gL;refine ah 1 ?_ [0];refine cn cZ ?_;intro v17 g17;have adW:=g17;obtain rfl:=bV.1 g17.mv;refine ah 2 ?_;refine aL iE ?_;intro _ QG QH k6;have jl:=bk.j7 k6;refine ah 1 ?_ [2];refine cn jl ?_;intro v22 g22;have adX:=g22;obtain rfl:=bV.1 g22.mv;refine dC Tryz.call118 (YP (x:=(l[i]'hil).A) (y:=(l[i]'hil).B) hF.mv) ?_;rintro iu w3 ⟨rfl,s_2⟩;refine⟨aW,?_⟩;refine ax 2 ?_;refine f_ 24 rfl (λfM=>?_) (λfM=>?_)
  ·
   have hc:iB (l[i]'hil).A (l[i]'hil).B=false:=by simpa using fM
   refine aB 4 ?_ [1];refine bg Tryz.func68 ?_;exact⟨congrArg (Value.int .i64) (by unfold iw;rw[if_neg hlim,Fk h0 hil (Wy hil hc) ak]),hT.o1⟩
  have hc:iB (l[i]'hil).A (l[i]'hil).B=true:=by simpa using fM
  refine aB 3 ?_;refine iL 40 (!(jI (l[i]'hil).bz&&jI (l[i]'hil).bH)) (aK) ?_ ?_
  ·
   intro bU;by_cases hA:jI (l[i]'hil).bz=true
   ·
    refine aA 3 ?_ [53199];refine aL hl.mv ?_;intro _ FU FV gM;have gG:=bk.HJ gM;refine ah 1 ?_ [4];refine dW gG ?_;intro uy kR;first|(obtain rfl:=dJ.1 kR)|(obtain rfl:=cO.1 kR)
    refine bD Tryz.call119 (QC _ _) ?_;rintro fS w4 ⟨rfl,rfl⟩;rw[hA];refine ah 4 ?_;refine aL hl.mv ?_;intro _ AB AE gj;have iD:=bk.O6 gj;refine ah 1 ?_ [5];refine dW iD ?_;intro v37 mO;first|(obtain rfl:=dJ.1 mO)|(obtain rfl:=cO.1 mO)
    refine bD Tryz.call119 (QC _ _) ?_;rintro kf dc ⟨rfl,rfl⟩;refine ah 2 ?_;exact bQ.nil (bU _ _ _ (av.refl [] _ _) rfl (by rw[hA];simp) (cB 16))
   refine aA 3 ?_ [53199];refine aL hl.mv ?_;intro _ FU FV gM;have gG:=bk.HJ gM;refine ah 1 ?_ [4];refine dW gG ?_;intro uy kR;first|(obtain rfl:=dJ.1 kR)|(obtain rfl:=cO.1 kR)
   refine bD Tryz.call119 (QC _ _) ?_;rintro lz ei ⟨rfl,rfl⟩;rw[Bool.eq_false_iff.2 hA];refine ah 10 ?_;exact bQ.nil (bU _ _ _ (av.refl [] _ _) rfl (by rw[Bool.eq_false_iff.2 hA];simp) (cB 16))
  intro w7 cq;refine f_ 40 rfl (λjZ=>?_) (λjZ=>?_)
  ·
   have hv: (jI (l[i]'hil).bz&&jI (l[i]'hil).bH)=false:=by rw[Bool.not_eq_true'] at jZ;exact jZ
   refine aB 4 ?_ [1];refine bg Tryz.func68 ?_;exact⟨congrArg (Value.int .i64) (by unfold iw;rw[if_neg hlim,Fk h0 hil (Wz hil hc hv) ak]),hT.o1⟩
  have hv: (jI (l[i]'hil).bz&&jI (l[i]'hil).bH)=true:=by rw[Bool.not_eq_false'] at jZ;exact jZ
  refine aB 2 ?_;by_cases hA: (0:Int)<i
  ·
   refine bX [] (aK) [1,3,5,7,9,11,13,15,17,19,21,23,24,27,29] bP ?_;intro fk cI;have iE:=hl.mv;refine ah 1 ?_;refine dT hA ?_;refine ah 4 ?_;refine aL iE ?_;intro _ FF FG uh;refine cn uh ?_;intro DP lE;have FW:=lE;have nV: ((i:Int)-1).toNat=i-1:=by omega
   replace lE:=lE.mv;simp only[nV] at lE;obtain rfl:=rZ.1 lE;refine ah 2 ?_;refine aL iE ?_;intro _ Il Im uk;refine cn uk ?_;intro Aq k4;have akh:=k4;obtain rfl:=rZ.1 k4.mv;refine dC Tryz.call120 (adV (y:=(l[i]'hil)) hF.mv) ?_;rintro vE fJ ⟨rfl,de⟩;refine⟨aW,?_⟩;refine ax 3 ?_;refine a_ 55 rfl (λnU=>?_) (λnU=>?_)
   ·
    refine aB 4 ?_ [1];refine bg Tryz.func68 ?_;exact⟨congrArg (Value.int .i64) (by unfold iw;rw[if_neg hlim,Fk h0 hil (WA hil hc hv af af) ak]),hT.o1⟩
   refine aB 7 ?_ [7];refine bC (bu (i+1,aK) _ ⟨aD,(La h0 (HK hil hc hv (λh0=>by omega))),hF.mv,hT.mv,hl.mv⟩ aD)
  refine bX [] (aK) [1,3,5,7,9,11,13,15,17,19,21,23,24,27,29] bP ?_;intro gn ej;have iE:=hl.mv;refine ah 1 ?_;refine cL hA ?_;refine ah 10 ?_;refine nz ?_;refine mb (k8 53 (mV 120 #[48,52] #[89,89]) 2 true) rfl rfl aW ?_;refine ck ?_;refine ax 11 ?_ [7];refine bC (bu (i+1,aK) _ ⟨aD,(La h0 (HK hil hc hv (λh0=>absurd h0 af))),hF.mv,hT.mv,hl.mv⟩ aD)
 have hil:i=l.length:=by omega
 refine aB 5 ?_ [1];refine bg Tryz.func68 ?_;exact⟨congrArg (Value.int .i64) (by unfold iw;rw[if_neg hlim,BL (by rw[<-hil];exact h0)]),hT.o1⟩
theorem adY {l:List bp} (hm:l.length<=4096) (hO:∀i (h:i<l.length),zM l[i]) (kS:∀i (h:i+1<l.length),oE l[i] l[i+1]<0):iw l=0:=by
 unfold iw;rw[if_neg af,BL (λk hk=>?_)];have h:=hO k hk;unfold zM at h;refine HK hk h.1 (by rw[h.2.1,h.2.2];rfl) (λh0=>?_);have:=kS (k-1) af;simp only[show k-1+1=k from by omega] at this;exact this
theorem adZ {w₀:World} {C:Nat->Nat} {l:List bp} {aC:Value} (hF:aF w₀ C) (hl:aq w₀ (aj C) l aC) (hm:l.length<=4096) (hO:∀i (h:i<l.length),zM l[i]) (kS:∀i (h:i+1<l.length),oE l[i] l[i+1]<0):Calls Tryz.prog 63 #[aC] w₀ (aZ λv w'=>v=.int .i64 0/\av [] w₀ C w' C):=
 (IL hF hl).mono (aZ.mono λv w' ⟨e,h⟩=>⟨by rw[e,adY hm hO kS],h⟩)
end
end Go.Proofs.YtmdhggfehknjjaaGreat
