/- Steps through functions of the program. -/
import Derived.Test.YtmdhggfehknjjaaGreatJX6X8
import Derived.Test.YtmdhggfehknjjaaGreatL2
set_option maxRecDepth 100000
set_option maxHeartbeats 4000000
namespace Go.Proofs.YtmdhggfehknjjaaGreat
open Go.K Go.K.bn
noncomputable section
namespace ZT
def c0:=qQ Tryz.f125
def B_:=nD (b7 (b7 (b7 c0)))
end ZT
theorem agj {l:List aH} {ds:List bp} {refs:List au} {bH bW gZ:Value} {b:Nat} (QV:refs.Nodup) (QW:refs.length<=1000) (hw:∀x∈l,1<=x.w/\x.w<=1048576) (lF:l.length<=4096):
    ∀(m i:Nat) (w₀:World) (C:Nat->Nat) (rows:List (List au)) (st:iU) (vs iX:Value),refs.length=i+m->lu ds (refs.take i) rows->aF w₀ C->aq w₀ (aj C) l bH->aq w₀ (aj C) ds bW->aq w₀ (aj C) refs gZ->aq w₀ (aj C) rows vs->bS w₀ C 3 b (.cells [bH,bW,gZ,iX,.int .i64 (st).val,.bool (st).found].toArray 177)->aq w₀ (aj C) st.best iX->
    Calls Tryz.prog 125 #[.pointer (some ⟨b,0,none⟩),.int .i64 (i:Int),vs] w₀ (aZ λv w'=>∃aG,v=.tuple #[]/\av [3,4,5] w₀ C w' aG/\aF w' aG/\∃ZU,bS w' aG 3 b (.cells [bH,bW,gZ,ZU,.int .i64 (tV l ds (refs.drop i) rows st).val,.bool (tV l ds (refs.drop i) rows st).found].toArray 177)/\aq w' (aj aG) (tV l ds (refs.drop i) rows st).best ZU):=by
 intro m
 induction m using Nat.strongRecOn
 rename_i m ih;intro i w₀ C rows st vs iX Dt uC hF hl hz hrf hp hx dz;have aO:=hF;replace hF:=hF.eL;replace hl:=hl.eL;replace hz:=hz.eL;replace hrf:=hrf.eL;replace hp:=hp.eL;replace hx:=hx.eL (.inl rfl);replace dz:=dz.eL;have aeK:=uC.VW;have jD: (refs.take i).length<=refs.length:=by rw[List.length_take];omega
 have hrows:rows.length<=1000:=by omega
 have gi:∀s∈rows,s.Nodup:=λs hs=>QV.sublist ((uC.sub s hs).trans (List.take_sublist _ _));have pE:∀s∈rows,s.length<=1000:=λs hs=>by have:=(uC.sub s hs).length_le;omega
 refine bG Tryz.func125 ?_;refine aA 7 ?_ [111,2];refine aX hx.at_ ?_;refine dE hrf.ln ?_;refine ax 2 ?_;refine a_ 19 rfl (λnu=>?_) (λnu=>?_)
 ·
  obtain rfl:m=0:=by omega
  refine aB 6 ?_ [1];refine cg (ι:=Nat×(Nat->Nat)) (λx w=>x.1<=rows.length/\(∀k (hk:k<x.1) (hl:k<rows.length),lM l rows[k]=true)/\aF w x.2/\av [3,4,5,6,7] w₀ (eL C) w x.2/\aq w (aj x.2) l bH/\aq w (aj x.2) ds bW/\aq w (aj x.2) refs gZ/\aq w (aj x.2) rows vs/\bS w x.2 3 b (.cells [bH,bW,gZ,iX,.int .i64 (st).val,.bool (st).found].toArray 177)/\aq w (aj x.2) (st).best iX) (λx=>[(0,.pointer (some ⟨b,0,none⟩)),(1,.int .i64 (i:Int)),(2,vs),(6,.int .i64 x.1)]) (λx=>rows.length-x.1) (0,eL C) ?_ ?_
  · exact⟨Nat.zero_le _,λk hk=>by simp only at hk;omega,hF,(av.refl [3,4,5,6,7] w₀ (eL C)),hl,hz,hrf,hp,hx,dz⟩
  intro⟨q,aK⟩ w1 hI bu;obtain⟨hq,hJ,hF,hT,hl,hz,hrf,hp,hx,dz⟩:=hI;try simp only at hq hJ hF hT hl hz hrf hp hx dz
  show Run _ _ _ _ [(0,.pointer (some ⟨b,0,none⟩)),(1,.int .i64 (i:Int)),(2,vs),(6,.int .i64 q)] _ _;refine aA 5 ?_ [15];refine dE hp.ln ?_;refine ax 2 ?_;refine a_ 23 rfl (λh23=>?_) (λh23=>?_)
  ·
   have cD:q<rows.length:=by omega
   refine aB 4 ?_;refine bX [] (aK) [1,3,5,7,9,11,13,15,16,19] bP ?_;intro w2 s_1;refine ah 3 ?_ [0];refine di hx.mv.sz ?_;refine ah 2 ?_;refine aL hp.mv ?_;intro _ Ca yO gA;refine ew gA ?_;intro v33 ny;refine gl Tryz.call181 rfl (ZP hF.mv hl.mv ny (gi _ (List.getElem_mem cD)) (by have:=pE _ (List.getElem_mem cD);omega)) ?_;rintro iu w3 ⟨rfl,s_2⟩;refine⟨aW,?_⟩;refine ax 2 ?_;refine f_ 35 rfl (λgj=>?_) (λgj=>?_)
   ·
    have qx:=aaK (st:=st) cD (by simpa using gj);refine AZ ai Tryz.func125 Tryz.results125 ?_;rw[show refs.drop i=[] from List.drop_eq_nil_of_le af,Lh,qx];exact⟨_,rfl,hT.mv.eN,tP hT.mv aO hF.mv,_,hx.mv.eN hT.mv (.inl rfl),dz.mv.eN hT.mv aO⟩
   have hjq:lM l (rows[q]'cD)=true:=by simpa using gj
   refine aB 7 ?_ [7];refine bC (bu (q+1,aK) _ ⟨aD,(λk hk mM=>by
      simp only at hk;by_cases e:k=q
      · subst e;exact hjq
      · exact hJ k af mM),hF.mv,hT.mv,hl.mv,hz.mv,hrf.mv,hp.mv,hx.mv,dz.mv⟩ aD)
  have cD:q=rows.length:=by omega
  have hall:=aaM (l:=l) (λk hk=>hJ k af hk);have s7:=Hr hw rows l.length (Nat.le_refl _);rw[E3] at s7;refine aA 7 ?_ [87,0];refine aX hx.at_ ?_;refine ah 1 ?_;refine bD Tryz.call55 (ZQ hF hl hp) ?_;rintro fS w4 ⟨rfl,cq⟩;rw[Pp af af];refine ax 3 ?_;by_cases pV:st.found=true
  ·
   refine aA 4 ?_ [7159,5];refine aX hx.mv.at_ ?_;refine aP (λ_=>fN (oz rfl) (show _=Value.bool false from congrArg Value.bool (by rw[pV];rfl))) ?_;refine ah 5 ?_ [4];refine aX hx.mv.at_ ?_;refine ax 3 ?_;refine a_ 54 rfl (λAJ=>?_) (λAJ=>?_)
   ·
    refine aA 5 ?_ [14063];refine cz Tryz.call182 rfl (F7 hF.mv hp.mv (λr hr=>by have:=pE r hr;omega) af) ?_;rintro v59 dc ⟨qG,cI,hF,us,ho,hr⟩;have fu:=Pc ho hr (λr hr=>by have:=pE r hr;omega) af;have qx:=WX hall (by first|exact .inl (Bool.eq_false_iff.2 pV)|exact .inr af);replace hF:=hF.bO 6;replace hl:=hl.mv.bO 6;replace hz:=hz.mv.bO 6;replace hrf:=hrf.mv.bO 6;replace hp:=hp.mv.bO 6;replace hx:=hx.mv.bO (n:=6) ak;replace dz:=dz.mv.bO 6;replace hT:=hT.mv.bO (n:=6) (λb=>Nat.lt_of_lt_of_le (z7 C b) ak);clear ho;clear hr;refine ah 3 ?_ [3];refine bM (ic rfl rfl ai (fu.one rfl).1 (fu.one rfl).2 hx b_) ?_;rintro _ ei ⟨rfl,de,hx⟩;refine ah 2 ?_ [4];refine bM (ic rfl rfl ai rfl rfl hx b_) ?_;rintro _ w7 ⟨rfl,ej,hx⟩;refine ah 2 ?_ [5];refine bM (ic rfl rfl ai rfl rfl hx b_) ?_;rintro _ fk ⟨rfl,eS,hx⟩;refine ax 1 ?_;refine AZ ai Tryz.func125 Tryz.results125 ?_;rw[show refs.drop i=[] from List.drop_eq_nil_of_le af,Lh,qx];exact⟨_,rfl,hT.mv.eN,tP hT.mv aO hF.mv,_,hx.eN hT.mv (.inl rfl),fu.mv.eN hT.mv aO⟩
   have qx:=aaN pV (show fc l rows<=st.val by omega);refine aB 1 ?_;refine AZ ai Tryz.func125 Tryz.results125 ?_;rw[show refs.drop i=[] from List.drop_eq_nil_of_le af,Lh,qx];exact⟨_,rfl,hT.mv.eN,tP hT.mv aO hF.mv,_,hx.mv.eN hT.mv (.inl rfl),dz.mv.eN hT.mv aO⟩
  refine aA 4 ?_ [7159,5];refine aX hx.mv.at_ ?_;refine aP (λ_=>fN (oz rfl) (show _=Value.bool true from congrArg Value.bool (by rw[(Bool.eq_false_iff.2 pV)];rfl))) ?_;refine bh 15 ?_ [14063];refine cz Tryz.call182 rfl (F7 hF.mv hp.mv (λr hr=>by have:=pE r hr;omega) af) ?_;rintro v59 fJ ⟨B9,fA,hF,us,ho,hr⟩;have fu:=Pc ho hr (λr hr=>by have:=pE r hr;omega) af;have qx:=WX hall (by first|exact .inl (Bool.eq_false_iff.2 pV)|exact .inr af);replace hF:=hF.bO 6;replace hl:=hl.mv.bO 6;replace hz:=hz.mv.bO 6;replace hrf:=hrf.mv.bO 6;replace hp:=hp.mv.bO 6;replace hx:=hx.mv.bO (n:=6) ak;replace dz:=dz.mv.bO 6;replace hT:=hT.mv.bO (n:=6) (λb=>Nat.lt_of_lt_of_le (z7 C b) ak);clear ho;clear hr;refine ah 3 ?_ [3];refine bM (ic rfl rfl ai (fu.one rfl).1 (fu.one rfl).2 hx b_) ?_;rintro _ gn ⟨rfl,fT,hx⟩;refine ah 2 ?_ [4];refine bM (ic rfl rfl ai rfl rfl hx b_) ?_;rintro _ iK ⟨rfl,gY,hx⟩;refine ah 2 ?_ [5];refine bM (ic rfl rfl ai rfl rfl hx b_) ?_;rintro _ iV ⟨rfl,eY,hx⟩;refine ax 1 ?_;refine AZ ai Tryz.func125 Tryz.results125 ?_;rw[show refs.drop i=[] from List.drop_eq_nil_of_le af,Lh,qx];exact⟨_,rfl,hT.mv.eN,tP hT.mv aO hF.mv,_,hx.eN hT.mv (.inl rfl),fu.mv.eN hT.mv aO⟩
 have hir:i<refs.length:=by omega
 obtain⟨m,rfl⟩:∃q,m=q+1:=⟨m-1,by omega⟩
 have vL:refs.drop i=refs[i]::refs.drop (i+1):=List.drop_eq_getElem_cons hir;refine aA 6 ?_ [55,2];refine aX hx.at_ ?_;refine ah 1 ?_;refine aL hrf ?_;intro _ ak5 ak6 Ee;refine gJ Ee ?_;intro LU Ci;obtain rfl:=bV.1 Ci;refine aR (dn (cs:=[.int .i64 0,.int .i64 0]) hF 6 ai) ?_;rintro _ ki ⟨zW,wL,rfl,iW,hrc,hF⟩;refine bM (cC (vs:=aV ((refs[i]'hir))) (n:=2) rfl rfl ai rfl rfl (fE rfl) hrc rfl) ?_;rintro _ kH ⟨rfl,jx,hrc⟩;refine ax 1 ?_;replace hF:=hF.mv.bO 6;replace hl:=hl.mv.bO 6;replace hz:=hz.mv.bO 6;replace hrf:=hrf.mv.bO 6;replace hp:=hp.mv.bO 6;replace hx:=hx.mv.bO (n:=6) ak;replace dz:=dz.mv.bO 6;replace Ee:=Ee.mv.bO 6;replace hrc:=hrc.aaG (n:=6) ak;have hT:=(av.refl [3,4,5,6,7] w₀ (eL C)).mv.bO (n:=6) (λb=>Nat.lt_of_lt_of_le (z7 C b) ak);refine aB 6 ?_ [1];refine cg (ι:=Nat×Value×(Nat->Nat)) (λx w=>x.1<=rows.length/\aF w x.2.2/\av [3,4,5,6,7] w₀ (eL C) w x.2.2/\aq w (aj x.2.2) l bH/\aq w (aj x.2.2) ds bW/\aq w (aj x.2.2) refs gZ/\aq w (aj x.2.2) rows vs/\bS w x.2.2 3 b (.cells [bH,bW,gZ,x.2.1,.int .i64 ((qE l ds (refs[i]'hir) (refs.drop (i+1)) rows st x.1)).val,.bool ((qE l ds (refs[i]'hir) (refs.drop (i+1)) rows st x.1)).found].toArray 177)/\aq w (aj x.2.2) ((qE l ds (refs[i]'hir) (refs.drop (i+1)) rows st x.1)).best x.2.1/\bS w x.2.2 0 wL (.cells (aV (refs[i]'hir)).toArray 55)) (λx=>[(0,.pointer (some ⟨b,0,none⟩)),(1,.int .i64 (i:Int)),(2,vs),(8,.pointer (some ⟨wL,0,none⟩)),(9,.int .i64 x.1)]) (λx=>rows.length-x.1) (0,iX,K.bO 6 (zW)) ?_ ?_
 · exact⟨Nat.zero_le _,hF,hT,hl,hz,hrf,hp,hx,dz,hrc⟩
 intro⟨k,iX,dm⟩ lR hI eD;obtain⟨hk,hF,hT,hl,hz,hrf,hp,hx,dz,hrc⟩:=hI;try simp only at hk hF hT hl hz hrf hp hx dz hrc
 show Run _ _ _ _ [(0,.pointer (some ⟨b,0,none⟩)),(1,.int .i64 (i:Int)),(2,vs),(8,.pointer (some ⟨wL,0,none⟩)),(9,.int .i64 k)] _ _;refine aA 5 ?_ [15];refine dE hp.ln ?_;refine ax 2 ?_;refine a_ 77 rfl (λagk=>?_) (λagk=>?_)
 ·
  have hkr:k<rows.length:=by omega
  have hlk:=pE _ (List.getElem_mem hkr);refine aB 13 ?_ [1,1];refine xE (ι:=Nat×(Nat->Nat)) (I:=λx w=>x.1<=(rows[k]'hkr).length/\aF w x.2/\av [3,4,5,6,7] w₀ (eL C) w x.2/\aq w (aj x.2) l bH/\aq w (aj x.2) ds bW/\aq w (aj x.2) refs gZ/\aq w (aj x.2) rows vs/\bS w x.2 3 b (.cells [bH,bW,gZ,iX,.int .i64 ((qE l ds (refs[i]'hir) (refs.drop (i+1)) rows st k)).val,.bool ((qE l ds (refs[i]'hir) (refs.drop (i+1)) rows st k)).found].toArray 177)/\aq w (aj x.2) ((qE l ds (refs[i]'hir) (refs.drop (i+1)) rows st k)).best iX/\bS w x.2 0 wL (.cells (aV (refs[i]'hir)).toArray 55)) (e:=λx=>[(0,.pointer (some ⟨b,0,none⟩)),(1,.int .i64 (i:Int)),(2,vs),(8,.pointer (some ⟨wL,0,none⟩)),(9,.int .i64 k),(10,.bool (!(((rows[k]'hkr).take x.1).any λx=>eP ds x (refs[i]'hir)))),(11,.int .i64 x.1)]) (m:=λx=>(rows[k]'hkr).length-x.1) (nB:=(0,dm)) (bT 0 (bT 1 (bT 2 (bT 8 (bT 9 (fD 10 rfl (congrArg Value.bool b_) (bT 11 (fL _)))))))) ?_ ?_
  · exact⟨Nat.zero_le _,hF,hT,hl,hz,hrf,hp,hx,dz,hrc⟩
  intro⟨j,k5⟩ mo hI kJ;obtain⟨hj,hF,hT,hl,hz,hrf,hp,hx,dz,hrc⟩:=hI;try simp only at hj hF hT hl hz hrf hp hx dz hrc
  show Run _ _ _ _ [(0,.pointer (some ⟨b,0,none⟩)),(1,.int .i64 (i:Int)),(2,vs),(8,.pointer (some ⟨wL,0,none⟩)),(9,.int .i64 k),(10,.bool (!(((rows[k]'hkr).take j).any λx=>eP ds x (refs[i]'hir)))),(11,.int .i64 j)] _ _
  refine aA 6 ?_ [111];refine aL hp ?_;intro _ ak7 ak8 RQ;refine dW RQ ?_;intro ak9 RR;refine dE RR.ln ?_;refine ax 2 ?_;refine a_ 86 rfl (λQf=>?_) (λQf=>?_)
  ·
   have hjl:j<(rows[k]'hkr).length:=by omega
   refine aB 3 ?_;rcases Bool.eq_false_or_eq_true ((!(((rows[k]'hkr).take j).any λx=>eP ds x (refs[i]'hir)))) with hok|hok
   ·
    rw[hok];refine bX [] (k5) [1,3,5,7,9,11,13,15,17,19,21,23,25,27,28,31,33] bP ?_;intro nQ jX;refine ah 5 ?_ [1];refine di hx.mv.sz ?_;refine ah 2 ?_;refine aL hp.mv ?_;intro _ ak_ ala Qg;refine ew Qg ?_;intro agl RS;refine ah 1 ?_;refine aL RS ?_;intro _ alb alc RT;refine cn RT ?_;intro ald agm;obtain rfl:=bV.1 agm;refine c7 2 (aV (refs[i]'hir)) hrc.mv.sz ?_;refine dC Tryz.call127 (RL (a:=(rows[k]'hkr)[j]'hjl) (b:=(refs[i]'hir)) hF.mv hz.mv) ?_;rintro Mf oh ⟨rfl,mq⟩;refine⟨aW,?_⟩;refine ax 9 ?_ [7];refine kp (bT 0 (bT 1 (bT 2 (bT 8 (bT 9 (fD 10 rfl (congrArg Value.bool (by simp only;rw[WT hjl,hok,Bool.true_and])) (fD 11 rfl (eq_int b_) (fL _)))))))) (kJ (j+1,k5) _ ⟨aD,hF.mv,hT.mv,hl.mv,hz.mv,hrf.mv,hp.mv,hx.mv,dz.mv,hrc.mv⟩ aD)
   rw[hok];refine bX [] (k5) [1,3,5,7,9,11,13,15,17,19,21,23,25,27,28,31,33] bP ?_;intro mJ lU;refine ah 14 ?_;refine nz ?_;refine mb (k8 103 (mV 127 #[94,101,102] #[27,55,55]) 1 true) rfl rfl aW ?_;refine ck ?_;refine ax 9 ?_ [7];refine kp (bT 0 (bT 1 (bT 2 (bT 8 (bT 9 (fD 10 rfl (congrArg Value.bool (by simp only;rw[WT hjl,hok];rfl)) (fD 11 rfl (eq_int b_) (fL _)))))))) (kJ (j+1,k5) _ ⟨aD,hF.mv,hT.mv,hl.mv,hz.mv,hrf.mv,hp.mv,hx.mv,dz.mv,hrc.mv⟩ aD)
  have hjl:j=(rows[k]'hkr).length:=by omega
  refine aB 5 ?_ [1];refine f_ 105 rfl (λJn=>?_) (λJn=>?_)
  ·
   have hok:pT ds (rows[k]'hkr) (refs[i]'hir)=true:=by rw[hjl,List.take_length] at Jn;exact Jn
   have hst:=aaI (l:=l) (st:=st) hkr hok (refs.drop (i+1));have QX:=uC.VX hir hkr hok;refine aA 3 ?_ [5];refine cz Tryz.call182 rfl (F7 hF hp (λr hr=>by have:=pE r hr;omega) af) ?_;rintro v107 qC ⟨Aw,nh,hF,us,ho,hr⟩;have hrl:=hr.len;have AH:k<us.length:=by omega
   refine ax 3 ?_;refine bX [7] (Aw) [1,3,5,7,9,11,13,14,16,19,20] bP ?_;intro tO oJ;refine ah 4 ?_;refine c6 ho.mv ?_;intro B0 agn;refine qT ho.mv agn ?_;intro _ ZL Mm;obtain rfl:ZL=us[k]'AH:=by have:=(mF.1 Mm).1;simpa using this
   clear Mm;refine c7 2 (aV (refs[i]'hir)) hrc.mv.sz ?_;refine c5 (ez (ys:=([(refs[i]'hir)]:List au)) (e:=55) (bytes:=16) hF.mv ai rfl ak ak ⟨rfl,⟨_,rfl,bV.2 rfl⟩,trivial⟩) ?_;rintro Yt wN ⟨nR,B4,hF⟩;refine⟨aW,?_⟩;refine c5 (hr.mv.append (e:=55) (bytes:=16) hF ak AH hkr rfl rfl ai ak B4 dH dH) ?_;rintro ZV wO ⟨RU,om,hF,hr⟩;refine⟨aW,?_⟩;have hone:=hr.aaF k (by rw[List.length_set];exact AH);rw[List.getElem_set,if_pos rfl] at hone;refine c6 ho.mv ?_;intro ZM agp;refine gU rfl ?_;refine bM (gQ ho.mv agp MB rfl rfl ai ((mF (x:=⟨ZV⟩)).2 ⟨rfl,hone⟩)) ?_;rintro _ wP ⟨rfl,uX,ho⟩;refine ax 1 ?_;rw[<-List.map_set] at ho;replace hr:=hr.mv;have hp2:=Pc ho hr (λr hr=>by
     rcases List.mem_or_eq_of_mem_set hr with e|e
     · have:=pE r e;omega
     · rw[e];simp only[List.length_append,List.length_cons,List.length_nil];omega) (by rw[List.length_set];omega)
   replace hF:=hF.mv.bO 6;replace hl:=hl.mv.bO 6;replace hz:=hz.mv.bO 6;replace hrf:=hrf.mv.bO 6;replace hp:=hp.mv.bO 6;replace hx:=hx.mv.bO (n:=6) ak;replace dz:=dz.mv.bO 6;replace hrc:=hrc.mv.bO (n:=6) ak;replace RQ:=RQ.mv.bO 6;replace RR:=RR.mv.bO 6;replace hT:=hT.mv.bO (n:=6) (λb=>Nat.lt_of_lt_of_le (z7 C b) ak);clear ho;clear hr;refine aA 3 ?_ [15];refine jE ((i+1:Nat):Int) ?_;refine ah 1 ?_;refine cz Tryz.call125 rfl (ih m af (i+1) _ (K.bO 6 (RU)) _ _ _ _ af QX hF hl hz hrf hp2 hx dz) ?_;clear hx dz;rintro _ zX ⟨Qp,rfl,zY,hF,iX,hx,dz⟩;refine ax 1 ?_;rw[<-hst] at hx dz;refine aB 6 ?_ [7];refine bC (eD (k+1,iX,Qp) _ ⟨aD,hF,hT.mv,hl.mv,hz.mv,hrf.mv,hp.mv,hx,dz,hrc.mv⟩ aD)
  have hok:pT ds (rows[k]'hkr) (refs[i]'hir)=false:=by rw[hjl,List.take_length] at Jn;exact Jn
  have hst:=aaJ (l:=l) (st:=st) hkr hok (refs.drop (i+1));refine aB 7 ?_ [7];refine bC (eD (k+1,iX,k5) _ ⟨aD,hF,hT,hl,hz,hrf,hp,(by simp only;rw[hst];exact hx),(by simp only;rw[hst];exact dz),hrc⟩ aD)
 obtain rfl:k=rows.length:=by omega
 replace hF:=hF.bO 6;replace hl:=hl.bO 6;replace hz:=hz.bO 6;replace hrf:=hrf.bO 6;replace hp:=hp.bO 6;replace hx:=hx.bO (n:=6) ak;replace dz:=dz.bO 6;replace hrc:=hrc.bO (n:=6) ak;replace hT:=hT.bO (n:=6) (λb=>Nat.lt_of_lt_of_le (z7 C b) ak);refine aB 1 ?_;refine EZ (id:=21) (ops:=ZT.B_) [6] (K.bO 6 (dm)) 9 (.fork [0,1,2,3,5] 4 (.run [nn 6,nn 7,nn 8,nn 9]) 6 (.fork [] 4 (.run [nn 7,nn 8,nn 9]) 7 (.run [nn 4,nn 8,nn 9]))) bP ai ai ai ?_;intro Bx Bz;refine C9 ?_;show bN _ _ _ _ _ (jm 4 0 (eu 5::[])) _ _;refine ck ?_;refine ah 2 ?_;refine jE ((i+1:Nat):Int) ?_;refine ah 1 ?_;refine c7 2 (aV (refs[i]'hir)) hrc.mv.sz ?_;refine nz ?_;refine C_ ?_ ?_
 ·
  show bN _ _ _ _ _ [nn 4] _ _;refine ck ?_;refine gl Tryz.call182 rfl (F7 hF.mv hp.mv (λr hr=>by have:=pE r hr;omega) af) ?_;rintro v127 Dp ⟨ale,Dq,hF,us,ho,hr⟩;refine⟨aW,?_⟩;refine nz ?_;refine sS aW ?_;refine tJ ?_;show bN _ _ _ _ _ [nn 6,nn 7,nn 8,nn 9] _ _;refine ck ?_;refine c5 (ez (ys:=([(refs[i]'hir)]:List au)) (e:=55) (bytes:=16) hF ai rfl ak ak ⟨rfl,⟨_,rfl,bV.2 rfl⟩,trivial⟩) ?_;rintro Mn E5 ⟨I5,uE,hF⟩;refine⟨aW,?_⟩;refine c5 (ez (ys:=([⟨Mn⟩]:List gu)) (e:=52) (bytes:=24) hF ai rfl ak ak ⟨rfl,⟨_,rfl,mF.2 ⟨rfl,(uE.one rfl).2⟩⟩,trivial⟩) ?_;rintro v130 Jh ⟨F0,Jo,hF⟩;refine⟨aW,?_⟩;refine c5 (eO (e:=52) (bytes:=24) hF ak rfl rfl ai ak ho.mv Jo (by have:=hr.mv.len;simp only[List.length_cons,List.length_nil,List.length_map];omega) (by have:=hr.mv.len;simp only[List.length_cons,List.length_nil,List.length_map];omega)) ?_;rintro v131 Ji ⟨agq,I6,ho,hF⟩;refine⟨aW,?_⟩;refine gU rfl ?_;replace hr:=hr.mv;have hp2:=Pd ho hr (uE.mv.bO 6) (λr hr=>by have:=pE r hr;omega) af;replace hF:=hF.bO 6;replace hl:=hl.mv.bO 6;replace hz:=hz.mv.bO 6;replace hrf:=hrf.mv.bO 6;replace hp:=hp.mv.bO 6;replace hx:=hx.mv.bO (n:=6) ak;replace dz:=dz.mv.bO 6;replace hrc:=hrc.mv.bO (n:=6) ak;replace hT:=hT.mv.bO (n:=6) (λb=>Nat.lt_of_lt_of_le (z7 C b) ak);clear ho;clear hr;replace uE:=uE.mv.bO 6;refine cz Tryz.call125 rfl (ih m af (i+1) _ (K.bO 6 (agq)) _ _ _ _ af (uC.new' hir) hF hl hz hrf hp2 hx dz) ?_;clear hx dz;rintro _ Rw ⟨alf,rfl,F1,hF,iX,hx,dz⟩;refine ax 1 ?_;refine rT Tryz.func125 rfl ?_;rw[vL,O9];exact⟨_,rfl,hT.mv.eN,tP hT.mv aO hF,_,hx.eN hT.mv (.inl rfl),dz.eN hT.mv aO⟩
 show bN _ _ _ _ _ [nn 6] _ _;refine ck ?_;refine c5 (ez (ys:=([(refs[i]'hir)]:List au)) (e:=55) (bytes:=16) hF.mv ai rfl ak ak ⟨rfl,⟨_,rfl,bV.2 rfl⟩,trivial⟩) ?_;rintro Mn Rx ⟨I7,uE,hF⟩;refine⟨aW,?_⟩;refine nz ?_;refine sS aW ?_;refine C9 ?_;show bN _ _ _ _ _ [] _ _;refine C_ ?_ ?_
 ·
  show bN _ _ _ _ _ [nn 4] _ _;refine ck ?_;refine gl Tryz.call182 rfl (F7 hF hp.mv (λr hr=>by have:=pE r hr;omega) af) ?_;rintro v127 Zx ⟨alg,I8,hF,us,ho,hr⟩;refine⟨aW,?_⟩;refine nz ?_;refine sS aW ?_;refine tJ ?_;show bN _ _ _ _ _ [nn 7,nn 8,nn 9] _ _;refine ck ?_;refine c5 (ez (ys:=([⟨Mn⟩]:List gu)) (e:=52) (bytes:=24) hF ai rfl ak ak ⟨rfl,⟨_,rfl,mF.2 ⟨rfl,(uE.mv.one rfl).2⟩⟩,trivial⟩) ?_;rintro v130 Zy ⟨LX,Jo,hF⟩;refine⟨aW,?_⟩;refine c5 (eO (e:=52) (bytes:=24) hF ak rfl rfl ai ak ho.mv Jo (by have:=hr.mv.len;simp only[List.length_cons,List.length_nil,List.length_map];omega) (by have:=hr.mv.len;simp only[List.length_cons,List.length_nil,List.length_map];omega)) ?_;rintro v131 Zz ⟨ZW,QU,ho,hF⟩;refine⟨aW,?_⟩;refine gU rfl ?_;replace hr:=hr.mv;have hp2:=Pd ho hr (uE.mv.bO 6) (λr hr=>by have:=pE r hr;omega) af;replace hF:=hF.bO 6;replace hl:=hl.mv.bO 6;replace hz:=hz.mv.bO 6;replace hrf:=hrf.mv.bO 6;replace hp:=hp.mv.bO 6;replace hx:=hx.mv.bO (n:=6) ak;replace dz:=dz.mv.bO 6;replace hrc:=hrc.mv.bO (n:=6) ak;replace uE:=uE.mv.bO 6;replace hT:=hT.mv.bO (n:=6) (λb=>Nat.lt_of_lt_of_le (z7 C b) ak);clear ho;clear hr;refine cz Tryz.call125 rfl (ih m af (i+1) _ (K.bO 6 (ZW)) _ _ _ _ af (uC.new' hir) hF hl hz hrf hp2 hx dz) ?_;clear hx dz;rintro _ ZA ⟨alh,rfl,ZB,hF,iX,hx,dz⟩;refine ax 1 ?_;refine rT Tryz.func125 rfl ?_;rw[vL,O9];exact⟨_,rfl,hT.mv.eN,tP hT.mv aO hF,_,hx.eN hT.mv (.inl rfl),dz.eN hT.mv aO⟩
 show bN _ _ _ _ _ [nn 7] _ _;refine ck ?_;refine c5 (ez (ys:=([⟨Mn⟩]:List gu)) (e:=52) (bytes:=24) hF ai rfl ak ak ⟨rfl,⟨_,rfl,mF.2 ⟨rfl,(uE.one rfl).2⟩⟩,trivial⟩) ?_;rintro v130 ZC ⟨ZD,Jo,hF⟩;refine⟨aW,?_⟩;refine nz ?_;refine sS aW ?_;refine tJ ?_;show bN _ _ _ _ _ [nn 4,nn 8,nn 9] _ _;refine ck ?_;refine gl Tryz.call182 rfl (F7 hF hp.mv (λr hr=>by have:=pE r hr;omega) af) ?_;rintro v127 agr ⟨ZX,ags,hF,us,ho,hr⟩;refine⟨aW,?_⟩;refine c5 (eO (e:=52) (bytes:=24) hF ak rfl rfl ai ak ho Jo.mv (by have:=hr.len;simp only[List.length_cons,List.length_nil,List.length_map];omega) (by have:=hr.len;simp only[List.length_cons,List.length_nil,List.length_map];omega)) ?_;rintro v131 agt ⟨agu,ali,ho,hF⟩;refine⟨aW,?_⟩;refine gU rfl ?_;replace hr:=hr.mv;have hp2:=Pd ho hr (uE.mv.bO 6) (λr hr=>by have:=pE r hr;omega) af;replace hF:=hF.bO 6;replace hl:=hl.mv.bO 6;replace hz:=hz.mv.bO 6;replace hrf:=hrf.mv.bO 6;replace hp:=hp.mv.bO 6;replace hx:=hx.mv.bO (n:=6) ak;replace dz:=dz.mv.bO 6;replace hrc:=hrc.mv.bO (n:=6) ak;replace uE:=uE.mv.bO 6;replace hT:=hT.mv.bO (n:=6) (λb=>Nat.lt_of_lt_of_le (z7 C b) ak);clear ho;clear hr;refine cz Tryz.call125 rfl (ih m af (i+1) _ (K.bO 6 (agu)) _ _ _ _ af (uC.new' hir) hF hl hz hrf hp2 hx dz) ?_;clear hx dz;rintro _ agv ⟨alj,rfl,alk,hF,iX,hx,dz⟩;refine ax 1 ?_;refine rT Tryz.func125 rfl ?_;rw[vL,O9];exact⟨_,rfl,hT.mv.eN,tP hT.mv aO hF,_,hx.eN hT.mv (.inl rfl),dz.eN hT.mv aO⟩
end
end Go.Proofs.YtmdhggfehknjjaaGreat
namespace Go.Proofs.YtmdhggfehknjjaaGreat
open Go.K Go.K.bn
noncomputable section
namespace ZY
def c0:=qQ Tryz.f74
def Eb:=(cl (b7 (cl (b7 (b7 c0)))))
def agw:=(b7 (cl (cl (b7 (cl Eb)))))
def D9:=nD (cl (b7 (b7 agw)))
end ZY
theorem RW {w₀:World} {C:Nat->Nat} {rows:List (List au)} {cH:Value} (hF:aF w₀ C) (hp:aq w₀ (aj C) rows cH) (hlen:rows.length<=1000000):Calls Tryz.prog 74 #[cH] w₀ (aZ λv w'=>av [] w₀ C w' C/\aq w' (aj C) (jL rows) v):=by
 have aO:=hF;replace hF:=hF.aI;replace hp:=hp.c1;refine bG Tryz.func74 ?_;refine aB 14 ?_ [1,1,1];refine cg (ι:=Nat×(List (List au))×Value×(Nat->Nat)) (λx w=>x.1<=rows.length/\x.2.1=jL (rows.take x.1)/\aF w x.2.2.2/\av [2,3,4,5,6,7,8,9] w₀ (aI C) w x.2.2.2/\aq w (aj x.2.2.2) rows cH/\aq w (aj x.2.2.2) x.2.1 x.2.2.1) (λx=>[(0,cH),(3,x.2.2.1),(4,.int .i64 x.1)]) (λx=>rows.length-x.1) (0,[],.slice none 0 0,aI C) ?_ ?_
 · exact⟨Nat.zero_le _,rfl,hF,(z9 w₀ C),hp,eT⟩
 intro⟨i,out,ct,aK⟩ w1 hI bu;obtain⟨hi,he,hF,hT,hp,ho⟩:=hI;try simp only at hi he hF hT hp ho
 show Run _ _ _ _ [(0,cH),(3,ct),(4,.int .i64 i)] _ _;have hle:=hp.le;have wB:=aaS (rows.take i);rw[<-he,List.length_take] at wB;have hne:∀p∈out,2<=p.length:=λp hp=>aaR (he▸hp);refine aA 5 ?_ [15];refine dE hp.ln ?_;refine ax 2 ?_;refine a_ 10 rfl (λgq=>?_) (λgq=>?_)
 ·
  have hil:i<rows.length:=by omega
  have en:=aaT hil;refine aA 8 ?_ [55];refine aL hp ?_;intro _ QE QF gL;refine dW gL ?_;intro tu g16;refine dE g16.ln ?_;refine ax 2 ?_;refine a_ 18 rfl (λlW=>?_) (λlW=>?_)
  ·
   rw[if_neg af,<-he] at en;refine aB 6 ?_ [7];refine bC (bu (i+1,out,ct,aK) _ ⟨aD,en.symm,hF,hT,hp,ho⟩ aD)
  have D6:2<=(rows[i]'hil).length:=by omega
  rw[if_pos D6,<-he] at en;refine aB 7 ?_ [1];refine cg (ι:=Nat×(Nat->Nat)) (λx w=>x.1<=out.length/\(∀q (hq:q<x.1) (hl:q<out.length),fU out[q] (rows[i]'hil)<0)/\aF w x.2/\av [2,3,4,5,6,7,8,9] w₀ (aI C) w x.2/\aq w (aj x.2) rows cH/\aq w (aj x.2) out ct) (λx=>[(0,cH),(3,ct),(4,.int .i64 i),(5,.int .i64 x.1)]) (λx=>out.length-x.1) (0,aK) ?_ ?_
  · exact⟨Nat.zero_le _,λq hq=>by simp only at hq;omega,hF,hT,hp,ho⟩
  intro⟨k,dm⟩ w2 hI eD;obtain⟨hk,h0,hF,hT,hp,ho⟩:=hI;try simp only at hk h0 hF hT hp ho
  show Run _ _ _ _ [(0,cH),(3,ct),(4,.int .i64 i),(5,.int .i64 k)] _ _;refine aB 2 ?_;refine iL 37 ((if h:k<out.length then decide (fU out[k] (rows[i]'hil)<0) else false)) (dm) ?_ ?_
  ·
   intro bU;by_cases hA: (k:Int)<out.length
   ·
    refine bX [] (dm) [1,3,5,7,9,11,13,15,17,19,21,23,25,27,29,31,33,34,37] bP ?_;intro w3 s_1;have hcs:=s_1;refine ah 2 ?_;refine dE ho.mv.ln ?_;refine dT hA ?_;refine ah 3 ?_;refine aL ho.mv ?_;intro _ y4 y5 kI;refine ew kI ?_;intro y6 ux;have alm:=hne _ (List.getElem_mem (show k<out.length by omega));refine aL ux ?_;intro _ afZ af0 gG;refine cn gG ?_;intro uy kR;obtain rfl:=bV.1 kR;refine ah 2 ?_;refine aL hp.mv ?_;intro _ Ca yO gA;refine ew gA ?_;intro v33 ny;refine aL ny ?_;intro _ FJ FK lX;refine cn lX ?_;intro v35 o7;obtain rfl:=bV.1 o7;refine dC Tryz.call44 (FT hF.mv) ?_;rintro fS w4 ⟨rfl,s_2⟩;refine⟨aW,?_⟩;refine ah 1 ?_;exact bQ.nil (bU _ _ _ hcs.mv rfl (by rw[dif_pos af];congr 1;apply decide_eq_decide.2;rw[OQ af af,xL]<;>exact Iff.rfl) (cB 19))
   refine bX [] (dm) [1,3,5,7,9,11,13,15,17,19,21,23,25,27,29,31,33,34,37] bP ?_;intro dc cq;have hcs:=cq;refine ah 2 ?_;refine dE ho.mv.ln ?_;refine cL hA ?_;refine ah 13 ?_;refine nz ?_;refine mb (k8 36 (mV 44 #[29,35] #[55,55]) 4 true) rfl rfl aW ?_;refine ck ?_;refine ah 1 ?_;exact bQ.nil (bU _ _ _ hcs rfl (by rw[dif_neg af]) (cB 19))
  intro ei cI;refine f_ 37 rfl (λgK=>?_) (λgK=>?_)
  ·
   have ay:k<out.length:=by
     apply Classical.byContradiction;intro e;rw[dif_neg e] at gK;cases gK
   rw[dif_pos ay] at gK;replace gK:=of_decide_eq_true gK;refine aB 8 ?_ [7];refine bC (eD (k+1,dm) _ ⟨aD,(λq hq hl=>by
      simp only at hq;by_cases e:q=k
      ·subst e;exact gK
      ·exact h0 q af hl),hF.mv,hT.mv,hp.mv,ho.mv⟩ aD)
  have hins:=WG (s:=(rows[i]'hil)) hk (λq hq h=>h0 q hq h) (λh=>by rw[dif_pos h] at gK;exact of_decide_eq_false gK);refine aB 2 ?_;refine Ex (id:=9) (ops:=ZY.D9) [4] (dm) [0,1,2,4,5,6,7] 3 [nn 8,nn 9,eu 10] 8 [nn 3,nn 9,eu 10] bP ai ai ai ?_ ?_
  ·
   intro w7 de;show bQ _ _ _ _ _ _ _ (jm 3 0 (jm 4 4 (nn 3::nn 8::nn 9::eu 10::[]))) _ _;refine ck ?_;refine ah 2 ?_;refine nz ?_;refine Be (e':=52) (fq 42 (.slice 24 40 none (some 41) none)) rfl rfl ho.mv rfl ai rfl af af ?_;intro vJ AF;try simp only[fh] at AF
   refine ck ?_;refine ah 2 ?_;refine aL hp.mv ?_;intro _ Hu Hv h46;refine ew h46 ?_;intro yc ni;refine c5 (eO (e:=52) (bytes:=24) hF.mv ak rfl rfl ai ak (aQ.nil (α:=List au) (j:=4)) AF l7 l7) ?_;rintro B6 fk ⟨xd,ej,hn,hF⟩;refine⟨aW,?_⟩;refine c5 (ez (ys:=([(rows[i]'hil)]:List (List au))) (e:=52) (bytes:=24) hF ai rfl ak ak ⟨rfl,⟨_,rfl,ni.mv⟩,trivial⟩) ?_;rintro DP fJ ⟨eS,lE,hF⟩;refine⟨aW,?_⟩;refine c5 (eO (e:=52) (bytes:=24) hF ak rfl rfl ai ak hn.mv lE l7 l7) ?_;rintro v49 gn ⟨yG,fA,hn,hF⟩;refine⟨aW,?_⟩;refine bh 6 ?_ [47];refine nz ?_;refine JZ (e':=52) (fq 53 (.slice 24 51 (some 52) none none)) rfl rfl ho.mv rfl ai rfl af af ?_;intro v53 sG;try simp only[fh] at sG
   refine ck ?_;refine aR (eO (e:=52) (bytes:=24) hF ak rfl rfl ai ak hn sG l7 l7) ?_;rintro v54 iK ⟨uz,fT,hn,hF⟩;refine ax 8 ?_ [7];have e: ([]++List.take k out++[(rows[i]'hil)])++List.drop k out=mK out (rows[i]'hil):=by rw[<-hins];simp
   rw[e] at hn;clear ho;replace hF:=hF.bO 4;replace hp:=hp.mv.bO 4;replace hT:=hT.mv.bO (n:=4) (λb=>Nat.lt_of_lt_of_le (zl C b) ak);have tf:=hn.bO (n:=4) ak (by have:=WH out (rows[i]'hil);omega);clear hn;have ho:=tf;clear tf;refine bC (bu (i+1,mK out (rows[i]'hil),v54,K.bO 4 uz) _ ⟨aD,en.symm,hF,hT,hp,ho⟩ aD)
  intro iV gY;show bQ _ _ _ _ _ _ _ (jm 3 0 (jm 4 4 (nn 8::nn 3::nn 9::eu 10::[]))) _ _;refine ck ?_;refine ah 2 ?_;refine nz ?_;refine Be (e':=52) (fq 42 (.slice 24 40 none (some 41) none)) rfl rfl ho.mv rfl ai rfl af af ?_;intro vJ AF;try simp only[fh] at AF
  refine ck ?_;refine ah 2 ?_;refine aL hp.mv ?_;intro _ Hu Hv h46;refine ew h46 ?_;intro yc ni;refine c5 (ez (ys:=([(rows[i]'hil)]:List (List au))) (e:=52) (bytes:=24) hF.mv ai rfl ak ak ⟨rfl,⟨_,rfl,ni⟩,trivial⟩) ?_;rintro DP ki ⟨eY,lE,hF⟩;refine⟨aW,?_⟩;refine c5 (eO (e:=52) (bytes:=24) hF ak rfl rfl ai ak (aQ.nil (α:=List au) (j:=4)) AF.mv l7 l7) ?_;rintro B6 kH ⟨sI,iW,hn,hF⟩;refine⟨aW,?_⟩;refine c5 (eO (e:=52) (bytes:=24) hF ak rfl rfl ai ak hn lE.mv l7 l7) ?_;rintro v49 lR ⟨QO,jx,hn,hF⟩;refine⟨aW,?_⟩;refine bh 6 ?_ [47];refine nz ?_;refine JZ (e':=52) (fq 53 (.slice 24 51 (some 52) none none)) rfl rfl ho.mv rfl ai rfl af af ?_;intro v53 sG;try simp only[fh] at sG
  refine ck ?_;refine aR (eO (e:=52) (bytes:=24) hF ak rfl rfl ai ak hn sG l7 l7) ?_;rintro v54 mo ⟨D2,jX,hn,hF⟩;refine ax 8 ?_ [7];have e: ([]++List.take k out++[(rows[i]'hil)])++List.drop k out=mK out (rows[i]'hil):=by rw[<-hins];simp
  rw[e] at hn;clear ho;replace hF:=hF.bO 4;replace hp:=hp.mv.bO 4;replace hT:=hT.mv.bO (n:=4) (λb=>Nat.lt_of_lt_of_le (zl C b) ak);have tf:=hn.bO (n:=4) ak (by have:=WH out (rows[i]'hil);omega);clear hn;have ho:=tf;clear tf;refine bC (bu (i+1,mK out (rows[i]'hil),v54,K.bO 4 D2) _ ⟨aD,en.symm,hF,hT,hp,ho⟩ aD)
 have hil:i=rows.length:=by omega
 rw[hil,List.take_length] at he;subst he;refine aB 6 ?_ [3];refine bg Tryz.func74 ?_;exact⟨hT.o1,ho.out hT aO (er C)⟩
theorem agx {w₀:World} {C:Nat->Nat} {l:List aH} {ds:List bp} {aC bW:Value} (hF:aF w₀ C) (hl:aq w₀ (aj C) l aC) (hz:aq w₀ (aj C) ds bW) (hrl: (aM l).length<=1000) (hw:∀x∈l,1<=x.w/\x.w<=1048576) (lF:l.length<=4096) (hne:∀x∈l,x.A≠x.B):Calls Tryz.prog 72 #[aC,bW] w₀ (aZ λv w'=>av [] w₀ C w' C/\aq w' (aj C) (rj l ds) v):=by
 have aO:=hF;replace hF:=hF.aI;replace hl:=hl.c1;replace hz:=hz.c1;refine bG Tryz.func72 ?_;refine aA 9 ?_ [1,87];refine cz Tryz.call25 rfl (Mj hF hl af) ?_;rintro gZ w1 ⟨s_1,hrf⟩;refine aP (λ_=>eW (zs:=[.slice none 0 0,.slice none 0 0,.slice none 0 0,.slice none 0 0,.int .i64 0,.bool false]) (ps:=[(0,1),(1,1),(2,1),(3,1),(4,1),(5,1)]) (c4:=[(0,[aC]),(1,[bW]),(2,[gZ])]) (cs:=[aC,bW,gZ,.slice none 0 0,.int .i64 0,.bool false]) ai ai (by exact⟨rfl,⟨_,rfl,(hl.mv.one rfl).1⟩,rfl,⟨_,rfl,(hz.mv.one rfl).1⟩,rfl,⟨_,rfl,(hrf.one rfl).1⟩,trivial⟩) rfl) ?_;refine aR (cu (cs:=[aC,bW,gZ,.slice none 0 0,.int .i64 0,.bool false]) hF.mv 3 rfl rfl) ?_;rintro _ w2 ⟨cw,cM,rfl,s_2,hx,hF⟩;refine bh 5 ?_ [1];refine cz Tryz.call125 rfl (agj (b:=cM) (xM l) hrl hw lF (aM l).length 0 _ cw [] sW _ _ b_ lu.nil hF hl.mv hz.mv hrf.mv eT hx eT) ?_;clear hx;rintro _ w3 ⟨jd,rfl,cq,hF,iX,hx,dz⟩;rw[List.drop_zero] at hx dz;refine bh 6 ?_ [39,3];refine aX hx.at_ ?_;refine cz Tryz.call74 rfl (RW hF dz (by have:=aaO l ds;omega)) ?_;rintro j4 w4 ⟨cI,hq⟩;rw[aay hne] at hq;refine ax 2 ?_;refine bg Tryz.func72 ?_;exact⟨(z9 w₀ C).o1,hq.out (z9 w₀ C).mv aO (er C)⟩
theorem agy {w₀:World} {C:Nat->Nat} {l:List aH} {aC:Value} {i:Nat} {k:Int} (hF:aF w₀ C) (hl:aq w₀ (aj C) l aC) (hi:i<l.length) (h0:0<=k) (hk:k.toNat<l.length):Calls Tryz.prog 126 #[aC,.int .i64 i,.int .i64 k] w₀ (aZ λv w'=>v=.bool (decide (hv l i k.toNat))/\av [] w₀ C w' C):=by
 have aO:=hF;replace hF:=hF.aI;replace hl:=hl.c1;refine bG Tryz.func126 ?_;refine aB 5 ?_ [1];by_cases hA: (l[i]'hi).w>(l[k.toNat]'hk).w
 ·
  refine bX [] (aI C) [1,3,5,7,9,11,13,15,17,19,21,23,25,27,29,31,33,35,37,39,41,43,45,47,49,51,53,55,57,59] bP ?_;intro w1 s_1;refine ah 2 ?_;refine aL hl.mv ?_;intro _ Jb D9 fC;have gq:=bk.wq fC;refine ah 1 ?_ [4];refine ew gq ?_;intro v11 g11;first|(obtain rfl:=dJ.1 g11)|(obtain rfl:=cO.1 g11)
  refine ah 2 ?_;refine aL hl.mv ?_;intro _ qz qA eR;have gL:=bk.wq eR;refine ah 1 ?_ [4];refine ew gL ?_;intro tu g16;first|(obtain rfl:=dJ.1 g16)|(obtain rfl:=cO.1 g16)
  refine dT hA ?_;refine ax 20 ?_;refine bg Tryz.func126 ?_;exact⟨by rw[decide_eq_true (show hv l i k.toNat from .inl (by rw[BN hi,BN hk];omega))],(z9 w₀ C).o1⟩
 by_cases hB: (l[i]'hi).w=(l[k.toNat]'hk).w
 ·
  refine bX [] (aI C) [1,3,5,7,9,11,13,15,17,19,21,23,25,27,29,31,33,35,37,39,41,43,45,47,49,51,53,55,57,59] bP ?_;intro w2 s_2;refine ah 2 ?_;refine aL hl.mv ?_;intro _ Jb D9 fC;have gq:=bk.wq fC;refine ah 1 ?_ [4];refine ew gq ?_;intro v11 g11;first|(obtain rfl:=dJ.1 g11)|(obtain rfl:=cO.1 g11)
  refine ah 2 ?_;refine aL hl.mv ?_;intro _ qz qA eR;have gL:=bk.wq eR;refine ah 1 ?_ [4];refine ew gL ?_;intro tu g16;first|(obtain rfl:=dJ.1 g16)|(obtain rfl:=cO.1 g16)
  refine cL hA ?_;refine ah 3 ?_;refine aL hl.mv ?_;intro _ FX B_ jl;have eZ:=bk.wq jl;refine ah 1 ?_ [4];refine ew eZ ?_;intro v23 g23;first|(obtain rfl:=dJ.1 g23)|(obtain rfl:=cO.1 g23)
  refine ah 2 ?_;refine aL hl.mv ?_;intro _ y4 y5 kI;have gM:=bk.wq kI;refine ah 1 ?_ [4];refine ew gM ?_;intro v28 qL;first|(obtain rfl:=dJ.1 qL)|(obtain rfl:=cO.1 qL)
  refine dT hB ?_;refine ax 8 ?_;refine bg Tryz.func126 ?_;exact⟨by congr 1;apply decide_eq_decide.2;unfold hv;rw[BN hi,BN hk];omega,(z9 w₀ C).o1⟩
 refine bX [] (aI C) [1,3,5,7,9,11,13,15,17,19,21,23,25,27,29,31,33,35,37,39,41,43,45,47,49,51,53,55,57,59] bP ?_;intro w3 cq;refine ah 2 ?_;refine aL hl.mv ?_;intro _ Jb D9 fC;have gq:=bk.wq fC;refine ah 1 ?_ [4];refine ew gq ?_;intro v11 g11;first|(obtain rfl:=dJ.1 g11)|(obtain rfl:=cO.1 g11)
 refine ah 2 ?_;refine aL hl.mv ?_;intro _ qz qA eR;have gL:=bk.wq eR;refine ah 1 ?_ [4];refine ew gL ?_;intro tu g16;first|(obtain rfl:=dJ.1 g16)|(obtain rfl:=cO.1 g16)
 refine cL hA ?_;refine ah 3 ?_;refine aL hl.mv ?_;intro _ FX B_ jl;have eZ:=bk.wq jl;refine ah 1 ?_ [4];refine ew eZ ?_;intro v23 g23;first|(obtain rfl:=dJ.1 g23)|(obtain rfl:=cO.1 g23)
 refine ah 2 ?_;refine aL hl.mv ?_;intro _ y4 y5 kI;have gM:=bk.wq kI;refine ah 1 ?_ [4];refine ew gM ?_;intro v28 qL;first|(obtain rfl:=dJ.1 qL)|(obtain rfl:=cO.1 qL)
 refine cL hB ?_;refine ax 8 ?_;refine bg Tryz.func126 ?_;exact⟨by rw[decide_eq_false (show¬hv l i k.toNat from by unfold hv;rw[BN hi,BN hk];omega)],(z9 w₀ C).o1⟩
end
end Go.Proofs.YtmdhggfehknjjaaGreat
