/- Steps through functions of the program. -/
import Derived.Test.YtmdhggfehknjjaaGreatJF8X1
import Derived.Test.YtmdhggfehknjjaaGreatL3
set_option maxRecDepth 100000
set_option maxHeartbeats 4000000
namespace Go.Proofs.YtmdhggfehknjjaaGreat
open Go.K Go.K.bn
noncomputable section
namespace ZH
def c0:=qQ Tryz.f56
def RF:=(cl (b7 (b7 (b7 (b7 c0)))))
def Ea:=nD RF
end ZH
theorem Ef {w₀:World} {C:Nat->Nat} {l:List au} {c:au} {aC:Value} (hF:aF w₀ C) (hl:aq w₀ (aj C) l aC) (hlen:l.length<=8796093022000):Calls Tryz.prog 56 #[aC,.agg #[.int .i64 c.a,.int .i64 c.b]] w₀ (aZ λv w'=>av [] w₀ C w' C/\aq w' (aj C) (fF l c) v):=by
 have aO:=hF;replace hF:=hF.aI;replace hl:=hl.c1;refine bG Tryz.func56 ?_;refine aA 2 ?_ [2];refine aR (cu (cs:=aV c) hF 3 rfl rfl) ?_;rintro _ w1 ⟨cm,bq,rfl,s_1,hx,hF⟩;refine ax 8 ?_ [1];refine cg (ι:=Nat×(Nat->Nat)) (λx w=>x.1<=l.length/\(∀i,i<x.1->∀(hi:i<l.length),pZ l[i] c=true)/\aF w x.2/\av [2,3,4,5,6,7,8,9] w₀ (aI C) w x.2/\aq w (aj x.2) l aC/\bS w x.2 3 bq (.cells (aV c).toArray 55)) (λx=>[(0,aC),(3,.pointer (some ⟨bq,0,none⟩)),(4,.slice none 0 0),(5,.int .i64 x.1)]) (λx=>l.length-x.1) (0,cm) ?_ ?_
 · exact⟨Nat.zero_le _,λi hi=>by simp at hi,hF,(z9 w₀ C).mv,hl.mv,hx⟩
 intro⟨k,aK⟩ w2 hI bu;obtain⟨hk,h0,hF,hT,hl,hx⟩:=hI;try simp only at hk h0 hF hT hl hx
 show Run _ _ _ _ [(0,aC),(3,.pointer (some ⟨bq,0,none⟩)),(4,.slice none 0 0),(5,.int .i64 k)] _ _;refine aB 2 ?_;refine iL 18 ((if h:k<l.length then pZ l[k] c else false)) (aK) ?_ ?_
 ·
  intro bU;by_cases hA: (k:Int)<l.length
  ·
   refine bX [] (aK) [1,3,5,7,9,11,13,15,17,19,20,23] bP ?_;intro w3 s_2;have hcs:=s_2;refine ah 2 ?_;refine dE hl.mv.ln ?_;refine dT hA ?_;refine ah 3 ?_;refine aL hl.mv ?_;intro _ qz qA eR;refine cn eR ?_;intro r7 g15;obtain rfl:=bV.1 g15;refine c7 2 (aV c) hx.mv.sz ?_;refine dC Tryz.call44 (FT (x:=l[k]) (y:=c) hF.mv) ?_;rintro fS w4 ⟨rfl,cq⟩;refine⟨aW,?_⟩;refine ah 1 ?_;exact bQ.nil (bU _ _ _ hcs.mv rfl (by rw[dif_pos af,XV]) (cB 12))
  refine bX [] (aK) [1,3,5,7,9,11,13,15,17,19,20,23] bP ?_;intro dc cI;have hcs:=cI;refine ah 2 ?_;refine dE hl.mv.ln ?_;refine cL hA ?_;refine ah 6 ?_;refine nz ?_;refine mb (k8 17 (mV 44 #[15,16] #[55,55]) 4 true) rfl rfl aW ?_;refine ck ?_;refine ah 1 ?_;exact bQ.nil (bU _ _ _ hcs rfl (by rw[dif_neg af]) (cB 12))
 intro ei de;refine f_ 18 rfl (λlW=>?_) (λlW=>?_)
 ·
  have ay:k<l.length:=by
    apply Classical.byContradiction;intro e;rw[dif_neg e] at lW;cases lW
  rw[dif_pos ay] at lW;refine aB 8 ?_ [7];replace hl:=hl.mv;refine bC (bu (k+1,aK) _ ⟨aD,(λi hi hl=>by
      simp only at hi;by_cases e:i=k
      ·subst e;exact lW
      ·exact h0 i af hl),hF.mv,hT.mv,hl,hx.mv⟩ aD)
 have hins:=Wq (c:=c) hk (λi hi h=>h0 i hi h) (λh=>by rw[dif_pos h] at lW;exact lW);refine aB 3 ?_;refine iL 32 ((if h:k<l.length then decide (l[k]=c) else false)) (aK) ?_ ?_
 ·
  intro bU;by_cases hA: (k:Int)<l.length
  ·
   refine bX [] (aK) [1,3,5,7,9,11,13,15,17,19,21,23] bP ?_;intro w7 ej;have hcs:=ej;refine ah 2 ?_;refine dE hl.mv.ln ?_;refine dT hA ?_;refine ah 3 ?_;refine aL hl.mv ?_;intro _ afZ af0 gG;refine cn gG ?_;intro uy kR;obtain rfl:=bV.1 kR;refine c7 2 (aV c) hx.mv.sz ?_;refine aP (λ_=>iA (a:=l[k]) (b:=c) Tryz.underlying55 ak ak ai Tryz.underlying3 rfl rfl) ?_;refine ah 1 ?_;exact bQ.nil (bU _ _ _ hcs rfl (by rw[dif_pos af]) (cB 12))
  refine bX [] (aK) [1,3,5,7,9,11,13,15,17,19,21,23] bP ?_;intro fk eS;have hcs:=eS;refine ah 2 ?_;refine dE hl.mv.ln ?_;refine cL hA ?_;refine ah 8 ?_;exact bQ.nil (bU _ _ _ hcs rfl (by rw[dif_neg af]) (cB 12))
 intro fJ fA;refine f_ 32 rfl (λgA=>?_) (λgA=>?_)
 ·
  have ay:k<l.length:=by
    apply Classical.byContradiction;intro e;rw[dif_neg e] at gA;cases gA
  rw[dif_pos ay] at gA;rw[dif_pos ay,if_pos (of_decide_eq_true gA)] at hins;refine aB 5 ?_ [3];refine bg Tryz.func56 ?_;exact⟨hT.o1,by rw[hins];exact hl.mv.out hT.mv aO (er C)⟩
 have II:fF l c=l.take k++c::l.drop k:=by
   rw[hins];by_cases ay:k<l.length
   · rw[dif_pos ay] at gA⊢;rw[if_neg (of_decide_eq_false gA)]
   rw[dif_neg ay,List.take_of_length_le af,List.drop_of_length_le af]
 refine aB 2 ?_;refine Ex (id:=6) (ops:=ZH.Ea) [5] (aK) [0,1,2,4] 3 [nn 5,nn 6,eu 7] 5 [nn 3,nn 6,eu 7] bP ai ai ai ?_ ?_
 ·
  intro gn fT;show bQ _ _ _ _ _ _ _ [eu 0,eu 1,eu 2,eu 4,nn 3,nn 5,nn 6,eu 7] _ _;refine ck ?_;refine ah 2 ?_;refine nz ?_;refine Be (e':=55) (fq 36 (.slice 52 34 none (some 35) none)) rfl rfl hl.mv rfl ai rfl af af ?_;intro xq iD;try simp only[fh] at iD
  refine ck ?_;refine c7 2 (aV c) hx.mv.sz ?_;refine c5 (eO (e:=55) (bytes:=16) hF.mv ak rfl rfl ai ak (aQ.nil (α:=au) (j:=5)) iD l7 l7) ?_;rintro v37 iK ⟨uz,gY,hn,hF⟩;refine⟨aW,?_⟩;refine c5 (ez (ys:=([c]:List au)) (e:=55) (bytes:=16) hF ai rfl ak ak ⟨rfl,⟨_,rfl,bV.2 rfl⟩,trivial⟩) ?_;rintro v39 iV ⟨eY,uY,hF⟩;refine⟨aW,?_⟩;refine c5 (eO (e:=55) (bytes:=16) hF ak rfl rfl ai ak hn.mv uY l7 l7) ?_;rintro v40 ki ⟨zW,iW,hn,hF⟩;refine⟨aW,?_⟩;refine bh 7 ?_ [47];refine nz ?_;refine JZ (e':=55) (fq 44 (.slice 52 42 (some 43) none none)) rfl rfl hl.mv rfl ai rfl af af ?_;intro v44 iQ;try simp only[fh] at iQ
  refine ck ?_;refine aR (eO (e:=55) (bytes:=16) hF ak rfl rfl ai ak hn iQ l7 l7) ?_;rintro v45 kH ⟨sI,jx,hn,hF⟩;refine ax 2 ?_;refine bg Tryz.func56 ?_;have e: ([]++List.take k l++[c])++List.drop k l=fF l c:=by rw[II];simp
  rw[e] at hn;exact⟨hT.o1,hn.out hT.mv aO (er C) (λb _=>gI C ak b) (by have:=BK c l;omega)⟩
 intro lR jX;show bQ _ _ _ _ _ _ _ [eu 0,eu 1,eu 2,eu 4,nn 5,nn 3,nn 6,eu 7] _ _;refine ck ?_;refine ah 2 ?_;refine nz ?_;refine Be (e':=55) (fq 36 (.slice 52 34 none (some 35) none)) rfl rfl hl.mv rfl ai rfl af af ?_;intro xq iD;try simp only[fh] at iD
 refine ck ?_;refine c7 2 (aV c) hx.mv.sz ?_;refine c5 (ez (ys:=([c]:List au)) (e:=55) (bytes:=16) hF.mv ai rfl ak ak ⟨rfl,⟨_,rfl,bV.2 rfl⟩,trivial⟩) ?_;rintro v39 mo ⟨mq,uY,hF⟩;refine⟨aW,?_⟩;refine c5 (eO (e:=55) (bytes:=16) hF ak rfl rfl ai ak (aQ.nil (α:=au) (j:=5)) iD.mv l7 l7) ?_;rintro v37 nQ ⟨DZ,lU,hn,hF⟩;refine⟨aW,?_⟩;refine c5 (eO (e:=55) (bytes:=16) hF ak rfl rfl ai ak hn uY.mv l7 l7) ?_;rintro v40 oh ⟨Mi,nh,hn,hF⟩;refine⟨aW,?_⟩;refine bh 7 ?_ [47];refine nz ?_;refine JZ (e':=55) (fq 44 (.slice 52 42 (some 43) none none)) rfl rfl hl.mv rfl ai rfl af af ?_;intro v44 iQ;try simp only[fh] at iQ
 refine ck ?_;refine aR (eO (e:=55) (bytes:=16) hF ak rfl rfl ai ak hn iQ l7 l7) ?_;rintro v45 mJ ⟨Iy,oJ,hn,hF⟩;refine ax 2 ?_;refine bg Tryz.func56 ?_;have e: ([]++List.take k l++[c])++List.drop k l=fF l c:=by rw[II];simp
 rw[e] at hn;exact⟨hT.o1,hn.out hT.mv aO (er C) (λb _=>gI C ak b) (by have:=BK c l;omega)⟩
theorem Mj {w₀:World} {C:Nat->Nat} {l:List aH} {aC:Value} (hF:aF w₀ C) (hl:aq w₀ (aj C) l aC) (hlen:l.length<=100000):Calls Tryz.prog 25 #[aC] w₀ (aZ λv w'=>av [] w₀ C w' C/\aq w' (aj C) (aM l) v):=by
 have aO:=hF;replace hF:=hF.aI;replace hl:=hl.c1;refine bG Tryz.func25 ?_;refine aB 14 ?_ [1,1,1];refine cg (ι:=Nat×Value×(Nat->Nat)) (λx w=>x.1<=l.length/\aF w x.2.2/\av [2,3,4,5,6,7,8,9] w₀ (aI C) w x.2.2/\aq w (aj x.2.2) l aC/\aq w (aj x.2.2) (wT (nJ (l.take x.1))) x.2.1) (λx=>[(0,aC),(3,x.2.1),(4,.int .i64 x.1)]) (λx=>l.length-x.1) (0,.slice none 0 0,aI C) ?_ ?_
 · exact⟨Nat.zero_le _,hF,(z9 w₀ C),hl,eT⟩
 intro⟨i,ct,aK⟩ w1 hI bu;obtain⟨hi,hF,hT,hl,ho⟩:=hI;try simp only at hi hF hT hl ho
 show Run _ _ _ _ [(0,aC),(3,ct),(4,.int .i64 i)] _ _;have hrl:=aaq (nJ (l.take i));rw[GL,List.length_take] at hrl;refine aA 5 ?_ [15];refine dE hl.ln ?_;refine ax 2 ?_;refine a_ 8 rfl (λh8=>?_) (λh8=>?_)
 ·
  have hil:i<l.length:=by omega
  obtain⟨os,hos⟩:∃os,os=wT (nJ (l.take i)):=⟨_,rfl⟩
  rw[<-hos] at ho hrl;have Mk:=BK l[i].A os;refine aB 3 ?_;refine bX [] (aK) [1,3,5,7,9,11,15,17,19,21,23,12,24,27] bP ?_;intro w2 s_1;refine ah 3 ?_;refine aL hl.mv ?_;intro _ qz qA eR;have gL:=bk.mE eR;refine ah 1 ?_ [0];refine cn gL ?_;intro tu g16;obtain rfl:=bV.1 g16;refine ah 2 ?_;refine aL hl.mv ?_;intro _ QG QH k6;have jl:=bk.qo k6;refine ah 1 ?_ [2];refine cn jl ?_;intro v22 g22;obtain rfl:=bV.1 g22;refine gl Tryz.call56 rfl (Ef (c:=l[i].A) hF.mv ho.mv af) ?_;rintro RG w3 ⟨s_2,hq1⟩;refine⟨aW,?_⟩;refine gl Tryz.call56 rfl (Ef (c:=l[i].B) hF.mv hq1 af) ?_;rintro Jm w4 ⟨cq,iq⟩;refine⟨aW,?_⟩;refine ax 8 ?_ [7];refine bC (bu (i+1,Jm,aK) _ ⟨aD,hF.mv,hT.mv,hl.mv,(by simp only;rw[acg hil,<-hos];exact iq)⟩ aD)
 have hil:i=l.length:=by omega
 subst hil;rw[List.take_length,acf] at ho;refine aB 6 ?_ [3];refine bg Tryz.func25 ?_;exact⟨hT.o1,ho.out hT aO (er C)⟩
end
end Go.Proofs.YtmdhggfehknjjaaGreat
namespace Go.Proofs.YtmdhggfehknjjaaGreat
open Go.K Go.K.bn
noncomputable section
theorem mC {w₀:World} {C:Nat->Nat} {l:List au} {c:au} {aC:Value} (hF:aF w₀ C) (hl:aq w₀ (aj C) l aC):Calls Tryz.prog 29 #[aC,.agg #[.int .i64 c.a,.int .i64 c.b]] w₀ (aZ λv w'=>v=.int .i64 (idxOf (λx=>decide (c=x)) l)/\av [] w₀ C w' C):=by
 have aO:=hF;replace hF:=hF.aI;replace hl:=hl.c1;refine bG Tryz.func29 ?_;refine aA 2 ?_ [2];refine aR (cu (cs:=aV c) hF 3 rfl rfl) ?_;rintro _ w1 ⟨cm,bq,rfl,s_1,hx,hF⟩;refine ax 8 ?_ [1];refine cg (ι:=Nat×(Nat->Nat)) (λx w=>x.1<=l.length/\(∀i,i<x.1->∀(hi:i<l.length),(λx=>decide (c=x)) l[i]=false)/\aF w x.2/\av [2,3,4,5,6,7,8,9] w₀ (aI C) w x.2/\aq w (aj x.2) l aC/\bS w x.2 3 bq (.cells (aV c).toArray 55)) (λx=>[(0,aC),(3,.pointer (some ⟨bq,0,none⟩)),(4,.int .i64 0),(5,.int .i64 x.1)]) (λx=>l.length-x.1) (0,cm) ?_ ?_
 · exact⟨Nat.zero_le _,λi hi=>by simp at hi,hF,(z9 w₀ C).mv,hl.mv,hx⟩
 intro⟨k,aK⟩ w2 hI bu;obtain⟨hk,h0,hF,hT,hl,hx⟩:=hI;try simp only at hk h0 hF hT hl hx
 show Run _ _ _ _ [(0,aC),(3,.pointer (some ⟨bq,0,none⟩)),(4,.int .i64 0),(5,.int .i64 k)] _ _;have hle:=hl.le;refine aA 5 ?_ [15];refine dE hl.ln ?_;refine ax 2 ?_;refine a_ 9 rfl (λfC=>?_) (λfC=>?_)
 ·
  have ay:k<l.length:=by omega
  refine aB 4 ?_;refine bX [] (aK) [1,3,5,7,9,11] bP ?_;intro w3 s_2;refine ah 2 ?_;refine aL hl.mv ?_;intro _ qz qA eR;refine cn eR ?_;intro r7 g15;obtain rfl:=bV.1 g15;refine c7 2 (aV c) hx.mv.sz ?_;refine aP (λ_=>iA (a:=l[k]) (b:=c) Tryz.underlying55 ak ak ai Tryz.underlying3 rfl rfl) ?_;refine ax 1 ?_;refine a_ 17 rfl (λey=>?_) (λey=>?_)
  ·
   refine aB 5 ?_ [3];refine bg Tryz.func29 ?_;exact⟨by rw[x8 ay (λi hi=>h0 i hi af) (decide_eq_true ey.symm)],hT.o1⟩
  refine aB 7 ?_ [7];replace hl:=hl.mv;refine bC (bu (k+1,aK) _ ⟨aD,(λi hi hl=>by
    simp only at hi;by_cases e:i=k
    ·subst e;exact decide_eq_false (λe=>ey e.symm)
    ·exact h0 i af hl),hF.mv,hT.mv,hl,hx.mv⟩ aD)
 have ay:k=l.length:=by omega
 refine aB 5 ?_ [1];refine bg Tryz.func29 ?_;exact⟨by rw[Bs (λi hi=>h0 i af hi)],hT.o1⟩
theorem RH {w₀:World} {C:Nat->Nat} {l:List (List au)} {c:au} {aC:Value} (hF:aF w₀ C) (hl:aq w₀ (aj C) l aC):Calls Tryz.prog 28 #[aC,.agg #[.int .i64 c.a,.int .i64 c.b]] w₀ (aZ λv w'=>v=.int .i64 (wG l c)/\av [] w₀ C w' C):=by
 have aO:=hF;replace hF:=hF.aI;replace hl:=hl.c1;refine bG Tryz.func28 ?_;refine aA 2 ?_ [2];refine aR (cu (cs:=aV c) hF 3 rfl rfl) ?_;rintro _ w1 ⟨cm,bq,rfl,s_1,hx,hF⟩;refine ax 8 ?_ [1];refine cg (ι:=Nat×(Nat->Nat)) (λx w=>x.1<=l.length/\(∀i,i<x.1->∀(hi:i<l.length),(λp=>p.any λx=>decide (c=x)) l[i]=false)/\aF w x.2/\av [2,3,4,5,6,7,8,9] w₀ (aI C) w x.2/\aq w (aj x.2) l aC/\bS w x.2 3 bq (.cells (aV c).toArray 55)) (λx=>[(0,aC),(3,.pointer (some ⟨bq,0,none⟩)),(4,.int .i64 0),(5,.int .i64 x.1)]) (λx=>l.length-x.1) (0,cm) ?_ ?_
 · exact⟨Nat.zero_le _,λi hi=>by simp at hi,hF,(z9 w₀ C).mv,hl.mv,hx⟩
 intro⟨k,aK⟩ w2 hI bu;obtain⟨hk,h0,hF,hT,hl,hx⟩:=hI;try simp only at hk h0 hF hT hl hx
 show Run _ _ _ _ [(0,aC),(3,.pointer (some ⟨bq,0,none⟩)),(4,.int .i64 0),(5,.int .i64 k)] _ _;have hle:=hl.le;refine aA 5 ?_ [15];refine dE hl.ln ?_;refine ax 2 ?_;refine a_ 9 rfl (λfC=>?_) (λfC=>?_)
 ·
  have ay:k<l.length:=by omega
  refine aB 4 ?_;refine bX [] (aK) [1,3,5,7,9,10,13] bP ?_;intro w3 s_2;refine ah 2 ?_;refine aL hl.mv ?_;intro _ qz qA eR;refine ew eR ?_;intro r7 g15;refine c7 2 (aV c) hx.mv.sz ?_;refine dC Tryz.call29 (mC (c:=c) hF.mv g15) ?_;rintro fS w4 ⟨rfl,cq⟩;refine⟨aW,?_⟩;refine ax 2 ?_;refine a_ 18 rfl (λlW=>?_) (λlW=>?_)
  ·
   refine aB 5 ?_ [3];refine bg Tryz.func28 ?_;exact⟨by unfold wG;rw[x8 ay (λi hi=>h0 i hi af) (by show(List.any _ _)=true;rw[<-Bt];exact decide_eq_true lW)],hT.o1⟩
  refine aB 7 ?_ [7];replace hl:=hl.mv;refine bC (bu (k+1,aK) _ ⟨aD,(λi hi hl=>by
    simp only at hi;by_cases e:i=k
    ·subst e;show(List.any _ _)=false;rw[<-Bt];exact decide_eq_false lW
    ·exact h0 i af hl),hF.mv,hT.mv,hl,hx.mv⟩ aD)
 have ay:k=l.length:=by omega
 refine aB 5 ?_ [1];refine bg Tryz.func28 ?_;exact⟨by unfold wG;rw[Bs (λi hi=>h0 i af hi)],hT.o1⟩
theorem af1 {w₀:World} {C:Nat->Nat} {l:List aH} {aC:Value} (hF:aF w₀ C) (hl:aq w₀ (aj C) l aC) (hlen:l.length<=100000):
    Calls Tryz.prog 27 #[aC] w₀ (aZ λv w'=>∃u,v=.tuple #[u,.int .i64 (gD l)]/\av [] w₀ C w' C/\aq w' (aj C) (if gD l=0 then dU l else[]) u):=by
 have aO:=hF;replace hF:=hF.aI;replace hl:=hl.c1;refine bG Tryz.func27 ?_;refine aA 9 ?_ [3,5];refine bD Tryz.call58 (ZF hF hl) ?_;rintro kQ w1 ⟨rfl,s_1⟩;refine ax 7 ?_ [3];refine a_ 20 rfl (λk6=>?_) (λk6=>?_)
 ·
  refine aB 6 ?_ [7];refine jo ai Tryz.func27 Tryz.results27 rfl rfl ?_;exact⟨_,rfl,(z9 w₀ C).o1,by rw[if_neg k6];exact eT⟩
 have mS:gD l=0:=Classical.not_not.1 k6;have lF:=GK mS;have adN:=oD l;refine aA 4 ?_ [5];refine bD Tryz.call25 (Mj hF.mv hl.mv hlen) ?_;rintro mR w2 ⟨s_2,fR⟩;refine bh 5 ?_ [11];refine dE fR.ln ?_;refine aR (Bc (e:=3) (bytes:=8) (x0:=(0:Nat)) (zs:=[.int .i64 0]) hF.mv (j:=3) ak ai ai rfl rfl af af af (λh M=>rfl)) ?_;rintro v26 w3 ⟨jd,cq,hw,hF⟩;refine ax 2 ?_;try simp only[fh] at hw
 refine aB 6 ?_ [1];refine cg (ι:=Nat×(List Nat)×(Nat->Nat)) (λx w=>x.1<=(aM l).length/\x.2.1.length=(aM l).length/\(∀k (hk:k<x.2.1.length),k<x.1->x.2.1[k]=k)/\aF w x.2.2/\av [2,3,4,5,6,7,8,9] w₀ (aI C) w x.2.2/\aq w (aj x.2.2) l aC/\aq w (aj x.2.2) (aM l) mR/\aQ w x.2.2 3 3 v26 x.2.1) (λx=>[(0,aC),(5,mR),(6,v26),(7,.int .i64 x.1)]) (λx=>(aM l).length-x.1) (0,List.replicate (aM l).length 0,jd) ?_ ?_
 · exact⟨Nat.zero_le _,(by simp only;exact List.length_replicate),(λk hk h=>by simp only at h;omega),hF,(z9 w₀ C).mv,hl.mv,fR.mv,hw⟩
 intro⟨i,low,aK⟩ w4 hI bu;obtain⟨hi,kE,hlv,hF,hT,hl,fR,hw⟩:=hI;try simp only at hi kE hlv hF hT hl fR hw
 show Run _ _ _ _ [(0,aC),(5,mR),(6,v26),(7,.int .i64 i)] _ _;refine aA 5 ?_ [15];refine dE hw.ln ?_;refine ax 2 ?_;refine a_ 30 rfl (λsF=>?_) (λsF=>?_)
 ·
  have hil:i<(aM l).length:=by omega
  refine aA 7 ?_ [15];refine c6 hw ?_;intro rI Je;refine bM (gQ hw Je af rfl rfl ai (dJ.2 rfl)) ?_;rintro _ dc ⟨rfl,cI,hw⟩;refine ax 7 ?_ [7];refine bC (bu (i+1,low.set i i,aK) _ ⟨aD,(by simp only[List.length_set];exact kE),(λk hk h=>by
     simp only at h;rw[List.getElem_set];split
     ·assumption
     ·simp only[List.length_set] at hk;exact hlv k hk af),hF.mv,hT.mv,hl.mv,fR.mv,hw⟩ aD)
 have hil:i=(aM l).length:=by omega
 obtain rfl:low=List.range (aM l).length:=List.ext_getElem (by simpa using kE) (λk h1 h2=>by rw[hlv k h1 af,List.getElem_range]);clear hlv kE;refine aB 7 ?_ [1];refine cg (ι:=(List Nat)×Bool×(Nat->Nat)) (λx w=>wY l x.1/\(x.2.1=false->Fix l l x.1)/\aF w x.2.2/\av [2,3,4,5,6,7,8,9] w₀ (aI C) w x.2.2/\aq w (aj x.2.2) l aC/\aq w (aj x.2.2) (aM l) mR/\aQ w x.2.2 3 3 v26 x.1) (λx=>[(0,aC),(5,mR),(6,v26),(8,.bool x.2.1)]) (λx=>2*x.1.sum+x.2.1.toNat) (List.range (aM l).length,true,aK) ?_ ?_
 · exact⟨wY.start l,(λe=>by cases e),hF,hT,hl,fR,hw⟩
 intro⟨low,ch,aK⟩ ei hI eD;obtain⟨hW,dM,hF,hT,hl,fR,hw⟩:=hI;try simp only at hW dM hF hT hl fR hw
 show Run _ _ _ _ [(0,aC),(5,mR),(6,v26),(8,.bool ch)] _ _;refine aB 5 ?_ [1];refine f_ 37 rfl (λgK=>?_) (λgK=>?_)
 ·
  subst gK;refine aB 11 ?_ [1,1];refine cg (ι:=Nat×(List Nat)×Bool×(Nat->Nat)) (λx w=>x.1<=l.length/\wY l x.2.1/\x.2.1.sum<=low.sum/\(x.2.2.1=true->x.2.1.sum<low.sum)/\(x.2.2.1=false->x.2.1=low/\Fix l (l.take x.1) x.2.1)/\aF w x.2.2.2/\av [2,3,4,5,6,7,8,9] w₀ (aI C) w x.2.2.2/\aq w (aj x.2.2.2) l aC/\aq w (aj x.2.2.2) (aM l) mR/\aQ w x.2.2.2 3 3 v26 x.2.1) (λx=>[(0,aC),(5,mR),(6,v26),(8,.bool x.2.2.1),(9,.int .i64 x.1)]) (λx=>l.length-x.1) (0,low,false,aK) ?_ ?_
  · exact⟨Nat.zero_le _,hW,Nat.le_refl _,(λe=>by cases e),(λ_=>⟨rfl,λy hy=>by simp at hy⟩),hF,hT,hl,fR,hw⟩
  intro⟨k,lw,Ml,aK⟩ w7 hI kJ;obtain⟨hk,Ec,hle,hlt,qS,hF,hT,hl,fR,hw⟩:=hI;try simp only at hk Ec hle hlt qS hF hT hl fR hw
  show Run _ _ _ _ [(0,aC),(5,mR),(6,v26),(8,.bool Ml),(9,.int .i64 k)] _ _;have zV:=Ec.len;refine aA 5 ?_ [15];refine dE hl.ln ?_;refine ax 2 ?_;refine a_ 41 rfl (λkZ=>?_) (λkZ=>?_)
  ·
   have ay:k<l.length:=by omega
   obtain⟨ga,lZ,ZI,ea⟩:=Vb (l:=aM l) (c:=l[k].A) (jG.2 ⟨_,List.getElem_mem ay,.inl rfl⟩);obtain⟨ib,hib,ZJ,eb⟩:=Vb (l:=aM l) (c:=l[k].B) (jG.2 ⟨_,List.getElem_mem ay,.inr rfl⟩);refine aB 4 ?_;refine bX [] (aK) [1,3,5,7,9,11,15,17,19,21,23,25,12,26,29,31] bP ?_;intro fk de;refine ah 3 ?_;refine aL hl.mv ?_;intro _ FF FG uh;have h48:=bk.mE uh;refine ah 1 ?_ [0];refine cn h48 ?_;intro v49 wZ;obtain rfl:=bV.1 wZ;refine ah 3 ?_;refine aL hl.mv ?_;intro _ akW akX AJ;have nU:=bk.qo AJ;refine ah 1 ?_ [2];refine cn nU ?_;intro DS tq;obtain rfl:=bV.1 tq;refine dC Tryz.call29 (mC (c:=l[k].A) hF.mv fR.mv) ?_;rintro vE fJ ⟨rfl,ej⟩;rw[lZ];refine⟨aW,?_⟩;refine dC Tryz.call29 (mC (c:=l[k].B) hF.mv fR.mv) ?_;rintro vK gn ⟨rfl,eS⟩;rw[hib];refine⟨aW,?_⟩;refine ax 4 ?_;refine bX [] (aK) [1,3,5,7,9,11,13,15,17] bP ?_;intro iK fA;refine ah 2 ?_;refine c6 hw.mv ?_;intro LR af2;refine qT hw.mv af2 ?_;intro _ aew Ig;first|(obtain rfl:=dJ.1 Ig)|(obtain rfl:=cO.1 Ig)
   refine ah 2 ?_;refine c6 hw.mv ?_;intro Ye Ic;refine qT hw.mv Ic ?_;intro _ LJ Cc;first|(obtain rfl:=dJ.1 Cc)|(obtain rfl:=cO.1 Cc)
   refine ax 2 ?_;refine a_ 66 rfl (λuo=>?_) (λuo=>?_)
   ·
    have hne:lw[ga]≠lw[ib]:=λe=>uo (by rw[e]);obtain⟨af3,hlt3⟩:=Ec.put (List.getElem_mem ay) ZI ZJ ea eb af af hne;refine aB 1 ?_;refine bX [] (aK) [1,3,5,7,9,11,13,15,17,19] bP ?_;intro iV fT;refine ah 2 ?_;refine c6 hw.mv ?_;intro DV F2;refine qT hw.mv F2 ?_;intro _ v70 pz;first|(obtain rfl:=dJ.1 pz)|(obtain rfl:=cO.1 pz)
    refine ah 2 ?_;refine c6 hw.mv ?_;intro Ci Ma;refine qT hw.mv Ma ?_;intro _ Rf za;first|(obtain rfl:=dJ.1 za)|(obtain rfl:=cO.1 za)
    refine aP (λ_=>fN (RM rfl rfl Tryz.underlying3) (congrArg (Value.int .i64) (show min ((lw[ga]:Nat):Int) ((lw[ib]:Nat):Int)=((min lw[ga] lw[ib]:Nat):Int) from by omega))) ?_;refine bh 10 ?_ [383];refine c6 hw.mv ?_;intro I1 af4;refine bM (gQ hw.mv af4 af rfl rfl ai (dJ.2 rfl)) ?_;rintro _ ki ⟨rfl,gY,hw⟩;have hs1: (lw.set ga (min lw[ga] lw[ib])).length=lw.length:=List.length_set;refine c6 hw ?_;intro akY af5;refine bM (gQ hw af5 af rfl rfl ai (dJ.2 rfl)) ?_;rintro _ kH ⟨rfl,eY,hw⟩;refine ax 10 ?_ [1,7];refine bC (kJ (k+1,(lw.set ga (min lw[ga] lw[ib])).set ib (min lw[ga] lw[ib]),true,aK) _ ⟨aD,af3,(by simp only;omega),(λ_=>by simp only;omega),(λe=>by cases e),hF.mv,hT.mv,hl.mv,fR.mv,hw⟩ aD)
   have heq:lw[ga]=lw[ib]:=by have:=Classical.not_not.1 uo;exact_mod_cast this
   refine aB 7 ?_ [7];refine bC (kJ (k+1,lw,Ml,aK) _ ⟨aD,Ec,hle,hlt,(λe=>by
       obtain⟨e1,e2⟩:=qS e;refine⟨e1,λy hy a b ha hb ea' eb'=>?_⟩;rw[List.take_succ_eq_append_getElem ay] at hy;rcases List.mem_append.1 hy with hy|hy
       ·exact e2 y hy a b ha hb ea' eb'
       ·simp only[List.mem_singleton] at hy;subst hy;obtain rfl:=PN (xM l) ha ZI (by rw[ea',ea]);obtain rfl:=PN (xM l) hb ZJ (by rw[eb',eb]);show lw.getD a 0=lw.getD b 0;rw[List.getD_eq_getElem?_getD,List.getD_eq_getElem?_getD,List.getElem?_eq_getElem af,List.getElem?_eq_getElem af];exact heq),hF.mv,hT.mv,hl.mv,fR.mv,hw.mv⟩ aD)
  have ay:k=l.length:=by omega
  subst ay;rw[List.take_length] at qS;refine aB 2 ?_;refine bC (eD (lw,Ml,aK) _ ⟨Ec,(λe=>(qS e).2),hF,hT,hl,fR,hw⟩ (by
      simp only;cases Ml with
      |true=>have:=hlt rfl;simp;omega
      |false=>have:=(qS rfl).1;subst this;simp))
 have yW:=dM gK;refine aB 11 ?_ [1,1];refine cg (ι:=Nat×Value×(Nat->Nat)) (λx w=>x.1<=(aM l).length/\aF w x.2.2/\av [2,3,4,5,6,7,8,9] w₀ (aI C) w x.2.2/\aq w (aj x.2.2) l aC/\aq w (aj x.2.2) (aM l) mR/\aQ w x.2.2 3 3 v26 low/\aQ w x.2.2 4 52 x.2.1 (vD l x.1)) (λx=>[(0,aC),(5,mR),(6,v26),(13,x.2.1),(14,.int .i64 x.1)]) (λx=>(aM l).length-x.1) (0,.slice none 0 0,aK) ?_ ?_
 · exact⟨Nat.zero_le _,hF,hT,hl,fR,hw,by rw[aci];exact aQ.nil⟩
 intro⟨i,ct,aK⟩ lR hI pg;obtain⟨hi,hF,hT,hl,fR,hw,ho⟩:=hI;try simp only at hi hF hT hl fR hw ho
 show Run _ _ _ _ [(0,aC),(5,mR),(6,v26),(13,ct),(14,.int .i64 i)] _ _;have zV:=hW.len;have wB:=acj l i;refine aA 5 ?_ [15];refine dE fR.ln ?_;refine ax 2 ?_;refine a_ 87 rfl (λaf6=>?_) (λaf6=>?_)
 ·
  have hil:i<(aM l).length:=by omega
  have hst:=ack hW yW hil af;refine aA 8 ?_ [55];refine c6 hw ?_;intro akZ af7;refine xI hw af7 ?_;intro _ v93 zc;first|(obtain rfl:=dJ.1 zc)|(obtain rfl:=cO.1 zc)
  refine ax 3 ?_;refine a_ 95 rfl (λRI=>?_) (λRI=>?_)
  ·
   have hne:¬low[i]=i:=λe=>RI (by exact_mod_cast e);rw[if_neg hne] at hst;refine aB 6 ?_ [7];refine bC (pg (i+1,ct,aK) _ ⟨aD,hF,hT,hl,fR,hw,(by simp only;rw[hst];exact ho)⟩ aD)
  have heq:low[i]=i:=by have:=Classical.not_not.1 RI;exact_mod_cast this
  rw[if_pos heq] at hst;obtain⟨pr,RJ⟩:∃p:au->Bool,p=λr=>decide (bZ l r=bZ l (aM l)[i]):=⟨_,rfl⟩
  rw[<-RJ] at hst;refine aB 11 ?_ [1,1];refine cg (ι:=Nat×Value×(Nat->Nat)) (λx w=>x.1<=(aM l).length/\aF w x.2.2/\av [2,3,4,5,6,7,8,9] w₀ (aI C) w x.2.2/\aq w (aj x.2.2) l aC/\aq w (aj x.2.2) (aM l) mR/\aQ w x.2.2 3 3 v26 low/\aQ w x.2.2 4 52 ct (vD l i)/\aQ w x.2.2 5 55 x.2.1 (((aM l).take x.1).filter pr)) (λx=>[(0,aC),(5,mR),(6,v26),(13,ct),(14,.int .i64 i),(15,x.2.1),(16,.int .i64 x.1)]) (λx=>(aM l).length-x.1) (0,.slice none 0 0,aK) ?_ ?_
  · exact⟨Nat.zero_le _,hF,hT,hl,fR,hw,ho,aQ.nil⟩
  intro⟨k,cH,aK⟩ mo hI yR;obtain⟨hk,hF,hT,hl,fR,hw,ho,hp⟩:=hI;try simp only at hk hF hT hl fR hw ho hp
  show Run _ _ _ _ [(0,aC),(5,mR),(6,v26),(13,ct),(14,.int .i64 i),(15,cH),(16,.int .i64 k)] _ _;have qn:=List.length_filter_le pr ((aM l).take k);rw[List.length_take] at qn;refine aA 5 ?_ [15];refine dE fR.ln ?_;refine ax 2 ?_;refine a_ 99 rfl (λaf8=>?_) (λaf8=>?_)
  ·
   have ay:k<(aM l).length:=by omega
   have hft:=acm pr ay;refine aA 7 ?_ [55];refine c6 hw ?_;intro Yr af9;refine xI hw af9 ?_;intro _ v105 ZK;first|(obtain rfl:=dJ.1 ZK)|(obtain rfl:=cO.1 ZK)
   refine ax 3 ?_;refine a_ 107 rfl (λRK=>?_) (λRK=>?_)
   ·
    have hpk:pr (aM l)[k]=true:=by rw[RJ];exact decide_eq_true ((XZ hW yW hil ay af af heq).1 (by exact_mod_cast RK))
    rw[if_pos hpk] at hft;refine aA 4 ?_ [143];refine aL fR ?_;intro _ Qj Qk D0;refine gJ D0 ?_;intro Ql B0;obtain rfl:=bV.1 B0;refine aR (ez (ys:=([(aM l)[k]]:List au)) (e:=55) (bytes:=16) hF ai rfl ak ak ⟨rfl,⟨_,rfl,bV.2 rfl⟩,trivial⟩) ?_;rintro ZL nQ ⟨iW,Mm,hF⟩;refine aR (eO (e:=55) (bytes:=16) hF ak rfl rfl ai ak hp.mv Mm dH dH) ?_;rintro af_ oh ⟨Mi,jx,hp,hF⟩;refine ax 8 ?_ [7];refine bC (yR (k+1,af_,Mi) _ ⟨aD,hF,hT.mv,hl.mv,fR.mv,hw.mv,ho.mv,(by simp only;rw[hft];exact hp)⟩ aD)
   have hpk:¬pr (aM l)[k]=true:=by rw[RJ];intro e;exact RK (by have:=(XZ hW yW hil ay af af heq).2 (of_decide_eq_true e);exact_mod_cast this)
   rw[if_neg hpk] at hft;refine aB 7 ?_ [7];refine bC (yR (k+1,cH,aK) _ ⟨aD,hF,hT,hl,fR,hw,ho,(by simp only;rw[hft];exact hp)⟩ aD)
  have ay:k=(aM l).length:=by omega
  subst ay;rw[List.take_length] at hp;have ak0:=List.length_filter_le pr (aM l);replace hF:=hF.bO 5;replace hl:=hl.bO 5;replace fR:=fR.bO 5;replace hw:=hw.MY (n:=5) ak;replace ho:=ho.MY (n:=5) ak;replace hT:=hT.bO (n:=5) (λb=>Nat.lt_of_lt_of_le (zl C b) ak);have hpv:=hp.bO (n:=5) ak af;refine aA 4 ?_ [19];refine aR (ez (ys:=([(aM l).filter pr]:List (List au))) (e:=52) (bytes:=24) hF ai rfl ak ak ⟨rfl,⟨_,rfl,hpv⟩,trivial⟩) ?_;rintro v117 mJ ⟨jX,ZM,hF⟩;refine aR (eO (e:=52) (bytes:=24) hF ak rfl rfl ai ak ho.mv ZM dH dH) ?_;rintro aga qC ⟨Aw,mq,ho,hF⟩;refine ax 8 ?_ [7];refine bC (pg (i+1,aga,Aw) _ ⟨aD,hF,hT.mv,hl.mv,fR.mv,hw.mv,(by simp only;rw[hst];exact ho)⟩ aD)
 have hil:i=(aM l).length:=by omega
 subst hil;rw[ach] at ho;refine aB 7 ?_ [7];refine jo ai Tryz.func27 Tryz.results27 rfl rfl ?_;rw[mS];exact⟨_,rfl,hT.o1,by rw[if_pos rfl];exact ho.out hT aO (er C) (λb _=>gI C ak b) (by have:=Nw l;omega)⟩
theorem agb {w₀:World} {C:Nat->Nat} {l:List aH} {aC:Value} (hF:aF w₀ C) (hl:aq w₀ (aj C) l aC) (hlen:l.length<=100000):
    Calls Tryz.prog 47 #[aC] w₀ (aZ λv w'=>∃u,v=.tuple #[u,.int .i64 (gD l)]/\av [] w₀ C w' C/\aq w' (aj C) (if gD l=0 then aY l else[]) u):=by
 have aO:=hF;replace hF:=hF.aI;replace hl:=hl.c1;refine bG Tryz.func47 ?_;refine aA 8 ?_ [3,125];refine bD Tryz.call27 (af1 hF hl hlen) ?_;rintro kQ w1 ⟨u,rfl,s_1,hp⟩;refine ax 12 ?_ [3];refine a_ 15 rfl (λgL=>?_) (λgL=>?_)
 ·
  refine aB 6 ?_ [7];refine jo ai Tryz.func47 Tryz.results47 rfl rfl ?_;exact⟨_,rfl,(z9 w₀ C).o1,by rw[if_neg gL];exact eT⟩
 have mS:gD l=0:=Classical.not_not.1 gL;have lF:=GK mS;have qn:=Nw l;rw[if_pos mS] at hp;refine aA 4 ?_ [11];refine dE hp.ln ?_;refine aR (Bc (e:=23) (bytes:=24) (x0:=(⟨.slice none 0 0⟩:gu)) (zs:=[.slice none 0 0]) hF.mv (j:=4) ak ai ai rfl rfl af af af (λh M=>⟨rfl,rfl⟩)) ?_;rintro yY w2 ⟨cw,s_2,ho,hF⟩;rw[Ud] at ho;refine ax 2 ?_;have hT:av ([2,3,4,5,6,7,8,9]++List.range' 10 (2*l.length+1)) w₀ (aI C) _ _:=(z9 w₀ C).mv.mono (by intro c hc;exact List.mem_append_left _ hc);refine aB 6 ?_ [1];refine cg (ι:=Nat×(Nat->Value)×(Nat->Nat)) (λx w=>x.1<=l.length/\aF w x.2.2/\av ([2,3,4,5,6,7,8,9]++List.range' 10 (2*l.length+1)) w₀ (aI C) w x.2.2/\aq w (aj x.2.2) l aC/\aq w (aj x.2.2) (dU l) u/\aQ w x.2.2 4 23 yY (k_ x.2.1 (dU l).length)/\(∀i,i<(dU l).length->aQ w x.2.2 (10+i) 58 (x.2.1 i) ((sR l x.1).getD i []))) (λx=>[(0,aC),(4,u),(6,yY),(7,.int .i64 x.1)]) (λx=>l.length-x.1) (0,λ_=> .slice none 0 0,cw) ?_ ?_
 · exact⟨Nat.zero_le _,hF,hT.mv,hl.mv,hp.mv,ho,λi hi=>by rw[Ug];exact aQ.nil⟩
 intro⟨k,fI,aK⟩ w3 hI bu;obtain⟨hk,hF,hT,hl,hp,ho,hin⟩:=hI;try simp only at hk hF hT hl hp ho hin
 show Run _ _ _ _ [(0,aC),(4,u),(6,yY),(7,.int .i64 k)] _ _;obtain⟨n,hn⟩:∃n,n=(dU l).length:=⟨_,rfl⟩
 rw[<-hn] at ho hin qn;have hsl:=xN fI n;refine aA 5 ?_ [15];refine dE hl.ln ?_;refine ax 2 ?_;refine a_ 23 rfl (λh23=>?_) (λh23=>?_)
 ·
  have ay:k<l.length:=by omega
  obtain⟨i0,D4⟩:=Uf (l:=l) (r:=l[k].A) (jG.2 ⟨_,List.getElem_mem ay,.inl rfl⟩);have xo:i0<n:=by obtain⟨h1,_⟩:=EN.1 D4;rw[hn];unfold dU;rwa [oa]
  have Qx:=Kg l k i0;refine aA 8 ?_ [159];refine aL hl ?_;intro _ vG vH gE;have sF:=bk.mE gE;refine ah 1 ?_ [0];refine gJ sF ?_;intro v31 nj;obtain rfl:=bV.1 nj;refine bD Tryz.call28 (RH (c:=l[k].A) hF hp) ?_;rintro fS w4 ⟨rfl,cq⟩;rw[Gr D4];replace hin:=λk hk=>(hin k hk).st cq (by simp<;>omega) (by simp<;>omega);refine ax 2 ?_;refine bX [10+i0] (aK) [1,3,5,7,9,11,13,15,17,19,20,22,25,26] bP ?_;intro dc cI;replace hin:=λk hk=>(hin k hk).st cI (by simp<;>omega) (by simp<;>omega);refine ah 4 ?_;refine c6 ho.mv ?_;intro mO Jf;refine qT ho.mv Jf ?_;intro _ uZ jK;obtain⟨ZO,_⟩:=mF.1 jK;rw[GN] at ZO;subst ZO;refine ah 2 ?_;refine aL hl.mv ?_;intro _ Yi Yj kZ;refine cn kZ ?_;intro vJ mQ;obtain rfl:=jU.1 mQ;refine c5 (ez (ys:=([l[k]'ay]:List aH)) (e:=58) (bytes:=40) hF.mv ai rfl ak ak ⟨rfl,⟨_,rfl,jU.2 rfl⟩,trivial⟩) ?_;rintro B6 ei ⟨de,yZ,hF⟩;refine⟨aW,?_⟩;replace hin:=λk hk=>(hin k hk).st de (by simp<;>omega) (by simp<;>omega);refine c5 (eO (e:=58) (bytes:=40) hF af rfl rfl ai ak (hin i0 xo) yZ dH dH) ?_;rintro v44 w7 ⟨qg,ej,iQ,hF⟩;refine⟨aW,?_⟩;replace hin:=λk hk (hne:k≠i0)=>(hin k hk).st ej (by simp<;>omega) (by simp<;>omega);refine c6 ho.mv ?_;intro yJ L8;refine gU rfl ?_;refine bM (gQ ho.mv L8 af rfl rfl ai (mF.2 ⟨rfl,iQ.one.2⟩)) ?_;rintro _ fk ⟨rfl,eS,ho⟩;replace hin:=λk hk hne=>(hin k hk hne).st eS (by simp<;>omega) (by simp<;>omega);refine ax 7 ?_ [7];refine bC (bu (k+1,kO fI i0 v44,qg) _ ⟨aD,hF.mv,hT.mv,hl.mv,hp.mv,(by simp only;rw[<-hn,<-Ka];exact ho),(λi hi=>by
     simp only;rw[Uh ay D4 hi];by_cases e:i=i0
     ·subst e;simp only[kO,if_pos];exact iQ.mv
     ·simp only[kO,if_neg e];exact hin i af e)⟩ aD)
 have ay:k=l.length:=by omega
 subst ay;rw[Ke] at hin;refine aB 7 ?_ [7];refine jo ai Tryz.func47 Tryz.results47 rfl rfl ?_;rw[mS];have B8: (aY l).length=n:=by rw[EM,hn]
 rw[<-B8] at ho;refine⟨_,rfl,hT.JK Nx,?_⟩;rw[if_pos rfl];refine Nz (fI:=fI) (ho.out hT aO (er C) (λb _=>gI C ak b) (by rw[xN];omega)) λi hi=>?_;exact(hin i af).out hT aO (er C) (λb _=>gI C af b) (by rw[<-Ke];exact Nat.le_trans (Kg l _ i) af)
theorem agc {w₀:World} {C:Nat->Nat} {l:List (List au)} {bz bH:Value} (hF:aF w₀ C) (ha:aq w₀ (aj C) l bz) (hb:aq w₀ (aj C) l bH):Calls Tryz.prog 24 #[bz,bH] w₀ (aZ λv w'=>v=.bool true/\av [] w₀ C w' C):=by
 have aO:=hF;replace hF:=hF.aI;replace ha:=ha.c1;replace hb:=hb.c1;refine bG Tryz.func24 ?_;refine aA 8 ?_ [1,31];refine dE ha.ln ?_;refine ah 1 ?_;refine dE hb.ln ?_;refine cL (λe=>e rfl) ?_;refine ax 9 ?_ [1];refine cg (ι:=Nat×(Nat->Nat)) (λx w=>x.1<=l.length/\aF w x.2/\av [2,3,4,5,6,7,8,9] w₀ (aI C) w x.2/\aq w (aj x.2) l bz/\aq w (aj x.2) l bH) (λx=>[(0,bz),(1,bH),(5,.int .i64 x.1)]) (λx=>l.length-x.1) (0,aI C) ?_ ?_
 · exact⟨Nat.zero_le _,hF,(z9 w₀ C),ha,hb⟩
 intro⟨i,aK⟩ w1 hI bu;obtain⟨hi,hF,hT,ha,hb⟩:=hI;try simp only at hi hF hT ha hb
 show Run _ _ _ _ [(0,bz),(1,bH),(5,.int .i64 i)] _ _;have hle:=ha.le;refine aA 5 ?_ [15];refine dE ha.ln ?_;refine ax 2 ?_;refine a_ 14 rfl (λeR=>?_) (λeR=>?_)
 ·
  have hil:i<l.length:=by omega
  refine aB 4 ?_;refine bX [] (aK) [1,3,5,7,9,11,13,15,16,19] bP ?_;intro w2 s_1;refine ah 2 ?_;refine aL ha.mv ?_;intro _ QA pq nu;refine ew nu ?_;intro v20 g20;refine ah 2 ?_;refine aL hb.mv ?_;intro _ sZ rq h23;refine ew h23 ?_;intro v24 g24;refine dC Tryz.call38 (adT hF.mv g20 g24) ?_;rintro iu w3 ⟨rfl,s_2⟩;refine⟨aW,?_⟩;refine ax 10 ?_ [7];refine bC (bu (i+1,aK) _ ⟨aD,hF.mv,hT.mv,ha.mv,hb.mv⟩ aD)
 refine aB 5 ?_ [1];refine bg Tryz.func24 ?_;exact⟨rfl,hT.o1⟩
end
end Go.Proofs.YtmdhggfehknjjaaGreat
