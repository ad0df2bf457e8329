/- Steps through functions of the program. -/
import Derived.Test.YtmdhggfehknjjaaGreatJM5N8
import Derived.Test.YtmdhggfehknjjaaGreatJM7M8
set_option maxRecDepth 100000
set_option maxHeartbeats 4000000
namespace Go.Proofs.YtmdhggfehknjjaaGreat
open Go.K Go.K.bn
noncomputable section
theorem IU {w₀:World} {C:Nat->Nat} {sh:List (List dP)} {c:au} {ver:Int} {aC:Value} (hF:aF w₀ C) (hl:aq w₀ (aj C) sh aC):Calls Tryz.prog 121 #[aC,.agg #[.int .i64 c.a,.int .i64 c.b],.int .i64 ver] w₀ (aZ λv w'=>v=.bool (vi sh c ver)/\av [] w₀ C w' C):=by
 have aO:=hF;replace hF:=hF.aI;replace hl:=hl.c1;refine bG Tryz.func121 ?_;refine aA 2 ?_ [2];refine aR (cu (cs:=aV c) hF 3 rfl rfl) ?_;rintro _ w1 ⟨cm,bq,rfl,s_1,hx,hF⟩;refine ax 4 ?_;by_cases hA:c.a<0
 ·
  refine aA 2 ?_ [989,0];refine aX hx.at_ ?_;refine dT hA ?_;refine ax 13 ?_ [1];refine bg Tryz.func121 ?_;exact⟨by rw[Lr af],(z9 w₀ C).o1⟩
 by_cases hB: (sh.length:Int)<=c.a
 ·
  refine aA 2 ?_ [989,0];refine aX hx.at_ ?_;refine cL hA ?_;refine ah 2 ?_ [0];refine aX hx.at_ ?_;refine ah 1 ?_;refine dE hl.mv.ln ?_;refine aP (λ_=>i_ (lH rfl rfl) af) ?_;refine ax 7 ?_ [1];refine bg Tryz.func121 ?_;exact⟨by rw[Lr af],(z9 w₀ C).o1⟩
 refine aA 2 ?_ [989,0];refine aX hx.at_ ?_;refine cL hA ?_;refine ah 2 ?_ [0];refine aX hx.at_ ?_;refine ah 1 ?_;refine dE hl.mv.ln ?_;refine aP (λ_=>jR (lH rfl rfl) af) ?_;refine ax 5 ?_;refine bX [] (cm) [1,3,5,7,9,11,13,14,17] bP ?_;intro w2 s_2;have ha:c.a.toNat<sh.length:=by omega
 obtain⟨fi,xu⟩:∃fi,fi=sB (sh[c.a.toNat]'ha) c.b:=⟨_,rfl⟩
 have hfl:fi<(sh[c.a.toNat]'ha).length\/fi= -1:=by rw[xu];exact Xh
 refine ah 2 ?_ [0];refine di hx.mv.sz ?_;refine aL hl.mv ?_;intro _ FX B_ jl;refine ew jl ?_;intro v22 g22;refine ah 1 ?_ [1];refine di hx.mv.sz ?_;refine dC Tryz.call179 (ac6 (id:=c.b) hF.mv g22) ?_;rintro iu w3 ⟨rfl,cq⟩;rw[<-xu];refine⟨aW,?_⟩;refine ax 3 ?_;by_cases hN:fi<0
 ·
  refine aA 2 ?_ [126815];refine aP (λ_=>jR (lH rfl rfl) af) ?_;refine ax 16 ?_;refine bg Tryz.func121 ?_;subst xu;exact⟨by rw[Xl ha hN],(z9 w₀ C).o1⟩
 by_cases hV:∃h:fi.toNat<(sh[c.a.toNat]'ha).length,((sh[c.a.toNat]'ha)[fi.toNat]'h).rc.ver=ver
 ·
  refine aA 2 ?_ [126815];refine aP (λ_=>i_ (lH rfl rfl) af) ?_;refine ah 3 ?_ [0];refine aX hx.mv.at_ ?_;refine aL hl.mv ?_;intro _ Ca yO gA;refine dW gA ?_;intro v33 ny;refine ah 1 ?_;refine aL ny ?_;intro _ AB AE gj;have iD:=bk.src gj;refine ah 1 ?_ [0];have gK:=bk.KB iD;refine ah 1 ?_ [1];refine dW gK ?_;intro uZ jK;first|(obtain rfl:=dJ.1 jK)|(obtain rfl:=cO.1 jK)
  refine ah 1 ?_;refine dT (hV.elim λ_ e=>e) ?_;refine ax 3 ?_;refine bg Tryz.func121 ?_;subst xu;exact⟨by rw[Xn af ha hN hV],(z9 w₀ C).o1⟩
 refine aA 2 ?_ [126815];refine aP (λ_=>i_ (lH rfl rfl) af) ?_;refine ah 3 ?_ [0];refine aX hx.mv.at_ ?_;refine aL hl.mv ?_;intro _ Ca yO gA;refine dW gA ?_;intro v33 ny;refine ah 1 ?_;refine aL ny ?_;intro _ AB AE gj;have iD:=bk.src gj;refine ah 1 ?_ [0];have gK:=bk.KB iD;refine ah 1 ?_ [1];refine dW gK ?_;intro uZ jK;first|(obtain rfl:=dJ.1 jK)|(obtain rfl:=cO.1 jK)
 refine ah 1 ?_;refine cL (λe=>hV ⟨_,e⟩) ?_;refine ax 3 ?_;refine bg Tryz.func121 ?_;subst xu;exact⟨by rw[Xm ha hV],(z9 w₀ C).o1⟩
theorem ad_ {w₀:World} {C:Nat->Nat} {sh:List (List dP)} {ds:List bp} {aC bW:Value} (hF:aF w₀ C) (hl:aq w₀ (aj C) sh aC) (hz:aq w₀ (aj C) ds bW) (ad4:ds.length<=4096):Calls Tryz.prog 69 #[aC,bW] w₀ (aZ λv w'=>av [] w₀ C w' C/\aq w' (aj C) (iC sh ds) v):=by
 have aO:=hF;replace hF:=hF.aI;replace hl:=hl.c1;replace hz:=hz.c1;refine bG Tryz.func69 ?_;refine aB 14 ?_ [1,1,1];refine cg (ι:=Nat×Value×(Nat->Nat)) (λx w=>x.1<=ds.length/\aF w x.2.2/\av [2,3,4,5,6,7,8,9] w₀ (aI C) w x.2.2/\aq w (aj x.2.2) sh aC/\aq w (aj x.2.2) ds bW/\aQ w x.2.2 4 89 x.2.1 (iC sh (ds.take x.1))) (λx=>[(0,aC),(1,bW),(5,x.2.1),(6,.int .i64 x.1)]) (λx=>ds.length-x.1) (0,.slice none 0 0,aI C) ?_ ?_
 · exact⟨Nat.zero_le _,hF,(z9 w₀ C),hl,hz,aQ.nil⟩
 intro⟨k,ct,aK⟩ w1 hI bu;obtain⟨hk,hF,hT,hl,hz,ho⟩:=hI;try simp only at hk hF hT hl hz ho
 show Run _ _ _ _ [(0,aC),(1,bW),(5,ct),(6,.int .i64 k)] _ _;have hle:=hz.le;have hsl:=Xo (sh:=sh) (ds:=ds.take k);rw[List.length_take] at hsl;refine aA 5 ?_ [15];refine dE hz.ln ?_;refine ax 2 ?_;refine a_ 10 rfl (λgq=>?_) (λgq=>?_)
 ·
  have ay:k<ds.length:=by omega
  have en:=Xp (sh:=sh) ay;refine aB 4 ?_;refine iL 38 (wW sh (ds[k]'ay)) (aK) ?_ ?_
  ·
   intro bU;by_cases hA:vi sh (ds[k]'ay).A (ds[k]'ay).bz=true
   ·
    by_cases hB:vi sh (ds[k]'ay).B (ds[k]'ay).bH=true
    ·
     refine bX [] (aK) [1,3,5,7,9,11,13,15,17,19,21,22,25,27,29,31,33,35,37,39,41,43,45,47,48,51] bP ?_;intro w2 s_1;have hcs:=s_1;have iE:=hl.mv;have uA:=hz.mv;refine ah 3 ?_;refine aL uA ?_;intro _ oP oQ cZ;have ey:=bk.c5 cZ;refine ah 1 ?_ [0];refine cn ey ?_;intro nx g18;have YS:=g18;obtain rfl:=bV.1 g18.mv;refine ah 2 ?_;refine aL uA ?_;intro _ FX B_ jl;have eZ:=bk.HJ jl;refine ah 1 ?_ [4];refine ew eZ ?_;intro v23 g23;first|(obtain rfl:=dJ.1 g23)|(obtain rfl:=cO.1 g23)
     refine dC Tryz.call121 (IU (c:=(ds[k]'ay).A) (ver:=(ds[k]'ay).bz) hF.mv hl.mv) ?_;rintro iu w3 ⟨rfl,s_2⟩;rw[hA];refine⟨aW,?_⟩;refine ah 4 ?_;refine aL uA ?_;intro _ vG vH gE;have sF:=bk.j7 gE;refine ah 1 ?_ [2];refine cn sF ?_;intro v31 nj;have aea:=nj;obtain rfl:=bV.1 nj.mv;refine ah 2 ?_;refine aL uA ?_;intro _ FJ FK lX;have gj:=bk.O6 lX;refine ah 1 ?_ [5];refine ew gj ?_;intro xq rI;first|(obtain rfl:=dJ.1 rI)|(obtain rfl:=cO.1 rI)
     refine dC Tryz.call121 (IU (c:=(ds[k]'ay).B) (ver:=(ds[k]'ay).bH) hF.mv hl.mv) ?_;rintro fS w4 ⟨rfl,cq⟩;rw[hB];refine⟨aW,?_⟩;refine ah 1 ?_;exact bQ.nil (bU _ _ _ hcs.mv rfl (by unfold wW;rw[hA,hB];rfl) (cB 26))
    refine bX [] (aK) [1,3,5,7,9,11,13,15,17,19,21,22,25,27,29,31,33,35,37,39,41,43,45,47,48,51] bP ?_;intro dc cI;have hcs:=cI;have iE:=hl.mv;have uA:=hz.mv;refine ah 3 ?_;refine aL uA ?_;intro _ oP oQ cZ;have ey:=bk.c5 cZ;refine ah 1 ?_ [0];refine cn ey ?_;intro nx g18;have YS:=g18;obtain rfl:=bV.1 g18.mv;refine ah 2 ?_;refine aL uA ?_;intro _ FX B_ jl;have eZ:=bk.HJ jl;refine ah 1 ?_ [4];refine ew eZ ?_;intro v23 g23;first|(obtain rfl:=dJ.1 g23)|(obtain rfl:=cO.1 g23)
    refine dC Tryz.call121 (IU (c:=(ds[k]'ay).A) (ver:=(ds[k]'ay).bz) hF.mv hl.mv) ?_;rintro lz ei ⟨rfl,de⟩;rw[hA];refine⟨aW,?_⟩;refine ah 4 ?_;refine aL uA ?_;intro _ vG vH gE;have sF:=bk.j7 gE;refine ah 1 ?_ [2];refine cn sF ?_;intro v31 nj;have aea:=nj;obtain rfl:=bV.1 nj.mv;refine ah 2 ?_;refine aL uA ?_;intro _ FJ FK lX;have gj:=bk.O6 lX;refine ah 1 ?_ [5];refine ew gj ?_;intro xq rI;first|(obtain rfl:=dJ.1 rI)|(obtain rfl:=cO.1 rI)
    refine dC Tryz.call121 (IU (c:=(ds[k]'ay).B) (ver:=(ds[k]'ay).bH) hF.mv hl.mv) ?_;rintro jJ w7 ⟨rfl,ej⟩;rw[Bool.eq_false_iff.2 hB];refine⟨aW,?_⟩;refine ah 1 ?_;exact bQ.nil (bU _ _ _ hcs.mv rfl (by unfold wW;rw[hA,Bool.eq_false_iff.2 hB];rfl) (cB 26))
   refine bX [] (aK) [1,3,5,7,9,11,13,15,17,19,21,22,25,27,29,31,33,35,37,39,41,43,45,47,48,51] bP ?_;intro fk eS;have hcs:=eS;have iE:=hl.mv;have uA:=hz.mv;refine ah 3 ?_;refine aL uA ?_;intro _ oP oQ cZ;have ey:=bk.c5 cZ;refine ah 1 ?_ [0];refine cn ey ?_;intro nx g18;have YS:=g18;obtain rfl:=bV.1 g18.mv;refine ah 2 ?_;refine aL uA ?_;intro _ FX B_ jl;have eZ:=bk.HJ jl;refine ah 1 ?_ [4];refine ew eZ ?_;intro v23 g23;first|(obtain rfl:=dJ.1 g23)|(obtain rfl:=cO.1 g23)
   refine dC Tryz.call121 (IU (c:=(ds[k]'ay).A) (ver:=(ds[k]'ay).bz) hF.mv hl.mv) ?_;rintro vE fJ ⟨rfl,fA⟩;rw[Bool.eq_false_iff.2 hA];refine⟨aW,?_⟩;refine ah 12 ?_;refine nz ?_;refine mb (k8 37 (mV 121 #[26,31,36] #[67,55,3]) 12 true) rfl rfl aW ?_;refine ck ?_;refine ah 1 ?_;exact bQ.nil (bU _ _ _ hcs.mv rfl (by unfold wW;rw[Bool.eq_false_iff.2 hA];rfl) (cB 26))
  intro gn fT;refine f_ 38 rfl (λjY=>?_) (λjY=>?_)
  ·
   rw[if_pos jY] at en;refine aA 4 ?_ [143];refine aL hz.mv ?_;intro _ aki akj AF;refine gJ AF ?_;intro B6 yZ;obtain rfl:=rZ.1 yZ;refine aR (ez (ys:=([(ds[k]'ay)]:List bp)) (e:=89) (bytes:=56) hF.mv ai rfl ak ak ⟨rfl,⟨_,rfl,rZ.2 rfl⟩,trivial⟩) ?_;rintro v44 iK ⟨gY,oV,hF⟩;refine aR (eO (e:=89) (bytes:=56) hF ak rfl rfl ai ak ho.mv oV dH dH) ?_;rintro v45 iV ⟨wK,eY,ho,hF⟩;refine ax 8 ?_ [7];refine bC (bu (k+1,v45,wK) _ ⟨aD,hF,hT.mv,hl.mv,hz.mv,(by simp only;rw[en];exact ho)⟩ aD)
  rw[if_neg (by rw[jY];decide),List.append_nil] at en;refine aB 7 ?_ [7];refine bC (bu (k+1,ct,aK) _ ⟨aD,hF.mv,hT.mv,hl.mv,hz.mv,(by simp only;rw[en];exact ho.mv)⟩ aD)
 have ay:k=ds.length:=by omega
 rw[ay,List.take_length] at ho hsl;refine aB 6 ?_ [3];refine bg Tryz.func69 ?_;exact⟨hT.o1,ho.out hT aO (er C) (λb _=>gI C ak b) af⟩
theorem YT {w₀:World} {C:Nat->Nat} {lo hh:Int} (hF:aF w₀ C):Calls Tryz.prog 67 #[.agg #[.int .i64 lo,.int .i64 hh]] w₀ (aZ λv w'=>v=.int .i64 (oq lo hh)/\av [] w₀ C w' C):=by
 have aO:=hF;replace hF:=hF.aI;refine bG Tryz.func67 ?_;refine aA 2 ?_ [2];refine aR (cu (cs:=[.int .i64 lo,.int .i64 hh]) hF 3 rfl rfl) ?_;rintro _ w1 ⟨cm,bq,rfl,s_1,hx,hF⟩;refine ax 4 ?_;refine iL 22 (decide (oK lo hh)) (cm) ?_ ?_
 ·
  intro bU;by_cases hA:hh<1
  ·
   refine aA 2 ?_ [883677,1];refine aX hx.at_ ?_;refine dT hA ?_;refine ah 17 ?_;exact bQ.nil (bU _ _ _ (av.refl _ _ _) rfl (by rw[decide_eq_true (show oK lo hh from by unfold oK;omega)]) (cB 20))
  by_cases hB:65536<hh
  ·
   refine aA 2 ?_ [883677,1];refine aX hx.at_ ?_;refine cL hA ?_;refine ah 2 ?_ [1];refine aX hx.at_ ?_;refine dT hB ?_;refine ah 13 ?_;exact bQ.nil (bU _ _ _ (av.refl _ _ _) rfl (by rw[decide_eq_true (show oK lo hh from by unfold oK;omega)]) (cB 20))
  by_cases hC:lo< -65536
  ·
   refine aA 2 ?_ [883677,1];refine aX hx.at_ ?_;refine cL hA ?_;refine ah 2 ?_ [1];refine aX hx.at_ ?_;refine cL hB ?_;refine ah 3 ?_ [0];refine aX hx.at_ ?_;refine dT hC ?_;refine ah 8 ?_;exact bQ.nil (bU _ _ _ (av.refl _ _ _) rfl (by rw[decide_eq_true (show oK lo hh from by unfold oK;omega)]) (cB 20))
  refine aA 2 ?_ [883677,1];refine aX hx.at_ ?_;refine cL hA ?_;refine ah 2 ?_ [1];refine aX hx.at_ ?_;refine cL hB ?_;refine ah 3 ?_ [0];refine aX hx.at_ ?_;refine cL hC ?_;refine ah 3 ?_ [0];refine aX hx.at_ ?_;refine ah 1 ?_ [1];refine aX hx.at_ ?_;refine ah 2 ?_;exact bQ.nil (bU _ _ _ (av.refl _ _ _) rfl (by congr 1;apply decide_eq_decide.2;unfold oK;omega) (cB 20))
 intro w2 s_2;refine a_ 22 rfl (λeZ=>?_) (λeZ=>?_)
 ·
  refine aB 4 ?_ [1];refine bg Tryz.func67 ?_;exact⟨by unfold oq;rw[if_pos eZ],(z9 w₀ C).o1⟩
 refine aB 5 ?_ [1];refine bg Tryz.func67 ?_;exact⟨by unfold oq;rw[if_neg eZ],(z9 w₀ C).o1⟩
theorem aeb {w₀:World} {C:Nat->Nat} {lo hh s:Int} (hF:aF w₀ C):Calls Tryz.prog 123 #[.agg #[.int .i64 lo,.int .i64 hh],.int .i64 s] w₀ (aZ λv w'=>v=.int .i64 (mH lo hh s)/\av [] w₀ C w' C):=by
 have aO:=hF;replace hF:=hF.aI;refine bG Tryz.func123 ?_;refine aA 2 ?_ [2];refine aR (cu (cs:=[.int .i64 lo,.int .i64 hh]) hF 3 rfl rfl) ?_;rintro _ w1 ⟨cm,bq,rfl,s_1,hx,hF⟩;refine bh 7 ?_ [11,1];refine aX hx.at_ ?_;refine ax 2 ?_;refine a_ 8 rfl (λh8=>?_) (λh8=>?_)
 ·
  refine aB 4 ?_ [1];refine bg Tryz.func123 ?_;exact⟨by unfold mH;rw[if_pos h8],(z9 w₀ C).o1⟩
 refine aA 6 ?_ [11,0];refine aX hx.at_ ?_;refine ax 2 ?_;refine a_ 12 rfl (λh12=>?_) (λh12=>?_)
 ·
  refine aB 4 ?_ [1];refine bg Tryz.func123 ?_;exact⟨by unfold mH;rw[if_neg h8,if_pos h12],(z9 w₀ C).o1⟩
 refine aB 5 ?_ [1];refine bg Tryz.func123 ?_;exact⟨by unfold mH;rw[if_neg h8,if_neg h12],(z9 w₀ C).o1⟩
theorem aec {w₀:World} {C:Nat->Nat} {l:List iN} {aC:Value} (hF:aF w₀ C) (hl:aq w₀ (aj C) l aC) (hm:l.length<=4096) (hO:∀c∈l,iB c.A c.B=true/\-1048576<=c.wt/\c.wt<=1048576) (kS:l.Pairwise wI):Calls Tryz.prog 180 #[aC] w₀ (aZ λv w'=>v=.int .i64 0/\av [] w₀ C w' C):=by
 have aO:=hF;replace hF:=hF.aI;replace hl:=hl.c1;refine bG Tryz.func180 ?_;refine aA 8 ?_ [1,7];refine dE hl.ln ?_;refine aP (λ_=>dR (jr rfl rfl) af) ?_;refine ax 9 ?_ [1];refine cg (ι:=Nat×(Nat->Nat)) (λx w=>x.1<=l.length/\aF w x.2/\av [2,3,4,5,6,7,8,9] w₀ (aI C) w x.2/\aq w (aj x.2) l aC) (λx=>[(0,aC),(3,.int .i64 x.1)]) (λx=>l.length-x.1) (0,aI C) ?_ ?_
 · exact⟨Nat.zero_le _,hF,(z9 w₀ C),hl⟩
 intro⟨i,aK⟩ w1 hI bu;obtain⟨hi,hF,hT,hl⟩:=hI;try simp only at hi hF hT hl
 show Run _ _ _ _ [(0,aC),(3,.int .i64 i)] _ _;have hle:=hl.le;refine aA 5 ?_ [15];refine dE hl.ln ?_;refine ax 2 ?_;refine a_ 10 rfl (λgq=>?_) (λgq=>?_)
 ·
  have hil:i<l.length:=by omega
  have hok:=hO _ (List.getElem_mem hil);refine aB 5 ?_;refine bX [] (aK) [1,3,5,7,9,11,13,15,17,19,20,23] bP ?_;intro w2 s_1;have iE:=hl.mv;refine ah 2 ?_;refine aL iE ?_;intro _ QE QF gL;have cZ:=bk.Db gL;refine ah 1 ?_ [0];refine cn cZ ?_;intro v17 g17;have adW:=g17;obtain rfl:=bV.1 g17.mv;refine ah 2 ?_;refine aL iE ?_;intro _ QG QH k6;have jl:=bk.Dc k6;refine ah 1 ?_ [2];refine cn jl ?_;intro v22 g22;have adX:=g22;obtain rfl:=bV.1 g22.mv;refine dC Tryz.call118 (YP (x:=(l[i]'hil).A) (y:=(l[i]'hil).B) hF.mv) ?_;rintro iu w3 ⟨rfl,s_2⟩;rw[hok.1];refine⟨aW,?_⟩;refine bh 9 ?_ [14319];refine aL hl.mv ?_;intro _ FU FV gM;have gG:=bk.HV gM;refine ah 1 ?_ [5];refine dW gG ?_;intro uy kR;first|(obtain rfl:=dJ.1 kR)|(obtain rfl:=cO.1 kR)
  refine aP (λ_=>dR (jq rfl rfl) af) ?_;refine ah 3 ?_;refine aL hl.mv ?_;intro _ FJ FK lX;have gj:=bk.HV lX;refine ah 1 ?_ [5];refine dW gj ?_;intro xq rI;first|(obtain rfl:=dJ.1 rI)|(obtain rfl:=cO.1 rI)
  refine aP (λ_=>dR (jr rfl rfl) af) ?_;refine ax 5 ?_;by_cases hA: (0:Int)<i
  ·
   refine bX [] (aK) [1,3,5,7,9,11,13,15,17,19,21,23,25,27,29,31,33,35,37,39,41,43,45,47,49,50,53,55] bP ?_;intro w4 cq;have iE:=hl.mv;refine ah 1 ?_;refine dT hA ?_;refine ah 4 ?_;refine aL iE ?_;intro _ akk akl uu;have h46:=bk.Db uu;refine ah 1 ?_ [0];refine cn h46 ?_;intro yc ni;have akm:=ni;have nV: ((i:Int)-1).toNat=i-1:=by omega
   replace ni:=ni.mv;simp only[nV] at ni;obtain rfl:=bV.1 ni;refine ah 3 ?_;refine aL iE ?_;intro _ Il Im uk;have ko:=bk.Dc uk;refine ah 1 ?_ [2];refine cn ko ?_;intro v53 j3;have IV:=j3;replace j3:=j3.mv;simp only[nV] at j3;obtain rfl:=bV.1 j3;refine ah 2 ?_;refine aL iE ?_;intro _ YU YV xm;have qi:=bk.Db xm;refine ah 1 ?_ [0];refine cn qi ?_;intro v58 FY;have akn:=FY;obtain rfl:=bV.1 FY.mv;refine ah 2 ?_;refine aL iE ?_;intro _ LG LH qI;have Av:=bk.Dc qI;refine ah 1 ?_ [2];refine cn Av ?_;intro IK y7;have YW:=y7;obtain rfl:=bV.1 y7.mv;refine gl Tryz.call178 rfl (YQ (a:=(l[i-1]'af).A) (b:=(l[i-1]'af).B) (c:=(l[i]'hil).A) (d:=(l[i]'hil).B) hF.mv) ?_;rintro kf dc ⟨rfl,cI⟩;have hlt:=Vo (List.pairwise_iff_getElem.1 kS (i-1) i af hil af);refine⟨aW,?_⟩;refine aP (λ_=>dR (lH rfl rfl) af) ?_;refine ax 10 ?_ [7];refine bC (bu (i+1,aK) _ ⟨aD,hF.mv,hT.mv,hl.mv⟩ aD)
  refine bX [] (aK) [1,3,5,7,9,11,13,15,17,19,21,23,25,27,29,31,33,35,37,39,41,43,45,47,49,50,53,55] bP ?_;intro ei de;have iE:=hl.mv;refine ah 1 ?_;refine cL hA ?_;refine ah 23 ?_;refine nz ?_;refine mb (k8 64 (mV 178 #[47,53,58,63] #[55,55,55,55]) 2 true) rfl rfl aW ?_;refine ck ?_;refine ax 11 ?_ [7];refine bC (bu (i+1,aK) _ ⟨aD,hF.mv,hT.mv,hl.mv⟩ aD)
 have hil:i=l.length:=by omega
 refine aB 5 ?_ [1];refine bg Tryz.func180 ?_;exact⟨rfl,hT.o1⟩
theorem aed {w₀:World} {C:Nat->Nat} {lo hh:Int} {l:List iN} {ds:List bp} {aC bW:Value} (hF:aF w₀ C) (hl:aq w₀ (aj C) l aC) (hm:l.length<=4096) (hO:∀c∈l,iB c.A c.B=true/\-1048576<=c.wt/\c.wt<=1048576) (kS:l.Pairwise wI) (hz:aq w₀ (aj C) ds bW):Calls Tryz.prog 122 #[.agg #[.int .i64 lo,.int .i64 hh],aC,bW] w₀ (aZ λv w'=>v=.int .i64 (p_ lo hh ds)/\av [] w₀ C w' C):=by
 have aO:=hF;replace hF:=hF.aI;replace hl:=hl.c1;replace hz:=hz.c1;refine bG Tryz.func122 ?_;refine aA 2 ?_ [2];refine aR (cu (cs:=[.int .i64 lo,.int .i64 hh]) hF 3 rfl rfl) ?_;rintro _ w1 ⟨cm,bq,rfl,s_1,hx,hF⟩;refine bh 5 ?_ [4];refine bF 2 ([.int .i64 lo,.int .i64 hh]) hx.at_ ?_;refine bD Tryz.call67 (YT hF) ?_;rintro fP w2 ⟨rfl,s_2⟩;refine ax 7 ?_ [3];refine a_ 12 rfl (λh12=>?_) (λh12=>?_)
 ·
  have hE:=Xu (ds:=ds) h12;refine aB 5 ?_ [3];refine bg Tryz.func122 ?_;exact⟨by rw[hE],(z9 w₀ C).o1⟩
 have hE:=Xv (ds:=ds) (Classical.not_not.1 h12);refine aA 5 ?_ [5];refine bD Tryz.call180 (aec hF.mv hl.mv hm hO kS) ?_;rintro iu w3 ⟨rfl,cq⟩;refine bh 5 ?_ [3];refine aP (λ_=>dR (jQ rfl rfl) ak) ?_;refine bh 6 ?_ [5];refine bD Tryz.call68 (QD hF.mv hz.mv) ?_;rintro fS w4 ⟨rfl,cI⟩;refine ax 2 ?_;refine bg Tryz.func122 ?_;exact⟨by rw[hE],(z9 w₀ C).o1⟩
theorem aee {w₀:World} {C:Nat->Nat} {ds:List bp} {a b:au} {bW:Value} (hF:aF w₀ C) (hz:aq w₀ (aj C) ds bW):Calls Tryz.prog 124 #[bW,.agg #[.int .i64 a.a,.int .i64 a.b],.agg #[.int .i64 b.a,.int .i64 b.b]] w₀ (aZ λv w'=>∃j:Int,v=.int .i64 j/\av [] w₀ C w' C/\((j<0/\lB ds a b=none)\/∃k,∃hk:k<ds.length,j=(k:Int)/\lB ds a b=some ds[k].same)):=by
 have aO:=hF;replace hF:=hF.aI;replace hz:=hz.c1;refine bG Tryz.func124 ?_;refine aA 2 ?_ [4];refine aR (cu (cs:=aV a) hF 3 rfl rfl) ?_;rintro _ w1 ⟨cm,bq,rfl,s_1,ka,hF⟩;refine aR (cu (cs:=aV b) hF 3 rfl rfl) ?_;rintro _ w2 ⟨cw,cM,rfl,s_2,kb,hF⟩;refine ax 8 ?_ [1];refine cg (ι:=Nat×(Nat->Nat)) (λx w=>x.1<=ds.length/\(∀k (h:k<ds.length),k<x.1->¬(ds[k].A=a/\ds[k].B=b))/\aF w x.2/\av [2,3,4,5,6,7,8,9] w₀ (aI C) w x.2/\aq w (aj x.2) ds bW/\bS w x.2 3 bq (.cells (aV a).toArray 55)/\bS w x.2 3 cM (.cells (aV b).toArray 55)) (λx=>[(0,bW),(4,.pointer (some ⟨bq,0,none⟩)),(5,.pointer (some ⟨cM,0,none⟩)),(7,.int .i64 x.1)]) (λx=>ds.length-x.1) (0,cw) ?_ ?_
 · exact⟨Nat.zero_le _,λk h hk=>by first|omega|(simp only at hk;omega),hF,(z9 w₀ C).mv,hz.mv,ka.mv,kb⟩
 intro⟨i,aK⟩ w3 hI bu;obtain⟨hi,h0,hF,hT,hz,ka,kb⟩:=hI;try simp only at hi h0 hF hT hz ka kb
 show Run _ _ _ _ [(0,bW),(4,.pointer (some ⟨bq,0,none⟩)),(5,.pointer (some ⟨cM,0,none⟩)),(7,.int .i64 i)] _ _;have hle:=hz.le;refine aA 5 ?_ [15];refine dE hz.ln ?_;refine ax 2 ?_;refine a_ 11 rfl (λjB=>?_) (λjB=>?_)
 ·
  have hil:i<ds.length:=by omega
  refine aB 4 ?_;refine iL 29 (decide ((ds[i]'hil).A=a/\(ds[i]'hil).B=b)) (aK) ?_ ?_
  ·
   intro bU;by_cases hA: (ds[i]'hil).A=a
   ·
    by_cases hB: (ds[i]'hil).B=b
    ·
     refine bX [] (aK) [1,3,5,7,9,11,13,15,17,19,21,23,25,27,29,31] bP ?_;intro w4 cq;have hcs:=cq;refine ah 2 ?_;refine aL hz.mv ?_;intro _ oP oQ cZ;have ey:=bk.c5 cZ;refine ah 1 ?_ [0];refine cn ey ?_;intro nx g18;obtain rfl:=bV.1 g18;refine c7 2 (aV a) ka.mv.sz ?_;refine aP (λ_=>i_ (iA (a:=(ds[i]'hil).A) (b:=a) Tryz.underlying55 ak ak ai Tryz.underlying3 rfl rfl) hA) ?_;refine ah 3 ?_;refine aL hz.mv ?_;intro _ FO YH fM;have gw:=bk.j7 fM;refine ah 1 ?_ [2];refine cn gw ?_;intro v26 sD;obtain rfl:=bV.1 sD;refine c7 2 (aV b) kb.mv.sz ?_;refine aP (λ_=>i_ (iA (a:=(ds[i]'hil).B) (b:=b) Tryz.underlying55 ak ak ai Tryz.underlying3 rfl rfl) hB) ?_;refine ah 1 ?_;exact bQ.nil (bU _ _ _ hcs rfl (by rw[decide_eq_true ⟨hA,hB⟩]) (cB 16))
    refine bX [] (aK) [1,3,5,7,9,11,13,15,17,19,21,23,25,27,29,31] bP ?_;intro dc cI;have hcs:=cI;refine ah 2 ?_;refine aL hz.mv ?_;intro _ oP oQ cZ;have ey:=bk.c5 cZ;refine ah 1 ?_ [0];refine cn ey ?_;intro nx g18;obtain rfl:=bV.1 g18;refine c7 2 (aV a) ka.mv.sz ?_;refine aP (λ_=>i_ (iA (a:=(ds[i]'hil).A) (b:=a) Tryz.underlying55 ak ak ai Tryz.underlying3 rfl rfl) hA) ?_;refine ah 3 ?_;refine aL hz.mv ?_;intro _ FO YH fM;have gw:=bk.j7 fM;refine ah 1 ?_ [2];refine cn gw ?_;intro v26 sD;obtain rfl:=bV.1 sD;refine c7 2 (aV b) kb.mv.sz ?_;refine aP (λ_=>jR (iA (a:=(ds[i]'hil).B) (b:=b) Tryz.underlying55 ak ak ai Tryz.underlying3 rfl rfl) hB) ?_;refine ah 1 ?_;exact bQ.nil (bU _ _ _ hcs rfl (by rw[decide_eq_false (λe=>hB e.2)]) (cB 16))
   refine bX [] (aK) [1,3,5,7,9,11,13,15,17,19,21,23,25,27,29,31] bP ?_;intro ei de;have hcs:=de;refine ah 2 ?_;refine aL hz.mv ?_;intro _ oP oQ cZ;have ey:=bk.c5 cZ;refine ah 1 ?_ [0];refine cn ey ?_;intro nx g18;obtain rfl:=bV.1 g18;refine c7 2 (aV a) ka.mv.sz ?_;refine aP (λ_=>jR (iA (a:=(ds[i]'hil).A) (b:=a) Tryz.underlying55 ak ak ai Tryz.underlying3 rfl rfl) hA) ?_;refine ah 9 ?_;exact bQ.nil (bU _ _ _ hcs rfl (by rw[decide_eq_false (λe=>hA e.1)]) (cB 16))
  intro w7 ej;refine a_ 29 rfl (λgE=>?_) (λgE=>?_)
  ·
   refine aB 5 ?_ [3];refine bg Tryz.func124 ?_;exact⟨_,rfl,hT.o1,.inr ⟨i,hil,rfl,abr hil (λk h hk=>h0 k h hk) gE⟩⟩
  refine aB 7 ?_ [7];refine bC (bu (i+1,aK) _ ⟨aD,(λk h hk=>by
      try simp only at hk
      by_cases e:k=i
      ·subst e;exact gE
      ·exact h0 k h af),hF.mv,hT.mv,hz.mv,ka.mv,kb.mv⟩ aD)
 have hil:i=ds.length:=by omega
 refine aB 5 ?_ [1];refine bg Tryz.func124 ?_;exact⟨_,rfl,hT.o1,.inl ⟨by decide,abt (λk h=>h0 k h af)⟩⟩
theorem aef {w₀:World} {C:Nat->Nat} {lo hh:Int} {l:List iN} {ds:List bp} {aC bW:Value} (hF:aF w₀ C) (hl:aq w₀ (aj C) l aC) (hm:l.length<=4096) (hO:∀c∈l,iB c.A c.B=true/\-1048576<=c.wt/\c.wt<=1048576) (kS:l.Pairwise wI) (hz:aq w₀ (aj C) ds bW):Calls Tryz.prog 70 #[.agg #[.int .i64 lo,.int .i64 hh],aC,bW] w₀ (aZ λv w'=>∃u,v=.tuple #[u,.int .i64 (p_ lo hh ds)]/\av [] w₀ C w' C/\aq w' (aj C) (qd lo hh ds l) u):=by
 have aO:=hF;replace hF:=hF.aI;replace hl:=hl.c1;replace hz:=hz.c1;refine bG Tryz.func70 ?_;refine aA 2 ?_ [6];refine aR (cu (cs:=[.int .i64 lo,.int .i64 hh]) hF 3 rfl rfl) ?_;rintro _ w1 ⟨cm,bq,rfl,s_1,hx,hF⟩;refine bh 6 ?_ [22];refine bF 2 ([.int .i64 lo,.int .i64 hh]) hx.at_ ?_;refine ah 2 ?_;refine bD Tryz.call122 (aed hF hl.mv hm hO kS hz.mv) ?_;rintro fP w2 ⟨rfl,s_2⟩;refine ax 7 ?_ [3];refine a_ 19 rfl (λnu=>?_) (λnu=>?_)
 ·
  refine aB 6 ?_ [7];refine jo ai Tryz.func70 Tryz.results70 rfl rfl ?_;exact⟨_,rfl,(z9 w₀ C).o1,by rw[Xs nu];exact eT⟩
 have hE:p_ lo hh ds=0:=Classical.not_not.1 nu;refine aB 11 ?_ [1,1];refine cg (ι:=Nat×Value×(Nat->Nat)) (λx w=>x.1<=l.length/\aF w x.2.2/\av [2,3,4,5,6,7,8,9] w₀ (aI C) w x.2.2/\aq w (aj x.2.2) l aC/\aq w (aj x.2.2) ds bW/\bS w x.2.2 3 bq (.cells [.int .i64 lo,.int .i64 hh].toArray 63)/\aQ w x.2.2 4 58 x.2.1 (Ah lo hh ds (l.take x.1))) (λx=>[(1,aC),(2,bW),(3,.pointer (some ⟨bq,0,none⟩)),(9,x.2.1),(10,.int .i64 x.1)]) (λx=>l.length-x.1) (0,.slice none 0 0,cm) ?_ ?_
 · exact⟨Nat.zero_le _,hF.mv,(z9 w₀ C).mv,hl.mv,hz.mv,hx.mv,aQ.nil⟩
 intro⟨k,ct,aK⟩ w3 hI bu;obtain⟨hk,hF,hT,hl,hz,hx,ho⟩:=hI;try simp only at hk hF hT hl hz hx ho
 show Run _ _ _ _ [(1,aC),(2,bW),(3,.pointer (some ⟨bq,0,none⟩)),(9,ct),(10,.int .i64 k)] _ _;have hle:=hl.le;have qK:=Xq (lo:=lo) (hh:=hh) (ds:=ds) (l:=l.take k);rw[List.length_take] at qK;refine aA 5 ?_ [15];refine dE hl.ln ?_;refine ax 2 ?_;refine a_ 24 rfl (λfM=>?_) (λfM=>?_)
 ·
  have ay:k<l.length:=by omega
  have en:=Xr (lo:=lo) (hh:=hh) (ds:=ds) ay;refine aB 4 ?_;refine bX [] (aK) [1,3,5,7,9,11,12,15] bP ?_;intro w4 cq;refine c7 2 ([.int .i64 lo,.int .i64 hh]) hx.mv.sz ?_;refine ah 2 ?_;refine aL hl.mv ?_;intro _ YX YY sF;have jA:=bk.HV sF;refine ah 1 ?_ [5];refine ew jA ?_;intro v32 uj;first|(obtain rfl:=dJ.1 uj)|(obtain rfl:=cO.1 uj)
  refine dC Tryz.call123 (aeb hF.mv) ?_;rintro kf dc ⟨rfl,cI⟩;refine⟨aW,?_⟩;refine ax 10 ?_ [7];refine bX [] (aK) [1,3,5,7,9,11,13,15,17,19,21,22,25] bP ?_;intro ei de;have iE:=hl.mv;have uA:=hz.mv;refine ah 3 ?_;refine aL iE ?_;intro _ P7 P8 oU;have jZ:=bk.Db oU;refine ah 1 ?_ [0];refine cn jZ ?_;intro v41 wM;have ako:=wM;obtain rfl:=bV.1 wM.mv;refine ah 2 ?_;refine aL iE ?_;intro _ Ij Ik iQ;have uu:=bk.Dc iQ;refine ah 1 ?_ [2];refine cn uu ?_;intro v46 oW;have akp:=oW;obtain rfl:=bV.1 oW.mv;refine dC Tryz.call124 (aee (a:=(l[k]'ay).A) (b:=(l[k]'ay).B) hF.mv hz.mv) ?_;rintro jJ w7 ⟨j,rfl,ej,hj⟩;refine⟨aW,?_⟩;refine ax 7 ?_ [3];refine a_ 49 rfl (λkK=>?_) (λkK=>?_)
  ·
   obtain⟨q,hq,rfl,IW⟩:=hj.resolve_left (λe=>by have:=e.1;omega);clear hj;by_cases hS: (ds[q]'hq).same=true
   ·
    by_cases hN:mH lo hh (l[k]'ay).wt=0
    ·
     refine aA 3 ?_ [1007];refine aL hz.mv ?_;intro _ DT DU ko;have sG:=bk.sw ko;refine ah 1 ?_ [6];refine dW sG ?_;intro v54 ue;obtain rfl:=jt.1 ue;rw[hS];refine ah 2 ?_;refine cL (λe=>e hN) ?_;refine bh 5 ?_ [1];rw[if_neg (by rw[Ag IW,hN,hS];simp),List.append_nil] at en;refine ax 10 ?_ [7];refine bC (bu (k+1,ct,aK) _ ⟨aD,hF.mv,hT.mv,hl.mv,hz.mv,hx.mv,(by simp only;rw[en];exact ho.mv)⟩ aD)
    refine aA 3 ?_ [1007];refine aL hz.mv ?_;intro _ DT DU ko;have sG:=bk.sw ko;refine ah 1 ?_ [6];refine dW sG ?_;intro v54 ue;obtain rfl:=jt.1 ue;rw[hS];refine ah 2 ?_;refine dT hN ?_;refine bh 5 ?_ [1];rw[if_pos (by rw[Ag IW,hS,decide_eq_true hN]<;>rfl)] at en;refine ax 3 ?_;refine bX [4] (aK) [1,3,5,7,9,11,13,15,17,19,21,23,25,27,29,31,33,35,37,39,40,42,45] bP ?_;intro fk eS;refine ah 3 ?_;refine aL hl.mv ?_;intro _ aeg aeh h63;have FZ:=bk.Db h63;refine ah 1 ?_ [0];refine cn FZ ?_;intro LJ Cc;obtain rfl:=bV.1 Cc;refine ah 2 ?_;refine aL hl.mv ?_;intro _ IX IY uq;have xw:=bk.Dc uq;refine ah 1 ?_ [2];refine cn xw ?_;intro v70 pz;obtain rfl:=bV.1 pz;refine ah 2 ?_;refine aL hl.mv ?_;intro _ aei aej QL;have Ar:=bk.HV QL;refine ah 1 ?_ [5];refine ew Ar ?_;intro v75 yK;first|(obtain rfl:=dJ.1 yK)|(obtain rfl:=cO.1 yK)
    refine ah 1 ?_ [1];refine di hx.mv.sz ?_;refine aP (λ_=>Nh rfl rfl Tryz.underlying3) ?_;refine aP (λ_=>eW (zs:=[.int .i64 0,.int .i64 0,.int .i64 0,.int .i64 0,.int .i64 0]) (ps:=[(0,2),(2,2),(4,1)]) (c4:=[(0,aV (l[k]'ay).A),(1,aV (l[k]'ay).B),(2,[.int .i64 (max (l[k]'ay).wt hh)])]) (cs:=jT (⟨(l[k]'ay).A,(l[k]'ay).B,max (l[k]'ay).wt hh⟩:aH)) ai ai (by exact⟨rfl,⟨_,rfl,rfl⟩,rfl,⟨_,rfl,rfl⟩,rfl,⟨_,rfl,rfl⟩,trivial⟩) rfl) ?_;refine c5 (ez (ys:=([⟨(l[k]'ay).A,(l[k]'ay).B,max (l[k]'ay).wt hh⟩]:List aH)) (e:=58) (bytes:=40) hF.mv ai rfl ak ak ⟨rfl,⟨_,rfl,jU.2 rfl⟩,trivial⟩) ?_;rintro v80 fJ ⟨fA,IZ,hF⟩;refine⟨aW,?_⟩;refine c5 (eO (e:=58) (bytes:=40) hF ak rfl rfl ai ak ho.mv IZ dH dH) ?_;rintro LV gn ⟨yG,fT,ho,hF⟩;refine⟨aW,?_⟩;refine ax 8 ?_ [7];refine bC (bu (k+1,LV,yG) _ ⟨aD,hF,hT.mv,hl.mv,hz.mv,hx.mv,(by simp only;rw[en];exact ho)⟩ aD)
   refine aA 3 ?_ [1007];refine aL hz.mv ?_;intro _ DT DU ko;have sG:=bk.sw ko;refine ah 1 ?_ [6];refine dW sG ?_;intro v54 ue;obtain rfl:=jt.1 ue;rw[(Bool.eq_false_iff.2 hS)];refine bh 8 ?_ [1];rw[if_neg (by rw[Ag IW,Bool.eq_false_iff.2 hS];simp),List.append_nil] at en;refine ax 10 ?_ [7];refine bC (bu (k+1,ct,aK) _ ⟨aD,hF.mv,hT.mv,hl.mv,hz.mv,hx.mv,(by simp only;rw[en];exact ho.mv)⟩ aD)
  have IW:=(hj.resolve_right (λ⟨q,hq,e,_⟩=>by omega)).2;clear hj;rw[<-Ls (lo:=lo) (hh:=hh) IW];refine aB 5 ?_ [1];refine f_ 59 rfl (λuw=>?_) (λuw=>?_)
  ·
   rw[if_pos uw] at en;refine bX [4] (aK) [1,3,5,7,9,11,13,15,17,19,21,23,25,27,29,31,33,35,37,39,40,42,45] bP ?_;intro iK gY;refine ah 3 ?_;refine aL hl.mv ?_;intro _ aeg aeh h63;have FZ:=bk.Db h63;refine ah 1 ?_ [0];refine cn FZ ?_;intro LJ Cc;obtain rfl:=bV.1 Cc;refine ah 2 ?_;refine aL hl.mv ?_;intro _ IX IY uq;have xw:=bk.Dc uq;refine ah 1 ?_ [2];refine cn xw ?_;intro v70 pz;obtain rfl:=bV.1 pz;refine ah 2 ?_;refine aL hl.mv ?_;intro _ aei aej QL;have Ar:=bk.HV QL;refine ah 1 ?_ [5];refine ew Ar ?_;intro v75 yK;first|(obtain rfl:=dJ.1 yK)|(obtain rfl:=cO.1 yK)
   refine ah 1 ?_ [1];refine di hx.mv.sz ?_;refine aP (λ_=>Nh rfl rfl Tryz.underlying3) ?_;refine aP (λ_=>eW (zs:=[.int .i64 0,.int .i64 0,.int .i64 0,.int .i64 0,.int .i64 0]) (ps:=[(0,2),(2,2),(4,1)]) (c4:=[(0,aV (l[k]'ay).A),(1,aV (l[k]'ay).B),(2,[.int .i64 (max (l[k]'ay).wt hh)])]) (cs:=jT (⟨(l[k]'ay).A,(l[k]'ay).B,max (l[k]'ay).wt hh⟩:aH)) ai ai (by exact⟨rfl,⟨_,rfl,rfl⟩,rfl,⟨_,rfl,rfl⟩,rfl,⟨_,rfl,rfl⟩,trivial⟩) rfl) ?_;refine c5 (ez (ys:=([⟨(l[k]'ay).A,(l[k]'ay).B,max (l[k]'ay).wt hh⟩]:List aH)) (e:=58) (bytes:=40) hF.mv ai rfl ak ak ⟨rfl,⟨_,rfl,jU.2 rfl⟩,trivial⟩) ?_;rintro v80 iV ⟨eY,IZ,hF⟩;refine⟨aW,?_⟩;refine c5 (eO (e:=58) (bytes:=40) hF ak rfl rfl ai ak ho.mv IZ dH dH) ?_;rintro LV ki ⟨zW,iW,ho,hF⟩;refine⟨aW,?_⟩;refine ax 8 ?_ [7];refine bC (bu (k+1,LV,zW) _ ⟨aD,hF,hT.mv,hl.mv,hz.mv,hx.mv,(by simp only;rw[en];exact ho)⟩ aD)
  rw[if_neg (by rw[uw];decide),List.append_nil] at en;refine aB 7 ?_ [7];refine bC (bu (k+1,ct,aK) _ ⟨aD,hF.mv,hT.mv,hl.mv,hz.mv,hx.mv,(by simp only;rw[en];exact ho.mv)⟩ aD)
 have ay:k=l.length:=by omega
 rw[ay,List.take_length] at ho qK;refine aB 7 ?_ [7];refine jo ai Tryz.func70 Tryz.results70 rfl rfl ?_;exact⟨_,by rw[hE],hT.o1,by rw[Xt hE];exact ho.out hT aO (er C) (λb _=>gI C ak b) af⟩
end
end Go.Proofs.YtmdhggfehknjjaaGreat
