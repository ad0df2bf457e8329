/- Steps through functions of the program. -/
import Derived.Test.YtmdhggfehknjjaaGreatJM5N8
import Derived.Test.YtmdhggfehknjjaaGreatL3
import Derived.Test.YtmdhggfehknjjaaGreatL2
import Derived.Test.YtmdhggfehknjjaaGreatJC6D4
set_option maxRecDepth 100000
set_option maxHeartbeats 4000000
namespace Go.Proofs.YtmdhggfehknjjaaGreat
open Go.K Go.K.bn
noncomputable section
theorem ad0 {w₀:World} {C:Nat->Nat} {x:dP} {id:Int} {u p q:Value} {b1:Nat} (hF:aF w₀ C) (hu:aq w₀ (aj C) x.rc.dy u) (hp:aq w₀ (aj C) x.hs p) (hq:aq w₀ (aj C) x.has q) (h1:w₀.heap[b1]?=some (.cells [.int .i64 id].toArray 3)):Calls Tryz.prog 211 #[.agg #[.int .i64 x.rc.id,.int .i64 x.rc.ver,u,p,q],.pointer (some ⟨b1,0,none⟩)] w₀ (aZ λv w'=>v=.bool (decide (x.rc.id=id))/\av [] w₀ C w' C):=by
 have aO:=hF;replace hF:=hF.aI;replace hu:=hu.c1;replace hp:=hp.c1;replace hq:=hq.c1;replace h1:=jj.of h1 C;refine bG Tryz.func211 ?_;refine aA 2 ?_ [2];refine aR (cu (cs:=[.int .i64 x.rc.id,.int .i64 x.rc.ver,u,p,q]) hF 3 rfl rfl) ?_;rintro _ w1 ⟨cm,bq,rfl,s_1,hx,hF⟩;refine bh 6 ?_ [51,0,0];refine aX hx.at_ ?_;refine aX h1.mv.at_ ?_;refine ax 3 ?_;refine bg Tryz.func211 ?_;exact⟨rfl,(z9 w₀ C).o1⟩
theorem ad1 {w₀:World} {C:Nat->Nat} {l:List (dP)} {aC:Value} {p:dP->Bool} {nf:Nat} {caps:Array Value} (gW:∀args w,(callFunc nf args).run Tryz.prog w=.ok (.enter nf args) w) (hp:∀w1,av [] w₀ C w1 C->∀x∈l,∀vx,aq w1 (aj C) x vx->Calls Tryz.prog nf ([vx]++caps.toList).toArray w1 (aZ λv w'=>v=.bool (p x)/\av [] w1 C w' C)) (hF:aF w₀ C) (hl:aq w₀ (aj C) l aC):Calls Tryz.prog 210 #[aC,.func (.func nf) #[] caps] w₀ (aZ λv w'=>v=.int .i64 (idxOf p l)/\av [] w₀ C w' C):=by
 refine bG Tryz.func210 ?_;refine aA 8 ?_ [1,7];refine dE hl.ln ?_;refine ax 3 ?_;refine cg (ι:=Nat) (λx w=>x<=l.length/\(∀i (hi:i<x) (hl:i<l.length),p l[i]=false)/\aF w C/\av [] w₀ C w C/\aq w (aj C) l aC) (λx=>[(0,aC),(1,.func (.func nf) #[] caps),(7,.int .i64 l.length),(8,.int .i64 x)]) (λx=>l.length-x) 0 ?_ ?_
 · exact⟨Nat.zero_le _,λi hi _=>by first|omega|(simp only at hi;omega),hF,(av.refl [] w₀ C),hl⟩
 intro k w1 hI bu;obtain⟨hk,h0,hF,hT,hl⟩:=hI;try simp only at hk h0 hF hT hl
 show Run _ _ _ _ [(0,aC),(1,.func (.func nf) #[] caps),(7,.int .i64 l.length),(8,.int .i64 k)] _ _;have hle:=hl.le;refine aB 5 ?_ [1];refine a_ 9 rfl (λfC=>?_) (λfC=>?_)
 ·
  have ay:k<l.length:=by omega
  refine aA 13 ?_ [3,15];refine aL hl ?_;intro _ qz qA eR;refine gJ eR ?_;intro r7 g15;refine nz ?_;refine Bb (fq 16 (.call {callee:=.value 11,args:=#[15],argTypes:=#[83]})) rfl rfl (rM gW rfl rfl) (hp _ hT (l[k]'ay) (List.getElem_mem ay) _ g15) ?_;rintro fP w2 ⟨rfl,s_1⟩;refine ck ?_;refine ax 1 ?_;refine f_ 16 rfl (λcZ=>?_) (λcZ=>?_)
  ·
   refine aB 5 ?_ [3];refine bg Tryz.func210 ?_;exact⟨by rw[x8 ay (λi hi=>h0 i hi af) cZ],hT.mv⟩
  refine aB 6 ?_ [3];replace hl:=hl.mv;refine bC (bu (k+1) _ ⟨aD,(λi hi hl=>by
    by_cases e:i=k
    ·subst e;exact cZ
    ·exact h0 i (by first|omega|(simp only at hi;omega)) hl),hF.mv,hT.mv,hl⟩ aD)
 have ay:k=l.length:=by omega
 refine aB 5 ?_ [1];refine bg Tryz.func210 ?_;exact⟨by rw[Bs (λi hi=>h0 i af hi)],hT⟩
theorem ad2 {w₀:World} {C:Nat->Nat} {id:Int} {l:List dP} {aC:Value} (hF:aF w₀ C) (hl:aq w₀ (aj C) l aC):Calls Tryz.prog 171 #[aC,.int .i64 id] w₀ (aZ λv w'=>v=.int .i64 (sB l id)/\av [] w₀ C w' C):=by
 have aO:=hF;replace hF:=hF.aI;replace hl:=hl.c1;refine bG Tryz.func171 ?_;refine aA 2 ?_ [2];refine aR (cu (cs:=[.int .i64 id]) hF 3 rfl rfl) ?_;rintro _ w1 ⟨cm,bq,rfl,s_1,hb,hF⟩;refine bh 5 ?_ [11];refine aP (λ_=>Bg rfl rfl) ?_;have dM:∀w1,av [] _ (cm) w1 (cm)->∀x∈l,∀vx,aq w1 (aj (cm)) x vx->Calls Tryz.prog 211 ([vx]++#[Value.pointer (some ⟨bq,0,none⟩)].toList).toArray w1 (aZ λv w'=>v=.bool (decide (x.rc.id=id))/\av [] w1 (cm) w' (cm)):=λw1 h1 x _ vx hx=>by
  obtain⟨u,p,q,rfl,hu,hp,hq⟩:=x7.1 hx;exact ad0 (hF.st h1) hu hp hq (h1.same hb.at_)
 refine bD Tryz.call210 (ad1 (p:=λx:dP=>decide (x.rc.id=id)) (nf:=211) (caps:=#[Value.pointer (some ⟨bq,0,none⟩)]) (λargs w=>Tryz.call211 args w) dM hF hl.mv) ?_;rintro fP w2 ⟨rfl,s_2⟩;refine ax 2 ?_;refine bg Tryz.func171 ?_;exact⟨rfl,(z9 w₀ C).o1⟩
theorem IP {w₀:World} {C:Nat->Nat} {sh:List (List dP)} {c:au} {ver:Int} {aC:Value} (hF:aF w₀ C) (hl:aq w₀ (aj C) sh aC):Calls Tryz.prog 108 #[aC,.agg #[.int .i64 c.a,.int .i64 c.b],.int .i64 ver] w₀ (aZ λv w'=>v=.bool (vi sh c ver)/\av [] w₀ C w' C):=by
 have aO:=hF;replace hF:=hF.aI;replace hl:=hl.c1;refine bG Tryz.func108 ?_;refine aA 2 ?_ [2];refine aR (cu (cs:=aV c) hF 3 rfl rfl) ?_;rintro _ w1 ⟨cm,bq,rfl,s_1,hx,hF⟩;refine ax 4 ?_;by_cases hA:c.a<0
 ·
  refine aA 2 ?_ [989,0];refine aX hx.at_ ?_;refine dT hA ?_;refine ax 13 ?_ [1];refine bg Tryz.func108 ?_;exact⟨by rw[Lr af],(z9 w₀ C).o1⟩
 by_cases hB: (sh.length:Int)<=c.a
 ·
  refine aA 2 ?_ [989,0];refine aX hx.at_ ?_;refine cL hA ?_;refine ah 2 ?_ [0];refine aX hx.at_ ?_;refine ah 1 ?_;refine dE hl.mv.ln ?_;refine aP (λ_=>i_ (lH rfl rfl) af) ?_;refine ax 7 ?_ [1];refine bg Tryz.func108 ?_;exact⟨by rw[Lr af],(z9 w₀ C).o1⟩
 refine aA 2 ?_ [989,0];refine aX hx.at_ ?_;refine cL hA ?_;refine ah 2 ?_ [0];refine aX hx.at_ ?_;refine ah 1 ?_;refine dE hl.mv.ln ?_;refine aP (λ_=>jR (lH rfl rfl) af) ?_;refine ax 5 ?_;refine bX [] (cm) [1,3,5,7,9,11,13,14,17] bP ?_;intro w2 s_2;have ha:c.a.toNat<sh.length:=by omega
 obtain⟨fi,xu⟩:∃fi,fi=sB (sh[c.a.toNat]'ha) c.b:=⟨_,rfl⟩
 have hfl:fi<(sh[c.a.toNat]'ha).length\/fi= -1:=by rw[xu];exact Xh
 refine ah 2 ?_ [0];refine di hx.mv.sz ?_;refine aL hl.mv ?_;intro _ FX B_ jl;refine ew jl ?_;intro v22 g22;refine ah 1 ?_ [1];refine di hx.mv.sz ?_;refine dC Tryz.call171 (ad2 (id:=c.b) hF.mv g22) ?_;rintro iu w3 ⟨rfl,cq⟩;rw[<-xu];refine⟨aW,?_⟩;refine ax 3 ?_;by_cases hN:fi<0
 ·
  refine aA 2 ?_ [126815];refine aP (λ_=>jR (lH rfl rfl) af) ?_;refine ax 16 ?_;refine bg Tryz.func108 ?_;subst xu;exact⟨by rw[Xl ha hN],(z9 w₀ C).o1⟩
 by_cases hV:∃h:fi.toNat<(sh[c.a.toNat]'ha).length,((sh[c.a.toNat]'ha)[fi.toNat]'h).rc.ver=ver
 ·
  refine aA 2 ?_ [126815];refine aP (λ_=>i_ (lH rfl rfl) af) ?_;refine ah 3 ?_ [0];refine aX hx.mv.at_ ?_;refine aL hl.mv ?_;intro _ Ca yO gA;refine dW gA ?_;intro v33 ny;refine ah 1 ?_;refine aL ny ?_;intro _ AB AE gj;have iD:=bk.src gj;refine ah 1 ?_ [0];have gK:=bk.KB iD;refine ah 1 ?_ [1];refine dW gK ?_;intro uZ jK;first|(obtain rfl:=dJ.1 jK)|(obtain rfl:=cO.1 jK)
  refine ah 1 ?_;refine dT (hV.elim λ_ e=>e) ?_;refine ax 3 ?_;refine bg Tryz.func108 ?_;subst xu;exact⟨by rw[Xn af ha hN hV],(z9 w₀ C).o1⟩
 refine aA 2 ?_ [126815];refine aP (λ_=>i_ (lH rfl rfl) af) ?_;refine ah 3 ?_ [0];refine aX hx.mv.at_ ?_;refine aL hl.mv ?_;intro _ Ca yO gA;refine dW gA ?_;intro v33 ny;refine ah 1 ?_;refine aL ny ?_;intro _ AB AE gj;have iD:=bk.src gj;refine ah 1 ?_ [0];have gK:=bk.KB iD;refine ah 1 ?_ [1];refine dW gK ?_;intro uZ jK;first|(obtain rfl:=dJ.1 jK)|(obtain rfl:=cO.1 jK)
 refine ah 1 ?_;refine cL (λe=>hV ⟨_,e⟩) ?_;refine ax 3 ?_;refine bg Tryz.func108 ?_;subst xu;exact⟨by rw[Xm ha hV],(z9 w₀ C).o1⟩
theorem ad3 {w₀:World} {C:Nat->Nat} {sh:List (List dP)} {ds:List bp} {aC bW:Value} (hF:aF w₀ C) (hl:aq w₀ (aj C) sh aC) (hz:aq w₀ (aj C) ds bW) (ad4:ds.length<=4096):Calls Tryz.prog 64 #[aC,bW] w₀ (aZ λv w'=>av [] w₀ C w' C/\aq w' (aj C) (iC sh ds) v):=by
 have aO:=hF;replace hF:=hF.aI;replace hl:=hl.c1;replace hz:=hz.c1;refine bG Tryz.func64 ?_;refine aA 12 ?_ [1,1,7];refine dE hz.ln ?_;refine ax 3 ?_;refine cg (ι:=Nat×Value×(Nat->Nat)) (λx w=>x.1<=ds.length/\aF w x.2.2/\av [2,3,4,5,6,7,8,9] w₀ (aI C) w x.2.2/\aq w (aj x.2.2) sh aC/\aq w (aj x.2.2) ds bW/\aQ w x.2.2 4 89 x.2.1 (iC sh (ds.take x.1))) (λx=>[(0,aC),(5,x.2.1),(8,bW),(9,.int .i64 ds.length),(10,.int .i64 x.1)]) (λx=>ds.length-x.1) (0,.slice none 0 0,aI C) ?_ ?_
 · exact⟨Nat.zero_le _,hF,(z9 w₀ C),hl,hz,aQ.nil⟩
 intro⟨k,ct,aK⟩ w1 hI bu;obtain⟨hk,hF,hT,hl,hz,ho⟩:=hI;try simp only at hk hF hT hl hz ho
 show Run _ _ _ _ [(0,aC),(5,ct),(8,bW),(9,.int .i64 ds.length),(10,.int .i64 k)] _ _;have hle:=hz.le;have hsl:=Xo (sh:=sh) (ds:=ds.take k);rw[List.length_take] at hsl;refine aB 5 ?_ [1];refine a_ 11 rfl (λjB=>?_) (λjB=>?_)
 ·
  have ay:k<ds.length:=by omega
  have en:=Xp (sh:=sh) ay;refine aA 5 ?_ [1];refine aL hz ?_;intro _ QI QJ h12;refine gJ h12 ?_;intro D5 g13;obtain rfl:=rZ.1 g13;refine aR (dn (cs:=[.int .i64 0,.int .i64 0,.int .i64 0,.int .i64 0,.int .i64 0,.int .i64 0,.bool false]) hF 5 ai) ?_;rintro _ w2 ⟨cw,cM,rfl,s_1,bI,hF⟩;refine bM (cC (vs:=mI ((ds[k]'ay))) (n:=7) rfl rfl ai rfl rfl (fE rfl) bI rfl) ?_;rintro _ w3 ⟨rfl,s_2,bI⟩;refine ax 2 ?_;refine iL 27 (wW sh (ds[k]'ay)) (cw) ?_ ?_
  ·
   intro bU;by_cases hA:vi sh (ds[k]'ay).A (ds[k]'ay).bz=true
   ·
    by_cases hB:vi sh (ds[k]'ay).B (ds[k]'ay).bH=true
    ·
     refine aA 3 ?_ [9675,0];refine bF 2 (aV (ds[k]'ay).A) bI.at_ ?_;refine ah 1 ?_ [4];refine aX bI.at_ ?_;refine bD Tryz.call108 (IP (c:=(ds[k]'ay).A) (ver:=(ds[k]'ay).bz) hF.mv hl.mv) ?_;rintro fS w4 ⟨rfl,cq⟩;rw[hA];refine ah 3 ?_ [2];refine bF 2 (aV (ds[k]'ay).B) bI.mv.at_ ?_;refine ah 1 ?_ [5];refine aX bI.mv.at_ ?_;refine bD Tryz.call108 (IP (c:=(ds[k]'ay).B) (ver:=(ds[k]'ay).bH) hF.mv hl.mv) ?_;rintro kf dc ⟨rfl,cI⟩;rw[hB];refine ah 1 ?_;exact bQ.nil (bU _ _ _ (av.refl [] _ _).mv rfl (by unfold wW;rw[hA,hB];rfl) (cB 14))
    refine aA 3 ?_ [9675,0];refine bF 2 (aV (ds[k]'ay).A) bI.at_ ?_;refine ah 1 ?_ [4];refine aX bI.at_ ?_;refine bD Tryz.call108 (IP (c:=(ds[k]'ay).A) (ver:=(ds[k]'ay).bz) hF.mv hl.mv) ?_;rintro lz ei ⟨rfl,de⟩;rw[hA];refine ah 3 ?_ [2];refine bF 2 (aV (ds[k]'ay).B) bI.mv.at_ ?_;refine ah 1 ?_ [5];refine aX bI.mv.at_ ?_;refine bD Tryz.call108 (IP (c:=(ds[k]'ay).B) (ver:=(ds[k]'ay).bH) hF.mv hl.mv) ?_;rintro jJ w7 ⟨rfl,ej⟩;rw[Bool.eq_false_iff.2 hB];refine ah 1 ?_;exact bQ.nil (bU _ _ _ (av.refl [] _ _).mv rfl (by unfold wW;rw[hA,Bool.eq_false_iff.2 hB];rfl) (cB 14))
   refine aA 3 ?_ [9675,0];refine bF 2 (aV (ds[k]'ay).A) bI.at_ ?_;refine ah 1 ?_ [4];refine aX bI.at_ ?_;refine bD Tryz.call108 (IP (c:=(ds[k]'ay).A) (ver:=(ds[k]'ay).bz) hF.mv hl.mv) ?_;rintro qB fk ⟨rfl,eS⟩;rw[Bool.eq_false_iff.2 hA];refine ah 8 ?_;exact bQ.nil (bU _ _ _ (av.refl [] _ _).mv rfl (by unfold wW;rw[Bool.eq_false_iff.2 hA];rfl) (cB 14))
  intro fJ fA;refine f_ 27 rfl (λgM=>?_) (λgM=>?_)
  ·
   rw[if_pos gM] at en;refine aA 2 ?_ [17];refine bF 7 (mI (ds[k]'ay)) bI.mv.at_ ?_;refine aR (ez (ys:=([(ds[k]'ay)]:List bp)) (e:=89) (bytes:=56) hF.mv ai rfl ak ak ⟨rfl,⟨_,rfl,rZ.2 rfl⟩,trivial⟩) ?_;rintro v30 gn ⟨fT,fK,hF⟩;refine aR (eO (e:=89) (bytes:=56) hF ak rfl rfl ai ak ho.mv fK dH dH) ?_;rintro v31 iK ⟨uz,gY,ho,hF⟩;refine ax 7 ?_ [3];refine bC (bu (k+1,v31,uz) _ ⟨aD,hF,hT.mv,hl.mv,hz.mv,(by simp only;rw[en];exact ho)⟩ aD)
  rw[if_neg (by rw[gM];decide),List.append_nil] at en;refine aB 6 ?_ [3];refine bC (bu (k+1,ct,cw) _ ⟨aD,hF.mv,hT.mv,hl.mv,hz.mv,(by simp only;rw[en];exact ho.mv)⟩ aD)
 have ay:k=ds.length:=by omega
 rw[ay,List.take_length] at ho hsl;refine aB 6 ?_ [3];refine bg Tryz.func64 ?_;exact⟨hT.o1,ho.out hT aO (er C) (λb _=>gI C ak b) af⟩
theorem YR {w₀:World} {C:Nat->Nat} {lo hh:Int} (hF:aF w₀ C):Calls Tryz.prog 62 #[.agg #[.int .i64 lo,.int .i64 hh]] w₀ (aZ λv w'=>v=.int .i64 (oq lo hh)/\av [] w₀ C w' C):=by
 have aO:=hF;replace hF:=hF.aI;refine bG Tryz.func62 ?_;refine aA 2 ?_ [2];refine aR (cu (cs:=[.int .i64 lo,.int .i64 hh]) hF 3 rfl rfl) ?_;rintro _ w1 ⟨cm,bq,rfl,s_1,hx,hF⟩;refine ax 4 ?_;refine iL 22 (decide (oK lo hh)) (cm) ?_ ?_
 ·
  intro bU;by_cases hA:hh<1
  ·
   refine aA 2 ?_ [883677,1];refine aX hx.at_ ?_;refine dT hA ?_;refine ah 17 ?_;exact bQ.nil (bU _ _ _ (av.refl _ _ _) rfl (by rw[decide_eq_true (show oK lo hh from by unfold oK;omega)]) (cB 20))
  by_cases hB:65536<hh
  ·
   refine aA 2 ?_ [883677,1];refine aX hx.at_ ?_;refine cL hA ?_;refine ah 2 ?_ [1];refine aX hx.at_ ?_;refine dT hB ?_;refine ah 13 ?_;exact bQ.nil (bU _ _ _ (av.refl _ _ _) rfl (by rw[decide_eq_true (show oK lo hh from by unfold oK;omega)]) (cB 20))
  by_cases hC:lo< -65536
  ·
   refine aA 2 ?_ [883677,1];refine aX hx.at_ ?_;refine cL hA ?_;refine ah 2 ?_ [1];refine aX hx.at_ ?_;refine cL hB ?_;refine ah 3 ?_ [0];refine aX hx.at_ ?_;refine dT hC ?_;refine ah 8 ?_;exact bQ.nil (bU _ _ _ (av.refl _ _ _) rfl (by rw[decide_eq_true (show oK lo hh from by unfold oK;omega)]) (cB 20))
  refine aA 2 ?_ [883677,1];refine aX hx.at_ ?_;refine cL hA ?_;refine ah 2 ?_ [1];refine aX hx.at_ ?_;refine cL hB ?_;refine ah 3 ?_ [0];refine aX hx.at_ ?_;refine cL hC ?_;refine ah 3 ?_ [0];refine aX hx.at_ ?_;refine ah 1 ?_ [1];refine aX hx.at_ ?_;refine ah 2 ?_;exact bQ.nil (bU _ _ _ (av.refl _ _ _) rfl (by congr 1;apply decide_eq_decide.2;unfold oK;omega) (cB 20))
 intro w2 s_2;refine a_ 22 rfl (λeZ=>?_) (λeZ=>?_)
 ·
  refine aB 4 ?_ [1];refine bg Tryz.func62 ?_;exact⟨by unfold oq;rw[if_pos eZ],(z9 w₀ C).o1⟩
 refine aB 5 ?_ [1];refine bg Tryz.func62 ?_;exact⟨by unfold oq;rw[if_neg eZ],(z9 w₀ C).o1⟩
theorem ad5 {w₀:World} {C:Nat->Nat} {lo hh s:Int} (hF:aF w₀ C):Calls Tryz.prog 111 #[.agg #[.int .i64 lo,.int .i64 hh],.int .i64 s] w₀ (aZ λv w'=>v=.int .i64 (mH lo hh s)/\av [] w₀ C w' C):=by
 have aO:=hF;replace hF:=hF.aI;refine bG Tryz.func111 ?_;refine aA 2 ?_ [2];refine aR (cu (cs:=[.int .i64 lo,.int .i64 hh]) hF 3 rfl rfl) ?_;rintro _ w1 ⟨cm,bq,rfl,s_1,hx,hF⟩;refine bh 8 ?_ [27,1];refine aX hx.at_ ?_;refine ax 3 ?_;refine a_ 5 rfl (λh5=>?_) (λh5=>?_)
 ·
  refine aB 4 ?_ [1];refine bg Tryz.func111 ?_;exact⟨by unfold mH;rw[if_pos h5],(z9 w₀ C).o1⟩
 refine aA 4 ?_ [27,0];refine aX hx.at_ ?_;refine ax 3 ?_;refine a_ 10 rfl (λgq=>?_) (λgq=>?_)
 ·
  refine aB 4 ?_ [1];refine bg Tryz.func111 ?_;exact⟨by unfold mH;rw[if_neg h5,if_pos gq],(z9 w₀ C).o1⟩
 refine aB 6 ?_ [1];refine bg Tryz.func111 ?_;exact⟨by unfold mH;rw[if_neg h5,if_neg gq],(z9 w₀ C).o1⟩
theorem ad6 {w₀:World} {C:Nat->Nat} {l:List iN} {aC:Value} (hF:aF w₀ C) (hl:aq w₀ (aj C) l aC) (hm:l.length<=4096) (hO:∀c∈l,iB c.A c.B=true/\-1048576<=c.wt/\c.wt<=1048576) (kS:l.Pairwise wI):Calls Tryz.prog 172 #[aC] w₀ (aZ λv w'=>v=.int .i64 0/\av [] w₀ C w' C):=by
 have aO:=hF;replace hF:=hF.aI;replace hl:=hl.c1;refine bG Tryz.func172 ?_;refine aA 8 ?_ [1,7];refine dE hl.ln ?_;refine aP (λ_=>dR (jr rfl rfl) af) ?_;refine bh 7 ?_ [7];refine dE hl.ln ?_;refine ax 3 ?_;refine cg (ι:=Nat×(Nat->Nat)) (λx w=>x.1<=l.length/\aF w x.2/\av [2,3,4,5,6,7,8,9] w₀ (aI C) w x.2/\aq w (aj x.2) l aC) (λx=>[(0,aC),(8,aC),(9,.int .i64 l.length),(10,.int .i64 x.1)]) (λx=>l.length-x.1) (0,aI C) ?_ ?_
 · exact⟨Nat.zero_le _,hF,(z9 w₀ C),hl⟩
 intro⟨i,aK⟩ w1 hI bu;obtain⟨hi,hF,hT,hl⟩:=hI;try simp only at hi hF hT hl
 show Run _ _ _ _ [(0,aC),(8,aC),(9,.int .i64 l.length),(10,.int .i64 i)] _ _;have hle:=hl.le;refine aB 5 ?_ [1];refine a_ 11 rfl (λjB=>?_) (λjB=>?_)
 ·
  have hil:i<l.length:=by omega
  have hok:=hO _ (List.getElem_mem hil);refine aA 6 ?_ [19];refine aL hl ?_;intro _ Ds zZ jc;refine gJ jc ?_;intro z6 g14;obtain rfl:=KC.1 g14;clear g14;refine aR (dn (cs:=[.int .i64 0,.int .i64 0,.int .i64 0,.int .i64 0,.int .i64 0,.int .i64 0]) hF 4 ai) ?_;rintro _ w2 ⟨cw,cM,rfl,s_1,bI,hF⟩;refine ah 1 ?_;refine bM (cC (vs:=Br (l[i]'hil)) (n:=6) rfl rfl ai rfl rfl (fE rfl) bI rfl) ?_;rintro _ w3 ⟨rfl,s_2,bI⟩;refine bh 5 ?_ [101,0];refine bF 2 (aV (l[i]'hil).A) bI.at_ ?_;refine ah 1 ?_ [2];refine bF 2 (aV (l[i]'hil).B) bI.at_ ?_;refine bD Tryz.call105 (Qq (x:=(l[i]'hil).A) (y:=(l[i]'hil).B) hF.mv) ?_;rintro fS w4 ⟨rfl,cq⟩;rw[hok.1];refine bh 7 ?_ [477,5];refine aX bI.mv.at_ ?_;refine aP (λ_=>dR (jq rfl rfl) af) ?_;refine ah 2 ?_ [5];refine aX bI.mv.at_ ?_;refine aP (λ_=>dR (jr rfl rfl) af) ?_;refine ax 5 ?_;by_cases hA: (0:Int)<i
  ·
   refine bX [] (cw) [1,3,5,7,9,11,13,15,17,19,21,23,25,27,29,31,33,35,37,38,41,43,45] bP ?_;intro dc cI;refine ah 1 ?_;refine dT hA ?_;refine ah 4 ?_;refine aL hl.mv ?_;intro _ E6 E7 jY;have oU:=bk.Db jY;refine ah 1 ?_ [0];refine cn oU ?_;intro v40 qf;have nV: ((i:Int)-1).toNat=i-1:=by omega
   simp only[nV] at qf;obtain rfl:=bV.1 qf;refine ah 3 ?_;refine aL hl.mv ?_;intro _ Ij Ik iQ;have uu:=bk.Dc iQ;refine ah 1 ?_ [2];refine cn uu ?_;intro v46 oW;simp only[nV] at oW;obtain rfl:=bV.1 oW;refine ah 1 ?_ [0];refine c7 2 (aV (l[i]'hil).A) bI.mv.sz ?_;refine ah 1 ?_ [2];refine c7 2 (aV (l[i]'hil).B) bI.mv.sz ?_;refine gl Tryz.call143 rfl (Qr (a:=(l[i-1]'af).A) (b:=(l[i-1]'af).B) (c:=(l[i]'hil).A) (d:=(l[i]'hil).B) hF.mv) ?_;rintro lz ei ⟨rfl,de⟩;have hlt:=Vo (List.pairwise_iff_getElem.1 kS (i-1) i af hil af);refine⟨aW,?_⟩;refine aP (λ_=>dR (lH rfl rfl) af) ?_;refine ax 11 ?_ [3];refine bC (bu (i+1,cw) _ ⟨aD,hF.mv,hT.mv,hl.mv⟩ aD)
  refine bX [] (cw) [1,3,5,7,9,11,13,15,17,19,21,23,25,27,29,31,33,35,37,38,41,43,45] bP ?_;intro w7 ej;refine ah 1 ?_;refine cL hA ?_;refine ah 17 ?_;refine nz ?_;refine mb (k8 51 (mV 143 #[40,46,48,50] #[55,55,55,55]) 2 true) rfl rfl aW ?_;refine ck ?_;refine ax 12 ?_ [3];refine bC (bu (i+1,cw) _ ⟨aD,hF.mv,hT.mv,hl.mv⟩ aD)
 have hil:i=l.length:=by omega
 refine aB 5 ?_ [1];refine bg Tryz.func172 ?_;exact⟨rfl,hT.o1⟩
theorem ad7 {w₀:World} {C:Nat->Nat} {lo hh:Int} {l:List iN} {ds:List bp} {aC bW:Value} (hF:aF w₀ C) (hl:aq w₀ (aj C) l aC) (hm:l.length<=4096) (hO:∀c∈l,iB c.A c.B=true/\-1048576<=c.wt/\c.wt<=1048576) (kS:l.Pairwise wI) (hz:aq w₀ (aj C) ds bW):Calls Tryz.prog 109 #[.agg #[.int .i64 lo,.int .i64 hh],aC,bW] w₀ (aZ λv w'=>v=.int .i64 (p_ lo hh ds)/\av [] w₀ C w' C):=by
 have aO:=hF;replace hF:=hF.aI;replace hl:=hl.c1;replace hz:=hz.c1;refine bG Tryz.func109 ?_;refine aA 2 ?_ [2];refine aR (cu (cs:=[.int .i64 lo,.int .i64 hh]) hF 3 rfl rfl) ?_;rintro _ w1 ⟨cm,bq,rfl,s_1,hx,hF⟩;refine bh 5 ?_ [4];refine bF 2 ([.int .i64 lo,.int .i64 hh]) hx.at_ ?_;refine bD Tryz.call62 (YR hF) ?_;rintro fP w2 ⟨rfl,s_2⟩;refine ax 7 ?_ [3];refine a_ 12 rfl (λh12=>?_) (λh12=>?_)
 ·
  have hE:=Xu (ds:=ds) h12;refine aB 5 ?_ [3];refine bg Tryz.func109 ?_;exact⟨by rw[hE],(z9 w₀ C).o1⟩
 have hE:=Xv (ds:=ds) (Classical.not_not.1 h12);refine aA 5 ?_ [5];refine bD Tryz.call172 (ad6 hF.mv hl.mv hm hO kS) ?_;rintro iu w3 ⟨rfl,cq⟩;refine bh 5 ?_ [3];refine aP (λ_=>dR (jQ rfl rfl) ak) ?_;refine bh 6 ?_ [5];refine bD Tryz.call63 (IL hF.mv hz.mv) ?_;rintro fS w4 ⟨rfl,cI⟩;refine ax 2 ?_;refine bg Tryz.func109 ?_;exact⟨by rw[hE],(z9 w₀ C).o1⟩
theorem ad8 {w₀:World} {C:Nat->Nat} {ds:List bp} {bW:Value} (hF:aF w₀ C) (hz:aq w₀ (aj C) ds bW):Calls Tryz.prog 110 #[bW] w₀ (aZ λv w'=>∃m,av [] w₀ C w' C/\pM w' (aj C) tN (λb:Bool=>Value.bool b) m v/\∀a b,eM m (a,b)=lB ds a b):=by
 have aO:=hF;replace hF:=hF.aI;replace hz:=hz.c1;refine bG Tryz.func110 ?_;refine aA 6 ?_ [1,2];refine aR (CQ hF 5 tN (λb:Bool=>Value.bool b)) ?_;rintro _ FN ⟨vO,bm,rfl,s_1,hm,hF⟩;refine bh 6 ?_ [7];refine dE hz.mv.ln ?_;refine ax 3 ?_;refine cg (ι:=Nat×(List ((au×au)×Bool))×(Nat->Nat)) (λx w=>x.1<=ds.length/\(∀a b,eM x.2.1 (a,b)=lB (ds.take x.1) a b)/\aF w x.2.2/\av [2,3,4,5,6,7,8,9] w₀ (aI C) w x.2.2/\aq w (aj x.2.2) ds bW/\fH w x.2.2 5 bm tN (λb:Bool=>Value.bool b) x.2.1) (λx=>[(3,.map (some bm)),(10,bW),(11,.int .i64 ds.length),(12,.int .i64 x.1)]) (λx=>ds.length-x.1) (0,[],vO) ?_ ?_
 · exact⟨Nat.zero_le _,λa b=>by simp[eM,lB],hF,(z9 w₀ C).mv,hz.mv,hm⟩
 intro⟨k,m,aK⟩ w1 hI bu;obtain⟨hk,hap,hF,hT,hz,hm⟩:=hI;try simp only at hk hap hF hT hz hm
 show Run _ _ _ _ [(3,.map (some bm)),(10,bW),(11,.int .i64 ds.length),(12,.int .i64 k)] _ _;have hle:=hz.le;refine aB 5 ?_ [1];refine a_ 13 rfl (λjc=>?_) (λjc=>?_)
 ·
  have ay:k<ds.length:=by omega
  have en:=abq ay;refine aA 5 ?_ [1];refine aL hz ?_;intro _ qz qA eR;refine gJ eR ?_;intro r7 g15;obtain rfl:=rZ.1 g15;refine aR (dn (cs:=[.int .i64 0,.int .i64 0,.int .i64 0,.int .i64 0,.int .i64 0,.int .i64 0,.bool false]) hF 3 ai) ?_;rintro _ w2 ⟨cw,cM,rfl,s_2,bI,hF⟩;refine bM (cC (vs:=mI ((ds[k]'ay))) (n:=7) rfl rfl ai rfl rfl (fE rfl) bI rfl) ?_;rintro _ w3 ⟨rfl,cq,bI⟩;refine bh 4 ?_ [21,0];refine bF 2 (aV (ds[k]'ay).A) bI.at_ ?_;refine ah 1 ?_ [2];refine bF 2 (aV (ds[k]'ay).B) bI.at_ ?_;refine aP (λ_=>eW (zs:=[.int .i64 0,.int .i64 0,.int .i64 0,.int .i64 0]) (ps:=[(0,2),(2,2)]) (c4:=[(0,aV ((ds[k]'ay).A)),(1,aV ((ds[k]'ay).B))]) (cs:=[.int .i64 ((ds[k]'ay).A).a,.int .i64 ((ds[k]'ay).A).b,.int .i64 ((ds[k]'ay).B).a,.int .i64 ((ds[k]'ay).B).b]) ai ai (by exact⟨rfl,⟨_,rfl,rfl⟩,rfl,⟨_,rfl,rfl⟩,trivial⟩) rfl) ?_;refine aR (dn (cs:=[.int .i64 0,.int .i64 0,.int .i64 0,.int .i64 0]) hF.mv 4 ai) ?_;rintro _ w4 ⟨fW,nT,rfl,cI,LS,hF⟩;refine bM (cC (vs:=[.int .i64 (ds[k]'ay).A.a,.int .i64 (ds[k]'ay).A.b,.int .i64 (ds[k]'ay).B.a,.int .i64 (ds[k]'ay).B.b]) (n:=4) rfl rfl ai rfl rfl (fE rfl) LS rfl) ?_;rintro _ dc ⟨rfl,de,LS⟩;refine bh 4 ?_ [249];refine bF 4 ([.int .i64 (ds[k]'ay).A.a,.int .i64 (ds[k]'ay).A.b,.int .i64 (ds[k]'ay).B.a,.int .i64 (ds[k]'ay).B.b]) LS.at_ ?_;refine nF (fN (hm.mv.GB (z0:=false) (k:=((ds[k]'ay).A,(ds[k]'ay).B)) Tryz.underlying161 (zU Tryz.underlying165 ak ak ai Tryz.underlying55 ak ak ai Tryz.underlying3 ai ai) Tryz.zeroValue4 rfl rfl) (show _=Value.tuple #[.bool ((lB (ds.take k) (ds[k]'ay).A (ds[k]'ay).B).getD false),.bool (lB (ds.take k) (ds[k]'ay).A (ds[k]'ay).B).isSome] from by rw[hap])) ?_;refine ax 11 ?_ [3];refine f_ 28 rfl (λgG=>?_) (λgG=>?_)
  ·
   have uR:lB (ds.take k) (ds[k]'ay).A (ds[k]'ay).B=none:=by simpa using gG
   refine aA 2 ?_ [5];refine bF 4 ([.int .i64 (ds[k]'ay).A.a,.int .i64 (ds[k]'ay).A.b,.int .i64 (ds[k]'ay).B.a,.int .i64 (ds[k]'ay).B.b]) LS.at_ ?_;refine ah 1 ?_ [6];refine aX bI.mv.at_ ?_;refine bM (xK (k:=((ds[k]'ay).A,(ds[k]'ay).B)) (u:=(ds[k]'ay).same) hm.mv Tryz.underlying161 (zU Tryz.underlying165 ak ak ai Tryz.underlying55 ak ak ai Tryz.underlying3 ai ai) rfl rfl rfl) ?_;rintro _ ei ⟨rfl,ej,hm⟩;refine ax 6 ?_ [3];refine bC (bu (k+1,ig m ((ds[k]'ay).A,(ds[k]'ay).B) (ds[k]'ay).same,fW) _ ⟨aD,(λa b=>by
    simp only;rw[n_,en,hap a b];by_cases e: ((ds[k]'ay).A,(ds[k]'ay).B)=(a,b)
    ·rw[if_pos e,if_pos e];injection e with e1 e2;rw[<-e1,<-e2,uR];rfl
    ·rw[if_neg e,if_neg e];cases lB (ds.take k) a b<;>rfl),hF.mv,hT.mv,hz.mv,hm⟩ aD)
  have uR:¬lB (ds.take k) (ds[k]'ay).A (ds[k]'ay).B=none:=λe=>by rw[e] at gG;simp at gG
  refine aB 6 ?_ [3];refine bC (bu (k+1,m,fW) _ ⟨aD,(λa b=>by
    simp only;rw[en,hap a b];by_cases e: ((ds[k]'ay).A,(ds[k]'ay).B)=(a,b)
    ·injection e with e1 e2;rw[<-e1,<-e2];cases he:lB (ds.take k) (ds[k]'ay).A (ds[k]'ay).B with
     |none=>exact absurd he uR
     |some b=>rfl
    ·rw[if_neg e];cases lB (ds.take k) a b<;>rfl),hF.mv,hT.mv,hz.mv,hm.mv⟩ aD)
 have ay:k=ds.length:=by omega
 rw[ay,List.take_length] at hap;refine aB 6 ?_ [3];refine bg Tryz.func110 ?_;exact⟨m,hT.o1,hm.out hT aO (er C) (λb _=>gI C ak b),hap⟩
theorem ad9 {w₀:World} {C:Nat->Nat} {lo hh:Int} {l:List iN} {ds:List bp} {aC bW:Value} (hF:aF w₀ C) (hl:aq w₀ (aj C) l aC) (hm:l.length<=4096) (hO:∀c∈l,iB c.A c.B=true/\-1048576<=c.wt/\c.wt<=1048576) (kS:l.Pairwise wI) (hz:aq w₀ (aj C) ds bW):Calls Tryz.prog 65 #[.agg #[.int .i64 lo,.int .i64 hh],aC,bW] w₀ (aZ λv w'=>∃u,v=.tuple #[u,.int .i64 (p_ lo hh ds)]/\av [] w₀ C w' C/\aq w' (aj C) (qd lo hh ds l) u):=by
 have aO:=hF;replace hF:=hF.aI;replace hl:=hl.c1;replace hz:=hz.c1;refine bG Tryz.func65 ?_;refine aA 2 ?_ [6];refine aR (cu (cs:=[.int .i64 lo,.int .i64 hh]) hF 3 rfl rfl) ?_;rintro _ w1 ⟨cm,bq,rfl,s_1,hx,hF⟩;refine bh 6 ?_ [22];refine bF 2 ([.int .i64 lo,.int .i64 hh]) hx.at_ ?_;refine ah 2 ?_;refine bD Tryz.call109 (ad7 hF hl.mv hm hO kS hz.mv) ?_;rintro fP w2 ⟨rfl,s_2⟩;refine ax 7 ?_ [3];refine a_ 21 rfl (λjl=>?_) (λjl=>?_)
 ·
  refine aB 6 ?_ [7];refine jo ai Tryz.func65 Tryz.results65 rfl rfl ?_;exact⟨_,rfl,(z9 w₀ C).o1,by rw[Xs jl];exact eT⟩
 have hE:p_ lo hh ds=0:=Classical.not_not.1 jl;refine aA 4 ?_ [5];refine bD Tryz.call110 (ad8 hF.mv hz.mv) ?_;rintro v24 w3 ⟨m,cq,hmp,hap⟩;refine bh 10 ?_ [1,7];refine dE hl.mv.ln ?_;refine ax 3 ?_;refine cg (ι:=Nat×Value×(Nat->Nat)) (λx w=>x.1<=l.length/\aF w x.2.2/\av [2,3,4,5,6,7,8,9] w₀ (aI C) w x.2.2/\aq w (aj x.2.2) l aC/\pM w (aj x.2.2) tN (λb:Bool=>Value.bool b) m v24/\bS w x.2.2 3 bq (.cells [.int .i64 lo,.int .i64 hh].toArray 63)/\aQ w x.2.2 4 58 x.2.1 (Ah lo hh ds (l.take x.1))) (λx=>[(3,.pointer (some ⟨bq,0,none⟩)),(9,v24),(10,x.2.1),(25,aC),(26,.int .i64 l.length),(27,.int .i64 x.1)]) (λx=>l.length-x.1) (0,.slice none 0 0,cm) ?_ ?_
 · exact⟨Nat.zero_le _,hF.mv,(z9 w₀ C).mv,hl.mv,hmp,hx.mv,aQ.nil⟩
 intro⟨k,ct,aK⟩ w4 hI bu;obtain⟨hk,hF,hT,hl,hmp,hx,ho⟩:=hI;try simp only at hk hF hT hl hmp hx ho
 show Run _ _ _ _ [(3,.pointer (some ⟨bq,0,none⟩)),(9,v24),(10,ct),(25,aC),(26,.int .i64 l.length),(27,.int .i64 k)] _ _;have hle:=hl.le;have qK:=Xq (lo:=lo) (hh:=hh) (ds:=ds) (l:=l.take k);rw[List.length_take] at qK;refine aB 5 ?_ [1];refine a_ 28 rfl (λgG=>?_) (λgG=>?_)
 ·
  have ay:k<l.length:=by omega
  have en:=Xr (lo:=lo) (hh:=hh) (ds:=ds) ay;refine aA 5 ?_ [1];refine aL hl ?_;intro _ vG vH gE;refine gJ gE ?_;intro v30 fK;obtain rfl:=KC.1 fK;clear fK;refine aR (dn (cs:=[.int .i64 0,.int .i64 0,.int .i64 0,.int .i64 0,.int .i64 0,.int .i64 0]) hF 5 ai) ?_;rintro _ dc ⟨qG,lC,rfl,cI,bI,hF⟩;refine bM (cC (vs:=Br (l[k]'ay)) (n:=6) rfl rfl ai rfl rfl (fE rfl) bI rfl) ?_;rintro _ ei ⟨rfl,de,bI⟩;refine bh 5 ?_ [4011,0];refine bF 2 (aV (l[k]'ay).A) bI.at_ ?_;refine ah 1 ?_ [2];refine bF 2 (aV (l[k]'ay).B) bI.at_ ?_;refine aP (λ_=>eW (zs:=[.int .i64 0,.int .i64 0,.int .i64 0,.int .i64 0]) (ps:=[(0,2),(2,2)]) (c4:=[(0,aV ((l[k]'ay).A)),(1,aV ((l[k]'ay).B))]) (cs:=[.int .i64 ((l[k]'ay).A).a,.int .i64 ((l[k]'ay).A).b,.int .i64 ((l[k]'ay).B).a,.int .i64 ((l[k]'ay).B).b]) ai ai (by exact⟨rfl,⟨_,rfl,rfl⟩,rfl,⟨_,rfl,rfl⟩,trivial⟩) rfl) ?_;refine nF (fN (hmp.mv.GB (z0:=false) (k:=((l[k]'ay).A,(l[k]'ay).B)) Tryz.underlying161 (zU Tryz.underlying165 ak ak ai Tryz.underlying55 ak ak ai Tryz.underlying3 ai ai) Tryz.zeroValue4 rfl rfl) (show _=Value.tuple #[.bool ((lB ds (l[k]'ay).A (l[k]'ay).B).getD false),.bool (lB ds (l[k]'ay).A (l[k]'ay).B).isSome] from by rw[hap])) ?_;refine bh 8 ?_ [18];refine bF 2 ([.int .i64 lo,.int .i64 hh]) hx.mv.at_ ?_;refine ah 1 ?_ [5];refine aX bI.at_ ?_;refine bD Tryz.call111 (ad5 hF.mv) ?_;rintro jJ w7 ⟨rfl,ej⟩;refine ax 3 ?_;refine iL 60 (BP lo hh ds (l[k]'ay)) (qG) ?_ ?_
  ·
   intro bU;by_cases hS:lB ds (l[k]'ay).A (l[k]'ay).B=none
   ·
    by_cases hA:mH lo hh (l[k]'ay).wt=2
    ·
     refine aA 1 ?_ [65535];rw[hS,Option.getD_none,Option.isSome_none] at bU⊢;refine ah 1 ?_;refine dT hA ?_;refine ah 14 ?_;exact bQ.nil (bU _ _ _ (av.refl _ _ _) rfl (by rw[Ls hS,hA]<;>rfl) (cB 16))
    by_cases hB:mH lo hh (l[k]'ay).wt=1
    ·
     refine aA 1 ?_ [65535];rw[hS,Option.getD_none,Option.isSome_none] at bU⊢;refine ah 1 ?_;refine cL hA ?_;refine ah 9 ?_;refine dT hB ?_;refine ah 4 ?_;exact bQ.nil (bU _ _ _ (av.refl _ _ _) rfl (by rw[Ls hS,decide_eq_false hA]<;>rfl) (cB 16))
    refine aA 1 ?_ [65535];rw[hS,Option.getD_none,Option.isSome_none] at bU⊢;refine ah 1 ?_;refine cL hA ?_;refine ah 9 ?_;refine cL hB ?_;refine ah 4 ?_;exact bQ.nil (bU _ _ _ (av.refl _ _ _) rfl (by rw[Ls hS,decide_eq_false hA]<;>rfl) (cB 16))
   by_cases vP:lB ds (l[k]'ay).A (l[k]'ay).B=some true
   ·
    by_cases hA:mH lo hh (l[k]'ay).wt=2
    ·
     refine aA 1 ?_ [65535];rw[vP,Option.getD_some,Option.isSome_some] at bU⊢;refine ah 1 ?_;refine dT hA ?_;refine ah 14 ?_;exact bQ.nil (bU _ _ _ (av.refl _ _ _) rfl (by rw[Ag vP,hA]<;>rfl) (cB 16))
    by_cases hB:mH lo hh (l[k]'ay).wt=1
    ·
     refine aA 1 ?_ [65535];rw[vP,Option.getD_some,Option.isSome_some] at bU⊢;refine ah 1 ?_;refine cL hA ?_;refine ah 9 ?_;refine dT hB ?_;refine ah 4 ?_;exact bQ.nil (bU _ _ _ (av.refl _ _ _) rfl (by rw[Ag vP,hB]<;>rfl) (cB 16))
    refine aA 1 ?_ [65535];rw[vP,Option.getD_some,Option.isSome_some] at bU⊢;refine ah 1 ?_;refine cL hA ?_;refine ah 9 ?_;refine cL hB ?_;refine ah 4 ?_;exact bQ.nil (bU _ _ _ (av.refl _ _ _) rfl (by rw[Ag vP,decide_eq_false (λe=>e ((abu.resolve_left hA).resolve_left hB))]<;>rfl) (cB 16))
   by_cases hA:mH lo hh (l[k]'ay).wt=2
   ·
    refine aA 1 ?_ [65535];rw[(Fs hS vP),Option.getD_some,Option.isSome_some] at bU⊢;refine ah 1 ?_;refine dT hA ?_;refine ah 9 ?_;refine aP (λ_=>jR (CD rfl rfl) af) ?_;refine ah 4 ?_;exact bQ.nil (bU _ _ _ (av.refl _ _ _) rfl (by rw[Ag (Fs hS vP)]<;>rfl) (cB 16))
   by_cases hB:mH lo hh (l[k]'ay).wt=1
   ·
    refine aA 1 ?_ [65535];rw[(Fs hS vP),Option.getD_some,Option.isSome_some] at bU⊢;refine ah 1 ?_;refine cL hA ?_;refine ah 9 ?_;refine dT hB ?_;refine ah 4 ?_;exact bQ.nil (bU _ _ _ (av.refl _ _ _) rfl (by rw[Ag (Fs hS vP)]<;>rfl) (cB 16))
   refine aA 1 ?_ [65535];rw[(Fs hS vP),Option.getD_some,Option.isSome_some] at bU⊢;refine ah 1 ?_;refine cL hA ?_;refine ah 9 ?_;refine cL hB ?_;refine ah 4 ?_;exact bQ.nil (bU _ _ _ (av.refl _ _ _) rfl (by rw[Ag (Fs hS vP)]<;>rfl) (cB 16))
  intro fk eS;refine f_ 60 rfl (λIQ=>?_) (λIQ=>?_)
  ·
   rw[if_pos IQ] at en;refine aA 3 ?_ [9899,0];refine bF 2 (aV (l[k]'ay).A) bI.mv.at_ ?_;refine ah 1 ?_ [2];refine bF 2 (aV (l[k]'ay).B) bI.mv.at_ ?_;refine ah 1 ?_ [5];refine aX bI.mv.at_ ?_;refine ah 1 ?_ [1];refine aX hx.mv.at_ ?_;refine aP (λ_=>Nh rfl rfl Tryz.underlying3) ?_;refine aP (λ_=>eW (zs:=[.int .i64 0,.int .i64 0,.int .i64 0,.int .i64 0,.int .i64 0]) (ps:=[(0,2),(2,2),(4,1)]) (c4:=[(0,aV (l[k]'ay).A),(1,aV (l[k]'ay).B),(2,[.int .i64 (max (l[k]'ay).wt hh)])]) (cs:=jT (⟨(l[k]'ay).A,(l[k]'ay).B,max (l[k]'ay).wt hh⟩:aH)) ai ai (by exact⟨rfl,⟨_,rfl,rfl⟩,rfl,⟨_,rfl,rfl⟩,rfl,⟨_,rfl,rfl⟩,trivial⟩) rfl) ?_;refine aR (ez (ys:=([⟨(l[k]'ay).A,(l[k]'ay).B,max (l[k]'ay).wt hh⟩]:List aH)) (e:=58) (bytes:=40) hF.mv ai rfl ak ak ⟨rfl,⟨_,rfl,jU.2 rfl⟩,trivial⟩) ?_;rintro v72 fJ ⟨fA,Qe,hF⟩;refine aR (eO (e:=58) (bytes:=40) hF ak rfl rfl ai ak ho.mv Qe dH dH) ?_;rintro LU gn ⟨yG,fT,ho,hF⟩;refine ax 7 ?_ [3];refine bC (bu (k+1,LU,yG) _ ⟨aD,hF,hT.mv,hl.mv,hmp.mv,hx.mv,(by simp only;rw[en];exact ho)⟩ aD)
  rw[if_neg (by rw[IQ];decide),List.append_nil] at en;refine aB 6 ?_ [3];refine bC (bu (k+1,ct,qG) _ ⟨aD,hF.mv,hT.mv,hl.mv,hmp.mv,hx.mv,(by simp only;rw[en];exact ho.mv)⟩ aD)
 have ay:k=l.length:=by omega
 rw[ay,List.take_length] at ho qK;refine aB 7 ?_ [7];refine jo ai Tryz.func65 Tryz.results65 rfl rfl ?_;exact⟨_,by rw[hE],hT.o1,by rw[Xt hE];exact ho.out hT aO (er C) (λb _=>gI C ak b) af⟩
end
end Go.Proofs.YtmdhggfehknjjaaGreat
