/- Steps through functions of the program. -/
import Derived.Test.YtmdhggfehknjjaaGreatJD1N3
import Derived.Test.YtmdhggfehknjjaaGreatL3
set_option maxRecDepth 100000
set_option maxHeartbeats 4000000
namespace Go.Proofs.YtmdhggfehknjjaaGreat
open Go.K Go.K.bn
noncomputable section
theorem acD {w₀:World} {C:Nat->Nat} {a b:Bits} {u v:Value} (hF:aF w₀ C) (hw:aq w₀ (aj C) a.words u) (hz:aq w₀ (aj C) b.words v):Calls Tryz.prog 206 #[.agg #[.int .i64 a.len,u],.agg #[.int .i64 b.len,v]] w₀ (aZ λr w'=>r=.int .i64 (r5 a b)/\av [] w₀ C w' C):=by
 have aO:=hF;replace hF:=hF.aI;replace hw:=hw.c1;replace hz:=hz.c1;refine bG Tryz.func206 ?_;refine aA 2 ?_ [4];refine aR (cu (cs:=[.int .i64 a.len,u]) hF 3 rfl rfl) ?_;rintro _ w1 ⟨cm,bq,rfl,s_1,ha,hF⟩;refine aR (cu (cs:=[.int .i64 b.len,v]) hF 4 rfl rfl) ?_;rintro _ w2 ⟨cw,cM,rfl,s_2,hb,hF⟩;refine bh 4 ?_ [312];refine bF 2 ([.int .i64 a.len,u]) ha.mv.at_ ?_;refine bF 2 ([.int .i64 b.len,v]) hb.at_ ?_;refine bD Tryz.call235 (TS hF hw.mv hz.mv) ?_;rintro iu w3 ⟨c,z,e,rfl,cq,r8,hy,hn⟩;refine ah 3 ?_;refine aR (dn (cs:=[.int .i64 0,.slice none 0 0]) hF.mv 5 ai) ?_;rintro _ w4 ⟨fW,nT,rfl,cI,hc,hF⟩;refine bM (cC (vs:=[.int .i64 c.len,z]) (n:=2) rfl rfl ai rfl rfl (by repeat' first|exact gR|refine gT ?_ ?_|rfl|exact(r8.mv.one rfl).2) hc rfl) ?_;rintro _ dc ⟨rfl,de,hc⟩;refine ax 8 ?_ [3];refine a_ 15 rfl (λgL=>?_) (λgL=>?_)
 ·
  have hno:¬kW a b:=λh=>gL (hy h).2;refine aB 4 ?_ [1];refine bg Tryz.func206 ?_;exact⟨by unfold r5;rw[if_neg hno],(z9 w₀ C).o1⟩
 have hok:kW a b:=Classical.byContradiction λh=>gL (by rw[hn h];decide);obtain⟨rfl,rfl⟩:=hy hok;have hba:=E1 a;have t_:=E1 b;have hbc:=E1 (lJ a b);refine aB 2 ?_;refine bX [] (fW) [1,5,2,6,9,11] bP ?_;intro ei ej;refine c7 2 ([.int .i64 a.len,u]) ha.mv.sz ?_;refine c7 2 ([.int .i64 b.len,v]) hb.mv.sz ?_;refine dC Tryz.call236 (Oy hF.mv hw.mv) ?_;rintro jJ w7 ⟨rfl,eS⟩;refine⟨aW,?_⟩;refine dC Tryz.call236 (Oy hF.mv hz.mv) ?_;rintro qB fk ⟨rfl,fA⟩;refine⟨aW,?_⟩;refine ax 9 ?_ [3];refine a_ 22 rfl (λeZ=>?_) (λeZ=>?_)
 ·
  refine aB 4 ?_ [1];refine bg Tryz.func206 ?_;exact⟨by unfold r5;rw[if_pos hok,if_pos eZ],(z9 w₀ C).o1⟩
 refine aA 3 ?_ [508];refine bF 2 ([.int .i64 (lJ a b).len,z]) hc.mv.at_ ?_;refine bD Tryz.call236 (Oy hF.mv r8.mv) ?_;rintro vE fJ ⟨rfl,fT⟩;refine ax 8 ?_;refine bg Tryz.func206 ?_;exact⟨by unfold r5;rw[if_pos hok,if_neg eZ],(z9 w₀ C).o1⟩
theorem acE {w₀:World} {C:Nat->Nat} {a b:qv} {u v:Value} (hF:aF w₀ C) (hw:aq w₀ (aj C) a.dy u) (hz:aq w₀ (aj C) b.dy v) (hlen:a.dy.length=b.dy.length) (h1:1<=a.dy.length) (h5:a.dy.length<=5):Calls Tryz.prog 167 #[.agg #[.int .i64 a.id,.int .i64 a.ver,u],.agg #[.int .i64 b.id,.int .i64 b.ver,v]] w₀ (aZ λr w'=>∃vs,r=.tuple #[vs,.int .i64 0]/\av [] w₀ C w' C/\aq w' (aj C) (pR a b) vs):=by
 have aO:=hF;replace hF:=hF.aI;replace hw:=hw.c1;replace hz:=hz.c1;refine bG Tryz.func167 ?_;refine aA 2 ?_ [12];refine aR (cu (cs:=[.int .i64 a.id,.int .i64 a.ver,u]) hF 3 rfl rfl) ?_;rintro _ w1 ⟨cm,bq,rfl,s_1,ha,hF⟩;refine aR (cu (cs:=[.int .i64 b.id,.int .i64 b.ver,v]) hF 4 rfl rfl) ?_;rintro _ w2 ⟨cw,cM,rfl,s_2,hb,hF⟩;refine bh 7 ?_ [13805,2];refine aX ha.mv.at_ ?_;refine dE hw.mv.ln ?_;refine ah 1 ?_ [2];refine aX hb.at_ ?_;refine dE hz.mv.ln ?_;refine aP (λ_=>dR (jQ rfl rfl) af) ?_;refine ah 2 ?_ [2];refine aX ha.mv.at_ ?_;refine dE hw.mv.ln ?_;refine bD Tryz.call205 (KX (n:=a.dy.length) h1 h5 _) ?_;rintro iu w3 ⟨rfl,e⟩;obtain rfl:=e.symm;refine bh 13 ?_ [1,13,2];refine aX ha.mv.at_ ?_;refine dE hw.mv.ln ?_;refine ax 3 ?_;refine cg (ι:=Nat×Value×(Nat->Nat)) (λx w=>x.1<=a.dy.length/\aF w x.2.2/\av [2,3,4,5,6,7,8,9] w₀ (aI C) w x.2.2/\aq w (aj x.2.2) a.dy u/\aq w (aj x.2.2) b.dy v/\bS w x.2.2 4 cM (.cells [.int .i64 b.id,.int .i64 b.ver,v].toArray 79)/\aQ w x.2.2 5 3 x.2.1 ((pR a b).take x.1)) (λx=>[(3,.pointer (some ⟨cM,0,none⟩)),(6,x.2.1),(24,u),(25,.int .i64 a.dy.length),(26,.int .i64 x.1)]) (λx=>a.dy.length-x.1) (0,.slice none 0 0,cw) ?_ ?_
 · exact⟨Nat.zero_le _,hF,(z9 w₀ C).mv,hw.mv,hz.mv,hb,aQ.nil⟩
 intro⟨k,ct,aK⟩ w4 hI bu;obtain⟨hk,hF,hT,hw,hz,hb,ho⟩:=hI;try simp only at hk hF hT hw hz hb ho
 show Run _ _ _ _ [(3,.pointer (some ⟨cM,0,none⟩)),(6,ct),(24,u),(25,.int .i64 a.dy.length),(26,.int .i64 k)] _ _;have hsl:=KD hlen;have hst: ((pR a b).take k).length=k:=by rw[List.length_take];omega
 refine aB 5 ?_ [1];refine a_ 27 rfl (λgM=>?_) (λgM=>?_)
 ·
  have ay:k<a.dy.length:=by omega
  have ng:k<b.dy.length:=by omega
  refine aA 6 ?_ [19];refine aL hw ?_;intro _ vG vH gE;refine gJ gE ?_;intro v30 fK;obtain⟨jk,rfl,BU⟩:=zC.1 fK;clear fK;refine aR (dn (cs:=[.int .i64 0,.slice none 0 0]) hF 6 ai) ?_;rintro _ dc ⟨qG,lC,rfl,cq,bI,hF⟩;refine ah 1 ?_;refine bM (cC (vs:=[.int .i64 (a.dy[k]'ay).len,jk]) (n:=2) rfl rfl ai rfl rfl (by repeat' first|exact gR|refine gT ?_ ?_|rfl|exact(BU.mv.one rfl).2) bI rfl) ?_;rintro _ ei ⟨rfl,cI,bI⟩;refine ax 1 ?_;refine bX [5] (qG) [1,3,5,7,9,11,13,14,16,18,21] bP ?_;intro w7 de;refine ah 1 ?_;refine c7 2 ([.int .i64 (a.dy[k]'ay).len,jk]) bI.mv.sz ?_;refine ah 1 ?_ [2];refine di hb.mv.sz ?_;refine ah 1 ?_;refine aL hz.mv ?_;intro _ PY PZ iD;refine cn iD ?_;intro v37 mO;obtain⟨ub,rfl,P0⟩:=zC.1 mO;clear mO;refine dC Tryz.call206 (acD (a:=a.dy[k]'ay) (b:=b.dy[k]'ng) hF.mv BU.mv P0) ?_;rintro qB fk ⟨rfl,ej⟩;refine⟨aW,?_⟩;refine c5 (ez (ys:=([r5 (a.dy[k]'ay) (b.dy[k]'ng)]:List Int)) (e:=3) (bytes:=8) hF.mv ai rfl ak ak ⟨rfl,⟨_,rfl,cO.2 rfl⟩,trivial⟩) ?_;rintro v39 fJ ⟨eS,uY,hF⟩;refine⟨aW,?_⟩;refine c5 (eO (e:=3) (bytes:=8) hF ak rfl rfl ai ak ho.mv uY dH dH) ?_;rintro v40 gn ⟨yG,fA,ho,hF⟩;refine⟨aW,?_⟩;refine ax 7 ?_ [3];refine bC (bu (k+1,v40,yG) _ ⟨aD,hF,hT.mv,hw.mv,hz.mv,hb.mv,(by simp only;rw[U1 ay ng];exact ho)⟩ aD)
 have ay:k=a.dy.length:=by omega
 rw[List.take_of_length_le af] at ho;refine aB 7 ?_ [7];refine jo ai Tryz.func167 Tryz.results167 rfl rfl ?_;exact⟨_,rfl,hT.o1,ho.out hT aO (er C) (λb _=>gI C ak b) af⟩
theorem acF {w₀:World} {C:Nat->Nat} {l:List Nat} {aC:Value} (hF:aF w₀ C) (hl:aq w₀ (aj C) l aC) (h1:1<=l.length) (h5:l.length<=5) (hd:∀x∈l,x<3):Calls Tryz.prog 207 #[aC] w₀ (aZ λr w'=>r=.tuple #[.int .i64 ((oF l l.length:Nat):Int),.int .i64 0]/\av [] w₀ C w' C):=by
 have aO:=hF;replace hF:=hF.aI;replace hl:=hl.c1;refine bG Tryz.func207 ?_;refine aA 9 ?_ [3,11];refine dE hl.ln ?_;refine bD Tryz.call205 (KX (n:=l.length) h1 h5 _) ?_;rintro kQ w1 ⟨rfl,e⟩;obtain rfl:=e.symm;refine bh 12 ?_ [1,7];refine dE hl.ln ?_;refine ax 3 ?_;refine cg (ι:=Nat×(Nat->Nat)) (λx w=>x.1<=l.length/\aF w x.2/\av [2,3,4,5,6,7,8,9] w₀ (aI C) w x.2/\aq w (aj x.2) l aC) (λx=>[(4,.int .i64 ((oF l x.1:Nat):Int)),(11,aC),(12,.int .i64 l.length),(13,.int .i64 x.1)]) (λx=>l.length-x.1) (0,aI C) ?_ ?_
 · exact⟨Nat.zero_le _,hF,(z9 w₀ C),hl⟩
 intro⟨k,aK⟩ w2 hI bu;obtain⟨hk,hF,hT,hl⟩:=hI;try simp only at hk hF hT hl
 show Run _ _ _ _ [(4,.int .i64 ((oF l k:Nat):Int)),(11,aC),(12,.int .i64 l.length),(13,.int .i64 k)] _ _;have hnb:=N8 hd k;have qH:=Ky (show k<=5 by omega);obtain⟨q,hq⟩:∃q,q=oF l k:=⟨_,rfl⟩
 rw[<-hq] at hnb⊢;refine aB 5 ?_ [1];refine a_ 14 rfl (λeR=>?_) (λeR=>?_)
 ·
  have ay:k<l.length:=by omega
  have E4:=hd _ (List.getElem_mem ay);have acG:l[k]'ay*3^k<=2*243:=Nat.mul_le_mul af qH;have hme: ((l[k]'ay:Nat):Int)*((3^k:Nat):Int)=((l[k]'ay*3^k:Nat):Int):=by rw[Int.natCast_mul]
  obtain⟨z,hz⟩:∃z,z=l[k]'ay*3^k:=⟨_,rfl⟩
  rw[<-hz] at acG hme;refine aA 6 ?_ [27];refine aL hl ?_;intro _ oP oQ cZ;refine dW cZ ?_;intro v17 g17;first|(obtain rfl:=dJ.1 g17)|(obtain rfl:=cO.1 g17)
  refine bh 7 ?_ [63];refine aP (λ_=>dR (jq rfl rfl) af) ?_;refine ah 2 ?_;refine aP (λ_=>dR (lH rfl rfl) af) ?_;refine bh 7 ?_ [251];refine bD Tryz.call237 (OE hF) ?_;rintro iu w3 ⟨rfl,s_1⟩;refine ah 1 ?_;refine aP (λ_=>N0 (cs:=[.int .i64 1,.int .i64 3,.int .i64 9,.int .i64 27,.int .i64 81,.int .i64 243]) Tryz.underlying263 ai ai rfl rfl af af (N3 (n:=k) af)) ?_;refine aP (λ_=>fN (SX rfl rfl (by rw[hme];omega) (by rw[hme];omega)) (congrArg (Value.int .i64) hme)) ?_;refine ax 8 ?_ [3];refine kp (fD 4 rfl (eq_int (by rw[oF,lK ay,<-hq,<-hz];simp)) (bT 11 (bT 12 (fD 13 rfl (eq_int b_) (fL _))))) (bu (k+1,aK) _ ⟨aD,hF.mv,hT.mv,hl.mv⟩ aD)
 have ay:k=l.length:=by omega
 subst ay;refine aB 7 ?_ [7];refine jo ai Tryz.func207 Tryz.results207 rfl rfl ?_;exact⟨by rw[hq],hT.o1⟩
theorem acH {w₀:World} {C:Nat->Nat} {t s:List Int} {e8 vs:Value} (hF:aF w₀ C) (ht:aq w₀ (aj C) t e8) (hz:aq w₀ (aj C) s vs) (hlen:s.length=t.length) (h1:1<=t.length) (h5:t.length<=5) (rG:∀x∈t,0<=x/\x<=1000) (P3:∀x∈s,-1<=x/\x<=1000):Calls Tryz.prog 168 #[e8,vs] w₀ (aZ λr w'=>r=.tuple #[.int .i64 ((oF (mh t s) t.length:Nat):Int),.int .i64 0]/\av [] w₀ C w' C):=by
 have aO:=hF;replace hF:=hF.aI;replace ht:=ht.c1;replace hz:=hz.c1;refine bG Tryz.func168 ?_;refine aA 9 ?_ [3,1791];refine dE ht.ln ?_;refine ah 1 ?_;refine dE hz.ln ?_;refine aP (λ_=>dR (jQ rfl rfl) af) ?_;refine ah 2 ?_;refine dE ht.ln ?_;refine bD Tryz.call205 (KX (n:=t.length) h1 h5 _) ?_;rintro kQ w1 ⟨rfl,e⟩;obtain rfl:=e.symm;refine bh 8 ?_ [11];refine dE ht.ln ?_;refine aR (Bc (e:=3) (bytes:=8) (x0:=(0:Nat)) (zs:=[.int .i64 0]) hF (j:=3) ak ai ai rfl rfl af af af (λh M=>rfl)) ?_;rintro v23 w2 ⟨cw,s_1,ho,hF⟩;refine bh 6 ?_ [7];refine dE ht.mv.ln ?_;refine ax 3 ?_;refine cg (ι:=Nat×(Nat->Nat)) (λx w=>x.1<=t.length/\aF w x.2/\av [2,3,4,5,6,7,8,9] w₀ (aI C) w x.2/\aq w (aj x.2) t e8/\aq w (aj x.2) s vs/\aQ w x.2 3 3 v23 ((mh t s).take x.1++List.replicate (t.length-x.1) 0)) (λx=>[(1,vs),(6,v23),(24,e8),(25,.int .i64 t.length),(26,.int .i64 x.1)]) (λx=>t.length-x.1) (0,cw) ?_ ?_
 · exact⟨Nat.zero_le _,hF,(z9 w₀ C).mv,ht.mv,hz.mv,by simpa using ho⟩
 intro⟨k,aK⟩ w3 hI bu;obtain⟨hk,hF,hT,ht,hz,ho⟩:=hI;try simp only at hk hF hT ht hz ho
 show Run _ _ _ _ [(1,vs),(6,v23),(24,e8),(25,.int .i64 t.length),(26,.int .i64 k)] _ _;have wB: (mh t s).length=t.length:=by unfold mh;rw[List.length_zipWith];omega
 have hzl: ((mh t s).take k++List.replicate (t.length-k) 0).length=t.length:=by rw[List.length_append,List.length_take,List.length_replicate];omega
 refine aB 5 ?_ [1];refine a_ 27 rfl (λgM=>?_) (λgM=>?_)
 ·
  have ay:k<t.length:=by omega
  have ng:k<s.length:=by omega
  have acI:=rG _ (List.getElem_mem ay);have hs0:=P3 _ (List.getElem_mem ng);refine aA 6 ?_ [27];refine aL ht ?_;intro _ vG vH gE;refine dW gE ?_;intro v30 fK;first|(obtain rfl:=dJ.1 fK)|(obtain rfl:=cO.1 fK)
  refine bh 7 ?_ [23];refine aL hz ?_;intro _ Yc Yd lV;refine dW lV ?_;intro mB td;first|(obtain rfl:=dJ.1 td)|(obtain rfl:=cO.1 td)
  refine bh 6 ?_ [16383];refine aP (λ_=>dR (jq rfl rfl) af) ?_;refine ah 2 ?_;refine aP (λ_=>dR (jr rfl rfl) af) ?_;refine ah 3 ?_;refine aP (λ_=>dR (jq rfl rfl) af) ?_;refine ah 3 ?_;refine aP (λ_=>dR (jr rfl rfl) af) ?_;refine ax 11 ?_ [7];refine a_ 52 rfl (λko=>?_) (λko=>?_)
  ·
   refine aA 3 ?_ [7];refine c6 ho ?_;intro vI Ib;refine bM (gQ ho Ib af rfl rfl ai (x0:=(0:Nat)) (dJ.2 rfl)) ?_;rintro _ w4 ⟨rfl,s_2,ho⟩;refine ax 7 ?_ [3];refine bC (bu (k+1,aK) _ ⟨aD,hF.mv,hT.mv,ht.mv,hz.mv,(by simp only;rw[N7 ay ng (by unfold wF;rw[if_pos ko])] at ho;exact ho)⟩ aD)
  refine aB 7 ?_ [15];refine a_ 58 rfl (λlD=>?_) (λlD=>?_)
  ·
   refine aA 3 ?_ [7];refine c6 ho ?_;intro Ye Ic;refine bM (gQ ho Ic af rfl rfl ai (x0:=(1:Nat)) (dJ.2 rfl)) ?_;rintro _ dc ⟨rfl,cq,ho⟩;refine ax 7 ?_ [3];refine bC (bu (k+1,aK) _ ⟨aD,hF.mv,hT.mv,ht.mv,hz.mv,(by simp only;rw[N7 ay ng (by unfold wF;rw[if_neg ko,if_pos lD])] at ho;exact ho)⟩ aD)
  refine aA 3 ?_ [7];refine c6 ho ?_;intro lT mP;refine bM (gQ ho mP af rfl rfl ai (x0:=(2:Nat)) (dJ.2 rfl)) ?_;rintro _ ei ⟨rfl,cI,ho⟩;refine ax 7 ?_ [3];refine bC (bu (k+1,aK) _ ⟨aD,hF.mv,hT.mv,ht.mv,hz.mv,(by simp only;rw[N7 ay ng (by unfold wF;rw[if_neg ko,if_neg lD])] at ho;exact ho)⟩ aD)
 have ay:k=t.length:=by omega
 rw[ay,Nat.sub_self,List.replicate_zero,List.append_nil,List.take_of_length_le af] at ho;replace hF:=hF.bO 3;replace ht:=ht.bO 3;replace hz:=hz.bO 3;replace hT:=hT.bO (n:=3) (λb=>Nat.lt_of_lt_of_le (zl C b) ak);have tf:=ho.bO (n:=3) ak af;replace ho:=tf;clear tf;refine aA 4 ?_ [61];refine cz Tryz.call207 rfl (acF hF ho af af N9) ?_;rintro jJ w7 ⟨rfl,de⟩;refine ax 5 ?_;refine jo ai Tryz.func168 Tryz.results168 rfl rfl ?_;exact⟨by rw[wB];rfl,hT.o1⟩
theorem Yf {w₀:World} {C:Nat->Nat} (x:Int) (hF:aF w₀ C):Calls Tryz.prog 240 #[.int .i64 x] w₀ (aZ λv w'=>v=.bool (rU x)/\av [] w₀ C w' C):=by
 have aO:=hF;replace hF:=hF.aI;refine bG Tryz.func240 ?_;refine aB 4 ?_ [1];refine kp (bT 0 (fL _)) ?_;refine aB 1 ?_;refine iL 2 (rU x) (aI C) ?_ ?_
 ·
  intro bU;by_cases hA:64<=x
  ·
   by_cases hB:x<=512
   ·
    refine aA 2 ?_ [4095];refine dT hA ?_;refine ah 2 ?_;refine dT hB ?_;refine ah 7 ?_;exact bQ.nil (bU _ _ _ (av.refl _ _ _) rfl (by unfold rU;rw[decide_eq_true hA,decide_eq_true hB];rfl) (cB 12))
   refine aA 2 ?_ [4095];refine dT hA ?_;refine ah 2 ?_;refine cL hB ?_;refine ah 7 ?_;exact bQ.nil (bU _ _ _ (av.refl _ _ _) rfl (by unfold rU;rw[decide_eq_false hB,Bool.and_false];rfl) (cB 12))
  refine aA 2 ?_ [4095];refine cL hA ?_;refine ah 10 ?_;exact bQ.nil (bU _ _ _ (av.refl _ _ _) rfl (by unfold rU;rw[decide_eq_false hA];rfl) (cB 12))
 intro w1 s_1;refine bg Tryz.func240 ?_;exact⟨rfl,(z9 w₀ C).o1⟩
theorem BV {w₀:World} {C:Nat->Nat} {x:Bits} {u:Value} (hF:aF w₀ C) (hw:aq w₀ (aj C) x.words u):Calls Tryz.prog 213 #[.agg #[.int .i64 x.len,u]] w₀ (aZ λv w'=>v=.bool (ij x)/\av [] w₀ C w' C):=by
 have aO:=hF;replace hF:=hF.aI;replace hw:=hw.c1;refine bG Tryz.func213 ?_;refine aA 2 ?_ [2];refine aR (cu (cs:=[.int .i64 x.len,u]) hF 3 rfl rfl) ?_;rintro _ w1 ⟨cm,bq,rfl,s_1,hx,hF⟩;refine ax 2 ?_;have zV:=hw.mv.le;refine kp (bT 1 (fL _)) ?_;refine aB 1 ?_;refine iL 2 (ij x) (cm) ?_ ?_
 ·
  intro bU;by_cases hA:rU x.len=true
  ·
   have hr:=NF.1 hA;refine aA 2 ?_ [7897,0];refine aX hx.at_ ?_;refine bD Tryz.call240 (Yf x.len hF) ?_;rintro fP w2 ⟨rfl,s_2⟩;rw[hA];refine ah 2 ?_ [1];refine aX hx.mv.at_ ?_;refine dE hw.mv.ln ?_;refine ah 1 ?_ [0];refine aX hx.mv.at_ ?_;refine ah 4 ?_;exact bQ.nil (bU _ _ _ (av.refl [] _ _).mv rfl (by unfold ij;rw[hA];rfl) (cB 13))
  refine aA 2 ?_ [7897,0];refine aX hx.at_ ?_;refine bD Tryz.call240 (Yf x.len hF) ?_;rintro iu w3 ⟨rfl,cq⟩;rw[Bool.eq_false_iff.2 hA];refine ah 10 ?_;exact bQ.nil (bU _ _ _ (av.refl [] _ _).mv rfl (by unfold ij;rw[Bool.eq_false_iff.2 hA];rfl) (cB 13))
 intro w4 cI;refine bg Tryz.func213 ?_;exact⟨rfl,(z9 w₀ C).o1⟩
theorem acJ {w₀:World} {C:Nat->Nat} {x:Bits} {u:Value} {i:Nat} (hF:aF w₀ C) (hw:aq w₀ (aj C) x.words u) (hv:ij x=true) (hi: (i:Int)<x.len):Calls Tryz.prog 242 #[.agg #[.int .i64 x.len,u],.int .i64 i] w₀ (aZ λv w'=>v=.bool (decide (zK x i=1))/\av [] w₀ C w' C):=by
 have aO:=hF;replace hF:=hF.aI;replace hw:=hw.c1;have FE:=xR.1 hv;refine bG Tryz.func242 ?_;refine aA 2 ?_ [2];refine aR (cu (cs:=[.int .i64 x.len,u]) hF 3 rfl rfl) ?_;rintro _ w1 ⟨cm,bq,rfl,s_1,hx,hF⟩;refine bh 4 ?_ [66829820];refine bF 2 ([.int .i64 x.len,u]) hx.at_ ?_;refine bD Tryz.call213 (BV hF hw.mv) ?_;rintro fP w2 ⟨rfl,s_2⟩;rw[hv];refine ah 2 ?_;refine aP (λ_=>i_ (lH rfl rfl) af) ?_;refine ah 4 ?_ [0];refine aX hx.mv.at_ ?_;refine dT hi ?_;refine ah 3 ?_ [1];refine aX hx.mv.at_ ?_;refine ah 2 ?_;refine aL hw.mv ?_;intro _ Ap Ie eZ;refine dW eZ ?_;intro v23 g23;obtain rfl:=l9.1 g23;refine ah 2 ?_;refine aP (λ_=>qP rfl rfl af) ?_;refine ax 5 ?_;refine bg Tryz.func242 ?_;exact⟨by unfold zK;rw[xQ af]<;>simp only[show((i:Int)/64).toNat=i/64 from by omega],(z9 w₀ C).o1⟩
theorem P4 {w₀:World} {C:Nat->Nat} {y:Bits} {u:Value} (hF:aF w₀ C) (hw:aq w₀ (aj C) y.words u) (hv:ij y=true):Calls Tryz.prog 215 #[.agg #[.int .i64 y.len,u]] w₀ (aZ λv w'=>v=.int .i64 (qp y y.len.toNat)/\av [] w₀ C w' C):=by
 have aO:=hF;replace hF:=hF.aI;replace hw:=hw.c1;have FE:=xR.1 hv;refine bG Tryz.func215 ?_;refine aA 2 ?_ [2];refine aR (cu (cs:=[.int .i64 y.len,u]) hF 3 rfl rfl) ?_;rintro _ w1 ⟨cm,bq,rfl,s_1,hx,hF⟩;refine ax 12 ?_ [1,1];refine cg (ι:=Nat×(Nat->Nat)) (λx w=>(x.1:Int)<=y.len/\aF w x.2/\av [2,3,4,5,6,7,8,9] w₀ (aI C) w x.2/\bS w x.2 3 bq (.cells [.int .i64 y.len,u].toArray 151)/\aq w (aj x.2) y.words u) (λx=>[(1,.pointer (some ⟨bq,0,none⟩)),(3,.int .i64 (qp y x.1)),(4,.int .i64 x.1)]) (λx=>y.len.toNat-x.1) (0,cm) ?_ ?_
 · exact⟨(by simp only;omega),hF,(z9 w₀ C).mv,hx,hw.mv⟩
 intro⟨k,aK⟩ w2 hI bu;obtain⟨hk,hF,hT,hx,hw⟩:=hI;try simp only at hk hF hT hx hw
 show Run _ _ _ _ [(1,.pointer (some ⟨bq,0,none⟩)),(3,.int .i64 (qp y k)),(4,.int .i64 k)] _ _;have hcb:=UF y k;refine aA 3 ?_ [220];refine bF 2 ([.int .i64 y.len,u]) hx.at_ ?_;refine bD Tryz.call213 (BV hF hw) ?_;rintro iu w3 ⟨rfl,s_2⟩;rw[hv];refine ah 3 ?_ [0];refine aX hx.mv.at_ ?_;refine ax 3 ?_;refine a_ 12 rfl (λh12=>?_) (λh12=>?_)
 ·
  have ay: (k:Int)<y.len:=by omega
  refine aA 5 ?_ [2];refine bF 2 ([.int .i64 y.len,u]) hx.mv.at_ ?_;refine ah 1 ?_;refine bD Tryz.call242 (acJ hF.mv hw.mv hv ay) ?_;rintro fS w4 ⟨rfl,cq⟩;refine ax 1 ?_;refine a_ 17 rfl (λey=>?_) (λey=>?_)
  ·
   refine aB 11 ?_ [7,7];refine kp (bT 1 (fD 3 rfl (eq_int (UD ey).symm) (fD 4 rfl (eq_int b_) (fL _)))) (bu (k+1,aK) _ ⟨aD,hF.mv,hT.mv,hx.mv,hw.mv⟩ aD)
  refine aB 7 ?_ [7];refine kp (bT 1 (fD 3 rfl (eq_int (UE ey).symm) (fD 4 rfl (eq_int b_) (fL _)))) (bu (k+1,aK) _ ⟨aD,hF.mv,hT.mv,hx.mv,hw.mv⟩ aD)
 have ay: (k:Int)=y.len:=by omega
 refine aB 6 ?_ [3];refine bg Tryz.func215 ?_;exact⟨by rw[show y.len.toNat=k from by omega],hT.o1⟩
theorem acK {w₀:World} {C:Nat->Nat} {x:Bits} {u:Value} (hF:aF w₀ C) (hw:aq w₀ (aj C) x.words u) (hlen:x.words.length<=1000000) (j:Nat) (hj:j≠0):Calls Tryz.prog 261 #[.agg #[.int .i64 x.len,u]] w₀ (aZ λv w'=>∃aG u',v=.agg #[.int .i64 x.len,u']/\av [] w₀ C w' aG/\aF w' aG/\aQ w' aG j 84 u' x.words):=by
 have aO:=hF;replace hF:=hF.aI;replace hw:=hw.c1;refine bG Tryz.func261 ?_;refine aA 2 ?_ [0];refine aR (cu (cs:=[.int .i64 x.len,u]) hF 3 rfl rfl) ?_;rintro _ w1 ⟨cm,bq,rfl,s_1,hx,hF⟩;refine aR (dn (cs:=[.int .i64 0,.slice none 0 0]) hF 4 ai) ?_;rintro _ w2 ⟨cw,cM,rfl,s_2,hy,hF⟩;refine ax 2 ?_;refine bX [4,5] (cw) [1,3,5,7,8,11,12] bP ?_;intro w3 cq;refine ah 1 ?_ [0];refine di hx.mv.sz ?_;refine ah 1 ?_ [1];refine di hx.mv.sz ?_;refine c5 (eO (e:=84) (bytes:=8) hF.mv ak rfl rfl ai ak (aQ.nil (α:=j5) (j:=5)) hw.mv xA xA) ?_;rintro tg w4 ⟨fW,cI,hn,hF⟩;refine⟨aW,?_⟩;refine aP (λ_=>eW (zs:=[.int .i64 0,.slice none 0 0]) (ps:=[(0,1),(1,1)]) (c4:=[(0,[.int .i64 x.len]),(1,[tg])]) (cs:=[.int .i64 x.len,tg]) ai ai (by exact⟨rfl,⟨_,rfl,rfl⟩,rfl,⟨_,rfl,hn.one.1⟩,trivial⟩) rfl) ?_;refine gU rfl ?_;refine bM (cC (vs:=[.int .i64 x.len,tg]) (n:=2) rfl rfl ai rfl rfl (by repeat' first|exact gR|refine gT ?_ ?_|rfl|exact hn.one.2) hy.mv rfl) ?_;rintro _ dc ⟨rfl,de,hy⟩;refine ax 1 ?_;replace hn:=hn.mv;simp only[List.nil_append] at hn;refine rS ai Tryz.func261 Tryz.results261 rfl hy.at_ ai ai rfl ?_;obtain⟨rH,qe,hFg,Yg,ud⟩:=hn.mG (z9 w₀ C).mv aO (er C) (λb _=>gI C ak b) ak j hj;exact⟨rH,tg,rfl,((z9 w₀ C).o1).mG qe,hFg,ud⟩
theorem acL {w₀:World} {C:Nat->Nat} {a b:Bits} {u v:Value} (hF:aF w₀ C) (hw:aq w₀ (aj C) a.words u) (hz:aq w₀ (aj C) b.words v):Calls Tryz.prog 241 #[.agg #[.int .i64 a.len,u],.agg #[.int .i64 b.len,v],.int .i64 0] w₀ (aZ λr w'=>∃(c:Bits) (z:Value) (e:Int),r=.tuple #[.agg #[.int .i64 c.len,z],.int .i64 e]/\av [] w₀ C w' C/\aq w' (aj C) c.words z/\(kW a b->c=lJ a b/\e=0)/\(¬kW a b->e=8)):=by
 have aO:=hF;replace hF:=hF.aI;replace hw:=hw.c1;replace hz:=hz.c1;refine bG Tryz.func241 ?_;refine aA 2 ?_ [8];refine aR (cu (cs:=[.int .i64 a.len,u]) hF 3 rfl rfl) ?_;rintro _ w1 ⟨cm,bq,rfl,s_1,ha,hF⟩;refine aR (cu (cs:=[.int .i64 b.len,v]) hF 4 rfl rfl) ?_;rintro _ w2 ⟨cw,cM,rfl,s_2,hb,hF⟩;refine aR (dn (cs:=[.int .i64 0,.slice none 0 0]) hF 5 ai) ?_;rintro _ w3 ⟨jd,je,rfl,cq,hr,hF⟩;refine ax 4 ?_;refine iL 24 (decide (¬kW a b)) (jd) ?_ ?_
 ·
  intro bU;by_cases hA:ij a=true
  ·
   by_cases hB:ij b=true
   ·
    refine aA 1 ?_ [27596];refine bF 2 ([.int .i64 a.len,u]) ha.mv.at_ ?_;refine bD Tryz.call213 (BV hF hw.mv) ?_;rintro fS w4 ⟨rfl,cI⟩;rw[hA];refine ah 2 ?_;refine bF 2 ([.int .i64 b.len,v]) hb.mv.at_ ?_;refine bD Tryz.call213 (BV hF.mv hz.mv) ?_;rintro kf dc ⟨rfl,de⟩;rw[hB];refine ah 4 ?_ [0];refine aX ha.mv.at_ ?_;refine ah 1 ?_ [0];refine aX hb.mv.at_ ?_;refine ah 2 ?_;exact bQ.nil (bU _ _ _ (av.refl [] _ _).mv rfl (by congr 1;apply decide_eq_decide.2;exact⟨λe h=>e h.2.2,λe e2=>e ⟨hA,hB,e2⟩⟩) (cB 15))
   refine aA 1 ?_ [27596];refine bF 2 ([.int .i64 a.len,u]) ha.mv.at_ ?_;refine bD Tryz.call213 (BV hF hw.mv) ?_;rintro lz ei ⟨rfl,ej⟩;rw[hA];refine ah 2 ?_;refine bF 2 ([.int .i64 b.len,v]) hb.mv.at_ ?_;refine bD Tryz.call213 (BV hF.mv hz.mv) ?_;rintro jJ w7 ⟨rfl,eS⟩;rw[Bool.eq_false_iff.2 hB];refine ah 9 ?_;exact bQ.nil (bU _ _ _ (av.refl [] _ _).mv rfl (by rw[decide_eq_true (show¬kW a b from λh=>hB h.2.1)]) (cB 15))
  refine aA 1 ?_ [27596];refine bF 2 ([.int .i64 a.len,u]) ha.mv.at_ ?_;refine bD Tryz.call213 (BV hF hw.mv) ?_;rintro qB fk ⟨rfl,fA⟩;rw[Bool.eq_false_iff.2 hA];refine ah 13 ?_;exact bQ.nil (bU _ _ _ (av.refl [] _ _).mv rfl (by rw[decide_eq_true (show¬kW a b from λh=>hA h.1)]) (cB 15))
 intro fJ fT;refine a_ 24 rfl (λfM=>?_) (λfM=>?_)
 ·
  refine aA 2 ?_ [5];refine aP (λ_=>eW (zs:=[.int .i64 0,.slice none 0 0]) (ps:=[(0,1),(1,1)]) (c4:=[]) (cs:=[.int .i64 0,.slice none 0 0]) ai ai (by exact trivial) rfl) ?_;refine bM (cC (vs:=[.int .i64 0,.slice none 0 0]) (n:=2) rfl rfl ai rfl rfl (fE rfl) hr.mv rfl) ?_;rintro _ gn ⟨rfl,gY,hr⟩;refine ax 2 ?_;refine kM ai Tryz.func241 Tryz.results241 rfl rfl hr.at_ ai ai rfl ?_;exact⟨⟨0,[]⟩,_,_,rfl,(z9 w₀ C).o1,eT,λe=>absurd e fM,λ_=>rfl⟩
 have hok:kW a b:=Classical.not_not.1 fM;have zV:=Ur hok;have VK:=Kk hok.1;refine aA 3 ?_ [0];refine bF 2 ([.int .i64 a.len,u]) ha.mv.at_ ?_;refine cz Tryz.call261 rfl (acK (x:=a) hF.mv hw.mv af 7 ak) ?_;rintro BW iK ⟨acM,u2,rfl,eY,hF,ho⟩;refine aR (dn (cs:=[.int .i64 0,.slice none 0 0]) hF 6 ai) ?_;rintro _ iV ⟨wK,P5,rfl,iW,hc,hF⟩;refine bM (cC (vs:=[.int .i64 a.len,u2]) (n:=2) rfl rfl ai rfl rfl (by repeat' first|exact gR|refine gT ?_ ?_|rfl|exact ho.mv.one.2) hc rfl) ?_;rintro _ ki ⟨rfl,jx,hc⟩;refine ax 7 ?_ [1];refine cg (ι:=Nat×(Nat->Nat)) (λx w=>x.1<=a.words.length/\aF w x.2/\av [2,3,4,5,6,7,8,9] w₀ (aI C) w x.2/\bS w x.2 4 cM (.cells [.int .i64 b.len,v].toArray 151)/\bS w x.2 5 je (.cells [.int .i64 0,.slice none 0 0].toArray 151)/\bS w x.2 6 P5 (.cells [.int .i64 a.len,u2].toArray 151)/\aq w (aj x.2) b.words v/\aQ w x.2 7 84 u2 (yq a b x.1)) (λx=>[(2,.int .i64 0),(4,.pointer (some ⟨cM,0,none⟩)),(6,.pointer (some ⟨je,0,none⟩)),(8,.pointer (some ⟨P5,0,none⟩)),(9,.int .i64 x.1)]) (λx=>a.words.length-x.1) (0,wK) ?_ ?_
 · exact⟨Nat.zero_le _,hF.mv,(z9 w₀ C).mv,hb.mv,hr.mv,hc,hz.mv,ho.mv⟩
 intro⟨k,aK⟩ kH hI bu;obtain⟨hk,hF,hT,hb,hr,hc,hz,ho⟩:=hI;try simp only at hk hF hT hb hr hc hz ho
 show Run _ _ _ _ [(2,.int .i64 0),(4,.pointer (some ⟨cM,0,none⟩)),(6,.pointer (some ⟨je,0,none⟩)),(8,.pointer (some ⟨P5,0,none⟩)),(9,.int .i64 k)] _ _;have oT:=Xc (a:=a) (b:=b) (k:=k) zV;refine aA 5 ?_ [27,1];refine aX hc.at_ ?_;refine dE ho.ln ?_;refine ax 2 ?_;refine a_ 32 rfl (λgA=>?_) (λgA=>?_)
 ·
  have ay:k<a.words.length:=by omega
  have ng:k<b.words.length:=by omega
  have hel:=abd (a:=a) (b:=b) (k:=k) ay zV;refine aA 10 ?_ [1,3];refine aP (λ_=>i_ (CD rfl rfl) ak) ?_;refine ax 3 ?_;refine bX [7] (aK) [1,3,5,7,11,13,15,17,19,8,21,23,24] bP ?_;intro lR jX;refine ah 1 ?_ [1];refine di hc.mv.sz ?_;refine ah 1 ?_;refine c6 ho.mv ?_;intro j3 Ht;refine ah 1 ?_ [1];refine di hb.mv.sz ?_;refine ah 1 ?_;refine aL hz.mv ?_;intro _ aj0 aj1 lD;refine ew lD ?_;intro v59 yH;obtain rfl:=l9.1 yH;refine nz ?_;refine Tg (fq 54 (.load 84 53)) rfl rfl aW ho.mv Ht af ai rfl rfl ?_;intro v54 ue;try simp only[fh] at ue
  obtain rfl:=l9.1 ue;rw[hel];refine ck ?_;refine ah 1 ?_;refine c6 ho.mv ?_;intro Ig acN;refine gU rfl ?_;refine bM (gQ ho.mv acN af rfl rfl ai (x0:=jH a.words[k] b.words[k]) (l9.2 rfl)) ?_;rintro _ mo ⟨rfl,mq,ho⟩;refine ax 8 ?_ [7];refine bC (bu (k+1,aK) _ ⟨aD,hF.mv,hT.mv,hb.mv,hr.mv,hc.mv,hz.mv,(by simp only;rw[<-abf ay ng];exact ho)⟩ aD)
 have ay:k=a.words.length:=by omega
 rw[ay,abe zV] at ho;have CN: (lJ a b).words.length<=8:=by show(List.zipWith jH a.words b.words).length<=8;rw[List.length_zipWith];omega
 refine aA 3 ?_ [4];refine bF 2 ([.int .i64 a.len,u2]) hc.at_ ?_;refine bM (cC (vs:=[.int .i64 a.len,u2]) (n:=2) rfl rfl ai rfl rfl (by repeat' first|exact gR|refine gT ?_ ?_|rfl|exact ho.one.2) hr rfl) ?_;rintro _ nQ ⟨rfl,lU,hr⟩;refine ax 2 ?_;refine kM ai Tryz.func241 Tryz.results241 rfl rfl hr.at_ ai ai rfl ?_;exact⟨lJ a b,_,_,rfl,hT.o1,ho.mv.out hT.mv aO (er C) (λb _=>gI C ak b) af,λ_=>⟨rfl,rfl⟩,λe=>absurd hok e⟩
theorem acO {w₀:World} {C:Nat->Nat} {a b:Bits} {u v:Value} (hF:aF w₀ C) (hw:aq w₀ (aj C) a.words u) (hz:aq w₀ (aj C) b.words v):Calls Tryz.prog 214 #[.agg #[.int .i64 a.len,u],.agg #[.int .i64 b.len,v]] w₀ (aZ λr w'=>∃(c:Bits) (z:Value) (e:Int),r=.tuple #[.agg #[.int .i64 c.len,z],.int .i64 e]/\av [] w₀ C w' C/\aq w' (aj C) c.words z/\(kW a b->c=lJ a b/\e=0)/\(¬kW a b->e=8)):=by
 have aO:=hF;replace hF:=hF.aI;replace hw:=hw.c1;replace hz:=hz.c1;refine bG Tryz.func214 ?_;refine aA 2 ?_ [8];refine aR (cu (cs:=[.int .i64 a.len,u]) hF 3 rfl rfl) ?_;rintro _ w1 ⟨cm,bq,rfl,s_1,ha,hF⟩;refine aR (cu (cs:=[.int .i64 b.len,v]) hF 4 rfl rfl) ?_;rintro _ w2 ⟨cw,cM,rfl,s_2,hb,hF⟩;refine aR (dn (cs:=[.int .i64 0,.slice none 0 0]) hF 5 ai) ?_;rintro _ w3 ⟨jd,je,rfl,cq,hr,hF⟩;refine bh 4 ?_ [88];refine bF 2 ([.int .i64 a.len,u]) ha.mv.at_ ?_;refine bF 2 ([.int .i64 b.len,v]) hb.mv.at_ ?_;refine bD Tryz.call241 (acL hF hw.mv hz.mv) ?_;rintro fS w4 ⟨c,z,e,rfl,cI,r8,hy,hn⟩;refine ah 2 ?_;refine bM (cC (vs:=[.int .i64 c.len,z]) (n:=2) rfl rfl ai rfl rfl (by repeat' first|exact gR|refine gT ?_ ?_|rfl|exact(r8.one rfl).2) hr.mv rfl) ?_;rintro _ dc ⟨rfl,de,hr⟩;refine ax 2 ?_;refine kM ai Tryz.func214 Tryz.results214 rfl rfl hr.at_ ai ai rfl ?_;exact⟨c,z,e,rfl,(z9 w₀ C).o1,r8.mv.out (z9 w₀ C).mv aO (er C),hy,hn⟩
theorem P6 (x:Int) (w:World):Calls Tryz.prog 173 #[.int .i64 x] w (aZ λv w'=>v=.bool (decide (rW x))/\w'=w):=by
 refine bG Tryz.func173 ?_;refine aB 5 ?_ [1];by_cases hA:-65536<=x
 ·
  refine aA 2 ?_ [127];refine dT hA ?_;refine ax 6 ?_;refine bg Tryz.func173 ?_;exact⟨by congr 1;apply decide_eq_decide.2;unfold rW;omega,rfl⟩
 refine aA 2 ?_ [127];refine cL hA ?_;refine ax 6 ?_;refine bg Tryz.func173 ?_;exact⟨by rw[decide_eq_false (λe=>hA e.1)],rfl⟩
theorem Yh {w₀:World} {C:Nat->Nat} {pr:Int} {aJ df:List Int} {bz vd:Value} (hF:aF w₀ C) (hW:mg pr aJ df) (ha:aq w₀ (aj C) aJ bz) (hd:aq w₀ (aj C) df vd):Calls Tryz.prog 112 #[.agg #[.int .i64 pr,bz,vd]] w₀ (aZ λv w'=>v=.int .i64 0/\av [] w₀ C w' C):=by
 have aO:=hF;replace hF:=hF.aI;replace ha:=ha.c1;replace hd:=hd.c1;refine bG Tryz.func112 ?_;refine aA 2 ?_ [2];refine aR (cu (cs:=[.int .i64 pr,bz,vd]) hF 3 rfl rfl) ?_;rintro _ w1 ⟨cm,bq,rfl,s_1,hx,hF⟩;refine bh 6 ?_ [27229677,1];refine aX hx.at_ ?_;refine dE ha.mv.ln ?_;refine ah 1 ?_ [2];refine aX hx.at_ ?_;refine dE hd.mv.ln ?_;refine aP (λ_=>dR (jQ rfl rfl) (by have:=hW.l1;have:=hW.qt;have:=hW.ld;omega)) ?_;refine ah 2 ?_ [1];refine aX hx.at_ ?_;refine dE ha.mv.ln ?_;refine aP (λ_=>dR (jq rfl rfl) (by have:=hW.l1;have:=hW.qt;have:=hW.ld;omega)) ?_;refine ah 3 ?_ [1];refine aX hx.at_ ?_;refine dE ha.mv.ln ?_;refine aP (λ_=>dR (jr rfl rfl) (by have:=hW.l1;have:=hW.qt;have:=hW.ld;omega)) ?_;refine ah 3 ?_ [0];refine aX hx.at_ ?_;refine bD Tryz.call173 (P6 _ _) ?_;rintro fP w2 ⟨rfl,rfl⟩;rw[decide_eq_true (hW.fp)];refine ax 11 ?_ [1];refine cg (ι:=Nat×(Nat->Nat)) (λx w=>x.1<=aJ.length/\aF w x.2/\av [2,3,4,5,6,7,8,9] w₀ (aI C) w x.2/\aq w (aj x.2) aJ bz/\aq w (aj x.2) df vd/\bS w x.2 3 bq (.cells [.int .i64 pr,bz,vd].toArray 65)) (λx=>[(1,.pointer (some ⟨bq,0,none⟩)),(3,.int .i64 x.1)]) (λx=>aJ.length-x.1) (0,cm) ?_ ?_
 · exact⟨Nat.zero_le _,hF,(z9 w₀ C).mv,ha.mv,hd.mv,hx⟩
 intro⟨i,aK⟩ w3 hI bu;obtain⟨hi,hF,hT,ha,hd,hx⟩:=hI;try simp only at hi hF hT ha hd hx
 show Run _ _ _ _ [(1,.pointer (some ⟨bq,0,none⟩)),(3,.int .i64 i)] _ _;have hle:=hW.qt;have OD:=hW.ld;refine aA 5 ?_ [27,1];refine aX hx.at_ ?_;refine dE ha.ln ?_;refine ax 2 ?_;refine a_ 33 rfl (λlV=>?_) (λlV=>?_)
 ·
  have hil:i<aJ.length:=by omega
  have hid:i<df.length:=by omega
  refine aA 6 ?_ [52685,1];refine aX hx.at_ ?_;refine ah 1 ?_;refine aL ha ?_;intro _ P7 P8 oU;refine dW oU ?_;intro v40 qf;first|(obtain rfl:=dJ.1 qf)|(obtain rfl:=cO.1 qf)
  refine bD Tryz.call173 (P6 _ _) ?_;rintro fS w4 ⟨rfl,rfl⟩;rw[decide_eq_true (hW.fa i hil)];refine ah 3 ?_ [2];refine aX hx.at_ ?_;refine ah 1 ?_;refine aL hd ?_;intro _ FF FG uh;refine dW uh ?_;intro DP lE;first|(obtain rfl:=dJ.1 lE)|(obtain rfl:=cO.1 lE)
  refine bD Tryz.call173 (P6 _ _) ?_;rintro kf dc ⟨rfl,rfl⟩;rw[decide_eq_true (hW.fd i hid)];refine ax 11 ?_ [7];refine bC (bu (i+1,aK) _ ⟨aD,hF,hT,ha,hd,hx⟩ aD)
 have hil:i=aJ.length:=by omega
 refine aB 5 ?_ [1];refine bg Tryz.func112 ?_;exact⟨rfl,hT.o1⟩
theorem acP {n:Nat} (h5:n<=5) (w₀:World):Calls Tryz.prog 243 #[.int .i64 n] w₀ (aZ λv w'=>v=.int .i64 ((3^n:Nat):Int)/\w'=w₀):=by
 refine bG Tryz.func243 ?_;refine aB 14 ?_ [1,1,1];refine cg (ι:=Nat) (λx w=>x<=n/\w=w₀) (λx=>[(0,.int .i64 n),(3,.int .i64 ((3^x:Nat):Int)),(4,.int .i64 x)]) (λx=>n-x) 0 ?_ ?_
 · exact⟨Nat.zero_le _,rfl⟩
 intro i w1 hI bu;obtain⟨hi,rfl⟩:=hI;try simp only at hi
 show Run _ _ _ _ [(0,.int .i64 n),(3,.int .i64 ((3^i:Nat):Int)),(4,.int .i64 i)] _ _;have qH:=Ky (show i<=5 by omega);obtain⟨q,hq⟩:∃q,q=3^i:=⟨_,rfl⟩
 rw[<-hq] at qH⊢;refine aB 7 ?_ [7];refine a_ 7 rfl (λh7=>?_) (λh7=>?_)
 ·
  have hil:i<n:=by omega
  refine aB 14 ?_ [7,7];refine kp (bT 0 (fD 3 rfl (eq_int (by simp only[Nat.pow_succ,<-hq];omega)) (fD 4 rfl (eq_int b_) (fL _)))) (bu (i+1) _ ⟨aD,rfl⟩ aD)
 have hil:i=n:=by omega
 subst hil;subst hq;refine aB 6 ?_ [3];refine bg Tryz.func243 ?_;exact⟨rfl,rfl⟩
theorem acQ {w₀:World} {C:Nat->Nat} {p n:Nat} (hF:aF w₀ C) (h1:1<=n) (h5:n<=5) (hp:p<3^n):Calls Tryz.prog 217 #[.int .i64 p,.int .i64 n] w₀ (aZ λv w'=>∃u,v=.tuple #[u,.int .i64 0]/\av [] w₀ C w' C/\aq w' (aj C) (rX p n) u):=by
 have aO:=hF;replace hF:=hF.aI;have hp2:=Ky h5;refine bG Tryz.func217 ?_;refine aA 9 ?_ [3,63];refine aP (λ_=>dR (jq rfl rfl) af) ?_;refine ah 2 ?_;refine aP (λ_=>dR (jr rfl rfl) af) ?_;refine bh 8 ?_ [223];refine aP (λ_=>dR (jq rfl rfl) af) ?_;refine ah 3 ?_;refine bD Tryz.call243 (acP h5 _) ?_;rintro kQ w1 ⟨rfl,e⟩;obtain rfl:=e.symm;refine aP (λ_=>dR (lH rfl rfl) af) ?_;refine ax 14 ?_ [1,1];refine cg (ι:=Nat×Value×(Nat->Nat)) (λx w=>x.1<=n/\aF w x.2.2/\av [2,3,4,5,6,7,8,9] w₀ (aI C) w x.2.2/\aQ w x.2.2 3 3 x.2.1 (rX p x.1)) (λx=>[(0,.int .i64 ((p/3^x.1:Nat):Int)),(1,.int .i64 n),(6,x.2.1),(7,.int .i64 x.1)]) (λx=>n-x.1) (0,.slice none 0 0,aI C) ?_ ?_
 · exact⟨Nat.zero_le _,hF,(z9 w₀ C),aQ.nil⟩
 intro⟨i,ct,aK⟩ w2 hI bu;obtain⟨hi,hF,hT,ho⟩:=hI;try simp only at hi hF hT ho
 show Run _ _ _ _ [(0,.int .i64 ((p/3^i:Nat):Int)),(1,.int .i64 n),(6,ct),(7,.int .i64 i)] _ _;have E8:=G9 p i;obtain⟨q,hq⟩:∃q,q=p/3^i:=⟨_,rfl⟩
 have cD:q<=p:=by rw[hq];exact Nat.div_le_self _ _
 rw[<-hq];refine aB 7 ?_ [7];refine a_ 24 rfl (λfM=>?_) (λfM=>?_)
 ·
  have hil:i<n:=by omega
  refine aA 7 ?_ [39];refine aP (λ_=>fN (ML rfl rfl (Int.natCast_nonneg _) ak) (show _=Value.int .i64 ((qu p i:Nat):Int) from by unfold qu;rw[<-hq,Int.natCast_emod];rfl)) ?_;refine aR (ez (ys:=([qu p i]:List Nat)) (e:=3) (bytes:=8) hF ai rfl ak ak ⟨rfl,⟨_,rfl,dJ.2 rfl⟩,trivial⟩) ?_;rintro v30 w3 ⟨s_1,nj,hF⟩;refine aR (eO (e:=3) (bytes:=8) hF ak rfl rfl ai ak ho.mv nj dH dH) ?_;rintro v31 w4 ⟨fW,s_2,ho,hF⟩;refine bh 4 ?_ [7];refine aP (λ_=>fN (MK rfl rfl (Int.natCast_nonneg _) ak af) (show _=Value.int .i64 ((p/3^(i+1):Nat):Int) from by rw[Nat.pow_succ,<-Nat.div_div_eq_div_mul,<-hq,Int.natCast_ediv];rfl)) ?_;refine ax 8 ?_ [7];refine bC (bu (i+1,v31,fW) _ ⟨aD,hF,hT.mv,(by simp only;rw[UR];exact ho)⟩ aD)
 have hil:i=n:=by omega
 subst hil;refine aB 7 ?_ [7];refine jo ai Tryz.func217 Tryz.results217 rfl rfl ?_;exact⟨_,rfl,hT.o1,ho.out hT aO (er C) (λb _=>gI C ak b) af⟩
theorem acR {w₀:World} {C:Nat->Nat} {pr:Int} {aJ df:List Int} {bz vd:Value} {p:Nat} (hF:aF w₀ C) (hW:mg pr aJ df) (ha:aq w₀ (aj C) aJ bz) (hd:aq w₀ (aj C) df vd) (hp:p<3^aJ.length):Calls Tryz.prog 177 #[.agg #[.int .i64 pr,bz,vd],.int .i64 p] w₀ (aZ λv w'=>∃u,v=.tuple #[u,.int .i64 0]/\av [] w₀ C w' C/\aq w' (aj C) (rX p aJ.length) u):=by
 have aO:=hF;replace hF:=hF.aI;replace ha:=ha.c1;replace hd:=hd.c1;refine bG Tryz.func177 ?_;refine aA 2 ?_ [6];refine aR (cu (cs:=[.int .i64 pr,bz,vd]) hF 3 rfl rfl) ?_;rintro _ w1 ⟨cm,bq,rfl,s_1,hx,hF⟩;refine bh 6 ?_ [4];refine bF 3 ([.int .i64 pr,bz,vd]) hx.at_ ?_;refine bD Tryz.call112 (Yh hF hW ha.mv hd.mv) ?_;rintro fP w2 ⟨rfl,s_2⟩;refine bh 5 ?_ [3];refine aP (λ_=>dR (jQ rfl rfl) ak) ?_;refine bh 7 ?_ [491,1];refine aX hx.mv.at_ ?_;refine dE ha.mv.ln ?_;refine bD Tryz.call217 (acQ hF.mv hW.l1 hW.qt hp) ?_;rintro iu w3 ⟨BA,rfl,cq,hg⟩;refine ax 5 ?_;refine jo ai Tryz.func177 Tryz.results177 rfl rfl ?_;exact⟨_,rfl,(z9 w₀ C).o1,hg.out (z9 w₀ C).mv aO (er C)⟩
theorem acS {w₀:World} {C:Nat->Nat} {pr:Int} {aJ df:List Int} {bz vd:Value} {p:Nat} (hF:aF w₀ C) (hW:mg pr aJ df) (ha:aq w₀ (aj C) aJ bz) (hd:aq w₀ (aj C) df vd) (hp:p<3^aJ.length):Calls Tryz.prog 117 #[.agg #[.int .i64 pr,bz,vd],.int .i64 p] w₀ (aZ λv w'=>v=.tuple #[.int .i64 (kX pr aJ df p aJ.length),.int .i64 0]/\av [] w₀ C w' C):=by
 have aO:=hF;replace hF:=hF.aI;replace ha:=ha.c1;replace hd:=hd.c1;refine bG Tryz.func117 ?_;refine aA 2 ?_ [6];refine aR (cu (cs:=[.int .i64 pr,bz,vd]) hF 3 rfl rfl) ?_;rintro _ w1 ⟨cm,bq,rfl,s_1,hx,hF⟩;refine bh 5 ?_ [250];refine bF 3 ([.int .i64 pr,bz,vd]) hx.at_ ?_;refine ah 1 ?_;refine bD Tryz.call177 (acR hF hW ha.mv hd.mv hp) ?_;rintro fP w2 ⟨BA,rfl,s_2,hg⟩;refine bh 10 ?_ [3];refine aP (λ_=>dR (jQ rfl rfl) ak) ?_;refine bh 6 ?_ [5,0];refine aX hx.mv.at_ ?_;refine ax 8 ?_ [1];refine cg (ι:=Nat×(Nat->Nat)) (λx w=>x.1<=aJ.length/\aF w x.2/\av [2,3,4,5,6,7,8,9] w₀ (aI C) w x.2/\aq w (aj x.2) aJ bz/\aq w (aj x.2) df vd/\aq w (aj x.2) (rX p aJ.length) BA/\bS w x.2 3 bq (.cells [.int .i64 pr,bz,vd].toArray 65)) (λx=>[(2,.pointer (some ⟨bq,0,none⟩)),(6,BA),(8,.int .i64 (kX pr aJ df p x.1)),(9,.int .i64 x.1)]) (λx=>aJ.length-x.1) (0,cm) ?_ ?_
 · exact⟨Nat.zero_le _,hF.mv,(z9 w₀ C).mv,ha.mv,hd.mv,hg,hx.mv⟩
 intro⟨i,aK⟩ w3 hI bu;obtain⟨hi,hF,hT,ha,hd,hg,hx⟩:=hI;try simp only at hi hF hT ha hd hg hx
 show Run _ _ _ _ [(2,.pointer (some ⟨bq,0,none⟩)),(6,BA),(8,.int .i64 (kX pr aJ df p i)),(9,.int .i64 i)] _ _;have hle:=hW.qt;have OD:=hW.ld;have E8:=G9 p aJ.length;have Ew:=hW.sc p hi;refine aA 5 ?_ [15];refine dE hg.ln ?_;refine ax 2 ?_;refine a_ 24 rfl (λfM=>?_) (λfM=>?_)
 ·
  have hil:i<aJ.length:=by omega
  have hid:i<df.length:=by omega
  have hab:=hW.N2 hil p;have P9:=hW.fa i hil;have pV:=hW.fd i hid;unfold rW at P9 pV;have aj2:=N1 p i;refine aA 8 ?_ [23];refine aL hg ?_;intro _ vG vH gE;refine dW gE ?_;intro v30 fK;first|(obtain rfl:=dJ.1 fK)|(obtain rfl:=cO.1 fK)
  rw[Kx];refine ax 2 ?_;refine a_ 31 rfl (λjA=>?_) (λjA=>?_)
  ·
   have hd2:qu p i=2:=by omega
   have e2:sU aJ df p i=aJ[i]:=by unfold sU G_;rw[hd2,lK hil];rfl
   refine aA 3 ?_ [219,1];refine aX hx.at_ ?_;refine ah 1 ?_;refine aL ha ?_;intro _ PY PZ iD;refine dW iD ?_;intro v37 mO;first|(obtain rfl:=dJ.1 mO)|(obtain rfl:=cO.1 mO)
   refine bh 7 ?_ [23];refine aL hg ?_;intro _ Yi Yj kZ;refine dW kZ ?_;intro vJ mQ;first|(obtain rfl:=dJ.1 mQ)|(obtain rfl:=cO.1 mQ)
   rw[Kx];refine ax 2 ?_;refine a_ 43 rfl (λtj=>?_) (λtj=>?_)
   ·
    exact absurd tj af
   have tX:=hd2;refine aB 7 ?_ [7];refine kp (bT 2 (bT 6 (fD 8 rfl (eq_int (by simp only;rw[kX,e2])) (fD 9 rfl (eq_int b_) (fL _))))) (bu (i+1,aK) _ ⟨aD,hF,hT,ha,hd,hg,hx⟩ aD)
  have hd2:qu p i≠2:=by omega
  refine aA 5 ?_ [23];refine aL hg ?_;intro _ Yi Yj kZ;refine dW kZ ?_;intro vJ mQ;first|(obtain rfl:=dJ.1 mQ)|(obtain rfl:=cO.1 mQ)
  rw[Kx];refine ax 2 ?_;refine a_ 43 rfl (λtj=>?_) (λtj=>?_)
  ·
   have tX:qu p i=1:=by omega
   have e1:sU aJ df p i=df[i]:=by unfold sU G_;rw[tX,lK hid];rfl
   refine aA 3 ?_ [219,2];refine aX hx.at_ ?_;refine ah 1 ?_;refine aL hd ?_;intro _ Ih Ii h48;refine dW h48 ?_;intro v49 wZ;first|(obtain rfl:=dJ.1 wZ)|(obtain rfl:=cO.1 wZ)
   refine ax 9 ?_ [7];refine kp (bT 2 (bT 6 (fD 8 rfl (eq_int (by simp only;rw[kX,e1])) (fD 9 rfl (eq_int b_) (fL _))))) (bu (i+1,aK) _ ⟨aD,hF,hT,ha,hd,hg,hx⟩ aD)
  have P_:qu p i=0:=by omega
  have e0:sU aJ df p i=0:=by unfold sU G_;rw[P_];rfl
  refine aB 7 ?_ [7];refine kp (bT 2 (bT 6 (fD 8 rfl (eq_int (by simp only;rw[kX,e0,Int.add_zero])) (fD 9 rfl (eq_int b_) (fL _))))) (bu (i+1,aK) _ ⟨aD,hF,hT,ha,hd,hg,hx⟩ aD)
 have hil:i=aJ.length:=by omega
 refine aB 7 ?_ [7];refine jo ai Tryz.func117 Tryz.results117 rfl rfl ?_;exact⟨by subst hil;rfl,hT.o1⟩
end
end Go.Proofs.YtmdhggfehknjjaaGreat
