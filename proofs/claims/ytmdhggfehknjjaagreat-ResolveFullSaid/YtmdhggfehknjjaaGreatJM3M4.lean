/- Steps through functions of the program. -/
import Derived.Test.YtmdhggfehknjjaaGreatJN5M2
set_option maxRecDepth 100000
set_option maxHeartbeats 4000000
namespace Go.Proofs.YtmdhggfehknjjaaGreat
open Go.K Go.K.bn
noncomputable section
theorem acT {n d:Int} (h0:0<=n) (h1:n<=1000000000) (h2:1<=d) (h3:d<=1000000000) (w:World):Calls Tryz.prog 216 #[.int .i64 n,.int .i64 d] w (aZ λv w'=>v=.int .i64 ((2*n+d)/(2*d))/\w'=w):=by
 refine bG Tryz.func216 ?_;refine aB 15 ?_ [1,255];refine bg Tryz.func216 ?_;exact⟨rfl,rfl⟩
theorem acU {w₀:World} {C:Nat->Nat} {a b:Bits} {u v:Value} (hF:aF w₀ C) (hw:aq w₀ (aj C) a.words u) (hz:aq w₀ (aj C) b.words v) (acV:pQ a) (acW:pQ b):Calls Tryz.prog 175 #[.agg #[.int .i64 a.len,u],.agg #[.int .i64 b.len,v]] w₀ (aZ λr w'=>r=.int .i64 (r5 a b)/\av [] w₀ C w' C):=by
 have aO:=hF;replace hF:=hF.aI;replace hw:=hw.c1;replace hz:=hz.c1;refine bG Tryz.func175 ?_;refine aA 2 ?_ [4];refine aR (cu (cs:=[.int .i64 a.len,u]) hF 3 rfl rfl) ?_;rintro _ w1 ⟨cm,bq,rfl,s_1,ha,hF⟩;refine aR (cu (cs:=[.int .i64 b.len,v]) hF 4 rfl rfl) ?_;rintro _ w2 ⟨cw,cM,rfl,s_2,hb,hF⟩;refine bh 4 ?_ [312];refine bF 2 ([.int .i64 a.len,u]) ha.mv.at_ ?_;refine bF 2 ([.int .i64 b.len,v]) hb.at_ ?_;refine bD Tryz.call214 (acO hF hw.mv hz.mv) ?_;rintro iu w3 ⟨c,z,e,rfl,cq,r8,hy,hn⟩;refine ah 3 ?_;refine aR (dn (cs:=[.int .i64 0,.slice none 0 0]) hF.mv 5 ai) ?_;rintro _ w4 ⟨fW,nT,rfl,cI,hc,hF⟩;refine bM (cC (vs:=[.int .i64 c.len,z]) (n:=2) rfl rfl ai rfl rfl (by repeat' first|exact gR|refine gT ?_ ?_|rfl|exact(r8.mv.one rfl).2) hc rfl) ?_;rintro _ dc ⟨rfl,de,hc⟩;refine ax 8 ?_ [3];refine a_ 15 rfl (λgL=>?_) (λgL=>?_)
 ·
  have hno:¬kW a b:=λh=>gL (hy h).2;refine aB 4 ?_ [1];refine bg Tryz.func175 ?_;exact⟨by unfold r5;rw[if_neg hno],(z9 w₀ C).o1⟩
 have hok:kW a b:=Classical.byContradiction λh=>gL (by rw[hn h];decide);obtain⟨rfl,rfl⟩:=hy hok;have hba:=E1 a;have t_:=E1 b;have hbc:=E1 (lJ a b);refine aB 2 ?_;refine bX [] (fW) [1,5,2,6,9,11] bP ?_;intro ei ej;refine c7 2 ([.int .i64 a.len,u]) ha.mv.sz ?_;refine c7 2 ([.int .i64 b.len,v]) hb.mv.sz ?_;refine dC Tryz.call215 (P4 hF.mv hw.mv hok.1) ?_;rintro jJ w7 ⟨rfl,eS⟩;rw[Pk hok.1 acV.Xd];refine⟨aW,?_⟩;refine dC Tryz.call215 (P4 hF.mv hz.mv hok.2.1) ?_;rintro qB fk ⟨rfl,fA⟩;rw[Pk hok.2.1 acW.Xd];refine⟨aW,?_⟩;refine ax 9 ?_ [3];refine a_ 22 rfl (λeZ=>?_) (λeZ=>?_)
 ·
  refine aB 4 ?_ [1];refine bg Tryz.func175 ?_;exact⟨by unfold r5;rw[if_pos hok,if_pos eZ],(z9 w₀ C).o1⟩
 refine aA 3 ?_ [44];refine bF 2 ([.int .i64 (lJ a b).len,z]) hc.mv.at_ ?_;refine bD Tryz.call215 (P4 hF.mv r8.mv (GZ hok)) ?_;rintro vE fJ ⟨rfl,fT⟩;rw[Pk (GZ hok) (abg a b)];refine ah 2 ?_;refine cz Tryz.call216 rfl (acT af af af af _) ?_;rintro vK gn ⟨rfl,e⟩;obtain rfl:=e.symm;refine ax 2 ?_;refine bg Tryz.func175 ?_;exact⟨by unfold r5;rw[if_pos hok,if_neg eZ,show(2:Int)*(2000*gX (lJ a b))=4000*gX (lJ a b) from by omega],(z9 w₀ C).o1⟩
theorem acX {w₀:World} {C:Nat->Nat} {a b:qv} {u v:Value} (hF:aF w₀ C) (hw:aq w₀ (aj C) a.dy u) (hz:aq w₀ (aj C) b.dy v) (hlen:a.dy.length=b.dy.length) (h1:1<=a.dy.length) (h5:a.dy.length<=5) (P9:∀z∈a.dy,pQ z) (acY:∀z∈b.dy,pQ z):Calls Tryz.prog 115 #[.agg #[.int .i64 a.id,.int .i64 a.ver,u],.agg #[.int .i64 b.id,.int .i64 b.ver,v]] w₀ (aZ λr w'=>∃vs,r=.tuple #[vs,.int .i64 0]/\av [] w₀ C w' C/\aq w' (aj C) (pR a b) vs):=by
 have aO:=hF;replace hF:=hF.aI;replace hw:=hw.c1;replace hz:=hz.c1;refine bG Tryz.func115 ?_;refine aA 2 ?_ [12];refine aR (cu (cs:=[.int .i64 a.id,.int .i64 a.ver,u]) hF 3 rfl rfl) ?_;rintro _ w1 ⟨cm,bq,rfl,s_1,ha,hF⟩;refine aR (cu (cs:=[.int .i64 b.id,.int .i64 b.ver,v]) hF 4 rfl rfl) ?_;rintro _ w2 ⟨cw,cM,rfl,s_2,hb,hF⟩;refine bh 7 ?_ [490989,2];refine aX ha.mv.at_ ?_;refine dE hw.mv.ln ?_;refine ah 1 ?_ [2];refine aX hb.at_ ?_;refine dE hz.mv.ln ?_;refine aP (λ_=>dR (jQ rfl rfl) af) ?_;refine ah 2 ?_ [2];refine aX ha.mv.at_ ?_;refine dE hw.mv.ln ?_;refine aP (λ_=>dR (jq rfl rfl) af) ?_;refine ah 3 ?_ [2];refine aX ha.mv.at_ ?_;refine dE hw.mv.ln ?_;refine aP (λ_=>dR (jr rfl rfl) af) ?_;refine ax 14 ?_ [1,1];refine cg (ι:=Nat×Value×(Nat->Nat)) (λx w=>x.1<=a.dy.length/\aF w x.2.2/\av [2,3,4,5,6,7,8,9] w₀ (aI C) w x.2.2/\aq w (aj x.2.2) a.dy u/\aq w (aj x.2.2) b.dy v/\bS w x.2.2 3 bq (.cells [.int .i64 a.id,.int .i64 a.ver,u].toArray 79)/\bS w x.2.2 4 cM (.cells [.int .i64 b.id,.int .i64 b.ver,v].toArray 79)/\aQ w x.2.2 5 3 x.2.1 ((pR a b).take x.1)) (λx=>[(2,.pointer (some ⟨bq,0,none⟩)),(3,.pointer (some ⟨cM,0,none⟩)),(6,x.2.1),(7,.int .i64 x.1)]) (λx=>a.dy.length-x.1) (0,.slice none 0 0,cw) ?_ ?_
 · exact⟨Nat.zero_le _,hF,(z9 w₀ C).mv,hw.mv,hz.mv,ha.mv,hb,aQ.nil⟩
 intro⟨k,ct,aK⟩ w3 hI bu;obtain⟨hk,hF,hT,hw,hz,ha,hb,ho⟩:=hI;try simp only at hk hF hT hw hz ha hb ho
 show Run _ _ _ _ [(2,.pointer (some ⟨bq,0,none⟩)),(3,.pointer (some ⟨cM,0,none⟩)),(6,ct),(7,.int .i64 k)] _ _;have hsl:=KD hlen;have hst: ((pR a b).take k).length=k:=by rw[List.length_take];omega
 refine aA 5 ?_ [27,2];refine aX ha.at_ ?_;refine dE hw.ln ?_;refine ax 2 ?_;refine a_ 31 rfl (λjA=>?_) (λjA=>?_)
 ·
  have ay:k<a.dy.length:=by omega
  have ng:k<b.dy.length:=by omega
  refine aB 3 ?_;refine bX [5] (aK) [1,3,5,7,9,11,13,15,17,19,21,22,24,26,29] bP ?_;intro w4 cq;have aj3:=hw.mv;refine ah 2 ?_ [2];refine di ha.mv.sz ?_;refine ah 1 ?_;refine aL hw.mv ?_;intro _ E6 E7 jY;refine cn jY ?_;intro v39 uY;obtain⟨jk,rfl,BU⟩:=zC.1 uY;refine ah 1 ?_ [2];refine di hb.mv.sz ?_;refine ah 1 ?_;refine aL hz.mv ?_;intro _ LC LD tj;refine cn tj ?_;intro v44 oV;obtain⟨ub,rfl,P0⟩:=zC.1 oV;refine dC Tryz.call175 (acU (a:=a.dy[k]'ay) (b:=b.dy[k]'ng) hF.mv BU P0 (P9 _ (List.getElem_mem ay)) (acY _ (List.getElem_mem ng))) ?_;rintro kf dc ⟨rfl,cI⟩;refine⟨aW,?_⟩;refine c5 (ez (ys:=([r5 (a.dy[k]'ay) (b.dy[k]'ng)]:List Int)) (e:=3) (bytes:=8) hF.mv ai rfl ak ak ⟨rfl,⟨_,rfl,cO.2 rfl⟩,trivial⟩) ?_;rintro v46 ei ⟨de,oW,hF⟩;refine⟨aW,?_⟩;refine c5 (eO (e:=3) (bytes:=8) hF ak rfl rfl ai ak ho.mv oW dH dH) ?_;rintro yc w7 ⟨qg,ej,ho,hF⟩;refine⟨aW,?_⟩;refine ax 8 ?_ [7];refine bC (bu (k+1,yc,qg) _ ⟨aD,hF,hT.mv,hw.mv,hz.mv,ha.mv,hb.mv,(by simp only;rw[U1 ay ng];exact ho)⟩ aD)
 have ay:k=a.dy.length:=by omega
 rw[List.take_of_length_le af] at ho;refine aB 7 ?_ [7];refine jo ai Tryz.func115 Tryz.results115 rfl rfl ?_;exact⟨_,rfl,hT.o1,ho.out hT aO (er C) (λb _=>gI C ak b) af⟩
theorem acZ {w₀:World} {C:Nat->Nat} {l:List Nat} {aC:Value} (hF:aF w₀ C) (hl:aq w₀ (aj C) l aC) (h1:1<=l.length) (h5:l.length<=5) (hd:∀x∈l,x<3):Calls Tryz.prog 176 #[aC] w₀ (aZ λr w'=>r=.tuple #[.int .i64 ((oF l l.length:Nat):Int),.int .i64 0]/\av [] w₀ C w' C):=by
 have aO:=hF;replace hF:=hF.aI;replace hl:=hl.c1;refine bG Tryz.func176 ?_;refine aA 9 ?_ [3,255];refine dE hl.ln ?_;refine aP (λ_=>dR (jq rfl rfl) af) ?_;refine ah 2 ?_;refine dE hl.ln ?_;refine aP (λ_=>dR (jr rfl rfl) af) ?_;refine bh 12 ?_ [1,15];refine dE hl.ln ?_;refine ax 4 ?_;refine xE (ι:=Nat×(Nat->Nat)) (I:=λx w=>x.1<=l.length/\aF w x.2/\av [2,3,4,5,6,7,8,9] w₀ (aI C) w x.2/\aq w (aj x.2) l aC) (e:=λx=>[(0,aC),(4,.int .i64 ((qF (l.drop x.1):Nat):Int)),(5,.int .i64 ((x.1:Int)-1))]) (m:=λx=>x.1) (nB:=(l.length,aI C)) (bT 0 (fD 4 rfl (eq_int (by simp[qF])) (bT 5 (fL _)))) ?_ ?_
 · exact⟨Nat.le_refl _,hF,(z9 w₀ C),hl⟩
 intro⟨j,aK⟩ w1 hI bu;obtain⟨hj,hF,hT,hl⟩:=hI;try simp only at hj hF hT hl
 show Run _ _ _ _ [(0,aC),(4,.int .i64 ((qF (l.drop j):Nat):Int)),(5,.int .i64 ((j:Int)-1))] _ _;have hle:=hl.le;refine aB 6 ?_ [3];refine a_ 18 rfl (λlW=>?_) (λlW=>?_)
 ·
  obtain⟨i,rfl⟩:∃i,j=i+1:=⟨j-1,by omega⟩
  have hil:i<l.length:=by omega
  have E4:=hd _ (List.getElem_mem hil);have hnb:=abh hd h5 (i+1);have vL:=Xe hil;obtain⟨q,hq⟩:∃q,q=qF (l.drop (i+1)):=⟨_,rfl⟩
  rw[<-hq] at hnb vL⊢;refine kp (bT 0 (bT 4 (fD 5 rfl (eq_int (show(((i+1:Nat):Int)-1)=((i:Nat):Int) from by omega)) (fL _)))) ?_;show Run _ _ _ _ [(0,aC),(4,.int .i64 (q:Int)),(5,.int .i64 (i:Nat))] _ _;refine aA 8 ?_ [3575];refine aL hl ?_;intro _ sZ rq h23;refine dW h23 ?_;intro v24 g24;first|(obtain rfl:=dJ.1 g24)|(obtain rfl:=cO.1 g24)
  refine aP (λ_=>dR (jq rfl rfl) af) ?_;refine ah 3 ?_;refine aL hl ?_;intro _ vG vH gE;refine dW gE ?_;intro v30 fK;first|(obtain rfl:=dJ.1 fK)|(obtain rfl:=cO.1 fK)
  refine aP (λ_=>dR (jr rfl rfl) af) ?_;refine bh 9 ?_ [223];refine aL hl ?_;intro _ Hw Hx gK;refine dW gK ?_;intro uZ jK;first|(obtain rfl:=dJ.1 jK)|(obtain rfl:=cO.1 jK)
  refine ax 9 ?_ [7];refine kp (bT 0 (fD 4 rfl (eq_int (by rw[vL];simp)) (bT 5 (fL _)))) (bu (i,aK) _ ⟨aD,hF,hT,hl⟩ aD)
 have hj0:j=0:=by omega
 subst hj0;refine aB 7 ?_ [7];refine jo ai Tryz.func176 Tryz.results176 rfl rfl ?_;exact⟨by rw[List.drop_zero,abj],hT.o1⟩
theorem ac0 {w₀:World} {C:Nat->Nat} {t s:List Int} {e8 vs:Value} (hF:aF w₀ C) (ht:aq w₀ (aj C) t e8) (hz:aq w₀ (aj C) s vs) (hlen:s.length=t.length) (h1:1<=t.length) (h5:t.length<=5) (rG:∀x∈t,0<=x/\x<=1000) (P3:∀x∈s,-1<=x/\x<=1000):Calls Tryz.prog 116 #[e8,vs] w₀ (aZ λr w'=>r=.tuple #[.int .i64 ((oF (mh t s) t.length:Nat):Int),.int .i64 0]/\av [] w₀ C w' C):=by
 have aO:=hF;replace hF:=hF.aI;replace ht:=ht.c1;replace hz:=hz.c1;refine bG Tryz.func116 ?_;refine aA 9 ?_ [3,32767];refine dE hz.ln ?_;refine ah 1 ?_;refine dE ht.ln ?_;refine aP (λ_=>dR (jQ rfl rfl) af) ?_;refine ah 2 ?_;refine dE hz.ln ?_;refine aP (λ_=>dR (jq rfl rfl) af) ?_;refine ah 3 ?_;refine dE hz.ln ?_;refine aP (λ_=>dR (jr rfl rfl) af) ?_;refine ax 14 ?_ [1,1];refine cg (ι:=Nat×Value×(Nat->Nat)) (λx w=>x.1<=s.length/\aF w x.2.2/\av [2,3,4,5,6,7,8,9] w₀ (aI C) w x.2.2/\aq w (aj x.2.2) t e8/\aq w (aj x.2.2) s vs/\aQ w x.2.2 3 3 x.2.1 ((mh t s).take x.1)) (λx=>[(0,e8),(1,vs),(6,x.2.1),(7,.int .i64 x.1)]) (λx=>s.length-x.1) (0,.slice none 0 0,aI C) ?_ ?_
 · exact⟨Nat.zero_le _,hF,(z9 w₀ C),ht,hz,aQ.nil⟩
 intro⟨k,ct,aK⟩ w1 hI bu;obtain⟨hk,hF,hT,ht,hz,ho⟩:=hI;try simp only at hk hF hT ht hz ho
 show Run _ _ _ _ [(0,e8),(1,vs),(6,ct),(7,.int .i64 k)] _ _;have wB: (mh t s).length=t.length:=by unfold mh;rw[List.length_zipWith];omega
 have hst: ((mh t s).take k).length=k:=by rw[List.length_take];omega
 refine aA 5 ?_ [15];refine dE hz.ln ?_;refine ax 2 ?_;refine a_ 26 rfl (λkI=>?_) (λkI=>?_)
 ·
  have ay:k<t.length:=by omega
  have ng:k<s.length:=by omega
  have acI:=rG _ (List.getElem_mem ay);have hs0:=P3 _ (List.getElem_mem ng);have uR:=abk ay ng;refine aA 8 ?_ [58654199];refine aL ht ?_;intro _ DQ DR jA;refine dW jA ?_;intro v32 uj;first|(obtain rfl:=dJ.1 uj)|(obtain rfl:=cO.1 uj)
  refine aP (λ_=>dR (jq rfl rfl) af) ?_;refine ah 3 ?_;refine aL ht ?_;intro _ Hw Hx gK;refine dW gK ?_;intro uZ jK;first|(obtain rfl:=dJ.1 jK)|(obtain rfl:=cO.1 jK)
  refine aP (λ_=>dR (jr rfl rfl) af) ?_;refine ah 4 ?_;refine aL hz ?_;intro _ Ij Ik iQ;refine dW iQ ?_;intro v45 yJ;first|(obtain rfl:=dJ.1 yJ)|(obtain rfl:=cO.1 yJ)
  refine aP (λ_=>dR (jq rfl rfl) af) ?_;refine ah 4 ?_;refine aL hz ?_;intro _ Il Im uk;refine dW uk ?_;intro Aq k4;first|(obtain rfl:=dJ.1 k4)|(obtain rfl:=cO.1 k4)
  refine aP (λ_=>dR (jr rfl rfl) af) ?_;refine bh 9 ?_ [55];refine aL hz ?_;intro _ LG LH qI;refine dW qI ?_;intro LI w_;first|(obtain rfl:=dJ.1 w_)|(obtain rfl:=cO.1 w_)
  refine ax 3 ?_;refine a_ 58 rfl (λlD=>?_) (λlD=>?_)
  ·
   refine aA 2 ?_ [9];refine aR (ez (ys:=([0]:List Nat)) (e:=3) (bytes:=8) hF ai rfl ak ak ⟨rfl,⟨_,rfl,dJ.2 rfl⟩,trivial⟩) ?_;rintro LJ w2 ⟨s_1,FH,hF⟩;refine aR (eO (e:=3) (bytes:=8) hF ak rfl rfl ai ak ho.mv FH dH dH) ?_;rintro v66 w3 ⟨jd,s_2,ho,hF⟩;refine ax 9 ?_ [7];refine bC (bu (k+1,v66,jd) _ ⟨aD,hF,hT.mv,ht.mv,hz.mv,(by simp only;rw[uR];unfold wF;rw[if_pos lD];exact ho)⟩ aD)
  refine aB 1 ?_;refine bX [] (aK) [1,3,5,7,9,11,13,15,17,19] bP ?_;intro w4 cq;refine ah 2 ?_;refine aL hz.mv ?_;intro _ ac1 ac2 Io;refine ew Io ?_;intro BX oZ;first|(obtain rfl:=dJ.1 oZ)|(obtain rfl:=cO.1 oZ)
  refine ah 2 ?_;refine aL ht.mv ?_;intro _ Yk Yl Ar;refine ew Ar ?_;intro v75 yK;first|(obtain rfl:=dJ.1 yK)|(obtain rfl:=cO.1 yK)
  refine ax 3 ?_;refine a_ 67 rfl (λAs=>?_) (λAs=>?_)
  ·
   refine aA 2 ?_ [9];refine aR (ez (ys:=([2]:List Nat)) (e:=3) (bytes:=8) hF.mv ai rfl ak ak ⟨rfl,⟨_,rfl,dJ.2 rfl⟩,trivial⟩) ?_;rintro v78 dc ⟨cI,FH,hF⟩;refine aR (eO (e:=3) (bytes:=8) hF ak rfl rfl ai ak ho.mv FH dH dH) ?_;rintro v79 ei ⟨yd,de,ho,hF⟩;refine ax 9 ?_ [7];refine bC (bu (k+1,v79,yd) _ ⟨aD,hF,hT.mv,ht.mv,hz.mv,(by simp only;rw[uR];unfold wF;rw[if_neg lD,if_neg af];exact ho)⟩ aD)
  refine aA 2 ?_ [9];refine aR (ez (ys:=([1]:List Nat)) (e:=3) (bytes:=8) hF.mv ai rfl ak ak ⟨rfl,⟨_,rfl,dJ.2 rfl⟩,trivial⟩) ?_;rintro DS w7 ⟨ej,FH,hF⟩;refine aR (eO (e:=3) (bytes:=8) hF ak rfl rfl ai ak ho.mv FH dH dH) ?_;rintro FI fk ⟨xd,eS,ho,hF⟩;refine ax 9 ?_ [7];refine bC (bu (k+1,FI,xd) _ ⟨aD,hF,hT.mv,ht.mv,hz.mv,(by simp only;rw[uR];unfold wF;rw[if_neg lD,if_pos af];exact ho)⟩ aD)
 have ay:k=t.length:=by omega
 rw[List.take_of_length_le af] at ho;replace hF:=hF.bO 3;replace ht:=ht.bO 3;replace hz:=hz.bO 3;replace hT:=hT.bO (n:=3) (λb=>Nat.lt_of_lt_of_le (zl C b) ak);have tf:=ho.bO (n:=3) ak af;replace ho:=tf;clear tf;refine aA 4 ?_ [61];refine cz Tryz.call176 rfl (acZ hF ho af af N9) ?_;rintro vE fJ ⟨rfl,fA⟩;refine ax 5 ?_;refine jo ai Tryz.func116 Tryz.results116 rfl rfl ?_;exact⟨by rw[wB];rfl,hT.o1⟩
theorem Ym {w₀:World} {C:Nat->Nat} {x:Bits} {u:Value} (hF:aF w₀ C) (hw:aq w₀ (aj C) x.words u):Calls Tryz.prog 212 #[.agg #[.int .i64 x.len,u]] w₀ (aZ λv w'=>v=.bool (q9 x)/\av [] w₀ C w' C):=by
 have aO:=hF;replace hF:=hF.aI;replace hw:=hw.c1;refine bG Tryz.func212 ?_;refine aA 2 ?_ [2];refine aR (cu (cs:=[.int .i64 x.len,u]) hF 3 rfl rfl) ?_;rintro _ w1 ⟨cm,bq,rfl,s_1,hx,hF⟩;refine ax 3 ?_;by_cases hA:x.len=0
 ·
  by_cases hB: (x.words.length:Int)=0
  ·
   refine aA 2 ?_ [989,0];refine aX hx.at_ ?_;refine dT hA ?_;refine ah 2 ?_ [1];refine aX hx.at_ ?_;refine dE hw.mv.ln ?_;refine dT hB ?_;refine ax 3 ?_;refine bg Tryz.func212 ?_;exact⟨by unfold q9;rw[decide_eq_true hA,decide_eq_true hB];rfl,(z9 w₀ C).o1⟩
  refine aA 2 ?_ [989,0];refine aX hx.at_ ?_;refine dT hA ?_;refine ah 2 ?_ [1];refine aX hx.at_ ?_;refine dE hw.mv.ln ?_;refine cL hB ?_;refine ax 3 ?_;refine bg Tryz.func212 ?_;exact⟨by unfold q9;rw[decide_eq_true hA,decide_eq_false hB];rfl,(z9 w₀ C).o1⟩
 refine aA 2 ?_ [989,0];refine aX hx.at_ ?_;refine cL hA ?_;refine ax 8 ?_;refine bg Tryz.func212 ?_;exact⟨by unfold q9;rw[decide_eq_false hA];rfl,(z9 w₀ C).o1⟩
theorem ac3 {w₀:World} {C:Nat->Nat} {nt:qv} {u:Value} (hF:aF w₀ C) (hw:aq w₀ (aj C) nt.dy u) (hi:De nt.id) (hv:De nt.ver) (h1:1<=nt.dy.length) (h5:nt.dy.length<=5) (hall:∀b∈nt.dy,q9 b=true\/ij b=true):Calls Tryz.prog 174 #[.agg #[.int .i64 nt.id,.int .i64 nt.ver,u]] w₀ (aZ λv w'=>v=.bool true/\av [] w₀ C w' C):=by
 have aO:=hF;replace hF:=hF.aI;replace hw:=hw.c1;have hi1:=hi.1;have hi2:=hi.2;have LK:=hv.1;have Au:=hv.2;refine bG Tryz.func174 ?_;refine aA 2 ?_ [2];refine aR (cu (cs:=[.int .i64 nt.id,.int .i64 nt.ver,u]) hF 3 rfl rfl) ?_;rintro _ w1 ⟨cm,bq,rfl,s_1,hx,hF⟩;refine bh 6 ?_ [1005550557,0];refine aX hx.at_ ?_;refine aP (λ_=>dR (jq rfl rfl) af) ?_;refine ah 2 ?_ [0];refine aX hx.at_ ?_;refine aP (λ_=>dR (jr rfl rfl) af) ?_;refine ah 3 ?_ [1];refine aX hx.at_ ?_;refine aP (λ_=>dR (jq rfl rfl) af) ?_;refine ah 3 ?_ [1];refine aX hx.at_ ?_;refine aP (λ_=>dR (jr rfl rfl) af) ?_;refine ah 3 ?_ [2];refine aX hx.at_ ?_;refine dE hw.mv.ln ?_;refine aP (λ_=>dR (jq rfl rfl) af) ?_;refine ah 3 ?_ [2];refine aX hx.at_ ?_;refine dE hw.mv.ln ?_;refine aP (λ_=>dR (jr rfl rfl) af) ?_;refine ax 10 ?_ [1];refine cg (ι:=Nat×(Nat->Nat)) (λx w=>x.1<=nt.dy.length/\aF w x.2/\av [2,3,4,5,6,7,8,9] w₀ (aI C) w x.2/\aq w (aj x.2) nt.dy u/\bS w x.2 3 bq (.cells [.int .i64 nt.id,.int .i64 nt.ver,u].toArray 79)) (λx=>[(1,.pointer (some ⟨bq,0,none⟩)),(3,.int .i64 x.1)]) (λx=>nt.dy.length-x.1) (0,cm) ?_ ?_
 · exact⟨Nat.zero_le _,hF,(z9 w₀ C).mv,hw.mv,hx⟩
 intro⟨k,aK⟩ w2 hI bu;obtain⟨hk,hF,hT,hw,hx⟩:=hI;try simp only at hk hF hT hw hx
 show Run _ _ _ _ [(1,.pointer (some ⟨bq,0,none⟩)),(3,.int .i64 k)] _ _;refine aA 5 ?_ [27,2];refine aX hx.at_ ?_;refine dE hw.ln ?_;refine ax 2 ?_;refine a_ 38 rfl (λjY=>?_) (λjY=>?_)
 ·
  have ay:k<nt.dy.length:=by omega
  have hx0:=hall _ (List.getElem_mem ay);refine aB 4 ?_;by_cases hA:q9 (nt.dy[k]'ay)=true
  ·
   refine aA 2 ?_ [52685,2];refine aX hx.at_ ?_;refine ah 1 ?_;refine aL hw ?_;intro _ Ij Ik iQ;refine gJ iQ ?_;intro v45 yJ;obtain⟨jk,rfl,BU⟩:=zC.1 yJ;refine bD Tryz.call212 (Ym (x:=nt.dy[k]'ay) hF BU) ?_;rintro iu w3 ⟨rfl,s_2⟩;rw[hA];refine ax 19 ?_ [7];refine bC (bu (k+1,aK) _ ⟨aD,hF.mv,hT.mv,hw.mv,hx.mv⟩ aD)
  refine aA 2 ?_ [52685,2];refine aX hx.at_ ?_;refine ah 1 ?_;refine aL hw ?_;intro _ Ij Ik iQ;refine gJ iQ ?_;intro v45 yJ;obtain⟨jk,rfl,BU⟩:=zC.1 yJ;refine bD Tryz.call212 (Ym (x:=nt.dy[k]'ay) hF BU) ?_;rintro fS w4 ⟨rfl,cq⟩;rw[Bool.eq_false_iff.2 hA];refine ah 3 ?_ [2];refine aX hx.mv.at_ ?_;refine ah 1 ?_;refine aL hw.mv ?_;intro _ DT DU ko;refine gJ ko ?_;intro v53 j3;obtain⟨ub,rfl,Ip⟩:=zC.1 j3;refine bD Tryz.call213 (BV (x:=nt.dy[k]'ay) hF.mv Ip) ?_;rintro kf dc ⟨rfl,cI⟩;rw[hx0.resolve_left hA];refine ax 11 ?_ [7];refine bC (bu (k+1,aK) _ ⟨aD,hF.mv,hT.mv,hw.mv,hx.mv⟩ aD)
 have ay:k=nt.dy.length:=by omega
 refine aB 5 ?_ [1];refine bg Tryz.func174 ?_;exact⟨rfl,hT.o1⟩
theorem ac4 {w₀:World} {C:Nat->Nat} {nf bR:Nat} {k:Int} {l:List dP} {aC:Value} (hF:aF w₀ C) (hl:aq w₀ (aj C) l aC) (gF:He nf bR l) (h1:1<=nf) (h5:nf<=5):Calls Tryz.prog 113 #[.int .i64 nf,.int .i64 k,aC] w₀ (aZ λv w'=>v=.int .i64 (mA k bR l)/\av [] w₀ C w' C):=by
 have aO:=hF;replace hF:=hF.aI;replace hl:=hl.c1;refine bG Tryz.func113 ?_;refine aB 6 ?_ [1];by_cases hA:k<1
 ·
  refine aA 2 ?_ [16383];refine aP (λ_=>dR (jq rfl rfl) af) ?_;refine ah 2 ?_;refine aP (λ_=>dR (jr rfl rfl) af) ?_;refine ah 3 ?_;refine dT hA ?_;refine ax 11 ?_ [1];refine bg Tryz.func113 ?_;exact⟨congrArg (Value.int .i64) (by unfold mA;rw[if_pos af]),(z9 w₀ C).o1⟩
 by_cases hB:8<k
 ·
  refine aA 2 ?_ [16383];refine aP (λ_=>dR (jq rfl rfl) af) ?_;refine ah 2 ?_;refine aP (λ_=>dR (jr rfl rfl) af) ?_;refine ah 3 ?_;refine cL hA ?_;refine ah 3 ?_;refine dT hB ?_;refine ax 7 ?_ [1];refine bg Tryz.func113 ?_;exact⟨congrArg (Value.int .i64) (by unfold mA;rw[if_pos af]),(z9 w₀ C).o1⟩
 refine aA 2 ?_ [16383];refine aP (λ_=>dR (jq rfl rfl) af) ?_;refine ah 2 ?_;refine aP (λ_=>dR (jr rfl rfl) af) ?_;refine ah 3 ?_;refine cL hA ?_;refine ah 3 ?_;refine cL hB ?_;refine bh 8 ?_ [7];refine dE hl.ln ?_;refine kV (λw' hS=>dR (jr rfl rfl) (by have:=gF.len;omega)) ?_;refine ax 9 ?_ [1];refine cg (ι:=Nat×(Nat->Nat)) (λx w=>x.1<=l.length/\(0<x.1->k=(bR:Int))/\aF w x.2/\av [2,3,4,5,6,7,8,9] w₀ (aI C) w x.2/\aq w (aj x.2) l aC) (λx=>[(0,.int .i64 nf),(1,.int .i64 k),(2,aC),(7,.int .i64 x.1)]) (λx=>l.length-x.1) (0,aI C) ?_ ?_
 · exact⟨Nat.zero_le _,(λh=>absurd h b_),hF,(z9 w₀ C),hl⟩
 intro⟨i,aK⟩ w1 hI bu;obtain⟨hi,hq,hF,hT,hl⟩:=hI;try simp only at hi hq hF hT hl
 show Run _ _ _ _ [(0,.int .i64 nf),(1,.int .i64 k),(2,aC),(7,.int .i64 i)] _ _;have hle:=hl.le;refine aA 5 ?_ [15];refine dE hl.ln ?_;refine ax 2 ?_;refine a_ 29 rfl (λgE=>?_) (λgE=>?_)
 ·
  have hil:i<l.length:=by omega
  have hx0:=gF.all _ (List.getElem_mem hil);have hfl:=hx0.fl;have LL:=hx0.hl;have kr:=hx0.ha;refine aA 7 ?_ [7];refine aL hl ?_;intro _ FJ FK lX;refine gJ lX ?_;intro v35 o7;obtain⟨jk,pa,o_,rfl,fla,kr,hba⟩:=x7.1 o7;clear o7;refine aR (dn (cs:=[.int .i64 0,.int .i64 0,.slice none 0 0,.slice none 0 0,.slice none 0 0]) hF 3 ai) ?_;rintro _ w2 ⟨cw,cM,rfl,s_1,bI,hF⟩;refine bM (cC (vs:=[.int .i64 (l[i]'hil).rc.id,.int .i64 (l[i]'hil).rc.ver,jk,pa,o_]) (n:=5) rfl rfl ai rfl rfl (by repeat' first|exact gR|refine gT ?_ ?_|rfl|exact(fla.mv.one rfl).2|exact(kr.mv.one rfl).2|exact(hba.mv.one rfl).2) bI rfl) ?_;rintro _ w3 ⟨rfl,s_2,bI⟩;refine bh 5 ?_ [3961,0];refine bF 3 ([.int .i64 (l[i]'hil).rc.id,.int .i64 (l[i]'hil).rc.ver,jk]) bI.at_ ?_;refine cz Tryz.call174 rfl (ac3 (nt:=(l[i]'hil).rc) hF.mv fla.mv hx0.id hx0.ver af af (λb hb=>(hx0.fo b hb).ok)) ?_;rintro fS w4 ⟨rfl,cq⟩;refine ah 4 ?_ [0,2];refine aX bI.mv.at_ ?_;refine dE fla.mv.ln ?_;refine ah 1 ?_;refine aP (λ_=>dR (jQ rfl rfl) af) ?_;refine ax 6 ?_;by_cases hK:k=(bR:Int)
  ·
   refine aA 2 ?_ [3965,3];refine aX bI.mv.at_ ?_;refine dE kr.mv.ln ?_;refine ah 1 ?_;refine aP (λ_=>jR (jQ rfl rfl) af) ?_;refine ah 2 ?_ [4];refine aX bI.mv.at_ ?_;refine dE hba.mv.ln ?_;refine ah 1 ?_;refine aP (λ_=>jR (jQ rfl rfl) af) ?_;refine ax 5 ?_;by_cases hp: (0:Int)<i
   ·
    refine bX [] (cw) [1,3,5,7,9,11,13,15,17,19,21,23,25,27,29] bP ?_;intro dc cI;refine ah 1 ?_;refine dT hp ?_;refine ah 4 ?_;refine aL hl.mv ?_;intro _ aj4 aj5 uo;have As:=bk.src uo;refine ah 1 ?_ [0];have uq:=bk.N5 As;refine ah 1 ?_ [0];refine ew uq ?_;intro ac5 DV;first|(obtain rfl:=dJ.1 DV)|(obtain rfl:=cO.1 DV)
    refine ah 2 ?_ [0,0];refine di bI.mv.sz ?_;refine nz ?_;refine kL (k8 73 (.binOp .geq 3 69 72 3) 2 true) rfl rfl (λw' hS=>fN (lH rfl rfl) (show _=Value.bool false from congrArg Value.bool (decide_eq_false (by
    have e1: ((i:Int)-1).toNat=i-1:=by omega
    simp only[e1];have:=List.pairwise_iff_getElem.1 gF.jw (i-1) i af hil af;omega)))) ?_
    refine ck ?_;refine ax 10 ?_ [7];refine bC (bu (i+1,cw) _ ⟨aD,(λ_=>hK),hF.mv,hT.mv,hl.mv⟩ aD)
   refine bX [] (cw) [1,3,5,7,9,11,13,15,17,19,21,23,25,27,29] bP ?_;intro ei de;refine ah 1 ?_;refine cL hp ?_;refine ax 22 ?_ [7];refine bC (bu (i+1,cw) _ ⟨aD,(λ_=>hK),hF.mv,hT.mv,hl.mv⟩ aD)
  refine aA 2 ?_ [3965,3];refine aX bI.mv.at_ ?_;refine dE kr.mv.ln ?_;refine ah 1 ?_;refine aP (λ_=>i_ (jQ rfl rfl) af) ?_;refine ax 13 ?_ [1];refine bg Tryz.func113 ?_;exact⟨congrArg (Value.int .i64) (by unfold mA;rw[if_neg af,if_pos ⟨by intro e;subst e;simp at hil,hK⟩]),hT.o1⟩
 have hil:i=l.length:=by omega
 refine aB 5 ?_ [1];refine bg Tryz.func113 ?_;exact⟨congrArg (Value.int .i64) (by unfold mA;rw[if_neg af,if_neg (λe=>e.2 (hq (by have:=List.length_pos_iff.2 e.1;omega)))]),hT.o1⟩
theorem ac6 {w₀:World} {C:Nat->Nat} {id:Int} {l:List dP} {aC:Value} (hF:aF w₀ C) (hl:aq w₀ (aj C) l aC):Calls Tryz.prog 179 #[aC,.int .i64 id] w₀ (aZ λv w'=>v=.int .i64 (sB l id)/\av [] w₀ C w' C):=by
 have aO:=hF;replace hF:=hF.aI;replace hl:=hl.c1;refine bG Tryz.func179 ?_;refine aB 10 ?_ [1,1];refine cg (ι:=Nat×(Nat->Nat)) (λx w=>x.1<=l.length/\(∀j (h:j<l.length),j<x.1->l[j].rc.id≠id)/\aF w x.2/\av [2,3,4,5,6,7,8,9] w₀ (aI C) w x.2/\aq w (aj x.2) l aC) (λx=>[(0,aC),(1,.int .i64 id),(5,.int .i64 x.1)]) (λx=>l.length-x.1) (0,aI C) ?_ ?_
 · exact⟨Nat.zero_le _,(λj h hj=>absurd hj b_),hF,(z9 w₀ C),hl⟩
 intro⟨k,aK⟩ w1 hI bu;obtain⟨hk,h0,hF,hT,hl⟩:=hI;try simp only at hk h0 hF hT hl
 show Run _ _ _ _ [(0,aC),(1,.int .i64 id),(5,.int .i64 k)] _ _;have hle:=hl.le;refine aA 5 ?_ [15];refine dE hl.ln ?_;refine ax 2 ?_;refine a_ 9 rfl (λfC=>?_) (λfC=>?_)
 ·
  have ay:k<l.length:=by omega
  refine aA 7 ?_ [223];refine aL hl ?_;intro _ qz qA eR;have gL:=bk.src eR;refine ah 1 ?_ [0];have cZ:=bk.N5 gL;refine ah 1 ?_ [0];refine dW cZ ?_;intro v17 g17;first|(obtain rfl:=dJ.1 g17)|(obtain rfl:=cO.1 g17)
  refine ax 3 ?_;refine a_ 19 rfl (λnu=>?_) (λnu=>?_)
  ·
   refine aB 5 ?_ [3];refine bg Tryz.func179 ?_;exact⟨congrArg (Value.int .i64) (abl ay h0 nu).symm,hT.o1⟩
  refine aB 7 ?_ [7];refine bC (bu (k+1,aK) _ ⟨aD,(λj h hj=>by
    try simp only at hj
    by_cases e:j=k
    ·subst e;exact nu
    ·exact h0 j h af),hF,hT,hl⟩ aD)
 have ay:k=l.length:=by omega
 refine aB 5 ?_ [1];refine bg Tryz.func179 ?_;exact⟨congrArg (Value.int .i64) (abm (λj h=>h0 j h af)).symm,hT.o1⟩
theorem ac7 {w₀:World} {C:Nat->Nat} {fe eG:dP} {u p q u2 p2 q2:Value} {k:Nat} (hF:aF w₀ C) (hp:aq w₀ (aj C) fe.hs p) (hq:aq w₀ (aj C) fe.has q) (hp2:aq w₀ (aj C) eG.hs p2) (iq:aq w₀ (aj C) eG.has q2) (mY:fe.hs.length=k) (hk2:fe.has.length=k) (yx:eG.hs.length=k) (BZ:eG.has.length=k):Calls Tryz.prog 114 #[.agg #[.int .i64 fe.rc.id,.int .i64 fe.rc.ver,u,p,q],.agg #[.int .i64 eG.rc.id,.int .i64 eG.rc.ver,u2,p2,q2]] w₀ (aZ λv w'=>v=.bool (r6 fe eG)/\av [] w₀ C w' C):=by
 have aO:=hF;replace hF:=hF.aI;replace hp:=hp.c1;replace hq:=hq.c1;replace hp2:=hp2.c1;replace iq:=iq.c1;refine bG Tryz.func114 ?_;refine aA 2 ?_ [4];refine aR (cu (cs:=[.int .i64 fe.rc.id,.int .i64 fe.rc.ver,u,p,q]) hF 3 rfl rfl) ?_;rintro _ w1 ⟨cm,bq,rfl,s_1,hx,hF⟩;refine aR (cu (cs:=[.int .i64 eG.rc.id,.int .i64 eG.rc.ver,u2,p2,q2]) hF 4 rfl rfl) ?_;rintro _ w2 ⟨cw,cM,rfl,s_2,hy,hF⟩;refine ax 8 ?_ [1];refine cg (ι:=Nat×(Nat->Nat)) (λx w=>x.1<=k/\(∀j,j<x.1->zQ fe eG j=false)/\aF w x.2/\av [2,3,4,5,6,7,8,9] w₀ (aI C) w x.2/\aq w (aj x.2) fe.hs p/\aq w (aj x.2) fe.has q/\aq w (aj x.2) eG.hs p2/\aq w (aj x.2) eG.has q2/\bS w x.2 3 bq (.cells [.int .i64 fe.rc.id,.int .i64 fe.rc.ver,u,p,q].toArray 83)/\bS w x.2 4 cM (.cells [.int .i64 eG.rc.id,.int .i64 eG.rc.ver,u2,p2,q2].toArray 83)) (λx=>[(2,.pointer (some ⟨bq,0,none⟩)),(3,.pointer (some ⟨cM,0,none⟩)),(5,.int .i64 x.1)]) (λx=>k-x.1) (0,cw) ?_ ?_
 · exact⟨Nat.zero_le _,λj hj=>by simp at hj,hF,(z9 w₀ C).mv,hp.mv,hq.mv,hp2.mv,iq.mv,hx.mv,hy⟩
 intro⟨i,aK⟩ w3 hI bu;obtain⟨hi,h0,hF,hT,hp,hq,hp2,iq,hx,hy⟩:=hI;try simp only at hi h0 hF hT hp hq hp2 iq hx hy
 show Run _ _ _ _ [(2,.pointer (some ⟨bq,0,none⟩)),(3,.pointer (some ⟨cM,0,none⟩)),(5,.int .i64 i)] _ _;have hle:=hp.le;refine aB 2 ?_;by_cases hI:i<k
 ·
  refine aA 3 ?_ [62881531,3];refine aX hx.at_ ?_;refine dE hp.ln ?_;refine aP (λ_=>i_ (jq rfl rfl) af) ?_;refine ah 3 ?_ [4];refine aX hx.at_ ?_;refine dE hq.ln ?_;refine aP (λ_=>i_ (jq rfl rfl) af) ?_;refine ah 4 ?_ [3];refine aX hy.at_ ?_;refine dE hp2.ln ?_;refine aP (λ_=>i_ (jq rfl rfl) af) ?_;refine ah 4 ?_ [4];refine aX hy.at_ ?_;refine dE iq.ln ?_;refine aP (λ_=>i_ (jq rfl rfl) af) ?_;refine ax 7 ?_;refine iL 58 (zQ fe eG i) (aK) ?_ ?_
  ·
   intro bU;by_cases hA:fe.has[i]'af=true
   ·
    by_cases hB:eG.has[i]'af=true
    ·
     refine bX [] (aK) [1,3,5,7,9,11,13,15,17,19,21,23,25,27,29,31,33,35,37,39,41,43,45,47,49] bP ?_;intro w4 cq;have hcs:=cq;have i1:i<fe.hs.length:=by omega
     have i2:i<fe.has.length:=by omega
     have i3:i<eG.hs.length:=by omega
     have i4:i<eG.has.length:=by omega
     have kY:=KE i1 i2 i3 i4;refine ah 1 ?_ [4];refine di hx.mv.sz ?_;refine ah 1 ?_;refine aL hq.mv ?_;intro _ Hw Hx gK;refine ew gK ?_;intro uZ jK;obtain rfl:=jt.1 jK;rw[hA];refine ah 2 ?_ [4];refine di hy.mv.sz ?_;refine ah 1 ?_;refine aL iq.mv ?_;intro _ LC LD tj;refine ew tj ?_;intro v44 oV;obtain rfl:=jt.1 oV;rw[hB];refine ah 3 ?_ [3];refine di hx.mv.sz ?_;refine ah 1 ?_;refine aL hp.mv ?_;intro _ VN VO h50;refine ew h50 ?_;intro v51 lT;obtain rfl:=l9.1 lT;refine ah 1 ?_ [3];refine di hy.mv.sz ?_;refine ah 1 ?_;refine aL hp2.mv ?_;intro _ ac8 ac9 nU;refine ew nU ?_;intro DS tq;obtain rfl:=l9.1 tq;refine ah 2 ?_;exact bQ.nil (bU _ _ _ hcs rfl (by rw[kY,hA,hB];rfl) (cB 25))
    refine bX [] (aK) [1,3,5,7,9,11,13,15,17,19,21,23,25,27,29,31,33,35,37,39,41,43,45,47,49] bP ?_;intro dc cI;have hcs:=cI;have i1:i<fe.hs.length:=by omega
    have i2:i<fe.has.length:=by omega
    have i3:i<eG.hs.length:=by omega
    have i4:i<eG.has.length:=by omega
    have kY:=KE i1 i2 i3 i4;refine ah 1 ?_ [4];refine di hx.mv.sz ?_;refine ah 1 ?_;refine aL hq.mv ?_;intro _ Hw Hx gK;refine ew gK ?_;intro uZ jK;obtain rfl:=jt.1 jK;rw[hA];refine ah 2 ?_ [4];refine di hy.mv.sz ?_;refine ah 1 ?_;refine aL iq.mv ?_;intro _ LC LD tj;refine ew tj ?_;intro v44 oV;obtain rfl:=jt.1 oV;rw[Bool.eq_false_iff.2 hB];refine ah 14 ?_;exact bQ.nil (bU _ _ _ hcs rfl (by rw[kY,hA,Bool.eq_false_iff.2 hB];rfl) (cB 25))
   refine bX [] (aK) [1,3,5,7,9,11,13,15,17,19,21,23,25,27,29,31,33,35,37,39,41,43,45,47,49] bP ?_;intro ei de;have hcs:=de;have i1:i<fe.hs.length:=by omega
   have i2:i<fe.has.length:=by omega
   have i3:i<eG.hs.length:=by omega
   have i4:i<eG.has.length:=by omega
   have kY:=KE i1 i2 i3 i4;refine ah 1 ?_ [4];refine di hx.mv.sz ?_;refine ah 1 ?_;refine aL hq.mv ?_;intro _ Hw Hx gK;refine ew gK ?_;intro uZ jK;obtain rfl:=jt.1 jK;rw[Bool.eq_false_iff.2 hA];refine ah 20 ?_;exact bQ.nil (bU _ _ _ hcs rfl (by rw[kY,Bool.eq_false_iff.2 hA];rfl) (cB 25))
  intro w7 ej;refine f_ 58 rfl (λlD=>?_) (λlD=>?_)
  ·
   refine aB 4 ?_ [1];refine bg Tryz.func114 ?_;exact⟨by rw[U5 mY hk2 yx BZ hI lD],hT.o1⟩
  refine aB 7 ?_ [7];refine bC (bu (i+1,aK) _ ⟨aD,(λj hj=>by
      try simp only at hj
      by_cases e:j=i
      ·subst e;exact lD
      ·exact h0 j af),hF.mv,hT.mv,hp.mv,hq.mv,hp2.mv,iq.mv,hx.mv,hy.mv⟩ aD)
 refine aA 3 ?_ [62881531,3];refine aX hx.at_ ?_;refine dE hp.ln ?_;refine aP (λ_=>jR (jq rfl rfl) af) ?_;refine ax 28 ?_ [1];refine bg Tryz.func114 ?_;exact⟨by rw[U6 mY hk2 yx BZ (λj hj=>h0 j af)],hT.o1⟩
end
end Go.Proofs.YtmdhggfehknjjaaGreat
