/- Steps through functions of the program. -/
import Derived.Test.YtmdhggfehknjjaaGreatJM9
import Derived.Test.YtmdhggfehknjjaaGreatJM6E2
import Derived.Test.YtmdhggfehknjjaaGreatJXBR2
set_option maxRecDepth 100000
set_option maxHeartbeats 4000000
namespace Go.Proofs.YtmdhggfehknjjaaGreat
open Go.K Go.K.bn
noncomputable section
theorem Z9 {w₀:World} {C:Nat->Nat} {pr:Int} {aJ df:List Int} {bz vd:Value} {lo hh:Int} {bK:List Int} {e8:Value} {kk:Int} {bR:Nat} {sh:List (List dP)} {ds:List bp} {aC bW:Value} (hF:aF w₀ C) (hW:mg pr aJ df) (ha:aq w₀ (aj C) aJ bz) (hd:aq w₀ (aj C) df vd) (ht:aq w₀ (aj C) bK e8) (hl:aq w₀ (aj C) sh aC) (gF:q_ aJ.length bR sh) (hz:aq w₀ (aj C) ds bW):
   Calls Tryz.prog 35 #[.agg #[.int .i64 pr,bz,vd],e8,.int .i64 kk,.agg #[.int .i64 lo,.int .i64 hh],aC,bW] w₀ (aZ λv w'=>∃bH cH,v=.tuple #[.agg #[bH,cH,.int .i64 (nq ⟨pr,aJ,df,bK⟩ kk bR sh lo hh ds).2.2.2],.int .i64 (nq ⟨pr,aJ,df,bK⟩ kk bR sh lo hh ds).1]/\av [] w₀ C w' C/\aq w' (aj C) (nq ⟨pr,aJ,df,bK⟩ kk bR sh lo hh ds).2.1 bH/\aq w' (aj C) (nq ⟨pr,aJ,df,bK⟩ kk bR sh lo hh ds).2.2.1 cH):=by
 have aO:=hF;replace hF:=hF.aI;replace ha:=ha.c1;replace hd:=hd.c1;replace ht:=ht.c1;replace hl:=hl.c1;replace hz:=hz.c1;refine bG Tryz.func35 ?_;refine aA 2 ?_ [8];refine aR (cu (cs:=[.int .i64 pr,bz,vd]) hF 3 rfl rfl) ?_;rintro _ w1 ⟨cm,bq,rfl,s_1,hw,hF⟩;refine aR (cu (cs:=[.int .i64 lo,.int .i64 hh]) hF 4 rfl rfl) ?_;rintro _ w2 ⟨cw,cM,rfl,s_2,hx,hF⟩;refine aR (dn (cs:=[.slice none 0 0,.slice none 0 0,.int .i64 0]) hF 5 ai) ?_;rintro _ w3 ⟨jd,je,rfl,cq,hy,hF⟩;refine bh 4 ?_ [1006];refine bF 3 ([.int .i64 pr,bz,vd]) hw.mv.at_ ?_;refine ah 3 ?_;refine bD Tryz.call61 (aeq (bR:=bR) hF hW ha.mv hd.mv ht.mv hl.mv gF) ?_;rintro fS w4 ⟨ahd,rfl,cI,hcs⟩;refine ax 12 ?_ [3];refine a_ 29 rfl (λgE=>?_) (λgE=>?_)
 ·
  have iF:=Xw (m:=⟨pr,aJ,df,bK⟩) (lo:=lo) (hh:=hh) (ds:=ds) gE;refine aA 2 ?_ [11];refine aP (λ_=>eW (zs:=[.slice none 0 0,.slice none 0 0,.int .i64 0]) (ps:=[(0,1),(1,1),(2,1)]) (c4:=[]) (cs:=[.slice none 0 0,.slice none 0 0,.int .i64 0]) ai ai trivial rfl) ?_;refine ah 1 ?_;refine bM (cC (vs:=[.slice none 0 0,.slice none 0 0,.int .i64 0]) (n:=3) rfl rfl ai rfl rfl (by intro u hu;simp only[List.mem_cons,List.not_mem_nil,or_false] at hu;rcases hu with rfl|rfl|rfl<;>first|rfl) hy.mv rfl) ?_;rintro _ dc ⟨rfl,de,hy⟩;refine ax 2 ?_;refine kM ai Tryz.func35 Tryz.results35 rfl rfl hy.at_ ai ai rfl ?_;exact⟨.slice none 0 0,.slice none 0 0,by rw[iF]<;>rfl,(z9 w₀ C).o1,by rw[iF];exact eT,by rw[iF];exact eT⟩
 have uF:iy aJ.length bK kk bR sh=0:=Classical.not_not.1 gE;obtain⟨jD,rG⟩:=Pm uF;refine aA 4 ?_ [4];refine bF 2 ([.int .i64 lo,.int .i64 hh]) hx.mv.at_ ?_;refine bD Tryz.call62 (YR hF.mv) ?_;rintro lz ei ⟨rfl,ej⟩;refine ax 7 ?_ [3];refine a_ 35 rfl (λgj=>?_) (λgj=>?_)
 ·
  have iF:=Xx (m:=⟨pr,aJ,df,bK⟩) (ds:=ds) uF gj;refine aA 2 ?_ [11];refine aP (λ_=>eW (zs:=[.slice none 0 0,.slice none 0 0,.int .i64 0]) (ps:=[(0,1),(1,1),(2,1)]) (c4:=[]) (cs:=[.slice none 0 0,.slice none 0 0,.int .i64 0]) ai ai trivial rfl) ?_;refine ah 1 ?_;refine bM (cC (vs:=[.slice none 0 0,.slice none 0 0,.int .i64 0]) (n:=3) rfl rfl ai rfl rfl (by intro u hu;simp only[List.mem_cons,List.not_mem_nil,or_false] at hu;rcases hu with rfl|rfl|rfl<;>first|rfl) hy.mv rfl) ?_;rintro _ w7 ⟨rfl,eS,hy⟩;refine ax 2 ?_;refine kM ai Tryz.func35 Tryz.results35 rfl rfl hy.at_ ai ai rfl ?_;exact⟨.slice none 0 0,.slice none 0 0,by rw[iF]<;>rfl,(z9 w₀ C).o1,by rw[iF];exact eT,by rw[iF];exact eT⟩
 have Eg:oq lo hh=0:=Classical.not_not.1 gj;refine aA 5 ?_ [5];refine bD Tryz.call63 (IL hF.mv hz.mv) ?_;rintro qB fk ⟨rfl,fA⟩;refine ax 7 ?_ [3];refine a_ 41 rfl (λkZ=>?_) (λkZ=>?_)
 ·
  have iF:=Xy (m:=⟨pr,aJ,df,bK⟩) uF Eg kZ;refine aA 2 ?_ [11];refine aP (λ_=>eW (zs:=[.slice none 0 0,.slice none 0 0,.int .i64 0]) (ps:=[(0,1),(1,1),(2,1)]) (c4:=[]) (cs:=[.slice none 0 0,.slice none 0 0,.int .i64 0]) ai ai trivial rfl) ?_;refine ah 1 ?_;refine bM (cC (vs:=[.slice none 0 0,.slice none 0 0,.int .i64 0]) (n:=3) rfl rfl ai rfl rfl (by intro u hu;simp only[List.mem_cons,List.not_mem_nil,or_false] at hu;rcases hu with rfl|rfl|rfl<;>first|rfl) hy.mv rfl) ?_;rintro _ fJ ⟨rfl,fT,hy⟩;refine ax 2 ?_;refine kM ai Tryz.func35 Tryz.results35 rfl rfl hy.at_ ai ai rfl ?_;exact⟨.slice none 0 0,.slice none 0 0,by rw[iF]<;>rfl,(z9 w₀ C).o1,by rw[iF];exact eT,by rw[iF];exact eT⟩
 have Eh:iw ds=0:=Classical.not_not.1 kZ;refine aA 5 ?_ [11];refine bD Tryz.call64 (ad3 hF.mv hl.mv hz.mv (HT Eh)) ?_;rintro v46 gn ⟨gY,hst⟩;refine bh 4 ?_ [502];have dM:=KG (m:=⟨pr,aJ,df,bK⟩) gF sh.length;have hsl:=gF.len;have hmo:Hi ⟨pr,aJ,df,bK⟩:=⟨hW,jD⟩
 replace hcs:=hcs.mv;rw[Lq (m:=⟨pr,aJ,df,bK⟩) uF] at hcs;refine bF 2 ([.int .i64 lo,.int .i64 hh]) hx.mv.at_ ?_;refine ah 2 ?_;refine cz Tryz.call65 rfl (ad9 hF.mv hcs af (Vp gF hmo) (Vn gF) hst) ?_;rintro BW iK ⟨ub,rfl,eY,Cf⟩;refine ax 12 ?_ [3];refine a_ 55 rfl (λnU=>?_) (λnU=>?_)
 ·
  have iF:=Xz (m:=⟨pr,aJ,df,bK⟩) uF Eg Eh nU;refine aA 2 ?_ [11];refine aP (λ_=>eW (zs:=[.slice none 0 0,.slice none 0 0,.int .i64 0]) (ps:=[(0,1),(1,1),(2,1)]) (c4:=[]) (cs:=[.slice none 0 0,.slice none 0 0,.int .i64 0]) ai ai trivial rfl) ?_;refine ah 1 ?_;refine bM (cC (vs:=[.slice none 0 0,.slice none 0 0,.int .i64 0]) (n:=3) rfl rfl ai rfl rfl (by intro u hu;simp only[List.mem_cons,List.not_mem_nil,or_false] at hu;rcases hu with rfl|rfl|rfl<;>first|rfl) hy.mv rfl) ?_;rintro _ iV ⟨rfl,iW,hy⟩;refine ax 2 ?_;refine kM ai Tryz.func35 Tryz.results35 rfl rfl hy.at_ ai ai rfl ?_;exact⟨.slice none 0 0,.slice none 0 0,by rw[iF]<;>rfl,(z9 w₀ C).o1,by rw[iF];exact eT,by rw[iF];exact eT⟩
 have iF:=XA (m:=⟨pr,aJ,df,bK⟩) uF Eg Eh (Classical.not_not.1 nU);refine aA 5 ?_ [91];refine bD Tryz.call17 (Z7 (l:=(qd lo hh (iC sh ds) (ja ⟨pr,aJ,df,bK⟩ sh sh.length))) (ds:=iC sh ds) hF.mv Cf hst.mv) ?_;rintro Is ki ⟨bH,cH,rfl,jx,s7,zb⟩;refine ah 2 ?_;refine bM (cC (vs:=[bH,cH,.int .i64 (wV (qd lo hh (iC sh ds) (ja ⟨pr,aJ,df,bK⟩ sh sh.length)) (iC sh ds))]) (n:=3) rfl rfl ai rfl rfl (by repeat' first|exact gR|refine gT ?_ ?_|rfl|exact(s7.one rfl).2|exact(zb.one rfl).2) hy.mv rfl) ?_;rintro _ kH ⟨rfl,jX,hy⟩;refine ax 2 ?_;refine kM ai Tryz.func35 Tryz.results35 rfl rfl hy.at_ ai ai rfl ?_;exact⟨bH,cH,by rw[iF]<;>rfl,(z9 w₀ C).o1,by rw[iF];exact s7.mv.out (z9 w₀ C).mv aO (er C),by rw[iF];exact zb.mv.out (z9 w₀ C).mv aO (er C)⟩
theorem Z_ {w₀:World} {C:Nat->Nat} {pr:Int} {aJ df:List Int} {bz vd:Value} {lo hh:Int} {bK:List Int} {e8:Value} {kk:Int} {bR:Nat} {sh:List (List dP)} {ds:List bp} {aC bW:Value} (hF:aF w₀ C) (hW:mg pr aJ df) (ha:aq w₀ (aj C) aJ bz) (hd:aq w₀ (aj C) df vd) (ht:aq w₀ (aj C) bK e8) (hl:aq w₀ (aj C) sh aC) (gF:q_ aJ.length bR sh) (hz:aq w₀ (aj C) ds bW):
   Calls Tryz.prog 36 #[.agg #[.int .i64 pr,bz,vd],e8,.int .i64 kk,.agg #[.int .i64 lo,.int .i64 hh],aC,bW] w₀ (aZ λv w'=>∃bH cH,v=.tuple #[.agg #[bH,cH,.int .i64 (nq ⟨pr,aJ,df,bK⟩ kk bR sh lo hh ds).2.2.2],.int .i64 (nq ⟨pr,aJ,df,bK⟩ kk bR sh lo hh ds).1]/\av [] w₀ C w' C/\aq w' (aj C) (nq ⟨pr,aJ,df,bK⟩ kk bR sh lo hh ds).2.1 bH/\aq w' (aj C) (nq ⟨pr,aJ,df,bK⟩ kk bR sh lo hh ds).2.2.1 cH):=by
 have aO:=hF;replace hF:=hF.aI;replace ha:=ha.c1;replace hd:=hd.c1;replace ht:=ht.c1;replace hl:=hl.c1;replace hz:=hz.c1;refine bG Tryz.func36 ?_;refine aA 2 ?_ [8];refine aR (cu (cs:=[.int .i64 pr,bz,vd]) hF 3 rfl rfl) ?_;rintro _ w1 ⟨cm,bq,rfl,s_1,hw,hF⟩;refine aR (cu (cs:=[.int .i64 lo,.int .i64 hh]) hF 4 rfl rfl) ?_;rintro _ w2 ⟨cw,cM,rfl,s_2,hx,hF⟩;refine aR (dn (cs:=[.slice none 0 0,.slice none 0 0,.int .i64 0]) hF 5 ai) ?_;rintro _ w3 ⟨jd,je,rfl,cq,hy,hF⟩;refine bh 4 ?_ [1006];refine bF 3 ([.int .i64 pr,bz,vd]) hw.mv.at_ ?_;refine ah 3 ?_;refine bD Tryz.call66 (ada (bR:=bR) hF hW ha.mv hd.mv ht.mv hl.mv gF) ?_;rintro fS w4 ⟨ahd,rfl,cI,hcs⟩;refine ax 12 ?_ [3];refine a_ 27 rfl (λgM=>?_) (λgM=>?_)
 ·
  have iF:=Xw (m:=⟨pr,aJ,df,bK⟩) (lo:=lo) (hh:=hh) (ds:=ds) gM;refine aA 2 ?_ [11];refine aP (λ_=>eW (zs:=[.slice none 0 0,.slice none 0 0,.int .i64 0]) (ps:=[(0,1),(1,1),(2,1)]) (c4:=[]) (cs:=[.slice none 0 0,.slice none 0 0,.int .i64 0]) ai ai trivial rfl) ?_;refine ah 1 ?_;refine bM (cC (vs:=[.slice none 0 0,.slice none 0 0,.int .i64 0]) (n:=3) rfl rfl ai rfl rfl (by intro u hu;simp only[List.mem_cons,List.not_mem_nil,or_false] at hu;rcases hu with rfl|rfl|rfl<;>first|rfl) hy.mv rfl) ?_;rintro _ dc ⟨rfl,de,hy⟩;refine ax 2 ?_;refine kM ai Tryz.func36 Tryz.results36 rfl rfl hy.at_ ai ai rfl ?_;exact⟨.slice none 0 0,.slice none 0 0,by rw[iF]<;>rfl,(z9 w₀ C).o1,by rw[iF];exact eT,by rw[iF];exact eT⟩
 have uF:iy aJ.length bK kk bR sh=0:=Classical.not_not.1 gM;obtain⟨jD,rG⟩:=Pm uF;refine aA 4 ?_ [4];refine bF 2 ([.int .i64 lo,.int .i64 hh]) hx.mv.at_ ?_;refine bD Tryz.call67 (YT hF.mv) ?_;rintro lz ei ⟨rfl,ej⟩;refine ax 7 ?_ [3];refine a_ 33 rfl (λlV=>?_) (λlV=>?_)
 ·
  have iF:=Xx (m:=⟨pr,aJ,df,bK⟩) (ds:=ds) uF lV;refine aA 2 ?_ [11];refine aP (λ_=>eW (zs:=[.slice none 0 0,.slice none 0 0,.int .i64 0]) (ps:=[(0,1),(1,1),(2,1)]) (c4:=[]) (cs:=[.slice none 0 0,.slice none 0 0,.int .i64 0]) ai ai trivial rfl) ?_;refine ah 1 ?_;refine bM (cC (vs:=[.slice none 0 0,.slice none 0 0,.int .i64 0]) (n:=3) rfl rfl ai rfl rfl (by intro u hu;simp only[List.mem_cons,List.not_mem_nil,or_false] at hu;rcases hu with rfl|rfl|rfl<;>first|rfl) hy.mv rfl) ?_;rintro _ w7 ⟨rfl,eS,hy⟩;refine ax 2 ?_;refine kM ai Tryz.func36 Tryz.results36 rfl rfl hy.at_ ai ai rfl ?_;exact⟨.slice none 0 0,.slice none 0 0,by rw[iF]<;>rfl,(z9 w₀ C).o1,by rw[iF];exact eT,by rw[iF];exact eT⟩
 have Eg:oq lo hh=0:=Classical.not_not.1 lV;refine aA 5 ?_ [5];refine bD Tryz.call68 (QD hF.mv hz.mv) ?_;rintro qB fk ⟨rfl,fA⟩;refine ax 7 ?_ [3];refine a_ 39 rfl (λoU=>?_) (λoU=>?_)
 ·
  have iF:=Xy (m:=⟨pr,aJ,df,bK⟩) uF Eg oU;refine aA 2 ?_ [11];refine aP (λ_=>eW (zs:=[.slice none 0 0,.slice none 0 0,.int .i64 0]) (ps:=[(0,1),(1,1),(2,1)]) (c4:=[]) (cs:=[.slice none 0 0,.slice none 0 0,.int .i64 0]) ai ai trivial rfl) ?_;refine ah 1 ?_;refine bM (cC (vs:=[.slice none 0 0,.slice none 0 0,.int .i64 0]) (n:=3) rfl rfl ai rfl rfl (by intro u hu;simp only[List.mem_cons,List.not_mem_nil,or_false] at hu;rcases hu with rfl|rfl|rfl<;>first|rfl) hy.mv rfl) ?_;rintro _ fJ ⟨rfl,fT,hy⟩;refine ax 2 ?_;refine kM ai Tryz.func36 Tryz.results36 rfl rfl hy.at_ ai ai rfl ?_;exact⟨.slice none 0 0,.slice none 0 0,by rw[iF]<;>rfl,(z9 w₀ C).o1,by rw[iF];exact eT,by rw[iF];exact eT⟩
 have Eh:iw ds=0:=Classical.not_not.1 oU;refine aA 5 ?_ [11];refine bD Tryz.call69 (ad_ hF.mv hl.mv hz.mv (HT Eh)) ?_;rintro v44 gn ⟨gY,hst⟩;refine bh 4 ?_ [502];have dM:=KG (m:=⟨pr,aJ,df,bK⟩) gF sh.length;have hsl:=gF.len;have hmo:Hi ⟨pr,aJ,df,bK⟩:=⟨hW,jD⟩
 replace hcs:=hcs.mv;rw[Lq (m:=⟨pr,aJ,df,bK⟩) uF] at hcs;refine bF 2 ([.int .i64 lo,.int .i64 hh]) hx.mv.at_ ?_;refine ah 2 ?_;refine cz Tryz.call70 rfl (aef hF.mv hcs af (Vp gF hmo) (Vn gF) hst) ?_;rintro BW iK ⟨ub,rfl,eY,Cf⟩;refine ax 12 ?_ [3];refine a_ 53 rfl (λsG=>?_) (λsG=>?_)
 ·
  have iF:=Xz (m:=⟨pr,aJ,df,bK⟩) uF Eg Eh sG;refine aA 2 ?_ [11];refine aP (λ_=>eW (zs:=[.slice none 0 0,.slice none 0 0,.int .i64 0]) (ps:=[(0,1),(1,1),(2,1)]) (c4:=[]) (cs:=[.slice none 0 0,.slice none 0 0,.int .i64 0]) ai ai trivial rfl) ?_;refine ah 1 ?_;refine bM (cC (vs:=[.slice none 0 0,.slice none 0 0,.int .i64 0]) (n:=3) rfl rfl ai rfl rfl (by intro u hu;simp only[List.mem_cons,List.not_mem_nil,or_false] at hu;rcases hu with rfl|rfl|rfl<;>first|rfl) hy.mv rfl) ?_;rintro _ iV ⟨rfl,iW,hy⟩;refine ax 2 ?_;refine kM ai Tryz.func36 Tryz.results36 rfl rfl hy.at_ ai ai rfl ?_;exact⟨.slice none 0 0,.slice none 0 0,by rw[iF]<;>rfl,(z9 w₀ C).o1,by rw[iF];exact eT,by rw[iF];exact eT⟩
 have iF:=XA (m:=⟨pr,aJ,df,bK⟩) uF Eg Eh (Classical.not_not.1 sG);refine aA 5 ?_ [91];refine bD Tryz.call14 (ahc (l:=(qd lo hh (iC sh ds) (ja ⟨pr,aJ,df,bK⟩ sh sh.length))) (ds:=iC sh ds) hF.mv Cf hst.mv) ?_;rintro Is ki ⟨bH,cH,rfl,jx,s7,zb⟩;refine ah 2 ?_;refine bM (cC (vs:=[bH,cH,.int .i64 (wV (qd lo hh (iC sh ds) (ja ⟨pr,aJ,df,bK⟩ sh sh.length)) (iC sh ds))]) (n:=3) rfl rfl ai rfl rfl (by repeat' first|exact gR|refine gT ?_ ?_|rfl|exact(s7.one rfl).2|exact(zb.one rfl).2) hy.mv rfl) ?_;rintro _ kH ⟨rfl,jX,hy⟩;refine ax 2 ?_;refine kM ai Tryz.func36 Tryz.results36 rfl rfl hy.at_ ai ai rfl ?_;exact⟨bH,cH,by rw[iF]<;>rfl,(z9 w₀ C).o1,by rw[iF];exact s7.mv.out (z9 w₀ C).mv aO (er C),by rw[iF];exact zb.mv.out (z9 w₀ C).mv aO (er C)⟩
theorem Mc {w₀:World} {C:Nat->Nat} {s:List au} {l:List aH} {vs aC:Value} (hF:aF w₀ C) (hs0:aq w₀ (aj C) s vs) (hl:aq w₀ (aj C) l aC) (lF:l.length<=4096):Calls Tryz.prog 86 #[vs,aC] w₀ (aZ λv w'=>av [] w₀ C w' C/\aq w' (aj C) (ry s l) v):=by
 have aO:=hF;replace hF:=hF.aI;replace hs0:=hs0.c1;replace hl:=hl.c1;refine bG Tryz.func86 ?_;refine aA 12 ?_ [1,1,7];refine dE hl.ln ?_;refine ax 3 ?_;refine cg (ι:=Nat×Value×(Nat->Nat)) (λx w=>x.1<=l.length/\aF w x.2.2/\av [2,3,4,5,6,7,8,9] w₀ (aI C) w x.2.2/\aq w (aj x.2.2) s vs/\aq w (aj x.2.2) l aC/\aQ w x.2.2 4 58 x.2.1 (ry s (l.take x.1))) (λx=>[(0,vs),(5,x.2.1),(8,aC),(9,.int .i64 l.length),(10,.int .i64 x.1)]) (λx=>l.length-x.1) (0,.slice none 0 0,aI C) ?_ ?_
 · exact⟨Nat.zero_le _,hF,(z9 w₀ C),hs0,hl,aQ.nil⟩
 intro⟨k,ct,aK⟩ w1 hI bu;obtain⟨hk,hF,hT,hs0,hl,ho⟩:=hI;try simp only at hk hF hT hs0 hl ho
 show Run _ _ _ _ [(0,vs),(5,ct),(8,aC),(9,.int .i64 l.length),(10,.int .i64 k)] _ _;have hle:=hl.le;have hel:=aae (s:=s) (l:=l) k;refine aB 5 ?_ [1];refine a_ 11 rfl (λjB=>?_) (λjB=>?_)
 ·
  have ay:k<l.length:=by omega
  have en:=aad (s:=s) ay;refine aA 5 ?_ [1];refine aL hl ?_;intro _ QI QJ h12;refine gJ h12 ?_;intro D5 g13;obtain rfl:=jU.1 g13;refine aR (dn (cs:=[.int .i64 0,.int .i64 0,.int .i64 0,.int .i64 0,.int .i64 0]) hF 5 ai) ?_;rintro _ w2 ⟨cw,cM,rfl,s_1,bI,hF⟩;refine bM (cC (vs:=jT (l[k]'ay)) (n:=5) rfl rfl ai rfl rfl (fE rfl) bI rfl) ?_;rintro _ w3 ⟨rfl,s_2,bI⟩;refine ax 2 ?_;by_cases hA: (l[k]'ay).A∈s
  ·
   refine aA 3 ?_ [627,0];refine bF 2 (aV (l[k]'ay).A) bI.at_ ?_;refine bD Tryz.call49 (jN (c:=(l[k]'ay).A) hF.mv hs0.mv) ?_;rintro fS w4 ⟨rfl,cq⟩;rw[jO,decide_eq_true hA];refine bh 10 ?_ [17];refine bF 5 (jT (l[k]'ay)) bI.mv.at_ ?_;refine aR (ez (ys:=([l[k]'ay]:List aH)) (e:=58) (bytes:=40) hF.mv ai rfl ak ak ⟨rfl,⟨_,rfl,jU.2 rfl⟩,trivial⟩) ?_;rintro v26 dc ⟨cI,sD,hF⟩;refine aR (eO (e:=58) (bytes:=40) hF ak rfl rfl ai ak ho.mv sD dH dH) ?_;rintro y6 ei ⟨yd,de,ho,hF⟩;refine ax 7 ?_ [3];rw[if_pos (.inl hA)] at en;refine bC (bu (k+1,y6,yd) _ ⟨aD,hF,hT.mv,hs0.mv,hl.mv,(by simp only;rw[en];exact ho)⟩ aD)
  by_cases hB: (l[k]'ay).B∈s
  ·
   refine aA 3 ?_ [627,0];refine bF 2 (aV (l[k]'ay).A) bI.at_ ?_;refine bD Tryz.call49 (jN (c:=(l[k]'ay).A) hF.mv hs0.mv) ?_;rintro jJ w7 ⟨rfl,ej⟩;rw[jO,decide_eq_false hA];refine ah 3 ?_ [2];refine bF 2 (aV (l[k]'ay).B) bI.mv.at_ ?_;refine bD Tryz.call49 (jN (c:=(l[k]'ay).B) hF.mv hs0.mv) ?_;rintro qB fk ⟨rfl,eS⟩;rw[jO,decide_eq_true hB];refine bh 5 ?_ [17];refine bF 5 (jT (l[k]'ay)) bI.mv.at_ ?_;refine aR (ez (ys:=([l[k]'ay]:List aH)) (e:=58) (bytes:=40) hF.mv ai rfl ak ak ⟨rfl,⟨_,rfl,jU.2 rfl⟩,trivial⟩) ?_;rintro v26 fJ ⟨fA,sD,hF⟩;refine aR (eO (e:=58) (bytes:=40) hF ak rfl rfl ai ak ho.mv sD dH dH) ?_;rintro y6 gn ⟨yG,fT,ho,hF⟩;refine ax 7 ?_ [3];rw[if_pos (.inr hB)] at en;refine bC (bu (k+1,y6,yG) _ ⟨aD,hF,hT.mv,hs0.mv,hl.mv,(by simp only;rw[en];exact ho)⟩ aD)
  refine aA 3 ?_ [627,0];refine bF 2 (aV (l[k]'ay).A) bI.at_ ?_;refine bD Tryz.call49 (jN (c:=(l[k]'ay).A) hF.mv hs0.mv) ?_;rintro BW iK ⟨rfl,gY⟩;rw[jO,decide_eq_false hA];refine ah 3 ?_ [2];refine bF 2 (aV (l[k]'ay).B) bI.mv.at_ ?_;refine bD Tryz.call49 (jN (c:=(l[k]'ay).B) hF.mv hs0.mv) ?_;rintro yT iV ⟨rfl,eY⟩;rw[jO,decide_eq_false hB];refine ax 9 ?_ [3];rw[if_neg (λh=>h.elim hA hB)] at en;refine bC (bu (k+1,ct,cw) _ ⟨aD,hF.mv,hT.mv,hs0.mv,hl.mv,(by simp only;rw[en];exact ho.mv)⟩ aD)
 have ay:k=l.length:=by omega
 rw[ay,List.take_length] at ho hel;refine aB 6 ?_ [3];refine bg Tryz.func86 ?_;exact⟨hT.o1,ho.out hT aO (er C) (λb _=>gI C ak b) af⟩
theorem ahe {w₀:World} {C:Nat->Nat} {x y:CC} (hF:aF w₀ C):Calls Tryz.prog 147 #[.agg (r_ x).toArray,.agg (r_ y).toArray] w₀ (aZ λv w'=>v=.int .i64 (yf x y)/\av [] w₀ C w' C):=by
 have aO:=hF;replace hF:=hF.aI;refine bG Tryz.func147 ?_;refine aA 2 ?_ [4];refine aR (cu (cs:=r_ x) hF 3 rfl rfl) ?_;rintro _ w1 ⟨cm,bq,rfl,s_1,hx,hF⟩;refine aR (cu (cs:=r_ y) hF 3 rfl rfl) ?_;rintro _ w2 ⟨cw,cM,rfl,s_2,hy,hF⟩;refine ax 3 ?_;refine bX [] (cw) [1,3,5,7,11,13,15,17,8,18,20,22,25] bP ?_;intro w3 cq;refine ah 1 ?_ [0];refine c7 2 (aV x.1) hx.mv.sz ?_;refine ah 1 ?_ [0];refine c7 2 (aV y.1) hy.mv.sz ?_;refine ah 1 ?_ [2];refine c7 2 (aV x.2) hx.mv.sz ?_;refine ah 1 ?_ [2];refine c7 2 (aV y.2) hy.mv.sz ?_;refine dC Tryz.call53 (yX (x:=x.1) (y:=y.1) hF.mv) ?_;rintro fS w4 ⟨rfl,cI⟩;refine⟨aW,?_⟩;refine dC Tryz.call53 (yX (x:=x.2) (y:=y.2) hF.mv) ?_;rintro kf dc ⟨rfl,de⟩;refine⟨aW,?_⟩;refine c5 (ez (ys:=([j9 x.1 y.1,j9 x.2 y.2]:List Int)) (e:=3) (bytes:=8) hF.mv ai rfl ak ak ⟨rfl,⟨_,rfl,cO.2 rfl⟩,rfl,⟨_,rfl,cO.2 rfl⟩,trivial⟩) ?_;rintro r7 ei ⟨ej,g15,hF⟩;refine⟨aW,?_⟩;refine dC Tryz.call96 (LO g15) ?_;rintro jJ w7 ⟨rfl,rfl⟩;refine⟨aW,?_⟩;refine ax 2 ?_;refine bg Tryz.func147 ?_;exact⟨rfl,(z9 w₀ C).o1⟩
theorem RZ (x y:CC):Go.Proofs.ltOf yf x y=!si y x:=by unfold si Go.Proofs.ltOf;simp
theorem Mq {x y:CC}:Go.Proofs.ltOf yf x y=true↔sg x y:=by rw[RZ,Bool.not_eq_true',Bool.eq_false_iff,ne_eq,yg,Classical.not_not]
theorem ahf:Go.Sort.SWO (Go.Proofs.ltOf yf) where
 irrefl x:=by rw[Bool.eq_false_iff,ne_eq,Mq];exact Fi x
 trans x y z h h':=Mq.2 (HD (Mq.1 h) (Mq.1 h'))
 ntrans x y z h h':=by
  rw[RZ,Bool.not_eq_false'] at h h'⊢;exact Wi z y x h' h
theorem ahg (x y:CC) (h:Go.Proofs.ltOf yf x y=false) (h':Go.Proofs.ltOf yf y x=false):x=y:=by
 rw[RZ,Bool.not_eq_false'] at h h';exact Wh x y h' h
theorem ahh {w:World} {C:Nat->Nat} {j:Nat} {v:Value} {ys:List CC} (hF:aF w C) (ho:aQ w C j 138 v ys) (hlen:ys.length<=140737488355328):
  Calls Tryz.prog 146 #[v,.func (.func 147) #[] #[]] w (aZ λu w'=>u=.tuple #[]/\av [j] w C w' C/\aQ w' C j 138 v (sortCC ys)/\aF w' C):=
 XD (enc:=r_) (cf:=yf) Go.Proofs.Tryz.sortCC (λw=>Tryz.isAgg138 w) (λw=>Tryz.sizeOf138 w)
  (λh M x vs=>K6) (λx=>rfl) ak (λx u hu=>by simp only[r_,List.mem_cons,List.not_mem_nil,or_false] at hu;rcases hu with rfl|rfl|rfl|rfl<;>rfl) ahf ahg (λargs w=>Tryz.call147 args w)
  (λW x y=>(ahe (C:=λ_=>0) (λb hb=>absurd rfl hb)).mono (by rintro e w' ⟨u,rfl,rfl,hs⟩;exact⟨_,rfl,rfl,hs.ext.mono (λb _ hb=>by simp at hb)⟩)) hF ho hlen
theorem ahi {w₀:World} {C:Nat->Nat} {j:Nat} {v:Value} {xs:List CC} (hF:aF w₀ C) (hj:j≠0) (ho:aQ w₀ C j 138 v xs) (hlen:xs.length<=140737488355328):
    Calls Tryz.prog 148 #[v] w₀ (aZ λu w'=>av [j] w₀ C w' C/\aQ w' C j 138 u (iI xs)/\aF w' C):=by
 refine bG Tryz.func148 ?_;refine aA 8 ?_ [1,7];refine dE ho.ln ?_;refine ax 2 ?_;refine a_ 8 rfl (λh8=>?_) (λh8=>?_)
 ·
  have hx:iI xs=xs:=by
    match xs,h8 with
    |[],_=>rfl
    |[a],_=>rfl
    |a::b::l,h=>simp at h;omega
  refine aB 5 ?_ [3];refine bg Tryz.func148 ?_;exact⟨(av.refl [j] w₀ C),by rw[hx];exact ho,hF⟩
 have h2:2<=xs.length:=by omega
 have r8:iI (xs.take 1)=xs.take 1:=by
   obtain⟨a,l,rfl⟩:∃a l,xs=a::l:=by cases xs with|nil=>simp at h2|cons a l=>exact⟨a,l,rfl⟩
   simp[iI]
 refine aB 7 ?_ [1];refine cg (ι:=Nat) (λx w=>1<=x/\x<=xs.length/\iI (xs.take x)=xs.take x/\aF w C/\av [j] w₀ C w C/\aQ w C j 138 v xs) (λx=>[(0,v),(3,.int .i64 x)]) (λx=>xs.length-x) 1 ?_ ?_
 · exact⟨Nat.le_refl _,by first|omega|(simp only;omega),r8,hF,(av.refl [j] w₀ C),ho⟩
 intro k w1 hI bu;obtain⟨mY,hk,hc,hF,hT,ho⟩:=hI;try simp only at mY hk hc hF hT ho
 show Run _ _ _ _ [(0,v),(3,.int .i64 k)] _ _;refine aA 5 ?_ [15];refine dE ho.ln ?_;refine ax 2 ?_;refine a_ 13 rfl (λjc=>?_) (λjc=>?_)
 ·
  have ay:k<xs.length:=by omega
  have xl:=J4 mY ay;refine aB 4 ?_;refine bX [] (C) [1,3,5,7,9,11,13,15,17,19] bP ?_;intro w2 s_1;refine ah 2 ?_;refine c6 ho.mv ?_;intro g18 Qs;refine qU ho.mv Qs ?_;intro _ yY g19;refine ah 3 ?_;refine c6 ho.mv ?_;intro g23 IB;refine qU ho.mv IB ?_;intro _ v24 g24;obtain rfl:=Dx.1 g19;obtain rfl:=Dx.1 g24;refine aP (λ_=>aaf (a:=_) (b:=_) (O2 Tryz.underlying138 ak ak ai Tryz.underlying55 ak ak ai Tryz.underlying3 ai ai) ai rfl rfl) ?_;refine ax 1 ?_;refine a_ 25 rfl (λgw=>?_) (λgw=>?_)
  ·
   have hd:xs[k-1]'af=xs[k]:=by
     have e: ((k:Int)-1).toNat=k-1:=by omega
     simp only[e] at gw;exact gw.symm
   rw[if_pos hd,hc] at xl;refine aA 4 ?_ [15];refine nz ?_;refine JY (e':=138) (fq 28 (.slice 136 26 (some 27) none none)) rfl rfl ho.mv rfl ai rfl af af ?_;intro v28 gG;try simp only[fh] at gG
   obtain⟨adB,uv⟩:=ho.mv.JX af;refine ck ?_;refine ax 8 ?_ [1];refine cg (ι:=Nat×Nat×(List CC)) (λx w=>1<=x.1/\k+x.1<=xs.length/\x.2.2.length=xs.length/\x.2.1+1<=k+x.1/\(∀p (hp:p<xs.length) (hp2:p<x.2.2.length),k+x.1<=p+1->x.2.2[p]=xs[p])/\x.2.2.take x.2.1=iI (xs.take (k+x.1))/\aF w C/\av [j] w₀ C w C/\aQ w C j 138 v x.2.2) (λx=>[(0,v),(3,.int .i64 x.2.1),(4,v28),(5,.int .i64 x.1)]) (λx=>xs.length-k-x.1) (1,k,xs) ?_ ?_
   · exact⟨Nat.le_refl _,by first|omega|(simp only;omega),rfl,by first|omega|(simp only;omega),λp _ _ _=>rfl,xl.symm,hF.mv,hT.mv,ho.mv⟩
   intro⟨q,i,ys⟩ w3 hI eD;obtain⟨hq1,hq,yU,hi,hys,pn,hF,hT,ho⟩:=hI;try simp only at hq1 hq yU hi hys pn hF hT ho
   show Run _ _ _ _ [(0,v),(3,.int .i64 i),(4,v28),(5,.int .i64 q)] _ _;refine aA 5 ?_ [15];refine dE gG.ln ?_;refine ax 2 ?_;refine a_ 32 rfl (λgA=>?_) (λgA=>?_)
   ·
    have cD:k+q<xs.length:=by omega
    have Az:=J4 (l:=xs) (k:=k+q) af cD;have e1:k+((q:Int)-1).toNat=k+q-1:=by omega
    refine aB 4 ?_;refine bX [] (C) [1,3,5,7,9,11,13,15,17,19] bP ?_;intro w4 s_2;refine ah 2 ?_;refine aP (λ_=>EG (e':=138) gG uv ai rfl rfl af af) ?_;try simp only[fh]
    refine qU ho.mv uv ?_;intro _ uZ jK;refine ah 3 ?_;refine aP (λ_=>EG (e':=138) gG uv ai rfl rfl af af) ?_;try simp only[fh]
    refine qU ho.mv uv ?_;intro _ B6 yZ;obtain rfl:=Dx.1 jK;obtain rfl:=Dx.1 yZ;refine aP (λ_=>Wp (a:=_) (b:=_) (O2 Tryz.underlying138 ak ak ai Tryz.underlying55 ak ak ai Tryz.underlying3 ai ai) ai rfl rfl) ?_;refine ax 1 ?_;refine a_ 44 rfl (λiQ=>?_) (λiQ=>?_)
    ·
     have r1:=hys (k+q) af af af;have r2:=hys (k+q-1) af af af;have hd:¬xs[k+q-1]'af=xs[k+q]:=by
       simp only[e1,r1,r2] at iQ;exact λe=>iQ e.symm
     rw[if_neg hd,<-pn] at Az;refine aA 6 ?_ [95];refine aP (λ_=>EG (e':=138) gG uv ai rfl rfl af af) ?_;try simp only[fh]
     refine JV ho.mv uv ?_;intro _ v50 ku;refine c6 ho.mv ?_;intro lT mP;refine bM (gQ ho.mv mP (by first|omega|(simp only[fh];omega)) rfl rfl ai ku) ?_;rintro _ dc ⟨rfl,cq,ho⟩;refine ax 12 ?_ [7,7];refine bC (eD (q+1,i+1,ys.set i ys[k+q]) _ ⟨aD,aD,(by simp only[List.length_set];exact yU),aD,(λp hp hp2 h=>by simp only[List.getElem_set];rw[if_neg af];exact hys p hp af af),(by simp only;rw[List.take_succ_eq_append_getElem (by rw[List.length_set];omega),List.take_set_of_le (Nat.le_refl i),List.getElem_set_self,r1];exact Az.symm),hF.mv,hT.mv,ho⟩ aD)
    have r1:=hys (k+q) af af af;have r2:=hys (k+q-1) af af af;have hd:xs[k+q-1]'af=xs[k+q]:=by
      simp only[e1,r1,r2] at iQ;exact(Classical.not_not.1 iQ).symm
    rw[if_pos hd,<-pn] at Az;refine aB 7 ?_ [7];refine bC (eD (q+1,i,ys) _ ⟨aD,aD,aD,aD,(λp hp hp2 h=>hys p hp hp2 (by simp only at h;omega)),Az.symm,hF.mv,hT.mv,ho.mv⟩ aD)
   have cD:k+q=xs.length:=by omega
   rw[cD,List.take_length] at pn;refine aA 5 ?_ [7];refine nz ?_;refine JY (e':=138) (fq 56 (.slice 136 54 (some 55) none none)) rfl rfl ho rfl ai rfl af af ?_;intro DS xm;try simp only[fh] at xm
   obtain⟨adC,adD⟩:=ho.JX af;refine ck ?_;refine bM (TI (x0:=(⟨⟨0,0⟩,⟨0,0⟩⟩:CC)) (zs:=[.int .i64 0,.int .i64 0,.int .i64 0,.int .i64 0]) ho xm af af Tryz.underlying136 ai (λh M=>aag) rfl) ?_;rintro _ wc ⟨cI,ho⟩;refine bh 5 ?_ [15];have adE: (ys.take i++List.replicate (ys.length-i) (⟨⟨0,0⟩,⟨0,0⟩⟩:CC)).length=xs.length:=by simp;omega
   refine nz ?_;refine Nf (e':=138) (fq 59 (.slice 136 57 none (some 58) none)) rfl rfl ho rfl ai rfl af af af ?_;intro v59 uw;try simp only[fh] at uw
   refine ck ?_;refine ax 2 ?_;refine bg Tryz.func148 ?_;rw[List.take_left' tA,pn] at uw;exact⟨hT.mv,uw,hF.mv⟩
  have hd:¬xs[k-1]'af=xs[k]:=by
    have e: ((k:Int)-1).toNat=k-1:=by omega
    simp only[e] at gw;exact λe=>gw e.symm
  rw[if_neg hd,hc,<-List.take_succ_eq_append_getElem ay] at xl;refine aB 7 ?_ [7];refine bC (bu (k+1) _ ⟨aD,aD,xl,hF.mv,hT.mv,ho.mv⟩ aD)
 have ay:k=xs.length:=by omega
 subst ay;rw[List.take_length] at hc;refine aB 6 ?_ [3];refine bg Tryz.func148 ?_;rw[hc];exact⟨hT,ho,hF⟩
theorem RV {w₀:World} {C:Nat->Nat} {s:List au} {ds:List bp} {vs bW:Value} (hF:aF w₀ C) (hs0:aq w₀ (aj C) s vs) (hz:aq w₀ (aj C) ds bW) (Ce:ds.length<=4096):Calls Tryz.prog 88 #[vs,bW] w₀ (aZ λv w'=>av [] w₀ C w' C/\aq w' (aj C) (u6 s ds) v):=by
 have aO:=hF;replace hF:=hF.aI;replace hs0:=hs0.c1;replace hz:=hz.c1;refine bG Tryz.func88 ?_;refine aA 12 ?_ [1,1,7];refine dE hz.ln ?_;refine ax 3 ?_;refine cg (ι:=Nat×Value×(Nat->Nat)) (λx w=>x.1<=ds.length/\aF w x.2.2/\av [2,3,4,5,6,7,8,9] w₀ (aI C) w x.2.2/\aq w (aj x.2.2) s vs/\aq w (aj x.2.2) ds bW/\aQ w x.2.2 4 138 x.2.1 (u5 s (ds.take x.1))) (λx=>[(0,vs),(5,x.2.1),(8,bW),(9,.int .i64 ds.length),(10,.int .i64 x.1)]) (λx=>ds.length-x.1) (0,.slice none 0 0,aI C) ?_ ?_
 · exact⟨Nat.zero_le _,hF,(z9 w₀ C),hs0,hz,aQ.nil⟩
 intro⟨k,ct,aK⟩ w1 hI bu;obtain⟨hk,hF,hT,hs0,hz,ho⟩:=hI;try simp only at hk hF hT hs0 hz ho
 show Run _ _ _ _ [(0,vs),(5,ct),(8,bW),(9,.int .i64 ds.length),(10,.int .i64 k)] _ _;have hle:=hz.le;have hel:=Wm (s:=s) (ds:=ds) k;refine aB 5 ?_ [1];refine a_ 11 rfl (λjB=>?_) (λjB=>?_)
 ·
  have ay:k<ds.length:=by omega
  have en:=C7 (s:=s) ay;refine aA 5 ?_ [1];refine aL hz ?_;intro _ QI QJ h12;refine gJ h12 ?_;intro D5 g13;obtain rfl:=rZ.1 g13;refine aR (dn (cs:=[.int .i64 0,.int .i64 0,.int .i64 0,.int .i64 0,.int .i64 0,.int .i64 0,.bool false]) hF 5 ai) ?_;rintro _ w2 ⟨cw,cM,rfl,s_1,bI,hF⟩;refine bM (cC (vs:=mI (ds[k]'ay)) (n:=7) rfl rfl ai rfl rfl (fE rfl) bI rfl) ?_;rintro _ w3 ⟨rfl,s_2,bI⟩;refine ax 2 ?_;by_cases hS: (ds[k]'ay).same=true
  ·
   refine aA 2 ?_ [20285,6];refine aX bI.at_ ?_;rw[hS];refine ax 21 ?_ [3];rw[if_neg (by unfold BJ;simp[hS])] at en;refine bC (bu (k+1,ct,cw) _ ⟨aD,hF.mv,hT.mv,hs0.mv,hz.mv,(by simp only;rw[en];exact ho.mv)⟩ aD)
  by_cases hA: (ds[k]'ay).A∈s
  ·
   by_cases hB: (ds[k]'ay).B∈s
   ·
    refine aA 2 ?_ [20285,6];refine aX bI.at_ ?_;rw[(Bool.eq_false_iff.2 hS)];refine ah 4 ?_ [0];refine bF 2 (aV (ds[k]'ay).A) bI.at_ ?_;refine bD Tryz.call49 (jN (c:=(ds[k]'ay).A) hF.mv hs0.mv) ?_;rintro fS w4 ⟨rfl,cq⟩;rw[jO,decide_eq_true hA];refine ah 4 ?_ [2];refine bF 2 (aV (ds[k]'ay).B) bI.mv.at_ ?_;refine bD Tryz.call49 (jN (c:=(ds[k]'ay).B) hF.mv hs0.mv) ?_;rintro kf dc ⟨rfl,cI⟩;rw[jO,decide_eq_true hB];refine bh 6 ?_ [299,0];refine bF 2 (aV (ds[k]'ay).A) bI.mv.at_ ?_;refine ah 1 ?_ [2];refine bF 2 (aV (ds[k]'ay).B) bI.mv.at_ ?_;refine aP (λ_=>eW (zs:=[.int .i64 0,.int .i64 0,.int .i64 0,.int .i64 0]) (ps:=[(0,2),(2,2)]) (c4:=[(0,aV (ds[k]'ay).A),(1,aV (ds[k]'ay).B)]) (cs:=r_ ((ds[k]'ay).A,(ds[k]'ay).B)) ai ai (by exact⟨rfl,⟨_,rfl,rfl⟩,rfl,⟨_,rfl,rfl⟩,trivial⟩) rfl) ?_;refine aR (ez (ys:=([((ds[k]'ay).A,(ds[k]'ay).B)]:List CC)) (e:=138) (bytes:=32) hF.mv ai rfl ak ak ⟨rfl,⟨_,rfl,Dx.2 rfl⟩,trivial⟩) ?_;rintro v35 ei ⟨de,o7,hF⟩;refine aR (eO (e:=138) (bytes:=32) hF ak rfl rfl ai ak ho.mv o7 dH dH) ?_;rintro xq w7 ⟨qg,ej,ho,hF⟩;refine ax 7 ?_ [3];rw[if_pos (by unfold BJ;simp[Bool.eq_false_iff.2 hS,hA,hB])] at en;refine bC (bu (k+1,xq,qg) _ ⟨aD,hF,hT.mv,hs0.mv,hz.mv,(by simp only;rw[en];exact ho)⟩ aD)
   refine aA 2 ?_ [20285,6];refine aX bI.at_ ?_;rw[(Bool.eq_false_iff.2 hS)];refine ah 4 ?_ [0];refine bF 2 (aV (ds[k]'ay).A) bI.at_ ?_;refine bD Tryz.call49 (jN (c:=(ds[k]'ay).A) hF.mv hs0.mv) ?_;rintro qB fk ⟨rfl,eS⟩;rw[jO,decide_eq_true hA];refine ah 4 ?_ [2];refine bF 2 (aV (ds[k]'ay).B) bI.mv.at_ ?_;refine bD Tryz.call49 (jN (c:=(ds[k]'ay).B) hF.mv hs0.mv) ?_;rintro vE fJ ⟨rfl,fA⟩;rw[jO,decide_eq_false hB];refine ax 9 ?_ [3];rw[if_neg (by unfold BJ;simp[hB])] at en;refine bC (bu (k+1,ct,cw) _ ⟨aD,hF.mv,hT.mv,hs0.mv,hz.mv,(by simp only;rw[en];exact ho.mv)⟩ aD)
  refine aA 2 ?_ [20285,6];refine aX bI.at_ ?_;rw[(Bool.eq_false_iff.2 hS)];refine ah 4 ?_ [0];refine bF 2 (aV (ds[k]'ay).A) bI.at_ ?_;refine bD Tryz.call49 (jN (c:=(ds[k]'ay).A) hF.mv hs0.mv) ?_;rintro vK gn ⟨rfl,fT⟩;rw[jO,decide_eq_false hA];refine ax 15 ?_ [3];rw[if_neg (by unfold BJ;simp[hA])] at en;refine bC (bu (k+1,ct,cw) _ ⟨aD,hF.mv,hT.mv,hs0.mv,hz.mv,(by simp only;rw[en];exact ho.mv)⟩ aD)
 have ay:k=ds.length:=by omega
 rw[ay,List.take_length] at ho hel;refine aA 4 ?_ [1];refine cz Tryz.call146 rfl (ahh hF ho af) ?_;rintro BW iK ⟨rfl,gY,ho,hF⟩;have hsl:=Wk (u5 s ds);refine bh 4 ?_ [5];refine cz Tryz.call148 rfl (ahi hF ak ho af) ?_;rintro yT iV ⟨eY,ho,hF⟩;have zV:=aac (s:=s) (ds:=ds);refine ax 2 ?_;refine bg Tryz.func88 ?_;exact⟨hT.o1,ho.out hT.mv aO (er C) (λb _=>gI C ak b) (by show(u6 s ds).length<=_;omega)⟩
theorem ahj {h:Array Obj} {M:Nat->Prop}:rep h M ([]:List au) [.slice none 0 0]:=⟨none,0,rfl,Nat.le_refl _,by simp,.inl rfl⟩
theorem ahk {l:List (List au)} {k:Nat} (h:k<l.length): (l.take k++List.replicate (l.length-k) []).set k l[k]=l.take (k+1)++List.replicate (l.length-(k+1)) []:=by
 have h1: (l.take k).length=k:=by simp;omega
 rw[List.set_append_right _ _ af,h1,Nat.sub_self,show l.length-k=(l.length-(k+1))+1 from by omega,List.replicate_succ,List.set_cons_zero,List.take_succ_eq_append_getElem h,List.append_assoc];rfl
theorem ahl {w₀:World} {C:Nat->Nat} {j c0:Nat} (hF:aF w₀ C):Calls Tryz.prog 92 #[.slice none 0 c0,.func (.func 93) #[] #[]] w₀ (aZ λv w'=>∃aG,av [] w₀ C w' aG/\aF w' aG/\aQ w' aG j 52 v ([]:List (List au))):=by
 refine bG Tryz.func92 ?_;refine aA 8 ?_ [1,3];refine aP (λ_=>OO rfl Tryz.underlying24) ?_;refine ax 6 ?_ [1];refine bg Tryz.func92 ?_;exact⟨C,av.refl _ _ _,hF,aQ.nil⟩
theorem ahm {w₀:World} {C:Nat->Nat} {l:List (List au)} {aC:Value} {j:Nat} {b0:Addr} {n0 c0:Nat} (ox:aC=.slice (some b0) n0 c0) (hF:aF w₀ C) (hl:aq w₀ (aj C) l aC) (kE:∀x∈l,x.length<=1000000) (hlen:l.length<=1000000) (hj:j≠0):Calls Tryz.prog 92 #[aC,.func (.func 93) #[] #[]] w₀ (aZ λv w'=>∃aG,av [] w₀ C w' aG/\aF w' aG/\aQ w' aG j 52 v l):=by
 have aO:=hF;replace hF:=hF.aI;replace hl:=hl.c1;refine bG Tryz.func92 ?_;refine aA 8 ?_ [1,3];refine aP (λ_=>Du ((show _=some aC from rfl).trans (congrArg some ox)) Tryz.underlying24) ?_;refine bh 6 ?_ [11];refine dE hl.ln ?_;refine aR (Bc (e:=52) (bytes:=24) (x0:=([]:List au)) (zs:=[.slice none 0 0]) hF (j:=3) ak ai ai rfl rfl (Nat.le_refl _) af af (λh M=>ahj)) ?_;rintro v12 w1 ⟨cm,s_1,ho,hF⟩;refine bh 6 ?_ [7];refine dE hl.mv.ln ?_;refine ax 3 ?_;refine cg (ι:=Nat×(Nat->Nat)) (λx w=>x.1<=l.length/\aF w x.2/\av [2,3,4,5,6,7,8,9] w₀ (aI C) w x.2/\aq w (aj x.2) l aC/\aQ w x.2 3 52 v12 (l.take x.1++List.replicate (l.length-x.1) [])) (λx=>[(1,.func (.func 93) #[] #[]),(5,v12),(13,aC),(14,.int .i64 l.length),(15,.int .i64 x.1)]) (λx=>l.length-x.1) (0,cm) ?_ ?_
 · exact⟨Nat.zero_le _,hF,(z9 w₀ C).mv,hl.mv,by simpa using ho⟩
 intro⟨k,aK⟩ w2 hI bu;obtain⟨hk,hF,hT,hl,ho⟩:=hI;try simp only at hk hF hT hl ho
 show Run _ _ _ _ [(1,.func (.func 93) #[] #[]),(5,v12),(13,aC),(14,.int .i64 l.length),(15,.int .i64 k)] _ _;have hle:=hl.le;have wB: (l.take k++List.replicate (l.length-k) []).length=l.length:=by simp;omega
 refine aB 5 ?_ [1];refine a_ 16 rfl (λcZ=>?_) (λcZ=>?_)
 ·
  have ay:k<l.length:=by omega
  have DY:=kE _ (List.getElem_mem ay);refine aA 6 ?_ [27];refine aL hl ?_;intro _ Z4 Z5 lW;refine dW lW ?_;intro yY g19;refine bh 8 ?_ [47];refine nz ?_;refine Bb (fq 24 (.call {callee:=.value 22,args:=#[23],argTypes:=#[52]})) rfl rfl (rM (λargs w=>Tryz.call93 args w) rfl rfl) (ahb hF g19 DY) ?_;rintro iu w3 ⟨s_2,hn⟩;refine ck ?_;refine c6 ho.mv ?_;intro lY Ra;refine bM (gQ ho.mv Ra af rfl rfl ai hn) ?_;rintro _ w4 ⟨rfl,cq,ho⟩;refine ax 6 ?_ [3];refine bC (bu (k+1,aK) _ ⟨aD,hF.mv,hT.mv,hl.mv,(by simp only;rw[<-ahk ay];exact ho)⟩ aD)
 have ay:k=l.length:=by omega
 refine aB 6 ?_ [3];refine bg Tryz.func92 ?_;rw[ay,List.take_length,Nat.sub_self,List.replicate_zero,List.append_nil] at ho;obtain⟨rH,qe,hFg,FP,ud⟩:=ho.mG hT aO (er C) (λb _=>gI C ak b) ak j hj;exact⟨rH,(hT.o1).mG qe,hFg,ud⟩
theorem ahn {w₀:World} {C:Nat->Nat} {l:List (List au)} {aC:Value} {j:Nat} (hF:aF w₀ C) (hl:aq w₀ (aj C) l aC) (kE:∀x∈l,x.length<=1000000) (hlen:l.length<=1000000) (hj:j≠0):Calls Tryz.prog 92 #[aC,.func (.func 93) #[] #[]] w₀ (aZ λv w'=>∃aG,av [] w₀ C w' aG/\aF w' aG/\aQ w' aG j 52 v l):=by
 obtain⟨a0,c0,ox,D7,_,hs0⟩:=kT.1 hl;rcases a0 with _|b0
 ·have e:l=[]:=by
   rcases hs0 with h|⟨b,o,h,_⟩
   ·exact h
   ·cases h
  subst e;subst ox;exact ahl hF
 ·exact ahm ox hF hl kE hlen hj
theorem aho {w₀:World} {C:Nat->Nat} {l:List (List au)} {aC:Value} {j:Nat} (hF:aF w₀ C) (hl:aq w₀ (aj C) l aC) (kE:∀x∈l,x.length<=1000000) (hlen:l.length<=1000000) (hj:j≠0):Calls Tryz.prog 50 #[aC] w₀ (aZ λv w'=>∃aG,av [] w₀ C w' aG/\aF w' aG/\aQ w' aG j 52 v l):=by
 refine bG Tryz.func50 ?_;refine aA 7 ?_ [1,5];refine bD Tryz.call92 (ahn hF hl kE hlen hj) ?_;rintro v w1 ⟨dm,s_1,hF,ho⟩;refine ax 2 ?_;refine bg Tryz.func50 ?_;exact⟨dm,s_1,hF,ho⟩
theorem ahp {w₀:World} {C:Nat->Nat} {x y:List au} {vx vy:Value} (hF:aF w₀ C) (hx:aq w₀ (aj C) x vx) (hy:aq w₀ (aj C) y vy) (en:0<x.length) (RC:0<y.length):Calls Tryz.prog 52 #[vx,vy] w₀ (aZ λv w'=>v=.int .i64 (fU x y)/\av [] w₀ C w' C):=by
 have aO:=hF;replace hF:=hF.aI;replace hx:=hx.c1;replace hy:=hy.c1;refine bG Tryz.func52 ?_;refine aB 5 ?_ [1];refine bX [] (aI C) [1,3,5,7,9,11,12,15] bP ?_;intro w1 s_1;have hle1:=hx.mv.le;have hle2:=hy.mv.le;refine ah 1 ?_;refine aL hx.mv ?_;intro _ NK Ea h6;refine cn h6 ?_;intro tg g7;obtain rfl:=bV.1 g7;refine ah 1 ?_;refine aL hy.mv ?_;intro _ Jb D9 fC;refine cn fC ?_;intro v10 g10;obtain rfl:=bV.1 g10;refine dC Tryz.call53 (yX hF.mv) ?_;rintro fP w2 ⟨rfl,s_2⟩;refine⟨aW,?_⟩;refine ax 2 ?_;refine bg Tryz.func52 ?_;exact⟨by rw[OQ en RC]<;>rfl,(z9 w₀ C).o1⟩
theorem ahq {w₀:World} {C:Nat->Nat} {j:Nat} {v:Value} {ys:List (List au)} (hF:aF w₀ C) (hj:j≠0) (ho:aQ w₀ C j 52 v ys) (uD:∀x∈ys,0<x.length) (hds:∀i k (hi:i<(ys).length) (hk:k<(ys).length),i≠k->fU (ys)[i] (ys)[k]≠0) (hlen:ys.length<=1000000):Calls Tryz.prog 51 #[v,.func (.func 52) #[] #[]] w₀ (aZ λu w'=>u=.tuple #[]/\∃zs,fm fU ys zs/\av [j] w₀ C w' C/\aQ w' C j 52 v zs/\aF w' C):=
 XQ (cf:=fU) Go.Proofs.Tryz.sortL rfl Fh hds (λargs w=>Tryz.call52 args w) (λW hs hF x hx y hy vx vy RD RE=>ahp hF RD RE (uD x hx) (uD y hy)) hj hF ho af
end
end Go.Proofs.YtmdhggfehknjjaaGreat
