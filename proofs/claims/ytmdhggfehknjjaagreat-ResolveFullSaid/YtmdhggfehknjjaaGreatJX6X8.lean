/- Steps through functions of the program. -/
import Derived.Test.YtmdhggfehknjjaaGreatJX2X5
import Derived.Test.YtmdhggfehknjjaaGreatL3
import Derived.Test.YtmdhggfehknjjaaGreatL2
set_option maxRecDepth 100000
set_option maxHeartbeats 4000000
namespace Go.Proofs.YtmdhggfehknjjaaGreat
open Go.K Go.K.bn
noncomputable section
theorem agd {w₀:World} {C:Nat->Nat} {l:List bp} {a b:au} {aC:Value} (hF:aF w₀ C) (hl:aq w₀ (aj C) l aC):Calls Tryz.prog 183 #[aC,.agg #[.int .i64 a.a,.int .i64 a.b],.agg #[.int .i64 b.a,.int .i64 b.b]] w₀ (aZ λv w'=>v=.bool (kF l a b||kF l b a)/\av [] w₀ C w' C):=by
 have aO:=hF;replace hF:=hF.aI;replace hl:=hl.c1;refine bG Tryz.func183 ?_;refine aA 2 ?_ [4];refine aR (cu (cs:=aV a) hF 3 rfl rfl) ?_;rintro _ w1 ⟨cm,bq,rfl,s_1,ka,hF⟩;refine aR (cu (cs:=aV b) hF 3 rfl rfl) ?_;rintro _ w2 ⟨cw,cM,rfl,s_2,kb,hF⟩;refine ax 8 ?_ [1];replace hl:=hl.mv;refine cg (ι:=Nat×(Nat->Nat)) (λx w=>x.1<=l.length/\(∀k (hk:k<x.1) (hl:k<l.length),u_ l[k] a b=false)/\aF w x.2/\av [2,3,4,5,6,7,8,9] w₀ (aI C) w x.2/\aq w (aj x.2) l aC/\bS w x.2 3 bq (.cells (aV a).toArray 55)/\bS w x.2 3 cM (.cells (aV b).toArray 55)) (λx=>[(0,aC),(4,.pointer (some ⟨bq,0,none⟩)),(5,.pointer (some ⟨cM,0,none⟩)),(7,.int .i64 x.1)]) (λx=>l.length-x.1) (0,cw) ?_ ?_
 · exact⟨Nat.zero_le _,λk hk=>by first|omega|(simp only at hk;omega),hF,(z9 w₀ C).mv,hl,ka.mv,kb⟩
 intro⟨i,aK⟩ w3 hI bu;obtain⟨hi,h0,hF,hT,hl,ka,kb⟩:=hI;try simp only at hi h0 hF hT hl ka kb
 show Run _ _ _ _ [(0,aC),(4,.pointer (some ⟨bq,0,none⟩)),(5,.pointer (some ⟨cM,0,none⟩)),(7,.int .i64 i)] _ _;have hle:=hl.le;refine aA 5 ?_ [15];refine dE hl.ln ?_;refine ax 2 ?_;refine a_ 11 rfl (λjB=>?_) (λjB=>?_)
 ·
  have hil:i<l.length:=by omega
  refine aB 4 ?_;refine iL 55 (u_ (l[i]'hil) a b) (aK) ?_ ?_
  ·
   intro bU;by_cases l6: (l[i]'hil).same=true
   ·
    refine bX [] (aK) [1,3,5,7,9,11,13,15,17,19,21,23,25,27,29,31,33,35,37,39,41,43,45,47,49,51,53,55,57,59,61,63,65,67,69,71,73,75,77,79,81,83] bP ?_;intro w4 cq;have hcs:=cq;refine ah 2 ?_;refine aL hl.mv ?_;intro _ oP oQ cZ;have ey:=bk.sw cZ;refine ah 1 ?_ [6];refine ew ey ?_;intro nx g18;obtain rfl:=jt.1 g18;refine kV (λw' hS=>fN (oz rfl) (show _=Value.bool false from congrArg Value.bool (by rw[l6];rfl))) ?_;refine ah 36 ?_;exact bQ.nil (bU _ _ _ hcs rfl (by unfold u_;rw[l6];rfl) (cB 42))
   by_cases hA: (l[i]'hil).A=a
   ·
    by_cases hB: (l[i]'hil).B=b
    ·
     refine bX [] (aK) [1,3,5,7,9,11,13,15,17,19,21,23,25,27,29,31,33,35,37,39,41,43,45,47,49,51,53,55,57,59,61,63,65,67,69,71,73,75,77,79,81,83] bP ?_;intro dc cI;have hcs:=cI;refine ah 2 ?_;refine aL hl.mv ?_;intro _ oP oQ cZ;have ey:=bk.sw cZ;refine ah 1 ?_ [6];refine ew ey ?_;intro nx g18;obtain rfl:=jt.1 g18;refine kV (λw' hS=>fN (oz rfl) (show _=Value.bool true from congrArg Value.bool (by rw[(Bool.eq_false_iff.2 l6)];rfl))) ?_;refine ah 3 ?_;refine aL hl.mv ?_;intro _ sZ rq h23;have fM:=bk.c5 h23;refine ah 1 ?_ [0];refine cn fM ?_;intro v25 lY;obtain rfl:=bV.1 lY;refine c7 2 (aV a) ka.mv.sz ?_;refine aP (λ_=>i_ (iA (a:=(l[i]'hil).A) (b:=a) Tryz.underlying55 ak ak ai Tryz.underlying3 rfl rfl) hA) ?_;refine ah 3 ?_;refine aL hl.mv ?_;intro _ DQ DR jA;have gA:=bk.j7 jA;refine ah 1 ?_ [2];refine cn gA ?_;intro v33 ny;obtain rfl:=bV.1 ny;refine c7 2 (aV b) kb.mv.sz ?_;refine aP (λ_=>i_ (iA (a:=(l[i]'hil).B) (b:=b) Tryz.underlying55 ak ak ai Tryz.underlying3 rfl rfl) hB) ?_;refine ah 20 ?_;exact bQ.nil (bU _ _ _ hcs rfl (by unfold u_;rw[Bool.eq_false_iff.2 l6,decide_eq_true ⟨hA,hB⟩];rfl) (cB 42))
    by_cases hP: (l[i]'hil).A=b
    ·
     by_cases hQ: (l[i]'hil).B=a
     ·
      refine bX [] (aK) [1,3,5,7,9,11,13,15,17,19,21,23,25,27,29,31,33,35,37,39,41,43,45,47,49,51,53,55,57,59,61,63,65,67,69,71,73,75,77,79,81,83] bP ?_;intro ei de;have hcs:=de;refine ah 2 ?_;refine aL hl.mv ?_;intro _ oP oQ cZ;have ey:=bk.sw cZ;refine ah 1 ?_ [6];refine ew ey ?_;intro nx g18;obtain rfl:=jt.1 g18;refine kV (λw' hS=>fN (oz rfl) (show _=Value.bool true from congrArg Value.bool (by rw[(Bool.eq_false_iff.2 l6)];rfl))) ?_;refine ah 3 ?_;refine aL hl.mv ?_;intro _ sZ rq h23;have fM:=bk.c5 h23;refine ah 1 ?_ [0];refine cn fM ?_;intro v25 lY;obtain rfl:=bV.1 lY;refine c7 2 (aV a) ka.mv.sz ?_;refine aP (λ_=>i_ (iA (a:=(l[i]'hil).A) (b:=a) Tryz.underlying55 ak ak ai Tryz.underlying3 rfl rfl) hA) ?_;refine ah 3 ?_;refine aL hl.mv ?_;intro _ DQ DR jA;have gA:=bk.j7 jA;refine ah 1 ?_ [2];refine cn gA ?_;intro v33 ny;obtain rfl:=bV.1 ny;refine c7 2 (aV b) kb.mv.sz ?_;refine aP (λ_=>jR (iA (a:=(l[i]'hil).B) (b:=b) Tryz.underlying55 ak ak ai Tryz.underlying3 rfl rfl) hB) ?_;refine ah 4 ?_;refine aL hl.mv ?_;intro _ Bv Bw jZ;have kZ:=bk.c5 jZ;refine ah 1 ?_ [0];refine cn kZ ?_;intro vJ mQ;obtain rfl:=bV.1 mQ;refine c7 2 (aV b) kb.mv.sz ?_;refine aP (λ_=>i_ (iA (a:=(l[i]'hil).A) (b:=b) Tryz.underlying55 ak ak ai Tryz.underlying3 rfl rfl) hP) ?_;refine ah 3 ?_;refine aL hl.mv ?_;intro _ Ih Ii h48;have kK:=bk.j7 h48;refine ah 1 ?_ [2];refine cn kK ?_;intro v50 ku;obtain rfl:=bV.1 ku;refine c7 2 (aV a) ka.mv.sz ?_;refine aP (λ_=>i_ (iA (a:=(l[i]'hil).B) (b:=a) Tryz.underlying55 ak ak ai Tryz.underlying3 rfl rfl) hQ) ?_;refine ah 3 ?_;exact bQ.nil (bU _ _ _ hcs rfl (by unfold u_;rw[Bool.eq_false_iff.2 l6,decide_eq_false (λe=>hB e.2),decide_eq_true ⟨hP,hQ⟩];rfl) (cB 42))
     refine bX [] (aK) [1,3,5,7,9,11,13,15,17,19,21,23,25,27,29,31,33,35,37,39,41,43,45,47,49,51,53,55,57,59,61,63,65,67,69,71,73,75,77,79,81,83] bP ?_;intro w7 ej;have hcs:=ej;refine ah 2 ?_;refine aL hl.mv ?_;intro _ oP oQ cZ;have ey:=bk.sw cZ;refine ah 1 ?_ [6];refine ew ey ?_;intro nx g18;obtain rfl:=jt.1 g18;refine kV (λw' hS=>fN (oz rfl) (show _=Value.bool true from congrArg Value.bool (by rw[(Bool.eq_false_iff.2 l6)];rfl))) ?_;refine ah 3 ?_;refine aL hl.mv ?_;intro _ sZ rq h23;have fM:=bk.c5 h23;refine ah 1 ?_ [0];refine cn fM ?_;intro v25 lY;obtain rfl:=bV.1 lY;refine c7 2 (aV a) ka.mv.sz ?_;refine aP (λ_=>i_ (iA (a:=(l[i]'hil).A) (b:=a) Tryz.underlying55 ak ak ai Tryz.underlying3 rfl rfl) hA) ?_;refine ah 3 ?_;refine aL hl.mv ?_;intro _ DQ DR jA;have gA:=bk.j7 jA;refine ah 1 ?_ [2];refine cn gA ?_;intro v33 ny;obtain rfl:=bV.1 ny;refine c7 2 (aV b) kb.mv.sz ?_;refine aP (λ_=>jR (iA (a:=(l[i]'hil).B) (b:=b) Tryz.underlying55 ak ak ai Tryz.underlying3 rfl rfl) hB) ?_;refine ah 4 ?_;refine aL hl.mv ?_;intro _ Bv Bw jZ;have kZ:=bk.c5 jZ;refine ah 1 ?_ [0];refine cn kZ ?_;intro vJ mQ;obtain rfl:=bV.1 mQ;refine c7 2 (aV b) kb.mv.sz ?_;refine aP (λ_=>i_ (iA (a:=(l[i]'hil).A) (b:=b) Tryz.underlying55 ak ak ai Tryz.underlying3 rfl rfl) hP) ?_;refine ah 3 ?_;refine aL hl.mv ?_;intro _ Ih Ii h48;have kK:=bk.j7 h48;refine ah 1 ?_ [2];refine cn kK ?_;intro v50 ku;obtain rfl:=bV.1 ku;refine c7 2 (aV a) ka.mv.sz ?_;refine aP (λ_=>jR (iA (a:=(l[i]'hil).B) (b:=a) Tryz.underlying55 ak ak ai Tryz.underlying3 rfl rfl) hQ) ?_;refine ah 3 ?_;exact bQ.nil (bU _ _ _ hcs rfl (by unfold u_;rw[Bool.eq_false_iff.2 l6,decide_eq_false (λe=>hB e.2),decide_eq_false (λe=>hQ e.2)];rfl) (cB 42))
    refine bX [] (aK) [1,3,5,7,9,11,13,15,17,19,21,23,25,27,29,31,33,35,37,39,41,43,45,47,49,51,53,55,57,59,61,63,65,67,69,71,73,75,77,79,81,83] bP ?_;intro fk eS;have hcs:=eS;refine ah 2 ?_;refine aL hl.mv ?_;intro _ oP oQ cZ;have ey:=bk.sw cZ;refine ah 1 ?_ [6];refine ew ey ?_;intro nx g18;obtain rfl:=jt.1 g18;refine kV (λw' hS=>fN (oz rfl) (show _=Value.bool true from congrArg Value.bool (by rw[(Bool.eq_false_iff.2 l6)];rfl))) ?_;refine ah 3 ?_;refine aL hl.mv ?_;intro _ sZ rq h23;have fM:=bk.c5 h23;refine ah 1 ?_ [0];refine cn fM ?_;intro v25 lY;obtain rfl:=bV.1 lY;refine c7 2 (aV a) ka.mv.sz ?_;refine aP (λ_=>i_ (iA (a:=(l[i]'hil).A) (b:=a) Tryz.underlying55 ak ak ai Tryz.underlying3 rfl rfl) hA) ?_;refine ah 3 ?_;refine aL hl.mv ?_;intro _ DQ DR jA;have gA:=bk.j7 jA;refine ah 1 ?_ [2];refine cn gA ?_;intro v33 ny;obtain rfl:=bV.1 ny;refine c7 2 (aV b) kb.mv.sz ?_;refine aP (λ_=>jR (iA (a:=(l[i]'hil).B) (b:=b) Tryz.underlying55 ak ak ai Tryz.underlying3 rfl rfl) hB) ?_;refine ah 4 ?_;refine aL hl.mv ?_;intro _ Bv Bw jZ;have kZ:=bk.c5 jZ;refine ah 1 ?_ [0];refine cn kZ ?_;intro vJ mQ;obtain rfl:=bV.1 mQ;refine c7 2 (aV b) kb.mv.sz ?_;refine aP (λ_=>jR (iA (a:=(l[i]'hil).A) (b:=b) Tryz.underlying55 ak ak ai Tryz.underlying3 rfl rfl) hP) ?_;refine ah 11 ?_;exact bQ.nil (bU _ _ _ hcs rfl (by unfold u_;rw[Bool.eq_false_iff.2 l6,decide_eq_false (λe=>hB e.2),decide_eq_false (λe=>hP e.1)];rfl) (cB 42))
   by_cases hP: (l[i]'hil).A=b
   ·
    by_cases hQ: (l[i]'hil).B=a
    ·
     refine bX [] (aK) [1,3,5,7,9,11,13,15,17,19,21,23,25,27,29,31,33,35,37,39,41,43,45,47,49,51,53,55,57,59,61,63,65,67,69,71,73,75,77,79,81,83] bP ?_;intro fJ fA;have hcs:=fA;refine ah 2 ?_;refine aL hl.mv ?_;intro _ oP oQ cZ;have ey:=bk.sw cZ;refine ah 1 ?_ [6];refine ew ey ?_;intro nx g18;obtain rfl:=jt.1 g18;refine kV (λw' hS=>fN (oz rfl) (show _=Value.bool true from congrArg Value.bool (by rw[(Bool.eq_false_iff.2 l6)];rfl))) ?_;refine ah 3 ?_;refine aL hl.mv ?_;intro _ sZ rq h23;have fM:=bk.c5 h23;refine ah 1 ?_ [0];refine cn fM ?_;intro v25 lY;obtain rfl:=bV.1 lY;refine c7 2 (aV a) ka.mv.sz ?_;refine aP (λ_=>jR (iA (a:=(l[i]'hil).A) (b:=a) Tryz.underlying55 ak ak ai Tryz.underlying3 rfl rfl) hA) ?_;refine ah 12 ?_;refine aL hl.mv ?_;intro _ Bv Bw jZ;have kZ:=bk.c5 jZ;refine ah 1 ?_ [0];refine cn kZ ?_;intro vJ mQ;obtain rfl:=bV.1 mQ;refine c7 2 (aV b) kb.mv.sz ?_;refine aP (λ_=>i_ (iA (a:=(l[i]'hil).A) (b:=b) Tryz.underlying55 ak ak ai Tryz.underlying3 rfl rfl) hP) ?_;refine ah 3 ?_;refine aL hl.mv ?_;intro _ Ih Ii h48;have kK:=bk.j7 h48;refine ah 1 ?_ [2];refine cn kK ?_;intro v50 ku;obtain rfl:=bV.1 ku;refine c7 2 (aV a) ka.mv.sz ?_;refine aP (λ_=>i_ (iA (a:=(l[i]'hil).B) (b:=a) Tryz.underlying55 ak ak ai Tryz.underlying3 rfl rfl) hQ) ?_;refine ah 3 ?_;exact bQ.nil (bU _ _ _ hcs rfl (by unfold u_;rw[Bool.eq_false_iff.2 l6,decide_eq_false (λe=>hA e.1),decide_eq_true ⟨hP,hQ⟩];rfl) (cB 42))
    refine bX [] (aK) [1,3,5,7,9,11,13,15,17,19,21,23,25,27,29,31,33,35,37,39,41,43,45,47,49,51,53,55,57,59,61,63,65,67,69,71,73,75,77,79,81,83] bP ?_;intro gn fT;have hcs:=fT;refine ah 2 ?_;refine aL hl.mv ?_;intro _ oP oQ cZ;have ey:=bk.sw cZ;refine ah 1 ?_ [6];refine ew ey ?_;intro nx g18;obtain rfl:=jt.1 g18;refine kV (λw' hS=>fN (oz rfl) (show _=Value.bool true from congrArg Value.bool (by rw[(Bool.eq_false_iff.2 l6)];rfl))) ?_;refine ah 3 ?_;refine aL hl.mv ?_;intro _ sZ rq h23;have fM:=bk.c5 h23;refine ah 1 ?_ [0];refine cn fM ?_;intro v25 lY;obtain rfl:=bV.1 lY;refine c7 2 (aV a) ka.mv.sz ?_;refine aP (λ_=>jR (iA (a:=(l[i]'hil).A) (b:=a) Tryz.underlying55 ak ak ai Tryz.underlying3 rfl rfl) hA) ?_;refine ah 12 ?_;refine aL hl.mv ?_;intro _ Bv Bw jZ;have kZ:=bk.c5 jZ;refine ah 1 ?_ [0];refine cn kZ ?_;intro vJ mQ;obtain rfl:=bV.1 mQ;refine c7 2 (aV b) kb.mv.sz ?_;refine aP (λ_=>i_ (iA (a:=(l[i]'hil).A) (b:=b) Tryz.underlying55 ak ak ai Tryz.underlying3 rfl rfl) hP) ?_;refine ah 3 ?_;refine aL hl.mv ?_;intro _ Ih Ii h48;have kK:=bk.j7 h48;refine ah 1 ?_ [2];refine cn kK ?_;intro v50 ku;obtain rfl:=bV.1 ku;refine c7 2 (aV a) ka.mv.sz ?_;refine aP (λ_=>jR (iA (a:=(l[i]'hil).B) (b:=a) Tryz.underlying55 ak ak ai Tryz.underlying3 rfl rfl) hQ) ?_;refine ah 3 ?_;exact bQ.nil (bU _ _ _ hcs rfl (by unfold u_;rw[Bool.eq_false_iff.2 l6,decide_eq_false (λe=>hA e.1),decide_eq_false (λe=>hQ e.2)];rfl) (cB 42))
   refine bX [] (aK) [1,3,5,7,9,11,13,15,17,19,21,23,25,27,29,31,33,35,37,39,41,43,45,47,49,51,53,55,57,59,61,63,65,67,69,71,73,75,77,79,81,83] bP ?_;intro iK gY;have hcs:=gY;refine ah 2 ?_;refine aL hl.mv ?_;intro _ oP oQ cZ;have ey:=bk.sw cZ;refine ah 1 ?_ [6];refine ew ey ?_;intro nx g18;obtain rfl:=jt.1 g18;refine kV (λw' hS=>fN (oz rfl) (show _=Value.bool true from congrArg Value.bool (by rw[(Bool.eq_false_iff.2 l6)];rfl))) ?_;refine ah 3 ?_;refine aL hl.mv ?_;intro _ sZ rq h23;have fM:=bk.c5 h23;refine ah 1 ?_ [0];refine cn fM ?_;intro v25 lY;obtain rfl:=bV.1 lY;refine c7 2 (aV a) ka.mv.sz ?_;refine aP (λ_=>jR (iA (a:=(l[i]'hil).A) (b:=a) Tryz.underlying55 ak ak ai Tryz.underlying3 rfl rfl) hA) ?_;refine ah 12 ?_;refine aL hl.mv ?_;intro _ Bv Bw jZ;have kZ:=bk.c5 jZ;refine ah 1 ?_ [0];refine cn kZ ?_;intro vJ mQ;obtain rfl:=bV.1 mQ;refine c7 2 (aV b) kb.mv.sz ?_;refine aP (λ_=>jR (iA (a:=(l[i]'hil).A) (b:=b) Tryz.underlying55 ak ak ai Tryz.underlying3 rfl rfl) hP) ?_;refine ah 11 ?_;exact bQ.nil (bU _ _ _ hcs rfl (by unfold u_;rw[Bool.eq_false_iff.2 l6,decide_eq_false (λe=>hA e.1),decide_eq_false (λe=>hP e.1)];rfl) (cB 42))
  intro iV eY;refine f_ 55 rfl (λnU=>?_) (λnU=>?_)
  ·
   refine aB 4 ?_ [1];refine bg Tryz.func183 ?_;exact⟨by rw[<-WD,List.any_eq_true.2 ⟨_,List.getElem_mem hil,nU⟩],hT.o1⟩
  refine aB 7 ?_ [7];replace hl:=hl.mv;refine bC (bu (i+1,aK) _ ⟨aD,(λk hk hl=>by
       try simp only at hk
       by_cases e:k=i
       ·subst e;exact nU
       ·exact h0 k af hl),hF.mv,hT.mv,hl,ka.mv,kb.mv⟩ aD)
 have hil:i=l.length:=by omega
 refine aB 5 ?_ [1];refine bg Tryz.func183 ?_;exact⟨by rw[<-WD,List.any_eq_false.2 (λx hx=>by obtain⟨k,hk,rfl⟩:=List.getElem_of_mem hx;rw[h0 k af hk];simp)],hT.o1⟩
theorem RL {w₀:World} {C:Nat->Nat} {l:List bp} {a b:au} {aC:Value} (hF:aF w₀ C) (hl:aq w₀ (aj C) l aC):Calls Tryz.prog 127 #[aC,.agg #[.int .i64 a.a,.int .i64 a.b],.agg #[.int .i64 b.a,.int .i64 b.b]] w₀ (aZ λv w'=>v=.bool (!eP l a b)/\av [] w₀ C w' C):=by
 have aO:=hF;replace hF:=hF.aI;replace hl:=hl.c1;refine bG Tryz.func127 ?_;refine aA 2 ?_ [4];refine aR (cu (cs:=aV a) hF 3 rfl rfl) ?_;rintro _ w1 ⟨cm,bq,rfl,s_1,ka,hF⟩;refine aR (cu (cs:=aV b) hF 3 rfl rfl) ?_;rintro _ w2 ⟨cw,cM,rfl,s_2,kb,hF⟩;refine ax 3 ?_;by_cases hA:a.a≠b.a
 ·
  refine aA 2 ?_ [7285,0];refine aX ka.mv.at_ ?_;refine ah 1 ?_ [0];refine aX kb.at_ ?_;refine dT hA ?_;refine ah 2 ?_;refine bF 2 (aV a) ka.mv.at_ ?_;refine bF 2 (aV b) kb.at_ ?_;refine bD Tryz.call183 (agd (a:=a) (b:=b) hF hl.mv) ?_;rintro iu w3 ⟨rfl,cq⟩;refine ax 4 ?_;refine bg Tryz.func127 ?_;exact⟨by unfold eP;rw[decide_eq_false hA,Bool.false_or],(z9 w₀ C).o1⟩
 refine aA 2 ?_ [7285,0];refine aX ka.mv.at_ ?_;refine ah 1 ?_ [0];refine aX kb.at_ ?_;refine cL hA ?_;refine ax 9 ?_;refine bg Tryz.func127 ?_;exact⟨by unfold eP;rw[decide_eq_true (Classical.not_not.1 hA)];rfl,(z9 w₀ C).o1⟩
theorem age {w₀:World} {C:Nat->Nat} {l:List aH} {ds:List bp} {aC bW:Value} (hF:aF w₀ C) (hl:aq w₀ (aj C) l aC) (hz:aq w₀ (aj C) ds bW):Calls Tryz.prog 71 #[aC,bW] w₀ (aZ λv w'=>v=.int .i64 (iY l ds)/\av [] w₀ C w' C):=by
 have aO:=hF;replace hF:=hF.aI;replace hl:=hl.c1;replace hz:=hz.c1;refine bG Tryz.func71 ?_;refine aA 8 ?_ [1,5];refine bD Tryz.call58 (ZF hF hl) ?_;rintro kQ w1 ⟨rfl,s_1⟩;refine ax 7 ?_ [3];refine a_ 9 rfl (λfC=>?_) (λfC=>?_)
 ·
  refine aB 5 ?_ [3];refine bg Tryz.func71 ?_;exact⟨by unfold iY;rw[if_pos fC],(z9 w₀ C).o1⟩
 refine aA 4 ?_ [5];refine bD Tryz.call68 (QD hF.mv hz.mv) ?_;rintro fP w2 ⟨rfl,s_2⟩;refine ax 2 ?_;refine bg Tryz.func71 ?_;exact⟨by unfold iY;rw[if_neg fC],(z9 w₀ C).o1⟩
theorem ZP {w₀:World} {C:Nat->Nat} {l:List aH} {s:List au} {aC vs:Value} (hF:aF w₀ C) (hl:aq w₀ (aj C) l aC) (hs0:aq w₀ (aj C) s vs) (hn:s.Nodup) (hlen:s.length<=8796093021952):Calls Tryz.prog 181 #[aC,vs] w₀ (aZ λv w'=>v=.bool (lM l s)/\av [] w₀ C w' C):=by
 have aO:=hF;replace hF:=hF.aI;replace hl:=hl.c1;replace hs0:=hs0.c1;refine bG Tryz.func181 ?_;refine aA 8 ?_ [1,7];refine dE hs0.ln ?_;refine ax 2 ?_;refine a_ 14 rfl (λeR=>?_) (λeR=>?_)
 ·
  have agf:s=[]:=List.length_eq_zero_iff.1 af;subst agf;refine aB 4 ?_ [1];refine bg Tryz.func181 ?_;exact⟨rfl,(z9 w₀ C).o1⟩
 have h1:1<=s.length:=by omega
 refine aA 4 ?_ [7];refine nz ?_;refine Be (e':=55) (fq 16 (.slice 52 15 none (some (.const (.int .i64 1))) none)) rfl rfl hs0 rfl ai rfl af af ?_;intro tu cZ;try simp only[fh] at cZ
 replace cZ:aq _ _ (s.take 1) tu:=cZ;refine ck ?_;refine ax 8 ?_ [1];refine cg (ι:=Bool×(List au)×Value×(Nat->Nat)) (λx w=>oH l s x.2.1/\(x.2.1.Pairwise λp q=>pZ p q=true)/\(x.1=false->∀bd∈l,bd.A∈s->bd.B∈s->(bd.A∈x.2.1↔bd.B∈x.2.1))/\aF w x.2.2.2/\av [2,3,4,5,6,7,8,9] w₀ (aI C) w x.2.2.2/\aq w (aj x.2.2.2) l aC/\aq w (aj x.2.2.2) s vs/\aq w (aj x.2.2.2) x.2.1 x.2.2.1) (λx=>[(0,aC),(1,vs),(5,x.2.2.1),(6,.bool x.1)]) (λx=>2*(s.length-x.2.1.length)+(if x.1 then 1 else 0)) (true,s.take 1,tu,aI C) ?_ ?_
 · exact⟨oH.start h1,(by obtain⟨a,t,rfl⟩:=List.exists_cons_of_length_pos (show 0<s.length by omega);simp),λe=>(by cases e),hF,(z9 w₀ C),hl,hs0,cZ⟩
 intro⟨g0,ys,vy,aK⟩ w1 hI bu;obtain⟨hR,hO,hg,hF,hT,hl,hs0,hy⟩:=hI;try simp only at hR hO hg hF hT hl hs0 hy
 show Run _ _ _ _ [(0,aC),(1,vs),(5,vy),(6,.bool g0)] _ _;have yU:=hR.len;refine aB 5 ?_ [1];refine f_ 17 rfl (λey=>?_) (λey=>?_)
 ·
  subst ey;refine aB 11 ?_ [1,1];refine cg (ι:=Nat×Bool×(List au)×Value×(Nat->Nat)) (λx w=>x.1<=l.length/\oH l s x.2.2.1/\(x.2.2.1.Pairwise λp q=>pZ p q=true)/\(x.2.1=true->ys.length<x.2.2.1.length)/\(x.2.1=false->x.2.2.1=ys/\∀i (hi:i<x.1) (hl:i<l.length),l[i].A∈s->l[i].B∈s->(l[i].A∈ys↔l[i].B∈ys))/\aF w x.2.2.2.2/\av [2,3,4,5,6,7,8,9] w₀ (aI C) w x.2.2.2.2/\aq w (aj x.2.2.2.2) l aC/\aq w (aj x.2.2.2.2) s vs/\aq w (aj x.2.2.2.2) x.2.2.1 x.2.2.2.1) (λx=>[(0,aC),(1,vs),(5,x.2.2.2.1),(6,.bool x.2.1),(7,.int .i64 x.1)]) (λx=>l.length-x.1) (0,false,ys,vy,aK) ?_ ?_
  · exact⟨Nat.zero_le _,hR,hO,(λe=>by cases e),(λ_=>⟨rfl,λi hi=>by simp only at hi;omega⟩),hF,hT,hl,hs0,hy⟩
  intro⟨k,g,zs,vy,dm⟩ w2 hI eD;obtain⟨hk,sH,Cj,uB,qj,hF,hT,hl,hs0,hy⟩:=hI;try simp only at hk sH Cj uB qj hF hT hl hs0 hy
  show Run _ _ _ _ [(0,aC),(1,vs),(5,vy),(6,.bool g),(7,.int .i64 k)] _ _;have hle:=hl.le;have aev:=hs0.le;have hzl:=sH.len;refine aA 5 ?_ [15];refine dE hl.ln ?_;refine ax 2 ?_;refine a_ 21 rfl (λjl=>?_) (λjl=>?_)
  ·
   have ay:k<l.length:=by omega
   have I4:=List.getElem_mem ay;refine aB 4 ?_;by_cases hA: (l[k]'ay).A∈s
   ·
    by_cases hB: (l[k]'ay).B∈s
    ·
     refine bX [] (dm) [1,3,5,7,9,11,17,19,21,23,25,27,12,15,28,31,33,35] bP ?_;intro w3 s_1;refine ah 3 ?_;refine aL hl.mv ?_;intro _ FU FV gM;have gG:=bk.mE gM;refine ah 1 ?_ [0];refine cn gG ?_;intro uy kR;obtain rfl:=bV.1 kR;refine ah 3 ?_;refine aL hl.mv ?_;intro _ AB AE gj;have iD:=bk.qo gj;refine ah 1 ?_ [2];refine cn iD ?_;intro v37 mO;obtain rfl:=bV.1 mO;refine dC Tryz.call29 (mC (c:=(l[k]'ay).A) hF.mv hs0.mv) ?_;rintro fS w4 ⟨rfl,s_2⟩;refine⟨aW,?_⟩;refine dT (wU hA) ?_;refine dC Tryz.call29 (mC (c:=(l[k]'ay).B) hF.mv hs0.mv) ?_;rintro kf dc ⟨rfl,cq⟩;refine⟨aW,?_⟩;refine dT (wU hB) ?_;refine ax 16 ?_ [63];by_cases hP: (l[k]'ay).A∈zs
     ·
      by_cases hQ: (l[k]'ay).B∈zs
      ·
       refine bX [] (dm) [1,3,5,7,9,11,17,19,21,23,25,27,12,15,28,31,33,35] bP ?_;intro ei cI;refine ah 3 ?_;refine aL hl.mv ?_;intro _ FQ FR kK;have h50:=bk.mE kK;refine ah 1 ?_ [0];refine cn h50 ?_;intro v51 lT;obtain rfl:=bV.1 lT;refine ah 3 ?_;refine aL hl.mv ?_;intro _ RN RO qi;have lD:=bk.qo qi;refine ah 1 ?_ [2];refine cn lD ?_;intro v59 yH;obtain rfl:=bV.1 yH;refine dC Tryz.call29 (mC (c:=(l[k]'ay).A) hF.mv hy.mv) ?_;rintro jJ w7 ⟨rfl,de⟩;refine⟨aW,?_⟩;refine dT (wU hP) ?_;refine dC Tryz.call29 (mC (c:=(l[k]'ay).B) hF.mv hy.mv) ?_;rintro qB fk ⟨rfl,ej⟩;refine⟨aW,?_⟩;refine dT (wU hQ) ?_;refine bh 7 ?_ [7];refine aP (λ_=>fN (KS Tryz.underlying4 rfl rfl) (show _=Value.bool false from rfl)) ?_;refine ax 9 ?_ [7];refine bC (eD (k+1,g,zs,vy,dm) _ ⟨aD,aD,aD,aD,(λe=>by
          obtain⟨h1,h2⟩:=qj e;exact⟨h1,λi hi hl' a b=>by
           simp only at hi;by_cases e2:i=k
           ·subst e2;rw[<-h1];first|exact⟨λ_=>hQ,λ_=>hP⟩|exact⟨λe=>absurd e hP,λe=>absurd e hQ⟩
           ·exact h2 i af hl' a b⟩),hF.mv,hT.mv,hl.mv,hs0.mv,hy.mv⟩ aD)
      refine bX [] (dm) [1,3,5,7,9,11,17,19,21,23,25,27,12,15,28,31,33,35] bP ?_;intro fJ eS;refine ah 3 ?_;refine aL hl.mv ?_;intro _ FQ FR kK;have h50:=bk.mE kK;refine ah 1 ?_ [0];refine cn h50 ?_;intro v51 lT;obtain rfl:=bV.1 lT;refine ah 3 ?_;refine aL hl.mv ?_;intro _ RN RO qi;have lD:=bk.qo qi;refine ah 1 ?_ [2];refine cn lD ?_;intro v59 yH;obtain rfl:=bV.1 yH;refine dC Tryz.call29 (mC (c:=(l[k]'ay).A) hF.mv hy.mv) ?_;rintro vK gn ⟨rfl,fA⟩;refine⟨aW,?_⟩;refine dT (wU hP) ?_;refine dC Tryz.call29 (mC (c:=(l[k]'ay).B) hF.mv hy.mv) ?_;rintro BW iK ⟨rfl,fT⟩;refine⟨aW,?_⟩;refine cL (yj hQ) ?_;refine bh 7 ?_ [7];refine aP (λ_=>fN (KS Tryz.underlying4 rfl rfl) (show _=Value.bool true from rfl)) ?_;refine ax 3 ?_;refine bX [] (dm) [1,3,5,7,9,11,15,17,19,21,23,12,24,27] bP ?_;intro iV gY;refine ah 3 ?_;refine aL hl.mv ?_;intro _ IX IY uq;have xw:=bk.mE uq;refine ah 1 ?_ [0];refine cn xw ?_;intro v70 pz;obtain rfl:=bV.1 pz;refine ah 2 ?_;refine aL hl.mv ?_;intro _ Yk Yl Ar;have yP:=bk.qo Ar;refine ah 1 ?_ [2];refine cn yP ?_;intro v76 y9;obtain rfl:=bV.1 y9;obtain⟨hp1,hp2,qH⟩:=sH.put Cj I4 hA hB (by first|exact .inl ⟨hP,hQ⟩|exact .inr ⟨hP,hQ⟩);have Mk:=BK (l[k]'ay).A zs;have qn:=hp1.len;refine gl Tryz.call56 rfl (Ef (c:=(l[k]'ay).A) hF.mv hy.mv af) ?_;rintro RG ki ⟨eY,hq1⟩;refine⟨aW,?_⟩;refine gl Tryz.call56 rfl (Ef (c:=(l[k]'ay).B) hF.mv hq1 af) ?_;rintro Jm kH ⟨iW,iq⟩;refine⟨aW,?_⟩;refine ax 11 ?_ [1,7];refine bC (eD (k+1,true,fF (fF zs (l[k]'ay).A) (l[k]'ay).B,Jm,dm) _ ⟨aD,hp1,hp2,(λ_=>by
          rw[qH];cases eg:g with
          |true=>have:=uB eg;omega
          |false=>have:=(qj eg).1;rw[this];omega),(λe=>by cases e),hF.mv,hT.mv,hl.mv,hs0.mv,iq⟩ aD)
     by_cases hQ: (l[k]'ay).B∈zs
     ·
      refine bX [] (dm) [1,3,5,7,9,11,17,19,21,23,25,27,12,15,28,31,33,35] bP ?_;intro lR jx;refine ah 3 ?_;refine aL hl.mv ?_;intro _ FQ FR kK;have h50:=bk.mE kK;refine ah 1 ?_ [0];refine cn h50 ?_;intro v51 lT;obtain rfl:=bV.1 lT;refine ah 3 ?_;refine aL hl.mv ?_;intro _ RN RO qi;have lD:=bk.qo qi;refine ah 1 ?_ [2];refine cn lD ?_;intro v59 yH;obtain rfl:=bV.1 yH;refine dC Tryz.call29 (mC (c:=(l[k]'ay).A) hF.mv hy.mv) ?_;rintro Jl mo ⟨rfl,jX⟩;refine⟨aW,?_⟩;refine cL (yj hP) ?_;refine dC Tryz.call29 (mC (c:=(l[k]'ay).B) hF.mv hy.mv) ?_;rintro Dn nQ ⟨rfl,mq⟩;refine⟨aW,?_⟩;refine dT (wU hQ) ?_;refine bh 7 ?_ [7];refine aP (λ_=>fN (KS Tryz.underlying4 rfl rfl) (show _=Value.bool true from rfl)) ?_;refine ax 3 ?_;refine bX [] (dm) [1,3,5,7,9,11,15,17,19,21,23,12,24,27] bP ?_;intro oh lU;refine ah 3 ?_;refine aL hl.mv ?_;intro _ IX IY uq;have xw:=bk.mE uq;refine ah 1 ?_ [0];refine cn xw ?_;intro v70 pz;obtain rfl:=bV.1 pz;refine ah 2 ?_;refine aL hl.mv ?_;intro _ Yk Yl Ar;have yP:=bk.qo Ar;refine ah 1 ?_ [2];refine cn yP ?_;intro v76 y9;obtain rfl:=bV.1 y9;obtain⟨hp1,hp2,qH⟩:=sH.put Cj I4 hA hB (by first|exact .inl ⟨hP,hQ⟩|exact .inr ⟨hP,hQ⟩);have Mk:=BK (l[k]'ay).A zs;have qn:=hp1.len;refine gl Tryz.call56 rfl (Ef (c:=(l[k]'ay).A) hF.mv hy.mv af) ?_;rintro RG mJ ⟨nh,hq1⟩;refine⟨aW,?_⟩;refine gl Tryz.call56 rfl (Ef (c:=(l[k]'ay).B) hF.mv hq1 af) ?_;rintro Jm qC ⟨oJ,iq⟩;refine⟨aW,?_⟩;refine ax 11 ?_ [1,7];refine bC (eD (k+1,true,fF (fF zs (l[k]'ay).A) (l[k]'ay).B,Jm,dm) _ ⟨aD,hp1,hp2,(λ_=>by
          rw[qH];cases eg:g with
          |true=>have:=uB eg;omega
          |false=>have:=(qj eg).1;rw[this];omega),(λe=>by cases e),hF.mv,hT.mv,hl.mv,hs0.mv,iq⟩ aD)
     refine bX [] (dm) [1,3,5,7,9,11,17,19,21,23,25,27,12,15,28,31,33,35] bP ?_;intro tO nR;refine ah 3 ?_;refine aL hl.mv ?_;intro _ FQ FR kK;have h50:=bk.mE kK;refine ah 1 ?_ [0];refine cn h50 ?_;intro v51 lT;obtain rfl:=bV.1 lT;refine ah 3 ?_;refine aL hl.mv ?_;intro _ RN RO qi;have lD:=bk.qo qi;refine ah 1 ?_ [2];refine cn lD ?_;intro v59 yH;obtain rfl:=bV.1 yH;refine dC Tryz.call29 (mC (c:=(l[k]'ay).A) hF.mv hy.mv) ?_;rintro afx wN ⟨rfl,om⟩;refine⟨aW,?_⟩;refine cL (yj hP) ?_;refine dC Tryz.call29 (mC (c:=(l[k]'ay).B) hF.mv hy.mv) ?_;rintro ak1 wO ⟨rfl,uX⟩;refine⟨aW,?_⟩;refine cL (yj hQ) ?_;refine bh 7 ?_ [7];refine aP (λ_=>fN (KS Tryz.underlying4 rfl rfl) (show _=Value.bool false from rfl)) ?_;refine ax 9 ?_ [7];refine bC (eD (k+1,g,zs,vy,dm) _ ⟨aD,aD,aD,aD,(λe=>by
          obtain⟨h1,h2⟩:=qj e;exact⟨h1,λi hi hl' a b=>by
           simp only at hi;by_cases e2:i=k
           ·subst e2;rw[<-h1];first|exact⟨λ_=>hQ,λ_=>hP⟩|exact⟨λe=>absurd e hP,λe=>absurd e hQ⟩
           ·exact h2 i af hl' a b⟩),hF.mv,hT.mv,hl.mv,hs0.mv,hy.mv⟩ aD)
    refine bX [] (dm) [1,3,5,7,9,11,17,19,21,23,25,27,12,15,28,31,33,35] bP ?_;intro wP zY;refine ah 3 ?_;refine aL hl.mv ?_;intro _ FU FV gM;have gG:=bk.mE gM;refine ah 1 ?_ [0];refine cn gG ?_;intro uy kR;obtain rfl:=bV.1 kR;refine ah 3 ?_;refine aL hl.mv ?_;intro _ AB AE gj;have iD:=bk.qo gj;refine ah 1 ?_ [2];refine cn iD ?_;intro v37 mO;obtain rfl:=bV.1 mO;refine dC Tryz.call29 (mC (c:=(l[k]'ay).A) hF.mv hs0.mv) ?_;rintro QS zX ⟨rfl,Bz⟩;refine⟨aW,?_⟩;refine dT (wU hA) ?_;refine dC Tryz.call29 (mC (c:=(l[k]'ay).B) hF.mv hs0.mv) ?_;rintro OB Bx ⟨rfl,Dq⟩;refine⟨aW,?_⟩;refine cL (yj hB) ?_;refine ax 20 ?_ [63,7];refine bC (eD (k+1,g,zs,vy,dm) _ ⟨aD,aD,aD,aD,(λe=>by
         obtain⟨h1,h2⟩:=qj e;exact⟨h1,λi hi hl' a b=>by
          simp only at hi;by_cases e2:i=k
          ·subst e2;first|exact absurd a hA|exact absurd b hB
          ·exact h2 i af hl' a b⟩),hF.mv,hT.mv,hl.mv,hs0.mv,hy.mv⟩ aD)
   by_cases hB: (l[k]'ay).B∈s
   ·
    refine bX [] (dm) [1,3,5,7,9,11,17,19,21,23,25,27,12,15,28,31,33,35] bP ?_;intro Dp I5;refine ah 3 ?_;refine aL hl.mv ?_;intro _ FU FV gM;have gG:=bk.mE gM;refine ah 1 ?_ [0];refine cn gG ?_;intro uy kR;obtain rfl:=bV.1 kR;refine ah 3 ?_;refine aL hl.mv ?_;intro _ AB AE gj;have iD:=bk.qo gj;refine ah 1 ?_ [2];refine cn iD ?_;intro v37 mO;obtain rfl:=bV.1 mO;refine dC Tryz.call29 (mC (c:=(l[k]'ay).A) hF.mv hs0.mv) ?_;rintro afy E5 ⟨rfl,F0⟩;refine⟨aW,?_⟩;refine cL (yj hA) ?_;refine dC Tryz.call29 (mC (c:=(l[k]'ay).B) hF.mv hs0.mv) ?_;rintro afz Jh ⟨rfl,I6⟩;refine⟨aW,?_⟩;refine dT (wU hB) ?_;refine ax 20 ?_ [63,7];refine bC (eD (k+1,g,zs,vy,dm) _ ⟨aD,aD,aD,aD,(λe=>by
         obtain⟨h1,h2⟩:=qj e;exact⟨h1,λi hi hl' a b=>by
          simp only at hi;by_cases e2:i=k
          ·subst e2;first|exact absurd a hA|exact absurd b hB
          ·exact h2 i af hl' a b⟩),hF.mv,hT.mv,hl.mv,hs0.mv,hy.mv⟩ aD)
   refine bX [] (dm) [1,3,5,7,9,11,17,19,21,23,25,27,12,15,28,31,33,35] bP ?_;intro Ji F1;refine ah 3 ?_;refine aL hl.mv ?_;intro _ FU FV gM;have gG:=bk.mE gM;refine ah 1 ?_ [0];refine cn gG ?_;intro uy kR;obtain rfl:=bV.1 kR;refine ah 3 ?_;refine aL hl.mv ?_;intro _ AB AE gj;have iD:=bk.qo gj;refine ah 1 ?_ [2];refine cn iD ?_;intro v37 mO;obtain rfl:=bV.1 mO;refine dC Tryz.call29 (mC (c:=(l[k]'ay).A) hF.mv hs0.mv) ?_;rintro afJ Rw ⟨rfl,I7⟩;refine⟨aW,?_⟩;refine cL (yj hA) ?_;refine dC Tryz.call29 (mC (c:=(l[k]'ay).B) hF.mv hs0.mv) ?_;rintro ak2 Rx ⟨rfl,I8⟩;refine⟨aW,?_⟩;refine cL (yj hB) ?_;refine ax 20 ?_ [63,7];refine bC (eD (k+1,g,zs,vy,dm) _ ⟨aD,aD,aD,aD,(λe=>by
         obtain⟨h1,h2⟩:=qj e;exact⟨h1,λi hi hl' a b=>by
          simp only at hi;by_cases e2:i=k
          ·subst e2;first|exact absurd a hA|exact absurd b hB
          ·exact h2 i af hl' a b⟩),hF.mv,hT.mv,hl.mv,hs0.mv,hy.mv⟩ aD)
  have ay:k=l.length:=by omega
  refine aB 2 ?_;by_cases xx:g=true
  ·
   have hlt:=uB xx;refine bC (bu (g,zs,vy,dm) _ ⟨sH,Cj,(λe=>by rw[xx] at e;cases e),hF,hT,hl,hs0,hy⟩ (by simp only[xx];have:=sH.len;simp;omega))
  obtain⟨nG,jv⟩:=qj (by simpa using xx);refine bC (bu (g,zs,vy,dm) _ ⟨sH,Cj,(λ_ x hx a b=>by
        obtain⟨i,hi,rfl⟩:=List.getElem_of_mem hx;rw[nG];exact jv i af hi a b),hF,hT,hl,hs0,hy⟩ (by simp only[xx];rw[nG];simp))
 subst ey;refine aA 4 ?_ [63];refine dE hy.ln ?_;refine ah 1 ?_;refine dE hs0.ln ?_;refine aP (λ_=>fN (CD rfl rfl) (show _=Value.bool (lM l s) from congrArg Value.bool (by rw[Bool.eq_iff_iff,decide_eq_true_iff];exact hR.fin hn (hg rfl)))) ?_;refine ax 2 ?_;refine bg Tryz.func181 ?_;exact⟨rfl,hT.o1⟩
theorem ak3 {w₀:World} {C:Nat->Nat} {l:List aH} {ds:List bp} {s:List au} {aC bW vs:Value} (hF:aF w₀ C) (hl:aq w₀ (aj C) l aC) (hz:aq w₀ (aj C) ds bW) (hs0:aq w₀ (aj C) s vs) (hlen:s.length<=8796093021952):Calls Tryz.prog 149 #[aC,bW,vs] w₀ (aZ λv w'=>v=.bool (rm l ds s)/\av [] w₀ C w' C):=by
 have aO:=hF;replace hF:=hF.aI;replace hl:=hl.c1;replace hz:=hz.c1;replace hs0:=hs0.c1;refine bG Tryz.func149 ?_;refine aA 8 ?_ [1,7];refine dE hs0.ln ?_;refine ax 2 ?_;refine a_ 11 rfl (λjB=>?_) (λjB=>?_)
 ·
  refine aB 4 ?_ [1];refine bg Tryz.func149 ?_;exact⟨by unfold rm;rw[decide_eq_false af];rfl,(z9 w₀ C).o1⟩
 have D6:2<=s.length:=by omega
 refine aB 7 ?_ [1];refine cg (ι:=Nat×(Nat->Nat)) (λx w=>x.1<=s.length/\(∀q (hq:q<x.1) (hl:q<s.length),(s.take q).any (λb=>eP ds b s[q])=false)/\aF w x.2/\av [2,3,4,5,6,7,8,9] w₀ (aI C) w x.2/\aq w (aj x.2) l aC/\aq w (aj x.2) ds bW/\aq w (aj x.2) s vs) (λx=>[(0,aC),(1,bW),(2,vs),(7,.int .i64 x.1)]) (λx=>s.length-x.1) (0,aI C) ?_ ?_
 · exact⟨Nat.zero_le _,λq hq=>by simp only at hq;omega,hF,(z9 w₀ C),hl,hz,hs0⟩
 intro⟨i,aK⟩ w1 hI bu;obtain⟨hi,h0,hF,hT,hl,hz,hs0⟩:=hI;try simp only at hi h0 hF hT hl hz hs0
 show Run _ _ _ _ [(0,aC),(1,bW),(2,vs),(7,.int .i64 i)] _ _;have hle:=hs0.le;refine aA 5 ?_ [15];refine dE hs0.ln ?_;refine ax 2 ?_;refine a_ 15 rfl (λgL=>?_) (λgL=>?_)
 ·
  have hil:i<s.length:=by omega
  refine aB 8 ?_ [1];refine cg (ι:=Nat×(Nat->Nat)) (λx w=>x.1<=i/\(∀q (hq:q<x.1) (hl:q<s.length),eP ds s[q] (s[i]'hil)=false)/\aF w x.2/\av [2,3,4,5,6,7,8,9] w₀ (aI C) w x.2/\aq w (aj x.2) l aC/\aq w (aj x.2) ds bW/\aq w (aj x.2) s vs) (λx=>[(0,aC),(1,bW),(2,vs),(7,.int .i64 i),(8,.int .i64 x.1)]) (λx=>i-x.1) (0,aK) ?_ ?_
  · exact⟨Nat.zero_le _,λq hq=>by simp only at hq;omega,hF,hT,hl,hz,hs0⟩
  intro⟨k,dm⟩ w2 hI eD;obtain⟨hk,h1,hF,hT,hl,hz,hs0⟩:=hI;try simp only at hk h1 hF hT hl hz hs0
  show Run _ _ _ _ [(0,aC),(1,bW),(2,vs),(7,.int .i64 i),(8,.int .i64 k)] _ _;have hle:=hs0.le;refine aB 7 ?_ [7];refine a_ 20 rfl (λk6=>?_) (λk6=>?_)
  ·
   have hki:k<i:=by omega
   have ay:k<s.length:=by omega
   refine aB 4 ?_;refine bX [] (dm) [1,3,5,7,9,11,13,15,17,18,21] bP ?_;intro w3 s_1;refine ah 3 ?_;refine aL hs0.mv ?_;intro _ y4 y5 kI;refine cn kI ?_;intro y6 ux;obtain rfl:=bV.1 ux;refine ah 2 ?_;refine aL hs0.mv ?_;intro _ YX YY sF;refine cn sF ?_;intro v31 nj;obtain rfl:=bV.1 nj;refine dC Tryz.call127 (RL (a:=s[i]'hil) (b:=s[k]'ay) hF.mv hz.mv) ?_;rintro fS w4 ⟨rfl,s_2⟩;rw[Vg];refine⟨aW,?_⟩;refine ax 2 ?_;refine f_ 33 rfl (λlV=>?_) (λlV=>?_)
   ·
    have hbd:eP ds (s[k]'ay) (s[i]'hil)=true:=by simpa using lV
    have hno:=VC hil (List.any_eq_true.2 ⟨s[k]'ay,List.mem_take_iff_getElem.2 ⟨k,by omega,rfl⟩,hbd⟩);refine aB 4 ?_ [1];refine bg Tryz.func149 ?_;exact⟨by unfold rm;rw[hno];simp,hT.o1⟩
   have hbd:eP ds (s[k]'ay) (s[i]'hil)=false:=by simpa using lV
   refine aB 7 ?_ [7];refine bC (eD (k+1,dm) _ ⟨aD,(λq hq mM=>by
      simp only at hq;by_cases e:q=k
      · subst e;exact hbd
      · exact h1 q af mM),hF.mv,hT.mv,hl.mv,hz.mv,hs0.mv⟩ aD)
  have hki:k=i:=by omega
  refine aB 7 ?_ [7];refine bC (bu (i+1,dm) _ ⟨aD,(λq hq mM=>by
     simp only at hq;by_cases e:q=i
     · subst e;rw[List.any_eq_false];intro x hx;obtain⟨j,hj,rfl⟩:=List.mem_take_iff_getElem.1 hx;rw[h1 j af af];simp
     · exact h0 q af mM),hF,hT,hl,hz,hs0⟩ aD)
 have hil:i=s.length:=by omega
 refine aA 3 ?_ [11];have sq:=VB (λq hq=>h0 q af hq);refine ah 2 ?_;refine bD Tryz.call181 (ZP hF hl hs0 (VA (KU.1 sq)) hlen) ?_;rintro kf dc ⟨rfl,cq⟩;refine ax 2 ?_;refine bg Tryz.func149 ?_;exact⟨by unfold rm;rw[sq,decide_eq_true D6];rfl,hT.o1⟩
theorem ZQ {w₀:World} {C:Nat->Nat} {l:List aH} {ps:List (List au)} {aC cH:Value} (hF:aF w₀ C) (hl:aq w₀ (aj C) l aC) (hp:aq w₀ (aj C) ps cH):Calls Tryz.prog 55 #[aC,cH] w₀ (aZ λv w'=>v=.int .i64 (IntKind.i64.wrap (fc l ps))/\av [] w₀ C w' C):=by
 have aO:=hF;replace hF:=hF.aI;replace hl:=hl.c1;replace hp:=hp.c1;refine bG Tryz.func55 ?_;refine aB 14 ?_ [1,1,1];refine xE (ι:=Nat×(Nat->Nat)) (I:=λx w=>x.1<=l.length/\aF w x.2/\av [2,3,4,5,6,7,8,9] w₀ (aI C) w x.2/\aq w (aj x.2) l aC/\aq w (aj x.2) ps cH) (e:=λx=>[(0,aC),(1,cH),(5,.int .i64 (IntKind.i64.wrap (fc (l.take x.1) ps))),(6,.int .i64 x.1)]) (m:=λx=>l.length-x.1) (nB:=(0,aI C)) (bT 0 (bT 1 (fD 5 rfl (eq_int (by simp[fc];rfl)) (bT 6 (fL _))))) ?_ ?_
 · exact⟨Nat.zero_le _,hF,(z9 w₀ C),hl,hp⟩
 intro⟨i,aK⟩ w1 hI bu;obtain⟨hi,hF,hT,hl,hp⟩:=hI;try simp only at hi hF hT hl hp
 show Run _ _ _ _ [(0,aC),(1,cH),(5,.int .i64 (IntKind.i64.wrap (fc (l.take i) ps))),(6,.int .i64 i)] _ _;have hle:=hl.le;refine aA 5 ?_ [15];refine dE hl.ln ?_;refine ax 2 ?_;refine a_ 11 rfl (λjB=>?_) (λjB=>?_)
 ·
  have hil:i<l.length:=by omega
  have AG:=Ow hil ps;refine aB 8 ?_ [1];refine cg (ι:=Nat×(Nat->Nat)) (λx w=>x.1<=ps.length/\(∀q (hq:q<x.1) (hl:q<ps.length),uU (l[i]'hil) ps[q]=false)/\aF w x.2/\av [2,3,4,5,6,7,8,9] w₀ (aI C) w x.2/\aq w (aj x.2) l aC/\aq w (aj x.2) ps cH) (λx=>[(0,aC),(1,cH),(5,.int .i64 (IntKind.i64.wrap (fc (l.take i) ps))),(6,.int .i64 i),(7,.int .i64 x.1)]) (λx=>ps.length-x.1) (0,aK) ?_ ?_
  · exact⟨Nat.zero_le _,λq hq=>by simp only at hq;omega,hF,hT,hl,hp⟩
  intro⟨k,dm⟩ w2 hI eD;obtain⟨hk,h0,hF,hT,hl,hp⟩:=hI;try simp only at hk h0 hF hT hl hp
  show Run _ _ _ _ [(0,aC),(1,cH),(5,.int .i64 (IntKind.i64.wrap (fc (l.take i) ps))),(6,.int .i64 i),(7,.int .i64 k)] _ _;have hle:=hl.le;have ak4:=hp.le;refine aA 5 ?_ [15];refine dE hp.ln ?_;refine ax 2 ?_;refine a_ 17 rfl (λey=>?_) (λey=>?_)
  ·
   have ay:k<ps.length:=by omega
   refine aB 4 ?_;by_cases hA: (l[i]'hil).A∈(ps[k]'ay)
   ·
    by_cases hB: (l[i]'hil).B∈(ps[k]'ay)
    ·
     refine bX [] (dm) [1,3,5,7,9,11,13,15,17,18,21,23,25,27,29,31,33,35,37,39,41,42,45,47] bP ?_;intro w3 s_1;have iE:=hl.mv;have tv:=hp.mv;refine ah 2 ?_;refine aL tv ?_;intro _ Ap Ie eZ;refine ew eZ ?_;intro v23 g23;have ZR:=g23;refine ah 2 ?_;refine aL iE ?_;intro _ y4 y5 kI;have gM:=bk.mE kI;refine ah 1 ?_ [0];refine cn gM ?_;intro v28 qL;have ZS:=qL;obtain rfl:=bV.1 qL.mv;refine dC Tryz.call29 (mC (c:=(l[i]'hil).A) hF.mv g23.mv) ?_;rintro fS w4 ⟨rfl,s_2⟩;refine⟨aW,?_⟩;refine dT (wU hA) ?_;refine ah 3 ?_;refine aL tv ?_;intro _ FJ FK lX;refine ew lX ?_;intro v35 o7;have agh:=o7;refine ah 2 ?_;refine aL iE ?_;intro _ E6 E7 jY;have oU:=bk.qo jY;refine ah 1 ?_ [2];refine cn oU ?_;intro v40 qf;have agi:=qf;obtain rfl:=bV.1 qf.mv;refine dC Tryz.call29 (mC (c:=(l[i]'hil).B) hF.mv o7.mv) ?_;rintro kf dc ⟨rfl,cq⟩;refine⟨aW,?_⟩;refine dT (wU hB) ?_;refine bh 5 ?_ [223];rw[if_pos (List.any_eq_true.2 ⟨_,List.getElem_mem ay,decide_eq_true ⟨hA,hB⟩⟩)] at AG;refine ah 3 ?_;refine aL hl.mv ?_;intro _ FF FG uh;have h48:=bk.wq uh;refine ah 1 ?_ [4];refine dW h48 ?_;intro v49 wZ;first|(obtain rfl:=dJ.1 wZ)|(obtain rfl:=cO.1 wZ)
     refine aP (λ_=>fN (val_add rfl rfl) (congrArg (Value.int .i64) (XE _ _))) ?_;refine ax 9 ?_ [7];refine kp (bT 0 (bT 1 (fD 5 rfl (eq_int (by simp only;rw[AG])) (fD 6 rfl (eq_int b_) (fL _))))) (bu (i+1,dm) _ ⟨aD,hF.mv,hT.mv,hl.mv,hp.mv⟩ aD)
    refine bX [] (dm) [1,3,5,7,9,11,13,15,17,18,21,23,25,27,29,31,33,35,37,39,41,42,45,47] bP ?_;intro ei cI;have iE:=hl.mv;have tv:=hp.mv;refine ah 2 ?_;refine aL tv ?_;intro _ Ap Ie eZ;refine ew eZ ?_;intro v23 g23;have ZR:=g23;refine ah 2 ?_;refine aL iE ?_;intro _ y4 y5 kI;have gM:=bk.mE kI;refine ah 1 ?_ [0];refine cn gM ?_;intro v28 qL;have ZS:=qL;obtain rfl:=bV.1 qL.mv;refine dC Tryz.call29 (mC (c:=(l[i]'hil).A) hF.mv g23.mv) ?_;rintro jJ w7 ⟨rfl,de⟩;refine⟨aW,?_⟩;refine dT (wU hA) ?_;refine ah 3 ?_;refine aL tv ?_;intro _ FJ FK lX;refine ew lX ?_;intro v35 o7;have agh:=o7;refine ah 2 ?_;refine aL iE ?_;intro _ E6 E7 jY;have oU:=bk.qo jY;refine ah 1 ?_ [2];refine cn oU ?_;intro v40 qf;have agi:=qf;obtain rfl:=bV.1 qf.mv;refine dC Tryz.call29 (mC (c:=(l[i]'hil).B) hF.mv o7.mv) ?_;rintro qB fk ⟨rfl,ej⟩;refine⟨aW,?_⟩;refine cL (yj hB) ?_;refine ax 10 ?_ [7];refine bC (eD (k+1,dm) _ ⟨aD,(λq hq mM=>by
       simp only at hq;by_cases e:q=k
       · subst e;exact decide_eq_false (λe=>by first|exact hB e.2|exact hA e.1)
       · exact h0 q af mM),hF.mv,hT.mv,hl.mv,hp.mv⟩ aD)
   refine bX [] (dm) [1,3,5,7,9,11,13,15,17,18,21,23,25,27,29,31,33,35,37,39,41,42,45,47] bP ?_;intro fJ eS;have iE:=hl.mv;have tv:=hp.mv;refine ah 2 ?_;refine aL tv ?_;intro _ Ap Ie eZ;refine ew eZ ?_;intro v23 g23;have ZR:=g23;refine ah 2 ?_;refine aL iE ?_;intro _ y4 y5 kI;have gM:=bk.mE kI;refine ah 1 ?_ [0];refine cn gM ?_;intro v28 qL;have ZS:=qL;obtain rfl:=bV.1 qL.mv;refine dC Tryz.call29 (mC (c:=(l[i]'hil).A) hF.mv g23.mv) ?_;rintro vK gn ⟨rfl,fA⟩;refine⟨aW,?_⟩;refine cL (yj hA) ?_;refine ah 10 ?_;refine nz ?_;refine mb (k8 41 (mV 29 #[35,40] #[52,55]) 11 true) rfl rfl aW ?_;refine ck ?_;refine ax 11 ?_ [7];refine bC (eD (k+1,dm) _ ⟨aD,(λq hq mM=>by
      simp only at hq;by_cases e:q=k
      · subst e;exact decide_eq_false (λe=>by first|exact hB e.2|exact hA e.1)
      · exact h0 q af mM),hF.mv,hT.mv,hl.mv,hp.mv⟩ aD)
  have ay:k=ps.length:=by omega
  rw[if_neg (by rw[Bool.not_eq_true,List.any_eq_false];intro x hx;obtain⟨q,hq,rfl⟩:=List.getElem_of_mem hx;rw[h0 q af hq];simp)] at AG;refine aB 7 ?_ [7];refine kp (bT 0 (bT 1 (fD 5 rfl (eq_int (by simp only;rw[AG])) (fD 6 rfl (eq_int b_) (fL _))))) (bu (i+1,dm) _ ⟨aD,hF,hT,hl,hp⟩ aD)
 have hil:i=l.length:=by omega
 refine aB 6 ?_ [3];refine bg Tryz.func55 ?_;exact⟨by rw[hil,E3],hT.o1⟩
theorem F7 {w₀:World} {C:Nat->Nat} {rows:List (List au)} {cH:Value} (hF:aF w₀ C) (hp:aq w₀ (aj C) rows cH) (vQ:∀r∈rows,r.length<=1000000) (fu:rows.length<=1000000):Calls Tryz.prog 182 #[cH] w₀ (aZ λv w'=>∃aG,av [] w₀ C w' aG/\aF w' aG/\∃us,aQ w' aG 6 52 v (us.map gu.mk)/\ff w' aG 7 55 us rows):=by
 have aO:=hF;replace hF:=hF.aI;replace hp:=hp.c1;refine bG Tryz.func182 ?_;refine aB 14 ?_ [1,1,1];refine cg (ι:=Nat×(List Value)×Value×(Nat->Nat)) (λx w=>x.1<=rows.length/\aF w x.2.2.2/\av [6,7] w₀ (aI C) w x.2.2.2/\aq w (aj x.2.2.2) rows cH/\aQ w x.2.2.2 6 52 x.2.2.1 (x.2.1.map gu.mk)/\ff w x.2.2.2 7 55 x.2.1 (rows.take x.1)) (λx=>[(0,cH),(3,x.2.2.1),(4,.int .i64 x.1)]) (λx=>rows.length-x.1) (0,[],.slice none 0 0,aI C) ?_ ?_
 · exact⟨Nat.zero_le _,hF,(av.refl [6,7] w₀ (aI C)),hp,aQ.nil,by rw[List.take_zero];exact ff.nil⟩
 intro⟨i,us,ct,aK⟩ w1 hI bu;obtain⟨hi,hF,hT,hp,ho,hr⟩:=hI;try simp only at hi hF hT hp ho hr
 show Run _ _ _ _ [(0,cH),(3,ct),(4,.int .i64 i)] _ _;have hle:=hp.le;have y_:=hr.len;have jD: (rows.take i).length=i:=by rw[List.length_take];omega
 refine aA 5 ?_ [15];refine dE hp.ln ?_;refine ax 2 ?_;refine a_ 8 rfl (λh8=>?_) (λh8=>?_)
 ·
  have hil:i<rows.length:=by omega
  have hrb:=vQ _ (List.getElem_mem hil);refine aA 7 ?_ [271];refine aL hp ?_;intro _ qz qA eR;refine dW eR ?_;intro r7 g15;have hlt:=hr.lt;refine aR (WR (j:=7) (e:=55) (bytes:=16) hF ak rfl rfl ai ak g15 af af) ?_;rintro tu w2 ⟨cw,s_1,RP,hF,hfr⟩;have hone:=RP.one.2;replace hr:=hr.mv.snoc ak RP (hr.mv.fresh hfr hlt);rw[<-List.take_succ_eq_append_getElem hil] at hr;clear hlt hfr RP;refine aR (ez (ys:=([⟨tu⟩]:List gu)) (e:=52) (bytes:=24) hF ai rfl ak ak ⟨rfl,⟨_,rfl,mF.2 ⟨rfl,hone⟩⟩,trivial⟩) ?_;rintro v17 w3 ⟨s_2,g17,hF⟩;refine aR (eO (e:=52) (bytes:=24) hF ak rfl rfl ai ak ho.mv g17 JF JF) ?_;rintro nx w4 ⟨fW,cq,ho,hF⟩;refine ax 2 ?_;rw[show us.map gu.mk++[⟨tu⟩]=(us++[tu]).map gu.mk from by simp] at ho;refine aB 6 ?_ [7];refine bC (bu (i+1,us++[tu],nx,fW) _ ⟨aD,hF,hT.mv,hp.mv,ho,hr.mv⟩ aD)
 have hil:i=rows.length:=by omega
 rw[hil,List.take_length] at hr;refine aB 6 ?_ [3];refine bg Tryz.func182 ?_;exact⟨_,hT.rE,hT.aaH aO hF,us,ho.rE hT aO ak,hr.rE hT aO ak⟩
end
end Go.Proofs.YtmdhggfehknjjaaGreat
