/- Steps through functions of the program. -/
import Derived.Test.YtmdhggfehknjjaaGreatJM6E2
import Derived.Test.YtmdhggfehknjjaaGreatL3
import Derived.Test.YtmdhggfehknjjaaGreatL2
set_option maxRecDepth 100000
set_option maxHeartbeats 4000000
namespace Go.Proofs.YtmdhggfehknjjaaGreat
open Go.K Go.K.bn
noncomputable section
theorem I3 {w₀:World} {C:Nat->Nat} {l:List au} {aC:Value} (hF:aF w₀ C) (hl:aq w₀ (aj C) l aC):Calls Tryz.prog 141 #[aC] w₀ (aZ λv w'=>v=.bool (decide (l.Pairwise eF))/\av [] w₀ C w' C):=by
 have aO:=hF;replace hF:=hF.aI;replace hl:=hl.c1;refine bG Tryz.func141 ?_;refine aB 10 ?_ [1,1];refine cg (ι:=Nat×(Nat->Nat)) (λx w=>1<=x.1/\x.1<=max 1 l.length/\(∀q (hq:q<x.1) (hl:q<l.length),∀h1:0<q,eF (l[q-1]'af) l[q])/\aF w x.2/\av [2,3,4,5,6,7,8,9] w₀ (aI C) w x.2/\aq w (aj x.2) l aC) (λx=>[(0,aC),(3,.int .i64 x.1)]) (λx=>l.length-x.1) (1,aI C) ?_ ?_
 · exact⟨Nat.le_refl _,by omega,λq hq hl h1=>by simp only at hq;omega,hF,(z9 w₀ C),hl⟩
 intro⟨i,aK⟩ w1 hI bu;obtain⟨hi,hi2,h0,hF,hT,hl⟩:=hI;try simp only at hi hi2 h0 hF hT hl
 show Run _ _ _ _ [(0,aC),(3,.int .i64 i)] _ _;have hle:=hl.le;refine aA 5 ?_ [15];refine dE hl.ln ?_;refine ax 2 ?_;refine a_ 7 rfl (λh7=>?_) (λh7=>?_)
 ·
  have hil:i<l.length:=by omega
  refine aB 4 ?_;refine bX [] (aK) [1,3,5,7,9,11,13,15,17,18,21] bP ?_;intro w2 s_1;refine ah 3 ?_;refine aL hl.mv ?_;intro _ Ds zZ jc;refine cn jc ?_;intro z6 g14;have nV: ((i:Int)-1).toNat=i-1:=by omega
  simp only[nV] at g14;obtain rfl:=bV.1 g14;refine ah 2 ?_;refine aL hl.mv ?_;intro _ akq akr ey;refine cn ey ?_;intro nx g18;obtain rfl:=bV.1 g18;refine gl Tryz.call53 rfl (yX (x:=l[i-1]'af) (y:=l[i]'hil) hF.mv) ?_;rintro iu w3 ⟨rfl,s_2⟩;refine⟨aW,?_⟩;refine ax 2 ?_;refine a_ 20 rfl (λk6=>?_) (λk6=>?_)
  ·
   refine aB 4 ?_ [1];refine bg Tryz.func141 ?_;exact⟨by rw[decide_eq_false (aa1 hil af (λe=>by have:=xL.2 e;omega))],hT.o1⟩
  have hlt:eF (l[i-1]'af) (l[i]'hil):=xL.1 af;refine aB 7 ?_ [7];refine bC (bu (i+1,aK) _ ⟨aD,aD,(λq hq mM h1=>by
    simp only at hq;by_cases e:q=i
    ·subst e;exact hlt
    ·exact h0 q af mM h1),hF.mv,hT.mv,hl.mv⟩ aD)
 refine aB 5 ?_ [1];refine bg Tryz.func141 ?_;exact⟨by rw[decide_eq_true (aa0 λq hq h1=>h0 q af hq h1)],hT.o1⟩
theorem jO {s:List au} {c:au}: (s.any λx=>decide (c=x))=decide (c∈s):=by
 rw[Bool.eq_iff_iff,Df,decide_eq_true_iff]
theorem Y1 {w₀:World} {C:Nat->Nat} {l:List aH} {s:List au} {bH cK vs:Value} (hF:aF w₀ C) (hl:aq w₀ (aj C) l bH) (hs0:aq w₀ (aj C) s vs) (h1:1<=s.length) (hn:s.Nodup) (hlen:s.length<=8796093021952):Calls Tryz.prog 195 #[.agg #[bH,cK],vs] w₀ (aZ λv w'=>v=.bool (lM l s)/\av [] w₀ C w' C):=by
 have aO:=hF;replace hF:=hF.aI;replace hl:=hl.c1;replace hs0:=hs0.c1;refine bG Tryz.func195 ?_;refine aA 2 ?_ [2];refine aR (cu (cs:=[bH,cK]) hF 3 rfl rfl) ?_;rintro _ w1 ⟨cm,bq,rfl,s_1,hx,hF⟩;refine bh 5 ?_ [7];refine nz ?_;refine F9 (e':=55) (m:=1) (fq 12 (.slice 52 11 none (some (.const (.int .i64 1))) (some (.const (.int .i64 1))))) rfl rfl hs0.mv rfl ai rfl rfl h1 ?_;intro a1 Pb;refine ck ?_;refine bh 5 ?_ [1];have hs1: (s.take 1).length=1:=by rw[List.length_take];omega
 refine ax 3 ?_;refine cg (ι:=Bool×(List au)×Value×(Nat->Nat)) (λx w=>oH l s x.2.1/\(x.1=false->∀bd∈l,bd.A∈s->bd.B∈s->(bd.A∈x.2.1↔bd.B∈x.2.1))/\aF w x.2.2.2/\av [2,3,4,5,6,7,8,9] w₀ (aI C) w x.2.2.2/\aq w (aj x.2.2.2) l bH/\aq w (aj x.2.2.2) s vs/\bS w x.2.2.2 3 bq (.cells [bH,cK].toArray 129)/\nP w x.2.2.2 5 55 x.2.2.1 x.2.1) (λx=>[(1,vs),(2,.pointer (some ⟨bq,0,none⟩)),(5,x.2.2.1),(6,.bool x.1)]) (λx=>2*(s.length-x.2.1.length)+(if x.1 then 1 else 0)) (true,s.take 1,.slice a1 1 1,cm) ?_ ?_
 · exact⟨oH.start h1,λe=>(by cases e),hF,(z9 w₀ C).mv,hl.mv,hs0.mv,hx,.inr ⟨a1,(by rw[hs1]),Pb⟩⟩
 intro⟨g0,ys,vy,aK⟩ w2 hI bu;obtain⟨hR,hg,hF,hT,hl,hs0,hx,hy⟩:=hI;try simp only at hR hg hF hT hl hs0 hx hy
 show Run _ _ _ _ [(1,vs),(2,.pointer (some ⟨bq,0,none⟩)),(5,vy),(6,.bool g0)] _ _;have yU:=hR.len;refine aB 5 ?_ [1];refine f_ 13 rfl (λjc=>?_) (λjc=>?_)
 ·
  subst jc;refine aA 9 ?_ [1,13,0];refine aX hx.at_ ?_;refine dE hl.ln ?_;refine ax 3 ?_;refine cg (ι:=Nat×Bool×(List au)×Value×(Nat->Nat)) (λx w=>x.1<=l.length/\oH l s x.2.2.1/\(x.2.1=true->ys.length<x.2.2.1.length)/\(x.2.1=false->x.2.2.1=ys/\∀i (hi:i<x.1) (hl:i<l.length),l[i].A∈s->l[i].B∈s->(l[i].A∈ys↔l[i].B∈ys))/\aF w x.2.2.2.2/\av [2,3,4,5,6,7,8,9] w₀ (aI C) w x.2.2.2.2/\aq w (aj x.2.2.2.2) l bH/\aq w (aj x.2.2.2.2) s vs/\bS w x.2.2.2.2 3 bq (.cells [bH,cK].toArray 129)/\nP w x.2.2.2.2 5 55 x.2.2.2.1 x.2.2.1) (λx=>[(1,vs),(2,.pointer (some ⟨bq,0,none⟩)),(5,x.2.2.2.1),(6,.bool x.2.1),(15,bH),(16,.int .i64 l.length),(17,.int .i64 x.1)]) (λx=>l.length-x.1) (0,false,ys,vy,aK) ?_ ?_
  · exact⟨Nat.zero_le _,hR,λe=>(by cases e),λ_=>⟨rfl,λi hi=>by simp only at hi;omega⟩,hF,hT,hl,hs0,hx,hy⟩
  intro⟨k,g,zs,vy,dm⟩ w3 hI eD;obtain⟨hk,sH,uB,qj,hF,hT,hl,hs0,hx,hy⟩:=hI;try simp only at hk sH uB qj hF hT hl hs0 hx hy
  show Run _ _ _ _ [(1,vs),(2,.pointer (some ⟨bq,0,none⟩)),(5,vy),(6,.bool g),(15,bH),(16,.int .i64 l.length),(17,.int .i64 k)] _ _;have hle:=hl.le;have aev:=hs0.le;have hzl:=sH.len;refine aB 5 ?_ [1];refine a_ 18 rfl (λlW=>?_) (λlW=>?_)
  ·
   have ay:k<l.length:=by omega
   have I4:=List.getElem_mem ay;refine aA 5 ?_ [1];refine aL hl ?_;intro _ QA pq nu;refine gJ nu ?_;intro v20 g20;obtain rfl:=jU.1 g20;refine aR (dn (cs:=[.int .i64 0,.int .i64 0,.int .i64 0,.int .i64 0,.int .i64 0]) hF 6 ai) ?_;rintro _ w4 ⟨fW,nT,rfl,s_2,hb,hF⟩;refine bM (cC (vs:=jT (l[k]'ay)) (n:=5) rfl rfl ai rfl rfl (fE rfl) hb rfl) ?_;rintro _ dc ⟨rfl,cq,hb⟩;refine ax 3 ?_;by_cases hA: (l[k]'ay).A∈s
   ·
    by_cases hB: (l[k]'ay).B∈s
    ·
     refine aA 3 ?_ [3315,0];refine bF 2 (aV (l[k]'ay).A) hb.at_ ?_;refine bD Tryz.call49 (jN (c:=(l[k]'ay).A) hF.mv hs0.mv) ?_;rintro lz ei ⟨rfl,cI⟩;rw[jO,decide_eq_true hA];refine ah 4 ?_ [2];refine bF 2 (aV (l[k]'ay).B) hb.mv.at_ ?_;refine bD Tryz.call49 (jN (c:=(l[k]'ay).B) hF.mv hs0.mv) ?_;rintro jJ w7 ⟨rfl,de⟩;rw[jO,decide_eq_true hB];refine ax 6 ?_;by_cases hP: (l[k]'ay).A∈zs
     ·
      by_cases hQ: (l[k]'ay).B∈zs
      ·
       refine bX [] (fW) [1,3,5,9,11,13,6,14,17,19] bP ?_;intro fk ej;refine ah 2 ?_ [0];refine c7 2 (aV (l[k]'ay).A) hb.mv.sz ?_;refine ah 2 ?_ [2];refine c7 2 (aV (l[k]'ay).B) hb.mv.sz ?_;refine gl Tryz.call49 rfl (jN (C:=ji) (c:=(l[k]'ay).A) (oG _) (hy.mv.nc af)) ?_;rintro _ fJ ⟨rfl,eS⟩;replace fA:=eS.re (fW);rw[jO,decide_eq_true hP];refine⟨aW,?_⟩;refine gl Tryz.call49 rfl (jN (C:=ji) (c:=(l[k]'ay).B) (oG _) (hy.mv.nc af)) ?_;rintro _ gn ⟨rfl,fT⟩;replace gY:=fT.re (fW);rw[jO,decide_eq_true hQ];refine⟨aW,?_⟩;refine ax 31 ?_ [63,63,3];refine bC (eD (k+1,g,zs,vy,fW) _ ⟨aD,aD,aD,(λe=>by
           obtain⟨h1,h2⟩:=qj e;exact⟨h1,λi hi hl' a b=>by
             simp only at hi;by_cases e2:i=k
             ·subst e2;rw[<-h1];first|exact⟨λ_=>hQ,λ_=>hP⟩|exact⟨λe=>absurd e hP,λe=>absurd e hQ⟩
             ·exact h2 i af hl' a b⟩),hF.mv,hT.mv,hl.mv,hs0.mv,hx.mv,hy.mv⟩ aD)
      refine bX [] (fW) [1,3,5,9,11,13,6,14,17,19] bP ?_;intro iK eY;refine ah 2 ?_ [0];refine c7 2 (aV (l[k]'ay).A) hb.mv.sz ?_;refine ah 2 ?_ [2];refine c7 2 (aV (l[k]'ay).B) hb.mv.sz ?_;refine gl Tryz.call49 rfl (jN (C:=ji) (c:=(l[k]'ay).A) (oG _) (hy.mv.nc af)) ?_;rintro _ iV ⟨rfl,iW⟩;replace jx:=iW.re (fW);rw[jO,decide_eq_true hP];refine⟨aW,?_⟩;refine gl Tryz.call49 rfl (jN (C:=ji) (c:=(l[k]'ay).B) (oG _) (hy.mv.nc af)) ?_;rintro _ ki ⟨rfl,jX⟩;replace mq:=jX.re (fW);rw[jO,decide_eq_false hQ];refine⟨aW,?_⟩;refine bh 17 ?_ [63,99,2];refine bF 2 (aV (l[k]'ay).B) hb.mv.at_ ?_;refine aR (ez (ys:=([(l[k]'ay).B]:List au)) (e:=55) (bytes:=16) hF.mv ai rfl ak ak ⟨rfl,⟨_,rfl,bV.2 rfl⟩,trivial⟩) ?_;rintro v50 kH ⟨lU,ku,hF⟩;refine aR (Vz (e:=55) (bytes:=16) hF (j:=5) ak rfl rfl ai ak hy.mv ku b_ dH dH) ?_;rintro QN lR ⟨QO,nh,hy,hF⟩;refine ax 9 ?_ [3];refine bC (eD (k+1,true,zs++[(l[k]'ay).B],QN,QO) _ ⟨aD,(sH.add I4 hA hB (.inr ⟨rfl,hP⟩) hQ),(λ_=>by
           simp only[List.length_append,List.length_cons,List.length_nil];cases eg:g with
           |true=>have:=uB eg;omega
           |false=>have:=(qj eg).1;rw[this];omega),(λe=>by cases e),hF,hT.mv,hl.mv,hs0.mv,hx.mv,(.inl hy)⟩ aD)
     by_cases hQ: (l[k]'ay).B∈zs
     ·
      refine bX [] (fW) [1,3,5,9,11,13,6,14,17,19] bP ?_;intro mo oJ;refine ah 2 ?_ [0];refine c7 2 (aV (l[k]'ay).A) hb.mv.sz ?_;refine ah 2 ?_ [2];refine c7 2 (aV (l[k]'ay).B) hb.mv.sz ?_;refine gl Tryz.call49 rfl (jN (C:=ji) (c:=(l[k]'ay).A) (oG _) (hy.mv.nc af)) ?_;rintro _ nQ ⟨rfl,nR⟩;replace om:=nR.re (fW);rw[jO,decide_eq_false hP];refine⟨aW,?_⟩;refine gl Tryz.call49 rfl (jN (C:=ji) (c:=(l[k]'ay).B) (oG _) (hy.mv.nc af)) ?_;rintro _ oh ⟨rfl,uX⟩;replace zY:=uX.re (fW);rw[jO,decide_eq_true hQ];refine⟨aW,?_⟩;refine bh 27 ?_ [63,63,99,0];refine bF 2 (aV (l[k]'ay).A) hb.mv.at_ ?_;refine aR (ez (ys:=([(l[k]'ay).A]:List au)) (e:=55) (bytes:=16) hF.mv ai rfl ak ak ⟨rfl,⟨_,rfl,bV.2 rfl⟩,trivial⟩) ?_;rintro aew mJ ⟨Bz,Ig,hF⟩;refine aR (Vz (e:=55) (bytes:=16) hF (j:=5) ak rfl rfl ai ak hy.mv Ig b_ dH dH) ?_;rintro QN qC ⟨Aw,Dq,hy,hF⟩;refine ax 9 ?_ [3];refine bC (eD (k+1,true,zs++[(l[k]'ay).A],QN,Aw) _ ⟨aD,(sH.add I4 hA hB (.inl ⟨rfl,hQ⟩) hP),(λ_=>by
           simp only[List.length_append,List.length_cons,List.length_nil];cases eg:g with
           |true=>have:=uB eg;omega
           |false=>have:=(qj eg).1;rw[this];omega),(λe=>by cases e),hF,hT.mv,hl.mv,hs0.mv,hx.mv,(.inl hy)⟩ aD)
     refine bX [] (fW) [1,3,5,9,11,13,6,14,17,19] bP ?_;intro tO I5;refine ah 2 ?_ [0];refine c7 2 (aV (l[k]'ay).A) hb.mv.sz ?_;refine ah 2 ?_ [2];refine c7 2 (aV (l[k]'ay).B) hb.mv.sz ?_;refine gl Tryz.call49 rfl (jN (C:=ji) (c:=(l[k]'ay).A) (oG _) (hy.mv.nc af)) ?_;rintro _ wN ⟨rfl,F0⟩;replace I6:=F0.re (fW);rw[jO,decide_eq_false hP];refine⟨aW,?_⟩;refine gl Tryz.call49 rfl (jN (C:=ji) (c:=(l[k]'ay).B) (oG _) (hy.mv.nc af)) ?_;rintro _ wO ⟨rfl,F1⟩;replace I7:=F1.re (fW);rw[jO,decide_eq_false hQ];refine⟨aW,?_⟩;refine ax 31 ?_ [63,63,3];refine bC (eD (k+1,g,zs,vy,fW) _ ⟨aD,aD,aD,(λe=>by
           obtain⟨h1,h2⟩:=qj e;exact⟨h1,λi hi hl' a b=>by
             simp only at hi;by_cases e2:i=k
             ·subst e2;rw[<-h1];first|exact⟨λ_=>hQ,λ_=>hP⟩|exact⟨λe=>absurd e hP,λe=>absurd e hQ⟩
             ·exact h2 i af hl' a b⟩),hF.mv,hT.mv,hl.mv,hs0.mv,hx.mv,hy.mv⟩ aD)
    refine aA 3 ?_ [3315,0];refine bF 2 (aV (l[k]'ay).A) hb.at_ ?_;refine bD Tryz.call49 (jN (c:=(l[k]'ay).A) hF.mv hs0.mv) ?_;rintro aex wP ⟨rfl,I8⟩;rw[jO,decide_eq_true hA];refine ah 4 ?_ [2];refine bF 2 (aV (l[k]'ay).B) hb.mv.at_ ?_;refine bD Tryz.call49 (jN (c:=(l[k]'ay).B) hF.mv hs0.mv) ?_;rintro QS zX ⟨rfl,LX⟩;rw[jO,decide_eq_false hB];refine ax 9 ?_ [3];refine bC (eD (k+1,g,zs,vy,fW) _ ⟨aD,aD,aD,(λe=>by
         obtain⟨h1,h2⟩:=qj e;exact⟨h1,λi hi hl' a b=>by
           simp only at hi;by_cases e2:i=k
           · subst e2;first|exact absurd a hA|exact absurd b hB
           · exact h2 i af hl' a b⟩),hF.mv,hT.mv,hl.mv,hs0.mv,hx.mv,hy.mv⟩ aD)
   refine aA 3 ?_ [3315,0];refine bF 2 (aV (l[k]'ay).A) hb.at_ ?_;refine bD Tryz.call49 (jN (c:=(l[k]'ay).A) hF.mv hs0.mv) ?_;rintro OB Bx ⟨rfl,QU⟩;rw[jO,decide_eq_false hA];refine ax 15 ?_ [3];refine bC (eD (k+1,g,zs,vy,fW) _ ⟨aD,aD,aD,(λe=>by
        obtain⟨h1,h2⟩:=qj e;exact⟨h1,λi hi hl' a b=>by
          simp only at hi;by_cases e2:i=k
          · subst e2;first|exact absurd a hA|exact absurd b hB
          · exact h2 i af hl' a b⟩),hF.mv,hT.mv,hl.mv,hs0.mv,hx.mv,hy.mv⟩ aD)
  have ay:k=l.length:=by omega
  refine aB 2 ?_;by_cases xx:g=true
  ·
   have hlt:=uB xx;refine bC (bu (g,zs,vy,dm) _ ⟨sH,(λe=>by rw[xx] at e;cases e),hF,hT,hl,hs0,hx,hy⟩ (by simp only[xx];have:=sH.len;simp;omega))
  obtain⟨nG,jv⟩:=qj (by simpa using xx);refine bC (bu (g,zs,vy,dm) _ ⟨sH,(λ_ x hx a b=>by
        obtain⟨i,hi,rfl⟩:=List.getElem_of_mem hx;rw[nG];exact jv i af hi a b),hF,hT,hl,hs0,hx,hy⟩ (by simp only[xx];rw[nG];simp))
 subst jc;refine aA 4 ?_ [63];refine dE hy.ln ?_;refine ah 1 ?_;refine dE hs0.ln ?_;refine aP (λ_=>fN (CD rfl rfl) (show _=Value.bool (lM l s) from congrArg Value.bool (by rw[Bool.eq_iff_iff,decide_eq_true_iff];exact hR.fin hn (hg rfl)))) ?_;refine ax 2 ?_;refine bg Tryz.func195 ?_;exact⟨rfl,hT.o1⟩
theorem aey {w₀:World} {C:Nat->Nat} {ds:List bp} {bH cK:Value} {x a:au} {b1 b2:Nat} (hF:aF w₀ C) (hap:fQ w₀ (aj C) ds cK) (h1:w₀.heap[b1]?=some (.cells [bH,cK].toArray 129)) (h2:w₀.heap[b2]?=some (.cells (aV a).toArray 55)):Calls Tryz.prog 194 #[dx x,.pointer (some ⟨b1,0,none⟩),.pointer (some ⟨b2,0,none⟩)] w₀ (aZ λv w'=>v=.bool (eP ds x a)/\av [] w₀ C w' C):=by
 have aO:=hF;replace hF:=hF.aI;replace hap:fQ w₀ (aj (aI C)) ds cK:=by rw[er];exact hap
 replace h1:=jj.of h1 C;replace h2:=jj.of h2 C;refine bG Tryz.func194 ?_;refine aA 2 ?_ [2];refine aR (cu (cs:=aV x) hF 3 rfl rfl) ?_;rintro _ w1 ⟨cm,bq,rfl,s_1,hb,hF⟩;refine bh 4 ?_ [16];refine bF 2 ([bH,cK]) h1.mv.at_ ?_;refine bF 2 (aV x) hb.at_ ?_;refine bF 2 (aV a) h2.mv.at_ ?_;refine bD Tryz.call137 (QM (a:=x) (b:=a) hF hap.mv) ?_;rintro fP w2 ⟨rfl,s_2⟩;refine ax 2 ?_;refine bg Tryz.func194 ?_;exact⟨rfl,(z9 w₀ C).o1⟩
theorem LY {w₀:World} {C:Nat->Nat} {l:List aH} {ds:List bp} {s:List au} {bH cK vs:Value} (hF:aF w₀ C) (hl:aq w₀ (aj C) l bH) (hap:fQ w₀ (aj C) ds cK) (hs0:aq w₀ (aj C) s vs) (hlen:s.length<=8796093021952):Calls Tryz.prog 142 #[.agg #[bH,cK],vs] w₀ (aZ λv w'=>v=.bool (rm l ds s)/\av [] w₀ C w' C):=by
 have aO:=hF;replace hF:=hF.aI;replace hl:=hl.c1;replace hs0:=hs0.c1;replace hap:fQ w₀ (aj (aI C)) ds cK:=by rw[er];exact hap
 refine bG Tryz.func142 ?_;refine aA 2 ?_ [2];refine aR (cu (cs:=[bH,cK]) hF 3 rfl rfl) ?_;rintro _ w1 ⟨cm,bq,rfl,s_1,hx,hF⟩;refine bh 6 ?_ [7];refine dE hs0.mv.ln ?_;refine ax 2 ?_;refine a_ 9 rfl (λfC=>?_) (λfC=>?_)
 ·
  refine aB 4 ?_ [1];refine bg Tryz.func142 ?_;exact⟨by unfold rm;rw[decide_eq_false af];rfl,(z9 w₀ C).o1⟩
 have D6:2<=s.length:=by omega
 refine aA 5 ?_ [7];refine dE hs0.mv.ln ?_;refine ax 3 ?_;replace hl:=hl.mv;refine cg (ι:=Nat×(Nat->Nat)) (λx w=>x.1<=s.length/\(∀q (hq:q<x.1) (hl:q<s.length),(s.take q).any (λb=>eP ds b s[q])=false)/\aF w x.2/\av [2,3,4,5,6,7,8,9] w₀ (aI C) w x.2/\aq w (aj x.2) l bH/\aq w (aj x.2) s vs/\fQ w (aj x.2) ds cK/\bS w x.2 3 bq (.cells [bH,cK].toArray 129)) (λx=>[(1,vs),(2,.pointer (some ⟨bq,0,none⟩)),(10,vs),(11,.int .i64 s.length),(12,.int .i64 x.1)]) (λx=>s.length-x.1) (0,cm) ?_ ?_
 · exact⟨Nat.zero_le _,λq hq=>by simp only at hq;omega,hF,(z9 w₀ C).mv,hl,hs0.mv,hap.mv,hx⟩
 intro⟨i,aK⟩ w2 hI bu;obtain⟨hi,h0,hF,hT,hl,hs0,hap,hx⟩:=hI;try simp only at hi h0 hF hT hl hs0 hap hx
 show Run _ _ _ _ [(1,vs),(2,.pointer (some ⟨bq,0,none⟩)),(10,vs),(11,.int .i64 s.length),(12,.int .i64 i)] _ _;have hle:=hs0.le;refine aB 5 ?_ [1];refine a_ 13 rfl (λjc=>?_) (λjc=>?_)
 ·
  have hil:i<s.length:=by omega
  refine aA 6 ?_ [19];refine aL hs0 ?_;intro _ QE QF gL;refine gJ gL ?_;intro tu g16;obtain rfl:=bV.1 g16;refine aR (dn (cs:=[.int .i64 0,.int .i64 0]) hF 4 ai) ?_;rintro _ w3 ⟨jd,je,rfl,s_2,ha,hF⟩;refine ah 1 ?_;refine bM (cC (vs:=aV (s[i]'hil)) (n:=2) rfl rfl ai rfl rfl (fE rfl) ha rfl) ?_;rintro _ w4 ⟨rfl,cq,ha⟩;refine bh 5 ?_ [15];refine nz ?_;refine Be (e':=55) (fq 19 (.slice 52 17 none (some 18) none)) rfl rfl hs0.mv rfl ai rfl af af ?_;intro yY nu;try simp only[fh] at nu
  refine ck ?_;refine aP (λ_=>Bg rfl rfl) ?_;replace hap:=hap.mv;replace hx:=hx.mv;replace hF:=hF.mv;have dM:∀w1,av [] _ (jd) w1 (jd)->∀x∈s.take i,Calls Tryz.prog 194 ([dx x]++#[Value.pointer (some ⟨bq,0,none⟩),Value.pointer (some ⟨je,0,none⟩)].toList).toArray w1 (aZ λv w'=>v=.bool (eP ds x (s[i]'hil))/\av [] w1 (jd) w' (jd)):=λw1 h1 x _=>aey (hF.st h1) (hap.st h1 ak) (h1.same hx.at_) (h1.same ha.at_);refine bD Tryz.call134 (I2 (p:=λx=>eP ds x (s[i]'hil)) (nf:=194) (caps:=#[Value.pointer (some ⟨bq,0,none⟩),Value.pointer (some ⟨je,0,none⟩)]) (λargs w=>Tryz.call194 args w) dM hF nu) ?_;rintro kf dc ⟨rfl,cI⟩;refine ax 1 ?_;refine f_ 21 rfl (λjl=>?_) (λjl=>?_)
  ·
   have hno:=VC hil jl;refine aB 4 ?_ [1];refine bg Tryz.func142 ?_;exact⟨by unfold rm;rw[hno];simp,hT.o1⟩
  skip
  refine aB 6 ?_ [3];refine bC (bu (i+1,jd) _ ⟨aD,(λq hq mM=>by
    simp only at hq;by_cases e:q=i
    ·subst e;exact jl
    ·exact h0 q af mM),hF.mv,hT.mv,hl.mv,hs0.mv,hap.mv,hx.mv⟩ aD)
 have hil:i=s.length:=by omega
 refine aA 3 ?_ [10];have sq:=VB (λq hq=>h0 q af hq);refine bF 2 ([bH,cK]) hx.at_ ?_;refine ah 1 ?_;refine cz Tryz.call195 rfl (Y1 (cK:=cK) hF hl hs0 af (VA (KU.1 sq)) hlen) ?_;rintro lz ei ⟨rfl,de⟩;refine ax 2 ?_;refine bg Tryz.func142 ?_;exact⟨by unfold rm;rw[sq,decide_eq_true D6];rfl,hT.o1⟩
theorem aez {w₀:World} {C:Nat->Nat} {l:List (List au)} {aC:Value} {p:List au->Bool} {nf:Nat} {caps:Array Value} (gW:∀args w,(callFunc nf args).run Tryz.prog w=.ok (.enter nf args) w) (hp:∀w1,av [] w₀ C w1 C->∀x∈l,∀vx,aq w1 (aj C) x vx->Calls Tryz.prog nf ([vx]++caps.toList).toArray w1 (aZ λv w'=>v=.bool (p x)/\av [] w1 C w' C)) (hF:aF w₀ C) (hl:aq w₀ (aj C) l aC):Calls Tryz.prog 162 #[aC,.func (.func nf) #[] caps] w₀ (aZ λv w'=>v=.int .i64 (idxOf p l)/\av [] w₀ C w' C):=by
 refine bG Tryz.func162 ?_;refine aA 8 ?_ [1,7];refine dE hl.ln ?_;refine ax 3 ?_;refine cg (ι:=Nat) (λx w=>x<=l.length/\(∀i (hi:i<x) (hl:i<l.length),p l[i]=false)/\aF w C/\av [] w₀ C w C/\aq w (aj C) l aC) (λx=>[(0,aC),(1,.func (.func nf) #[] caps),(7,.int .i64 l.length),(8,.int .i64 x)]) (λx=>l.length-x) 0 ?_ ?_
 · exact⟨Nat.zero_le _,λi hi _=>by first|omega|(simp only at hi;omega),hF,(av.refl [] w₀ C),hl⟩
 intro k w1 hI bu;obtain⟨hk,h0,hF,hT,hl⟩:=hI;try simp only at hk h0 hF hT hl
 show Run _ _ _ _ [(0,aC),(1,.func (.func nf) #[] caps),(7,.int .i64 l.length),(8,.int .i64 k)] _ _;have hle:=hl.le;refine aB 5 ?_ [1];refine a_ 9 rfl (λfC=>?_) (λfC=>?_)
 ·
  have ay:k<l.length:=by omega
  refine aA 13 ?_ [3,15];refine aL hl ?_;intro _ qz qA eR;refine dW eR ?_;intro r7 g15;refine nz ?_;refine Bb (fq 16 (.call {callee:=.value 11,args:=#[15],argTypes:=#[52]})) rfl rfl (rM gW rfl rfl) (hp _ hT (l[k]'ay) (List.getElem_mem ay) _ g15) ?_;rintro fP w2 ⟨rfl,s_1⟩;refine ck ?_;refine ax 1 ?_;refine f_ 16 rfl (λcZ=>?_) (λcZ=>?_)
  ·
   refine aB 5 ?_ [3];refine bg Tryz.func162 ?_;exact⟨by rw[x8 ay (λi hi=>h0 i hi af) cZ],hT.mv⟩
  refine aB 6 ?_ [3];replace hl:=hl.mv;refine bC (bu (k+1) _ ⟨aD,(λi hi hl=>by
    by_cases e:i=k
    ·subst e;exact cZ
    ·exact h0 i (by first|omega|(simp only at hi;omega)) hl),hF.mv,hT.mv,hl⟩ aD)
 have ay:k=l.length:=by omega
 refine aB 5 ?_ [1];refine bg Tryz.func162 ?_;exact⟨by rw[Bs (λi hi=>h0 i af hi)],hT⟩
theorem aeA {w₀:World} {C:Nat->Nat} {l:List (List au)} {aC:Value} {p:List au->Bool} {nf:Nat} {caps:Array Value} (gW:∀args w,(callFunc nf args).run Tryz.prog w=.ok (.enter nf args) w) (hp:∀w1,av [] w₀ C w1 C->∀x∈l,∀vx,aq w1 (aj C) x vx->Calls Tryz.prog nf ([vx]++caps.toList).toArray w1 (aZ λv w'=>v=.bool (p x)/\av [] w1 C w' C)) (hF:aF w₀ C) (hl:aq w₀ (aj C) l aC):Calls Tryz.prog 98 #[aC,.func (.func nf) #[] caps] w₀ (aZ λv w'=>v=.bool (l.any p)/\av [] w₀ C w' C):=by
 refine bG Tryz.func98 ?_;refine aA 8 ?_ [1,27];refine bD Tryz.call162 (aez gW hp hF hl) ?_;rintro kQ w1 ⟨rfl,s_1⟩;refine ax 3 ?_;refine bg Tryz.func98 ?_;exact⟨by rw[Bt],(av.refl [] w₀ C).mv⟩
theorem aeB {w₀:World} {C:Nat->Nat} {b:aH} {x:List au} {vx:Value} {b1:Nat} (hF:aF w₀ C) (hx:aq w₀ (aj C) x vx) (h1:w₀.heap[b1]?=some (.cells (jT b).toArray 58)):Calls Tryz.prog 99 #[vx,.pointer (some ⟨b1,0,none⟩)] w₀ (aZ λv w'=>v=.bool (uU b x)/\av [] w₀ C w' C):=by
 have aO:=hF;replace hF:=hF.aI;replace hx:=hx.c1;replace h1:=jj.of h1 C;refine bG Tryz.func99 ?_;refine aB 5 ?_ [1];by_cases hA:b.A∈x
 ·
  by_cases hB:b.B∈x
  ·
   refine aA 3 ?_ [1651,0];refine bF 2 (aV b.A) h1.at_ ?_;refine bD Tryz.call49 (jN (c:=b.A) hF hx) ?_;rintro kQ w1 ⟨rfl,s_1⟩;rw[jO,decide_eq_true hA];refine ah 3 ?_ [2];refine bF 2 (aV b.B) h1.mv.at_ ?_;refine bD Tryz.call49 (jN (c:=b.B) hF.mv hx.mv) ?_;rintro fP w2 ⟨rfl,s_2⟩;rw[jO,decide_eq_true hB];refine ax 3 ?_;refine bg Tryz.func99 ?_;exact⟨by rw[Ox,decide_eq_true hA,decide_eq_true hB];rfl,(z9 w₀ C).o1⟩
  refine aA 3 ?_ [1651,0];refine bF 2 (aV b.A) h1.at_ ?_;refine bD Tryz.call49 (jN (c:=b.A) hF hx) ?_;rintro iu w3 ⟨rfl,cq⟩;rw[jO,decide_eq_true hA];refine ah 3 ?_ [2];refine bF 2 (aV b.B) h1.mv.at_ ?_;refine bD Tryz.call49 (jN (c:=b.B) hF.mv hx.mv) ?_;rintro fS w4 ⟨rfl,cI⟩;rw[jO,decide_eq_false hB];refine ax 3 ?_;refine bg Tryz.func99 ?_;exact⟨by rw[Ox,decide_eq_true hA,decide_eq_false hB];rfl,(z9 w₀ C).o1⟩
 refine aA 3 ?_ [1651,0];refine bF 2 (aV b.A) h1.at_ ?_;refine bD Tryz.call49 (jN (c:=b.A) hF hx) ?_;rintro kf dc ⟨rfl,de⟩;rw[jO,decide_eq_false hA];refine ax 8 ?_;refine bg Tryz.func99 ?_;exact⟨by rw[Ox,decide_eq_false hA];rfl,(z9 w₀ C).o1⟩
theorem Y2 {w₀:World} {C:Nat->Nat} {l:List aH} {ps:List (List au)} {aC cH:Value} (hF:aF w₀ C) (hl:aq w₀ (aj C) l aC) (hp:aq w₀ (aj C) ps cH):Calls Tryz.prog 54 #[aC,cH] w₀ (aZ λv w'=>v=.int .i64 (IntKind.i64.wrap (fc l ps))/\av [] w₀ C w' C):=by
 have aO:=hF;replace hF:=hF.aI;replace hl:=hl.c1;replace hp:=hp.c1;refine bG Tryz.func54 ?_;refine aA 12 ?_ [1,1,7];refine dE hl.ln ?_;refine ax 3 ?_;refine xE (ι:=Nat×(Nat->Nat)) (I:=λx w=>x.1<=l.length/\aF w x.2/\av [2,3,4,5,6,7,8,9] w₀ (aI C) w x.2/\aq w (aj x.2) l aC/\aq w (aj x.2) ps cH) (e:=λx=>[(1,cH),(5,.int .i64 (IntKind.i64.wrap (fc (l.take x.1) ps))),(8,aC),(9,.int .i64 l.length),(10,.int .i64 x.1)]) (m:=λx=>l.length-x.1) (nB:=(0,aI C)) (bT 1 (fD 5 rfl (eq_int (by simp[fc];rfl)) (bT 8 (bT 9 (bT 10 (fL _)))))) ?_ ?_
 · exact⟨Nat.zero_le _,hF,(z9 w₀ C),hl,hp⟩
 intro⟨k,aK⟩ w1 hI bu;obtain⟨hk,hF,hT,hl,hp⟩:=hI;try simp only at hk hF hT hl hp
 show Run _ _ _ _ [(1,cH),(5,.int .i64 (IntKind.i64.wrap (fc (l.take k) ps))),(8,aC),(9,.int .i64 l.length),(10,.int .i64 k)] _ _;have hle:=hl.le;refine aB 5 ?_ [1];refine a_ 11 rfl (λjB=>?_) (λjB=>?_)
 ·
  have ay:k<l.length:=by omega
  have AG:=Ow ay ps;refine aA 5 ?_ [1];refine aL hl ?_;intro _ QI QJ h12;refine gJ h12 ?_;intro D5 g13;obtain rfl:=jU.1 g13;refine aR (dn (cs:=[.int .i64 0,.int .i64 0,.int .i64 0,.int .i64 0,.int .i64 0]) hF 4 ai) ?_;rintro _ w2 ⟨cw,cM,rfl,s_1,hb,hF⟩;refine bM (cC (vs:=jT (l[k]'ay)) (n:=5) rfl rfl ai rfl rfl (fE rfl) hb rfl) ?_;rintro _ w3 ⟨rfl,s_2,hb⟩;refine bh 4 ?_ [3];refine aP (λ_=>Bg rfl rfl) ?_;replace hF:=hF.mv;have dM:∀w1,av [] _ (cw) w1 (cw)->∀x∈ps,∀vx,aq w1 (aj (cw)) x vx->Calls Tryz.prog 99 ([vx]++#[Value.pointer (some ⟨cM,0,none⟩)].toList).toArray w1 (aZ λv w'=>v=.bool (uU (l[k]'ay) x)/\av [] w1 (cw) w' (cw)):=λw1 h1 x _ vx hx=>aeB (hF.st h1) hx (h1.same hb.at_);refine bD Tryz.call98 (aeA (p:=uU (l[k]'ay)) (nf:=99) (caps:=#[Value.pointer (some ⟨cM,0,none⟩)]) (λargs w=>Tryz.call99 args w) dM hF hp.mv) ?_;rintro fS w4 ⟨rfl,cq⟩;refine ax 1 ?_;refine f_ 16 rfl (λcZ=>?_) (λcZ=>?_)
  ·
   rw[if_pos cZ] at AG;refine aA 3 ?_ [27,4];refine aX hb.mv.at_ ?_;refine aP (λ_=>fN (val_add rfl rfl) (congrArg (Value.int .i64) (XE _ _))) ?_;refine ax 7 ?_ [3];refine kp (bT 1 (fD 5 rfl (eq_int (by simp only;rw[AG])) (bT 8 (bT 9 (fD 10 rfl (eq_int b_) (fL _)))))) (bu (k+1,cw) _ ⟨aD,hF.mv,hT.mv,hl.mv,hp.mv⟩ aD)
  rw[if_neg (by rw[cZ];decide)] at AG;refine aB 6 ?_ [3];refine kp (bT 1 (fD 5 rfl (eq_int (by simp only;rw[AG])) (bT 8 (bT 9 (fD 10 rfl (eq_int b_) (fL _)))))) (bu (k+1,cw) _ ⟨aD,hF.mv,hT.mv,hl.mv,hp.mv⟩ aD)
 have ay:k=l.length:=by omega
 refine aB 6 ?_ [3];refine bg Tryz.func54 ?_;exact⟨by rw[ay,E3],hT.o1⟩
theorem Y3 {w₀:World} {C:Nat->Nat} {l:List aH} {ps:List (List au)} {aC cH:Value} (hF:aF w₀ C) (hl:aq w₀ (aj C) l aC) (hp:aq w₀ (aj C) ps cH) (hw:∀x∈l,1<=x.w/\x.w<=1048576) (hlen:l.length<=4096):Calls Tryz.prog 54 #[aC,cH] w₀ (aZ λv w'=>v=.int .i64 (fc l ps)/\av [] w₀ C w' C):=by
 have h:=Y2 hF hl hp;have hb:=Hr hw ps l.length (Nat.le_refl _);rw[E3] at hb;rw[Pp af af] at h;exact h
theorem aeC {w₀:World} {C:Nat->Nat} {xs:List au} {px:Value} (hF:aF w₀ C) (hw:aq w₀ (aj C) xs px) (hne:xs≠[]) (hlen:xs.length<=1000000) (j:Nat) (hj:j≠0):Calls Tryz.prog 150 #[px] w₀ (aZ λv w'=>∃aG,av [] w₀ C w' aG/\aF w' aG/\aQ w' aG j 55 v xs):=by
 have aO:=hF;replace hF:=hF.aI;replace hw:=hw.c1;obtain⟨a0,c0,ox,D7,_,hs0⟩:=kT.1 hw;obtain⟨b0,rfl⟩:∃b,a0=some b:=by
  rcases hs0 with h|⟨b,o,rfl,_⟩
  ·exact absurd h hne
  exact⟨_,rfl⟩
 clear hs0;refine bG Tryz.func150 ?_;refine aA 8 ?_ [1,3];refine aP (λ_=>Du ((show _=some px from rfl).trans (congrArg some ox)) Tryz.underlying52) ?_;refine bh 5 ?_ [10];refine aR (E_ (n:=2) (e:=55) (bytes:=16) hF ai) ?_;rintro _ w1 ⟨⟨a5,rfl⟩,s_1,hF⟩;refine ah 1 ?_;refine aR (GU (j:=5) (e:=55) (bytes:=16) (ys:=([]:List au)) hF ak rfl rfl ai ak Fa hw.mv hne xA xA) ?_;rintro tg w2 ⟨cw,s_2,hn,hF⟩;refine ax 2 ?_;simp only[List.nil_append] at hn;refine bg Tryz.func150 ?_;obtain⟨rH,qe,hFg,FP,ud⟩:=hn.mG (z9 w₀ C).mv aO (er C) (λb _=>gI C ak b) ak j hj;exact⟨rH,((z9 w₀ C).o1).mG qe,hFg,ud⟩
theorem aeD {w₀:World} {C:Nat->Nat} {l:List aH} {rows:List (List au)} {st:iU} {bH cK gZ:Value} {b:Nat} (hF:aF w₀ C) (hl:aq w₀ (aj C) l bH) (hS:KZ 184 52 55 w₀ C b bH cK gZ rows st) (gi:∀s∈rows,s.Nodup) (pE:∀s∈rows,s.length<=1000) (hrows:rows.length<=1000) (hw:∀x∈l,1<=x.w/\x.w<=1048576) (lF:l.length<=4096):
    Calls Tryz.prog 187 #[.pointer (some ⟨b,0,none⟩)] w₀ (aZ λv w'=>∃aG,v=.tuple #[]/\av [3,4,5] w₀ C w' aG/\aF w' aG/\KZ 184 52 55 w' aG b bH cK gZ rows (oe l st rows)):=by
 obtain⟨vs,us,iX,hx,ho,hr,dz⟩:=hS;have aO:=hF;replace hF:=hF.eL;replace hl:=hl.eL;replace hx:=hx.eL (.inl rfl);replace ho:=ho.eL (.inr (.inl rfl));replace hr:=hr.eL (.inr (.inr rfl));replace dz:=dz.eL;have hrl:=hr.len;refine bG Tryz.func187 ?_;refine aA 10 ?_ [1,55,3];refine aX hx.at_ ?_;refine dE ho.ln ?_;refine ax 3 ?_;refine cg (ι:=Nat×Value×(Nat->Nat)) (λx w=>x.1<=us.length/\(∀q (hq:q<x.1) (hl:q<rows.length),2<=(rows[q]).length->lM l (rows[q])=true)/\aF w x.2.2/\av [3,4,5,6,7] w₀ (eL C) w x.2.2/\aq w (aj x.2.2) l bH/\bS w x.2.2 3 b (.cells [bH,cK,gZ,vs,.bool st.found,iX,.int .i64 st.val].toArray 184)/\aQ w x.2.2 4 52 vs (us.map gu.mk)/\ff w x.2.2 5 55 us rows/\aq w (aj x.2.2) st.best iX/\aQ w x.2.2 6 52 x.2.1 (gV (rows.take x.1))) (λx=>[(0,.pointer (some ⟨b,0,none⟩)),(2,x.2.1),(9,vs),(10,.int .i64 us.length),(11,.int .i64 x.1)]) (λx=>us.length-x.1) (0,.slice none 0 0,eL C) ?_ ?_
 · exact⟨Nat.zero_le _,λq hq=>by simp only at hq;omega,hF,(av.refl [3,4,5,6,7] w₀ (eL C)),hl,hx,ho,hr,dz,aQ.nil⟩
 intro⟨i,cH,aK⟩ w1 hI bu;obtain⟨hi,hJ,hF,hT,hl,hx,ho,hr,dz,hp⟩:=hI;try simp only at hi hJ hF hT hl hx ho hr dz hp
 show Run _ _ _ _ [(0,.pointer (some ⟨b,0,none⟩)),(2,cH),(9,vs),(10,.int .i64 us.length),(11,.int .i64 i)] _ _;have hrl:=hr.len;have qK:=VD (rows.take i);have jD: (rows.take i).length<=rows.length:=by rw[List.length_take];omega
 refine aB 5 ?_ [1];refine a_ 12 rfl (λh12=>?_) (λh12=>?_)
 ·
  have hiu:i<us.length:=by omega
  have hir:i<rows.length:=by omega
  have hmem:=List.getElem_mem hir;have hnk:=gi _ hmem;have hlk:=pE _ hmem;have Cf:=VE hir;refine aA 5 ?_ [5];refine c6 ho ?_;intro g13 aeE;refine xI ho aeE ?_;intro _ z6 g14;obtain rfl:z6=us[i]'hiu:=by have:=(mF.1 g14).1;simpa using this
  clear g14;refine bh 6 ?_ [7];refine aP (λw'=>((hr.nc hiu hir af).Ev rfl Tryz.underlying52) w') ?_;refine ax 2 ?_;refine a_ 17 rfl (λey=>?_) (λey=>?_)
  ·
   rw[if_neg af] at Cf;refine aB 5 ?_ [3];refine bC (bu (i+1,cH,aK) _ ⟨aD,(λq hq mM h2=>by
     simp only at hq;by_cases e:q=i
     · subst e;omega
     · exact hJ q af mM h2),hF,hT,hl,hx,ho,hr,dz,(by simp only;rw[Cf];exact hp)⟩ aD)
  rw[if_pos af] at Cf;refine aA 7 ?_ [87,0];refine bF 2 ([bH,cK]) hx.at_ ?_;refine ah 1 ?_;refine cz Tryz.call195 rfl (Y1 (C:=ji) (l:=l) (cK:=cK) (oG _) hl.c0 (hr.nc hiu hir af) af hnk af) ?_;rintro _ w2 ⟨rfl,s_1⟩;replace s_2:=s_1.re (aK);refine ax 2 ?_;refine f_ 24 rfl (λfM=>?_) (λfM=>?_)
  ·
   have hjn:lM l (rows[i]'hir)=false:=by simpa using fM
   refine AZ ai Tryz.func187 Tryz.results187 ?_;have D8:oe l st rows=st:=n9 (xb hir af hjn);rw[D8];exact⟨_,rfl,hT.mv.eN,tP hT.mv aO hF.mv,⟨vs,us,iX,hx.mv.eN hT.mv (.inl rfl),ho.mv.eN hT.mv aO (.inr (.inl rfl)),hr.mv.eN hT.mv aO (.inr (.inr rfl)),dz.mv.eN hT.mv aO⟩⟩
  have hjn:lM l (rows[i]'hir)=true:=by simpa using fM
  refine aA 4 ?_ [35];refine cz Tryz.call150 rfl (aeC (C:=ji) (xs:=rows[i]'hir) (oG _) (hr.mv.nc hiu hir af) (by intro e;rw[e] at ey;simp at ey) af 9 ak) ?_;rintro y6 w3 ⟨aks,cq,_,dM⟩;have aeF:=dM.s6 cq ak hF.mv af;replace cq:av [] _ (aK) _ (aK):=⟨cq.ext.mono (λb _ hb=>by cases hb),λ_ _=>rfl⟩
  refine aR (ez (ys:=([rows[i]'hir]:List (List au))) (e:=52) (bytes:=24) hF.mv ai rfl ak ak ⟨rfl,⟨_,rfl,aeF⟩,trivial⟩) ?_;rintro v28 w4 ⟨cI,qL,hF⟩;refine aR (eO (e:=52) (bytes:=24) hF ak rfl rfl ai ak hp.mv qL dH dH) ?_;rintro uy dc ⟨qG,de,hp,hF⟩;refine ax 7 ?_ [3];refine bC (bu (i+1,uy,qG) _ ⟨aD,(λq hq mM h2=>by
      simp only at hq;by_cases e:q=i
      · subst e;exact hjn
      · exact hJ q af mM h2),hF,hT.mv,hl.mv,hx.mv,ho.mv,hr.mv,dz.mv,(by simp only;rw[Cf];exact hp)⟩ aD)
 have hiu:i=rows.length:=by omega
 rw[hiu,List.take_length] at hp;refine aA 3 ?_ [175];have qx:pU l rows=true:=r4 (λq hq h2=>hJ q af hq h2);obtain⟨aeG,aeH⟩:=Hr hw (gV rows) l.length (Nat.le_refl _);rw[E3] at aeG aeH;have PA:=VD rows;refine ah 4 ?_ [0,0];refine aX hx.at_ ?_;refine ah 1 ?_;refine cz Tryz.call54 rfl (Y3 (C:=ji) (oG _) hl.c0 (hp.nc af) hw lF) ?_;rintro _ ei ⟨rfl,ej⟩;replace eS:=ej.re (aK);refine ax 3 ?_;by_cases pV:st.found=true
 ·
  by_cases hgt:st.val<fc l (gV rows)
  ·
   refine aA 4 ?_ [7159,4];refine aX hx.mv.at_ ?_;rw[show st.found=true from pV];refine ah 6 ?_ [6];refine aX hx.mv.at_ ?_;refine aP (λ_=>i_ (jr rfl rfl) af) ?_;refine bh 11 ?_ [7039,4];refine bM (ic rfl rfl ai rfl rfl hx.mv b_) ?_;rintro _ w7 ⟨rfl,fA,hx⟩;refine ah 2 ?_ [5];refine bM (ic rfl rfl ai hp.mv.one.1 hp.mv.one.2 hx b_) ?_;rintro _ fk ⟨rfl,fT,hx⟩;refine ah 2 ?_ [6];refine bM (ic rfl rfl ai rfl rfl hx b_) ?_;rintro _ fJ ⟨rfl,gY,hx⟩;refine ax 1 ?_;refine rT Tryz.func187 rfl ?_;have D8:oe l st rows=⟨true,gV rows,fc l (gV rows)⟩:=VF qx (.inr af);rw[D8];exact⟨_,rfl,hT.mv.eN,tP hT.mv aO hF.mv,⟨vs,us,cH,hx.eN hT.mv (.inl rfl),ho.mv.eN hT.mv aO (.inr (.inl rfl)),hr.mv.eN hT.mv aO (.inr (.inr rfl)),hp.mv.VT hT.mv aO ak af⟩⟩
  refine aA 4 ?_ [7159,4];refine aX hx.mv.at_ ?_;rw[show st.found=true from pV];refine ah 6 ?_ [6];refine aX hx.mv.at_ ?_;refine aP (λ_=>jR (jr rfl rfl) af) ?_;refine ax 4 ?_;refine rT Tryz.func187 rfl ?_;have D8:oe l st rows=st:=lS pV af;rw[D8];exact⟨_,rfl,hT.mv.eN,tP hT.mv aO hF.mv,⟨vs,us,iX,hx.mv.eN hT.mv (.inl rfl),ho.mv.eN hT.mv aO (.inr (.inl rfl)),hr.mv.eN hT.mv aO (.inr (.inr rfl)),dz.mv.eN hT.mv aO⟩⟩
 refine aA 4 ?_ [7159,4];refine aX hx.mv.at_ ?_;rw[show st.found=false from(Bool.eq_false_iff.2 pV)];refine bh 19 ?_ [7039,4];refine bM (ic rfl rfl ai rfl rfl hx.mv b_) ?_;rintro _ gn ⟨rfl,eY,hx⟩;refine ah 2 ?_ [5];refine bM (ic rfl rfl ai hp.mv.one.1 hp.mv.one.2 hx b_) ?_;rintro _ iK ⟨rfl,iW,hx⟩;refine ah 2 ?_ [6];refine bM (ic rfl rfl ai rfl rfl hx b_) ?_;rintro _ iV ⟨rfl,jx,hx⟩;refine ax 1 ?_;refine rT Tryz.func187 rfl ?_;have D8:oe l st rows=⟨true,gV rows,fc l (gV rows)⟩:=VF qx (.inl (Bool.eq_false_iff.2 pV));rw[D8];exact⟨_,rfl,hT.mv.eN,tP hT.mv aO hF.mv,⟨vs,us,cH,hx.eN hT.mv (.inl rfl),ho.mv.eN hT.mv aO (.inr (.inl rfl)),hr.mv.eN hT.mv aO (.inr (.inr rfl)),hp.mv.VT hT.mv aO ak af⟩⟩
end
end Go.Proofs.YtmdhggfehknjjaaGreat
