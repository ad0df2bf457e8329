/- Steps through functions of the program. -/
import Derived.Test.YtmdhggfehknjjaaGreatJD1N3
import Derived.Test.YtmdhggfehknjjaaGreatL2
import Derived.Test.YtmdhggfehknjjaaGreatL1
import Derived.Test.YtmdhggfehknjjaaGreatL3
import Derived.Test.YtmdhggfehknjjaaGreatShelf
set_option maxRecDepth 100000
set_option maxHeartbeats 4000000
namespace Go.Proofs.YtmdhggfehknjjaaGreat
open Go.K Go.K.bn
noncomputable section
theorem LO {w₀:World} {M:Nat->Prop} {l:List Int} {aC:Value} (hl:aq w₀ M l aC):Calls Tryz.prog 96 #[aC] w₀ (aZ λv w'=>v=.int .i64 (iT l)/\w'=w₀):=by
 refine bG Tryz.func96 ?_;refine aA 12 ?_ [1,1,7];refine dE hl.ln ?_;refine ax 3 ?_;refine cg (ι:=Nat) (λx w=>x<=l.length/\w=w₀/\iT (l.drop x)=iT l) (λx=>[(3,.int .i64 0),(6,aC),(7,.int .i64 l.length),(8,.int .i64 x)]) (λx=>l.length-x) 0 ?_ ?_
 · exact⟨Nat.zero_le _,rfl,rfl⟩
 intro i w1 hI next
 obtain⟨hi,rfl,ho⟩:=hI;have kE:=hl.le;refine aB 5 ?_ [1];refine a_ 9 rfl (λfC=>?_) (λfC=>?_)
 ·
  have hil:i<l.length:=by omega
  rw[dg hil] at ho;refine aA 5 ?_ [5];refine aL hl ?_;intro _ YB YC gq;refine dW gq ?_;intro v11 g11;first|(obtain rfl:=dJ.1 g11)|(obtain rfl:=cO.1 g11)
  refine ax 8 ?_ [7];refine a_ 14 rfl (λeR=>?_) (λeR=>?_)
  ·
   rw[if_neg eR] at ho;refine aB 5 ?_ [3];refine bg Tryz.func96 ?_;exact⟨by rw[ho],rfl⟩
  have eR:l[i]=0:=by simpa using eR
  rw[if_pos eR] at ho;refine aB 6 ?_ [3];refine kp ?_ (next (i+1) _ ⟨by omega,rfl,ho⟩ af);exact bT 3 (bT 6 (bT 7 (fD 8 rfl (eq_int b_) (fL _))))
 have hil:i=l.length:=by omega
 refine aB 6 ?_ [3];refine bg Tryz.func96 ?_;subst hil;rw[List.drop_length] at ho;exact⟨by rw[<-ho];rfl,rfl⟩
theorem YD (x:Int) (w:World):Calls Tryz.prog 161 #[.int .i64 x] w (aZ λv w'=>v=.bool false/\w'=w):=by
 refine bG Tryz.func161 ?_;refine aB 11 ?_ [1,15];refine bg Tryz.func161 ?_;exact⟨by simp,rfl⟩
theorem Iz (x y:Int) (w:World):Calls Tryz.prog 97 #[.int .i64 x,.int .i64 y] w (aZ λv w'=>v=.int .i64 (kD x y)/\w'=w):=by
 refine bG Tryz.func97 ?_;refine aA 7 ?_ [1,5];refine bD Tryz.call161 (YD _ _) ?_;rintro kQ w1 ⟨rfl,rfl⟩;refine bh 5 ?_ [5];refine bD Tryz.call161 (YD _ _) ?_;rintro fP w2 ⟨rfl,rfl⟩;refine ax 23 ?_ [1,1,7];refine a_ 16 rfl (λcZ=>?_) (λcZ=>?_)
 ·
  refine aB 4 ?_ [1];refine bg Tryz.func97 ?_;exact⟨eq_int (by unfold kD;split<;>(try split)<;>omega),rfl⟩
 refine aB 8 ?_ [7];refine a_ 19 rfl (λnu=>?_) (λnu=>?_)
 ·
  refine aB 4 ?_ [1];refine bg Tryz.func97 ?_;exact⟨eq_int (by unfold kD;split<;>(try split)<;>omega),rfl⟩
 refine aB 5 ?_ [1];refine bg Tryz.func97 ?_;exact⟨eq_int (by unfold kD;split<;>(try split)<;>omega),rfl⟩
theorem yX {w₀:World} {C:Nat->Nat} {x y:au} (hF:aF w₀ C):Calls Tryz.prog 53 #[.agg #[.int .i64 x.a,.int .i64 x.b],.agg #[.int .i64 y.a,.int .i64 y.b]] w₀ (aZ λv w'=>v=.int .i64 (j9 x y)/\av [] w₀ C w' C):=by
 have aO:=hF;replace hF:=hF.aI;refine bG Tryz.func53 ?_;refine aA 2 ?_ [4];refine aR (cu (cs:=[.int .i64 x.a,.int .i64 x.b]) hF 3 rfl rfl) ?_;rintro _ w1 ⟨cm,bq,rfl,s_1,hx,hF⟩;refine aR (cu (cs:=[.int .i64 y.a,.int .i64 y.b]) hF 3 rfl rfl) ?_;rintro _ w2 ⟨cw,cM,rfl,s_2,hy,hF⟩;refine ax 3 ?_;refine bX [] (cw) [1,3,5,7,11,13,15,17,8,18,20,22,25] bP ?_;intro w3 cq;refine ah 1 ?_ [0];refine di hx.mv.sz ?_;refine ah 1 ?_ [0];refine di hy.mv.sz ?_;refine ah 1 ?_ [1];refine di hx.mv.sz ?_;refine ah 1 ?_ [1];refine di hy.mv.sz ?_;refine dC Tryz.call97 (Iz _ _ _) ?_;rintro fS w4 ⟨rfl,rfl⟩;refine⟨aW,?_⟩;refine dC Tryz.call97 (Iz _ _ _) ?_;rintro kf dc ⟨rfl,rfl⟩;refine⟨aW,?_⟩;refine c5 (ez (ys:=([kD x.a y.a,kD x.b y.b]:List Int)) (e:=3) (bytes:=8) hF.mv ai rfl ak ak ⟨rfl,⟨_,rfl,cO.2 rfl⟩,rfl,⟨_,rfl,cO.2 rfl⟩,trivial⟩) ?_;rintro r7 ei ⟨cI,g15,hF⟩;refine⟨aW,?_⟩;refine dC Tryz.call96 (LO g15) ?_;rintro jJ w7 ⟨rfl,rfl⟩;refine⟨aW,?_⟩;refine ax 2 ?_;refine bg Tryz.func53 ?_;exact⟨rfl,(z9 w₀ C).o1⟩
theorem LP (x y:au):Go.Proofs.ltOf j9 x y=!qZ y x:=by unfold qZ Go.Proofs.ltOf;simp
theorem ady:Go.Sort.SWO (Go.Proofs.ltOf j9) where
 irrefl x:=by rw[LP];simp[Bh]
 trans x y z h h':=by
  rw[LP] at*;simp only[Bool.not_eq_true',Bool.eq_false_iff,ne_eq,Bh] at*;omega
 ntrans x y z h h':=by
  rw[LP] at*;simp only[Bool.not_eq_false',Bh] at*;omega
theorem adz (x y:au) (h:Go.Proofs.ltOf j9 x y=false) (h':Go.Proofs.ltOf j9 y x=false):x=y:=by
 rw[LP] at h h';simp only[Bool.not_eq_false'] at h h';exact Nk x y h' h
theorem YE {w:World} {C:Nat->Nat} {j:Nat} {v:Value} {ys:List au} (hF:aF w C) (ho:aQ w C j 55 v ys) (hlen:ys.length<=140737488355328):
  Calls Tryz.prog 185 #[v,.func (.func 53) #[] #[]] w (aZ λu w'=>u=.tuple #[]/\av [j] w C w' C/\aQ w' C j 55 v (jS ys)/\aF w' C):=
 XD (enc:=T0) (cf:=j9) Go.Proofs.Tryz.sortCouple (λw=>Tryz.isAgg55 w) (λw=>Tryz.sizeOf55 w)
  (λh M x vs=>⟨λhr=>by obtain⟨us,ws,rfl,h1,h2⟩:=hr;rw[show us=[.int .i64 x.a] from h1,show ws=[.int .i64 x.b] from h2];rfl,λhr=>by subst hr;exact⟨[.int .i64 x.a],[.int .i64 x.b],rfl,rfl,rfl⟩⟩)
  (λx=>rfl) ak (λx u hu=>by simp only[T0,List.mem_cons,List.not_mem_nil,or_false] at hu;rcases hu with rfl|rfl<;>rfl) ady adz (λargs w=>Tryz.call53 args w)
  (λW x y=>(yX (C:=λ_=>0) (λb hb=>absurd rfl hb)).mono (by rintro e w' ⟨u,rfl,rfl,hs⟩;exact⟨_,rfl,rfl,hs.ext.mono (λb _ hb=>by simp at hb)⟩)) hF ho hlen
theorem IA {w₀:World} {C:Nat->Nat} {x:au} (hF:aF w₀ C):Calls Tryz.prog 170 #[.agg #[.int .i64 x.a,.int .i64 x.b]] w₀ (aZ λv w'=>v=.bool (nI x)/\av [] w₀ C w' C):=by
 have aO:=hF;replace hF:=hF.aI;refine bG Tryz.func170 ?_;refine aA 2 ?_ [2];refine aR (cu (cs:=[.int .i64 x.a,.int .i64 x.b]) hF 3 rfl rfl) ?_;rintro _ w1 ⟨cm,bq,rfl,s_1,hx,hF⟩;refine ax 2 ?_;refine kp (bT 1 (fL _)) ?_;refine aB 1 ?_;refine iL 2 (nI x) (cm) ?_ ?_
 ·
  intro bU;by_cases hA:0<=x.a
  ·
   by_cases hB:x.a<4
   ·
    by_cases hC:1<=x.b
    ·
     refine aA 2 ?_ [490461,0];refine aX hx.at_ ?_;refine dT hA ?_;refine ah 2 ?_ [0];refine aX hx.at_ ?_;refine dT hB ?_;refine ah 3 ?_ [1];refine aX hx.at_ ?_;refine dT hC ?_;refine ah 3 ?_ [1];refine aX hx.at_ ?_;refine ah 3 ?_;exact bQ.nil (bU _ _ _ (av.refl _ _ _) rfl (by unfold nI;rw[decide_eq_true hA,decide_eq_true hB,decide_eq_true hC];rfl) (cB 19))
    refine aA 2 ?_ [490461,0];refine aX hx.at_ ?_;refine dT hA ?_;refine ah 2 ?_ [0];refine aX hx.at_ ?_;refine dT hB ?_;refine ah 3 ?_ [1];refine aX hx.at_ ?_;refine cL hC ?_;refine ah 7 ?_;exact bQ.nil (bU _ _ _ (av.refl _ _ _) rfl (by unfold nI;rw[decide_eq_true hA,decide_eq_true hB,decide_eq_false hC];rfl) (cB 19))
   refine aA 2 ?_ [490461,0];refine aX hx.at_ ?_;refine dT hA ?_;refine ah 2 ?_ [0];refine aX hx.at_ ?_;refine cL hB ?_;refine ah 12 ?_;exact bQ.nil (bU _ _ _ (av.refl _ _ _) rfl (by unfold nI;rw[decide_eq_true hA,decide_eq_false hB];rfl) (cB 19))
  refine aA 2 ?_ [490461,0];refine aX hx.at_ ?_;refine cL hA ?_;refine ah 16 ?_;exact bQ.nil (bU _ _ _ (av.refl _ _ _) rfl (by unfold nI;rw[decide_eq_false hA];rfl) (cB 19))
 intro w2 s_2;refine bg Tryz.func170 ?_;exact⟨rfl,(z9 w₀ C).o1⟩
theorem vN {w₀:World} {C:Nat->Nat} {x:au} (hF:aF w₀ C):Calls Tryz.prog 100 #[.agg #[.int .i64 x.a,.int .i64 x.b]] w₀ (aZ λv w'=>v=.bool (nI x)/\av [] w₀ C w' C):=by
 have aO:=hF;replace hF:=hF.aI;refine bG Tryz.func100 ?_;refine aA 2 ?_ [2];refine aR (cu (cs:=[.int .i64 x.a,.int .i64 x.b]) hF 3 rfl rfl) ?_;rintro _ w1 ⟨cm,bq,rfl,s_1,hx,hF⟩;refine ax 2 ?_;refine kp (bT 1 (fL _)) ?_;refine aB 1 ?_;refine iL 2 (nI x) (cm) ?_ ?_
 ·
  intro bU;by_cases hA:0<=x.a
  ·
   by_cases hB:x.a<4
   ·
    by_cases hC:1<=x.b
    ·
     refine aA 2 ?_ [490461,0];refine aX hx.at_ ?_;refine dT hA ?_;refine ah 2 ?_ [0];refine aX hx.at_ ?_;refine dT hB ?_;refine ah 3 ?_ [1];refine aX hx.at_ ?_;refine dT hC ?_;refine ah 3 ?_ [1];refine aX hx.at_ ?_;refine ah 3 ?_;exact bQ.nil (bU _ _ _ (av.refl _ _ _) rfl (by unfold nI;rw[decide_eq_true hA,decide_eq_true hB,decide_eq_true hC];rfl) (cB 19))
    refine aA 2 ?_ [490461,0];refine aX hx.at_ ?_;refine dT hA ?_;refine ah 2 ?_ [0];refine aX hx.at_ ?_;refine dT hB ?_;refine ah 3 ?_ [1];refine aX hx.at_ ?_;refine cL hC ?_;refine ah 7 ?_;exact bQ.nil (bU _ _ _ (av.refl _ _ _) rfl (by unfold nI;rw[decide_eq_true hA,decide_eq_true hB,decide_eq_false hC];rfl) (cB 19))
   refine aA 2 ?_ [490461,0];refine aX hx.at_ ?_;refine dT hA ?_;refine ah 2 ?_ [0];refine aX hx.at_ ?_;refine cL hB ?_;refine ah 12 ?_;exact bQ.nil (bU _ _ _ (av.refl _ _ _) rfl (by unfold nI;rw[decide_eq_true hA,decide_eq_false hB];rfl) (cB 19))
  refine aA 2 ?_ [490461,0];refine aX hx.at_ ?_;refine cL hA ?_;refine ah 16 ?_;exact bQ.nil (bU _ _ _ (av.refl _ _ _) rfl (by unfold nI;rw[decide_eq_false hA];rfl) (cB 19))
 intro w2 s_2;refine bg Tryz.func100 ?_;exact⟨rfl,(z9 w₀ C).o1⟩
theorem Qq {w₀:World} {C:Nat->Nat} {x y:au} (hF:aF w₀ C):Calls Tryz.prog 105 #[.agg #[.int .i64 x.a,.int .i64 x.b],.agg #[.int .i64 y.a,.int .i64 y.b]] w₀ (aZ λv w'=>v=.bool (iB x y)/\av [] w₀ C w' C):=by
 have aO:=hF;replace hF:=hF.aI;refine bG Tryz.func105 ?_;refine aA 2 ?_ [4];refine aR (cu (cs:=[.int .i64 x.a,.int .i64 x.b]) hF 3 rfl rfl) ?_;rintro _ w1 ⟨cm,bq,rfl,s_1,hx,hF⟩;refine aR (cu (cs:=[.int .i64 y.a,.int .i64 y.b]) hF 3 rfl rfl) ?_;rintro _ w2 ⟨cw,cM,rfl,s_2,hy,hF⟩;refine ax 2 ?_;refine kp (bT 2 (bT 3 (fL _))) ?_;refine aB 1 ?_;refine iL 4 (iB x y) (cw) ?_ ?_
 ·
  intro bU;by_cases hA:nI x=true
  ·
   by_cases hB:nI y=true
   ·
    refine aA 1 ?_ [15076];refine nF (pK (n:=2) hx.mv.at_ ai ai rfl rfl rfl) ?_;refine bD Tryz.call170 (IA hF) ?_;rintro iu w3 ⟨rfl,cq⟩;rw[hA];refine ah 1 ?_;refine nF (pK (n:=2) hy.mv.at_ ai ai rfl rfl rfl) ?_;refine bD Tryz.call170 (IA hF.mv) ?_;rintro fS w4 ⟨rfl,cI⟩;rw[hB];refine ah 3 ?_ [0];refine aX hx.mv.at_ ?_;refine ah 1 ?_ [0];refine aX hy.mv.at_ ?_;refine ah 3 ?_;exact bQ.nil (bU _ _ _ (av.refl [] _ _).mv rfl (by unfold iB;rw[hA,hB];rfl) (cB 14))
   refine aA 1 ?_ [15076];refine nF (pK (n:=2) hx.mv.at_ ai ai rfl rfl rfl) ?_;refine bD Tryz.call170 (IA hF) ?_;rintro kf dc ⟨rfl,de⟩;rw[hA];refine ah 1 ?_;refine nF (pK (n:=2) hy.mv.at_ ai ai rfl rfl rfl) ?_;refine bD Tryz.call170 (IA hF.mv) ?_;rintro lz ei ⟨rfl,ej⟩;rw[Bool.eq_false_iff.2 hB];refine ah 9 ?_;exact bQ.nil (bU _ _ _ (av.refl [] _ _).mv rfl (by unfold iB;rw[hA,Bool.eq_false_iff.2 hB];simp) (cB 14))
  refine aA 1 ?_ [15076];refine nF (pK (n:=2) hx.mv.at_ ai ai rfl rfl rfl) ?_;refine bD Tryz.call170 (IA hF) ?_;rintro jJ w7 ⟨rfl,eS⟩;rw[Bool.eq_false_iff.2 hA];refine ah 12 ?_;exact bQ.nil (bU _ _ _ (av.refl [] _ _).mv rfl (by unfold iB;rw[Bool.eq_false_iff.2 hA];simp) (cB 14))
 intro fk fA;refine bg Tryz.func105 ?_;exact⟨rfl,(z9 w₀ C).o1⟩
theorem Qr {w₀:World} {C:Nat->Nat} {a b c d:au} (hF:aF w₀ C):Calls Tryz.prog 143 #[.agg #[.int .i64 a.a,.int .i64 a.b],.agg #[.int .i64 b.a,.int .i64 b.b],.agg #[.int .i64 c.a,.int .i64 c.b],.agg #[.int .i64 d.a,.int .i64 d.b]] w₀ (aZ λv w'=>v=.int .i64 (sQ a b c d)/\av [] w₀ C w' C):=by
 have aO:=hF;replace hF:=hF.aI;refine bG Tryz.func143 ?_;refine aA 2 ?_ [16];refine aR (cu (cs:=[.int .i64 a.a,.int .i64 a.b]) hF 3 rfl rfl) ?_;rintro _ w1 ⟨cm,bq,rfl,s_1,ha,hF⟩;refine aR (cu (cs:=[.int .i64 b.a,.int .i64 b.b]) hF 3 rfl rfl) ?_;rintro _ w2 ⟨cw,cM,rfl,s_2,hb,hF⟩;refine aR (cu (cs:=[.int .i64 c.a,.int .i64 c.b]) hF 3 rfl rfl) ?_;rintro _ w3 ⟨jd,je,rfl,cq,hc,hF⟩;refine aR (cu (cs:=[.int .i64 d.a,.int .i64 d.b]) hF 3 rfl rfl) ?_;rintro _ w4 ⟨fW,nT,rfl,cI,hd,hF⟩;refine ax 3 ?_;refine bX [] (fW) [1,3,7,9,4,10,12,14,17] bP ?_;intro dc de;refine kV (λw' hS=>pK (n:=2) (ha.mv.stay hS ak) ai ai rfl rfl rfl) ?_;refine kV (λw' hS=>pK (n:=2) (hc.mv.stay hS ak) ai ai rfl rfl rfl) ?_;refine kV (λw' hS=>pK (n:=2) (hb.mv.stay hS ak) ai ai rfl rfl rfl) ?_;refine kV (λw' hS=>pK (n:=2) (hd.mv.stay hS ak) ai ai rfl rfl rfl) ?_;refine dC Tryz.call53 (yX hF.mv) ?_;rintro lz ei ⟨rfl,ej⟩;refine⟨aW,?_⟩;refine dC Tryz.call53 (yX hF.mv) ?_;rintro jJ w7 ⟨rfl,eS⟩;refine⟨aW,?_⟩;refine c5 (ez (ys:=([j9 a c,j9 b d]:List Int)) (e:=3) (bytes:=8) hF.mv ai rfl ak ak ⟨rfl,⟨_,rfl,cO.2 rfl⟩,rfl,⟨_,rfl,cO.2 rfl⟩,trivial⟩) ?_;rintro r7 fk ⟨fA,g15,hF⟩;refine⟨aW,?_⟩;refine dC Tryz.call96 (LO g15) ?_;rintro vE fJ ⟨rfl,rfl⟩;refine⟨aW,?_⟩;refine ax 2 ?_;refine bg Tryz.func143 ?_;exact⟨rfl,(z9 w₀ C).o1⟩
theorem LQ {w₀:World} {C:Nat->Nat} {l:List aH} {aC:Value} (hF:aF w₀ C) (hl:aq w₀ (aj C) l aC):Calls Tryz.prog 82 #[aC] w₀ (aZ λv w'=>v=.int .i64 (gD l)/\av [] w₀ C w' C):=by
 have aO:=hF;replace hF:=hF.aI;replace hl:=hl.c1;refine bG Tryz.func82 ?_;refine aA 8 ?_ [1,7];refine dE hl.ln ?_;refine ax 2 ?_;refine a_ 7 rfl (λh7=>?_) (λh7=>?_)
 ·
  refine aB 4 ?_ [1];refine bg Tryz.func82 ?_;exact⟨by rw[T4 af],(z9 w₀ C).o1⟩
 have hlim:l.length<=4096:=by omega
 refine aA 5 ?_ [7];refine dE hl.ln ?_;refine ax 3 ?_;refine cg (ι:=Nat×(Nat->Nat)) (λx w=>x.1<=l.length/\(∀k,k<x.1->wu l k=0)/\aF w x.2/\av [2,3,4,5,6,7,8,9] w₀ (aI C) w x.2/\aq w (aj x.2) l aC) (λx=>[(0,aC),(8,aC),(9,.int .i64 l.length),(10,.int .i64 x.1)]) (λx=>l.length-x.1) (0,aI C) ?_ ?_
 · exact⟨Nat.zero_le _,λk hk=>by simp at hk,hF,(z9 w₀ C),hl⟩
 intro⟨i,aK⟩ w1 hI bu;obtain⟨hi,h0,hF,hT,hl⟩:=hI;try simp only at hi h0 hF hT hl
 show Run _ _ _ _ [(0,aC),(8,aC),(9,.int .i64 l.length),(10,.int .i64 i)] _ _;refine aB 5 ?_ [1];refine a_ 11 rfl (λjB=>?_) (λjB=>?_)
 ·
  have hil:i<l.length:=by omega
  have hE:=Nr hil;refine aA 6 ?_ [19];refine aL hl ?_;intro _ Ds zZ jc;refine gJ jc ?_;intro z6 g14;obtain rfl:=jU.1 g14;refine aR (dn (cs:=[.int .i64 0,.int .i64 0,.int .i64 0,.int .i64 0,.int .i64 0]) hF 4 ai) ?_;rintro _ w2 ⟨cw,cM,rfl,s_1,hx,hF⟩;refine ah 1 ?_;refine bM (cC (vs:=jT (l[i]'hil)) (n:=5) rfl rfl ai rfl rfl (fE rfl) hx rfl) ?_;rintro _ w3 ⟨rfl,s_2,hx⟩;refine bh 5 ?_ [101,0];refine bF 2 (aV (l[i]'hil).A) hx.at_ ?_;refine ah 1 ?_ [2];refine bF 2 (aV (l[i]'hil).B) hx.at_ ?_;refine bD Tryz.call105 (Qq (x:=(l[i]'hil).A) (y:=(l[i]'hil).B) hF.mv) ?_;rintro fS w4 ⟨rfl,cq⟩;refine ax 3 ?_;refine f_ 15 rfl (λgL=>?_) (λgL=>?_)
  ·
   refine aB 4 ?_ [1];refine bg Tryz.func82 ?_;rw[if_pos (by simpa using gL)] at hE;exact⟨by rw[EJ hlim hil h0 (by rw[hE];decide),hE],hT.o1⟩
  refine aB 1 ?_;refine iL 22 (decide ((l[i]'hil).w<1\/1048576<(l[i]'hil).w)) (cw) ?_ ?_
  ·
   intro bU;by_cases hA: (l[i]'hil).w<1
   ·
    refine aA 2 ?_ [477,4];refine aX hx.mv.at_ ?_;refine dT hA ?_;refine ah 6 ?_;exact bQ.nil (bU _ _ _ (av.refl _ _ _) rfl (by rw[decide_eq_true (Or.inl hA)]) (cB 9))
   refine aA 2 ?_ [477,4];refine aX hx.mv.at_ ?_;refine cL hA ?_;refine ah 2 ?_ [4];refine aX hx.mv.at_ ?_;refine ah 3 ?_;exact bQ.nil (bU _ _ _ (av.refl _ _ _) rfl (by congr 1;apply decide_eq_decide.2;omega) (cB 9))
  intro dc cI;refine a_ 22 rfl (λeZ=>?_) (λeZ=>?_)
  ·
   refine aB 4 ?_ [1];refine bg Tryz.func82 ?_;rw[if_neg (by simpa using gL),if_pos eZ] at hE;exact⟨by rw[EJ hlim hil h0 (by rw[hE];decide),hE],hT.o1⟩
  refine aB 1 ?_;refine iL 31 (decide (0<i/\¬kN (l[i-1]'af) (l[i]'hil))) (cw) ?_ ?_
  ·
   intro bU;by_cases hA: (0:Int)<i
   ·
    refine bX [] (cw) [1,3,5,7,9,11,13,15,17,19,21,23,25,27,29,31,33,35,37,38,41,43,45] bP ?_;intro ei de;have hcs:=de;refine ah 1 ?_;refine dT hA ?_;refine ah 4 ?_;refine aL hl.mv ?_;intro _ E6 E7 jY;have oU:=bk.mE jY;refine ah 1 ?_ [0];refine cn oU ?_;intro v40 qf;obtain rfl:=bV.1 qf;refine ah 3 ?_;refine aL hl.mv ?_;intro _ Ij Ik iQ;have uu:=bk.qo iQ;refine ah 1 ?_ [2];refine cn uu ?_;intro v46 oW;obtain rfl:=bV.1 oW;refine ah 1 ?_ [0];refine c7 2 (aV (l[i]'hil).A) hx.mv.sz ?_;refine ah 1 ?_ [2];refine c7 2 (aV (l[i]'hil).B) hx.mv.sz ?_;refine dC Tryz.call143 (Qr (c:=(l[i]'hil).A) (d:=(l[i]'hil).B) hF.mv) ?_;rintro jJ w7 ⟨rfl,ej⟩;refine⟨aW,?_⟩;refine ah 3 ?_;exact bQ.nil (bU _ _ _ hcs.mv rfl (by
  have e1: ((i:Int)-1).toNat=i-1:=by omega
  congr 1;apply decide_eq_decide.2;simp only[e1];rw[Np];exact⟨λh=>⟨by omega,h⟩,λh=>h.2⟩) (cB 23))
   refine bX [] (cw) [1,3,5,7,9,11,13,15,17,19,21,23,25,27,29,31,33,35,37,38,41,43,45] bP ?_;intro fk eS;have hcs:=eS;refine ah 1 ?_;refine cL hA ?_;refine ah 17 ?_;refine nz ?_;refine mb (k8 51 (mV 143 #[40,46,48,50] #[55,55,55,55]) 2 true) rfl rfl aW ?_;refine ck ?_;refine ah 3 ?_;exact bQ.nil (bU _ _ _ hcs rfl (by rw[decide_eq_false (λe=>hA af)]) (cB 23))
  intro fJ fA;refine a_ 31 rfl (λjA=>?_) (λjA=>?_)
  ·
   refine aB 4 ?_ [1];refine bg Tryz.func82 ?_;rw[if_neg (by simpa using gL),if_neg eZ,if_pos jA] at hE;exact⟨by rw[EJ hlim hil h0 (by rw[hE];decide),hE],hT.o1⟩
  refine aB 7 ?_ [3];refine bC (bu (i+1,cw) _ ⟨aD,(λk hk=>by
     simp only at hk;by_cases e:k=i
     ·subst e;rw[hE,if_neg (by simpa using gL),if_neg eZ,if_neg jA]
     ·exact h0 k af),hF.mv,hT.mv,hl.mv⟩ aD)
 have hil:i=l.length:=by omega
 refine aB 5 ?_ [1];refine bg Tryz.func82 ?_;subst hil;exact⟨by rw[Nq hlim h0],hT.o1⟩
theorem adA {w₀:World} {C:Nat->Nat} {j:Nat} {v:Value} {xs:List au} (hF:aF w₀ C) (hj:j≠0) (ho:aQ w₀ C j 55 v xs) (hlen:xs.length<=140737488355328):
    Calls Tryz.prog 186 #[v] w₀ (aZ λu w'=>av [j] w₀ C w' C/\aQ w' C j 55 u (iI xs)/\aF w' C):=by
 refine bG Tryz.func186 ?_;refine aA 8 ?_ [1,7];refine dE ho.ln ?_;refine ax 2 ?_;refine a_ 8 rfl (λh8=>?_) (λh8=>?_)
 ·
  have hx:iI xs=xs:=by
    match xs,h8 with
    |[],_=>rfl
    |[a],_=>rfl
    |a::b::l,h=>simp at h;omega
  refine aB 5 ?_ [3];refine bg Tryz.func186 ?_;exact⟨(av.refl [j] w₀ C),by rw[hx];exact ho,hF⟩
 have h2:2<=xs.length:=by omega
 have r8:iI (xs.take 1)=xs.take 1:=by
   obtain⟨a,l,rfl⟩:∃a l,xs=a::l:=by cases xs with|nil=>simp at h2|cons a l=>exact⟨a,l,rfl⟩
   simp[iI]
 refine aB 7 ?_ [1];refine cg (ι:=Nat) (λx w=>1<=x/\x<=xs.length/\iI (xs.take x)=xs.take x/\aF w C/\av [j] w₀ C w C/\aQ w C j 55 v xs) (λx=>[(0,v),(3,.int .i64 x)]) (λx=>xs.length-x) 1 ?_ ?_
 · exact⟨Nat.le_refl _,by first|omega|(simp only;omega),r8,hF,(av.refl [j] w₀ C),ho⟩
 intro k w1 hI bu;obtain⟨mY,hk,hc,hF,hT,ho⟩:=hI;try simp only at mY hk hc hF hT ho
 show Run _ _ _ _ [(0,v),(3,.int .i64 k)] _ _;refine aA 5 ?_ [15];refine dE ho.ln ?_;refine ax 2 ?_;refine a_ 13 rfl (λjc=>?_) (λjc=>?_)
 ·
  have ay:k<xs.length:=by omega
  have xl:=J4 mY ay;refine aB 4 ?_;refine bX [] (C) [1,3,5,7,9,11,13,15,17,19] bP ?_;intro w2 s_1;refine ah 2 ?_;refine c6 ho.mv ?_;intro g18 Qs;refine qU ho.mv Qs ?_;intro _ yY g19;refine ah 3 ?_;refine c6 ho.mv ?_;intro g23 IB;refine qU ho.mv IB ?_;intro _ v24 g24;obtain rfl:=bV.1 g19;obtain rfl:=bV.1 g24;refine aP (λ_=>iA (a:=_) (b:=_) Tryz.underlying55 ak ak ai Tryz.underlying3 rfl rfl) ?_;refine ax 1 ?_;refine a_ 25 rfl (λgw=>?_) (λgw=>?_)
  ·
   have hd:xs[k-1]'af=xs[k]:=by
     have e: ((k:Int)-1).toNat=k-1:=by omega
     simp only[e] at gw;exact gw.symm
   rw[if_pos hd,hc] at xl;refine aA 4 ?_ [15];refine nz ?_;refine JY (e':=55) (fq 28 (.slice 52 26 (some 27) none none)) rfl rfl ho.mv rfl ai rfl af af ?_;intro v28 gG;try simp only[fh] at gG
   obtain⟨adB,uv⟩:=ho.mv.JX af;refine ck ?_;refine ax 8 ?_ [1];refine cg (ι:=Nat×Nat×(List au)) (λx w=>1<=x.1/\k+x.1<=xs.length/\x.2.2.length=xs.length/\x.2.1+1<=k+x.1/\(∀p (hp:p<xs.length) (hp2:p<x.2.2.length),k+x.1<=p+1->x.2.2[p]=xs[p])/\x.2.2.take x.2.1=iI (xs.take (k+x.1))/\aF w C/\av [j] w₀ C w C/\aQ w C j 55 v x.2.2) (λx=>[(0,v),(3,.int .i64 x.2.1),(4,v28),(5,.int .i64 x.1)]) (λx=>xs.length-k-x.1) (1,k,xs) ?_ ?_
   · exact⟨Nat.le_refl _,by first|omega|(simp only;omega),rfl,by first|omega|(simp only;omega),λp _ _ _=>rfl,xl.symm,hF.mv,hT.mv,ho.mv⟩
   intro⟨q,i,ys⟩ w3 hI eD;obtain⟨hq1,hq,yU,hi,hys,pn,hF,hT,ho⟩:=hI;try simp only at hq1 hq yU hi hys pn hF hT ho
   show Run _ _ _ _ [(0,v),(3,.int .i64 i),(4,v28),(5,.int .i64 q)] _ _;refine aA 5 ?_ [15];refine dE gG.ln ?_;refine ax 2 ?_;refine a_ 32 rfl (λgA=>?_) (λgA=>?_)
   ·
    have cD:k+q<xs.length:=by omega
    have Az:=J4 (l:=xs) (k:=k+q) af cD;have e1:k+((q:Int)-1).toNat=k+q-1:=by omega
    refine aB 4 ?_;refine bX [] (C) [1,3,5,7,9,11,13,15,17,19] bP ?_;intro w4 s_2;refine ah 2 ?_;refine aP (λ_=>EG (e':=55) gG uv ai rfl rfl af af) ?_;try simp only[fh]
    refine qU ho.mv uv ?_;intro _ uZ jK;refine ah 3 ?_;refine aP (λ_=>EG (e':=55) gG uv ai rfl rfl af af) ?_;try simp only[fh]
    refine qU ho.mv uv ?_;intro _ B6 yZ;obtain rfl:=bV.1 jK;obtain rfl:=bV.1 yZ;refine aP (λ_=>J2 (a:=_) (b:=_) Tryz.underlying55 ak ak ai Tryz.underlying3 rfl rfl) ?_;refine ax 1 ?_;refine a_ 44 rfl (λiQ=>?_) (λiQ=>?_)
    ·
     have r1:=hys (k+q) af af af;have r2:=hys (k+q-1) af af af;have hd:¬xs[k+q-1]'af=xs[k+q]:=by
       simp only[e1,r1,r2] at iQ;exact λe=>iQ e.symm
     rw[if_neg hd,<-pn] at Az;refine aA 6 ?_ [95];refine aP (λ_=>EG (e':=55) gG uv ai rfl rfl af af) ?_;try simp only[fh]
     refine JV ho.mv uv ?_;intro _ v50 ku;refine c6 ho.mv ?_;intro lT mP;refine bM (gQ ho.mv mP (by first|omega|(simp only[fh];omega)) rfl rfl ai ku) ?_;rintro _ dc ⟨rfl,cq,ho⟩;refine ax 12 ?_ [7,7];refine bC (eD (q+1,i+1,ys.set i ys[k+q]) _ ⟨aD,aD,(by simp only[List.length_set];exact yU),aD,(λp hp hp2 h=>by simp only[List.getElem_set];rw[if_neg af];exact hys p hp af af),(by simp only;rw[List.take_succ_eq_append_getElem (by rw[List.length_set];omega),List.take_set_of_le (Nat.le_refl i),List.getElem_set_self,r1];exact Az.symm),hF.mv,hT.mv,ho⟩ aD)
    have r1:=hys (k+q) af af af;have r2:=hys (k+q-1) af af af;have hd:xs[k+q-1]'af=xs[k+q]:=by
      simp only[e1,r1,r2] at iQ;exact(Classical.not_not.1 iQ).symm
    rw[if_pos hd,<-pn] at Az;refine aB 7 ?_ [7];refine bC (eD (q+1,i,ys) _ ⟨aD,aD,aD,aD,(λp hp hp2 h=>hys p hp hp2 (by simp only at h;omega)),Az.symm,hF.mv,hT.mv,ho.mv⟩ aD)
   have cD:k+q=xs.length:=by omega
   rw[cD,List.take_length] at pn;refine aA 5 ?_ [7];refine nz ?_;refine JY (e':=55) (fq 56 (.slice 52 54 (some 55) none none)) rfl rfl ho rfl ai rfl af af ?_;intro DS xm;try simp only[fh] at xm
   obtain⟨adC,adD⟩:=ho.JX af;refine ck ?_;refine bM (TI (x0:=(⟨0,0⟩:au)) (zs:=[.int .i64 0,.int .i64 0]) ho xm af af Tryz.underlying52 ai (λh M=>yV) rfl) ?_;rintro _ wc ⟨cI,ho⟩;refine bh 5 ?_ [15];have adE: (ys.take i++List.replicate (ys.length-i) (⟨0,0⟩:au)).length=xs.length:=by simp;omega
   refine nz ?_;refine Nf (e':=55) (fq 59 (.slice 52 57 none (some 58) none)) rfl rfl ho rfl ai rfl af af af ?_;intro v59 uw;try simp only[fh] at uw
   refine ck ?_;refine ax 2 ?_;refine bg Tryz.func186 ?_;rw[List.take_left' tA,pn] at uw;exact⟨hT.mv,uw,hF.mv⟩
  have hd:¬xs[k-1]'af=xs[k]:=by
    have e: ((k:Int)-1).toNat=k-1:=by omega
    simp only[e] at gw;exact λe=>gw e.symm
  rw[if_neg hd,hc,<-List.take_succ_eq_append_getElem ay] at xl;refine aB 7 ?_ [7];refine bC (bu (k+1) _ ⟨aD,aD,xl,hF.mv,hT.mv,ho.mv⟩ aD)
 have ay:k=xs.length:=by omega
 subst ay;rw[List.take_length] at hc;refine aB 6 ?_ [3];refine bg Tryz.func186 ?_;rw[hc];exact⟨hT,ho,hF⟩
theorem FM {w₀:World} {C:Nat->Nat} {l:List aH} {aC:Value} (hF:aF w₀ C) (hl:aq w₀ (aj C) l aC) (hlen:l.length<=100000):Calls Tryz.prog 130 #[aC] w₀ (aZ λv w'=>av [] w₀ C w' C/\aq w' (aj C) (aM l) v):=by
 have aO:=hF;replace hF:=hF.aI;replace hl:=hl.c1;refine bG Tryz.func130 ?_;refine aA 12 ?_ [1,1,7];refine dE hl.ln ?_;refine ax 3 ?_;refine cg (ι:=Nat×Value×(Nat->Nat)) (λx w=>x.1<=l.length/\aF w x.2.2/\av [2,3,4,5,6,7,8,9] w₀ (aI C) w x.2.2/\aq w (aj x.2.2) l aC/\aQ w x.2.2 3 55 x.2.1 (nJ (l.take x.1))) (λx=>[(3,x.2.1),(6,aC),(7,.int .i64 l.length),(8,.int .i64 x.1)]) (λx=>l.length-x.1) (0,.slice none 0 0,aI C) ?_ ?_
 · exact⟨Nat.zero_le _,hF,(z9 w₀ C),hl,aQ.nil⟩
 intro⟨i,ct,aK⟩ w1 hI bu;obtain⟨hi,hF,hT,hl,ho⟩:=hI;try simp only at hi hF hT hl ho
 show Run _ _ _ _ [(3,ct),(6,aC),(7,.int .i64 l.length),(8,.int .i64 i)] _ _;have hel:=GL (l.take i);rw[List.length_take] at hel;refine aB 5 ?_ [1];refine a_ 9 rfl (λfC=>?_) (λfC=>?_)
 ·
  have hil:i<l.length:=by omega
  refine aA 5 ?_ [1];refine aL hl ?_;intro _ YB YC gq;refine gJ gq ?_;intro v11 g11;obtain rfl:=jU.1 g11;refine aR (dn (cs:=[.int .i64 0,.int .i64 0,.int .i64 0,.int .i64 0,.int .i64 0]) hF 4 ai) ?_;rintro _ w2 ⟨cw,cM,rfl,s_1,hx,hF⟩;refine bM (cC (vs:=jT (l[i]'hil)) (n:=5) rfl rfl ai rfl rfl (fE rfl) hx rfl) ?_;rintro _ w3 ⟨rfl,s_2,hx⟩;refine bh 4 ?_ [139,0];refine bF 2 (aV (l[i]'hil).A) hx.at_ ?_;refine ah 1 ?_ [2];refine bF 2 (aV (l[i]'hil).B) hx.at_ ?_;refine aR (ez (ys:=([(l[i]'hil).A,(l[i]'hil).B]:List au)) (e:=55) (bytes:=16) hF.mv ai rfl ak ak ⟨rfl,⟨_,rfl,bV.2 rfl⟩,rfl,⟨_,rfl,bV.2 rfl⟩,trivial⟩) ?_;rintro v17 w4 ⟨cq,g17,hF⟩;refine aR (eO (e:=55) (bytes:=16) hF ak rfl rfl ai ak ho.mv g17 dH dH) ?_;rintro nx dc ⟨qG,cI,ho,hF⟩;refine ax 7 ?_ [3];refine bC (bu (i+1,nx,qG) _ ⟨aD,hF,hT.mv,hl.mv,(by simp only;rw[T6 hil];exact ho)⟩ aD)
 have hil:i=l.length:=by omega
 subst hil;rw[List.take_length] at ho;refine aA 4 ?_ [1];refine cz Tryz.call185 rfl (YE hF ho (by rw[GL];omega)) ?_;rintro lz ei ⟨rfl,de,ho,_⟩;refine bh 4 ?_ [5];refine cz Tryz.call186 rfl (adA hF.mv ak ho (by rw[(zx _).length_eq,GL];omega)) ?_;rintro jJ w7 ⟨ej,ho,_⟩;refine ax 2 ?_;refine bg Tryz.func130 ?_;exact⟨hT.o1,ho.out hT.mv aO (er C) (λb _=>gI C ak b) (by have:=oD l;unfold aM at this;omega)⟩
theorem adF {w₀:World} {C:Nat->Nat} {l:List au} {c:au} {aC:Value} (hF:aF w₀ C) (hl:aq w₀ (aj C) l aC):Calls Tryz.prog 91 #[aC,.agg #[.int .i64 c.a,.int .i64 c.b]] w₀ (aZ λv w'=>v=.int .i64 (idxOf (λx=>decide (c=x)) l)/\av [] w₀ C w' C):=by
 have aO:=hF;replace hF:=hF.aI;replace hl:=hl.c1;refine bG Tryz.func91 ?_;refine aA 2 ?_ [2];refine aR (cu (cs:=[.int .i64 c.a,.int .i64 c.b]) hF 3 rfl rfl) ?_;rintro _ w1 ⟨cm,bq,rfl,s_1,hx,hF⟩;refine bh 6 ?_ [7];refine dE hl.mv.ln ?_;refine ax 3 ?_;replace hl:=hl.mv;refine cg (ι:=Nat×(Nat->Nat)) (λx w=>x.1<=l.length/\(∀i (hi:i<x.1) (hl:i<l.length),decide (c=l[i])=false)/\aF w x.2/\av [2,3,4,5,6,7,8,9] w₀ (aI C) w x.2/\aq w (aj x.2) l aC/\bS w x.2 3 bq (.cells [.int .i64 c.a,.int .i64 c.b].toArray 55)) (λx=>[(0,aC),(3,.pointer (some ⟨bq,0,none⟩)),(7,.int .i64 l.length),(8,.int .i64 x.1)]) (λx=>l.length-x.1) (0,cm) ?_ ?_
 · exact⟨Nat.zero_le _,λi hi _=>by simp only at hi;omega,hF,(z9 w₀ C).mv,hl,hx⟩
 intro⟨k,aK⟩ w2 hI bu;obtain⟨hk,h0,hF,hT,hl,hx⟩:=hI;try simp only at hk h0 hF hT hl hx
 show Run _ _ _ _ [(0,aC),(3,.pointer (some ⟨bq,0,none⟩)),(7,.int .i64 l.length),(8,.int .i64 k)] _ _;have hle:=hl.le;refine aB 5 ?_ [1];refine a_ 9 rfl (λfC=>?_) (λfC=>?_)
 ·
  have ay:k<l.length:=by omega
  refine aB 9 ?_ [3];refine bX [] (aK) [1,3,5,7,9,11] bP ?_;intro w3 s_2;refine kV (λw' hS=>pK (n:=2) (hx.mv.stay hS ak) ai ai rfl rfl rfl) ?_;refine ah 2 ?_;refine aL hl.mv ?_;intro _ qz qA eR;refine cn eR ?_;intro r7 g15;obtain rfl:=bV.1 g15;refine aP (λ_=>iA (a:=c) (b:=_) Tryz.underlying55 ak ak ai Tryz.underlying3 rfl rfl) ?_;refine ax 1 ?_;refine a_ 16 rfl (λcZ=>?_) (λcZ=>?_)
  ·
   refine aB 5 ?_ [3];refine bg Tryz.func91 ?_;exact⟨by rw[x8 (p:=λx=>decide (c=x)) ay (λi hi=>h0 i hi af) (decide_eq_true cZ)],hT.o1⟩
  refine aB 6 ?_ [3];replace hl:=hl.mv;refine bC (bu (k+1,aK) _ ⟨aD,(λi hi hl=>by
    simp only at hi;by_cases e:i=k
    ·subst e;exact decide_eq_false cZ
    ·exact h0 i af hl),hF.mv,hT.mv,hl,hx.mv⟩ aD)
 have ay:k=l.length:=by omega
 refine aB 5 ?_ [1];refine bg Tryz.func91 ?_;exact⟨by rw[Bs (p:=λx=>decide (c=x)) (λi hi=>h0 i af hi)],hT.o1⟩
theorem jN {w₀:World} {C:Nat->Nat} {l:List au} {c:au} {aC:Value} (hF:aF w₀ C) (hl:aq w₀ (aj C) l aC):Calls Tryz.prog 49 #[aC,.agg #[.int .i64 c.a,.int .i64 c.b]] w₀ (aZ λv w'=>v=.bool (l.any λx=>decide (c=x))/\av [] w₀ C w' C):=by
 have aO:=hF;replace hF:=hF.aI;replace hl:=hl.c1;refine bG Tryz.func49 ?_;refine aA 2 ?_ [2];refine aR (cu (cs:=[.int .i64 c.a,.int .i64 c.b]) hF 3 rfl rfl) ?_;rintro _ w1 ⟨cm,bq,rfl,s_1,hx,hF⟩;refine bh 5 ?_ [25];refine bF 2 (aV c) hx.at_ ?_;refine bD Tryz.call91 (adF hF hl.mv) ?_;rintro fP w2 ⟨rfl,s_2⟩;refine ax 3 ?_;refine bg Tryz.func49 ?_;exact⟨by rw[Bt],(z9 w₀ C).o1⟩
theorem Qt {w₀:World} {C:Nat->Nat} {i b:Nat} {B7:List (au×au)} {ρ:au->au} {d:au->Nat} {r:au} (hF:aF w₀ C) (hi:i≠0) (hm:fH w₀ C i b dx dx B7) (hf:pO B7 ρ d) (hr:∃v,eM B7 r=some v):
    Calls Tryz.prog 145 #[.map (some b),.agg #[.int .i64 r.a,.int .i64 r.b]] w₀ (aZ λv w'=>v=.agg (aV (ρ r)).toArray/\av [i] w₀ C w' C/\∃u,fH w' C i b dx dx u/\pO u ρ d/\eM u (ρ r)=some (ρ r)/\(∀s,(∃v,eM B7 s=some v)->∃v,eM u s=some v)/\∀s,eM B7 s=some s->eM u s=some s):=by
 have aO:=hF;have hbc:=hm.1;replace hm:=hm.cv hi;replace hF:=hF.cv i;refine bG Tryz.func145 ?_;refine aA 2 ?_ [0];refine aR (cu (cs:=aV r) hF 3 rfl rfl) ?_;rintro _ w1 ⟨cm,bq,rfl,s_1,hx,hF⟩;refine aR (dn (cs:=[.int .i64 0,.int .i64 0]) hF 4 ai) ?_;rintro _ w2 ⟨cw,cM,rfl,s_2,hy,hF⟩;refine ax 3 ?_;refine cg (ι:=au×(List (au×au))×(Nat->Nat)) (λx w=>pO x.2.1 ρ d/\(∃v,eM x.2.1 x.1=some v)/\ρ x.1=ρ r/\(∀s,(∃v,eM B7 s=some v)->∃v,eM x.2.1 s=some v)/\(∀s,eM B7 s=some s->eM x.2.1 s=some s)/\aF w x.2.2/\av [2,3,4,5,6,7,8,9] w₀ (cv C i) w x.2.2/\bS w x.2.2 3 bq (.cells (aV x.1).toArray 55)/\bS w x.2.2 4 cM (.cells [.int .i64 0,.int .i64 0].toArray 55)/\fH w x.2.2 2 b dx dx x.2.1) (λx=>[(0,.map (some b)),(3,.pointer (some ⟨bq,0,none⟩)),(4,.pointer (some ⟨cM,0,none⟩))]) (λx=>d x.1) (r,B7,cw) ?_ ?_
 · exact⟨hf,hr,rfl,λs h=>h,λs h=>h,hF,(av.refl [2,3,4,5,6,7,8,9] w₀ (cv C i)).mv,hx.mv,hy,hm.mv⟩
 intro⟨c,u,aK⟩ w3 hI bu;obtain⟨hf,hc,hρ,hdom,yW,hF,hT,hx,hy,hm⟩:=hI;try simp only at hf hc hρ hdom yW hF hT hx hy hm
 show Run _ _ _ _ [(0,.map (some b)),(3,.pointer (some ⟨bq,0,none⟩)),(4,.pointer (some ⟨cM,0,none⟩))] _ _;obtain⟨v,hv⟩:=hc;obtain⟨⟨v2,Au⟩,adG,adH,YF⟩:=hf c v hv;refine aB 2 ?_;refine bX [] (aK) [1,3,5,7,9] bP ?_;intro w4 cq;refine ah 1 ?_;refine c7 2 (aV c) hx.mv.sz ?_;refine kV (λw' hS=>fN ((hm.mv.stay hS ak).lookup (z0:=(⟨0,0⟩:au)) Tryz.underlying198 (oC Tryz.underlying55 ak ak ai Tryz.underlying3) Tryz.zeroValue55 rfl rfl) (show _=dx v from by rw[hv];rfl)) ?_;refine c7 2 (aV c) hx.mv.sz ?_;refine aP (λ_=>J2 (a:=v) (b:=c) Tryz.underlying55 ak ak ai Tryz.underlying3 rfl rfl) ?_;refine ax 1 ?_;refine a_ 9 rfl (λfC=>?_) (λfC=>?_)
 ·
  refine aB 3 ?_;refine bX [] (aK) [1,3,5,7,9,11,13,14] bP ?_;intro dc cI;refine ah 1 ?_;refine c7 2 (aV c) hx.mv.sz ?_;refine ah 2 ?_;refine c7 2 (aV c) hx.mv.sz ?_;refine kV (λw' hS=>fN ((hm.mv.stay hS ak).lookup (z0:=(⟨0,0⟩:au)) Tryz.underlying198 (oC Tryz.underlying55 ak ak ai Tryz.underlying3) Tryz.zeroValue55 rfl rfl) (show _=dx v from by rw[hv];rfl)) ?_;refine kV (λw' hS=>fN ((hm.mv.stay hS ak).lookup (z0:=(⟨0,0⟩:au)) Tryz.underlying198 (oC Tryz.underlying55 ak ak ai Tryz.underlying3) Tryz.zeroValue55 rfl rfl) (show _=dx v2 from by rw[Au];rfl)) ?_;refine gU rfl ?_;refine bM (xK (k:=c) (u:=v2) hm.mv Tryz.underlying198 (oC Tryz.underlying55 ak ak ai Tryz.underlying3) rfl rfl rfl) ?_;rintro _ ei ⟨rfl,de,hm⟩;refine bh 3 ?_ [1];refine bF 2 (aV c) hx.mv.at_ ?_;refine nF (fN (hm.lookup (z0:=(⟨0,0⟩:au)) Tryz.underlying198 (oC Tryz.underlying55 ak ak ai Tryz.underlying3) Tryz.zeroValue55 rfl rfl) (show _=dx v2 from by rw[n_,if_pos rfl];rfl)) ?_;refine bM (cC (vs:=aV v2) (n:=2) rfl rfl ai rfl rfl (fE rfl) hx.mv rfl) ?_;rintro _ w7 ⟨rfl,ej,hx⟩;refine ax 2 ?_;refine bC (bu (v2,ig u c v2,aK) _ ⟨(hf.cS hv Au fC),(by
     obtain⟨⟨v3,adI⟩,_⟩:=hf v v2 Au;rw[n_];split
     ·exact⟨_,rfl⟩
     ·exact⟨v3,adI⟩),((hf v v2 Au).2.1.trans (adG.trans hρ)),(λs ej=>by
     obtain⟨x,hx⟩:=hdom s ej;rw[n_];split
     ·exact⟨_,rfl⟩
     ·exact⟨x,hx⟩),(λs ej=>by
     rw[n_,if_neg]
     ·exact yW s ej
     ·intro e;subst e;have:=yW _ ej;rw[hv] at this;exact fC (Option.some.inj this)),hF.mv,hT.mv,hx,hy.mv,hm.mv⟩ (by
     simp only;have a1:=adH fC;by_cases e:v2=v
     ·rw[e];exact a1
     ·have:=(hf v v2 Au).2.2.1 e;omega))
 obtain rfl:v=c:=Classical.not_not.1 fC;have YG:ρ r=v:=by rw[<-hρ];exact hf.idem hv
 refine aA 3 ?_ [0];refine bF 2 (aV v) hx.mv.at_ ?_;refine bM (cC (vs:=aV v) (n:=2) rfl rfl ai rfl rfl (fE rfl) hy.mv rfl) ?_;rintro _ fk ⟨rfl,eS,hy⟩;refine ax 1 ?_;refine rS ai Tryz.func145 Tryz.results145 rfl hy.at_ ai ai rfl ?_;exact⟨by rw[YG],hT.o2,u,hm.mv.x2 hbc,hf,by rw[YG];exact hv,hdom,yW⟩
theorem adJ {w₀:World} {C:Nat->Nat} {l:List aH} {aC:Value} (hF:aF w₀ C) (hl:aq w₀ (aj C) l aC) (hlen:l.length<=100000) (j:Nat) (hj:j≠0):
    Calls Tryz.prog 144 #[aC] w₀ (aZ λv w'=>∃aG b u d,v=.map (some b)/\av [] w₀ C w' aG/\aF w' aG/\fH w' aG j b dx dx u/\pO u (bZ l) d/\Dom u (aM l)):=by
 have aO:=hF;replace hF:=hF.aI;replace hl:=hl.c1;refine bG Tryz.func144 ?_;refine aA 6 ?_ [1,2];refine aR (CQ hF 3 dx dx) ?_;rintro _ FN ⟨vO,bm,rfl,s_1,hm,hF⟩;refine bh 6 ?_ [13];refine bD Tryz.call130 (FM hF hl.mv hlen) ?_;rintro mR w1 ⟨s_2,fR⟩;refine dE fR.ln ?_;refine ax 3 ?_;refine cg (ι:=Nat×(List (au×au))×(Nat->Nat)) (λx w=>x.1<=(aM l).length/\pO x.2.1 id (λ_=>0)/\Dom x.2.1 ((aM l).take x.1)/\aF w x.2.2/\av [2,3,4,5,6,7,8,9] w₀ (aI C) w x.2.2/\aq w (aj x.2.2) l aC/\aq w (aj x.2.2) (aM l) mR/\fH w x.2.2 3 bm dx dx x.2.1) (λx=>[(0,aC),(3,.map (some bm)),(10,mR),(11,.int .i64 (aM l).length),(12,.int .i64 x.1)]) (λx=>(aM l).length-x.1) (0,[],vO) ?_ ?_
 · exact⟨Nat.zero_le _,λr v h=>by simp[eM] at h,λr hr=>by simp at hr,hF.mv,(z9 w₀ C).mv,hl.mv,fR,hm.mv⟩
 intro⟨k,u,aK⟩ w2 hI bu;obtain⟨hk,hf,hdom,hF,hT,hl,fR,hm⟩:=hI;try simp only at hk hf hdom hF hT hl fR hm
 show Run _ _ _ _ [(0,aC),(3,.map (some bm)),(10,mR),(11,.int .i64 (aM l).length),(12,.int .i64 k)] _ _;have hrl:=fR.le;refine aB 5 ?_ [1];refine a_ 13 rfl (λjc=>?_) (λjc=>?_)
 ·
  have ay:k<(aM l).length:=by omega
  refine aA 5 ?_ [1];refine aL fR ?_;intro _ qz qA eR;refine gJ eR ?_;intro r7 g15;obtain rfl:=bV.1 g15;refine aR (dn (cs:=[.int .i64 0,.int .i64 0]) hF 4 ai) ?_;rintro _ w3 ⟨jd,je,rfl,cq,hx,hF⟩;refine bM (cC (vs:=aV ((aM l)[k]'ay)) (n:=2) rfl rfl ai rfl rfl (fE rfl) hx rfl) ?_;rintro _ w4 ⟨rfl,cI,hx⟩;refine bh 3 ?_ [1];refine bF 2 (aV ((aM l)[k]'ay)) hx.at_ ?_;refine bF 2 (aV ((aM l)[k]'ay)) hx.at_ ?_;refine bM (xK (k:=(aM l)[k]'ay) (u:=(aM l)[k]'ay) hm.mv Tryz.underlying198 (oC Tryz.underlying55 ak ak ai Tryz.underlying3) rfl rfl rfl) ?_;rintro _ dc ⟨rfl,de,hm⟩;refine ax 6 ?_ [3];refine bC (bu (k+1,ig u ((aM l)[k]'ay) ((aM l)[k]'ay),jd) _ ⟨aD,(hf.self _),(by simp only;rw[List.take_succ_eq_append_getElem ay];exact hdom.nr _ _),hF.mv,hT.mv,hl.mv,fR.mv,hm⟩ aD)
 have ay:k=(aM l).length:=by omega
 subst ay;rw[List.take_length] at hdom;refine aA 5 ?_ [7];refine dE hl.ln ?_;refine ax 3 ?_;refine cg (ι:=Nat×(List (au×au))×(Nat->Nat)) (λx w=>x.1<=l.length/\(∃d,pO x.2.1 (bZ (l.take x.1)) d)/\Dom x.2.1 (aM l)/\aF w x.2.2/\av [2,3,4,5,6,7,8,9] w₀ (aI C) w x.2.2/\aq w (aj x.2.2) l aC/\fH w x.2.2 3 bm dx dx x.2.1) (λx=>[(3,.map (some bm)),(20,aC),(21,.int .i64 l.length),(22,.int .i64 x.1)]) (λx=>l.length-x.1) (0,u,aK) ?_ ?_
 · exact⟨Nat.zero_le _,⟨_,hf⟩,hdom,hF,hT,hl,hm⟩
 intro⟨k,u,aK⟩ ei hI eD;obtain⟨hk,hf,hdom,hF,hT,hl,hm⟩:=hI;try simp only at hk hf hdom hF hT hl hm
 show Run _ _ _ _ [(3,.map (some bm)),(20,aC),(21,.int .i64 l.length),(22,.int .i64 k)] _ _;have kE:=hl.le;obtain⟨dd,hf⟩:=hf;refine aB 5 ?_ [1];refine a_ 23 rfl (λh23=>?_) (λh23=>?_)
 ·
  have ay:k<l.length:=by omega
  have adK:=hdom (l[k]).A (jG.2 ⟨_,List.getElem_mem ay,.inl rfl⟩);have adL:=hdom (l[k]).B (jG.2 ⟨_,List.getElem_mem ay,.inr rfl⟩);refine aA 5 ?_ [1];refine aL hl ?_;intro _ FO YH fM;refine gJ fM ?_;intro v25 lY;obtain rfl:=jU.1 lY;refine aR (dn (cs:=[.int .i64 0,.int .i64 0,.int .i64 0,.int .i64 0,.int .i64 0]) hF 4 ai) ?_;rintro _ w7 ⟨qg,AA,rfl,ej,hy,hF⟩;refine bM (cC (vs:=jT (l[k]'ay)) (n:=5) rfl rfl ai rfl rfl (fE rfl) hy rfl) ?_;rintro _ fk ⟨rfl,eS,hy⟩;refine ax 1 ?_;refine bX [3] (qg) [1,3,5,7,11,13,15,8,16,18] bP ?_;intro fJ fA;refine ah 3 ?_ [0];refine c7 2 (aV (l[k]'ay).A) hy.mv.sz ?_;refine ah 2 ?_ [2];refine c7 2 (aV (l[k]'ay).B) hy.mv.sz ?_;refine gl Tryz.call145 rfl (Qt (r:=(l[k]'ay).A) hF.mv ak hm.mv hf adK) ?_;rintro vK gn ⟨rfl,fT,jk,hm,hf,LN,hda,_⟩;refine⟨aW,?_⟩;refine gl Tryz.call145 rfl (Qt (r:=(l[k]'ay).B) hF.mv ak hm hf (hda _ adL)) ?_;rintro BW iK ⟨rfl,gY,ub,hm,hf,hrb,hdb,Qu⟩;refine⟨aW,?_⟩;refine gU rfl ?_;have adM:=Qu _ LN;refine bM (xK (k:=bZ (l.take k) (l[k]'ay).A) (u:=bZ (l.take k) (l[k]'ay).B) hm Tryz.underlying198 (oC Tryz.underlying55 ak ak ai Tryz.underlying3) rfl rfl rfl) ?_;rintro _ iV ⟨rfl,eY,hm⟩;refine ax 6 ?_ [3];refine bC (eD (k+1,ig ub (bZ (l.take k) (l[k]'ay).A) (bZ (l.take k) (l[k]'ay).B),qg) _ ⟨aD,(by simp only;rw[List.take_succ_eq_append_getElem ay,C4];exact hf.join adM hrb),(Dom.put (λs eY=>hdb _ (hda _ (hdom s eY))) _ _),hF.mv,hT.mv,hl.mv,hm⟩ aD)
 have ay:k=l.length:=by omega
 subst ay;rw[List.take_length] at hf;refine aB 6 ?_ [3];refine bg Tryz.func144 ?_;obtain⟨rH,qe,FP,hFg⟩:=hm.mG hT aO (λb _=>gI C ak b) j;exact⟨rH,bm,u,dd,rfl,(hT.o1).mG qe,hFg,FP,hf,hdom⟩
end
end Go.Proofs.YtmdhggfehknjjaaGreat
