/- Steps through functions of the program. -/
import Derived.Test.YtmdhggfehknjjaaGreatJD1N3
import Derived.Test.YtmdhggfehknjjaaGreatL1
import Derived.Test.YtmdhggfehknjjaaGreatL2
import Derived.Test.YtmdhggfehknjjaaGreatShelf
set_option linter.unusedVariables false
set_option linter.unusedSimpArgs false
set_option maxRecDepth 100000
set_option maxHeartbeats 4000000
namespace Go.Proofs.YtmdhggfehknjjaaGreat
open Go.K Go.K.bu
noncomputable section
namespace OS
def c0:=bZ Tryz.f96
end OS
theorem EZ {w₀:World} {M:Nat->Prop} {l:List Int} {aG:Value} (hl:aB w₀ M l aG):Calls Tryz.prog 96 #[aG] w₀ (bI λv w'=>v=.int .i64 (iI l)/\w'=w₀):=by
 refine bT OS.c0 18 [aG] Tryz.func96 ?_;show Run _ _ _ _ [(0,aG)] _ _;refine ai (aq [af 0] ?_);refine aX 2 (.int .i64 0) (aj.nil (ai (aq [af 0] ?_)));refine aX 3 (.int .i64 0) (aj.nil (ai (ai (aq [af 0,af 1,af 2] ?_))));refine ah 6 0 ?_;refine zE 7 6 22 (hl.bS rfl Tryz.underlying22) ?_;refine eE 8 (.int .i64 0) ?_;refine aj.nil (bD 0 ?_);refine cK (ι:=Nat) (I:=λx w=>x<=l.length/\w=w₀/\iI (l.drop x)=iI l) (e:=λx=>[(3,.int .i64 0),(6,aG),(7,.int .i64 l.length),(8,.int .i64 x)]) (m:=λx=>l.length-x) (cE:=0) (ak 3 (ak 6 (ak 7 (ak 8 (aY _))))) ?_ ?_
 · exact⟨Nat.zero_le _,rfl,rfl⟩
 intro i w1 hI next
 obtain⟨hi,rfl,ho⟩:=hI;have j0:=hl.le;refine ai (aq [af 0] ?_);refine c4 9 3 8 7 (aj.nil (ai ?_));refine bQ 9 rfl (λfV=>?_) (λfV=>?_)
 ·
  have hil:i<l.length:=by omega
  rw[UF hil] at ho;refine bn (ai (bD 1 (ai (aq [af 0,nn 1,af 2] ?_))));refine c5 3 10 22 6 8 hl rfl (h:=?_);intro OG oz jm;try simp only[aP] at jm
  refine gP (au 11 (.load 3 (.tmp 10))) rfl rfl trivial jm (by kernel_rfl) rfl rfl ?_;intro v11 g11;first|(obtain rfl:=jF.1 g11)|(obtain rfl:=g_.1 g11)
  refine aC 5 11 (aj.nil (ai (aq [af 0,af 1,af 2] ?_)));refine ah 12 5 (ah 13 3 ?_);refine ax (au 14 (.binOp .neq 3 (.tmp 12) (.tmp 13) 3)) (λ_=>fI rfl rfl) ?_;refine aj.nil ?_;refine bQ 14 rfl (λeC=>?_) (λeC=>?_)
  ·
   rw[if_neg eC] at ho;refine ai (aq [af 0,af 1] ?_);refine ah 15 5 (aC 2 15 (aj.nil ?_));refine bP Tryz.func96 Tryz.results96 ?_;exact⟨by rw[ho],rfl⟩
  have eC:l[i]=0:=by simpa using eC
  rw[if_pos eC] at ho;refine bn (bR (aq [af 0,af 1] ?_));refine cn 16 3 8 1 (ah 8 16 (aj.nil ?_));refine kp ?_ (next (i+1) _ ⟨by omega,rfl,ho⟩ (by omega));exact ak 3 (ak 6 (ak 7 (aV 8 rfl (eq_int (by simp)) (aY _))))
 have hil:i=l.length:=by omega
 refine cB 0 ?_;refine ai (aq [af 0,af 1] ?_);refine ah 17 3 (aC 2 17 (aj.nil ?_));refine bP Tryz.func96 Tryz.results96 ?_;subst hil;rw[List.drop_length] at ho;exact⟨by rw[<-ho];rfl,rfl⟩
namespace OT
def c0:=bZ Tryz.f161
end OT
theorem OU (x:Int) (w:World):Calls Tryz.prog 161 #[.int .i64 x] w (bI λv w'=>v=.bool false/\w'=w):=by
 refine bT OT.c0 6 [.int .i64 x] Tryz.func161 ?_;show Run _ _ _ _ [(0,.int .i64 x)] _ _;refine ai (aq [af 0] ?_);refine aX 2 (.bool false) (aj.nil (ai (aq [af 0,af 1,af 2,af 3] ?_)));refine ah 3 0 (ah 4 0 ?_);refine ax (au 5 (.binOp .neq 3 (.tmp 3) (.tmp 4) 3)) (λ_=>fI rfl rfl) ?_;refine aC 2 5 (aj.nil ?_);refine bP Tryz.func161 Tryz.results161 ?_;exact⟨by simp,rfl⟩
namespace OV
def c0:=bZ Tryz.f97
end OV
theorem CF (x y:Int) (w:World):Calls Tryz.prog 97 #[.int .i64 x,.int .i64 y] w (bI λv w'=>v=.int .i64 (kf x y)/\w'=w):=by
 refine bT OV.c0 20 [.int .i64 x,.int .i64 y] Tryz.func97 ?_;show Run _ _ _ _ [(0,.int .i64 x),(1,.int .i64 y)] _ _;refine ai (aq [af 0] ?_);refine aX 4 (.int .i64 0) (aj.nil (ai (aq [af 0,nn 1,af 2] ?_)));refine ah 7 0 ?_;refine bU 8 161 [7] [3] Tryz.call161 rfl (OU _ _) ?_;rintro j3 w1 ⟨rfl,rfl⟩;refine aC 5 8 (aj.nil (ai (aq [af 0,nn 1,af 2] ?_)));refine ah 9 1 ?_;refine bU 10 161 [9] [3] Tryz.call161 rfl (OU _ _) ?_;rintro gL w2 ⟨rfl,rfl⟩;refine aC 6 10 (aj.nil (ai (ai (aq [af 0] ?_))));refine ah 11 5 ?_;refine aj.nil (cR 11 (bn (ai (ai (aq [af 0] ?_)))));refine ah 13 6 ?_;refine aj.nil (cR 13 (bn (ai (ai (aq [af 0,af 1,af 2] ?_)))));refine ah 14 0 (ah 15 1 ?_);refine c4 16 3 14 15 (aj.nil ?_);refine bQ 16 rfl (λiO=>?_) (λiO=>?_)
 ·
  refine ai (aq [af 0] ?_);refine ax (au 4 (.assign (.const (.int .i64 (-1))))) (λ_=>n_ rfl) ?_;refine aj.nil ?_;refine bP Tryz.func97 Tryz.results97 ?_;exact⟨eq_int (by unfold kf;split<;>(try split)<;>omega),rfl⟩
 refine bn (ai (ai (aq [af 0,af 1,af 2] ?_)));refine ah 17 0 (ah 18 1 ?_);refine ax (au 19 (.binOp .gtr 3 (.tmp 17) (.tmp 18) 3)) (λ_=>fH rfl rfl) ?_;refine aj.nil ?_;refine bQ 19 rfl (λl6=>?_) (λl6=>?_)
 ·
  refine ai (aq [af 0] ?_);refine aX 4 (.int .i64 1) (aj.nil ?_);refine bP Tryz.func97 Tryz.results97 ?_;exact⟨eq_int (by unfold kf;split<;>(try split)<;>omega),rfl⟩
 refine bn (ai (aq [af 0] ?_));refine aX 4 (.int .i64 0) (aj.nil ?_);refine bP Tryz.func97 Tryz.results97 ?_;exact⟨eq_int (by unfold kf;split<;>(try split)<;>omega),rfl⟩
namespace IP
def c0:=bZ Tryz.f53
def o1:=dF (cl (aH c0))
end IP
theorem uv {w₀:World} {C:Nat->Nat} {x y:av} (hF:aL w₀ C):Calls Tryz.prog 53 #[.agg #[.int .i64 x.a,.int .i64 x.b],.agg #[.int .i64 y.a,.int .i64 y.b]] w₀ (bI λv w'=>v=.int .i64 (iW x y)/\ay [] w₀ C w' C):=by
 have bH:=hF;have hT:=z9 w₀ C;replace hF:=hF.bq;refine bT IP.c0 17 [.agg #[.int .i64 x.a,.int .i64 x.b],.agg #[.int .i64 y.a,.int .i64 y.b]] Tryz.func53 ?_;show Run _ _ _ _ [(0,.agg #[.int .i64 x.a,.int .i64 x.b]),(1,.agg #[.int .i64 y.a,.int .i64 y.b])] _ _;refine ai (aq [nn 0,nn 1,af 2] ?_);refine bG (au 2 (.box 55 (.tmp 0))) rfl rfl (dI (cs:=[.int .i64 x.a,.int .i64 x.b]) hF 3 rfl rfl) ?_;rintro _ w1 ⟨dy,bY,rfl,s_1,hx,hF⟩;refine bG (au 3 (.box 55 (.tmp 1))) rfl rfl (dI (cs:=[.int .i64 y.a,.int .i64 y.b]) hF 3 rfl rfl) ?_;rintro _ w2 ⟨cQ,ek,rfl,s_2,hy,hF⟩;refine aX 4 (.int .i64 0) (aj.nil (ai ?_));refine dm (id:=1) (ops:=IP.o1) [] (cQ) [af 0,af 1,af 2,af 3,af 5,af 6,af 7,af 8,nn 4,nn 9,nn 10,nn 11,af 12] cM (by kernel_rfl) (by kernel_rfl) (by kernel_rfl) ?_;intro w3 aD;have hR:=ay.refl [] w3 (cQ);refine bp 5 55 2 0 0 ?_;replace hx:=(hx.t s_2).t aD;refine eB 6 3 5 (hx.bF ·) ?_;refine bp 7 55 3 0 0 ?_;replace hy:=hy.t aD;refine eB 8 3 7 (hy.bF ·) ?_;refine bp 10 55 2 1 1 ?_;refine eB 11 3 10 (hx.bF ·) ?_;refine bp 12 55 3 1 1 ?_;refine eB 13 3 12 (hy.bF ·) ?_;refine fJ 9 97 [6,8] [3,3] Tryz.call97 rfl (CF _ _ _) ?_;rintro iM w4 ⟨rfl,rfl⟩;refine⟨hR.ext,?_⟩;refine fJ 14 97 [11,13] [3,3] Tryz.call97 rfl (CF _ _ _) ?_;rintro nQ dZ ⟨rfl,rfl⟩;refine⟨hR.ext,?_⟩;replace hF:=hF.st aD;refine fU (au 15 (.buildSlice 22 2 #[(0,(.tmp 9)),(1,(.tmp 14))])) rfl rfl (f_ (ys:=([kf x.a y.a,kf x.b y.b]:List Int)) (e:=3) (bytes:=8) hF (by kernel_rfl) rfl (by decide) (by decide) ⟨rfl,⟨_,rfl,g_.2 rfl⟩,rfl,⟨_,rfl,g_.2 rfl⟩,trivial⟩) ?_;rintro qW eS ⟨aK,g15,hF⟩;refine⟨(hR.trans aK (by simp)).ext,?_⟩;refine fJ 16 96 [15] [22] Tryz.call96 rfl (EZ g15) ?_;rintro lY w7 ⟨rfl,rfl⟩;replace hR:=hR.t aK;refine⟨hR.ext,?_⟩;refine aC 4 16 (aj.nil ?_);refine bP Tryz.func53 Tryz.results53 ?_;replace hT:=(((hT.t s_1).t s_2).t aD).t aK;exact⟨rfl,hT.bW (by decide)⟩
theorem E0 (x y:av):Go.Proofs.ltOf iW x y=!nJ y x:=by unfold nJ Go.Proofs.ltOf;simp
theorem YP:Go.Sort.SWO (Go.Proofs.ltOf iW) where
 irrefl x:=by rw[E0];simp[u9]
 trans x y z h h':=by
  rw[E0] at*;simp only[Bool.not_eq_true',Bool.eq_false_iff,ne_eq,u9] at*;omega
 ntrans x y z h h':=by
  rw[E0] at*;simp only[Bool.not_eq_false',u9] at*;omega
theorem YQ (x y:av) (h:Go.Proofs.ltOf iW x y=false) (h':Go.Proofs.ltOf iW y x=false):x=y:=by
 rw[E0] at h h';simp only[Bool.not_eq_false'] at h h';exact GG x y h' h
theorem OW {w:World} {C:Nat->Nat} {j:Nat} {v:Value} {ys:List av} (hF:aL w C) (ho:bh w C j 55 v ys) (hlen:ys.length<=140737488355328):
  Calls Tryz.prog 185 #[v,.func (.func 53) #[] #[]] w (bI λu w'=>u=.tuple #[]/\ay [j] w C w' C/\bh w' C j 55 v (jY ys)/\aL w' C):=
 NN (enc:=LV) (cf:=iW) Go.Proofs.Tryz.sortCouple (λw=>Tryz.isAgg55 w) (λw=>Tryz.sizeOf55 w)
  (λh M x vs=>⟨λhr=>by obtain⟨us,ws,rfl,h1,h2⟩:=hr;rw[show us=[.int .i64 x.a] from h1,show ws=[.int .i64 x.b] from h2];rfl,λhr=>by subst hr;exact⟨[.int .i64 x.a],[.int .i64 x.b],rfl,rfl,rfl⟩⟩)
  (λx=>rfl) (by decide) (λx u hu=>by simp only[LV,List.mem_cons,List.not_mem_nil,or_false] at hu;rcases hu with rfl|rfl<;>rfl) YP YQ (λargs w=>Tryz.call53 args w)
  (λW x y=>(uv (C:=λ_=>0) (λb hb=>absurd rfl hb)).mono (by rintro e w' ⟨u,rfl,rfl,hs⟩;exact⟨_,rfl,rfl,hs.ext.mono (λb _ hb=>by simp at hb)⟩)) hF ho hlen
namespace OX
def c0:=bZ Tryz.f170
end OX
theorem CG {w₀:World} {C:Nat->Nat} {x:av} (hF:aL w₀ C):Calls Tryz.prog 170 #[.agg #[.int .i64 x.a,.int .i64 x.b]] w₀ (bI λv w'=>v=.bool (lP x)/\ay [] w₀ C w' C):=by
 have bH:=hF;have hT:=z9 w₀ C;replace hF:=hF.bq;refine bT OX.c0 21 [.agg #[.int .i64 x.a,.int .i64 x.b]] Tryz.func170 ?_;show Run _ _ _ _ [(0,.agg #[.int .i64 x.a,.int .i64 x.b])] _ _;refine ai (aq [nn 0,af 1] ?_);refine bG (au 1 (.box 55 (.tmp 0))) rfl rfl (dI (cs:=[.int .i64 x.a,.int .i64 x.b]) hF 3 rfl rfl) ?_;rintro _ w1 ⟨dy,bY,rfl,s_1,hx,hF⟩;refine aX 2 (.bool false) (aj.nil ?_);refine kp (ak 1 (aY _)) ?_;refine ai ?_;refine kY 2 (lP x) (dy) ?_ ?_
 ·
  intro dW;by_cases hA:0<=x.a
  ·
   by_cases hB:x.a<4
   ·
    by_cases hC:1<=x.b
    ·
     refine aq [af 0,nn 1,af 2,af 3,af 4,nn 5,af 6,af 7,af 8,af 9,nn 10,af 11,af 12,af 13,af 14,nn 15,af 16,af 17,af 18] ?_;refine bp 3 55 1 0 0 ?_;refine cH 4 3 3 hx.at_ rfl rfl ?_;refine ax (au 5 (.binOp .geq 3 (.tmp 4) (.const (.int .i64 0)) 3)) (λ_=>ei (fB rfl rfl) hA) ?_;refine ah 6 5 ?_;refine cz 7 55 1 0 0 3 true ?_;refine dV 8 3 7 3 true hx.at_ ?_;refine ax (aI 9 (.binOp .lss 3 (.tmp 8) (.const (.int .i64 4)) 3) 3 true) (λ_=>ei (eO rfl rfl) hB) ?_;refine dD 10 6 9 ?_;refine ah 11 10 ?_;refine cz 12 55 1 1 1 8 true ?_;refine dV 13 3 12 8 true hx.at_ ?_;refine ax (aI 14 (.binOp .geq 3 (.tmp 13) (.const (.int .i64 1)) 3) 8 true) (λ_=>ei (fB rfl rfl) hC) ?_;refine dD 15 11 14 ?_;refine ah 16 15 ?_;refine cz 17 55 1 1 1 13 true ?_;refine dV 18 3 17 13 true hx.at_ ?_;refine ax (aI 19 (.binOp .leq 3 (.tmp 18) (.const (.int .i64 1048576)) 3) 13 true) (λ_=>nA rfl rfl) ?_;refine dD 20 16 19 ?_;refine aC 2 20 ?_;exact aj.nil (dW _ _ _ (ay.refl _ _ _) rfl (by unfold lP;rw[decide_eq_true hA,decide_eq_true hB,decide_eq_true hC];rfl) (eZ 19))
    refine aq [af 0,nn 1,af 2,af 3,af 4,nn 5,af 6,af 7,af 8,af 9,nn 10,af 11,af 12,af 13,af 14,nn 15,af 16,af 17,af 18] ?_;refine bp 3 55 1 0 0 ?_;refine cH 4 3 3 hx.at_ rfl rfl ?_;refine ax (au 5 (.binOp .geq 3 (.tmp 4) (.const (.int .i64 0)) 3)) (λ_=>ei (fB rfl rfl) hA) ?_;refine ah 6 5 ?_;refine cz 7 55 1 0 0 3 true ?_;refine dV 8 3 7 3 true hx.at_ ?_;refine ax (aI 9 (.binOp .lss 3 (.tmp 8) (.const (.int .i64 4)) 3) 3 true) (λ_=>ei (eO rfl rfl) hB) ?_;refine dD 10 6 9 ?_;refine ah 11 10 ?_;refine cz 12 55 1 1 1 8 true ?_;refine dV 13 3 12 8 true hx.at_ ?_;refine ax (aI 14 (.binOp .geq 3 (.tmp 13) (.const (.int .i64 1)) 3) 8 true) (λ_=>fm (fB rfl rfl) hC) ?_;refine dD 15 11 14 ?_;refine ah 16 15 ?_;refine aM 17 13 true ?_;refine dz (aI 18 (.load 3 (.tmp 17)) 13 true) rfl rfl trivial ?_;refine aM 19 13 true ?_;refine fq 20 16 19 ?_;refine aC 2 20 ?_;exact aj.nil (dW _ _ _ (ay.refl _ _ _) rfl (by unfold lP;rw[decide_eq_true hA,decide_eq_true hB,decide_eq_false hC];rfl) (eZ 19))
   refine aq [af 0,nn 1,af 2,af 3,af 4,nn 5,af 6,af 7,af 8,af 9,nn 10,af 11,af 12,af 13,af 14,nn 15,af 16,af 17,af 18] ?_;refine bp 3 55 1 0 0 ?_;refine cH 4 3 3 hx.at_ rfl rfl ?_;refine ax (au 5 (.binOp .geq 3 (.tmp 4) (.const (.int .i64 0)) 3)) (λ_=>ei (fB rfl rfl) hA) ?_;refine ah 6 5 ?_;refine cz 7 55 1 0 0 3 true ?_;refine dV 8 3 7 3 true hx.at_ ?_;refine ax (aI 9 (.binOp .lss 3 (.tmp 8) (.const (.int .i64 4)) 3) 3 true) (λ_=>fm (eO rfl rfl) hB) ?_;refine dD 10 6 9 ?_;refine ah 11 10 ?_;refine aM 12 8 true ?_;refine dz (aI 13 (.load 3 (.tmp 12)) 8 true) rfl rfl trivial ?_;refine aM 14 8 true ?_;refine fq 15 11 14 ?_;refine ah 16 15 ?_;refine aM 17 13 true ?_;refine dz (aI 18 (.load 3 (.tmp 17)) 13 true) rfl rfl trivial ?_;refine aM 19 13 true ?_;refine fq 20 16 19 ?_;refine aC 2 20 ?_;exact aj.nil (dW _ _ _ (ay.refl _ _ _) rfl (by unfold lP;rw[decide_eq_true hA,decide_eq_false hB];rfl) (eZ 19))
  refine aq [af 0,nn 1,af 2,af 3,af 4,nn 5,af 6,af 7,af 8,af 9,nn 10,af 11,af 12,af 13,af 14,nn 15,af 16,af 17,af 18] ?_;refine bp 3 55 1 0 0 ?_;refine cH 4 3 3 hx.at_ rfl rfl ?_;refine ax (au 5 (.binOp .geq 3 (.tmp 4) (.const (.int .i64 0)) 3)) (λ_=>fm (fB rfl rfl) hA) ?_;refine ah 6 5 ?_;refine aM 7 3 true ?_;refine dz (aI 8 (.load 3 (.tmp 7)) 3 true) rfl rfl trivial ?_;refine aM 9 3 true ?_;refine fq 10 6 9 ?_;refine ah 11 10 ?_;refine aM 12 8 true ?_;refine dz (aI 13 (.load 3 (.tmp 12)) 8 true) rfl rfl trivial ?_;refine aM 14 8 true ?_;refine fq 15 11 14 ?_;refine ah 16 15 ?_;refine aM 17 13 true ?_;refine dz (aI 18 (.load 3 (.tmp 17)) 13 true) rfl rfl trivial ?_;refine aM 19 13 true ?_;refine fq 20 16 19 ?_;refine aC 2 20 ?_;exact aj.nil (dW _ _ _ (ay.refl _ _ _) rfl (by unfold lP;rw[decide_eq_false hA];rfl) (eZ 19))
 intro w2 s_2;refine bP Tryz.func170 Tryz.results170 ?_;replace hT:=(hT.t s_1).t s_2;exact⟨rfl,hT.bW (by decide)⟩
namespace OY
def c0:=bZ Tryz.f100
end OY
theorem yh {w₀:World} {C:Nat->Nat} {x:av} (hF:aL w₀ C):Calls Tryz.prog 100 #[.agg #[.int .i64 x.a,.int .i64 x.b]] w₀ (bI λv w'=>v=.bool (lP x)/\ay [] w₀ C w' C):=by
 have bH:=hF;have hT:=z9 w₀ C;replace hF:=hF.bq;refine bT OY.c0 21 [.agg #[.int .i64 x.a,.int .i64 x.b]] Tryz.func100 ?_;show Run _ _ _ _ [(0,.agg #[.int .i64 x.a,.int .i64 x.b])] _ _;refine ai (aq [nn 0,af 1] ?_);refine bG (au 1 (.box 55 (.tmp 0))) rfl rfl (dI (cs:=[.int .i64 x.a,.int .i64 x.b]) hF 3 rfl rfl) ?_;rintro _ w1 ⟨dy,bY,rfl,s_1,hx,hF⟩;refine aX 2 (.bool false) (aj.nil ?_);refine kp (ak 1 (aY _)) ?_;refine ai ?_;refine kY 2 (lP x) (dy) ?_ ?_
 ·
  intro dW;by_cases hA:0<=x.a
  ·
   by_cases hB:x.a<4
   ·
    by_cases hC:1<=x.b
    ·
     refine aq [af 0,nn 1,af 2,af 3,af 4,nn 5,af 6,af 7,af 8,af 9,nn 10,af 11,af 12,af 13,af 14,nn 15,af 16,af 17,af 18] ?_;refine bp 3 55 1 0 0 ?_;refine cH 4 3 3 hx.at_ rfl rfl ?_;refine ax (au 5 (.binOp .geq 3 (.tmp 4) (.const (.int .i64 0)) 3)) (λ_=>ei (fB rfl rfl) hA) ?_;refine ah 6 5 ?_;refine cz 7 55 1 0 0 3 true ?_;refine dV 8 3 7 3 true hx.at_ ?_;refine ax (aI 9 (.binOp .lss 3 (.tmp 8) (.const (.int .i64 4)) 3) 3 true) (λ_=>ei (eO rfl rfl) hB) ?_;refine dD 10 6 9 ?_;refine ah 11 10 ?_;refine cz 12 55 1 1 1 8 true ?_;refine dV 13 3 12 8 true hx.at_ ?_;refine ax (aI 14 (.binOp .geq 3 (.tmp 13) (.const (.int .i64 1)) 3) 8 true) (λ_=>ei (fB rfl rfl) hC) ?_;refine dD 15 11 14 ?_;refine ah 16 15 ?_;refine cz 17 55 1 1 1 13 true ?_;refine dV 18 3 17 13 true hx.at_ ?_;refine ax (aI 19 (.binOp .leq 3 (.tmp 18) (.const (.int .i64 1048576)) 3) 13 true) (λ_=>nA rfl rfl) ?_;refine dD 20 16 19 ?_;refine aC 2 20 ?_;exact aj.nil (dW _ _ _ (ay.refl _ _ _) rfl (by unfold lP;rw[decide_eq_true hA,decide_eq_true hB,decide_eq_true hC];rfl) (eZ 19))
    refine aq [af 0,nn 1,af 2,af 3,af 4,nn 5,af 6,af 7,af 8,af 9,nn 10,af 11,af 12,af 13,af 14,nn 15,af 16,af 17,af 18] ?_;refine bp 3 55 1 0 0 ?_;refine cH 4 3 3 hx.at_ rfl rfl ?_;refine ax (au 5 (.binOp .geq 3 (.tmp 4) (.const (.int .i64 0)) 3)) (λ_=>ei (fB rfl rfl) hA) ?_;refine ah 6 5 ?_;refine cz 7 55 1 0 0 3 true ?_;refine dV 8 3 7 3 true hx.at_ ?_;refine ax (aI 9 (.binOp .lss 3 (.tmp 8) (.const (.int .i64 4)) 3) 3 true) (λ_=>ei (eO rfl rfl) hB) ?_;refine dD 10 6 9 ?_;refine ah 11 10 ?_;refine cz 12 55 1 1 1 8 true ?_;refine dV 13 3 12 8 true hx.at_ ?_;refine ax (aI 14 (.binOp .geq 3 (.tmp 13) (.const (.int .i64 1)) 3) 8 true) (λ_=>fm (fB rfl rfl) hC) ?_;refine dD 15 11 14 ?_;refine ah 16 15 ?_;refine aM 17 13 true ?_;refine dz (aI 18 (.load 3 (.tmp 17)) 13 true) rfl rfl trivial ?_;refine aM 19 13 true ?_;refine fq 20 16 19 ?_;refine aC 2 20 ?_;exact aj.nil (dW _ _ _ (ay.refl _ _ _) rfl (by unfold lP;rw[decide_eq_true hA,decide_eq_true hB,decide_eq_false hC];rfl) (eZ 19))
   refine aq [af 0,nn 1,af 2,af 3,af 4,nn 5,af 6,af 7,af 8,af 9,nn 10,af 11,af 12,af 13,af 14,nn 15,af 16,af 17,af 18] ?_;refine bp 3 55 1 0 0 ?_;refine cH 4 3 3 hx.at_ rfl rfl ?_;refine ax (au 5 (.binOp .geq 3 (.tmp 4) (.const (.int .i64 0)) 3)) (λ_=>ei (fB rfl rfl) hA) ?_;refine ah 6 5 ?_;refine cz 7 55 1 0 0 3 true ?_;refine dV 8 3 7 3 true hx.at_ ?_;refine ax (aI 9 (.binOp .lss 3 (.tmp 8) (.const (.int .i64 4)) 3) 3 true) (λ_=>fm (eO rfl rfl) hB) ?_;refine dD 10 6 9 ?_;refine ah 11 10 ?_;refine aM 12 8 true ?_;refine dz (aI 13 (.load 3 (.tmp 12)) 8 true) rfl rfl trivial ?_;refine aM 14 8 true ?_;refine fq 15 11 14 ?_;refine ah 16 15 ?_;refine aM 17 13 true ?_;refine dz (aI 18 (.load 3 (.tmp 17)) 13 true) rfl rfl trivial ?_;refine aM 19 13 true ?_;refine fq 20 16 19 ?_;refine aC 2 20 ?_;exact aj.nil (dW _ _ _ (ay.refl _ _ _) rfl (by unfold lP;rw[decide_eq_true hA,decide_eq_false hB];rfl) (eZ 19))
  refine aq [af 0,nn 1,af 2,af 3,af 4,nn 5,af 6,af 7,af 8,af 9,nn 10,af 11,af 12,af 13,af 14,nn 15,af 16,af 17,af 18] ?_;refine bp 3 55 1 0 0 ?_;refine cH 4 3 3 hx.at_ rfl rfl ?_;refine ax (au 5 (.binOp .geq 3 (.tmp 4) (.const (.int .i64 0)) 3)) (λ_=>fm (fB rfl rfl) hA) ?_;refine ah 6 5 ?_;refine aM 7 3 true ?_;refine dz (aI 8 (.load 3 (.tmp 7)) 3 true) rfl rfl trivial ?_;refine aM 9 3 true ?_;refine fq 10 6 9 ?_;refine ah 11 10 ?_;refine aM 12 8 true ?_;refine dz (aI 13 (.load 3 (.tmp 12)) 8 true) rfl rfl trivial ?_;refine aM 14 8 true ?_;refine fq 15 11 14 ?_;refine ah 16 15 ?_;refine aM 17 13 true ?_;refine dz (aI 18 (.load 3 (.tmp 17)) 13 true) rfl rfl trivial ?_;refine aM 19 13 true ?_;refine fq 20 16 19 ?_;refine aC 2 20 ?_;exact aj.nil (dW _ _ _ (ay.refl _ _ _) rfl (by unfold lP;rw[decide_eq_false hA];rfl) (eZ 19))
 intro w2 s_2;refine bP Tryz.func100 Tryz.results100 ?_;replace hT:=(hT.t s_1).t s_2;exact⟨rfl,hT.bW (by decide)⟩
namespace OZ
def c0:=bZ Tryz.f105
end OZ
theorem IQ {w₀:World} {C:Nat->Nat} {x y:av} (hF:aL w₀ C):Calls Tryz.prog 105 #[.agg #[.int .i64 x.a,.int .i64 x.b],.agg #[.int .i64 y.a,.int .i64 y.b]] w₀ (bI λv w'=>v=.bool (k6 x y)/\ay [] w₀ C w' C):=by
 have bH:=hF;have hT:=z9 w₀ C;replace hF:=hF.bq;refine bT OZ.c0 18 [.agg #[.int .i64 x.a,.int .i64 x.b],.agg #[.int .i64 y.a,.int .i64 y.b]] Tryz.func105 ?_;show Run _ _ _ _ [(0,.agg #[.int .i64 x.a,.int .i64 x.b]),(1,.agg #[.int .i64 y.a,.int .i64 y.b])] _ _;refine ai (aq [nn 0,nn 1,af 2] ?_);refine bG (au 2 (.box 55 (.tmp 0))) rfl rfl (dI (cs:=[.int .i64 x.a,.int .i64 x.b]) hF 3 rfl rfl) ?_;rintro _ w1 ⟨dy,bY,rfl,s_1,hx,hF⟩;refine bG (au 3 (.box 55 (.tmp 1))) rfl rfl (dI (cs:=[.int .i64 y.a,.int .i64 y.b]) hF 3 rfl rfl) ?_;rintro _ w2 ⟨cQ,ek,rfl,s_2,hy,hF⟩;refine aX 4 (.bool false) (aj.nil ?_);refine kp (ak 2 (ak 3 (aY _))) ?_;refine ai ?_;refine kY 4 (k6 x y) (cQ) ?_ ?_
 ·
  intro dW;by_cases hA:lP x=true
  ·
   by_cases hB:lP y=true
   ·
    refine aq [nn 0,nn 1,af 2,nn 3,nn 4,af 5,af 6,af 7,nn 8,af 9,nn 10,af 11,af 12,af 13] ?_;have hcs:=ay.qz hF;replace hx:=hx.t s_2;refine jl (au 5 (.load 55 (.tmp 2))) rfl rfl trivial (gT (n:=2) hx.at_ (by kernel_rfl) (by kernel_rfl) rfl rfl rfl) ?_;refine bU 6 170 [5] [55] Tryz.call170 rfl (CG hF) ?_;rintro ko w3 ⟨rfl,aD⟩;rw[hA];refine ah 7 6 ?_;replace hy:=hy.t aD;refine jl (aI 8 (.load 55 (.tmp 3)) 2 true) rfl rfl trivial (gT (n:=2) hy.at_ (by kernel_rfl) (by kernel_rfl) rfl rfl rfl) ?_;replace hF:=hF.st aD;refine dN (aI 9 (.call {callee:=.value (.func 170),args:=#[(.tmp 8)],argTypes:=#[55]}) 2 true) rfl rfl (de Tryz.call170 rfl) (CG hF) ?_;rintro iM w4 ⟨rfl,aK⟩;rw[hB];refine dD 10 7 9 ?_;refine ah 11 10 ?_;refine cz 12 55 2 0 0 6 true ?_;replace hx:=(hx.t aD).t aK;refine dV 13 3 12 6 true hx.at_ ?_;refine cz 14 55 3 0 0 6 true ?_;replace hy:=hy.t aK;refine dV 15 3 14 6 true hy.at_ ?_;refine ax (aI 16 (.binOp .lss 3 (.tmp 13) (.tmp 15) 3) 6 true) (λ_=>eO rfl rfl) ?_;refine dD 17 11 16 ?_;refine aC 4 17 ?_;replace hcs:=(hcs.t aD).t aK;exact aj.nil (dW _ _ _ hcs rfl (by unfold k6;rw[hA,hB];rfl) (eZ 14))
   refine aq [nn 0,nn 1,af 2,nn 3,nn 4,af 5,af 6,af 7,nn 8,af 9,nn 10,af 11,af 12,af 13] ?_;have hcs:=ay.qz hF;replace hx:=hx.t s_2;refine jl (au 5 (.load 55 (.tmp 2))) rfl rfl trivial (gT (n:=2) hx.at_ (by kernel_rfl) (by kernel_rfl) rfl rfl rfl) ?_;refine bU 6 170 [5] [55] Tryz.call170 rfl (CG hF) ?_;rintro nQ dZ ⟨rfl,aJ⟩;rw[hA];refine ah 7 6 ?_;replace hy:=hy.t aJ;refine jl (aI 8 (.load 55 (.tmp 3)) 2 true) rfl rfl trivial (gT (n:=2) hy.at_ (by kernel_rfl) (by kernel_rfl) rfl rfl rfl) ?_;replace hF:=hF.st aJ;refine dN (aI 9 (.call {callee:=.value (.func 170),args:=#[(.tmp 8)],argTypes:=#[55]}) 2 true) rfl rfl (de Tryz.call170 rfl) (CG hF) ?_;rintro nR eS ⟨rfl,aR⟩;rw[Bool.eq_false_iff.2 hB];refine dD 10 7 9 ?_;refine ah 11 10 ?_;refine aM 12 6 true ?_;refine dz (aI 13 (.load 3 (.tmp 12)) 6 true) rfl rfl trivial ?_;refine aM 14 6 true ?_;refine dz (aI 15 (.load 3 (.tmp 14)) 6 true) rfl rfl trivial ?_;refine aM 16 6 true ?_;refine fq 17 11 16 ?_;refine aC 4 17 ?_;replace hcs:=(hcs.t aJ).t aR;exact aj.nil (dW _ _ _ hcs rfl (by unfold k6;rw[hA,Bool.eq_false_iff.2 hB];simp) (eZ 14))
  refine aq [nn 0,nn 1,af 2,nn 3,nn 4,af 5,af 6,af 7,nn 8,af 9,nn 10,af 11,af 12,af 13] ?_;have hcs:=ay.qz hF;replace hx:=hx.t s_2;refine jl (au 5 (.load 55 (.tmp 2))) rfl rfl trivial (gT (n:=2) hx.at_ (by kernel_rfl) (by kernel_rfl) rfl rfl rfl) ?_;refine bU 6 170 [5] [55] Tryz.call170 rfl (CG hF) ?_;rintro lY w7 ⟨rfl,aZ⟩;rw[Bool.eq_false_iff.2 hA];refine ah 7 6 ?_;refine dz (aI 8 (.load 55 (.tmp 3)) 2 true) rfl rfl trivial ?_;refine dz (aI 9 (.call {callee:=.value (.func 170),args:=#[(.tmp 8)],argTypes:=#[55]}) 2 true) rfl rfl trivial ?_;refine fq 10 7 9 ?_;refine ah 11 10 ?_;refine aM 12 6 true ?_;refine dz (aI 13 (.load 3 (.tmp 12)) 6 true) rfl rfl trivial ?_;refine aM 14 6 true ?_;refine dz (aI 15 (.load 3 (.tmp 14)) 6 true) rfl rfl trivial ?_;refine aM 16 6 true ?_;refine fq 17 11 16 ?_;refine aC 4 17 ?_;replace hcs:=hcs.t aZ;exact aj.nil (dW _ _ _ hcs rfl (by unfold k6;rw[Bool.eq_false_iff.2 hA];simp) (eZ 14))
 intro gp bg;refine bP Tryz.func105 Tryz.results105 ?_;replace hT:=((hT.t s_1).t s_2).t bg;exact⟨rfl,hT.bW (by decide)⟩
namespace IU
def c0:=bZ Tryz.f143
def o1:=dF (cl (aH c0))
end IU
theorem IV {w₀:World} {C:Nat->Nat} {a b c d:av} (hF:aL w₀ C):Calls Tryz.prog 143 #[.agg #[.int .i64 a.a,.int .i64 a.b],.agg #[.int .i64 b.a,.int .i64 b.b],.agg #[.int .i64 c.a,.int .i64 c.b],.agg #[.int .i64 d.a,.int .i64 d.b]] w₀ (bI λv w'=>v=.int .i64 (vi a b c d)/\ay [] w₀ C w' C):=by
 have bH:=hF;have hT:=z9 w₀ C;replace hF:=hF.bq;refine bT IU.c0 17 [.agg #[.int .i64 a.a,.int .i64 a.b],.agg #[.int .i64 b.a,.int .i64 b.b],.agg #[.int .i64 c.a,.int .i64 c.b],.agg #[.int .i64 d.a,.int .i64 d.b]] Tryz.func143 ?_;show Run _ _ _ _ [(0,.agg #[.int .i64 a.a,.int .i64 a.b]),(1,.agg #[.int .i64 b.a,.int .i64 b.b]),(2,.agg #[.int .i64 c.a,.int .i64 c.b]),(3,.agg #[.int .i64 d.a,.int .i64 d.b])] _ _;refine ai (aq [nn 0,nn 1,nn 2,nn 3,af 4] ?_);refine bG (au 4 (.box 55 (.tmp 0))) rfl rfl (dI (cs:=[.int .i64 a.a,.int .i64 a.b]) hF 3 rfl rfl) ?_;rintro _ w1 ⟨dy,bY,rfl,s_1,ha,hF⟩;refine bG (au 5 (.box 55 (.tmp 1))) rfl rfl (dI (cs:=[.int .i64 b.a,.int .i64 b.b]) hF 3 rfl rfl) ?_;rintro _ w2 ⟨cQ,ek,rfl,s_2,hb,hF⟩;refine bG (au 6 (.box 55 (.tmp 2))) rfl rfl (dI (cs:=[.int .i64 c.a,.int .i64 c.b]) hF 3 rfl rfl) ?_;rintro _ w3 ⟨ji,jA,rfl,aD,hc,hF⟩;refine bG (au 7 (.box 55 (.tmp 3))) rfl rfl (dI (cs:=[.int .i64 d.a,.int .i64 d.b]) hF 3 rfl rfl) ?_;rintro _ w4 ⟨gq,mK,rfl,aK,hd,hF⟩;refine aX 8 (.int .i64 0) (aj.nil (ai ?_));refine dm (id:=1) (ops:=IU.o1) [] (gq) [af 0,af 1,af 3,af 4,nn 2,nn 5,nn 6,nn 7,af 8] cM (by kernel_rfl) (by kernel_rfl) (by kernel_rfl) ?_;intro dZ aJ;have hR:=ay.refl [] dZ (gq);replace ha:=(((ha.t s_2).t aD).t aK).t aJ;refine eT (au 9 (.load 55 (.tmp 4))) rfl rfl (λw' hS=>gT (n:=2) (ha.stay hS (by decide)) (by kernel_rfl) (by kernel_rfl) rfl rfl rfl) ?_;replace hc:=(hc.t aK).t aJ;refine eT (au 10 (.load 55 (.tmp 6))) rfl rfl (λw' hS=>gT (n:=2) (hc.stay hS (by decide)) (by kernel_rfl) (by kernel_rfl) rfl rfl rfl) ?_;replace hb:=((hb.t aD).t aK).t aJ;refine eT (au 12 (.load 55 (.tmp 5))) rfl rfl (λw' hS=>gT (n:=2) (hb.stay hS (by decide)) (by kernel_rfl) (by kernel_rfl) rfl rfl rfl) ?_;replace hd:=hd.t aJ
 refine eT (au 13 (.load 55 (.tmp 7))) rfl rfl (λw' hS=>gT (n:=2) (hd.stay hS (by decide)) (by kernel_rfl) (by kernel_rfl) rfl rfl rfl) ?_;replace hF:=hF.st aJ;refine fJ 11 53 [9,10] [55,55] Tryz.call53 rfl (uv hF) ?_;rintro nR eS ⟨rfl,aR⟩;refine⟨(hR.trans aR (by simp)).ext,?_⟩;replace hF:=hF.st aR;refine fJ 14 53 [12,13] [55,55] Tryz.call53 rfl (uv hF) ?_;rintro lY w7 ⟨rfl,aZ⟩;replace hR:=hR.t aR;refine⟨(hR.trans aZ (by simp)).ext,?_⟩;replace hF:=hF.st aZ;refine fU (au 15 (.buildSlice 22 2 #[(0,(.tmp 11)),(1,(.tmp 14))])) rfl rfl (f_ (ys:=([iW a c,iW b d]:List Int)) (e:=3) (bytes:=8) hF (by kernel_rfl) rfl (by decide) (by decide) ⟨rfl,⟨_,rfl,g_.2 rfl⟩,rfl,⟨_,rfl,g_.2 rfl⟩,trivial⟩) ?_;rintro qW gp ⟨bg,g15,hF⟩;replace hR:=hR.t aZ;refine⟨(hR.trans bg (by simp)).ext,?_⟩;refine fJ 16 96 [15] [22] Tryz.call96 rfl (EZ g15) ?_;rintro uq gM ⟨rfl,rfl⟩;replace hR:=hR.t bg;refine⟨hR.ext,?_⟩;refine aC 8 16 (aj.nil ?_);refine bP Tryz.func143 Tryz.results143 ?_;replace hT:=(((((((hT.t s_1).t s_2).t aD).t aK).t aJ).t aR).t aZ).t bg;exact⟨rfl,hT.bW (by decide)⟩
end
end Go.Proofs.YtmdhggfehknjjaaGreat
set_option linter.unusedVariables false
set_option linter.unusedSimpArgs false
set_option maxRecDepth 100000
set_option maxHeartbeats 4000000
namespace Go.Proofs.YtmdhggfehknjjaaGreat
open Go.K Go.K.bu
noncomputable section
namespace E1
def c0:=bZ Tryz.f82
def kr:=(cl (aH (cl (aH (aH c0)))))
def uw:=(cl (cl (aH (aH (cl kr)))))
def yj:=(aH (aH (aH (cl (aH uw)))))
def oz:=dF (cl (aH yj))
end E1
theorem IW {w₀:World} {C:Nat->Nat} {l:List a_} {aG:Value} (hF:aL w₀ C) (hl:aB w₀ (aA C) l aG):Calls Tryz.prog 82 #[aG] w₀ (bI λv w'=>v=.int .i64 (jH l)/\ay [] w₀ C w' C):=by
 have bH:=hF;have hT:=z9 w₀ C;replace hF:=hF.bq;replace hl:=hl.c1;refine bT E1.c0 55 [aG] Tryz.func82 ?_;show Run _ _ _ _ [(0,aG)] _ _;refine ai (aq [af 0] ?_);refine aX 2 (.int .i64 0) (aj.nil (ai (ai (aq [af 0,af 1,af 2] ?_))));refine ah 5 0 ?_;refine zE 6 5 23 (hl.bS rfl Tryz.underlying23) ?_;refine ax (au 7 (.binOp .gtr 3 (.tmp 6) (.const (.int .i64 4096)) 3)) (λ_=>fH rfl rfl) ?_;refine aj.nil ?_;refine bQ 7 rfl (λh7=>?_) (λh7=>?_)
 ·
  refine ai (aq [af 0] ?_);refine aX 2 (.int .i64 1) (aj.nil ?_);refine bP Tryz.func82 Tryz.results82 ?_;exact⟨by rw[LZ (by omega)],hT.bW (by decide)⟩
 have hlim:l.length<=4096:=by omega
 refine bn (ai (ai (aq [af 0,af 1,af 2] ?_)));refine ah 8 0 ?_;refine zE 9 8 23 (hl.bS rfl Tryz.underlying23) ?_;refine eE 10 (.int .i64 0) ?_;refine aj.nil (bD 0 ?_);refine cK (ι:=Nat×(Nat->Nat)) (I:=λx w=>x.1<=l.length/\(∀k,k<x.1->rL l k=0)/\aL w x.2/\ay [2,3,4,5,6,7,8,9] w₀ (bq C) w x.2/\aB w (aA x.2) l aG) (e:=λx=>[(0,aG),(8,aG),(9,.int .i64 l.length),(10,.int .i64 x.1)]) (m:=λx=>l.length-x.1) (cE:=(0,bq C)) (ak 0 (ak 8 (ak 9 (ak 10 (aY _))))) ?_ ?_
 · exact⟨Nat.zero_le _,λk hk=>by simp at hk,hF,hT,hl⟩
 intro⟨i,aW⟩ w1 hI bN;obtain⟨hi,h0,hF,hT,hl⟩:=hI;try simp only at hi h0 hF hT hl
 show Run _ _ _ _ [(0,aG),(8,aG),(9,.int .i64 l.length),(10,.int .i64 i)] _ _;refine ai (aq [af 0] ?_);refine c4 11 3 10 9 (aj.nil (ai ?_));refine bQ 11 rfl (λnh=>?_) (λnh=>?_)
 ·
  have hil:i<l.length:=by omega
  have hE:=L1 hil;refine bn (ai (bD 1 (ai (aq [af 0,af 1,nn 2,nn 3,af 4,nn 5] ?_))));refine ah 12 10 ?_;refine c5 58 13 23 8 10 hl rfl (h:=?_);intro Ai vT gi;try simp only[aP] at gi
  refine iH (au 14 (.load 58 (.tmp 13))) rfl rfl trivial gi (by kernel_rfl) (by kernel_rfl) rfl rfl ?_;intro vU g14;obtain rfl:=jy.1 g14;refine bG (au 4 (.alloc 58)) rfl rfl (ec (cs:=[.int .i64 0,.int .i64 0,.int .i64 0,.int .i64 0,.int .i64 0]) hF 4 (by kernel_rfl)) ?_;rintro _ w2 ⟨cQ,ek,rfl,s_1,hx,hF⟩;refine aC 3 12 ?_;refine cq (k0 (.store 58 (.tmp 4) (.tmp 14))) rfl (dX (vs:=ic (l[i]'hil)) (n:=5) rfl rfl (by kernel_rfl) rfl rfl (gx rfl) hx rfl) ?_;rintro _ w3 ⟨rfl,s_2,hx⟩;refine aj.nil (bD 2 (ai (aq [af 0,nn 1,af 2,nn 3,nn 4,af 5,af 6] ?_)));refine bp 16 58 4 0 0 ?_;refine cA 17 55 16 2 (bE (l[i]'hil).A) hx.at_ ?_;refine bp 18 58 4 1 2 ?_;refine cA 19 55 18 2 (bE (l[i]'hil).B) hx.at_ ?_;replace hF:=hF.st s_2;refine bU 20 105 [17,19] [55,55] Tryz.call105 rfl (IQ (x:=(l[i]'hil).A) (y:=(l[i]'hil).B) hF) ?_;rintro iM w4 ⟨rfl,aD⟩;refine ax (au 21 (.unOp .not 4 (.tmp 20))) (λ_=>ey rfl) ?_;refine aC 15 21 (aj.nil ?_);refine kZ 15 rfl (λng=>?_) (λng=>?_)
  ·
   refine ai (aq [af 0] ?_);refine aX 2 (.int .i64 41) (aj.nil ?_);refine bP Tryz.func82 Tryz.results82 ?_;rw[if_pos (by simpa using ng)] at hE;replace hT:=((hT.t s_1).t s_2).t aD;exact⟨by rw[zC hlim hil h0 (by rw[hE];decide),hE],hT.bW (by decide)⟩
  refine ai ?_;refine kY 22 (decide ((l[i]'hil).w<1\/1048576<(l[i]'hil).w)) (cQ) ?_ ?_
  ·
   intro dW;by_cases hA: (l[i]'hil).w<1
   ·
    refine aq [af 0,nn 1,af 2,af 3,af 4,nn 5,af 6,af 7,af 8] ?_;refine bp 23 58 4 2 4 ?_;replace hx:=hx.t aD;refine cH 24 3 23 hx.at_ rfl rfl ?_;refine ax (au 25 (.binOp .lss 3 (.tmp 24) (.const (.int .i64 1)) 3)) (λ_=>ei (eO rfl rfl) hA) ?_;refine ah 26 25 ?_;refine aM 27 3 false ?_;refine dz (aI 28 (.load 3 (.tmp 27)) 3 false) rfl rfl trivial ?_;refine aM 29 3 false ?_;refine mT 30 26 29 ?_;refine aC 22 30 ?_;exact aj.nil (dW _ _ _ (ay.refl _ _ _) rfl (by rw[decide_eq_true (Or.inl hA)]) (eZ 9))
   refine aq [af 0,nn 1,af 2,af 3,af 4,nn 5,af 6,af 7,af 8] ?_;refine bp 23 58 4 2 4 ?_;replace hx:=hx.t aD;refine cH 24 3 23 hx.at_ rfl rfl ?_;refine ax (au 25 (.binOp .lss 3 (.tmp 24) (.const (.int .i64 1)) 3)) (λ_=>fm (eO rfl rfl) hA) ?_;refine ah 26 25 ?_;refine cz 27 58 4 2 4 3 false ?_;refine dV 28 3 27 3 false hx.at_ ?_;refine ax (aI 29 (.binOp .gtr 3 (.tmp 28) (.const (.int .i64 1048576)) 3) 3 false) (λ_=>fH rfl rfl) ?_;refine eH 30 26 29 ?_;refine aC 22 30 ?_;exact aj.nil (dW _ _ _ (ay.refl _ _ _) rfl (by congr 1;apply decide_eq_decide.2;omega) (eZ 9))
  intro dZ aK;refine bQ 22 rfl (λkS=>?_) (λkS=>?_)
  ·
   refine ai (aq [af 0] ?_);refine aX 2 (.int .i64 40) (aj.nil ?_);refine bP Tryz.func82 Tryz.results82 ?_;rw[if_neg (by simpa using ng),if_pos kS] at hE;replace hT:=(((hT.t s_1).t s_2).t aD).t aK;exact⟨by rw[zC hlim hil h0 (by rw[hE];decide),hE],hT.bW (by decide)⟩
  refine ai ?_;refine kY 31 (decide (0<i/\¬oZ (l[i-1]'(by omega)) (l[i]'hil))) (cQ) ?_ ?_
  ·
   intro dW;by_cases hA: (0:Int)<i
   ·
    refine dm (id:=10) (ops:=E1.oz) [] (cQ) [af 0,af 1,af 2,af 3,af 4,af 5,af 6,af 7,af 8,af 9,af 10,af 11,af 12,af 13,af 14,af 15,af 16,af 17,af 18,nn 19,af 20,af 21,af 22] cM (by kernel_rfl) (by kernel_rfl) (by kernel_rfl) ?_;intro eS aJ;have hcs:=aJ;have hR:=ay.refl [] eS (cQ);refine ah 32 3 ?_;refine ax (au 33 (.binOp .gtr 3 (.tmp 32) (.const (.int .i64 0)) 3)) (λ_=>ei (fH rfl rfl) hA) ?_;refine ah 34 33 ?_;refine cg 35 0 2 true (cg 36 3 2 true ?_);refine ax (aI 37 (.binOp .sub 3 (.tmp 36) (.const (.int .i64 1)) 3) 2 true) (λ_=>eD rfl rfl (by omega) (by omega)) ?_;replace hl:=((((hl.t s_1).t s_2).t aD).t aK).t aJ;refine iS (e:=58) (aI 38 (.indexAddr 23 (.tmp 35) (.tmp 37)) 2 true) rfl rfl hl rfl (by kernel_rfl) rfl (by omega) (by omega) ?_;intro Ir Is j4;try simp only[aP] at j4
    have vX:=dJ.ve j4;refine cz 39 58 38 0 0 2 true ?_;refine gu (aI 40 (.load 55 (.tmp 39)) 2 true) rfl rfl (λw' hS=>vX.bF hS) vX (by kernel_rfl) (by kernel_rfl) rfl rfl ?_;intro v40 yl;obtain rfl:=eA.1 yl;refine cg 41 0 2 true (cg 42 3 2 true ?_);refine ax (aI 43 (.binOp .sub 3 (.tmp 42) (.const (.int .i64 1)) 3) 2 true) (λ_=>eD rfl rfl (by omega) (by omega)) ?_;refine iS (e:=58) (aI 44 (.indexAddr 23 (.tmp 41) (.tmp 43)) 2 true) rfl rfl hl rfl (by kernel_rfl) rfl (by omega) (by omega) ?_;intro YR YS jt;try simp only[aP] at jt
    have CH:=dJ.Eh jt;refine cz 45 58 44 1 2 2 true ?_;refine gu (aI 46 (.load 55 (.tmp 45)) 2 true) rfl rfl (λw' hS=>CH.bF hS) CH (by kernel_rfl) (by kernel_rfl) rfl rfl ?_;intro v46 i_;obtain rfl:=eA.1 i_;refine cz 47 58 4 0 0 2 true ?_;replace hx:=((hx.t aD).t aK).t aJ;refine eT (aI 48 (.load 55 (.tmp 47)) 2 true) rfl rfl (λw' hS=>gT (n:=2) (vs:=bE (l[i]'hil).A) (hx.stay hS (by decide)) (by kernel_rfl) (by kernel_rfl) rfl rfl rfl) ?_;refine cz 49 58 4 1 2 2 true ?_;refine eT (aI 50 (.load 55 (.tmp 49)) 2 true) rfl rfl (λw' hS=>gT (n:=2) (vs:=bE (l[i]'hil).B) (hx.stay hS (by decide)) (by kernel_rfl) (by kernel_rfl) rfl rfl rfl) ?_;replace hF:=((hF.st aD).st aK).st aJ;refine iG (aI 51 (.call {callee:=.value (.func 143),args:=#[(.tmp 40),(.tmp 46),(.tmp 48),(.tmp 50)],argTypes:=#[55,55,55,55]}) 2 true) rfl rfl (de Tryz.call143 rfl) (IV (c:=(l[i]'hil).A) (d:=(l[i]'hil).B) hF) ?_;rintro lY w7 ⟨rfl,aR⟩;refine⟨(hR.trans aR (by simp)).ext,?_⟩;refine ax (aI 52 (.binOp .geq 3 (.tmp 51) (.const (.int .i64 0)) 3) 2 true) (λ_=>fB rfl rfl) ?_;refine dD 53 34 52 ?_;refine aC 31 53 ?_;replace hcs:=hcs.t aR;exact aj.nil (dW _ _ _ hcs rfl (by
  have e1: ((i:Int)-1).toNat=i-1:=by omega
  congr 1;apply decide_eq_decide.2;simp only[e1];rw[GK];exact⟨λh=>⟨by omega,h⟩,λh=>h.2⟩) (eZ 23))
   refine dm (id:=10) (ops:=E1.oz) [] (cQ) [af 0,af 1,af 2,af 3,af 4,af 5,af 6,af 7,af 8,af 9,af 10,af 11,af 12,af 13,af 14,af 15,af 16,af 17,af 18,nn 19,af 20,af 21,af 22] cM (by kernel_rfl) (by kernel_rfl) (by kernel_rfl) ?_;intro gp aZ;have hcs:=aZ;have hR:=ay.refl [] gp (cQ);refine ah 32 3 ?_;refine ax (au 33 (.binOp .gtr 3 (.tmp 32) (.const (.int .i64 0)) 3)) (λ_=>fm (fH rfl rfl) hA) ?_;refine ah 34 33 ?_;refine aM 35 2 true (aM 36 2 true (aM 37 2 true (aM 38 2 true (aM 39 2 true (aM 40 2 true (aM 41 2 true (aM 42 2 true (aM 43 2 true (aM 44 2 true (aM 45 2 true (aM 46 2 true ?_)))))))))));refine aM 47 2 true (aM 48 2 true (aM 49 2 true (aM 50 2 true ?_)));refine dz (aI 51 (.call {callee:=.value (.func 143),args:=#[(.tmp 40),(.tmp 46),(.tmp 48),(.tmp 50)],argTypes:=#[55,55,55,55]}) 2 true) rfl rfl hR.ext ?_;refine aM 52 2 true ?_;refine fq 53 34 52 ?_;refine aC 31 53 ?_;exact aj.nil (dW _ _ _ hcs rfl (by rw[decide_eq_false (λe=>hA (by omega))]) (eZ 23))
  intro gM bg;refine bQ 31 rfl (λoC=>?_) (λoC=>?_)
  ·
   refine ai (aq [af 0] ?_);refine aX 2 (.int .i64 12) (aj.nil ?_);refine bP Tryz.func82 Tryz.results82 ?_;rw[if_neg (by simpa using ng),if_neg kS,if_pos oC] at hE;replace hT:=((((hT.t s_1).t s_2).t aD).t aK).t bg;exact⟨by rw[zC hlim hil h0 (by rw[hE];decide),hE],hT.bW (by decide)⟩
  refine bn (bR (bR (aq [af 0,af 1] ?_)));refine cn 54 3 10 1 (ah 10 54 (aj.nil ?_));replace hT:=((((hT.t s_1).t s_2).t aD).t aK).t bg;replace hl:=((((hl.t s_1).t s_2).t aD).t aK).t bg;replace hF:=((hF.st aD).st aK).st bg;refine kp (aV 0 rfl rfl (aV 8 rfl rfl (aV 9 rfl rfl (aV 10 rfl (eq_int (by simp)) (aY _))))) (bN (i+1,cQ) _ ⟨(by first|omega|(simp only;omega)),(λk hk=>by
     simp only at hk;by_cases e:k=i
     ·subst e;rw[hE,if_neg (by simpa using ng),if_neg kS,if_neg oC]
     ·exact h0 k (by omega)),hF,hT,hl⟩ (by first|omega|(simp only;omega)))
 have hil:i=l.length:=by omega
 refine cB 0 ?_;refine ai (aq [af 0] ?_);refine aX 2 (.int .i64 0) (aj.nil ?_);refine bP Tryz.func82 Tryz.results82 ?_;subst hil;exact⟨by rw[GL hlim h0],hT.bW (by decide)⟩
end
end Go.Proofs.YtmdhggfehknjjaaGreat
set_option linter.unusedVariables false
set_option linter.unusedSimpArgs false
set_option maxRecDepth 100000
set_option maxHeartbeats 4000000
namespace Go.Proofs.YtmdhggfehknjjaaGreat
open Go.K Go.K.bu
noncomputable section
namespace E2
def c0:=bZ Tryz.f186
def kr:=(cl (aH (cl (aH (aH c0)))))
def lg:=(cl (cl (cl (aH (cl kr)))))
def jU:=dF lg
def qX:=(aH (cl (cl (aH (cl kr)))))
def vY:=(cl (aH (cl (aH (cl qX)))))
def ux:=(cl (cl (cl (aH (cl vY)))))
def qU:=dF ux
end E2
theorem YT {w₀:World} {C:Nat->Nat} {j:Nat} {v:Value} {xs:List av} (hF:aL w₀ C) (hj:j≠0) (ho:bh w₀ C j 55 v xs) (hlen:xs.length<=140737488355328):
    Calls Tryz.prog 186 #[v] w₀ (bI λu w'=>ay [j] w₀ C w' C/\bh w' C j 55 u (gI xs)/\aL w' C):=by
 have hT:=ay.refl [j] w₀ C;refine bT E2.c0 61 [v] Tryz.func186 ?_;show Run _ _ _ _ [(0,v)] _ _;refine ai (aq [af 0] ?_);refine aX 2 (.slice none 0 0) (aj.nil (ai (ai (aq [af 0,af 1,af 2] ?_))));refine ah 6 0 ?_;refine zE 7 6 52 (ho.bS rfl Tryz.underlying52) ?_;refine ax (au 8 (.binOp .lss 3 (.tmp 7) (.const (.int .i64 2)) 3)) (λ_=>eO rfl rfl) ?_;refine aj.nil ?_;refine bQ 8 rfl (λh8=>?_) (λh8=>?_)
 ·
  have hx:gI xs=xs:=by
    match xs,h8 with
    |[],_=>rfl
    |[a],_=>rfl
    |a::b::l,h=>simp at h;omega
  refine ai (aq [af 0,af 1] ?_);refine ah 9 0 (aC 2 9 (aj.nil ?_));refine bP Tryz.func186 Tryz.results186 ?_;exact⟨hT,by rw[hx];exact ho,hF⟩
 have h2:2<=xs.length:=by omega
 have oD:gI (xs.take 1)=xs.take 1:=by
   obtain⟨a,l,rfl⟩:∃a l,xs=a::l:=by cases xs with|nil=>simp at h2|cons a l=>exact⟨a,l,rfl⟩
   simp[gI]
 refine bn (ai (ai (aq [af 0] ?_)));refine aX 3 (.int .i64 1) ?_;refine aj.nil (bD 0 ?_);refine cK (ι:=Nat) (I:=λx w=>1<=x/\x<=xs.length/\gI (xs.take x)=xs.take x/\aL w C/\ay [j] w₀ C w C/\bh w C j 55 v xs) (e:=λx=>[(0,v),(3,.int .i64 x)]) (m:=λx=>xs.length-x) (cE:=1) (ak 0 (ak 3 (aY _))) ?_ ?_
 · exact⟨Nat.le_refl _,by first|omega|(simp only;omega),oD,hF,hT,ho⟩
 intro k w1 hI bN;obtain⟨nM,hk,hc,hF,hT,ho⟩:=hI;try simp only at nM hk hc hF hT ho
 show Run _ _ _ _ [(0,v),(3,.int .i64 k)] _ _;refine ai (ai (aq [af 0,af 1,af 2,af 3] ?_));refine ah 10 3 (ah 11 0 ?_);refine zE 12 11 52 (ho.bS rfl Tryz.underlying52) ?_;refine c4 13 3 10 12 (aj.nil ?_);refine bQ 13 rfl (λgi=>?_) (λgi=>?_)
 ·
  have aF:k<xs.length:=by omega
  have rY:=Ef nM aF;refine bn (ai (bD 1 (ai ?_)));refine dm (id:=6) (ops:=E2.jU) [] (C) [af 0,af 1,af 2,af 3,af 4,af 5,af 6,af 7,af 8,af 9] cM (by kernel_rfl) (by kernel_rfl) (by kernel_rfl) ?_;intro w2 s_1;refine ah 16 0 (ah 17 3 ?_);replace ho:=ho.t s_1;refine dK 55 18 52 16 17 ho rfl (by first|omega|(simp only[aP];omega)) (h:=?_);intro g18 CJ;try simp only[aP]
  refine nD (I:=[]) (au 19 (.load 55 (.tmp 18))) rfl rfl ho CJ (λw' hS=>ho.bF CJ hS) (by first|omega|(simp only[aP];omega)) (by kernel_rfl) (by kernel_rfl) rfl rfl ?_;intro Ak g19;try simp only[aP] at g19
  refine ah 20 0 (ah 21 3 ?_);refine ax (au 22 (.binOp .sub 3 (.tmp 21) (.const (.int .i64 1)) 3)) (λ_=>eD rfl rfl (by omega) (by omega)) ?_;refine dK 55 23 52 20 22 ho rfl (by first|omega|(simp only[aP];omega)) (h:=?_);intro g23 CK;try simp only[aP]
  refine nD (I:=[]) (au 24 (.load 55 (.tmp 23))) rfl rfl ho CK (λw' hS=>ho.bF CK hS) (by first|omega|(simp only[aP];omega)) (by kernel_rfl) (by kernel_rfl) rfl rfl ?_;intro v24 g24;try simp only[aP] at g24
  obtain rfl:=eA.1 g19;obtain rfl:=eA.1 g24;refine ax (au 25 (.binOp .eql 55 (.tmp 19) (.tmp 24) 55)) (λ_=>xo (a:=_) (b:=_) Tryz.underlying55 (by decide) (by decide) (by kernel_rfl) Tryz.underlying3 rfl rfl) ?_;refine aj.nil ?_;refine bQ 25 rfl (λgB=>?_) (λgB=>?_)
  ·
   have hd:xs[k-1]'(by omega)=xs[k]:=by
     have e: ((k:Int)-1).toNat=k-1:=by omega
     simp only[e] at gB;exact gB.symm
   rw[if_pos hd,hc] at rY;refine ai (aq [af 0,af 1,af 2,af 3] ?_);refine ah 26 0 (ah 27 3 ?_);refine Ec (e':=55) (au 28 (.slice 52 (.tmp 26) (some (.tmp 27)) none none)) rfl rfl ho rfl (by kernel_rfl) rfl (by omega) (by omega) ?_;intro v28 jW;try simp only[aP] at jW
   obtain⟨YU,ni⟩:=ho.Eb (by omega);refine aC 4 28 (aj.nil (ai (ai (aq [af 0] ?_))));refine aX 5 (.int .i64 1) ?_;refine aj.nil (bD 2 ?_);refine cK (ι:=Nat×Nat×(List av)) (I:=λx w=>1<=x.1/\k+x.1<=xs.length/\x.2.2.length=xs.length/\x.2.1+1<=k+x.1/\(∀p (hp:p<xs.length) (hp2:p<x.2.2.length),k+x.1<=p+1->x.2.2[p]=xs[p])/\x.2.2.take x.2.1=gI (xs.take (k+x.1))/\aL w C/\ay [j] w₀ C w C/\bh w C j 55 v x.2.2) (e:=λx=>[(0,v),(3,.int .i64 x.2.1),(4,v28),(5,.int .i64 x.1)]) (m:=λx=>xs.length-k-x.1) (cE:=(1,k,xs)) (ak 0 (ak 3 (ak 4 (ak 5 (aY _))))) ?_ ?_
   ·
     replace hF:=hF.st s_1;replace hT:=hT.t s_1;exact⟨Nat.le_refl _,by first|omega|(simp only;omega),rfl,by first|omega|(simp only;omega),λp _ _ _=>rfl,rY.symm,hF,hT,ho⟩
   intro⟨q,i,ys⟩ w3 hI fk;obtain⟨hq1,hq,ym,hi,hys,nU,hF,hT,ho⟩:=hI;try simp only at hq1 hq ym hi hys nU hF hT ho
   show Run _ _ _ _ [(0,v),(3,.int .i64 i),(4,v28),(5,.int .i64 q)] _ _;refine ai (ai (aq [af 0,af 1,af 2,af 3] ?_));refine ah 29 5 (ah 30 4 ?_);refine zE 31 30 52 (jW.bS rfl Tryz.underlying52) ?_;refine c4 32 3 29 31 (aj.nil ?_);refine bQ 32 rfl (λrZ=>?_) (λrZ=>?_)
   ·
    have eR:k+q<xs.length:=by omega
    have uy:=Ef (l:=xs) (k:=k+q) (by omega) eR;have e1:k+((q:Int)-1).toNat=k+q-1:=by omega
    refine bn (ai (bD 3 (ai ?_)));refine dm (id:=11) (ops:=E2.qU) [] (C) [af 0,af 1,af 2,af 3,af 4,af 5,af 6,af 7,af 8,af 9] cM (by kernel_rfl) (by kernel_rfl) (by kernel_rfl) ?_;intro w4 s_2;refine ah 35 4 (ah 36 5 ?_);refine ax (au 37 (.indexAddr 52 (.tmp 35) (.tmp 36))) (λ_=>zy (e':=55) jW ni (by kernel_rfl) rfl rfl (by omega) (by omega)) ?_;try simp only[aP]
    replace ho:=ho.t s_2;refine nD (I:=[]) (au 38 (.load 55 (.tmp 37))) rfl rfl ho ni (λw' hS=>ho.bF ni hS) (by first|omega|(simp only[aP];omega)) (by kernel_rfl) (by kernel_rfl) rfl rfl ?_;intro OB vV;try simp only[aP] at vV
    refine ah 39 4 (ah 40 5 ?_);refine ax (au 41 (.binOp .sub 3 (.tmp 40) (.const (.int .i64 1)) 3)) (λ_=>eD rfl rfl (by omega) (by omega)) ?_;refine ax (au 42 (.indexAddr 52 (.tmp 39) (.tmp 41))) (λ_=>zy (e':=55) jW ni (by kernel_rfl) rfl rfl (by omega) (by omega)) ?_;try simp only[aP]
    refine nD (I:=[]) (au 43 (.load 55 (.tmp 42))) rfl rfl ho ni (λw' hS=>ho.bF ni hS) (by first|omega|(simp only[aP];omega)) (by kernel_rfl) (by kernel_rfl) rfl rfl ?_;intro YV Ao;try simp only[aP] at Ao
    obtain rfl:=eA.1 vV;obtain rfl:=eA.1 Ao;refine ax (au 44 (.binOp .neq 55 (.tmp 38) (.tmp 43) 55)) (λ_=>GD (a:=_) (b:=_) Tryz.underlying55 (by decide) (by decide) (by kernel_rfl) Tryz.underlying3 rfl rfl) ?_;refine aj.nil ?_;refine bQ 44 rfl (λjt=>?_) (λjt=>?_)
    ·
     have r1:=hys (k+q) (by omega) (by omega) (by omega);have r2:=hys (k+q-1) (by omega) (by omega) (by omega);have hd:¬xs[k+q-1]'(by omega)=xs[k+q]:=by
       simp only[e1,r1,r2] at jt;exact λe=>jt e.symm
     rw[if_neg hd,<-nU] at uy;refine ai (aq [af 0,af 1,af 2,af 3,af 4,nn 5,af 6,nn 7] ?_);refine ah 45 0 (ah 46 3 (ah 47 4 (ah 48 5 ?_)));refine ax (au 49 (.indexAddr 52 (.tmp 47) (.tmp 48))) (λ_=>zy (e':=55) jW ni (by kernel_rfl) rfl rfl (by omega) (by omega)) ?_;try simp only[aP]
     refine lJ (au 50 (.load 55 (.tmp 49))) rfl rfl trivial ho ni (by first|omega|(simp only[aP];omega)) (by kernel_rfl) (by kernel_rfl) rfl rfl ?_;intro v50 fF;try simp only[aP] at fF
     refine dK 55 51 52 45 46 ho rfl (by first|omega|(simp only[aP];omega)) (h:=?_);intro pM ku;try simp only[aP]
     refine cq (k0 (.store 55 (.tmp 51) (.tmp 50))) rfl (gw ho ku (by first|omega|(simp only[aP];omega)) rfl rfl (by kernel_rfl) fF) ?_;rintro _ dZ ⟨rfl,aD,ho⟩;replace hT:=hT.t s_2;replace hT:=hT.trans aD (by simp<;>omega);refine aj.nil (aq [af 0,af 1,af 2] ?_);refine ah 52 3 ?_;refine cn 53 3 52 1 (aC 3 53 (aj.nil (bR (aq [af 0,af 1,af 2] ?_))));refine ah 33 5 ?_;refine cn 34 3 33 1 (aC 5 34 (aj.nil ?_));replace hF:=(hF.st s_2).st aD;refine kp (ak 0 (aV 3 rfl (eq_int (by simp)) (ak 4 (aV 5 rfl (eq_int (by simp)) (aY _))))) (fk (q+1,i+1,ys.set i ys[k+q]) _ ⟨(by first|omega|(simp only;omega)),(by first|omega|(simp only;omega)),(by simp only[List.length_set];exact ym),(by first|omega|(simp only;omega)),(λp hp hp2 h=>by simp only[List.getElem_set];rw[if_neg (by omega)];exact hys p hp (by omega) (by omega)),(by simp only;rw[List.take_succ_eq_append_getElem (by rw[List.length_set];omega),List.take_set_of_le (Nat.le_refl i),List.getElem_set_self,r1];exact uy.symm),hF,hT,ho⟩ (by first|omega|(simp only;omega)))
    have r1:=hys (k+q) (by omega) (by omega) (by omega);have r2:=hys (k+q-1) (by omega) (by omega) (by omega);have hd:xs[k+q-1]'(by omega)=xs[k+q]:=by
      simp only[e1,r1,r2] at jt;exact(Classical.not_not.1 jt).symm
    rw[if_pos hd,<-nU] at uy;refine bn (bR (aq [af 0,af 1,af 2] ?_));refine ah 33 5 ?_;refine cn 34 3 33 1 (aC 5 34 (aj.nil ?_));replace hF:=hF.st s_2;replace hT:=hT.t s_2;refine kp (ak 0 (ak 3 (ak 4 (aV 5 rfl (eq_int (by simp)) (aY _))))) (fk (q+1,i,ys) _ ⟨(by first|omega|(simp only;omega)),(by first|omega|(simp only;omega)),(by first|omega|(simp only;omega)),(by first|omega|(simp only;omega)),(λp hp hp2 h=>hys p hp hp2 (by simp only at h;omega)),uy.symm,hF,hT,ho⟩ (by first|omega|(simp only;omega)))
   have eR:k+q=xs.length:=by omega
   rw[eR,List.take_length] at nU;refine cB 2 ?_;refine ai (aq [af 0,af 1,af 2,nn 3] ?_);refine ah 54 0 (ah 55 3 ?_);refine Ec (e':=55) (au 56 (.slice 52 (.tmp 54) (some (.tmp 55)) none none)) rfl rfl ho rfl (by kernel_rfl) rfl (by omega) (by omega) ?_;intro IX pN;try simp only[aP] at pN
   obtain⟨YW,YX⟩:=ho.Eb (by omega);refine cq (k0 (.call {callee:=.builtin .clear,args:=#[(.tmp 56)],argTypes:=#[52]})) rfl (LG (x0:=(⟨0,0⟩:av)) (zs:=[.int .i64 0,.int .i64 0]) ho pN (by omega) (by omega) Tryz.underlying52 (by kernel_rfl) (λh M=>UJ) rfl) ?_;rintro _ wc ⟨aK,ho⟩;replace hT:=hT.trans aK (by simp<;>omega);refine aj.nil (ai (aq [af 0,af 1,af 2,af 3] ?_));refine ah 57 0 (ah 58 3 ?_);have YY: (ys.take i++List.replicate (ys.length-i) (⟨0,0⟩:av)).length=xs.length:=by simp;omega
   refine Gx (e':=55) (au 59 (.slice 52 (.tmp 57) none (some (.tmp 58)) none)) rfl rfl ho rfl (by kernel_rfl) rfl (by omega) (by omega) (by omega) ?_;intro v59 qY;try simp only[aP] at qY
   refine aC 2 59 (aj.nil ?_);refine bP Tryz.func186 Tryz.results186 ?_;rw[List.take_left' (by rw[List.length_take];omega),nU] at qY;replace hF:=hF.st aK;exact⟨hT,qY,hF⟩
  have hd:¬xs[k-1]'(by omega)=xs[k]:=by
    have e: ((k:Int)-1).toNat=k-1:=by omega
    simp only[e] at gB;exact λe=>gB e.symm
  rw[if_neg hd,hc,<-List.take_succ_eq_append_getElem aF] at rY;refine bn (bR (aq [af 0,af 1,af 2] ?_));refine ah 14 3 ?_;refine cn 15 3 14 1 (aC 3 15 (aj.nil ?_));replace hF:=hF.st s_1;replace hT:=hT.t s_1;refine kp (ak 0 (aV 3 rfl (eq_int (by simp)) (aY _))) (bN (k+1) _ ⟨(by first|omega|(simp only;omega)),(by first|omega|(simp only;omega)),rY,hF,hT,ho⟩ (by first|omega|(simp only;omega)))
 have aF:k=xs.length:=by omega
 subst aF;rw[List.take_length] at hc;refine cB 0 ?_;refine ai (aq [af 0,af 1] ?_);refine ah 60 0 (aC 2 60 (aj.nil ?_));refine bP Tryz.func186 Tryz.results186 ?_;rw[hc];exact⟨hT,ho,hF⟩
namespace O1
def c0:=bZ Tryz.f130
end O1
theorem Ap {w₀:World} {C:Nat->Nat} {l:List a_} {aG:Value} (hF:aL w₀ C) (hl:aB w₀ (aA C) l aG) (hlen:l.length<=100000):Calls Tryz.prog 130 #[aG] w₀ (bI λv w'=>ay [] w₀ C w' C/\aB w' (aA C) (aO l) v):=by
 have bH:=hF;have hT:=z9 w₀ C;replace hF:=hF.bq;replace hl:=hl.c1;refine bT O1.c0 24 [aG] Tryz.func130 ?_;show Run _ _ _ _ [(0,aG)] _ _;refine ai (aq [af 0] ?_);refine aX 2 (.slice none 0 0) (aj.nil (ai (aq [af 0] ?_)));refine aX 3 (.slice none 0 0) (aj.nil (ai (ai (aq [af 0,af 1,af 2] ?_))));refine ah 6 0 ?_;refine zE 7 6 23 (hl.bS rfl Tryz.underlying23) ?_;refine eE 8 (.int .i64 0) ?_;refine aj.nil (bD 0 ?_);refine cK (ι:=Nat×Value×(Nat->Nat)) (I:=λx w=>x.1<=l.length/\aL w x.2.2/\ay [2,3,4,5,6,7,8,9] w₀ (bq C) w x.2.2/\aB w (aA x.2.2) l aG/\bh w x.2.2 3 55 x.2.1 (kM (l.take x.1))) (e:=λx=>[(3,x.2.1),(6,aG),(7,.int .i64 l.length),(8,.int .i64 x.1)]) (m:=λx=>l.length-x.1) (cE:=(0,.slice none 0 0,bq C)) (ak 3 (ak 6 (ak 7 (ak 8 (aY _))))) ?_ ?_
 · exact⟨Nat.zero_le _,hF,hT,hl,bh.nil⟩
 intro⟨i,dU,aW⟩ w1 hI bN;obtain⟨hi,hF,hT,hl,ho⟩:=hI;try simp only at hi hF hT hl ho
 show Run _ _ _ _ [(3,dU),(6,aG),(7,.int .i64 l.length),(8,.int .i64 i)] _ _;have hel:=BQ (l.take i);rw[List.length_take] at hel;refine ai (aq [af 0] ?_);refine c4 9 3 8 7 (aj.nil (ai ?_));refine bQ 9 rfl (λfV=>?_) (λfV=>?_)
 ·
  have hil:i<l.length:=by omega
  refine bn (ai (bD 1 (ai (aq [af 0,nn 1,nn 2,nn 3] ?_))));refine c5 58 10 23 6 8 hl rfl (h:=?_);intro OG oz jm;try simp only[aP] at jm
  refine iH (au 11 (.load 58 (.tmp 10))) rfl rfl trivial jm (by kernel_rfl) (by kernel_rfl) rfl rfl ?_;intro v11 g11;obtain rfl:=jy.1 g11;refine bG (au 5 (.alloc 58)) rfl rfl (ec (cs:=[.int .i64 0,.int .i64 0,.int .i64 0,.int .i64 0,.int .i64 0]) hF 4 (by kernel_rfl)) ?_;rintro _ w2 ⟨cQ,ek,rfl,s_1,hx,hF⟩;refine cq (k0 (.store 58 (.tmp 5) (.tmp 11))) rfl (dX (vs:=ic (l[i]'hil)) (n:=5) rfl rfl (by kernel_rfl) rfl rfl (gx rfl) hx rfl) ?_;rintro _ w3 ⟨rfl,s_2,hx⟩;refine aj.nil (aq [af 0,af 1,nn 2,af 3,nn 4,nn 5,nn 6,af 7] ?_);refine ah 12 3 (bp 13 58 5 0 0 ?_);refine cA 14 55 13 2 (bE (l[i]'hil).A) hx.at_ ?_;refine bp 15 58 5 1 2 ?_;refine cA 16 55 15 2 (bE (l[i]'hil).B) hx.at_ ?_;replace hF:=hF.st s_2;refine bG (au 17 (.buildSlice 52 2 #[(0,(.tmp 14)),(1,(.tmp 16))])) rfl rfl (f_ (ys:=([(l[i]'hil).A,(l[i]'hil).B]:List av)) (e:=55) (bytes:=16) hF (by kernel_rfl) rfl (by decide) (by decide) ⟨rfl,⟨_,rfl,eA.2 rfl⟩,rfl,⟨_,rfl,eA.2 rfl⟩,trivial⟩) ?_;rintro v17 w4 ⟨aD,g17,hF⟩;replace ho:=((ho.t s_1).t s_2).t aD;refine bG (au 18 (.call {callee:=.builtin .append,args:=#[(.tmp 12),(.tmp 17)],argTypes:=#[52,52]})) rfl rfl (gl (e:=55) (bytes:=16) hF (by decide) rfl rfl (by kernel_rfl) (by decide) ho g17 (by simp only[List.length_cons,List.length_nil];omega) (by simp only[List.length_cons,List.length_nil];omega)) ?_;rintro O2 dZ ⟨oA,aK,ho,hF⟩;refine aC 3 18 (aj.nil (bR (aq [af 0,af 1] ?_)));refine cn 19 3 8 1 (ah 8 19 (aj.nil ?_));replace hT:=(((hT.t s_1).t s_2).t aD).t aK;replace hl:=(((hl.t s_1).t s_2).t aD).t aK;refine kp (ak 3 (ak 6 (ak 7 (aV 8 rfl (eq_int (by simp)) (aY _))))) (bN (i+1,O2,oA) _ ⟨(by first|omega|(simp only;omega)),hF,hT,hl,(by simp only;rw[L3 hil];exact ho)⟩ (by first|omega|(simp only;omega)))
 have hil:i=l.length:=by omega
 subst hil;rw[List.take_length] at ho;refine cB 0 ?_;refine ai (aq [af 0,nn 1] ?_);refine ah 20 3 ?_;refine dN (au 21 (.call {callee:=.value (.func 185),args:=#[(.tmp 20),(.func 53)],argTypes:=#[52,107]})) rfl rfl (de Tryz.call185 rfl) (OW hF ho (by rw[BQ];omega)) ?_;rintro nR eS ⟨rfl,aJ,ho,_⟩;refine aj.nil (ai (aq [af 0,nn 1,af 2] ?_));refine ah 22 3 ?_;replace hF:=hF.st aJ;refine bU 23 186 [22] [52] Tryz.call186 rfl (YT hF (by decide) ho (by rw[(u_ _).length_eq,BQ];omega)) ?_;rintro lY w7 ⟨aR,ho,_⟩;refine aC 2 23 (aj.nil ?_);refine bP Tryz.func130 Tryz.results130 ?_;replace hT:=(hT.t aJ).t aR;exact⟨hT.bW (by decide),ho.out hT bH (ez C) (λb _=>h_ C (by decide) b) (by have:=tO l;unfold aO at this;omega)⟩
end
end Go.Proofs.YtmdhggfehknjjaaGreat
