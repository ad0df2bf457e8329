/- Steps through functions of the program. -/
import Derived.Test.YtdmgmlmlielfbaaGreatJD1D3
import Derived.Test.YtdmgmlmlielfbaaGreatL1
import Derived.Test.YtdmgmlmlielfbaaGreatShelf
set_option linter.unusedVariables false
set_option linter.unusedSimpArgs false
set_option maxRecDepth 100000
set_option maxHeartbeats 4000000
namespace Go.Proofs.YtdmgmlmlielfbaaGreat
open Go.K Go.K.bg
noncomputable section
namespace K0
def c0:=cz Tryz.f96
end K0
theorem Fz {w₀:World} {M:Nat->Prop} {l:List Int} {aF:Value} (hl:aG w₀ M l aF):Calls Tryz.prog 96 #[aF] w₀ (bM λv w'=>v=.int .i64 (ij l)/\w'=w₀):=by
 refine ct K0.c0 18 [aF] Tryz.func96 ?_;show Run _ _ _ _ [(0,aF)] _ _;refine aj (aq [af 0] ?_);refine aR 2 (.int .i64 0) (ai.nil (aj (aq [af 0] ?_)));refine aR 3 (.int .i64 0) (ai.nil (aj (aj (aq [af 0,af 1,af 2] ?_))));refine ah 6 0 ?_;refine zE 7 6 22 (hl.b8 rfl Tryz.underlying22) ?_;refine ig 8 (.int .i64 0) ?_;refine ai.nil (bF 0 ?_);refine cM (ι:=Nat) (I:=λx w=>x<=l.length/\w=w₀/\ij (l.drop x)=ij l) (e:=λx=>[(3,.int .i64 0),(6,aF),(7,.int .i64 l.length),(8,.int .i64 x)]) (m:=λx=>l.length-x) (cD:=0) (ak 3 (ak 6 (ak 7 (ak 8 (aY _))))) ?_ ?_
 · exact⟨Nat.zero_le _,rfl,rfl⟩
 intro i w1 hI next
 obtain⟨hi,rfl,ho⟩:=hI;have tE:=hl.le;refine aj (aq [af 0] ?_);refine dm 9 3 8 7 (ai.nil (aj ?_));refine bI 9 rfl (λe7=>?_) (λe7=>?_)
 ·
  have hil:i<l.length:=by omega
  rw[R9 hil] at ho;refine bk (aj (bF 1 (aj (aq [af 0,nn 1,af 2] ?_))));refine cq 3 10 22 6 8 hl rfl (h:=?_);intro SF mg jm;try simp only[aI] at jm
  refine jt (au 11 (.load 3 (.tmp 10))) rfl rfl trivial jm (by kernel_rfl) rfl rfl ?_;intro v11 g11;first|(obtain rfl:=jr.1 g11)|(obtain rfl:=gN.1 g11)
  refine aD 5 11 (ai.nil (aj (aq [af 0,af 1,af 2] ?_)));refine ah 12 5 (ah 13 3 ?_);refine ax (au 14 (.binOp .neq 3 (.tmp 12) (.tmp 13) 3)) (λ_=>gH rfl rfl) ?_;refine ai.nil ?_;refine bI 14 rfl (λer=>?_) (λer=>?_)
  ·
   rw[if_neg er] at ho;refine aj (aq [af 0,af 1] ?_);refine ah 15 5 (aD 2 15 (ai.nil ?_));refine bN Tryz.func96 Tryz.results96 ?_;exact⟨by rw[ho],rfl⟩
  have er:l[i]=0:=by simpa using er
  rw[if_pos er] at ho;refine bk (bS (aq [af 0,af 1] ?_));refine bZ 16 3 8 1 (ah 8 16 (ai.nil ?_));refine kp ?_ (next (i+1) _ ⟨by omega,rfl,ho⟩ (by omega));exact ak 3 (ak 6 (ak 7 (aL 8 rfl (eq_int (by simp)) (aY _))))
 have hil:i=l.length:=by omega
 refine cA 0 ?_;refine aj (aq [af 0,af 1] ?_);refine ah 17 3 (aD 2 17 (ai.nil ?_));refine bN Tryz.func96 Tryz.results96 ?_;subst hil;rw[List.drop_length] at ho;exact⟨by rw[<-ho];rfl,rfl⟩
namespace K1
def c0:=cz Tryz.f116
end K1
theorem K2 (x:Int) (w:World):Calls Tryz.prog 116 #[.int .i64 x] w (bM λv w'=>v=.bool false/\w'=w):=by
 refine ct K1.c0 6 [.int .i64 x] Tryz.func116 ?_;show Run _ _ _ _ [(0,.int .i64 x)] _ _;refine aj (aq [af 0] ?_);refine aR 2 (.bool false) (ai.nil (aj (aq [af 0,af 1,af 2,af 3] ?_)));refine ah 3 0 (ah 4 0 ?_);refine ax (au 5 (.binOp .neq 3 (.tmp 3) (.tmp 4) 3)) (λ_=>gH rfl rfl) ?_;refine aD 2 5 (ai.nil ?_);refine bN Tryz.func116 Tryz.results116 ?_;exact⟨by simp,rfl⟩
namespace K3
def c0:=cz Tryz.f76
end K3
theorem Au (x y:Int) (w:World):Calls Tryz.prog 76 #[.int .i64 x,.int .i64 y] w (bM λv w'=>v=.int .i64 (jZ x y)/\w'=w):=by
 refine ct K3.c0 20 [.int .i64 x,.int .i64 y] Tryz.func76 ?_;show Run _ _ _ _ [(0,.int .i64 x),(1,.int .i64 y)] _ _;refine aj (aq [af 0] ?_);refine aR 4 (.int .i64 0) (ai.nil (aj (aq [af 0,nn 1,af 2] ?_)));refine ah 7 0 ?_;refine bU 8 116 [7] [3] Tryz.call116 rfl (K2 _ _) ?_;rintro j3 w1 ⟨rfl,rfl⟩;refine aD 5 8 (ai.nil (aj (aq [af 0,nn 1,af 2] ?_)));refine ah 9 1 ?_;refine bU 10 116 [9] [3] Tryz.call116 rfl (K2 _ _) ?_;rintro kz w2 ⟨rfl,rfl⟩;refine aD 6 10 (ai.nil (aj (aj (aq [af 0] ?_))));refine ah 11 5 ?_;refine ai.nil (gD 11 (bk (aj (aj (aq [af 0] ?_)))));refine ah 13 6 ?_;refine ai.nil (gD 13 (bk (aj (aj (aq [af 0,af 1,af 2] ?_)))));refine ah 14 0 (ah 15 1 ?_);refine dm 16 3 14 15 (ai.nil ?_);refine bI 16 rfl (λdK=>?_) (λdK=>?_)
 ·
  refine aj (aq [af 0] ?_);refine ax (au 4 (.assign (.const (.int .i64 (-1))))) (λ_=>nJ rfl) ?_;refine ai.nil ?_;refine bN Tryz.func76 Tryz.results76 ?_;exact⟨eq_int (by unfold jZ;split<;>(try split)<;>omega),rfl⟩
 refine bk (aj (aj (aq [af 0,af 1,af 2] ?_)));refine ah 17 0 (ah 18 1 ?_);refine ax (au 19 (.binOp .gtr 3 (.tmp 17) (.tmp 18) 3)) (λ_=>fq rfl rfl) ?_;refine ai.nil ?_;refine bI 19 rfl (λnr=>?_) (λnr=>?_)
 ·
  refine aj (aq [af 0] ?_);refine aR 4 (.int .i64 1) (ai.nil ?_);refine bN Tryz.func76 Tryz.results76 ?_;exact⟨eq_int (by unfold jZ;split<;>(try split)<;>omega),rfl⟩
 refine bk (aj (aq [af 0] ?_));refine aR 4 (.int .i64 0) (ai.nil ?_);refine bN Tryz.func76 Tryz.results76 ?_;exact⟨eq_int (by unfold jZ;split<;>(try split)<;>omega),rfl⟩
namespace FA
def c0:=cz Tryz.f55
def o1:=dy (cl (aJ c0))
end FA
theorem wA {w₀:World} {C:Nat->Nat} {x y:av} (hF:aM w₀ C):Calls Tryz.prog 55 #[.agg #[.int .i64 x.a,.int .i64 x.b],.agg #[.int .i64 y.a,.int .i64 y.b]] w₀ (bM λv w'=>v=.int .i64 (jJ x y)/\ay [] w₀ C w' C):=by
 have bp:=hF;have hT:=z9 w₀ C;replace hF:=hF.bE;refine ct FA.c0 17 [.agg #[.int .i64 x.a,.int .i64 x.b],.agg #[.int .i64 y.a,.int .i64 y.b]] Tryz.func55 ?_;show Run _ _ _ _ [(0,.agg #[.int .i64 x.a,.int .i64 x.b]),(1,.agg #[.int .i64 y.a,.int .i64 y.b])] _ _;refine aj (aq [nn 0,nn 1,af 2] ?_);refine bT (au 2 (.box 47 (.tmp 0))) rfl rfl (eU (cs:=[.int .i64 x.a,.int .i64 x.b]) hF 3 rfl rfl) ?_;rintro _ w1 ⟨eu,c4,rfl,s_1,hx,hF⟩;refine bT (au 3 (.box 47 (.tmp 1))) rfl rfl (eU (cs:=[.int .i64 y.a,.int .i64 y.b]) hF 3 rfl rfl) ?_;rintro _ w2 ⟨dM,fW,rfl,s_2,hy,hF⟩;refine aR 4 (.int .i64 0) (ai.nil (aj ?_));refine cw (id:=1) (ops:=FA.o1) [] (dM) [af 0,af 1,af 2,af 3,af 5,af 6,af 7,af 8,nn 4,nn 9,nn 10,nn 11,af 12] cm (by kernel_rfl) (by kernel_rfl) (by kernel_rfl) ?_;intro w3 aH;have hR:=ay.refl [] w3 (dM);refine bD 5 47 2 0 0 ?_;replace hx:=(hx.t s_2).t aH;refine gM 6 3 5 (hx.bu ·) ?_;refine bD 7 47 3 0 0 ?_;replace hy:=hy.t aH;refine gM 8 3 7 (hy.bu ·) ?_;refine bD 10 47 2 1 1 ?_;refine gM 11 3 10 (hx.bu ·) ?_;refine bD 12 47 3 1 1 ?_;refine gM 13 3 12 (hy.bu ·) ?_;refine dI 9 76 [6,8] [3,3] Tryz.call76 rfl (Au _ _ _) ?_;rintro j4 w4 ⟨rfl,rfl⟩;refine⟨hR.ext,?_⟩;refine dI 14 76 [11,13] [3,3] Tryz.call76 rfl (Au _ _ _) ?_;rintro ox ew ⟨rfl,rfl⟩;refine⟨hR.ext,?_⟩;replace hF:=hF.st aH;refine gi (au 15 (.buildSlice 22 2 #[(0,(.tmp 9)),(1,(.tmp 14))])) rfl rfl (fI (ys:=([jZ x.a y.a,jZ x.b y.b]:List Int)) (e:=3) (bytes:=8) hF (by kernel_rfl) rfl (by decide) (by decide) ⟨rfl,⟨_,rfl,gN.2 rfl⟩,rfl,⟨_,rfl,gN.2 rfl⟩,trivial⟩) ?_;rintro tF fh ⟨aV,g15,hF⟩;refine⟨(hR.trans aV (by simp)).ext,?_⟩;refine dI 16 96 [15] [22] Tryz.call96 rfl (Fz g15) ?_;rintro mM w7 ⟨rfl,rfl⟩;replace hR:=hR.t aV;refine⟨hR.ext,?_⟩;refine aD 4 16 (ai.nil ?_);refine bN Tryz.func55 Tryz.results55 ?_;replace hT:=(((hT.t s_1).t s_2).t aH).t aV;exact⟨rfl,hT.bW (by decide)⟩
theorem CZ (x y:av):Go.Proofs.ltOf jJ x y=!nL y x:=by unfold nL Go.Proofs.ltOf;simp
theorem SG:Go.Sort.SWO (Go.Proofs.ltOf jJ) where
 irrefl x:=by rw[CZ];simp[uL]
 trans x y z h h':=by
  rw[CZ] at*;simp only[Bool.not_eq_true',Bool.eq_false_iff,ne_eq,uL] at*;omega
 ntrans x y z h h':=by
  rw[CZ] at*;simp only[Bool.not_eq_false',uL] at*;omega
theorem SH (x y:av) (h:Go.Proofs.ltOf jJ x y=false) (h':Go.Proofs.ltOf jJ y x=false):x=y:=by
 rw[CZ] at h h';simp only[Bool.not_eq_false'] at h h';exact Ff x y h' h
theorem K4 {w:World} {C:Nat->Nat} {j:Nat} {v:Value} {ys:List av} (hF:aM w C) (ho:bn w C j 47 v ys) (hlen:ys.length<=140737488355328):
  Calls Tryz.prog 113 #[v,.func (.func 55) #[] #[]] w (bM λu w'=>u=.tuple #[]/\ay [j] w C w' C/\bn w' C j 47 v (iq ys)/\aM w' C):=
 Sq (enc:=Kv) (cf:=jJ) Go.Proofs.Tryz.sortCouple (λw=>Tryz.isAgg47 w) (λw=>Tryz.sizeOf47 w)
  (λh M x vs=>⟨λhr=>by obtain⟨us,ws,rfl,h1,h2⟩:=hr;rw[show us=[.int .i64 x.a] from h1,show ws=[.int .i64 x.b] from h2];rfl,λhr=>by subst hr;exact⟨[.int .i64 x.a],[.int .i64 x.b],rfl,rfl,rfl⟩⟩)
  (λx=>rfl) (by decide) (λx u hu=>by simp only[Kv,List.mem_cons,List.not_mem_nil,or_false] at hu;rcases hu with rfl|rfl<;>rfl) SG SH (λargs w=>Tryz.call55 args w)
  (λW x y=>(wA (C:=λ_=>0) (λb hb=>absurd rfl hb)).mono (by rintro e w' ⟨u,rfl,rfl,hs⟩;exact⟨_,rfl,rfl,hs.ext.mono (λb _ hb=>by simp at hb)⟩)) hF ho hlen
namespace K5
def c0:=cz Tryz.f145
end K5
theorem Av {w₀:World} {C:Nat->Nat} {x:av} (hF:aM w₀ C):Calls Tryz.prog 145 #[.agg #[.int .i64 x.a,.int .i64 x.b]] w₀ (bM λv w'=>v=.bool (lP x)/\ay [] w₀ C w' C):=by
 have bp:=hF;have hT:=z9 w₀ C;replace hF:=hF.bE;refine ct K5.c0 21 [.agg #[.int .i64 x.a,.int .i64 x.b]] Tryz.func145 ?_;show Run _ _ _ _ [(0,.agg #[.int .i64 x.a,.int .i64 x.b])] _ _;refine aj (aq [nn 0,af 1] ?_);refine bT (au 1 (.box 47 (.tmp 0))) rfl rfl (eU (cs:=[.int .i64 x.a,.int .i64 x.b]) hF 3 rfl rfl) ?_;rintro _ w1 ⟨eu,c4,rfl,s_1,hx,hF⟩;refine aR 2 (.bool false) (ai.nil ?_);refine kp (ak 1 (aY _)) ?_;refine aj ?_;refine kV 2 (lP x) (eu) ?_ ?_
 ·
  intro dn;by_cases hA:0<=x.a
  ·
   by_cases hB:x.a<4
   ·
    by_cases hC:1<=x.b
    ·
     refine aq [af 0,nn 1,af 2,af 3,af 4,nn 5,af 6,af 7,af 8,af 9,nn 10,af 11,af 12,af 13,af 14,nn 15,af 16,af 17,af 18] ?_;refine bD 3 47 1 0 0 ?_;refine dL 4 3 3 hx.at_ rfl rfl ?_;refine ax (au 5 (.binOp .geq 3 (.tmp 4) (.const (.int .i64 0)) 3)) (λ_=>dc (e6 rfl rfl) hA) ?_;refine ah 6 5 ?_;refine cW 7 47 1 0 0 3 true ?_;refine gP 8 3 7 3 true hx.at_ ?_;refine ax (aA 9 (.binOp .lss 3 (.tmp 8) (.const (.int .i64 4)) 3) 3 true) (λ_=>dc (eX rfl rfl) hB) ?_;refine en 10 6 9 ?_;refine ah 11 10 ?_;refine cW 12 47 1 1 1 8 true ?_;refine gP 13 3 12 8 true hx.at_ ?_;refine ax (aA 14 (.binOp .geq 3 (.tmp 13) (.const (.int .i64 1)) 3) 8 true) (λ_=>dc (e6 rfl rfl) hC) ?_;refine en 15 11 14 ?_;refine ah 16 15 ?_;refine cW 17 47 1 1 1 13 true ?_;refine gP 18 3 17 13 true hx.at_ ?_;refine ax (aA 19 (.binOp .leq 3 (.tmp 18) (.const (.int .i64 1048576)) 3) 13 true) (λ_=>pM rfl rfl) ?_;refine en 20 16 19 ?_;refine aD 2 20 ?_;exact ai.nil (dn _ _ _ (ay.refl _ _ _) rfl (by unfold lP;rw[decide_eq_true hA,decide_eq_true hB,decide_eq_true hC];rfl) (ec 19))
    refine aq [af 0,nn 1,af 2,af 3,af 4,nn 5,af 6,af 7,af 8,af 9,nn 10,af 11,af 12,af 13,af 14,nn 15,af 16,af 17,af 18] ?_;refine bD 3 47 1 0 0 ?_;refine dL 4 3 3 hx.at_ rfl rfl ?_;refine ax (au 5 (.binOp .geq 3 (.tmp 4) (.const (.int .i64 0)) 3)) (λ_=>dc (e6 rfl rfl) hA) ?_;refine ah 6 5 ?_;refine cW 7 47 1 0 0 3 true ?_;refine gP 8 3 7 3 true hx.at_ ?_;refine ax (aA 9 (.binOp .lss 3 (.tmp 8) (.const (.int .i64 4)) 3) 3 true) (λ_=>dc (eX rfl rfl) hB) ?_;refine en 10 6 9 ?_;refine ah 11 10 ?_;refine cW 12 47 1 1 1 8 true ?_;refine gP 13 3 12 8 true hx.at_ ?_;refine ax (aA 14 (.binOp .geq 3 (.tmp 13) (.const (.int .i64 1)) 3) 8 true) (λ_=>di (e6 rfl rfl) hC) ?_;refine en 15 11 14 ?_;refine ah 16 15 ?_;refine aC 17 13 true ?_;refine c9 (aA 18 (.load 3 (.tmp 17)) 13 true) rfl rfl trivial ?_;refine aC 19 13 true ?_;refine gl 20 16 19 ?_;refine aD 2 20 ?_;exact ai.nil (dn _ _ _ (ay.refl _ _ _) rfl (by unfold lP;rw[decide_eq_true hA,decide_eq_true hB,decide_eq_false hC];rfl) (ec 19))
   refine aq [af 0,nn 1,af 2,af 3,af 4,nn 5,af 6,af 7,af 8,af 9,nn 10,af 11,af 12,af 13,af 14,nn 15,af 16,af 17,af 18] ?_;refine bD 3 47 1 0 0 ?_;refine dL 4 3 3 hx.at_ rfl rfl ?_;refine ax (au 5 (.binOp .geq 3 (.tmp 4) (.const (.int .i64 0)) 3)) (λ_=>dc (e6 rfl rfl) hA) ?_;refine ah 6 5 ?_;refine cW 7 47 1 0 0 3 true ?_;refine gP 8 3 7 3 true hx.at_ ?_;refine ax (aA 9 (.binOp .lss 3 (.tmp 8) (.const (.int .i64 4)) 3) 3 true) (λ_=>di (eX rfl rfl) hB) ?_;refine en 10 6 9 ?_;refine ah 11 10 ?_;refine aC 12 8 true ?_;refine c9 (aA 13 (.load 3 (.tmp 12)) 8 true) rfl rfl trivial ?_;refine aC 14 8 true ?_;refine gl 15 11 14 ?_;refine ah 16 15 ?_;refine aC 17 13 true ?_;refine c9 (aA 18 (.load 3 (.tmp 17)) 13 true) rfl rfl trivial ?_;refine aC 19 13 true ?_;refine gl 20 16 19 ?_;refine aD 2 20 ?_;exact ai.nil (dn _ _ _ (ay.refl _ _ _) rfl (by unfold lP;rw[decide_eq_true hA,decide_eq_false hB];rfl) (ec 19))
  refine aq [af 0,nn 1,af 2,af 3,af 4,nn 5,af 6,af 7,af 8,af 9,nn 10,af 11,af 12,af 13,af 14,nn 15,af 16,af 17,af 18] ?_;refine bD 3 47 1 0 0 ?_;refine dL 4 3 3 hx.at_ rfl rfl ?_;refine ax (au 5 (.binOp .geq 3 (.tmp 4) (.const (.int .i64 0)) 3)) (λ_=>di (e6 rfl rfl) hA) ?_;refine ah 6 5 ?_;refine aC 7 3 true ?_;refine c9 (aA 8 (.load 3 (.tmp 7)) 3 true) rfl rfl trivial ?_;refine aC 9 3 true ?_;refine gl 10 6 9 ?_;refine ah 11 10 ?_;refine aC 12 8 true ?_;refine c9 (aA 13 (.load 3 (.tmp 12)) 8 true) rfl rfl trivial ?_;refine aC 14 8 true ?_;refine gl 15 11 14 ?_;refine ah 16 15 ?_;refine aC 17 13 true ?_;refine c9 (aA 18 (.load 3 (.tmp 17)) 13 true) rfl rfl trivial ?_;refine aC 19 13 true ?_;refine gl 20 16 19 ?_;refine aD 2 20 ?_;exact ai.nil (dn _ _ _ (ay.refl _ _ _) rfl (by unfold lP;rw[decide_eq_false hA];rfl) (ec 19))
 intro w2 s_2;refine bN Tryz.func145 Tryz.results145 ?_;replace hT:=(hT.t s_1).t s_2;exact⟨rfl,hT.bW (by decide)⟩
namespace K6
def c0:=cz Tryz.f121
end K6
theorem qy {w₀:World} {C:Nat->Nat} {x:av} (hF:aM w₀ C):Calls Tryz.prog 121 #[.agg #[.int .i64 x.a,.int .i64 x.b]] w₀ (bM λv w'=>v=.bool (lP x)/\ay [] w₀ C w' C):=by
 have bp:=hF;have hT:=z9 w₀ C;replace hF:=hF.bE;refine ct K6.c0 21 [.agg #[.int .i64 x.a,.int .i64 x.b]] Tryz.func121 ?_;show Run _ _ _ _ [(0,.agg #[.int .i64 x.a,.int .i64 x.b])] _ _;refine aj (aq [nn 0,af 1] ?_);refine bT (au 1 (.box 47 (.tmp 0))) rfl rfl (eU (cs:=[.int .i64 x.a,.int .i64 x.b]) hF 3 rfl rfl) ?_;rintro _ w1 ⟨eu,c4,rfl,s_1,hx,hF⟩;refine aR 2 (.bool false) (ai.nil ?_);refine kp (ak 1 (aY _)) ?_;refine aj ?_;refine kV 2 (lP x) (eu) ?_ ?_
 ·
  intro dn;by_cases hA:0<=x.a
  ·
   by_cases hB:x.a<4
   ·
    by_cases hC:1<=x.b
    ·
     refine aq [af 0,nn 1,af 2,af 3,af 4,nn 5,af 6,af 7,af 8,af 9,nn 10,af 11,af 12,af 13,af 14,nn 15,af 16,af 17,af 18] ?_;refine bD 3 47 1 0 0 ?_;refine dL 4 3 3 hx.at_ rfl rfl ?_;refine ax (au 5 (.binOp .geq 3 (.tmp 4) (.const (.int .i64 0)) 3)) (λ_=>dc (e6 rfl rfl) hA) ?_;refine ah 6 5 ?_;refine cW 7 47 1 0 0 3 true ?_;refine gP 8 3 7 3 true hx.at_ ?_;refine ax (aA 9 (.binOp .lss 3 (.tmp 8) (.const (.int .i64 4)) 3) 3 true) (λ_=>dc (eX rfl rfl) hB) ?_;refine en 10 6 9 ?_;refine ah 11 10 ?_;refine cW 12 47 1 1 1 8 true ?_;refine gP 13 3 12 8 true hx.at_ ?_;refine ax (aA 14 (.binOp .geq 3 (.tmp 13) (.const (.int .i64 1)) 3) 8 true) (λ_=>dc (e6 rfl rfl) hC) ?_;refine en 15 11 14 ?_;refine ah 16 15 ?_;refine cW 17 47 1 1 1 13 true ?_;refine gP 18 3 17 13 true hx.at_ ?_;refine ax (aA 19 (.binOp .leq 3 (.tmp 18) (.const (.int .i64 1048576)) 3) 13 true) (λ_=>pM rfl rfl) ?_;refine en 20 16 19 ?_;refine aD 2 20 ?_;exact ai.nil (dn _ _ _ (ay.refl _ _ _) rfl (by unfold lP;rw[decide_eq_true hA,decide_eq_true hB,decide_eq_true hC];rfl) (ec 19))
    refine aq [af 0,nn 1,af 2,af 3,af 4,nn 5,af 6,af 7,af 8,af 9,nn 10,af 11,af 12,af 13,af 14,nn 15,af 16,af 17,af 18] ?_;refine bD 3 47 1 0 0 ?_;refine dL 4 3 3 hx.at_ rfl rfl ?_;refine ax (au 5 (.binOp .geq 3 (.tmp 4) (.const (.int .i64 0)) 3)) (λ_=>dc (e6 rfl rfl) hA) ?_;refine ah 6 5 ?_;refine cW 7 47 1 0 0 3 true ?_;refine gP 8 3 7 3 true hx.at_ ?_;refine ax (aA 9 (.binOp .lss 3 (.tmp 8) (.const (.int .i64 4)) 3) 3 true) (λ_=>dc (eX rfl rfl) hB) ?_;refine en 10 6 9 ?_;refine ah 11 10 ?_;refine cW 12 47 1 1 1 8 true ?_;refine gP 13 3 12 8 true hx.at_ ?_;refine ax (aA 14 (.binOp .geq 3 (.tmp 13) (.const (.int .i64 1)) 3) 8 true) (λ_=>di (e6 rfl rfl) hC) ?_;refine en 15 11 14 ?_;refine ah 16 15 ?_;refine aC 17 13 true ?_;refine c9 (aA 18 (.load 3 (.tmp 17)) 13 true) rfl rfl trivial ?_;refine aC 19 13 true ?_;refine gl 20 16 19 ?_;refine aD 2 20 ?_;exact ai.nil (dn _ _ _ (ay.refl _ _ _) rfl (by unfold lP;rw[decide_eq_true hA,decide_eq_true hB,decide_eq_false hC];rfl) (ec 19))
   refine aq [af 0,nn 1,af 2,af 3,af 4,nn 5,af 6,af 7,af 8,af 9,nn 10,af 11,af 12,af 13,af 14,nn 15,af 16,af 17,af 18] ?_;refine bD 3 47 1 0 0 ?_;refine dL 4 3 3 hx.at_ rfl rfl ?_;refine ax (au 5 (.binOp .geq 3 (.tmp 4) (.const (.int .i64 0)) 3)) (λ_=>dc (e6 rfl rfl) hA) ?_;refine ah 6 5 ?_;refine cW 7 47 1 0 0 3 true ?_;refine gP 8 3 7 3 true hx.at_ ?_;refine ax (aA 9 (.binOp .lss 3 (.tmp 8) (.const (.int .i64 4)) 3) 3 true) (λ_=>di (eX rfl rfl) hB) ?_;refine en 10 6 9 ?_;refine ah 11 10 ?_;refine aC 12 8 true ?_;refine c9 (aA 13 (.load 3 (.tmp 12)) 8 true) rfl rfl trivial ?_;refine aC 14 8 true ?_;refine gl 15 11 14 ?_;refine ah 16 15 ?_;refine aC 17 13 true ?_;refine c9 (aA 18 (.load 3 (.tmp 17)) 13 true) rfl rfl trivial ?_;refine aC 19 13 true ?_;refine gl 20 16 19 ?_;refine aD 2 20 ?_;exact ai.nil (dn _ _ _ (ay.refl _ _ _) rfl (by unfold lP;rw[decide_eq_true hA,decide_eq_false hB];rfl) (ec 19))
  refine aq [af 0,nn 1,af 2,af 3,af 4,nn 5,af 6,af 7,af 8,af 9,nn 10,af 11,af 12,af 13,af 14,nn 15,af 16,af 17,af 18] ?_;refine bD 3 47 1 0 0 ?_;refine dL 4 3 3 hx.at_ rfl rfl ?_;refine ax (au 5 (.binOp .geq 3 (.tmp 4) (.const (.int .i64 0)) 3)) (λ_=>di (e6 rfl rfl) hA) ?_;refine ah 6 5 ?_;refine aC 7 3 true ?_;refine c9 (aA 8 (.load 3 (.tmp 7)) 3 true) rfl rfl trivial ?_;refine aC 9 3 true ?_;refine gl 10 6 9 ?_;refine ah 11 10 ?_;refine aC 12 8 true ?_;refine c9 (aA 13 (.load 3 (.tmp 12)) 8 true) rfl rfl trivial ?_;refine aC 14 8 true ?_;refine gl 15 11 14 ?_;refine ah 16 15 ?_;refine aC 17 13 true ?_;refine c9 (aA 18 (.load 3 (.tmp 17)) 13 true) rfl rfl trivial ?_;refine aC 19 13 true ?_;refine gl 20 16 19 ?_;refine aD 2 20 ?_;exact ai.nil (dn _ _ _ (ay.refl _ _ _) rfl (by unfold lP;rw[decide_eq_false hA];rfl) (ec 19))
 intro w2 s_2;refine bN Tryz.func121 Tryz.results121 ?_;replace hT:=(hT.t s_1).t s_2;exact⟨rfl,hT.bW (by decide)⟩
namespace K7
def c0:=cz Tryz.f129
end K7
theorem K8 {w₀:World} {C:Nat->Nat} {x y:av} (hF:aM w₀ C):Calls Tryz.prog 129 #[.agg #[.int .i64 x.a,.int .i64 x.b],.agg #[.int .i64 y.a,.int .i64 y.b]] w₀ (bM λv w'=>v=.bool (iZ x y)/\ay [] w₀ C w' C):=by
 have bp:=hF;have hT:=z9 w₀ C;replace hF:=hF.bE;refine ct K7.c0 18 [.agg #[.int .i64 x.a,.int .i64 x.b],.agg #[.int .i64 y.a,.int .i64 y.b]] Tryz.func129 ?_;show Run _ _ _ _ [(0,.agg #[.int .i64 x.a,.int .i64 x.b]),(1,.agg #[.int .i64 y.a,.int .i64 y.b])] _ _;refine aj (aq [nn 0,nn 1,af 2] ?_);refine bT (au 2 (.box 47 (.tmp 0))) rfl rfl (eU (cs:=[.int .i64 x.a,.int .i64 x.b]) hF 3 rfl rfl) ?_;rintro _ w1 ⟨eu,c4,rfl,s_1,hx,hF⟩;refine bT (au 3 (.box 47 (.tmp 1))) rfl rfl (eU (cs:=[.int .i64 y.a,.int .i64 y.b]) hF 3 rfl rfl) ?_;rintro _ w2 ⟨dM,fW,rfl,s_2,hy,hF⟩;refine aR 4 (.bool false) (ai.nil ?_);refine kp (ak 2 (ak 3 (aY _))) ?_;refine aj ?_;refine kV 4 (iZ x y) (dM) ?_ ?_
 ·
  intro dn;by_cases hA:lP x=true
  ·
   by_cases hB:lP y=true
   ·
    refine aq [nn 0,nn 1,af 2,nn 3,nn 4,af 5,af 6,af 7,nn 8,af 9,nn 10,af 11,af 12,af 13] ?_;have hcs:=ay.mJ hF;replace hx:=hx.t s_2;refine jH (au 5 (.load 47 (.tmp 2))) rfl rfl trivial (eL (n:=2) hx.at_ (by kernel_rfl) (by kernel_rfl) rfl rfl rfl) ?_;refine bU 6 145 [5] [47] Tryz.call145 rfl (Av hF) ?_;rintro lq w3 ⟨rfl,aH⟩;rw[hA];refine ah 7 6 ?_;replace hy:=hy.t aH;refine jH (aA 8 (.load 47 (.tmp 3)) 2 true) rfl rfl trivial (eL (n:=2) hy.at_ (by kernel_rfl) (by kernel_rfl) rfl rfl rfl) ?_;replace hF:=hF.st aH;refine dY (aA 9 (.call {callee:=.value (.func 145),args:=#[(.tmp 8)],argTypes:=#[47]}) 2 true) rfl rfl (cL Tryz.call145 rfl) (Av hF) ?_;rintro j4 w4 ⟨rfl,aV⟩;rw[hB];refine en 10 7 9 ?_;refine ah 11 10 ?_;refine cW 12 47 2 0 0 6 true ?_;replace hx:=(hx.t aH).t aV;refine gP 13 3 12 6 true hx.at_ ?_;refine cW 14 47 3 0 0 6 true ?_;replace hy:=hy.t aV;refine gP 15 3 14 6 true hy.at_ ?_;refine ax (aA 16 (.binOp .lss 3 (.tmp 13) (.tmp 15) 3) 6 true) (λ_=>eX rfl rfl) ?_;refine en 17 11 16 ?_;refine aD 4 17 ?_;replace hcs:=(hcs.t aH).t aV;exact ai.nil (dn _ _ _ hcs rfl (by unfold iZ;rw[hA,hB];rfl) (ec 14))
   refine aq [nn 0,nn 1,af 2,nn 3,nn 4,af 5,af 6,af 7,nn 8,af 9,nn 10,af 11,af 12,af 13] ?_;have hcs:=ay.mJ hF;replace hx:=hx.t s_2;refine jH (au 5 (.load 47 (.tmp 2))) rfl rfl trivial (eL (n:=2) hx.at_ (by kernel_rfl) (by kernel_rfl) rfl rfl rfl) ?_;refine bU 6 145 [5] [47] Tryz.call145 rfl (Av hF) ?_;rintro ox ew ⟨rfl,aQ⟩;rw[hA];refine ah 7 6 ?_;replace hy:=hy.t aQ;refine jH (aA 8 (.load 47 (.tmp 3)) 2 true) rfl rfl trivial (eL (n:=2) hy.at_ (by kernel_rfl) (by kernel_rfl) rfl rfl rfl) ?_;replace hF:=hF.st aQ;refine dY (aA 9 (.call {callee:=.value (.func 145),args:=#[(.tmp 8)],argTypes:=#[47]}) 2 true) rfl rfl (cL Tryz.call145 rfl) (Av hF) ?_;rintro mh fh ⟨rfl,bh⟩;rw[Bool.eq_false_iff.2 hB];refine en 10 7 9 ?_;refine ah 11 10 ?_;refine aC 12 6 true ?_;refine c9 (aA 13 (.load 3 (.tmp 12)) 6 true) rfl rfl trivial ?_;refine aC 14 6 true ?_;refine c9 (aA 15 (.load 3 (.tmp 14)) 6 true) rfl rfl trivial ?_;refine aC 16 6 true ?_;refine gl 17 11 16 ?_;refine aD 4 17 ?_;replace hcs:=(hcs.t aQ).t bh;exact ai.nil (dn _ _ _ hcs rfl (by unfold iZ;rw[hA,Bool.eq_false_iff.2 hB];simp) (ec 14))
  refine aq [nn 0,nn 1,af 2,nn 3,nn 4,af 5,af 6,af 7,nn 8,af 9,nn 10,af 11,af 12,af 13] ?_;have hcs:=ay.mJ hF;replace hx:=hx.t s_2;refine jH (au 5 (.load 47 (.tmp 2))) rfl rfl trivial (eL (n:=2) hx.at_ (by kernel_rfl) (by kernel_rfl) rfl rfl rfl) ?_;refine bU 6 145 [5] [47] Tryz.call145 rfl (Av hF) ?_;rintro mM w7 ⟨rfl,bq⟩;rw[Bool.eq_false_iff.2 hA];refine ah 7 6 ?_;refine c9 (aA 8 (.load 47 (.tmp 3)) 2 true) rfl rfl trivial ?_;refine c9 (aA 9 (.call {callee:=.value (.func 145),args:=#[(.tmp 8)],argTypes:=#[47]}) 2 true) rfl rfl trivial ?_;refine gl 10 7 9 ?_;refine ah 11 10 ?_;refine aC 12 6 true ?_;refine c9 (aA 13 (.load 3 (.tmp 12)) 6 true) rfl rfl trivial ?_;refine aC 14 6 true ?_;refine c9 (aA 15 (.load 3 (.tmp 14)) 6 true) rfl rfl trivial ?_;refine aC 16 6 true ?_;refine gl 17 11 16 ?_;refine aD 4 17 ?_;replace hcs:=hcs.t bq;exact ai.nil (dn _ _ _ hcs rfl (by unfold iZ;rw[Bool.eq_false_iff.2 hA];simp) (ec 14))
 intro fR br;refine bN Tryz.func129 Tryz.results129 ?_;replace hT:=((hT.t s_1).t s_2).t br;exact⟨rfl,hT.bW (by decide)⟩
namespace FB
def c0:=cz Tryz.f130
def o1:=dy (cl (aJ c0))
end FB
theorem K9 {w₀:World} {C:Nat->Nat} {a b c d:av} (hF:aM w₀ C):Calls Tryz.prog 130 #[.agg #[.int .i64 a.a,.int .i64 a.b],.agg #[.int .i64 b.a,.int .i64 b.b],.agg #[.int .i64 c.a,.int .i64 c.b],.agg #[.int .i64 d.a,.int .i64 d.b]] w₀ (bM λv w'=>v=.int .i64 (ru a b c d)/\ay [] w₀ C w' C):=by
 have bp:=hF;have hT:=z9 w₀ C;replace hF:=hF.bE;refine ct FB.c0 17 [.agg #[.int .i64 a.a,.int .i64 a.b],.agg #[.int .i64 b.a,.int .i64 b.b],.agg #[.int .i64 c.a,.int .i64 c.b],.agg #[.int .i64 d.a,.int .i64 d.b]] Tryz.func130 ?_;show Run _ _ _ _ [(0,.agg #[.int .i64 a.a,.int .i64 a.b]),(1,.agg #[.int .i64 b.a,.int .i64 b.b]),(2,.agg #[.int .i64 c.a,.int .i64 c.b]),(3,.agg #[.int .i64 d.a,.int .i64 d.b])] _ _;refine aj (aq [nn 0,nn 1,nn 2,nn 3,af 4] ?_);refine bT (au 4 (.box 47 (.tmp 0))) rfl rfl (eU (cs:=[.int .i64 a.a,.int .i64 a.b]) hF 3 rfl rfl) ?_;rintro _ w1 ⟨eu,c4,rfl,s_1,ha,hF⟩;refine bT (au 5 (.box 47 (.tmp 1))) rfl rfl (eU (cs:=[.int .i64 b.a,.int .i64 b.b]) hF 3 rfl rfl) ?_;rintro _ w2 ⟨dM,fW,rfl,s_2,hb,hF⟩;refine bT (au 6 (.box 47 (.tmp 2))) rfl rfl (eU (cs:=[.int .i64 c.a,.int .i64 c.b]) hF 3 rfl rfl) ?_;rintro _ w3 ⟨nM,pZ,rfl,aH,hc,hF⟩;refine bT (au 7 (.box 47 (.tmp 3))) rfl rfl (eU (cs:=[.int .i64 d.a,.int .i64 d.b]) hF 3 rfl rfl) ?_;rintro _ w4 ⟨gw,rC,rfl,aV,hd,hF⟩;refine aR 8 (.int .i64 0) (ai.nil (aj ?_));refine cw (id:=1) (ops:=FB.o1) [] (gw) [af 0,af 1,af 3,af 4,nn 2,nn 5,nn 6,nn 7,af 8] cm (by kernel_rfl) (by kernel_rfl) (by kernel_rfl) ?_;intro ew aQ;have hR:=ay.refl [] ew (gw);replace ha:=(((ha.t s_2).t aH).t aV).t aQ;refine dH (au 9 (.load 47 (.tmp 4))) rfl rfl (λw' hS=>eL (n:=2) (ha.stay hS (by decide)) (by kernel_rfl) (by kernel_rfl) rfl rfl rfl) ?_;replace hc:=(hc.t aV).t aQ;refine dH (au 10 (.load 47 (.tmp 6))) rfl rfl (λw' hS=>eL (n:=2) (hc.stay hS (by decide)) (by kernel_rfl) (by kernel_rfl) rfl rfl rfl) ?_;replace hb:=((hb.t aH).t aV).t aQ;refine dH (au 12 (.load 47 (.tmp 5))) rfl rfl (λw' hS=>eL (n:=2) (hb.stay hS (by decide)) (by kernel_rfl) (by kernel_rfl) rfl rfl rfl) ?_;replace hd:=hd.t aQ
 refine dH (au 13 (.load 47 (.tmp 7))) rfl rfl (λw' hS=>eL (n:=2) (hd.stay hS (by decide)) (by kernel_rfl) (by kernel_rfl) rfl rfl rfl) ?_;replace hF:=hF.st aQ;refine dI 11 55 [9,10] [47,47] Tryz.call55 rfl (wA hF) ?_;rintro mh fh ⟨rfl,bh⟩;refine⟨(hR.trans bh (by simp)).ext,?_⟩;replace hF:=hF.st bh;refine dI 14 55 [12,13] [47,47] Tryz.call55 rfl (wA hF) ?_;rintro mM w7 ⟨rfl,bq⟩;replace hR:=hR.t bh;refine⟨(hR.trans bq (by simp)).ext,?_⟩;replace hF:=hF.st bq;refine gi (au 15 (.buildSlice 22 2 #[(0,(.tmp 11)),(1,(.tmp 14))])) rfl rfl (fI (ys:=([jJ a c,jJ b d]:List Int)) (e:=3) (bytes:=8) hF (by kernel_rfl) rfl (by decide) (by decide) ⟨rfl,⟨_,rfl,gN.2 rfl⟩,rfl,⟨_,rfl,gN.2 rfl⟩,trivial⟩) ?_;rintro tF fR ⟨br,g15,hF⟩;replace hR:=hR.t bq;refine⟨(hR.trans br (by simp)).ext,?_⟩;refine dI 16 96 [15] [22] Tryz.call96 rfl (Fz g15) ?_;rintro wB gC ⟨rfl,rfl⟩;replace hR:=hR.t br;refine⟨hR.ext,?_⟩;refine aD 8 16 (ai.nil ?_);refine bN Tryz.func130 Tryz.results130 ?_;replace hT:=(((((((hT.t s_1).t s_2).t aH).t aV).t aQ).t bh).t bq).t br;exact⟨rfl,hT.bW (by decide)⟩
end
end Go.Proofs.YtdmgmlmlielfbaaGreat
set_option linter.unusedVariables false
set_option linter.unusedSimpArgs false
set_option maxRecDepth 100000
set_option maxHeartbeats 4000000
namespace Go.Proofs.YtdmgmlmlielfbaaGreat
open Go.K Go.K.bg
noncomputable section
namespace C8
def c0:=cz Tryz.f92
def nt:=(cl (aJ (cl (aJ (aJ c0)))))
def uQ:=(cl (cl (aJ (aJ (cl nt)))))
def rD:=(aJ (aJ (aJ (cl (aJ uQ)))))
def mg:=dy (cl (aJ rD))
end C8
theorem FC {w₀:World} {C:Nat->Nat} {l:List aO} {aF:Value} (hF:aM w₀ C) (hl:aG w₀ (aB C) l aF):Calls Tryz.prog 92 #[aF] w₀ (bM λv w'=>v=.int .i64 (gQ l)/\ay [] w₀ C w' C):=by
 have bp:=hF;have hT:=z9 w₀ C;replace hF:=hF.bE;replace hl:=hl.c1;refine ct C8.c0 55 [aF] Tryz.func92 ?_;show Run _ _ _ _ [(0,aF)] _ _;refine aj (aq [af 0] ?_);refine aR 2 (.int .i64 0) (ai.nil (aj (aj (aq [af 0,af 1,af 2] ?_))));refine ah 5 0 ?_;refine zE 6 5 23 (hl.b8 rfl Tryz.underlying23) ?_;refine ax (au 7 (.binOp .gtr 3 (.tmp 6) (.const (.int .i64 4096)) 3)) (λ_=>fq rfl rfl) ?_;refine ai.nil ?_;refine bI 7 rfl (λh7=>?_) (λh7=>?_)
 ·
  refine aj (aq [af 0] ?_);refine aR 2 (.int .i64 1) (ai.nil ?_);refine bN Tryz.func92 Tryz.results92 ?_;exact⟨by rw[KA (by omega)],hT.bW (by decide)⟩
 have hlim:l.length<=4096:=by omega
 refine bk (aj (aj (aq [af 0,af 1,af 2] ?_)));refine ah 8 0 ?_;refine zE 9 8 23 (hl.b8 rfl Tryz.underlying23) ?_;refine ig 10 (.int .i64 0) ?_;refine ai.nil (bF 0 ?_);refine cM (ι:=Nat×(Nat->Nat)) (I:=λx w=>x.1<=l.length/\(∀k,k<x.1->ry l k=0)/\aM w x.2/\ay [2,3,4,5,6,7,8,9] w₀ (bE C) w x.2/\aG w (aB x.2) l aF) (e:=λx=>[(0,aF),(8,aF),(9,.int .i64 l.length),(10,.int .i64 x.1)]) (m:=λx=>l.length-x.1) (cD:=(0,bE C)) (ak 0 (ak 8 (ak 9 (ak 10 (aY _))))) ?_ ?_
 · exact⟨Nat.zero_le _,λk hk=>by simp at hk,hF,hT,hl⟩
 intro⟨i,bC⟩ w1 hI cn;obtain⟨hi,h0,hF,hT,hl⟩:=hI;try simp only at hi h0 hF hT hl
 show Run _ _ _ _ [(0,aF),(8,aF),(9,.int .i64 l.length),(10,.int .i64 i)] _ _;refine aj (aq [af 0] ?_);refine dm 11 3 10 9 (ai.nil (aj ?_));refine bI 11 rfl (λkY=>?_) (λkY=>?_)
 ·
  have hil:i<l.length:=by omega
  have hE:=Fk hil;refine bk (aj (bF 1 (aj (aq [af 0,af 1,nn 2,nn 3,af 4,nn 5] ?_))));refine ah 12 10 ?_;refine cq 49 13 23 8 10 hl rfl (h:=?_);intro C9 ye iu;try simp only[aI] at iu
  refine ku (au 14 (.load 49 (.tmp 13))) rfl rfl trivial iu (by kernel_rfl) (by kernel_rfl) rfl rfl ?_;intro yf g14;obtain rfl:=jK.1 g14;refine bT (au 4 (.alloc 49)) rfl rfl (gJ (cs:=[.int .i64 0,.int .i64 0,.int .i64 0,.int .i64 0,.int .i64 0]) hF 4 (by kernel_rfl)) ?_;rintro _ w2 ⟨dM,fW,rfl,s_1,hx,hF⟩;refine aD 3 12 ?_;refine cE (k0 (.store 49 (.tmp 4) (.tmp 14))) rfl (gB (vs:=j0 (l[i]'hil)) (n:=5) rfl rfl (by kernel_rfl) rfl rfl (g_ rfl) hx rfl) ?_;rintro _ w3 ⟨rfl,s_2,hx⟩;refine ai.nil (bF 2 (aj (aq [af 0,nn 1,af 2,nn 3,nn 4,af 5,af 6] ?_)));refine bD 16 49 4 0 0 ?_;refine dz 17 47 16 2 (aZ (l[i]'hil).A) hx.at_ ?_;refine bD 18 49 4 1 2 ?_;refine dz 19 47 18 2 (aZ (l[i]'hil).B) hx.at_ ?_;replace hF:=hF.st s_2;refine bU 20 129 [17,19] [47,47] Tryz.call129 rfl (K8 (x:=(l[i]'hil).A) (y:=(l[i]'hil).B) hF) ?_;rintro j4 w4 ⟨rfl,aH⟩;refine ax (au 21 (.unOp .not 4 (.tmp 20))) (λ_=>dF rfl) ?_;refine aD 15 21 (ai.nil ?_);refine iL 15 rfl (λgW=>?_) (λgW=>?_)
  ·
   refine aj (aq [af 0] ?_);refine aR 2 (.int .i64 41) (ai.nil ?_);refine bN Tryz.func92 Tryz.results92 ?_;rw[if_pos (by simpa using gW)] at hE;replace hT:=((hT.t s_1).t s_2).t aH;exact⟨by rw[x8 hlim hil h0 (by rw[hE];decide),hE],hT.bW (by decide)⟩
  refine aj ?_;refine kV 22 (decide ((l[i]'hil).w<1\/1048576<(l[i]'hil).w)) (dM) ?_ ?_
  ·
   intro dn;by_cases hA: (l[i]'hil).w<1
   ·
    refine aq [af 0,nn 1,af 2,af 3,af 4,nn 5,af 6,af 7,af 8] ?_;refine bD 23 49 4 2 4 ?_;replace hx:=hx.t aH;refine dL 24 3 23 hx.at_ rfl rfl ?_;refine ax (au 25 (.binOp .lss 3 (.tmp 24) (.const (.int .i64 1)) 3)) (λ_=>dc (eX rfl rfl) hA) ?_;refine ah 26 25 ?_;refine aC 27 3 false ?_;refine c9 (aA 28 (.load 3 (.tmp 27)) 3 false) rfl rfl trivial ?_;refine aC 29 3 false ?_;refine iM 30 26 29 ?_;refine aD 22 30 ?_;exact ai.nil (dn _ _ _ (ay.refl _ _ _) rfl (by rw[decide_eq_true (Or.inl hA)]) (ec 9))
   refine aq [af 0,nn 1,af 2,af 3,af 4,nn 5,af 6,af 7,af 8] ?_;refine bD 23 49 4 2 4 ?_;replace hx:=hx.t aH;refine dL 24 3 23 hx.at_ rfl rfl ?_;refine ax (au 25 (.binOp .lss 3 (.tmp 24) (.const (.int .i64 1)) 3)) (λ_=>di (eX rfl rfl) hA) ?_;refine ah 26 25 ?_;refine cW 27 49 4 2 4 3 false ?_;refine gP 28 3 27 3 false hx.at_ ?_;refine ax (aA 29 (.binOp .gtr 3 (.tmp 28) (.const (.int .i64 1048576)) 3) 3 false) (λ_=>fq rfl rfl) ?_;refine eo 30 26 29 ?_;refine aD 22 30 ?_;exact ai.nil (dn _ _ _ (ay.refl _ _ _) rfl (by congr 1;apply decide_eq_decide.2;omega) (ec 9))
  intro ew aV;refine bI 22 rfl (λgT=>?_) (λgT=>?_)
  ·
   refine aj (aq [af 0] ?_);refine aR 2 (.int .i64 40) (ai.nil ?_);refine bN Tryz.func92 Tryz.results92 ?_;rw[if_neg (by simpa using gW),if_pos gT] at hE;replace hT:=(((hT.t s_1).t s_2).t aH).t aV;exact⟨by rw[x8 hlim hil h0 (by rw[hE];decide),hE],hT.bW (by decide)⟩
  refine aj ?_;refine kV 31 (decide (0<i/\¬jL (l[i-1]'(by omega)) (l[i]'hil))) (dM) ?_ ?_
  ·
   intro dn;by_cases hA: (0:Int)<i
   ·
    refine cw (id:=10) (ops:=C8.mg) [] (dM) [af 0,af 1,af 2,af 3,af 4,af 5,af 6,af 7,af 8,af 9,af 10,af 11,af 12,af 13,af 14,af 15,af 16,af 17,af 18,nn 19,af 20,af 21,af 22] cm (by kernel_rfl) (by kernel_rfl) (by kernel_rfl) ?_;intro fh aQ;have hcs:=aQ;have hR:=ay.refl [] fh (dM);refine ah 32 3 ?_;refine ax (au 33 (.binOp .gtr 3 (.tmp 32) (.const (.int .i64 0)) 3)) (λ_=>dc (fq rfl rfl) hA) ?_;refine ah 34 33 ?_;refine aX 35 0 2 true (aX 36 3 2 true ?_);refine ax (aA 37 (.binOp .sub 3 (.tmp 36) (.const (.int .i64 1)) 3) 2 true) (λ_=>fu rfl rfl (by omega) (by omega)) ?_;replace hl:=((((hl.t s_1).t s_2).t aH).t aV).t aQ;refine iS (e:=49) (aA 38 (.indexAddr 23 (.tmp 35) (.tmp 37)) 2 true) rfl rfl hl rfl (by kernel_rfl) rfl (by omega) (by omega) ?_;intro K_ La oW;try simp only[aI] at oW
    have hU:=bP.kH oW;refine cW 39 49 38 0 0 2 true ?_;refine cB (aA 40 (.load 47 (.tmp 39)) 2 true) rfl rfl (λw' hS=>hU.bu hS) hU (by kernel_rfl) (by kernel_rfl) rfl rfl ?_;intro v40 fZ;obtain rfl:=bY.1 fZ;refine aX 41 0 2 true (aX 42 3 2 true ?_);refine ax (aA 43 (.binOp .sub 3 (.tmp 42) (.const (.int .i64 1)) 3) 2 true) (λ_=>fu rfl rfl (by omega) (by omega)) ?_;refine iS (e:=49) (aA 44 (.indexAddr 23 (.tmp 41) (.tmp 43)) 2 true) rfl rfl hl rfl (by kernel_rfl) rfl (by omega) (by omega) ?_;intro Z_ yy jO;try simp only[aI] at jO
    have wC:=bP.nj jO;refine cW 45 49 44 1 2 2 true ?_;refine cB (aA 46 (.load 47 (.tmp 45)) 2 true) rfl rfl (λw' hS=>wC.bu hS) wC (by kernel_rfl) (by kernel_rfl) rfl rfl ?_;intro v46 sw;obtain rfl:=bY.1 sw;refine cW 47 49 4 0 0 2 true ?_;replace hx:=((hx.t aH).t aV).t aQ;refine dH (aA 48 (.load 47 (.tmp 47)) 2 true) rfl rfl (λw' hS=>eL (n:=2) (vs:=aZ (l[i]'hil).A) (hx.stay hS (by decide)) (by kernel_rfl) (by kernel_rfl) rfl rfl rfl) ?_;refine cW 49 49 4 1 2 2 true ?_;refine dH (aA 50 (.load 47 (.tmp 49)) 2 true) rfl rfl (λw' hS=>eL (n:=2) (vs:=aZ (l[i]'hil).B) (hx.stay hS (by decide)) (by kernel_rfl) (by kernel_rfl) rfl rfl rfl) ?_;replace hF:=((hF.st aH).st aV).st aQ;refine gO (aA 51 (.call {callee:=.value (.func 130),args:=#[(.tmp 40),(.tmp 46),(.tmp 48),(.tmp 50)],argTypes:=#[47,47,47,47]}) 2 true) rfl rfl (cL Tryz.call130 rfl) (K9 (c:=(l[i]'hil).A) (d:=(l[i]'hil).B) hF) ?_;rintro mM w7 ⟨rfl,bh⟩;refine⟨(hR.trans bh (by simp)).ext,?_⟩;refine ax (aA 52 (.binOp .geq 3 (.tmp 51) (.const (.int .i64 0)) 3) 2 true) (λ_=>e6 rfl rfl) ?_;refine en 53 34 52 ?_;refine aD 31 53 ?_;replace hcs:=hcs.t bh;exact ai.nil (dn _ _ _ hcs rfl (by
  have e1: ((i:Int)-1).toNat=i-1:=by omega
  congr 1;apply decide_eq_decide.2;simp only[e1];rw[Sf];exact⟨λh=>⟨by omega,h⟩,λh=>h.2⟩) (ec 23))
   refine cw (id:=10) (ops:=C8.mg) [] (dM) [af 0,af 1,af 2,af 3,af 4,af 5,af 6,af 7,af 8,af 9,af 10,af 11,af 12,af 13,af 14,af 15,af 16,af 17,af 18,nn 19,af 20,af 21,af 22] cm (by kernel_rfl) (by kernel_rfl) (by kernel_rfl) ?_;intro fR bq;have hcs:=bq;have hR:=ay.refl [] fR (dM);refine ah 32 3 ?_;refine ax (au 33 (.binOp .gtr 3 (.tmp 32) (.const (.int .i64 0)) 3)) (λ_=>di (fq rfl rfl) hA) ?_;refine ah 34 33 ?_;refine aC 35 2 true (aC 36 2 true (aC 37 2 true (aC 38 2 true (aC 39 2 true (aC 40 2 true (aC 41 2 true (aC 42 2 true (aC 43 2 true (aC 44 2 true (aC 45 2 true (aC 46 2 true ?_)))))))))));refine aC 47 2 true (aC 48 2 true (aC 49 2 true (aC 50 2 true ?_)));refine c9 (aA 51 (.call {callee:=.value (.func 130),args:=#[(.tmp 40),(.tmp 46),(.tmp 48),(.tmp 50)],argTypes:=#[47,47,47,47]}) 2 true) rfl rfl hR.ext ?_;refine aC 52 2 true ?_;refine gl 53 34 52 ?_;refine aD 31 53 ?_;exact ai.nil (dn _ _ _ hcs rfl (by rw[decide_eq_false (λe=>hA (by omega))]) (ec 23))
  intro gC br;refine bI 31 rfl (λmN=>?_) (λmN=>?_)
  ·
   refine aj (aq [af 0] ?_);refine aR 2 (.int .i64 12) (ai.nil ?_);refine bN Tryz.func92 Tryz.results92 ?_;rw[if_neg (by simpa using gW),if_neg gT,if_pos mN] at hE;replace hT:=((((hT.t s_1).t s_2).t aH).t aV).t br;exact⟨by rw[x8 hlim hil h0 (by rw[hE];decide),hE],hT.bW (by decide)⟩
  refine bk (bS (bS (aq [af 0,af 1] ?_)));refine bZ 54 3 10 1 (ah 10 54 (ai.nil ?_));replace hT:=((((hT.t s_1).t s_2).t aH).t aV).t br;replace hl:=((((hl.t s_1).t s_2).t aH).t aV).t br;replace hF:=((hF.st aH).st aV).st br;refine kp (aL 0 rfl rfl (aL 8 rfl rfl (aL 9 rfl rfl (aL 10 rfl (eq_int (by simp)) (aY _))))) (cn (i+1,dM) _ ⟨(by first|omega|(simp only;omega)),(λk hk=>by
     simp only at hk;by_cases e:k=i
     ·subst e;rw[hE,if_neg (by simpa using gW),if_neg gT,if_neg mN]
     ·exact h0 k (by omega)),hF,hT,hl⟩ (by first|omega|(simp only;omega)))
 have hil:i=l.length:=by omega
 refine cA 0 ?_;refine aj (aq [af 0] ?_);refine aR 2 (.int .i64 0) (ai.nil ?_);refine bN Tryz.func92 Tryz.results92 ?_;subst hil;exact⟨by rw[Fj hlim h0],hT.bW (by decide)⟩
end
end Go.Proofs.YtdmgmlmlielfbaaGreat
set_option linter.unusedVariables false
set_option linter.unusedSimpArgs false
set_option maxRecDepth 100000
set_option maxHeartbeats 4000000
namespace Go.Proofs.YtdmgmlmlielfbaaGreat
open Go.K Go.K.bg
noncomputable section
namespace C_
def c0:=cz Tryz.f114
def nt:=(cl (aJ (cl (aJ (aJ c0)))))
def lu:=(cl (cl (cl (aJ (cl nt)))))
def mc:=dy lu
def qz:=(aJ (cl (cl (aJ (cl nt)))))
def FD:=(cl (aJ (cl (aJ (cl qz)))))
def FE:=(cl (cl (cl (aJ (cl FD)))))
def uR:=dy FE
end C_
theorem SI {w₀:World} {C:Nat->Nat} {j:Nat} {v:Value} {xs:List av} (hF:aM w₀ C) (hj:j≠0) (ho:bn w₀ C j 47 v xs) (hlen:xs.length<=140737488355328):
    Calls Tryz.prog 114 #[v] w₀ (bM λu w'=>ay [j] w₀ C w' C/\bn w' C j 47 u (iO xs)/\aM w' C):=by
 have hT:=ay.refl [j] w₀ C;refine ct C_.c0 61 [v] Tryz.func114 ?_;show Run _ _ _ _ [(0,v)] _ _;refine aj (aq [af 0] ?_);refine aR 2 (.slice none 0 0) (ai.nil (aj (aj (aq [af 0,af 1,af 2] ?_))));refine ah 6 0 ?_;refine zE 7 6 53 (ho.b8 rfl Tryz.underlying53) ?_;refine ax (au 8 (.binOp .lss 3 (.tmp 7) (.const (.int .i64 2)) 3)) (λ_=>eX rfl rfl) ?_;refine ai.nil ?_;refine bI 8 rfl (λh8=>?_) (λh8=>?_)
 ·
  have hx:iO xs=xs:=by
    match xs,h8 with
    |[],_=>rfl
    |[a],_=>rfl
    |a::b::l,h=>simp at h;omega
  refine aj (aq [af 0,af 1] ?_);refine ah 9 0 (aD 2 9 (ai.nil ?_));refine bN Tryz.func114 Tryz.results114 ?_;exact⟨hT,by rw[hx];exact ho,hF⟩
 have h2:2<=xs.length:=by omega
 have SJ:iO (xs.take 1)=xs.take 1:=by
   obtain⟨a,l,rfl⟩:∃a l,xs=a::l:=by cases xs with|nil=>simp at h2|cons a l=>exact⟨a,l,rfl⟩
   simp[iO]
 refine bk (aj (aj (aq [af 0] ?_)));refine aR 3 (.int .i64 1) ?_;refine ai.nil (bF 0 ?_);refine cM (ι:=Nat) (I:=λx w=>1<=x/\x<=xs.length/\iO (xs.take x)=xs.take x/\aM w C/\ay [j] w₀ C w C/\bn w C j 47 v xs) (e:=λx=>[(0,v),(3,.int .i64 x)]) (m:=λx=>xs.length-x) (cD:=1) (ak 0 (ak 3 (aY _))) ?_ ?_
 · exact⟨Nat.le_refl _,by first|omega|(simp only;omega),SJ,hF,hT,ho⟩
 intro k w1 hI cn;obtain⟨sx,hk,hc,hF,hT,ho⟩:=hI;try simp only at sx hk hc hF hT ho
 show Run _ _ _ _ [(0,v),(3,.int .i64 k)] _ _;refine aj (aj (aq [af 0,af 1,af 2,af 3] ?_));refine ah 10 3 (ah 11 0 ?_);refine zE 12 11 53 (ho.b8 rfl Tryz.underlying53) ?_;refine dm 13 3 10 12 (ai.nil ?_);refine bI 13 rfl (λiu=>?_) (λiu=>?_)
 ·
  have aK:k<xs.length:=by omega
  have yg:=Kt sx aK;refine bk (aj (bF 1 (aj ?_)));refine cw (id:=6) (ops:=C_.mc) [] (C) [af 0,af 1,af 2,af 3,af 4,af 5,af 6,af 7,af 8,af 9] cm (by kernel_rfl) (by kernel_rfl) (by kernel_rfl) ?_;intro w2 s_1;refine ah 16 0 (ah 17 3 ?_);replace ho:=ho.t s_1;refine cQ 47 18 53 16 17 ho rfl (by first|omega|(simp only[aI];omega)) (h:=?_);intro g18 Lb;try simp only[aI]
  refine qv (I:=[]) (au 19 (.load 47 (.tmp 18))) rfl rfl ho Lb (λw' hS=>ho.bu Lb hS) (by first|omega|(simp only[aI];omega)) (by kernel_rfl) (by kernel_rfl) rfl rfl ?_;intro Aw g19;try simp only[aI] at g19
  refine ah 20 0 (ah 21 3 ?_);refine ax (au 22 (.binOp .sub 3 (.tmp 21) (.const (.int .i64 1)) 3)) (λ_=>fu rfl rfl (by omega) (by omega)) ?_;refine cQ 47 23 53 20 22 ho rfl (by first|omega|(simp only[aI];omega)) (h:=?_);intro g23 yh;try simp only[aI]
  refine qv (I:=[]) (au 24 (.load 47 (.tmp 23))) rfl rfl ho yh (λw' hS=>ho.bu yh hS) (by first|omega|(simp only[aI];omega)) (by kernel_rfl) (by kernel_rfl) rfl rfl ?_;intro v24 g24;try simp only[aI] at g24
  obtain rfl:=bY.1 g19;obtain rfl:=bY.1 g24;refine ax (au 25 (.binOp .eql 47 (.tmp 19) (.tmp 24) 47)) (λ_=>iY (a:=_) (b:=_) Tryz.underlying47 (by decide) (by decide) (by kernel_rfl) Tryz.underlying3 rfl rfl) ?_;refine ai.nil ?_;refine bI 25 rfl (λp4=>?_) (λp4=>?_)
  ·
   have hd:xs[k-1]'(by omega)=xs[k]:=by
     have e: ((k:Int)-1).toNat=k-1:=by omega
     simp only[e] at p4;exact p4.symm
   rw[if_pos hd,hc] at yg;refine aj (aq [af 0,af 1,af 2,af 3] ?_);refine ah 26 0 (ah 27 3 ?_);refine J_ (e':=47) (au 28 (.slice 53 (.tmp 26) (some (.tmp 27)) none none)) rfl rfl ho rfl (by kernel_rfl) rfl (by omega) (by omega) ?_;intro v28 fS;try simp only[aI] at fS
   obtain⟨yM,uS⟩:=ho.J9 (by omega);refine aD 4 28 (ai.nil (aj (aj (aq [af 0] ?_))));refine aR 5 (.int .i64 1) ?_;refine ai.nil (bF 2 ?_);refine cM (ι:=Nat×Nat×(List av)) (I:=λx w=>1<=x.1/\k+x.1<=xs.length/\x.2.2.length=xs.length/\x.2.1+1<=k+x.1/\(∀p (hp:p<xs.length) (hp2:p<x.2.2.length),k+x.1<=p+1->x.2.2[p]=xs[p])/\x.2.2.take x.2.1=iO (xs.take (k+x.1))/\aM w C/\ay [j] w₀ C w C/\bn w C j 47 v x.2.2) (e:=λx=>[(0,v),(3,.int .i64 x.2.1),(4,v28),(5,.int .i64 x.1)]) (m:=λx=>xs.length-k-x.1) (cD:=(1,k,xs)) (ak 0 (ak 3 (ak 4 (ak 5 (aY _))))) ?_ ?_
   ·
     replace hF:=hF.st s_1;replace hT:=hT.t s_1;exact⟨Nat.le_refl _,by first|omega|(simp only;omega),rfl,by first|omega|(simp only;omega),λp _ _ _=>rfl,yg.symm,hF,hT,ho⟩
   intro⟨q,i,ys⟩ w3 hI d_;obtain⟨hq1,hq,yj,hi,hys,sA,hF,hT,ho⟩:=hI;try simp only at hq1 hq yj hi hys sA hF hT ho
   show Run _ _ _ _ [(0,v),(3,.int .i64 i),(4,v28),(5,.int .i64 q)] _ _;refine aj (aj (aq [af 0,af 1,af 2,af 3] ?_));refine ah 29 5 (ah 30 4 ?_);refine zE 31 30 53 (fS.b8 rfl Tryz.underlying53) ?_;refine dm 32 3 29 31 (ai.nil ?_);refine bI 32 rfl (λgA=>?_) (λgA=>?_)
   ·
    have nu:k+q<xs.length:=by omega
    have Da:=Kt (l:=xs) (k:=k+q) (by omega) nu;have e1:k+((q:Int)-1).toNat=k+q-1:=by omega
    refine bk (aj (bF 3 (aj ?_)));refine cw (id:=11) (ops:=C_.uR) [] (C) [af 0,af 1,af 2,af 3,af 4,af 5,af 6,af 7,af 8,af 9] cm (by kernel_rfl) (by kernel_rfl) (by kernel_rfl) ?_;intro w4 s_2;refine ah 35 4 (ah 36 5 ?_);refine ax (au 37 (.indexAddr 53 (.tmp 35) (.tmp 36))) (λ_=>E6 (e':=47) fS uS (by kernel_rfl) rfl rfl (by omega) (by omega)) ?_;try simp only[aI]
    replace ho:=ho.t s_2;refine qv (I:=[]) (au 38 (.load 47 (.tmp 37))) rfl rfl ho uS (λw' hS=>ho.bu uS hS) (by first|omega|(simp only[aI];omega)) (by kernel_rfl) (by kernel_rfl) rfl rfl ?_;intro SK Ay;try simp only[aI] at Ay
    refine ah 39 4 (ah 40 5 ?_);refine ax (au 41 (.binOp .sub 3 (.tmp 40) (.const (.int .i64 1)) 3)) (λ_=>fu rfl rfl (by omega) (by omega)) ?_;refine ax (au 42 (.indexAddr 53 (.tmp 39) (.tmp 41))) (λ_=>E6 (e':=47) fS uS (by kernel_rfl) rfl rfl (by omega) (by omega)) ?_;try simp only[aI]
    refine qv (I:=[]) (au 43 (.load 47 (.tmp 42))) rfl rfl ho uS (λw' hS=>ho.bu uS hS) (by first|omega|(simp only[aI];omega)) (by kernel_rfl) (by kernel_rfl) rfl rfl ?_;intro yl uT;try simp only[aI] at uT
    obtain rfl:=bY.1 Ay;obtain rfl:=bY.1 uT;refine ax (au 44 (.binOp .neq 47 (.tmp 38) (.tmp 43) 47)) (λ_=>CO (a:=_) (b:=_) Tryz.underlying47 (by decide) (by decide) (by kernel_rfl) Tryz.underlying3 rfl rfl) ?_;refine ai.nil ?_;refine bI 44 rfl (λjO=>?_) (λjO=>?_)
    ·
     have r1:=hys (k+q) (by omega) (by omega) (by omega);have r2:=hys (k+q-1) (by omega) (by omega) (by omega);have hd:¬xs[k+q-1]'(by omega)=xs[k+q]:=by
       simp only[e1,r1,r2] at jO;exact λe=>jO e.symm
     rw[if_neg hd,<-sA] at Da;refine aj (aq [af 0,af 1,af 2,af 3,af 4,nn 5,af 6,nn 7] ?_);refine ah 45 0 (ah 46 3 (ah 47 4 (ah 48 5 ?_)));refine ax (au 49 (.indexAddr 53 (.tmp 47) (.tmp 48))) (λ_=>E6 (e':=47) fS uS (by kernel_rfl) rfl rfl (by omega) (by omega)) ?_;try simp only[aI]
     refine jl (au 50 (.load 47 (.tmp 49))) rfl rfl trivial ho uS (by first|omega|(simp only[aI];omega)) (by kernel_rfl) (by kernel_rfl) rfl rfl ?_;intro v50 f_;try simp only[aI] at f_
     refine cQ 47 51 53 45 46 ho rfl (by first|omega|(simp only[aI];omega)) (h:=?_);intro gU lz;try simp only[aI]
     refine cE (k0 (.store 47 (.tmp 51) (.tmp 50))) rfl (fQ ho lz (by first|omega|(simp only[aI];omega)) rfl rfl (by kernel_rfl) f_) ?_;rintro _ ew ⟨rfl,aH,ho⟩;replace hT:=hT.t s_2;replace hT:=hT.trans aH (by simp<;>omega);refine ai.nil (aq [af 0,af 1,af 2] ?_);refine ah 52 3 ?_;refine bZ 53 3 52 1 (aD 3 53 (ai.nil (bS (aq [af 0,af 1,af 2] ?_))));refine ah 33 5 ?_;refine bZ 34 3 33 1 (aD 5 34 (ai.nil ?_));replace hF:=(hF.st s_2).st aH;refine kp (ak 0 (aL 3 rfl (eq_int (by simp)) (ak 4 (aL 5 rfl (eq_int (by simp)) (aY _))))) (d_ (q+1,i+1,ys.set i ys[k+q]) _ ⟨(by first|omega|(simp only;omega)),(by first|omega|(simp only;omega)),(by simp only[List.length_set];exact yj),(by first|omega|(simp only;omega)),(λp hp hp2 h=>by simp only[List.getElem_set];rw[if_neg (by omega)];exact hys p hp (by omega) (by omega)),(by simp only;rw[List.take_succ_eq_append_getElem (by rw[List.length_set];omega),List.take_set_of_le (Nat.le_refl i),List.getElem_set_self,r1];exact Da.symm),hF,hT,ho⟩ (by first|omega|(simp only;omega)))
    have r1:=hys (k+q) (by omega) (by omega) (by omega);have r2:=hys (k+q-1) (by omega) (by omega) (by omega);have hd:xs[k+q-1]'(by omega)=xs[k+q]:=by
      simp only[e1,r1,r2] at jO;exact(Classical.not_not.1 jO).symm
    rw[if_pos hd,<-sA] at Da;refine bk (bS (aq [af 0,af 1,af 2] ?_));refine ah 33 5 ?_;refine bZ 34 3 33 1 (aD 5 34 (ai.nil ?_));replace hF:=hF.st s_2;replace hT:=hT.t s_2;refine kp (ak 0 (ak 3 (ak 4 (aL 5 rfl (eq_int (by simp)) (aY _))))) (d_ (q+1,i,ys) _ ⟨(by first|omega|(simp only;omega)),(by first|omega|(simp only;omega)),(by first|omega|(simp only;omega)),(by first|omega|(simp only;omega)),(λp hp hp2 h=>hys p hp hp2 (by simp only at h;omega)),Da.symm,hF,hT,ho⟩ (by first|omega|(simp only;omega)))
   have nu:k+q=xs.length:=by omega
   rw[nu,List.take_length] at sA;refine cA 2 ?_;refine aj (aq [af 0,af 1,af 2,nn 3] ?_);refine ah 54 0 (ah 55 3 ?_);refine J_ (e':=47) (au 56 (.slice 53 (.tmp 54) (some (.tmp 55)) none none)) rfl rfl ho rfl (by kernel_rfl) rfl (by omega) (by omega) ?_;intro FF Lc;try simp only[aI] at Lc
   obtain⟨sr,kq⟩:=ho.J9 (by omega);refine cE (k0 (.call {callee:=.builtin .clear,args:=#[(.tmp 56)],argTypes:=#[53]})) rfl (RY (x0:=(⟨0,0⟩:av)) (zs:=[.int .i64 0,.int .i64 0]) ho Lc (by omega) (by omega) Tryz.underlying53 (by kernel_rfl) (λh M=>Sd) rfl) ?_;rintro _ wc ⟨aV,ho⟩;replace hT:=hT.trans aV (by simp<;>omega);refine ai.nil (aj (aq [af 0,af 1,af 2,af 3] ?_));refine ah 57 0 (ah 58 3 ?_);have yV: (ys.take i++List.replicate (ys.length-i) (⟨0,0⟩:av)).length=xs.length:=by simp;omega
   refine Ka (e':=47) (au 59 (.slice 53 (.tmp 57) none (some (.tmp 58)) none)) rfl rfl ho rfl (by kernel_rfl) rfl (by omega) (by omega) (by omega) ?_;intro v59 FG;try simp only[aI] at FG
   refine aD 2 59 (ai.nil ?_);refine bN Tryz.func114 Tryz.results114 ?_;rw[List.take_left' (by rw[List.length_take];omega),sA] at FG;replace hF:=hF.st aV;exact⟨hT,FG,hF⟩
  have hd:¬xs[k-1]'(by omega)=xs[k]:=by
    have e: ((k:Int)-1).toNat=k-1:=by omega
    simp only[e] at p4;exact λe=>p4 e.symm
  rw[if_neg hd,hc,<-List.take_succ_eq_append_getElem aK] at yg;refine bk (bS (aq [af 0,af 1,af 2] ?_));refine ah 14 3 ?_;refine bZ 15 3 14 1 (aD 3 15 (ai.nil ?_));replace hF:=hF.st s_1;replace hT:=hT.t s_1;refine kp (ak 0 (aL 3 rfl (eq_int (by simp)) (aY _))) (cn (k+1) _ ⟨(by first|omega|(simp only;omega)),(by first|omega|(simp only;omega)),yg,hF,hT,ho⟩ (by first|omega|(simp only;omega)))
 have aK:k=xs.length:=by omega
 subst aK;rw[List.take_length] at hc;refine cA 0 ?_;refine aj (aq [af 0,af 1] ?_);refine ah 60 0 (aD 2 60 (ai.nil ?_));refine bN Tryz.func114 Tryz.results114 ?_;rw[hc];exact⟨hT,ho,hF⟩
namespace Ld
def c0:=cz Tryz.f72
end Ld
theorem ym {w₀:World} {C:Nat->Nat} {l:List aO} {aF:Value} (hF:aM w₀ C) (hl:aG w₀ (aB C) l aF) (hlen:l.length<=100000):Calls Tryz.prog 72 #[aF] w₀ (bM λv w'=>ay [] w₀ C w' C/\aG w' (aB C) (aW l) v):=by
 have bp:=hF;have hT:=z9 w₀ C;replace hF:=hF.bE;replace hl:=hl.c1;refine ct Ld.c0 24 [aF] Tryz.func72 ?_;show Run _ _ _ _ [(0,aF)] _ _;refine aj (aq [af 0] ?_);refine aR 2 (.slice none 0 0) (ai.nil (aj (aq [af 0] ?_)));refine aR 3 (.slice none 0 0) (ai.nil (aj (aj (aq [af 0,af 1,af 2] ?_))));refine ah 6 0 ?_;refine zE 7 6 23 (hl.b8 rfl Tryz.underlying23) ?_;refine ig 8 (.int .i64 0) ?_;refine ai.nil (bF 0 ?_);refine cM (ι:=Nat×Value×(Nat->Nat)) (I:=λx w=>x.1<=l.length/\aM w x.2.2/\ay [2,3,4,5,6,7,8,9] w₀ (bE C) w x.2.2/\aG w (aB x.2.2) l aF/\bn w x.2.2 3 47 x.2.1 (lp (l.take x.1))) (e:=λx=>[(3,x.2.1),(6,aF),(7,.int .i64 l.length),(8,.int .i64 x.1)]) (m:=λx=>l.length-x.1) (cD:=(0,.slice none 0 0,bE C)) (ak 3 (ak 6 (ak 7 (ak 8 (aY _))))) ?_ ?_
 · exact⟨Nat.zero_le _,hF,hT,hl,bn.nil⟩
 intro⟨i,eE,bC⟩ w1 hI cn;obtain⟨hi,hF,hT,hl,ho⟩:=hI;try simp only at hi hF hT hl ho
 show Run _ _ _ _ [(3,eE),(6,aF),(7,.int .i64 l.length),(8,.int .i64 i)] _ _;have hel:=Am (l.take i);rw[List.length_take] at hel;refine aj (aq [af 0] ?_);refine dm 9 3 8 7 (ai.nil (aj ?_));refine bI 9 rfl (λe7=>?_) (λe7=>?_)
 ·
  have hil:i<l.length:=by omega
  refine bk (aj (bF 1 (aj (aq [af 0,nn 1,nn 2,nn 3] ?_))));refine cq 49 10 23 6 8 hl rfl (h:=?_);intro SF mg jm;try simp only[aI] at jm
  refine ku (au 11 (.load 49 (.tmp 10))) rfl rfl trivial jm (by kernel_rfl) (by kernel_rfl) rfl rfl ?_;intro v11 g11;obtain rfl:=jK.1 g11;refine bT (au 5 (.alloc 49)) rfl rfl (gJ (cs:=[.int .i64 0,.int .i64 0,.int .i64 0,.int .i64 0,.int .i64 0]) hF 4 (by kernel_rfl)) ?_;rintro _ w2 ⟨dM,fW,rfl,s_1,hx,hF⟩;refine cE (k0 (.store 49 (.tmp 5) (.tmp 11))) rfl (gB (vs:=j0 (l[i]'hil)) (n:=5) rfl rfl (by kernel_rfl) rfl rfl (g_ rfl) hx rfl) ?_;rintro _ w3 ⟨rfl,s_2,hx⟩;refine ai.nil (aq [af 0,af 1,nn 2,af 3,nn 4,nn 5,nn 6,af 7] ?_);refine ah 12 3 (bD 13 49 5 0 0 ?_);refine dz 14 47 13 2 (aZ (l[i]'hil).A) hx.at_ ?_;refine bD 15 49 5 1 2 ?_;refine dz 16 47 15 2 (aZ (l[i]'hil).B) hx.at_ ?_;replace hF:=hF.st s_2;refine bT (au 17 (.buildSlice 53 2 #[(0,(.tmp 14)),(1,(.tmp 16))])) rfl rfl (fI (ys:=([(l[i]'hil).A,(l[i]'hil).B]:List av)) (e:=47) (bytes:=16) hF (by kernel_rfl) rfl (by decide) (by decide) ⟨rfl,⟨_,rfl,bY.2 rfl⟩,rfl,⟨_,rfl,bY.2 rfl⟩,trivial⟩) ?_;rintro v17 w4 ⟨aH,g17,hF⟩;replace ho:=((ho.t s_1).t s_2).t aH;refine bT (au 18 (.call {callee:=.builtin .append,args:=#[(.tmp 12),(.tmp 17)],argTypes:=#[53,53]})) rfl rfl (fU (e:=47) (bytes:=16) hF (by decide) rfl rfl (by kernel_rfl) (by decide) ho g17 (by simp only[List.length_cons,List.length_nil];omega) (by simp only[List.length_cons,List.length_nil];omega)) ?_;rintro qA ew ⟨tG,aV,ho,hF⟩;refine aD 3 18 (ai.nil (bS (aq [af 0,af 1] ?_)));refine bZ 19 3 8 1 (ah 8 19 (ai.nil ?_));replace hT:=(((hT.t s_1).t s_2).t aH).t aV;replace hl:=(((hl.t s_1).t s_2).t aH).t aV;refine kp (ak 3 (ak 6 (ak 7 (aL 8 rfl (eq_int (by simp)) (aY _))))) (cn (i+1,qA,tG) _ ⟨(by first|omega|(simp only;omega)),hF,hT,hl,(by simp only;rw[KC hil];exact ho)⟩ (by first|omega|(simp only;omega)))
 have hil:i=l.length:=by omega
 subst hil;rw[List.take_length] at ho;refine cA 0 ?_;refine aj (aq [af 0,nn 1] ?_);refine ah 20 3 ?_;refine dY (au 21 (.call {callee:=.value (.func 113),args:=#[(.tmp 20),(.func 55)],argTypes:=#[53,87]})) rfl rfl (cL Tryz.call113 rfl) (K4 hF ho (by rw[Am];omega)) ?_;rintro mh fh ⟨rfl,aQ,ho,_⟩;refine ai.nil (aj (aq [af 0,nn 1,af 2] ?_));refine ah 22 3 ?_;replace hF:=hF.st aQ;refine bU 23 114 [22] [53] Tryz.call114 rfl (SI hF (by decide) ho (by rw[(tA _).length_eq,Am];omega)) ?_;rintro mM w7 ⟨bh,ho,_⟩;refine aD 2 23 (ai.nil ?_);refine bN Tryz.func72 Tryz.results72 ?_;replace hT:=(hT.t aQ).t bh;exact⟨hT.bW (by decide),ho.out hT bp (fP C) (λb _=>k_ C (by decide) b) (by have:=kW l;unfold aW at this;omega)⟩
end
end Go.Proofs.YtdmgmlmlielfbaaGreat
