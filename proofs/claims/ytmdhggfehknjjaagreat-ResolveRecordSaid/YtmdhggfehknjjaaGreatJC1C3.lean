/- Steps through functions of the program. -/
import Derived.Test.YtmdhggfehknjjaaGreatJD1N3
import Derived.Test.YtmdhggfehknjjaaGreatL1
import Derived.Test.YtmdhggfehknjjaaGreatL2
import Derived.Test.YtmdhggfehknjjaaGreatL3
import Derived.Test.YtmdhggfehknjjaaGreatShelf
set_option linter.unusedVariables false
set_option linter.unusedSimpArgs false
set_option maxRecDepth 100000
set_option maxHeartbeats 4000000
namespace Go.Proofs.YtmdhggfehknjjaaGreat
open Go.K Go.K.aY
noncomputable section
namespace O6
def c0:=bZ Tryz.f96
end O6
theorem ET {w₀:World} {M:Nat->Prop} {l:List Int} {aK:Value} (hl:aB w₀ M l aK):Calls Tryz.prog 96 #[aK] w₀ (bI λv w'=>v=.int .i64 (iT l)/\w'=w₀):=by
 refine bW O6.c0 18 [aK] Tryz.func96 ?_;show Run _ _ _ _ [(0,aK)] _ _;refine aj (aq [af 0] ?_);refine aZ 2 (.int .i64 0) (ak.nil (aj (aq [af 0] ?_)));refine aZ 3 (.int .i64 0) (ak.nil (aj (aj (aq [af 0,af 1,af 2] ?_))));refine ah 6 0 ?_;refine zE 7 6 22 (hl.bU rfl Tryz.underlying22) ?_;refine ef 8 (.int .i64 0) ?_;refine ak.nil (bD 0 ?_);refine cM (ι:=Nat) (I:=λx w=>x<=l.length/\w=w₀/\iT (l.drop x)=iT l) (e:=λx=>[(3,.int .i64 0),(6,aK),(7,.int .i64 l.length),(8,.int .i64 x)]) (m:=λx=>l.length-x) (cE:=0) (ai 3 (ai 6 (ai 7 (ai 8 (aV _))))) ?_ ?_
 · exact⟨Nat.zero_le _,rfl,rfl⟩
 intro i w1 hI next
 obtain⟨hi,rfl,ho⟩:=hI;have kI:=hl.le;refine aj (aq [af 0] ?_);refine de 9 3 8 7 (ak.nil (aj ?_));refine bQ 9 rfl (λgx=>?_) (λgx=>?_)
 ·
  have hil:i<l.length:=by omega
  rw[TC hil] at ho;refine bq (aj (bD 1 (aj (aq [af 0,nn 1,af 2] ?_))));refine dw 3 10 22 6 8 hl rfl (h:=?_);intro NY mZ jq;try simp only[aQ] at jq
  refine iy (au 11 (.load 3 (.tmp 10))) rfl rfl trivial jq (by kernel_rfl) rfl rfl ?_;intro v11 g11;first|(obtain rfl:=nA.1 g11)|(obtain rfl:=jB.1 g11)
  refine aD 5 11 (ak.nil (aj (aq [af 0,af 1,af 2] ?_)));refine ah 12 5 (ah 13 3 ?_);refine ay (au 14 (.binOp .neq 3 (.tmp 12) (.tmp 13) 3)) (λ_=>fM rfl rfl) ?_;refine ak.nil ?_;refine bQ 14 rfl (λfE=>?_) (λfE=>?_)
  ·
   rw[if_neg fE] at ho;refine aj (aq [af 0,af 1] ?_);refine ah 15 5 (aD 2 15 (ak.nil ?_));refine bR Tryz.func96 Tryz.results96 ?_;exact⟨by rw[ho],rfl⟩
  have fE:l[i]=0:=by simpa using fE
  rw[if_pos fE] at ho;refine bq (bO (aq [af 0,af 1] ?_));refine b7 16 3 8 1 (ah 8 16 (ak.nil ?_));refine kp ?_ (next (i+1) _ ⟨by omega,rfl,ho⟩ (by omega));exact ai 3 (ai 6 (ai 7 (aJ 8 rfl (eq_int (by simp)) (aV _))))
 have hil:i=l.length:=by omega
 refine cB 0 ?_;refine aj (aq [af 0,af 1] ?_);refine ah 17 3 (aD 2 17 (ak.nil ?_));refine bR Tryz.func96 Tryz.results96 ?_;subst hil;rw[List.drop_length] at ho;exact⟨by rw[<-ho];rfl,rfl⟩
namespace O7
def c0:=bZ Tryz.f161
end O7
theorem O8 (x:Int) (w:World):Calls Tryz.prog 161 #[.int .i64 x] w (bI λv w'=>v=.bool false/\w'=w):=by
 refine bW O7.c0 6 [.int .i64 x] Tryz.func161 ?_;show Run _ _ _ _ [(0,.int .i64 x)] _ _;refine aj (aq [af 0] ?_);refine aZ 2 (.bool false) (ak.nil (aj (aq [af 0,af 1,af 2,af 3] ?_)));refine ah 3 0 (ah 4 0 ?_);refine ay (au 5 (.binOp .neq 3 (.tmp 3) (.tmp 4) 3)) (λ_=>fM rfl rfl) ?_;refine aD 2 5 (ak.nil ?_);refine bR Tryz.func161 Tryz.results161 ?_;exact⟨by simp,rfl⟩
namespace O9
def c0:=bZ Tryz.f97
end O9
theorem Cp (x y:Int) (w:World):Calls Tryz.prog 97 #[.int .i64 x,.int .i64 y] w (bI λv w'=>v=.int .i64 (kj x y)/\w'=w):=by
 refine bW O9.c0 20 [.int .i64 x,.int .i64 y] Tryz.func97 ?_;show Run _ _ _ _ [(0,.int .i64 x),(1,.int .i64 y)] _ _;refine aj (aq [af 0] ?_);refine aZ 4 (.int .i64 0) (ak.nil (aj (aq [af 0,nn 1,af 2] ?_)));refine ah 7 0 ?_;refine bV 8 161 [7] [3] Tryz.call161 rfl (O8 _ _) ?_;rintro ku w1 ⟨rfl,rfl⟩;refine aD 5 8 (ak.nil (aj (aq [af 0,nn 1,af 2] ?_)));refine ah 9 1 ?_;refine bV 10 161 [9] [3] Tryz.call161 rfl (O8 _ _) ?_;rintro gC w2 ⟨rfl,rfl⟩;refine aD 6 10 (ak.nil (aj (aj (aq [af 0] ?_))));refine ah 11 5 ?_;refine ak.nil (cQ 11 (bq (aj (aj (aq [af 0] ?_)))));refine ah 13 6 ?_;refine ak.nil (cQ 13 (bq (aj (aj (aq [af 0,af 1,af 2] ?_)))));refine ah 14 0 (ah 15 1 ?_);refine de 16 3 14 15 (ak.nil ?_);refine bQ 16 rfl (λjx=>?_) (λjx=>?_)
 ·
  refine aj (aq [af 0] ?_);refine ay (au 4 (.assign (.const (.int .i64 (-1))))) (λ_=>pn rfl) ?_;refine ak.nil ?_;refine bR Tryz.func97 Tryz.results97 ?_;exact⟨eq_int (by unfold kj;split<;>(try split)<;>omega),rfl⟩
 refine bq (aj (aj (aq [af 0,af 1,af 2] ?_)));refine ah 17 0 (ah 18 1 ?_);refine ay (au 19 (.binOp .gtr 3 (.tmp 17) (.tmp 18) 3)) (λ_=>gl rfl rfl) ?_;refine ak.nil ?_;refine bQ 19 rfl (λl9=>?_) (λl9=>?_)
 ·
  refine aj (aq [af 0] ?_);refine aZ 4 (.int .i64 1) (ak.nil ?_);refine bR Tryz.func97 Tryz.results97 ?_;exact⟨eq_int (by unfold kj;split<;>(try split)<;>omega),rfl⟩
 refine bq (aj (aq [af 0] ?_));refine aZ 4 (.int .i64 0) (ak.nil ?_);refine bR Tryz.func97 Tryz.results97 ?_;exact⟨eq_int (by unfold kj;split<;>(try split)<;>omega),rfl⟩
namespace IZ
def c0:=bZ Tryz.f53
def o1:=dL (cl (aH c0))
end IZ
theorem uz {w₀:World} {C:Nat->Nat} {x y:av} (hF:aL w₀ C):Calls Tryz.prog 53 #[.agg #[.int .i64 x.a,.int .i64 x.b],.agg #[.int .i64 y.a,.int .i64 y.b]] w₀ (bI λv w'=>v=.int .i64 (i_ x y)/\aA [] w₀ C w' C):=by
 have bF:=hF;have hT:=z9 w₀ C;replace hF:=hF.bz;refine bW IZ.c0 17 [.agg #[.int .i64 x.a,.int .i64 x.b],.agg #[.int .i64 y.a,.int .i64 y.b]] Tryz.func53 ?_;show Run _ _ _ _ [(0,.agg #[.int .i64 x.a,.int .i64 x.b]),(1,.agg #[.int .i64 y.a,.int .i64 y.b])] _ _;refine aj (aq [nn 0,nn 1,af 2] ?_);refine bG (au 2 (.box 55 (.tmp 0))) rfl rfl (dO (cs:=[.int .i64 x.a,.int .i64 x.b]) hF 3 rfl rfl) ?_;rintro _ w1 ⟨dF,ck,rfl,s_1,hx,hF⟩;refine bG (au 3 (.box 55 (.tmp 1))) rfl rfl (dO (cs:=[.int .i64 y.a,.int .i64 y.b]) hF 3 rfl rfl) ?_;rintro _ w2 ⟨dx,en,rfl,s_2,hy,hF⟩;refine aZ 4 (.int .i64 0) (ak.nil (aj ?_));refine dD (id:=1) (ops:=IZ.o1) [] (dx) [af 0,af 1,af 2,af 3,af 5,af 6,af 7,af 8,nn 4,nn 9,nn 10,nn 11,af 12] dn (by kernel_rfl) (by kernel_rfl) (by kernel_rfl) ?_;intro w3 aF;have hR:=aA.refl [] w3 (dx);refine bn 5 55 2 0 0 ?_;replace hx:=(hx.t s_2).t aF;refine ew 6 3 5 (hx.bE ·) ?_;refine bn 7 55 3 0 0 ?_;replace hy:=hy.t aF;refine ew 8 3 7 (hy.bE ·) ?_;refine bn 10 55 2 1 1 ?_;refine ew 11 3 10 (hx.bE ·) ?_;refine bn 12 55 3 1 1 ?_;refine ew 13 3 12 (hy.bE ·) ?_;refine gw 9 97 [6,8] [3,3] Tryz.call97 rfl (Cp _ _ _) ?_;rintro jw w4 ⟨rfl,rfl⟩;refine⟨hR.ext,?_⟩;refine gw 14 97 [11,13] [3,3] Tryz.call97 rfl (Cp _ _ _) ?_;rintro nV dY ⟨rfl,rfl⟩;refine⟨hR.ext,?_⟩;replace hF:=hF.st aF;refine gK (au 15 (.buildSlice 22 2 #[(0,(.tmp 9)),(1,(.tmp 14))])) rfl rfl (gA (ys:=([kj x.a y.a,kj x.b y.b]:List Int)) (e:=3) (bytes:=8) hF (by kernel_rfl) rfl (by decide) (by decide) ⟨rfl,⟨_,rfl,jB.2 rfl⟩,rfl,⟨_,rfl,jB.2 rfl⟩,trivial⟩) ?_;rintro uA eT ⟨aI,g15,hF⟩;refine⟨(hR.trans aI (by simp)).ext,?_⟩;refine gw 16 96 [15] [22] Tryz.call96 rfl (ET g15) ?_;rintro mF w7 ⟨rfl,rfl⟩;replace hR:=hR.t aI;refine⟨hR.ext,?_⟩;refine aD 4 16 (ak.nil ?_);refine bR Tryz.func53 Tryz.results53 ?_;replace hT:=(((hT.t s_1).t s_2).t aF).t aI;exact⟨rfl,hT.cm (by decide)⟩
theorem EU (x y:av):Go.Proofs.ltOf i_ x y=!nK y x:=by unfold nK Go.Proofs.ltOf;simp
theorem Zy:Go.Sort.SWO (Go.Proofs.ltOf i_) where
 irrefl x:=by rw[EU];simp[u6]
 trans x y z h h':=by
  rw[EU] at*;simp only[Bool.not_eq_true',Bool.eq_false_iff,ne_eq,u6] at*;omega
 ntrans x y z h h':=by
  rw[EU] at*;simp only[Bool.not_eq_false',u6] at*;omega
theorem Zz (x y:av) (h:Go.Proofs.ltOf i_ x y=false) (h':Go.Proofs.ltOf i_ y x=false):x=y:=by
 rw[EU] at h h';simp only[Bool.not_eq_false'] at h h';exact Gg x y h' h
theorem O_ {w:World} {C:Nat->Nat} {j:Nat} {v:Value} {ys:List av} (hF:aL w C) (ho:aX w C j 55 v ys) (hlen:ys.length<=140737488355328):
  Calls Tryz.prog 185 #[v,.func (.func 53) #[] #[]] w (bI λu w'=>u=.tuple #[]/\aA [j] w C w' C/\aX w' C j 55 v (j4 ys)/\aL w' C):=
 Om (enc:=Ll) (cf:=i_) Go.Proofs.Tryz.sortCouple (λw=>Tryz.isAgg55 w) (λw=>Tryz.sizeOf55 w)
  (λh M x vs=>⟨λhr=>by obtain⟨us,ws,rfl,h1,h2⟩:=hr;rw[show us=[.int .i64 x.a] from h1,show ws=[.int .i64 x.b] from h2];rfl,λhr=>by subst hr;exact⟨[.int .i64 x.a],[.int .i64 x.b],rfl,rfl,rfl⟩⟩)
  (λx=>rfl) (by decide) (λx u hu=>by simp only[Ll,List.mem_cons,List.not_mem_nil,or_false] at hu;rcases hu with rfl|rfl<;>rfl) Zy Zz (λargs w=>Tryz.call53 args w)
  (λW x y=>(uz (C:=λ_=>0) (λb hb=>absurd rfl hb)).mono (by rintro e w' ⟨u,rfl,rfl,hs⟩;exact⟨_,rfl,rfl,hs.ext.mono (λb _ hb=>by simp at hb)⟩)) hF ho hlen
namespace Pa
def c0:=bZ Tryz.f170
end Pa
theorem Cr {w₀:World} {C:Nat->Nat} {x:av} (hF:aL w₀ C):Calls Tryz.prog 170 #[.agg #[.int .i64 x.a,.int .i64 x.b]] w₀ (bI λv w'=>v=.bool (rK x)/\aA [] w₀ C w' C):=by
 have bF:=hF;have hT:=z9 w₀ C;replace hF:=hF.bz;refine bW Pa.c0 21 [.agg #[.int .i64 x.a,.int .i64 x.b]] Tryz.func170 ?_;show Run _ _ _ _ [(0,.agg #[.int .i64 x.a,.int .i64 x.b])] _ _;refine aj (aq [nn 0,af 1] ?_);refine bG (au 1 (.box 55 (.tmp 0))) rfl rfl (dO (cs:=[.int .i64 x.a,.int .i64 x.b]) hF 3 rfl rfl) ?_;rintro _ w1 ⟨dF,ck,rfl,s_1,hx,hF⟩;refine aZ 2 (.bool false) (ak.nil ?_);refine kp (ai 1 (aV _)) ?_;refine aj ?_;refine p9 2 (rK x) (dF) ?_ ?_
 ·
  intro fP;by_cases hA:0<=x.a
  ·
   by_cases hB:x.a<4
   ·
    by_cases hC:1<=x.b
    ·
     refine aq [af 0,nn 1,af 2,af 3,af 4,nn 5,af 6,af 7,af 8,af 9,nn 10,af 11,af 12,af 13,af 14,nn 15,af 16,af 17,af 18] ?_;refine bn 3 55 1 0 0 ?_;refine cK 4 3 3 hx.at_ rfl rfl ?_;refine ay (au 5 (.binOp .geq 3 (.tmp 4) (.const (.int .i64 0)) 3)) (λ_=>ff (gR rfl rfl) hA) ?_;refine ah 6 5 ?_;refine cW 7 55 1 0 0 3 true ?_;refine eH 8 3 7 3 true hx.at_ ?_;refine ay (aO 9 (.binOp .lss 3 (.tmp 8) (.const (.int .i64 4)) 3) 3 true) (λ_=>ff (fS rfl rfl) hB) ?_;refine dS 10 6 9 ?_;refine ah 11 10 ?_;refine cW 12 55 1 1 1 8 true ?_;refine eH 13 3 12 8 true hx.at_ ?_;refine ay (aO 14 (.binOp .geq 3 (.tmp 13) (.const (.int .i64 1)) 3) 8 true) (λ_=>ff (gR rfl rfl) hC) ?_;refine dS 15 11 14 ?_;refine ah 16 15 ?_;refine cW 17 55 1 1 1 13 true ?_;refine eH 18 3 17 13 true hx.at_ ?_;refine ay (aO 19 (.binOp .leq 3 (.tmp 18) (.const (.int .i64 1048576)) 3) 13 true) (λ_=>od rfl rfl) ?_;refine dS 20 16 19 ?_;refine aD 2 20 ?_;exact ak.nil (fP _ _ _ (aA.refl _ _ _) rfl (by unfold rK;rw[decide_eq_true hA,decide_eq_true hB,decide_eq_true hC];rfl) (iz 19))
    refine aq [af 0,nn 1,af 2,af 3,af 4,nn 5,af 6,af 7,af 8,af 9,nn 10,af 11,af 12,af 13,af 14,nn 15,af 16,af 17,af 18] ?_;refine bn 3 55 1 0 0 ?_;refine cK 4 3 3 hx.at_ rfl rfl ?_;refine ay (au 5 (.binOp .geq 3 (.tmp 4) (.const (.int .i64 0)) 3)) (λ_=>ff (gR rfl rfl) hA) ?_;refine ah 6 5 ?_;refine cW 7 55 1 0 0 3 true ?_;refine eH 8 3 7 3 true hx.at_ ?_;refine ay (aO 9 (.binOp .lss 3 (.tmp 8) (.const (.int .i64 4)) 3) 3 true) (λ_=>ff (fS rfl rfl) hB) ?_;refine dS 10 6 9 ?_;refine ah 11 10 ?_;refine cW 12 55 1 1 1 8 true ?_;refine eH 13 3 12 8 true hx.at_ ?_;refine ay (aO 14 (.binOp .geq 3 (.tmp 13) (.const (.int .i64 1)) 3) 8 true) (λ_=>gL (gR rfl rfl) hC) ?_;refine dS 15 11 14 ?_;refine ah 16 15 ?_;refine aM 17 13 true ?_;refine eo (aO 18 (.load 3 (.tmp 17)) 13 true) rfl rfl trivial ?_;refine aM 19 13 true ?_;refine gn 20 16 19 ?_;refine aD 2 20 ?_;exact ak.nil (fP _ _ _ (aA.refl _ _ _) rfl (by unfold rK;rw[decide_eq_true hA,decide_eq_true hB,decide_eq_false hC];rfl) (iz 19))
   refine aq [af 0,nn 1,af 2,af 3,af 4,nn 5,af 6,af 7,af 8,af 9,nn 10,af 11,af 12,af 13,af 14,nn 15,af 16,af 17,af 18] ?_;refine bn 3 55 1 0 0 ?_;refine cK 4 3 3 hx.at_ rfl rfl ?_;refine ay (au 5 (.binOp .geq 3 (.tmp 4) (.const (.int .i64 0)) 3)) (λ_=>ff (gR rfl rfl) hA) ?_;refine ah 6 5 ?_;refine cW 7 55 1 0 0 3 true ?_;refine eH 8 3 7 3 true hx.at_ ?_;refine ay (aO 9 (.binOp .lss 3 (.tmp 8) (.const (.int .i64 4)) 3) 3 true) (λ_=>gL (fS rfl rfl) hB) ?_;refine dS 10 6 9 ?_;refine ah 11 10 ?_;refine aM 12 8 true ?_;refine eo (aO 13 (.load 3 (.tmp 12)) 8 true) rfl rfl trivial ?_;refine aM 14 8 true ?_;refine gn 15 11 14 ?_;refine ah 16 15 ?_;refine aM 17 13 true ?_;refine eo (aO 18 (.load 3 (.tmp 17)) 13 true) rfl rfl trivial ?_;refine aM 19 13 true ?_;refine gn 20 16 19 ?_;refine aD 2 20 ?_;exact ak.nil (fP _ _ _ (aA.refl _ _ _) rfl (by unfold rK;rw[decide_eq_true hA,decide_eq_false hB];rfl) (iz 19))
  refine aq [af 0,nn 1,af 2,af 3,af 4,nn 5,af 6,af 7,af 8,af 9,nn 10,af 11,af 12,af 13,af 14,nn 15,af 16,af 17,af 18] ?_;refine bn 3 55 1 0 0 ?_;refine cK 4 3 3 hx.at_ rfl rfl ?_;refine ay (au 5 (.binOp .geq 3 (.tmp 4) (.const (.int .i64 0)) 3)) (λ_=>gL (gR rfl rfl) hA) ?_;refine ah 6 5 ?_;refine aM 7 3 true ?_;refine eo (aO 8 (.load 3 (.tmp 7)) 3 true) rfl rfl trivial ?_;refine aM 9 3 true ?_;refine gn 10 6 9 ?_;refine ah 11 10 ?_;refine aM 12 8 true ?_;refine eo (aO 13 (.load 3 (.tmp 12)) 8 true) rfl rfl trivial ?_;refine aM 14 8 true ?_;refine gn 15 11 14 ?_;refine ah 16 15 ?_;refine aM 17 13 true ?_;refine eo (aO 18 (.load 3 (.tmp 17)) 13 true) rfl rfl trivial ?_;refine aM 19 13 true ?_;refine gn 20 16 19 ?_;refine aD 2 20 ?_;exact ak.nil (fP _ _ _ (aA.refl _ _ _) rfl (by unfold rK;rw[decide_eq_false hA];rfl) (iz 19))
 intro w2 s_2;refine bR Tryz.func170 Tryz.results170 ?_;replace hT:=(hT.t s_1).t s_2;exact⟨rfl,hT.cm (by decide)⟩
namespace Pb
def c0:=bZ Tryz.f105
end Pb
theorem I1 {w₀:World} {C:Nat->Nat} {x y:av} (hF:aL w₀ C):Calls Tryz.prog 105 #[.agg #[.int .i64 x.a,.int .i64 x.b],.agg #[.int .i64 y.a,.int .i64 y.b]] w₀ (bI λv w'=>v=.bool (ow x y)/\aA [] w₀ C w' C):=by
 have bF:=hF;have hT:=z9 w₀ C;replace hF:=hF.bz;refine bW Pb.c0 18 [.agg #[.int .i64 x.a,.int .i64 x.b],.agg #[.int .i64 y.a,.int .i64 y.b]] Tryz.func105 ?_;show Run _ _ _ _ [(0,.agg #[.int .i64 x.a,.int .i64 x.b]),(1,.agg #[.int .i64 y.a,.int .i64 y.b])] _ _;refine aj (aq [nn 0,nn 1,af 2] ?_);refine bG (au 2 (.box 55 (.tmp 0))) rfl rfl (dO (cs:=[.int .i64 x.a,.int .i64 x.b]) hF 3 rfl rfl) ?_;rintro _ w1 ⟨dF,ck,rfl,s_1,hx,hF⟩;refine bG (au 3 (.box 55 (.tmp 1))) rfl rfl (dO (cs:=[.int .i64 y.a,.int .i64 y.b]) hF 3 rfl rfl) ?_;rintro _ w2 ⟨dx,en,rfl,s_2,hy,hF⟩;refine aZ 4 (.bool false) (ak.nil ?_);refine kp (ai 2 (ai 3 (aV _))) ?_;refine aj ?_;refine p9 4 (ow x y) (dx) ?_ ?_
 ·
  intro fP;by_cases hA:rK x=true
  ·
   by_cases hB:rK y=true
   ·
    refine aq [nn 0,nn 1,af 2,nn 3,nn 4,af 5,af 6,af 7,nn 8,af 9,nn 10,af 11,af 12,af 13] ?_;have hcs:=aA.uU hF;replace hx:=hx.t s_2;refine iN (au 5 (.load 55 (.tmp 2))) rfl rfl trivial (jC (n:=2) hx.at_ (by kernel_rfl) (by kernel_rfl) rfl rfl rfl) ?_;refine bV 6 170 [5] [55] Tryz.call170 rfl (Cr hF) ?_;rintro kz w3 ⟨rfl,aF⟩;rw[hA];refine ah 7 6 ?_;replace hy:=hy.t aF;refine iN (aO 8 (.load 55 (.tmp 3)) 2 true) rfl rfl trivial (jC (n:=2) hy.at_ (by kernel_rfl) (by kernel_rfl) rfl rfl rfl) ?_;replace hF:=hF.st aF;refine dU (aO 9 (.call {callee:=.value (.func 170),args:=#[(.tmp 8)],argTypes:=#[55]}) 2 true) rfl rfl (dy Tryz.call170 rfl) (Cr hF) ?_;rintro jw w4 ⟨rfl,aI⟩;rw[hB];refine dS 10 7 9 ?_;refine ah 11 10 ?_;refine cW 12 55 2 0 0 6 true ?_;replace hx:=(hx.t aF).t aI;refine eH 13 3 12 6 true hx.at_ ?_;refine cW 14 55 3 0 0 6 true ?_;replace hy:=hy.t aI;refine eH 15 3 14 6 true hy.at_ ?_;refine ay (aO 16 (.binOp .lss 3 (.tmp 13) (.tmp 15) 3) 6 true) (λ_=>fS rfl rfl) ?_;refine dS 17 11 16 ?_;refine aD 4 17 ?_;replace hcs:=(hcs.t aF).t aI;exact ak.nil (fP _ _ _ hcs rfl (by unfold ow;rw[hA,hB];rfl) (iz 14))
   refine aq [nn 0,nn 1,af 2,nn 3,nn 4,af 5,af 6,af 7,nn 8,af 9,nn 10,af 11,af 12,af 13] ?_;have hcs:=aA.uU hF;replace hx:=hx.t s_2;refine iN (au 5 (.load 55 (.tmp 2))) rfl rfl trivial (jC (n:=2) hx.at_ (by kernel_rfl) (by kernel_rfl) rfl rfl rfl) ?_;refine bV 6 170 [5] [55] Tryz.call170 rfl (Cr hF) ?_;rintro nV dY ⟨rfl,aG⟩;rw[hA];refine ah 7 6 ?_;replace hy:=hy.t aG;refine iN (aO 8 (.load 55 (.tmp 3)) 2 true) rfl rfl trivial (jC (n:=2) hy.at_ (by kernel_rfl) (by kernel_rfl) rfl rfl rfl) ?_;replace hF:=hF.st aG;refine dU (aO 9 (.call {callee:=.value (.func 170),args:=#[(.tmp 8)],argTypes:=#[55]}) 2 true) rfl rfl (dy Tryz.call170 rfl) (Cr hF) ?_;rintro oG eT ⟨rfl,aR⟩;rw[Bool.eq_false_iff.2 hB];refine dS 10 7 9 ?_;refine ah 11 10 ?_;refine aM 12 6 true ?_;refine eo (aO 13 (.load 3 (.tmp 12)) 6 true) rfl rfl trivial ?_;refine aM 14 6 true ?_;refine eo (aO 15 (.load 3 (.tmp 14)) 6 true) rfl rfl trivial ?_;refine aM 16 6 true ?_;refine gn 17 11 16 ?_;refine aD 4 17 ?_;replace hcs:=(hcs.t aG).t aR;exact ak.nil (fP _ _ _ hcs rfl (by unfold ow;rw[hA,Bool.eq_false_iff.2 hB];simp) (iz 14))
  refine aq [nn 0,nn 1,af 2,nn 3,nn 4,af 5,af 6,af 7,nn 8,af 9,nn 10,af 11,af 12,af 13] ?_;have hcs:=aA.uU hF;replace hx:=hx.t s_2;refine iN (au 5 (.load 55 (.tmp 2))) rfl rfl trivial (jC (n:=2) hx.at_ (by kernel_rfl) (by kernel_rfl) rfl rfl rfl) ?_;refine bV 6 170 [5] [55] Tryz.call170 rfl (Cr hF) ?_;rintro mF w7 ⟨rfl,aW⟩;rw[Bool.eq_false_iff.2 hA];refine ah 7 6 ?_;refine eo (aO 8 (.load 55 (.tmp 3)) 2 true) rfl rfl trivial ?_;refine eo (aO 9 (.call {callee:=.value (.func 170),args:=#[(.tmp 8)],argTypes:=#[55]}) 2 true) rfl rfl trivial ?_;refine gn 10 7 9 ?_;refine ah 11 10 ?_;refine aM 12 6 true ?_;refine eo (aO 13 (.load 3 (.tmp 12)) 6 true) rfl rfl trivial ?_;refine aM 14 6 true ?_;refine eo (aO 15 (.load 3 (.tmp 14)) 6 true) rfl rfl trivial ?_;refine aM 16 6 true ?_;refine gn 17 11 16 ?_;refine aD 4 17 ?_;replace hcs:=hcs.t aW;exact ak.nil (fP _ _ _ hcs rfl (by unfold ow;rw[Bool.eq_false_iff.2 hA];simp) (iz 14))
 intro gD bh;refine bR Tryz.func105 Tryz.results105 ?_;replace hT:=((hT.t s_1).t s_2).t bh;exact⟨rfl,hT.cm (by decide)⟩
namespace I2
def c0:=bZ Tryz.f143
def o1:=dL (cl (aH c0))
end I2
theorem I3 {w₀:World} {C:Nat->Nat} {a b c d:av} (hF:aL w₀ C):Calls Tryz.prog 143 #[.agg #[.int .i64 a.a,.int .i64 a.b],.agg #[.int .i64 b.a,.int .i64 b.b],.agg #[.int .i64 c.a,.int .i64 c.b],.agg #[.int .i64 d.a,.int .i64 d.b]] w₀ (bI λv w'=>v=.int .i64 (u9 a b c d)/\aA [] w₀ C w' C):=by
 have bF:=hF;have hT:=z9 w₀ C;replace hF:=hF.bz;refine bW I2.c0 17 [.agg #[.int .i64 a.a,.int .i64 a.b],.agg #[.int .i64 b.a,.int .i64 b.b],.agg #[.int .i64 c.a,.int .i64 c.b],.agg #[.int .i64 d.a,.int .i64 d.b]] Tryz.func143 ?_;show Run _ _ _ _ [(0,.agg #[.int .i64 a.a,.int .i64 a.b]),(1,.agg #[.int .i64 b.a,.int .i64 b.b]),(2,.agg #[.int .i64 c.a,.int .i64 c.b]),(3,.agg #[.int .i64 d.a,.int .i64 d.b])] _ _;refine aj (aq [nn 0,nn 1,nn 2,nn 3,af 4] ?_);refine bG (au 4 (.box 55 (.tmp 0))) rfl rfl (dO (cs:=[.int .i64 a.a,.int .i64 a.b]) hF 3 rfl rfl) ?_;rintro _ w1 ⟨dF,ck,rfl,s_1,ha,hF⟩;refine bG (au 5 (.box 55 (.tmp 1))) rfl rfl (dO (cs:=[.int .i64 b.a,.int .i64 b.b]) hF 3 rfl rfl) ?_;rintro _ w2 ⟨dx,en,rfl,s_2,hb,hF⟩;refine bG (au 6 (.box 55 (.tmp 2))) rfl rfl (dO (cs:=[.int .i64 c.a,.int .i64 c.b]) hF 3 rfl rfl) ?_;rintro _ w3 ⟨jE,jF,rfl,aF,hc,hF⟩;refine bG (au 7 (.box 55 (.tmp 3))) rfl rfl (dO (cs:=[.int .i64 d.a,.int .i64 d.b]) hF 3 rfl rfl) ?_;rintro _ w4 ⟨fK,mI,rfl,aI,hd,hF⟩;refine aZ 8 (.int .i64 0) (ak.nil (aj ?_));refine dD (id:=1) (ops:=I2.o1) [] (fK) [af 0,af 1,af 3,af 4,nn 2,nn 5,nn 6,nn 7,af 8] dn (by kernel_rfl) (by kernel_rfl) (by kernel_rfl) ?_;intro dY aG;have hR:=aA.refl [] dY (fK);replace ha:=(((ha.t s_2).t aF).t aI).t aG;refine eG (au 9 (.load 55 (.tmp 4))) rfl rfl (λw' hS=>jC (n:=2) (ha.stay hS (by decide)) (by kernel_rfl) (by kernel_rfl) rfl rfl rfl) ?_;replace hc:=(hc.t aI).t aG;refine eG (au 10 (.load 55 (.tmp 6))) rfl rfl (λw' hS=>jC (n:=2) (hc.stay hS (by decide)) (by kernel_rfl) (by kernel_rfl) rfl rfl rfl) ?_;replace hb:=((hb.t aF).t aI).t aG;refine eG (au 12 (.load 55 (.tmp 5))) rfl rfl (λw' hS=>jC (n:=2) (hb.stay hS (by decide)) (by kernel_rfl) (by kernel_rfl) rfl rfl rfl) ?_;replace hd:=hd.t aG
 refine eG (au 13 (.load 55 (.tmp 7))) rfl rfl (λw' hS=>jC (n:=2) (hd.stay hS (by decide)) (by kernel_rfl) (by kernel_rfl) rfl rfl rfl) ?_;replace hF:=hF.st aG;refine gw 11 53 [9,10] [55,55] Tryz.call53 rfl (uz hF) ?_;rintro oG eT ⟨rfl,aR⟩;refine⟨(hR.trans aR (by simp)).ext,?_⟩;replace hF:=hF.st aR;refine gw 14 53 [12,13] [55,55] Tryz.call53 rfl (uz hF) ?_;rintro mF w7 ⟨rfl,aW⟩;replace hR:=hR.t aR;refine⟨(hR.trans aW (by simp)).ext,?_⟩;replace hF:=hF.st aW;refine gK (au 15 (.buildSlice 22 2 #[(0,(.tmp 11)),(1,(.tmp 14))])) rfl rfl (gA (ys:=([i_ a c,i_ b d]:List Int)) (e:=3) (bytes:=8) hF (by kernel_rfl) rfl (by decide) (by decide) ⟨rfl,⟨_,rfl,jB.2 rfl⟩,rfl,⟨_,rfl,jB.2 rfl⟩,trivial⟩) ?_;rintro uA gD ⟨bh,g15,hF⟩;replace hR:=hR.t aW;refine⟨(hR.trans bh (by simp)).ext,?_⟩;refine gw 16 96 [15] [22] Tryz.call96 rfl (ET g15) ?_;rintro zL gO ⟨rfl,rfl⟩;replace hR:=hR.t bh;refine⟨hR.ext,?_⟩;refine aD 8 16 (ak.nil ?_);refine bR Tryz.func143 Tryz.results143 ?_;replace hT:=(((((((hT.t s_1).t s_2).t aF).t aI).t aG).t aR).t aW).t bh;exact⟨rfl,hT.cm (by decide)⟩
end
end Go.Proofs.YtmdhggfehknjjaaGreat
set_option linter.unusedVariables false
set_option linter.unusedSimpArgs false
set_option maxRecDepth 100000
set_option maxHeartbeats 4000000
namespace Go.Proofs.YtmdhggfehknjjaaGreat
open Go.K Go.K.aY
noncomputable section
namespace EV
def c0:=bZ Tryz.f82
def k7:=(cl (aH (cl (aH (aH c0)))))
def uB:=(cl (cl (aH (aH (cl k7)))))
def ux:=(aH (aH (aH (cl (aH uB)))))
def mZ:=dL (cl (aH ux))
end EV
theorem I4 {w₀:World} {C:Nat->Nat} {l:List bk} {aK:Value} (hF:aL w₀ C) (hl:aB w₀ (ax C) l aK):Calls Tryz.prog 82 #[aK] w₀ (bI λv w'=>v=.int .i64 (kH l)/\aA [] w₀ C w' C):=by
 have bF:=hF;have hT:=z9 w₀ C;replace hF:=hF.bz;replace hl:=hl.c1;refine bW EV.c0 55 [aK] Tryz.func82 ?_;show Run _ _ _ _ [(0,aK)] _ _;refine aj (aq [af 0] ?_);refine aZ 2 (.int .i64 0) (ak.nil (aj (aj (aq [af 0,af 1,af 2] ?_))));refine ah 5 0 ?_;refine zE 6 5 23 (hl.bU rfl Tryz.underlying23) ?_;refine ay (au 7 (.binOp .gtr 3 (.tmp 6) (.const (.int .i64 4096)) 3)) (λ_=>gl rfl rfl) ?_;refine ak.nil ?_;refine bQ 7 rfl (λh7=>?_) (λh7=>?_)
 ·
  refine aj (aq [af 0] ?_);refine aZ 2 (.int .i64 1) (ak.nil ?_);refine bR Tryz.func82 Tryz.results82 ?_;exact⟨by rw[TP (by omega)],hT.cm (by decide)⟩
 have hlim:l.length<=4096:=by omega
 refine bq (aj (aj (aq [af 0,af 1,af 2] ?_)));refine ah 8 0 ?_;refine zE 9 8 23 (hl.bU rfl Tryz.underlying23) ?_;refine ef 10 (.int .i64 0) ?_;refine ak.nil (bD 0 ?_);refine cM (ι:=Nat×(Nat->Nat)) (I:=λx w=>x.1<=l.length/\(∀k,k<x.1->sI l k=0)/\aL w x.2/\aA [2,3,4,5,6,7,8,9] w₀ (bz C) w x.2/\aB w (ax x.2) l aK) (e:=λx=>[(0,aK),(8,aK),(9,.int .i64 l.length),(10,.int .i64 x.1)]) (m:=λx=>l.length-x.1) (cE:=(0,bz C)) (ai 0 (ai 8 (ai 9 (ai 10 (aV _))))) ?_ ?_
 · exact⟨Nat.zero_le _,λk hk=>by simp at hk,hF,hT,hl⟩
 intro⟨i,bu⟩ w1 hI bP;obtain⟨hi,h0,hF,hT,hl⟩:=hI;try simp only at hi h0 hF hT hl
 show Run _ _ _ _ [(0,aK),(8,aK),(9,.int .i64 l.length),(10,.int .i64 i)] _ _;refine aj (aq [af 0] ?_);refine de 11 3 10 9 (ak.nil (aj ?_));refine bQ 11 rfl (λoV=>?_) (λoV=>?_)
 ·
  have hil:i<l.length:=by omega
  have hE:=TR hil;refine bq (aj (bD 1 (aj (aq [af 0,af 1,nn 2,nn 3,af 4,nn 5] ?_))));refine ah 12 10 ?_;refine dw 58 13 23 8 10 hl rfl (h:=?_);intro zC zD fV;try simp only[aQ] at fV
  refine ic (au 14 (.load 58 (.tmp 13))) rfl rfl trivial fV (by kernel_rfl) (by kernel_rfl) rfl rfl ?_;intro vS g14;obtain rfl:=jI.1 g14;refine bG (au 4 (.alloc 58)) rfl rfl (dR (cs:=[.int .i64 0,.int .i64 0,.int .i64 0,.int .i64 0,.int .i64 0]) hF 4 (by kernel_rfl)) ?_;rintro _ w2 ⟨dx,en,rfl,s_1,hx,hF⟩;refine aD 3 12 ?_;refine cg (k0 (.store 58 (.tmp 4) (.tmp 14))) rfl (dM (vs:=iB (l[i]'hil)) (n:=5) rfl rfl (by kernel_rfl) rfl rfl (gp rfl) hx rfl) ?_;rintro _ w3 ⟨rfl,s_2,hx⟩;refine ak.nil (bD 2 (aj (aq [af 0,nn 1,af 2,nn 3,nn 4,af 5,af 6] ?_)));refine bn 16 58 4 0 0 ?_;refine cD 17 55 16 2 (bJ (l[i]'hil).A) hx.at_ ?_;refine bn 18 58 4 1 2 ?_;refine cD 19 55 18 2 (bJ (l[i]'hil).B) hx.at_ ?_;replace hF:=hF.st s_2;refine bV 20 105 [17,19] [55,55] Tryz.call105 rfl (I1 (x:=(l[i]'hil).A) (y:=(l[i]'hil).B) hF) ?_;rintro jw w4 ⟨rfl,aF⟩;refine ay (au 21 (.unOp .not 4 (.tmp 20))) (λ_=>eP rfl) ?_;refine aD 15 21 (ak.nil ?_);refine nD 15 rfl (λpR=>?_) (λpR=>?_)
  ·
   refine aj (aq [af 0] ?_);refine aZ 2 (.int .i64 41) (ak.nil ?_);refine bR Tryz.func82 Tryz.results82 ?_;rw[if_pos (by simpa using pR)] at hE;replace hT:=((hT.t s_1).t s_2).t aF;exact⟨by rw[Gk hlim hil h0 (by rw[hE];decide),hE],hT.cm (by decide)⟩
  refine aj ?_;refine p9 22 (decide ((l[i]'hil).w<1\/1048576<(l[i]'hil).w)) (dx) ?_ ?_
  ·
   intro fP;by_cases hA: (l[i]'hil).w<1
   ·
    refine aq [af 0,nn 1,af 2,af 3,af 4,nn 5,af 6,af 7,af 8] ?_;refine bn 23 58 4 2 4 ?_;replace hx:=hx.t aF;refine cK 24 3 23 hx.at_ rfl rfl ?_;refine ay (au 25 (.binOp .lss 3 (.tmp 24) (.const (.int .i64 1)) 3)) (λ_=>ff (fS rfl rfl) hA) ?_;refine ah 26 25 ?_;refine aM 27 3 false ?_;refine eo (aO 28 (.load 3 (.tmp 27)) 3 false) rfl rfl trivial ?_;refine aM 29 3 false ?_;refine pz 30 26 29 ?_;refine aD 22 30 ?_;exact ak.nil (fP _ _ _ (aA.refl _ _ _) rfl (by rw[decide_eq_true (Or.inl hA)]) (iz 9))
   refine aq [af 0,nn 1,af 2,af 3,af 4,nn 5,af 6,af 7,af 8] ?_;refine bn 23 58 4 2 4 ?_;replace hx:=hx.t aF;refine cK 24 3 23 hx.at_ rfl rfl ?_;refine ay (au 25 (.binOp .lss 3 (.tmp 24) (.const (.int .i64 1)) 3)) (λ_=>gL (fS rfl rfl) hA) ?_;refine ah 26 25 ?_;refine cW 27 58 4 2 4 3 false ?_;refine eH 28 3 27 3 false hx.at_ ?_;refine ay (aO 29 (.binOp .gtr 3 (.tmp 28) (.const (.int .i64 1048576)) 3) 3 false) (λ_=>gl rfl rfl) ?_;refine eY 30 26 29 ?_;refine aD 22 30 ?_;exact ak.nil (fP _ _ _ (aA.refl _ _ _) rfl (by congr 1;apply decide_eq_decide.2;omega) (iz 9))
  intro dY aI;refine bQ 22 rfl (λkZ=>?_) (λkZ=>?_)
  ·
   refine aj (aq [af 0] ?_);refine aZ 2 (.int .i64 40) (ak.nil ?_);refine bR Tryz.func82 Tryz.results82 ?_;rw[if_neg (by simpa using pR),if_pos kZ] at hE;replace hT:=(((hT.t s_1).t s_2).t aF).t aI;exact⟨by rw[Gk hlim hil h0 (by rw[hE];decide),hE],hT.cm (by decide)⟩
  refine aj ?_;refine p9 31 (decide (0<i/\¬rJ (l[i-1]'(by omega)) (l[i]'hil))) (dx) ?_ ?_
  ·
   intro fP;by_cases hA: (0:Int)<i
   ·
    refine dD (id:=10) (ops:=EV.mZ) [] (dx) [af 0,af 1,af 2,af 3,af 4,af 5,af 6,af 7,af 8,af 9,af 10,af 11,af 12,af 13,af 14,af 15,af 16,af 17,af 18,nn 19,af 20,af 21,af 22] dn (by kernel_rfl) (by kernel_rfl) (by kernel_rfl) ?_;intro eT aG;have hcs:=aG;have hR:=aA.refl [] eT (dx);refine ah 32 3 ?_;refine ay (au 33 (.binOp .gtr 3 (.tmp 32) (.const (.int .i64 0)) 3)) (λ_=>ff (gl rfl rfl) hA) ?_;refine ah 34 33 ?_;refine cn 35 0 2 true (cn 36 3 2 true ?_);refine ay (aO 37 (.binOp .sub 3 (.tmp 36) (.const (.int .i64 1)) 3) 2 true) (λ_=>eM rfl rfl (by omega) (by omega)) ?_;replace hl:=((((hl.t s_1).t s_2).t aF).t aI).t aG;refine iS (e:=58) (aO 38 (.indexAddr 23 (.tmp 35) (.tmp 37)) 2 true) rfl rfl hl rfl (by kernel_rfl) rfl (by omega) (by omega) ?_;intro H8 H9 j7;try simp only[aQ] at j7
    have wk:=dB.TI j7;refine cW 39 58 38 0 0 2 true ?_;refine j3 (aO 40 (.load 55 (.tmp 39)) 2 true) rfl rfl (λw' hS=>wk.bE hS) wk (by kernel_rfl) (by kernel_rfl) rfl rfl ?_;intro v40 xY;obtain rfl:=fN.1 xY;refine cn 41 0 2 true (cn 42 3 2 true ?_);refine ay (aO 43 (.binOp .sub 3 (.tmp 42) (.const (.int .i64 1)) 3) 2 true) (λ_=>eM rfl rfl (by omega) (by omega)) ?_;refine iS (e:=58) (aO 44 (.indexAddr 23 (.tmp 41) (.tmp 43)) 2 true) rfl rfl hl rfl (by kernel_rfl) rfl (by omega) (by omega) ?_;intro ZA ZB ng;try simp only[aQ] at ng
    have Ct:=dB.TJ ng;refine cW 45 58 44 1 2 2 true ?_;refine j3 (aO 46 (.load 55 (.tmp 45)) 2 true) rfl rfl (λw' hS=>Ct.bE hS) Ct (by kernel_rfl) (by kernel_rfl) rfl rfl ?_;intro v46 je;obtain rfl:=fN.1 je;refine cW 47 58 4 0 0 2 true ?_;replace hx:=((hx.t aF).t aI).t aG;refine eG (aO 48 (.load 55 (.tmp 47)) 2 true) rfl rfl (λw' hS=>jC (n:=2) (vs:=bJ (l[i]'hil).A) (hx.stay hS (by decide)) (by kernel_rfl) (by kernel_rfl) rfl rfl rfl) ?_;refine cW 49 58 4 1 2 2 true ?_;refine eG (aO 50 (.load 55 (.tmp 49)) 2 true) rfl rfl (λw' hS=>jC (n:=2) (vs:=bJ (l[i]'hil).B) (hx.stay hS (by decide)) (by kernel_rfl) (by kernel_rfl) rfl rfl rfl) ?_;replace hF:=((hF.st aF).st aI).st aG;refine jQ (aO 51 (.call {callee:=.value (.func 143),args:=#[(.tmp 40),(.tmp 46),(.tmp 48),(.tmp 50)],argTypes:=#[55,55,55,55]}) 2 true) rfl rfl (dy Tryz.call143 rfl) (I3 (c:=(l[i]'hil).A) (d:=(l[i]'hil).B) hF) ?_;rintro mF w7 ⟨rfl,aR⟩;refine⟨(hR.trans aR (by simp)).ext,?_⟩;refine ay (aO 52 (.binOp .geq 3 (.tmp 51) (.const (.int .i64 0)) 3) 2 true) (λ_=>gR rfl rfl) ?_;refine dS 53 34 52 ?_;refine aD 31 53 ?_;replace hcs:=hcs.t aR;exact ak.nil (fP _ _ _ hcs rfl (by
  have e1: ((i:Int)-1).toNat=i-1:=by omega
  congr 1;apply decide_eq_decide.2;simp only[e1];rw[Gj];exact⟨λh=>⟨by omega,h⟩,λh=>h.2⟩) (iz 23))
   refine dD (id:=10) (ops:=EV.mZ) [] (dx) [af 0,af 1,af 2,af 3,af 4,af 5,af 6,af 7,af 8,af 9,af 10,af 11,af 12,af 13,af 14,af 15,af 16,af 17,af 18,nn 19,af 20,af 21,af 22] dn (by kernel_rfl) (by kernel_rfl) (by kernel_rfl) ?_;intro gD aW;have hcs:=aW;have hR:=aA.refl [] gD (dx);refine ah 32 3 ?_;refine ay (au 33 (.binOp .gtr 3 (.tmp 32) (.const (.int .i64 0)) 3)) (λ_=>gL (gl rfl rfl) hA) ?_;refine ah 34 33 ?_;refine aM 35 2 true (aM 36 2 true (aM 37 2 true (aM 38 2 true (aM 39 2 true (aM 40 2 true (aM 41 2 true (aM 42 2 true (aM 43 2 true (aM 44 2 true (aM 45 2 true (aM 46 2 true ?_)))))))))));refine aM 47 2 true (aM 48 2 true (aM 49 2 true (aM 50 2 true ?_)));refine eo (aO 51 (.call {callee:=.value (.func 143),args:=#[(.tmp 40),(.tmp 46),(.tmp 48),(.tmp 50)],argTypes:=#[55,55,55,55]}) 2 true) rfl rfl hR.ext ?_;refine aM 52 2 true ?_;refine gn 53 34 52 ?_;refine aD 31 53 ?_;exact ak.nil (fP _ _ _ hcs rfl (by rw[decide_eq_false (λe=>hA (by omega))]) (iz 23))
  intro gO bh;refine bQ 31 rfl (λnh=>?_) (λnh=>?_)
  ·
   refine aj (aq [af 0] ?_);refine aZ 2 (.int .i64 12) (ak.nil ?_);refine bR Tryz.func82 Tryz.results82 ?_;rw[if_neg (by simpa using pR),if_neg kZ,if_pos nh] at hE;replace hT:=((((hT.t s_1).t s_2).t aF).t aI).t bh;exact⟨by rw[Gk hlim hil h0 (by rw[hE];decide),hE],hT.cm (by decide)⟩
  refine bq (bO (bO (aq [af 0,af 1] ?_)));refine b7 54 3 10 1 (ah 10 54 (ak.nil ?_));replace hT:=((((hT.t s_1).t s_2).t aF).t aI).t bh;replace hl:=((((hl.t s_1).t s_2).t aF).t aI).t bh;replace hF:=((hF.st aF).st aI).st bh;refine kp (aJ 0 rfl rfl (aJ 8 rfl rfl (aJ 9 rfl rfl (aJ 10 rfl (eq_int (by simp)) (aV _))))) (bP (i+1,dx) _ ⟨(by first|omega|(simp only;omega)),(λk hk=>by
     simp only at hk;by_cases e:k=i
     ·subst e;rw[hE,if_neg (by simpa using pR),if_neg kZ,if_neg nh]
     ·exact h0 k (by omega)),hF,hT,hl⟩ (by first|omega|(simp only;omega)))
 have hil:i=l.length:=by omega
 refine cB 0 ?_;refine aj (aq [af 0] ?_);refine aZ 2 (.int .i64 0) (ak.nil ?_);refine bR Tryz.func82 Tryz.results82 ?_;subst hil;exact⟨by rw[Lq hlim h0],hT.cm (by decide)⟩
end
end Go.Proofs.YtmdhggfehknjjaaGreat
set_option linter.unusedVariables false
set_option linter.unusedSimpArgs false
set_option maxRecDepth 100000
set_option maxHeartbeats 4000000
namespace Go.Proofs.YtmdhggfehknjjaaGreat
open Go.K Go.K.aY
noncomputable section
namespace EW
def c0:=bZ Tryz.f186
def k7:=(cl (aH (cl (aH (aH c0)))))
def k6:=(cl (cl (cl (aH (cl k7)))))
def kr:=dL k6
def tf:=(aH (cl (cl (aH (cl k7)))))
def Cu:=(cl (aH (cl (aH (cl tf)))))
def Cv:=(cl (cl (cl (aH (cl Cu)))))
def xI:=dL Cv
end EW
theorem ZC {w₀:World} {C:Nat->Nat} {j:Nat} {v:Value} {xs:List av} (hF:aL w₀ C) (hj:j≠0) (ho:aX w₀ C j 55 v xs) (hlen:xs.length<=140737488355328):
    Calls Tryz.prog 186 #[v] w₀ (bI λu w'=>aA [j] w₀ C w' C/\aX w' C j 55 u (gG xs)/\aL w' C):=by
 have hT:=aA.refl [j] w₀ C;refine bW EW.c0 61 [v] Tryz.func186 ?_;show Run _ _ _ _ [(0,v)] _ _;refine aj (aq [af 0] ?_);refine aZ 2 (.slice none 0 0) (ak.nil (aj (aj (aq [af 0,af 1,af 2] ?_))));refine ah 6 0 ?_;refine zE 7 6 52 (ho.bU rfl Tryz.underlying52) ?_;refine ay (au 8 (.binOp .lss 3 (.tmp 7) (.const (.int .i64 2)) 3)) (λ_=>fS rfl rfl) ?_;refine ak.nil ?_;refine bQ 8 rfl (λh8=>?_) (λh8=>?_)
 ·
  have hx:gG xs=xs:=by
    match xs,h8 with
    |[],_=>rfl
    |[a],_=>rfl
    |a::b::l,h=>simp at h;omega
  refine aj (aq [af 0,af 1] ?_);refine ah 9 0 (aD 2 9 (ak.nil ?_));refine bR Tryz.func186 Tryz.results186 ?_;exact⟨hT,by rw[hx];exact ho,hF⟩
 have h2:2<=xs.length:=by omega
 have oW:gG (xs.take 1)=xs.take 1:=by
   obtain⟨a,l,rfl⟩:∃a l,xs=a::l:=by cases xs with|nil=>simp at h2|cons a l=>exact⟨a,l,rfl⟩
   simp[gG]
 refine bq (aj (aj (aq [af 0] ?_)));refine aZ 3 (.int .i64 1) ?_;refine ak.nil (bD 0 ?_);refine cM (ι:=Nat) (I:=λx w=>1<=x/\x<=xs.length/\gG (xs.take x)=xs.take x/\aL w C/\aA [j] w₀ C w C/\aX w C j 55 v xs) (e:=λx=>[(0,v),(3,.int .i64 x)]) (m:=λx=>xs.length-x) (cE:=1) (ai 0 (ai 3 (aV _))) ?_ ?_
 · exact⟨Nat.le_refl _,by first|omega|(simp only;omega),oW,hF,hT,ho⟩
 intro k w1 hI bP;obtain⟨nR,hk,hc,hF,hT,ho⟩:=hI;try simp only at nR hk hc hF hT ho
 show Run _ _ _ _ [(0,v),(3,.int .i64 k)] _ _;refine aj (aj (aq [af 0,af 1,af 2,af 3] ?_));refine ah 10 3 (ah 11 0 ?_);refine zE 12 11 52 (ho.bU rfl Tryz.underlying52) ?_;refine de 13 3 10 12 (ak.nil ?_);refine bQ 13 rfl (λfV=>?_) (λfV=>?_)
 ·
  have aC:k<xs.length:=by omega
  have r6:=DT nR aC;refine bq (aj (bD 1 (aj ?_)));refine dD (id:=6) (ops:=EW.kr) [] (C) [af 0,af 1,af 2,af 3,af 4,af 5,af 6,af 7,af 8,af 9] dn (by kernel_rfl) (by kernel_rfl) (by kernel_rfl) ?_;intro w2 s_1;refine ah 16 0 (ah 17 3 ?_);replace ho:=ho.t s_1;refine dH 55 18 52 16 17 ho rfl (by first|omega|(simp only[aQ];omega)) (h:=?_);intro g18 Cw;try simp only[aQ]
  refine nE (I:=[]) (au 19 (.load 55 (.tmp 18))) rfl rfl ho Cw (λw' hS=>ho.bE Cw hS) (by first|omega|(simp only[aQ];omega)) (by kernel_rfl) (by kernel_rfl) rfl rfl ?_;intro zJ g19;try simp only[aQ] at g19
  refine ah 20 0 (ah 21 3 ?_);refine ay (au 22 (.binOp .sub 3 (.tmp 21) (.const (.int .i64 1)) 3)) (λ_=>eM rfl rfl (by omega) (by omega)) ?_;refine dH 55 23 52 20 22 ho rfl (by first|omega|(simp only[aQ];omega)) (h:=?_);intro g23 Cx;try simp only[aQ]
  refine nE (I:=[]) (au 24 (.load 55 (.tmp 23))) rfl rfl ho Cx (λw' hS=>ho.bE Cx hS) (by first|omega|(simp only[aQ];omega)) (by kernel_rfl) (by kernel_rfl) rfl rfl ?_;intro v24 g24;try simp only[aQ] at g24
  obtain rfl:=fN.1 g19;obtain rfl:=fN.1 g24;refine ay (au 25 (.binOp .eql 55 (.tmp 19) (.tmp 24) 55)) (λ_=>Gd (a:=_) (b:=_) Tryz.underlying55 (by decide) (by decide) (by kernel_rfl) Tryz.underlying3 rfl rfl) ?_;refine ak.nil ?_;refine bQ 25 rfl (λgu=>?_) (λgu=>?_)
  ·
   have hd:xs[k-1]'(by omega)=xs[k]:=by
     have e: ((k:Int)-1).toNat=k-1:=by omega
     simp only[e] at gu;exact gu.symm
   rw[if_pos hd,hc] at r6;refine aj (aq [af 0,af 1,af 2,af 3] ?_);refine ah 26 0 (ah 27 3 ?_);refine DQ (e':=55) (au 28 (.slice 52 (.tmp 26) (some (.tmp 27)) none none)) rfl rfl ho rfl (by kernel_rfl) rfl (by omega) (by omega) ?_;intro v28 k9;try simp only[aQ] at k9
   obtain⟨ZD,ni⟩:=ho.DP (by omega);refine aD 4 28 (ak.nil (aj (aj (aq [af 0] ?_))));refine aZ 5 (.int .i64 1) ?_;refine ak.nil (bD 2 ?_);refine cM (ι:=Nat×Nat×(List av)) (I:=λx w=>1<=x.1/\k+x.1<=xs.length/\x.2.2.length=xs.length/\x.2.1+1<=k+x.1/\(∀p (hp:p<xs.length) (hp2:p<x.2.2.length),k+x.1<=p+1->x.2.2[p]=xs[p])/\x.2.2.take x.2.1=gG (xs.take (k+x.1))/\aL w C/\aA [j] w₀ C w C/\aX w C j 55 v x.2.2) (e:=λx=>[(0,v),(3,.int .i64 x.2.1),(4,v28),(5,.int .i64 x.1)]) (m:=λx=>xs.length-k-x.1) (cE:=(1,k,xs)) (ai 0 (ai 3 (ai 4 (ai 5 (aV _))))) ?_ ?_
   ·
     replace hF:=hF.st s_1;replace hT:=hT.t s_1;exact⟨Nat.le_refl _,by first|omega|(simp only;omega),rfl,by first|omega|(simp only;omega),λp _ _ _=>rfl,r6.symm,hF,hT,ho⟩
   intro⟨q,i,ys⟩ w3 hI eX;obtain⟨hq1,hq,k_,hi,hys,lB,hF,hT,ho⟩:=hI;try simp only at hq1 hq k_ hi hys lB hF hT ho
   show Run _ _ _ _ [(0,v),(3,.int .i64 i),(4,v28),(5,.int .i64 q)] _ _;refine aj (aj (aq [af 0,af 1,af 2,af 3] ?_));refine ah 29 5 (ah 30 4 ?_);refine zE 31 30 52 (k9.bU rfl Tryz.underlying52) ?_;refine de 32 3 29 31 (ak.nil ?_);refine bQ 32 rfl (λI5=>?_) (λI5=>?_)
   ·
    have er:k+q<xs.length:=by omega
    have uC:=DT (l:=xs) (k:=k+q) (by omega) er;have e1:k+((q:Int)-1).toNat=k+q-1:=by omega
    refine bq (aj (bD 3 (aj ?_)));refine dD (id:=11) (ops:=EW.xI) [] (C) [af 0,af 1,af 2,af 3,af 4,af 5,af 6,af 7,af 8,af 9] dn (by kernel_rfl) (by kernel_rfl) (by kernel_rfl) ?_;intro w4 s_2;refine ah 35 4 (ah 36 5 ?_);refine ay (au 37 (.indexAddr 52 (.tmp 35) (.tmp 36))) (λ_=>yX (e':=55) k9 ni (by kernel_rfl) rfl rfl (by omega) (by omega)) ?_;try simp only[aQ]
    replace ho:=ho.t s_2;refine nE (I:=[]) (au 38 (.load 55 (.tmp 37))) rfl rfl ho ni (λw' hS=>ho.bE ni hS) (by first|omega|(simp only[aQ];omega)) (by kernel_rfl) (by kernel_rfl) rfl rfl ?_;intro NT vT;try simp only[aQ] at vT
    refine ah 39 4 (ah 40 5 ?_);refine ay (au 41 (.binOp .sub 3 (.tmp 40) (.const (.int .i64 1)) 3)) (λ_=>eM rfl rfl (by omega) (by omega)) ?_;refine ay (au 42 (.indexAddr 52 (.tmp 39) (.tmp 41))) (λ_=>yX (e':=55) k9 ni (by kernel_rfl) rfl rfl (by omega) (by omega)) ?_;try simp only[aQ]
    refine nE (I:=[]) (au 43 (.load 55 (.tmp 42))) rfl rfl ho ni (λw' hS=>ho.bE ni hS) (by first|omega|(simp only[aQ];omega)) (by kernel_rfl) (by kernel_rfl) rfl rfl ?_;intro O5 Ac;try simp only[aQ] at Ac
    obtain rfl:=fN.1 vT;obtain rfl:=fN.1 Ac;refine ay (au 44 (.binOp .neq 55 (.tmp 38) (.tmp 43) 55)) (λ_=>Ge (a:=_) (b:=_) Tryz.underlying55 (by decide) (by decide) (by kernel_rfl) Tryz.underlying3 rfl rfl) ?_;refine ak.nil ?_;refine bQ 44 rfl (λng=>?_) (λng=>?_)
    ·
     have r1:=hys (k+q) (by omega) (by omega) (by omega);have r2:=hys (k+q-1) (by omega) (by omega) (by omega);have hd:¬xs[k+q-1]'(by omega)=xs[k+q]:=by
       simp only[e1,r1,r2] at ng;exact λe=>ng e.symm
     rw[if_neg hd,<-lB] at uC;refine aj (aq [af 0,af 1,af 2,af 3,af 4,nn 5,af 6,nn 7] ?_);refine ah 45 0 (ah 46 3 (ah 47 4 (ah 48 5 ?_)));refine ay (au 49 (.indexAddr 52 (.tmp 47) (.tmp 48))) (λ_=>yX (e':=55) k9 ni (by kernel_rfl) rfl rfl (by omega) (by omega)) ?_;try simp only[aQ]
     refine lR (au 50 (.load 55 (.tmp 49))) rfl rfl trivial ho ni (by first|omega|(simp only[aQ];omega)) (by kernel_rfl) (by kernel_rfl) rfl rfl ?_;intro v50 fB;try simp only[aQ] at fB
     refine dH 55 51 52 45 46 ho rfl (by first|omega|(simp only[aQ];omega)) (h:=?_);intro pU kE;try simp only[aQ]
     refine cg (k0 (.store 55 (.tmp 51) (.tmp 50))) rfl (gj ho kE (by first|omega|(simp only[aQ];omega)) rfl rfl (by kernel_rfl) fB) ?_;rintro _ dY ⟨rfl,aF,ho⟩;replace hT:=hT.t s_2;replace hT:=hT.trans aF (by simp<;>omega);refine ak.nil (aq [af 0,af 1,af 2] ?_);refine ah 52 3 ?_;refine b7 53 3 52 1 (aD 3 53 (ak.nil (bO (aq [af 0,af 1,af 2] ?_))));refine ah 33 5 ?_;refine b7 34 3 33 1 (aD 5 34 (ak.nil ?_));replace hF:=(hF.st s_2).st aF;refine kp (ai 0 (aJ 3 rfl (eq_int (by simp)) (ai 4 (aJ 5 rfl (eq_int (by simp)) (aV _))))) (eX (q+1,i+1,ys.set i ys[k+q]) _ ⟨(by first|omega|(simp only;omega)),(by first|omega|(simp only;omega)),(by simp only[List.length_set];exact k_),(by first|omega|(simp only;omega)),(λp hp hp2 h=>by simp only[List.getElem_set];rw[if_neg (by omega)];exact hys p hp (by omega) (by omega)),(by simp only;rw[List.take_succ_eq_append_getElem (by rw[List.length_set];omega),List.take_set_of_le (Nat.le_refl i),List.getElem_set_self,r1];exact uC.symm),hF,hT,ho⟩ (by first|omega|(simp only;omega)))
    have r1:=hys (k+q) (by omega) (by omega) (by omega);have r2:=hys (k+q-1) (by omega) (by omega) (by omega);have hd:xs[k+q-1]'(by omega)=xs[k+q]:=by
      simp only[e1,r1,r2] at ng;exact(Classical.not_not.1 ng).symm
    rw[if_pos hd,<-lB] at uC;refine bq (bO (aq [af 0,af 1,af 2] ?_));refine ah 33 5 ?_;refine b7 34 3 33 1 (aD 5 34 (ak.nil ?_));replace hF:=hF.st s_2;replace hT:=hT.t s_2;refine kp (ai 0 (ai 3 (ai 4 (aJ 5 rfl (eq_int (by simp)) (aV _))))) (eX (q+1,i,ys) _ ⟨(by first|omega|(simp only;omega)),(by first|omega|(simp only;omega)),(by first|omega|(simp only;omega)),(by first|omega|(simp only;omega)),(λp hp hp2 h=>hys p hp hp2 (by simp only at h;omega)),uC.symm,hF,hT,ho⟩ (by first|omega|(simp only;omega)))
   have er:k+q=xs.length:=by omega
   rw[er,List.take_length] at lB;refine cB 2 ?_;refine aj (aq [af 0,af 1,af 2,nn 3] ?_);refine ah 54 0 (ah 55 3 ?_);refine DQ (e':=55) (au 56 (.slice 52 (.tmp 54) (some (.tmp 55)) none none)) rfl rfl ho rfl (by kernel_rfl) rfl (by omega) (by omega) ?_;intro Pc r7;try simp only[aQ] at r7
   obtain⟨ZE,ZF⟩:=ho.DP (by omega);refine cg (k0 (.call {callee:=.builtin .clear,args:=#[(.tmp 56)],argTypes:=#[52]})) rfl (K7 (x0:=(⟨0,0⟩:av)) (zs:=[.int .i64 0,.int .i64 0]) ho r7 (by omega) (by omega) Tryz.underlying52 (by kernel_rfl) (λh M=>TH) rfl) ?_;rintro _ wc ⟨aI,ho⟩;replace hT:=hT.trans aI (by simp<;>omega);refine ak.nil (aj (aq [af 0,af 1,af 2,af 3] ?_));refine ah 57 0 (ah 58 3 ?_);have ZG: (ys.take i++List.replicate (ys.length-i) (⟨0,0⟩:av)).length=xs.length:=by simp;omega
   refine F8 (e':=55) (au 59 (.slice 52 (.tmp 57) none (some (.tmp 58)) none)) rfl rfl ho rfl (by kernel_rfl) rfl (by omega) (by omega) (by omega) ?_;intro v59 tg;try simp only[aQ] at tg
   refine aD 2 59 (ak.nil ?_);refine bR Tryz.func186 Tryz.results186 ?_;rw[List.take_left' (by rw[List.length_take];omega),lB] at tg;replace hF:=hF.st aI;exact⟨hT,tg,hF⟩
  have hd:¬xs[k-1]'(by omega)=xs[k]:=by
    have e: ((k:Int)-1).toNat=k-1:=by omega
    simp only[e] at gu;exact λe=>gu e.symm
  rw[if_neg hd,hc,<-List.take_succ_eq_append_getElem aC] at r6;refine bq (bO (aq [af 0,af 1,af 2] ?_));refine ah 14 3 ?_;refine b7 15 3 14 1 (aD 3 15 (ak.nil ?_));replace hF:=hF.st s_1;replace hT:=hT.t s_1;refine kp (ai 0 (aJ 3 rfl (eq_int (by simp)) (aV _))) (bP (k+1) _ ⟨(by first|omega|(simp only;omega)),(by first|omega|(simp only;omega)),r6,hF,hT,ho⟩ (by first|omega|(simp only;omega)))
 have aC:k=xs.length:=by omega
 subst aC;rw[List.take_length] at hc;refine cB 0 ?_;refine aj (aq [af 0,af 1] ?_);refine ah 60 0 (aD 2 60 (ak.nil ?_));refine bR Tryz.func186 Tryz.results186 ?_;rw[hc];exact⟨hT,ho,hF⟩
namespace Pd
def c0:=bZ Tryz.f130
end Pd
theorem Ad {w₀:World} {C:Nat->Nat} {l:List bk} {aK:Value} (hF:aL w₀ C) (hl:aB w₀ (ax C) l aK) (hlen:l.length<=100000):Calls Tryz.prog 130 #[aK] w₀ (bI λv w'=>aA [] w₀ C w' C/\aB w' (ax C) (bg l) v):=by
 have bF:=hF;have hT:=z9 w₀ C;replace hF:=hF.bz;replace hl:=hl.c1;refine bW Pd.c0 24 [aK] Tryz.func130 ?_;show Run _ _ _ _ [(0,aK)] _ _;refine aj (aq [af 0] ?_);refine aZ 2 (.slice none 0 0) (ak.nil (aj (aq [af 0] ?_)));refine aZ 3 (.slice none 0 0) (ak.nil (aj (aj (aq [af 0,af 1,af 2] ?_))));refine ah 6 0 ?_;refine zE 7 6 23 (hl.bU rfl Tryz.underlying23) ?_;refine ef 8 (.int .i64 0) ?_;refine ak.nil (bD 0 ?_);refine cM (ι:=Nat×Value×(Nat->Nat)) (I:=λx w=>x.1<=l.length/\aL w x.2.2/\aA [2,3,4,5,6,7,8,9] w₀ (bz C) w x.2.2/\aB w (ax x.2.2) l aK/\aX w x.2.2 3 55 x.2.1 (qD (l.take x.1))) (e:=λx=>[(3,x.2.1),(6,aK),(7,.int .i64 l.length),(8,.int .i64 x.1)]) (m:=λx=>l.length-x.1) (cE:=(0,.slice none 0 0,bz C)) (ai 3 (ai 6 (ai 7 (ai 8 (aV _))))) ?_ ?_
 · exact⟨Nat.zero_le _,hF,hT,hl,aX.nil⟩
 intro⟨i,ek,bu⟩ w1 hI bP;obtain⟨hi,hF,hT,hl,ho⟩:=hI;try simp only at hi hF hT hl ho
 show Run _ _ _ _ [(3,ek),(6,aK),(7,.int .i64 l.length),(8,.int .i64 i)] _ _;have hel:=DY (l.take i);rw[List.length_take] at hel;refine aj (aq [af 0] ?_);refine de 9 3 8 7 (ak.nil (aj ?_));refine bQ 9 rfl (λgx=>?_) (λgx=>?_)
 ·
  have hil:i<l.length:=by omega
  refine bq (aj (bD 1 (aj (aq [af 0,nn 1,nn 2,nn 3] ?_))));refine dw 58 10 23 6 8 hl rfl (h:=?_);intro NY mZ jq;try simp only[aQ] at jq
  refine ic (au 11 (.load 58 (.tmp 10))) rfl rfl trivial jq (by kernel_rfl) (by kernel_rfl) rfl rfl ?_;intro v11 g11;obtain rfl:=jI.1 g11;refine bG (au 5 (.alloc 58)) rfl rfl (dR (cs:=[.int .i64 0,.int .i64 0,.int .i64 0,.int .i64 0,.int .i64 0]) hF 4 (by kernel_rfl)) ?_;rintro _ w2 ⟨dx,en,rfl,s_1,hx,hF⟩;refine cg (k0 (.store 58 (.tmp 5) (.tmp 11))) rfl (dM (vs:=iB (l[i]'hil)) (n:=5) rfl rfl (by kernel_rfl) rfl rfl (gp rfl) hx rfl) ?_;rintro _ w3 ⟨rfl,s_2,hx⟩;refine ak.nil (aq [af 0,af 1,nn 2,af 3,nn 4,nn 5,nn 6,af 7] ?_);refine ah 12 3 (bn 13 58 5 0 0 ?_);refine cD 14 55 13 2 (bJ (l[i]'hil).A) hx.at_ ?_;refine bn 15 58 5 1 2 ?_;refine cD 16 55 15 2 (bJ (l[i]'hil).B) hx.at_ ?_;replace hF:=hF.st s_2;refine bG (au 17 (.buildSlice 52 2 #[(0,(.tmp 14)),(1,(.tmp 16))])) rfl rfl (gA (ys:=([(l[i]'hil).A,(l[i]'hil).B]:List av)) (e:=55) (bytes:=16) hF (by kernel_rfl) rfl (by decide) (by decide) ⟨rfl,⟨_,rfl,fN.2 rfl⟩,rfl,⟨_,rfl,fN.2 rfl⟩,trivial⟩) ?_;rintro v17 w4 ⟨aF,g17,hF⟩;replace ho:=((ho.t s_1).t s_2).t aF;refine bG (au 18 (.call {callee:=.builtin .append,args:=#[(.tmp 12),(.tmp 17)],argTypes:=#[52,52]})) rfl rfl (gU (e:=55) (bytes:=16) hF (by decide) rfl rfl (by kernel_rfl) (by decide) ho g17 (by simp only[List.length_cons,List.length_nil];omega) (by simp only[List.length_cons,List.length_nil];omega)) ?_;rintro IY dY ⟨oJ,aI,ho,hF⟩;refine aD 3 18 (ak.nil (bO (aq [af 0,af 1] ?_)));refine b7 19 3 8 1 (ah 8 19 (ak.nil ?_));replace hT:=(((hT.t s_1).t s_2).t aF).t aI;replace hl:=(((hl.t s_1).t s_2).t aF).t aI;refine kp (ai 3 (ai 6 (ai 7 (aJ 8 rfl (eq_int (by simp)) (aV _))))) (bP (i+1,IY,oJ) _ ⟨(by first|omega|(simp only;omega)),hF,hT,hl,(by simp only;rw[TU hil];exact ho)⟩ (by first|omega|(simp only;omega)))
 have hil:i=l.length:=by omega
 subst hil;rw[List.take_length] at ho;refine cB 0 ?_;refine aj (aq [af 0,nn 1] ?_);refine ah 20 3 ?_;refine dU (au 21 (.call {callee:=.value (.func 185),args:=#[(.tmp 20),(.func 53)],argTypes:=#[52,107]})) rfl rfl (dy Tryz.call185 rfl) (O_ hF ho (by rw[DY];omega)) ?_;rintro oG eT ⟨rfl,aG,ho,_⟩;refine ak.nil (aj (aq [af 0,nn 1,af 2] ?_));refine ah 22 3 ?_;replace hF:=hF.st aG;refine bV 23 186 [22] [52] Tryz.call186 rfl (ZC hF (by decide) ho (by rw[(u7 _).length_eq,DY];omega)) ?_;rintro mF w7 ⟨aR,ho,_⟩;refine aD 2 23 (ak.nil ?_);refine bR Tryz.func130 Tryz.results130 ?_;replace hT:=(hT.t aG).t aR;exact⟨hT.cm (by decide),ho.out hT bF (ez C) (λb _=>iY C (by decide) b) (by have:=u_ l;unfold bg at this;omega)⟩
end
end Go.Proofs.YtmdhggfehknjjaaGreat
