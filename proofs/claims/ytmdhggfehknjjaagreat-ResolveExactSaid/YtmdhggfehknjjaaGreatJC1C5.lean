/- Steps through functions of the program. -/
import Derived.Test.YtmdhggfehknjjaaGreatJD1D3
import Derived.Test.YtmdhggfehknjjaaGreatL2
import Derived.Test.YtmdhggfehknjjaaGreatL1
import Derived.Test.YtmdhggfehknjjaaGreatShelf
set_option maxRecDepth 100000
set_option maxHeartbeats 4000000
namespace Go.Proofs.YtmdhggfehknjjaaGreat
open Go.K Go.K.aZ
noncomputable section
namespace ZM
def c0:=cw Tryz.f96
end ZM
theorem Ia {w₀:World} {M:Nat->Prop} {l:List Int} {aK:Value} (hl:av w₀ M l aK):Calls Tryz.prog 96 #[aK] w₀ (bH λv w'=>v=.int .i64 (iV l)/\w'=w₀):=by
 refine cg Tryz.func96 ?_;refine aG 12 ?_ [1,1,7];refine dE hl.ln ?_;refine ay 3 ?_;refine cH (ι:=Nat) (I:=λx w=>x<=l.length/\w=w₀/\iV (l.drop x)=iV l) (e:=λx=>[(3,.int .i64 0),(6,aK),(7,.int .i64 l.length),(8,.int .i64 x)]) (m:=λx=>l.length-x) (cC:=0) (af 3 (af 6 (af 7 (af 8 (aR _))))) ?_ ?_
 · exact⟨Nat.zero_le _,rfl,rfl⟩
 intro i w1 hI next
 obtain⟨hi,rfl,ho⟩:=hI;have l5:=hl.le;refine aI 5 ?_ [1];refine bF 9 rfl (λgi=>?_) (λgi=>?_)
 ·
  have hil:i<l.length:=by omega
  rw[XS hil] at ho;refine aG 5 ?_ [5];refine bn hl ?_;intro _ ZO zl jd;refine iF jd ?_;intro v11 g11;first|(obtain rfl:=kG.1 g11)|(obtain rfl:=jc.1 g11)
  refine ay 8 ?_ [7];refine bF 14 rfl (λfJ=>?_) (λfJ=>?_)
  ·
   rw[if_neg fJ] at ho;refine aI 5 ?_ [3];refine bI Tryz.func96 ?_;exact⟨by rw[ho],rfl⟩
  have fJ:l[i]=0:=by simpa using fJ
  rw[if_pos fJ] at ho;refine aI 6 ?_ [3];refine kp ?_ (next (i+1) _ ⟨by omega,rfl,ho⟩ ah);exact af 3 (af 6 (af 7 (aH 8 rfl (eq_int aF) (aR _))))
 have hil:i=l.length:=by omega
 refine aI 6 ?_ [3];refine bI Tryz.func96 ?_;subst hil;rw[List.drop_length] at ho;exact⟨by rw[<-ho];rfl,rfl⟩
namespace ZP
def c0:=cw Tryz.f161
end ZP
theorem R8 (x:Int) (w:World):Calls Tryz.prog 161 #[.int .i64 x] w (bH λv w'=>v=.bool false/\w'=w):=by
 refine cg Tryz.func161 ?_;refine aI 11 ?_ [1,15];refine bI Tryz.func161 ?_;exact⟨by simp,rfl⟩
namespace ZQ
def c0:=cw Tryz.f97
end ZQ
theorem EU (x y:Int) (w:World):Calls Tryz.prog 97 #[.int .i64 x,.int .i64 y] w (bH λv w'=>v=.int .i64 (jW x y)/\w'=w):=by
 refine cg Tryz.func97 ?_;refine aG 7 ?_ [1,5];refine bZ Tryz.call161 (R8 _ _) ?_;rintro lX w1 ⟨rfl,rfl⟩;refine bQ 5 ?_ [5];refine bZ Tryz.call161 (R8 _ _) ?_;rintro kO w2 ⟨rfl,rfl⟩;refine ay 23 ?_ [1,1,7];refine bF 16 rfl (λen=>?_) (λen=>?_)
 ·
  refine aI 4 ?_ [1];refine bI Tryz.func97 ?_;exact⟨eq_int (by unfold jW;split<;>(try split)<;>omega),rfl⟩
 refine aI 8 ?_ [7];refine bF 19 rfl (λrH=>?_) (λrH=>?_)
 ·
  refine aI 4 ?_ [1];refine bI Tryz.func97 ?_;exact⟨eq_int (by unfold jW;split<;>(try split)<;>omega),rfl⟩
 refine aI 5 ?_ [1];refine bI Tryz.func97 ?_;exact⟨eq_int (by unfold jW;split<;>(try split)<;>omega),rfl⟩
namespace ZR
def c0:=cw Tryz.f53
def o1:=di (cl (aC c0))
end ZR
theorem vT {w₀:World} {C:Nat->Nat} {x y:ak} (hF:aL w₀ C):Calls Tryz.prog 53 #[.agg #[.int .i64 x.a,.int .i64 x.b],.agg #[.int .i64 y.a,.int .i64 y.b]] w₀ (bH λv w'=>v=.int .i64 (jq x y)/\ax [] w₀ C w' C):=by
 have bq:=hF;have hT:=z9 w₀ C;replace hF:=hF.bk;refine cg Tryz.func53 ?_;refine aG 2 ?_ [4];refine bD (eX (cs:=[.int .i64 x.a,.int .i64 x.b]) hF 3 rfl rfl) ?_;rintro _ w1 ⟨eP,ct,rfl,s_1,hx,hF⟩;refine bD (eX (cs:=[.int .i64 y.a,.int .i64 y.b]) hF 3 rfl rfl) ?_;rintro _ w2 ⟨dm,ew,rfl,s_2,hy,hF⟩;refine ay 3 ?_;refine cm [] (dm) [1,3,5,7,11,13,15,17,8,18,20,22,25] b5 ?_;intro w3 aB;have hR:=ax.refl [] w3 (dm);refine aj 1 ?_ [0];replace hx:=(hx.t s_2).t aB;refine fW hx.sz ?_;refine aj 1 ?_ [0];replace hy:=hy.t aB;refine fW hy.sz ?_;refine aj 1 ?_ [1];refine fW hx.sz ?_;refine aj 1 ?_ [1];refine fW hy.sz ?_;refine dC Tryz.call97 (EU _ _ _) ?_;rintro j4 w4 ⟨rfl,rfl⟩;refine⟨hR.ext,?_⟩;refine dC Tryz.call97 (EU _ _ _) ?_;rintro mP ez ⟨rfl,rfl⟩;refine⟨hR.ext,?_⟩;replace hF:=hF.st aB;refine ej (fk (ys:=([jW x.a y.a,jW x.b y.b]:List Int)) (e:=3) (bytes:=8) hF aq rfl ai ai ⟨rfl,⟨_,rfl,jc.2 rfl⟩,rfl,⟨_,rfl,jc.2 rfl⟩,trivial⟩) ?_;rintro vU fE ⟨aM,g15,hF⟩;refine⟨(hR.trans aM aF).ext,?_⟩;refine dC Tryz.call96 (Ia g15) ?_;rintro mE w7 ⟨rfl,rfl⟩;replace hR:=hR.t aM;refine⟨hR.ext,?_⟩;refine ay 2 ?_;refine bI Tryz.func53 ?_;replace hT:=(((hT.t s_1).t s_2).t aB).t aM;exact⟨rfl,hT.bN ai⟩
theorem Ib (x y:ak):Go.Proofs.ltOf jq x y=!p_ y x:=by unfold p_ Go.Proofs.ltOf;simp
theorem ZS:Go.Sort.SWO (Go.Proofs.ltOf jq) where
 irrefl x:=by rw[Ib];simp[y4]
 trans x y z h h':=by
  rw[Ib] at*;simp only[Bool.not_eq_true',Bool.eq_false_iff,ne_eq,y4] at*;omega
 ntrans x y z h h':=by
  rw[Ib] at*;simp only[Bool.not_eq_false',y4] at*;omega
theorem ZT (x y:ak) (h:Go.Proofs.ltOf jq x y=false) (h':Go.Proofs.ltOf jq y x=false):x=y:=by
 rw[Ib] at h h';simp only[Bool.not_eq_false'] at h h';exact KV x y h' h
theorem R9 {w:World} {C:Nat->Nat} {j:Nat} {v:Value} {ys:List ak} (hF:aL w C) (ho:bg w C j 55 v ys) (hlen:ys.length<=140737488355328):
  Calls Tryz.prog 185 #[v,.func (.func 53) #[] #[]] w (bH λu w'=>u=.tuple #[]/\ax [j] w C w' C/\bg w' C j 55 v (jJ ys)/\aL w' C):=
 QS (enc:=Qy) (cf:=jq) Go.Proofs.Tryz.sortCouple (λw=>Tryz.isAgg55 w) (λw=>Tryz.sizeOf55 w)
  (λh M x vs=>⟨λhr=>by obtain⟨us,ws,rfl,h1,h2⟩:=hr;rw[show us=[.int .i64 x.a] from h1,show ws=[.int .i64 x.b] from h2];rfl,λhr=>by subst hr;exact⟨[.int .i64 x.a],[.int .i64 x.b],rfl,rfl,rfl⟩⟩)
  (λx=>rfl) ai (λx u hu=>by simp only[Qy,List.mem_cons,List.not_mem_nil,or_false] at hu;rcases hu with rfl|rfl<;>rfl) ZS ZT (λargs w=>Tryz.call53 args w)
  (λW x y=>(vT (C:=λ_=>0) (λb hb=>absurd rfl hb)).mono (by rintro e w' ⟨u,rfl,rfl,hs⟩;exact⟨_,rfl,rfl,hs.ext.mono (λb _ hb=>by simp at hb)⟩)) hF ho hlen
namespace ZU
def c0:=cw Tryz.f170
end ZU
theorem EV {w₀:World} {C:Nat->Nat} {x:ak} (hF:aL w₀ C):Calls Tryz.prog 170 #[.agg #[.int .i64 x.a,.int .i64 x.b]] w₀ (bH λv w'=>v=.bool (mK x)/\ax [] w₀ C w' C):=by
 have bq:=hF;have hT:=z9 w₀ C;replace hF:=hF.bk;refine cg Tryz.func170 ?_;refine aG 2 ?_ [2];refine bD (eX (cs:=[.int .i64 x.a,.int .i64 x.b]) hF 3 rfl rfl) ?_;rintro _ w1 ⟨eP,ct,rfl,s_1,hx,hF⟩;refine ay 2 ?_;refine kp (af 1 (aR _)) ?_;refine aI 1 ?_;refine kJ 2 (mK x) (eP) ?_ ?_
 ·
  intro c5;by_cases hA:0<=x.a
  ·
   by_cases hB:x.a<4
   ·
    by_cases hC:1<=x.b
    ·
     refine aG 2 ?_ [490461,0];refine bU hx.at_ ?_;refine dT hA ?_;refine aj 2 ?_ [0];refine bU hx.at_ ?_;refine dT hB ?_;refine aj 3 ?_ [1];refine bU hx.at_ ?_;refine dT hC ?_;refine aj 3 ?_ [1];refine bU hx.at_ ?_;refine aj 3 ?_;exact cD.nil (c5 _ _ _ (ax.refl _ _ _) rfl (by unfold mK;rw[decide_eq_true hA,decide_eq_true hB,decide_eq_true hC];rfl) (ef 19))
    refine aG 2 ?_ [490461,0];refine bU hx.at_ ?_;refine dT hA ?_;refine aj 2 ?_ [0];refine bU hx.at_ ?_;refine dT hB ?_;refine aj 3 ?_ [1];refine bU hx.at_ ?_;refine ey hC ?_;refine aj 7 ?_;exact cD.nil (c5 _ _ _ (ax.refl _ _ _) rfl (by unfold mK;rw[decide_eq_true hA,decide_eq_true hB,decide_eq_false hC];rfl) (ef 19))
   refine aG 2 ?_ [490461,0];refine bU hx.at_ ?_;refine dT hA ?_;refine aj 2 ?_ [0];refine bU hx.at_ ?_;refine ey hB ?_;refine aj 12 ?_;exact cD.nil (c5 _ _ _ (ax.refl _ _ _) rfl (by unfold mK;rw[decide_eq_true hA,decide_eq_false hB];rfl) (ef 19))
  refine aG 2 ?_ [490461,0];refine bU hx.at_ ?_;refine ey hA ?_;refine aj 16 ?_;exact cD.nil (c5 _ _ _ (ax.refl _ _ _) rfl (by unfold mK;rw[decide_eq_false hA];rfl) (ef 19))
 intro w2 s_2;refine bI Tryz.func170 ?_;replace hT:=(hT.t s_1).t s_2;exact⟨rfl,hT.bN ai⟩
namespace ZV
def c0:=cw Tryz.f100
end ZV
theorem td {w₀:World} {C:Nat->Nat} {x:ak} (hF:aL w₀ C):Calls Tryz.prog 100 #[.agg #[.int .i64 x.a,.int .i64 x.b]] w₀ (bH λv w'=>v=.bool (mK x)/\ax [] w₀ C w' C):=by
 have bq:=hF;have hT:=z9 w₀ C;replace hF:=hF.bk;refine cg Tryz.func100 ?_;refine aG 2 ?_ [2];refine bD (eX (cs:=[.int .i64 x.a,.int .i64 x.b]) hF 3 rfl rfl) ?_;rintro _ w1 ⟨eP,ct,rfl,s_1,hx,hF⟩;refine ay 2 ?_;refine kp (af 1 (aR _)) ?_;refine aI 1 ?_;refine kJ 2 (mK x) (eP) ?_ ?_
 ·
  intro c5;by_cases hA:0<=x.a
  ·
   by_cases hB:x.a<4
   ·
    by_cases hC:1<=x.b
    ·
     refine aG 2 ?_ [490461,0];refine bU hx.at_ ?_;refine dT hA ?_;refine aj 2 ?_ [0];refine bU hx.at_ ?_;refine dT hB ?_;refine aj 3 ?_ [1];refine bU hx.at_ ?_;refine dT hC ?_;refine aj 3 ?_ [1];refine bU hx.at_ ?_;refine aj 3 ?_;exact cD.nil (c5 _ _ _ (ax.refl _ _ _) rfl (by unfold mK;rw[decide_eq_true hA,decide_eq_true hB,decide_eq_true hC];rfl) (ef 19))
    refine aG 2 ?_ [490461,0];refine bU hx.at_ ?_;refine dT hA ?_;refine aj 2 ?_ [0];refine bU hx.at_ ?_;refine dT hB ?_;refine aj 3 ?_ [1];refine bU hx.at_ ?_;refine ey hC ?_;refine aj 7 ?_;exact cD.nil (c5 _ _ _ (ax.refl _ _ _) rfl (by unfold mK;rw[decide_eq_true hA,decide_eq_true hB,decide_eq_false hC];rfl) (ef 19))
   refine aG 2 ?_ [490461,0];refine bU hx.at_ ?_;refine dT hA ?_;refine aj 2 ?_ [0];refine bU hx.at_ ?_;refine ey hB ?_;refine aj 12 ?_;exact cD.nil (c5 _ _ _ (ax.refl _ _ _) rfl (by unfold mK;rw[decide_eq_true hA,decide_eq_false hB];rfl) (ef 19))
  refine aG 2 ?_ [490461,0];refine bU hx.at_ ?_;refine ey hA ?_;refine aj 16 ?_;exact cD.nil (c5 _ _ _ (ax.refl _ _ _) rfl (by unfold mK;rw[decide_eq_false hA];rfl) (ef 19))
 intro w2 s_2;refine bI Tryz.func100 ?_;replace hT:=(hT.t s_1).t s_2;exact⟨rfl,hT.bN ai⟩
namespace ZW
def c0:=cw Tryz.f105
end ZW
theorem R_ {w₀:World} {C:Nat->Nat} {x y:ak} (hF:aL w₀ C):Calls Tryz.prog 105 #[.agg #[.int .i64 x.a,.int .i64 x.b],.agg #[.int .i64 y.a,.int .i64 y.b]] w₀ (bH λv w'=>v=.bool (jK x y)/\ax [] w₀ C w' C):=by
 have bq:=hF;have hT:=z9 w₀ C;replace hF:=hF.bk;refine cg Tryz.func105 ?_;refine aG 2 ?_ [4];refine bD (eX (cs:=[.int .i64 x.a,.int .i64 x.b]) hF 3 rfl rfl) ?_;rintro _ w1 ⟨eP,ct,rfl,s_1,hx,hF⟩;refine bD (eX (cs:=[.int .i64 y.a,.int .i64 y.b]) hF 3 rfl rfl) ?_;rintro _ w2 ⟨dm,ew,rfl,s_2,hy,hF⟩;refine ay 2 ?_;refine kp (af 2 (af 3 (aR _))) ?_;refine aI 1 ?_;refine kJ 4 (jK x y) (dm) ?_ ?_
 ·
  intro c5;by_cases hA:mK x=true
  ·
   by_cases hB:mK y=true
   ·
    refine aG 1 ?_ [15076];have hcs:=ax.ou hF;replace hx:=hx.t s_2;refine ov (om (n:=2) hx.at_ aq aq rfl rfl rfl) ?_;refine bZ Tryz.call170 (EV hF) ?_;rintro lP w3 ⟨rfl,aB⟩;rw[hA];refine aj 1 ?_;replace hy:=hy.t aB;refine ov (om (n:=2) hy.at_ aq aq rfl rfl rfl) ?_;replace hF:=hF.st aB;refine bZ Tryz.call170 (EV hF) ?_;rintro j4 w4 ⟨rfl,aM⟩;rw[hB];refine aj 3 ?_ [0];replace hx:=(hx.t aB).t aM;refine bU hx.at_ ?_;refine aj 1 ?_ [0];replace hy:=hy.t aM;refine bU hy.at_ ?_;refine aj 3 ?_;replace hcs:=(hcs.t aB).t aM;exact cD.nil (c5 _ _ _ hcs rfl (by unfold jK;rw[hA,hB];rfl) (ef 14))
   refine aG 1 ?_ [15076];have hcs:=ax.ou hF;replace hx:=hx.t s_2;refine ov (om (n:=2) hx.at_ aq aq rfl rfl rfl) ?_;refine bZ Tryz.call170 (EV hF) ?_;rintro mP ez ⟨rfl,aV⟩;rw[hA];refine aj 1 ?_;replace hy:=hy.t aV;refine ov (om (n:=2) hy.at_ aq aq rfl rfl rfl) ?_;replace hF:=hF.st aV;refine bZ Tryz.call170 (EV hF) ?_;rintro nr fE ⟨rfl,aX⟩;rw[Bool.eq_false_iff.2 hB];refine aj 9 ?_;replace hcs:=(hcs.t aV).t aX;exact cD.nil (c5 _ _ _ hcs rfl (by unfold jK;rw[hA,Bool.eq_false_iff.2 hB];simp) (ef 14))
  refine aG 1 ?_ [15076];have hcs:=ax.ou hF;replace hx:=hx.t s_2;refine ov (om (n:=2) hx.at_ aq aq rfl rfl rfl) ?_;refine bZ Tryz.call170 (EV hF) ?_;rintro mE w7 ⟨rfl,bp⟩;rw[Bool.eq_false_iff.2 hA];refine aj 12 ?_;replace hcs:=hcs.t bp;exact cD.nil (c5 _ _ _ hcs rfl (by unfold jK;rw[Bool.eq_false_iff.2 hA];simp) (ef 14))
 intro fR bt;refine bI Tryz.func105 ?_;replace hT:=((hT.t s_1).t s_2).t bt;exact⟨rfl,hT.bN ai⟩
namespace ZX
def c0:=cw Tryz.f143
def o1:=di (cl (aC c0))
end ZX
theorem Sb {w₀:World} {C:Nat->Nat} {a b c d:ak} (hF:aL w₀ C):Calls Tryz.prog 143 #[.agg #[.int .i64 a.a,.int .i64 a.b],.agg #[.int .i64 b.a,.int .i64 b.b],.agg #[.int .i64 c.a,.int .i64 c.b],.agg #[.int .i64 d.a,.int .i64 d.b]] w₀ (bH λv w'=>v=.int .i64 (r8 a b c d)/\ax [] w₀ C w' C):=by
 have bq:=hF;have hT:=z9 w₀ C;replace hF:=hF.bk;refine cg Tryz.func143 ?_;refine aG 2 ?_ [16];refine bD (eX (cs:=[.int .i64 a.a,.int .i64 a.b]) hF 3 rfl rfl) ?_;rintro _ w1 ⟨eP,ct,rfl,s_1,ha,hF⟩;refine bD (eX (cs:=[.int .i64 b.a,.int .i64 b.b]) hF 3 rfl rfl) ?_;rintro _ w2 ⟨dm,ew,rfl,s_2,hb,hF⟩;refine bD (eX (cs:=[.int .i64 c.a,.int .i64 c.b]) hF 3 rfl rfl) ?_;rintro _ w3 ⟨nt,pz,rfl,aB,hc,hF⟩;refine bD (eX (cs:=[.int .i64 d.a,.int .i64 d.b]) hF 3 rfl rfl) ?_;rintro _ w4 ⟨gR,pE,rfl,aM,hd,hF⟩;refine ay 3 ?_;refine cm [] (gR) [1,3,7,9,4,10,12,14,17] b5 ?_;intro ez aV;have hR:=ax.refl [] ez (gR);replace ha:=(((ha.t s_2).t aB).t aM).t aV;refine lW (λw' hS=>om (n:=2) (ha.stay hS ai) aq aq rfl rfl rfl) ?_;replace hc:=(hc.t aM).t aV;refine lW (λw' hS=>om (n:=2) (hc.stay hS ai) aq aq rfl rfl rfl) ?_;replace hb:=((hb.t aB).t aM).t aV;refine lW (λw' hS=>om (n:=2) (hb.stay hS ai) aq aq rfl rfl rfl) ?_;replace hd:=hd.t aV;refine lW (λw' hS=>om (n:=2) (hd.stay hS ai) aq aq rfl rfl rfl) ?_;replace hF:=hF.st aV;refine dC Tryz.call53 (vT hF) ?_;rintro nr fE ⟨rfl,aX⟩;refine⟨(hR.trans aX aF).ext,?_⟩;replace hF:=hF.st aX;refine dC Tryz.call53 (vT hF) ?_;rintro mE w7 ⟨rfl,bp⟩;replace hR:=hR.t aX;refine⟨(hR.trans bp aF).ext,?_⟩;replace hF:=hF.st bp;refine ej (fk (ys:=([jq a c,jq b d]:List Int)) (e:=3) (bytes:=8) hF aq rfl ai ai ⟨rfl,⟨_,rfl,jc.2 rfl⟩,rfl,⟨_,rfl,jc.2 rfl⟩,trivial⟩) ?_;rintro vU fR ⟨bt,g15,hF⟩;replace hR:=hR.t bp;refine⟨(hR.trans bt aF).ext,?_⟩;refine dC Tryz.call96 (Ia g15) ?_;rintro vV gE ⟨rfl,rfl⟩;replace hR:=hR.t bt;refine⟨hR.ext,?_⟩;refine ay 2 ?_;refine bI Tryz.func143 ?_;replace hT:=(((((((hT.t s_1).t s_2).t aB).t aM).t aV).t aX).t bp).t bt;exact⟨rfl,hT.bN ai⟩
end
end Go.Proofs.YtmdhggfehknjjaaGreat
namespace Go.Proofs.YtmdhggfehknjjaaGreat
open Go.K Go.K.aZ
noncomputable section
namespace ZY
def c0:=cw Tryz.f82
def kP:=(cl (aC (cl (aC (aC c0)))))
def tf:=(cl (cl (aC (aC (cl kP)))))
def uv:=(aC (aC (aC (cl (aC tf)))))
def zl:=di (cl (aC uv))
end ZY
theorem Ic {w₀:World} {C:Nat->Nat} {l:List aD} {aK:Value} (hF:aL w₀ C) (hl:av w₀ (au C) l aK):Calls Tryz.prog 82 #[aK] w₀ (bH λv w'=>v=.int .i64 (gD l)/\ax [] w₀ C w' C):=by
 have bq:=hF;have hT:=z9 w₀ C;replace hF:=hF.bk;replace hl:=hl.c1;refine cg Tryz.func82 ?_;refine aG 8 ?_ [1,7];refine dE hl.ln ?_;refine ay 2 ?_;refine bF 7 rfl (λh7=>?_) (λh7=>?_)
 ·
  refine aI 4 ?_ [1];refine bI Tryz.func82 ?_;exact⟨by rw[QC ah],hT.bN ai⟩
 have hlim:l.length<=4096:=by omega
 refine aG 5 ?_ [7];refine dE hl.ln ?_;refine ay 3 ?_;refine cH (ι:=Nat×(Nat->Nat)) (I:=λx w=>x.1<=l.length/\(∀k,k<x.1->uc l k=0)/\aL w x.2/\ax [2,3,4,5,6,7,8,9] w₀ (bk C) w x.2/\av w (au x.2) l aK) (e:=λx=>[(0,aK),(8,aK),(9,.int .i64 l.length),(10,.int .i64 x.1)]) (m:=λx=>l.length-x.1) (cC:=(0,bk C)) (af 0 (af 8 (af 9 (af 10 (aR _))))) ?_ ?_
 · exact⟨Nat.zero_le _,λk hk=>by simp at hk,hF,hT,hl⟩
 intro⟨i,a_⟩ w1 hI bV;obtain⟨hi,h0,hF,hT,hl⟩:=hI;try simp only at hi h0 hF hT hl
 show Run _ _ _ _ [(0,aK),(8,aK),(9,.int .i64 l.length),(10,.int .i64 i)] _ _;refine aI 5 ?_ [1];refine bF 11 rfl (λkQ=>?_) (λkQ=>?_)
 ·
  have hil:i<l.length:=by omega
  have hE:=K0 hil;refine aG 6 ?_ [19];refine bn hl ?_;intro _ Ie Ig k5;refine iq k5 ?_;intro C8 g14;obtain rfl:=gY.1 g14;refine bD (fD (cs:=[.int .i64 0,.int .i64 0,.int .i64 0,.int .i64 0,.int .i64 0]) hF 4 aq) ?_;rintro _ w2 ⟨dm,ew,rfl,s_1,hx,hF⟩;refine aj 1 ?_;refine cq (eO (vs:=iH (l[i]'hil)) (n:=5) rfl rfl aq rfl rfl (jf rfl) hx rfl) ?_;rintro _ w3 ⟨rfl,s_2,hx⟩;refine bQ 5 ?_ [101,0];refine cu 2 (bh (l[i]'hil).A) hx.at_ ?_;refine aj 1 ?_ [2];refine cu 2 (bh (l[i]'hil).B) hx.at_ ?_;replace hF:=hF.st s_2;refine bZ Tryz.call105 (R_ (x:=(l[i]'hil).A) (y:=(l[i]'hil).B) hF) ?_;rintro j4 w4 ⟨rfl,aB⟩;refine ay 3 ?_;refine gJ 15 rfl (λjO=>?_) (λjO=>?_)
  ·
   refine aI 4 ?_ [1];refine bI Tryz.func82 ?_;rw[if_pos (by simpa using jO)] at hE;replace hT:=((hT.t s_1).t s_2).t aB;exact⟨by rw[CB hlim hil h0 (by rw[hE];decide),hE],hT.bN ai⟩
  refine aI 1 ?_;refine kJ 22 (decide ((l[i]'hil).w<1\/1048576<(l[i]'hil).w)) (dm) ?_ ?_
  ·
   intro c5;by_cases hA: (l[i]'hil).w<1
   ·
    refine aG 2 ?_ [477,4];replace hx:=hx.t aB;refine bU hx.at_ ?_;refine dT hA ?_;refine aj 6 ?_;exact cD.nil (c5 _ _ _ (ax.refl _ _ _) rfl (by rw[decide_eq_true (Or.inl hA)]) (ef 9))
   refine aG 2 ?_ [477,4];replace hx:=hx.t aB;refine bU hx.at_ ?_;refine ey hA ?_;refine aj 2 ?_ [4];refine bU hx.at_ ?_;refine aj 3 ?_;exact cD.nil (c5 _ _ _ (ax.refl _ _ _) rfl (by congr 1;apply decide_eq_decide.2;omega) (ef 9))
  intro ez aM;refine bF 22 rfl (λiM=>?_) (λiM=>?_)
  ·
   refine aI 4 ?_ [1];refine bI Tryz.func82 ?_;rw[if_neg (by simpa using jO),if_pos iM] at hE;replace hT:=(((hT.t s_1).t s_2).t aB).t aM;exact⟨by rw[CB hlim hil h0 (by rw[hE];decide),hE],hT.bN ai⟩
  refine aI 1 ?_;refine kJ 31 (decide (0<i/\¬gZ (l[i-1]'ah) (l[i]'hil))) (dm) ?_ ?_
  ·
   intro c5;by_cases hA: (0:Int)<i
   ·
    refine cm [] (dm) [1,3,5,7,9,11,13,15,17,19,21,23,25,27,29,31,33,35,37,38,41,43,45] b5 ?_;intro fE aV;have hcs:=aV;have hR:=ax.refl [] fE (dm);refine aj 1 ?_;refine dT hA ?_;refine aj 4 ?_;replace hl:=((((hl.t s_1).t s_2).t aB).t aM).t aV;refine bn hl ?_;intro _ zm Sc uw;have k6:=bJ.jr uw;refine aj 1 ?_ [0];refine ck k6 ?_;intro v40 gK;obtain rfl:=bR.1 gK;refine aj 3 ?_;refine bn hl ?_;intro _ agi agj jP;have ZZ:=bJ.mJ jP;refine aj 1 ?_ [2];refine ck ZZ ?_;intro v46 A6;obtain rfl:=bR.1 A6;refine aj 1 ?_ [0];replace hx:=((hx.t aB).t aM).t aV;refine dn 2 (bh (l[i]'hil).A) hx.sz ?_;refine aj 1 ?_ [2];refine dn 2 (bh (l[i]'hil).B) hx.sz ?_;replace hF:=((hF.st aB).st aM).st aV;refine dC Tryz.call143 (Sb (c:=(l[i]'hil).A) (d:=(l[i]'hil).B) hF) ?_;rintro mE w7 ⟨rfl,aX⟩;refine⟨(hR.trans aX aF).ext,?_⟩;refine aj 3 ?_;replace hcs:=hcs.t aX;exact cD.nil (c5 _ _ _ hcs rfl (by
  have e1: ((i:Int)-1).toNat=i-1:=by omega
  congr 1;apply decide_eq_decide.2;simp only[e1];rw[QA];exact⟨λh=>⟨by omega,h⟩,λh=>h.2⟩) (ef 23))
   refine cm [] (dm) [1,3,5,7,9,11,13,15,17,19,21,23,25,27,29,31,33,35,37,38,41,43,45] b5 ?_;intro fR bp;have hcs:=bp;have hR:=ax.refl [] fR (dm);refine aj 1 ?_;refine ey hA ?_;refine aj 21 ?_;exact cD.nil (c5 _ _ _ hcs rfl (by rw[decide_eq_false (λe=>hA ah)]) (ef 23))
  intro gE bt;refine bF 31 rfl (λpF=>?_) (λpF=>?_)
  ·
   refine aI 4 ?_ [1];refine bI Tryz.func82 ?_;rw[if_neg (by simpa using jO),if_neg iM,if_pos pF] at hE;replace hT:=((((hT.t s_1).t s_2).t aB).t aM).t bt;exact⟨by rw[CB hlim hil h0 (by rw[hE];decide),hE],hT.bN ai⟩
  refine aI 7 ?_ [3];replace hT:=((((hT.t s_1).t s_2).t aB).t aM).t bt;replace hl:=((((hl.t s_1).t s_2).t aB).t aM).t bt;replace hF:=((hF.st aB).st aM).st bt;refine kp (aH 0 rfl rfl (aH 8 rfl rfl (aH 9 rfl rfl (aH 10 rfl (eq_int aF) (aR _))))) (bV (i+1,dm) _ ⟨aJ,(λk hk=>by
     simp only at hk;by_cases e:k=i
     ·subst e;rw[hE,if_neg (by simpa using jO),if_neg iM,if_neg pF]
     ·exact h0 k ah),hF,hT,hl⟩ aJ)
 have hil:i=l.length:=by omega
 refine aI 5 ?_ [1];refine bI Tryz.func82 ?_;subst hil;exact⟨by rw[KZ hlim h0],hT.bN ai⟩
end
end Go.Proofs.YtmdhggfehknjjaaGreat
namespace Go.Proofs.YtmdhggfehknjjaaGreat
open Go.K Go.K.aZ
noncomputable section
namespace Z0
def c0:=cw Tryz.f186
def kP:=(cl (aC (cl (aC (aC c0)))))
def nu:=(cl (cl (cl (aC (cl kP)))))
def ru:=di nu
def rI:=(aC (cl (cl (aC (cl kP)))))
def A7:=(cl (aC (cl (aC (cl rI)))))
def A8:=(cl (cl (cl (aC (cl A7)))))
def EW:=di A8
end Z0
theorem Z1 {w₀:World} {C:Nat->Nat} {j:Nat} {v:Value} {xs:List ak} (hF:aL w₀ C) (hj:j≠0) (ho:bg w₀ C j 55 v xs) (hlen:xs.length<=140737488355328):
    Calls Tryz.prog 186 #[v] w₀ (bH λu w'=>ax [j] w₀ C w' C/\bg w' C j 55 u (iG xs)/\aL w' C):=by
 have hT:=ax.refl [j] w₀ C;refine cg Tryz.func186 ?_;refine aG 8 ?_ [1,7];refine dE ho.ln ?_;refine ay 2 ?_;refine bF 8 rfl (λh8=>?_) (λh8=>?_)
 ·
  have hx:iG xs=xs:=by
    match xs,h8 with
    |[],_=>rfl
    |[a],_=>rfl
    |a::b::l,h=>simp at h;omega
  refine aI 5 ?_ [3];refine bI Tryz.func186 ?_;exact⟨hT,by rw[hx];exact ho,hF⟩
 have h2:2<=xs.length:=by omega
 have LU:iG (xs.take 1)=xs.take 1:=by
   obtain⟨a,l,rfl⟩:∃a l,xs=a::l:=by cases xs with|nil=>simp at h2|cons a l=>exact⟨a,l,rfl⟩
   simp[iG]
 refine aI 7 ?_ [1];refine cH (ι:=Nat) (I:=λx w=>1<=x/\x<=xs.length/\iG (xs.take x)=xs.take x/\aL w C/\ax [j] w₀ C w C/\bg w C j 55 v xs) (e:=λx=>[(0,v),(3,.int .i64 x)]) (m:=λx=>xs.length-x) (cC:=1) (af 0 (af 3 (aR _))) ?_ ?_
 · exact⟨Nat.le_refl _,by first|omega|(simp only;omega),LU,hF,hT,ho⟩
 intro k w1 hI bV;obtain⟨qA,hk,hc,hF,hT,ho⟩:=hI;try simp only at qA hk hc hF hT ho
 show Run _ _ _ _ [(0,v),(3,.int .i64 k)] _ _;refine aG 5 ?_ [15];refine dE ho.ln ?_;refine ay 2 ?_;refine bF 13 rfl (λk5=>?_) (λk5=>?_)
 ·
  have aA:k<xs.length:=by omega
  have ux:=Ho qA aA;refine aI 4 ?_;refine cm [] (C) [1,3,5,7,9,11,13,15,17,19] b5 ?_;intro w2 s_1;refine aj 2 ?_;replace ho:=ho.t s_1;refine dx ho ?_;intro g18 LV;refine p5 ho LV ?_;intro _ xG g19;refine aj 3 ?_;refine dx ho ?_;intro g23 EX;refine p5 ho EX ?_;intro _ v24 g24;obtain rfl:=bR.1 g19;obtain rfl:=bR.1 g24;refine bK (λ_=>iw (a:=_) (b:=_) Tryz.underlying55 ai ai aq Tryz.underlying3 rfl rfl) ?_;refine ay 1 ?_;refine bF 25 rfl (λje=>?_) (λje=>?_)
  ·
   have hd:xs[k-1]'ah=xs[k]:=by
     have e: ((k:Int)-1).toNat=k-1:=by omega
     simp only[e] at je;exact je.symm
   rw[if_pos hd,hc] at ux;refine aG 4 ?_ [15];refine nz ?_;refine Hh (e':=55) (iT 28 (.slice 52 26 (some 27) none none)) rfl rfl ho rfl aq rfl ah ah ?_;intro v28 iz;try simp only[fP] at iz
   obtain⟨Z2,sA⟩:=ho.Hf ah;refine cK ?_;refine ay 8 ?_ [1];refine cH (ι:=Nat×Nat×(List ak)) (I:=λx w=>1<=x.1/\k+x.1<=xs.length/\x.2.2.length=xs.length/\x.2.1+1<=k+x.1/\(∀p (hp:p<xs.length) (hp2:p<x.2.2.length),k+x.1<=p+1->x.2.2[p]=xs[p])/\x.2.2.take x.2.1=iG (xs.take (k+x.1))/\aL w C/\ax [j] w₀ C w C/\bg w C j 55 v x.2.2) (e:=λx=>[(0,v),(3,.int .i64 x.2.1),(4,v28),(5,.int .i64 x.1)]) (m:=λx=>xs.length-k-x.1) (cC:=(1,k,xs)) (af 0 (af 3 (af 4 (af 5 (aR _))))) ?_ ?_
   ·
     replace hF:=hF.st s_1;replace hT:=hT.t s_1;exact⟨Nat.le_refl _,by first|omega|(simp only;omega),rfl,by first|omega|(simp only;omega),λp _ _ _=>rfl,ux.symm,hF,hT,ho⟩
   intro⟨q,i,ys⟩ w3 hI ei;obtain⟨hq1,hq,xH,hi,hys,l6,hF,hT,ho⟩:=hI;try simp only at hq1 hq xH hi hys l6 hF hT ho
   show Run _ _ _ _ [(0,v),(3,.int .i64 i),(4,v28),(5,.int .i64 q)] _ _;refine aG 5 ?_ [15];refine dE iz.ln ?_;refine ay 2 ?_;refine bF 32 rfl (λg_=>?_) (λg_=>?_)
   ·
    have iA:k+q<xs.length:=by omega
    have xI:=Ho (l:=xs) (k:=k+q) ah iA;have e1:k+((q:Int)-1).toNat=k+q-1:=by omega
    refine aI 4 ?_;refine cm [] (C) [1,3,5,7,9,11,13,15,17,19] b5 ?_;intro w4 s_2;refine aj 2 ?_;refine bK (λ_=>Cu (e':=55) iz sA aq rfl rfl ah ah) ?_;try simp only[fP]
    replace ho:=ho.t s_2;refine p5 ho sA ?_;intro _ Ih xJ;refine aj 3 ?_;refine bK (λ_=>Cu (e':=55) iz sA aq rfl rfl ah ah) ?_;try simp only[fP]
    refine p5 ho sA ?_;intro _ vW vX;obtain rfl:=bR.1 xJ;obtain rfl:=bR.1 vX;refine bK (λ_=>Hj (a:=_) (b:=_) Tryz.underlying55 ai ai aq Tryz.underlying3 rfl rfl) ?_;refine ay 1 ?_;refine bF 44 rfl (λjP=>?_) (λjP=>?_)
    ·
     have r1:=hys (k+q) ah ah ah;have r2:=hys (k+q-1) ah ah ah;have hd:¬xs[k+q-1]'ah=xs[k+q]:=by
       simp only[e1,r1,r2] at jP;exact λe=>jP e.symm
     rw[if_neg hd,<-l6] at xI;refine aG 6 ?_ [95];refine bK (λ_=>Cu (e':=55) iz sA aq rfl rfl ah ah) ?_;try simp only[fP]
     refine lI ho sA ?_;intro _ v50 hU;refine dx ho ?_;intro iY pG;refine cq (iU ho pG (by first|omega|(simp only[fP];omega)) rfl rfl aq hU) ?_;rintro _ ez ⟨rfl,aB,ho⟩;replace hT:=hT.t s_2;replace hT:=hT.trans aB (by simp<;>omega);refine ay 12 ?_ [7,7];replace hF:=(hF.st s_2).st aB;refine kp (af 0 (aH 3 rfl (eq_int aF) (af 4 (aH 5 rfl (eq_int aF) (aR _))))) (ei (q+1,i+1,ys.set i ys[k+q]) _ ⟨aJ,aJ,(by simp only[List.length_set];exact xH),aJ,(λp hp hp2 h=>by simp only[List.getElem_set];rw[if_neg ah];exact hys p hp ah ah),(by simp only;rw[List.take_succ_eq_append_getElem (by rw[List.length_set];omega),List.take_set_of_le (Nat.le_refl i),List.getElem_set_self,r1];exact xI.symm),hF,hT,ho⟩ aJ)
    have r1:=hys (k+q) ah ah ah;have r2:=hys (k+q-1) ah ah ah;have hd:xs[k+q-1]'ah=xs[k+q]:=by
      simp only[e1,r1,r2] at jP;exact(Classical.not_not.1 jP).symm
    rw[if_pos hd,<-l6] at xI;refine aI 7 ?_ [7];replace hF:=hF.st s_2;replace hT:=hT.t s_2;refine kp (af 0 (af 3 (af 4 (aH 5 rfl (eq_int aF) (aR _))))) (ei (q+1,i,ys) _ ⟨aJ,aJ,aJ,aJ,(λp hp hp2 h=>hys p hp hp2 (by simp only at h;omega)),xI.symm,hF,hT,ho⟩ aJ)
   have iA:k+q=xs.length:=by omega
   rw[iA,List.take_length] at l6;refine aG 5 ?_ [7];refine nz ?_;refine Hh (e':=55) (iT 56 (.slice 52 54 (some 55) none none)) rfl rfl ho rfl aq rfl ah ah ?_;intro LW A9;try simp only[fP] at A9
   obtain⟨Z3,Z4⟩:=ho.Hf ah;refine cK ?_;refine cq (Qj (x0:=(⟨0,0⟩:ak)) (zs:=[.int .i64 0,.int .i64 0]) ho A9 ah ah Tryz.underlying52 aq (λh M=>XW) rfl) ?_;rintro _ wc ⟨aM,ho⟩;replace hT:=hT.trans aM (by simp<;>omega);refine bQ 5 ?_ [15];have Z5: (ys.take i++List.replicate (ys.length-i) (⟨0,0⟩:ak)).length=xs.length:=by simp;omega
   refine nz ?_;refine KP (e':=55) (iT 59 (.slice 52 57 none (some 58) none)) rfl rfl ho rfl aq rfl ah ah ah ?_;intro v59 uy;try simp only[fP] at uy
   refine cK ?_;refine ay 2 ?_;refine bI Tryz.func186 ?_;rw[List.take_left' rT,l6] at uy;replace hF:=hF.st aM;exact⟨hT,uy,hF⟩
  have hd:¬xs[k-1]'ah=xs[k]:=by
    have e: ((k:Int)-1).toNat=k-1:=by omega
    simp only[e] at je;exact λe=>je e.symm
  rw[if_neg hd,hc,<-List.take_succ_eq_append_getElem aA] at ux;refine aI 7 ?_ [7];replace hF:=hF.st s_1;replace hT:=hT.t s_1;refine kp (af 0 (aH 3 rfl (eq_int aF) (aR _))) (bV (k+1) _ ⟨aJ,aJ,ux,hF,hT,ho⟩ aJ)
 have aA:k=xs.length:=by omega
 subst aA;rw[List.take_length] at hc;refine aI 6 ?_ [3];refine bI Tryz.func186 ?_;rw[hc];exact⟨hT,ho,hF⟩
namespace Z6
def c0:=cw Tryz.f130
end Z6
theorem C9 {w₀:World} {C:Nat->Nat} {l:List aD} {aK:Value} (hF:aL w₀ C) (hl:av w₀ (au C) l aK) (hlen:l.length<=100000):Calls Tryz.prog 130 #[aK] w₀ (bH λv w'=>ax [] w₀ C w' C/\av w' (au C) (aO l) v):=by
 have bq:=hF;have hT:=z9 w₀ C;replace hF:=hF.bk;replace hl:=hl.c1;refine cg Tryz.func130 ?_;refine aG 12 ?_ [1,1,7];refine dE hl.ln ?_;refine ay 3 ?_;refine cH (ι:=Nat×Value×(Nat->Nat)) (I:=λx w=>x.1<=l.length/\aL w x.2.2/\ax [2,3,4,5,6,7,8,9] w₀ (bk C) w x.2.2/\av w (au x.2.2) l aK/\bg w x.2.2 3 55 x.2.1 (mL (l.take x.1))) (e:=λx=>[(3,x.2.1),(6,aK),(7,.int .i64 l.length),(8,.int .i64 x.1)]) (m:=λx=>l.length-x.1) (cC:=(0,.slice none 0 0,bk C)) (af 3 (af 6 (af 7 (af 8 (aR _))))) ?_ ?_
 · exact⟨Nat.zero_le _,hF,hT,hl,bg.nil⟩
 intro⟨i,cM,a_⟩ w1 hI bV;obtain⟨hi,hF,hT,hl,ho⟩:=hI;try simp only at hi hF hT hl ho
 show Run _ _ _ _ [(3,cM),(6,aK),(7,.int .i64 l.length),(8,.int .i64 i)] _ _;have hel:=Eu (l.take i);rw[List.length_take] at hel;refine aI 5 ?_ [1];refine bF 9 rfl (λgi=>?_) (λgi=>?_)
 ·
  have hil:i<l.length:=by omega
  refine aG 5 ?_ [1];refine bn hl ?_;intro _ ZO zl jd;refine iq jd ?_;intro v11 g11;obtain rfl:=gY.1 g11;refine bD (fD (cs:=[.int .i64 0,.int .i64 0,.int .i64 0,.int .i64 0,.int .i64 0]) hF 4 aq) ?_;rintro _ w2 ⟨dm,ew,rfl,s_1,hx,hF⟩;refine cq (eO (vs:=iH (l[i]'hil)) (n:=5) rfl rfl aq rfl rfl (jf rfl) hx rfl) ?_;rintro _ w3 ⟨rfl,s_2,hx⟩;refine bQ 4 ?_ [139,0];refine cu 2 (bh (l[i]'hil).A) hx.at_ ?_;refine aj 1 ?_ [2];refine cu 2 (bh (l[i]'hil).B) hx.at_ ?_;replace hF:=hF.st s_2;refine bD (fk (ys:=([(l[i]'hil).A,(l[i]'hil).B]:List ak)) (e:=55) (bytes:=16) hF aq rfl ai ai ⟨rfl,⟨_,rfl,bR.2 rfl⟩,rfl,⟨_,rfl,bR.2 rfl⟩,trivial⟩) ?_;rintro v17 w4 ⟨aB,g17,hF⟩;replace ho:=((ho.t s_1).t s_2).t aB;refine bD (eY (e:=55) (bytes:=16) hF ai rfl rfl aq ai ho g17 fC fC) ?_;rintro qh ez ⟨zo,aM,ho,hF⟩;refine ay 7 ?_ [3];replace hT:=(((hT.t s_1).t s_2).t aB).t aM;replace hl:=(((hl.t s_1).t s_2).t aB).t aM;refine kp (af 3 (af 6 (af 7 (aH 8 rfl (eq_int aF) (aR _))))) (bV (i+1,qh,zo) _ ⟨aJ,hF,hT,hl,(by simp only;rw[QE hil];exact ho)⟩ aJ)
 have hil:i=l.length:=by omega
 subst hil;rw[List.take_length] at ho;refine aG 4 ?_ [1];refine dc Tryz.call185 rfl (R9 hF ho (by rw[Eu];omega)) ?_;rintro nr fE ⟨rfl,aV,ho,_⟩;refine bQ 4 ?_ [5];replace hF:=hF.st aV;refine dc Tryz.call186 rfl (Z1 hF ai ho (by rw[(xq _).length_eq,Eu];omega)) ?_;rintro mE w7 ⟨aX,ho,_⟩;refine ay 2 ?_;refine bI Tryz.func130 ?_;replace hT:=(hT.t aV).t aX;exact⟨hT.bN ai,ho.out hT bq (fu C) (λb _=>jT C ai b) (by have:=lJ l;unfold aO at this;omega)⟩
end
end Go.Proofs.YtmdhggfehknjjaaGreat
namespace Go.Proofs.YtmdhggfehknjjaaGreat
open Go.K Go.K.aZ
noncomputable section
namespace Z7
def c0:=cw Tryz.f91
def qH:=(cl (cl (aC (cl (aC c0)))))
def sB:=(aC (cl (cl (aC (aC qH)))))
def vY:=di (cl sB)
end Z7
theorem Z8 {w₀:World} {C:Nat->Nat} {l:List ak} {c:ak} {aK:Value} (hF:aL w₀ C) (hl:av w₀ (au C) l aK):Calls Tryz.prog 91 #[aK,.agg #[.int .i64 c.a,.int .i64 c.b]] w₀ (bH λv w'=>v=.int .i64 (idxOf (λx=>decide (c=x)) l)/\ax [] w₀ C w' C):=by
 have bq:=hF;have hT:=z9 w₀ C;replace hF:=hF.bk;replace hl:=hl.c1;refine cg Tryz.func91 ?_;refine aG 2 ?_ [2];refine bD (eX (cs:=[.int .i64 c.a,.int .i64 c.b]) hF 3 rfl rfl) ?_;rintro _ w1 ⟨eP,ct,rfl,s_1,hx,hF⟩;refine bQ 6 ?_ [7];replace hl:=hl.t s_1;refine dE hl.ln ?_;refine ay 3 ?_;refine cH (ι:=Nat×(Nat->Nat)) (I:=λx w=>x.1<=l.length/\(∀i (hi:i<x.1) (hl:i<l.length),decide (c=l[i])=false)/\aL w x.2/\ax [2,3,4,5,6,7,8,9] w₀ (bk C) w x.2/\av w (au x.2) l aK/\cE w x.2 3 ct (.cells [.int .i64 c.a,.int .i64 c.b].toArray 55)) (e:=λx=>[(0,aK),(3,.pointer (some ⟨ct,0,none⟩)),(7,.int .i64 l.length),(8,.int .i64 x.1)]) (m:=λx=>l.length-x.1) (cC:=(0,eP)) (af 0 (af 3 (af 7 (af 8 (aR _))))) ?_ ?_
 ·
   replace hT:=hT.t s_1;exact⟨Nat.zero_le _,λi hi _=>by simp only at hi;omega,hF,hT,hl,hx⟩
 intro⟨k,a_⟩ w2 hI bV;obtain⟨hk,h0,hF,hT,hl,hx⟩:=hI;try simp only at hk h0 hF hT hl hx
 show Run _ _ _ _ [(0,aK),(3,.pointer (some ⟨ct,0,none⟩)),(7,.int .i64 l.length),(8,.int .i64 k)] _ _;have hle:=hl.le;refine aI 5 ?_ [1];refine bF 9 rfl (λgi=>?_) (λgi=>?_)
 ·
  have aA:k<l.length:=by omega
  refine aI 9 ?_ [3];refine cm [] (a_) [1,3,5,7,9,11] b5 ?_;intro w3 s_2;replace hx:=hx.t s_2;refine lW (λw' hS=>om (n:=2) (hx.stay hS ai) aq aq rfl rfl rfl) ?_;refine aj 2 ?_;replace hl:=hl.t s_2;refine bn hl ?_;intro _ gT qI fJ;refine ck fJ ?_;intro vU g15;obtain rfl:=bR.1 g15;refine bK (λ_=>iw (a:=c) (b:=_) Tryz.underlying55 ai ai aq Tryz.underlying3 rfl rfl) ?_;refine ay 1 ?_;refine bF 16 rfl (λen=>?_) (λen=>?_)
  ·
   refine aI 5 ?_ [3];refine bI Tryz.func91 ?_;replace hT:=hT.t s_2;exact⟨by rw[AH (p:=λx=>decide (c=x)) aA (λi hi=>h0 i hi ah) (decide_eq_true en)],hT.bN ai⟩
  refine aI 6 ?_ [3];replace hF:=hF.st s_2;replace hT:=hT.t s_2;refine kp (aH 0 rfl rfl (aH 3 rfl rfl (aH 7 rfl rfl (aH 8 rfl (eq_int aF) (aR _))))) (bV (k+1,a_) _ ⟨aJ,(λi hi hl=>by
    simp only at hi;by_cases e:i=k
    ·subst e;exact decide_eq_false en
    ·exact h0 i ah hl),hF,hT,hl,hx⟩ aJ)
 have aA:k=l.length:=by omega
 refine aI 5 ?_ [1];refine bI Tryz.func91 ?_;exact⟨by rw[Ey (p:=λx=>decide (c=x)) (λi hi=>h0 i ah hi)],hT.bN ai⟩
namespace Z9
def c0:=cw Tryz.f49
end Z9
theorem jC {w₀:World} {C:Nat->Nat} {l:List ak} {c:ak} {aK:Value} (hF:aL w₀ C) (hl:av w₀ (au C) l aK):Calls Tryz.prog 49 #[aK,.agg #[.int .i64 c.a,.int .i64 c.b]] w₀ (bH λv w'=>v=.bool (l.any λx=>decide (c=x))/\ax [] w₀ C w' C):=by
 have bq:=hF;have hT:=z9 w₀ C;replace hF:=hF.bk;replace hl:=hl.c1;refine cg Tryz.func49 ?_;refine aG 2 ?_ [2];refine bD (eX (cs:=[.int .i64 c.a,.int .i64 c.b]) hF 3 rfl rfl) ?_;rintro _ w1 ⟨eP,ct,rfl,s_1,hx,hF⟩;refine bQ 5 ?_ [25];refine cu 2 (bh c) hx.at_ ?_;replace hl:=hl.t s_1;refine bZ Tryz.call91 (Z8 hF hl) ?_;rintro kO w2 ⟨rfl,s_2⟩;refine ay 3 ?_;refine bI Tryz.func49 ?_;replace hT:=(hT.t s_1).t s_2;exact⟨by rw[xx],hT.bN ai⟩
end
end Go.Proofs.YtmdhggfehknjjaaGreat
namespace Go.Proofs.YtmdhggfehknjjaaGreat
open Go.K Go.K.aZ
noncomputable section
namespace Z_
def c0:=cw Tryz.f145
def sr:=(cl (cl (cl (cl (aC c0)))))
def o1:=di (cl sr)
def C_:=(aC (cl (cl (cl (aC c0)))))
def o2:=di (cl (cl C_))
end Z_
theorem LX {w₀:World} {C:Nat->Nat} {i b:Nat} {zq:List (ak×ak)} {ρ:ak->ak} {d:ak->Nat} {r:ak} (hF:aL w₀ C) (hi:i≠0) (hm:fZ w₀ C i b dH dH zq) (hf:ox zq ρ d) (hr:∃v,fe zq r=some v):
    Calls Tryz.prog 145 #[.map (some b),.agg #[.int .i64 r.a,.int .i64 r.b]] w₀ (bH λv w'=>v=.agg (bh (ρ r)).toArray/\ax [i] w₀ C w' C/\∃u,fZ w' C i b dH dH u/\ox u ρ d/\fe u (ρ r)=some (ρ r)/\(∀s,(∃v,fe zq s=some v)->∃v,fe u s=some v)/\∀s,fe zq s=some s->fe u s=some s):=by
 have bq:=hF;have hbc:=hm.1;replace hm:=hm.eM hi;have hT:=ax.refl [2,3,4,5,6,7,8,9] w₀ (eM C i);replace hF:=hF.eM i;refine cg Tryz.func145 ?_;refine aG 2 ?_ [0];refine bD (eX (cs:=bh r) hF 3 rfl rfl) ?_;rintro _ w1 ⟨eP,ct,rfl,s_1,hx,hF⟩;refine bD (fD (cs:=[.int .i64 0,.int .i64 0]) hF 4 aq) ?_;rintro _ w2 ⟨dm,ew,rfl,s_2,hy,hF⟩;refine ay 3 ?_;refine cH (ι:=ak×(List (ak×ak))×(Nat->Nat)) (I:=λx w=>ox x.2.1 ρ d/\(∃v,fe x.2.1 x.1=some v)/\ρ x.1=ρ r/\(∀s,(∃v,fe zq s=some v)->∃v,fe x.2.1 s=some v)/\(∀s,fe zq s=some s->fe x.2.1 s=some s)/\aL w x.2.2/\ax [2,3,4,5,6,7,8,9] w₀ (eM C i) w x.2.2/\cE w x.2.2 3 ct (.cells (bh x.1).toArray 55)/\cE w x.2.2 4 ew (.cells [.int .i64 0,.int .i64 0].toArray 55)/\fZ w x.2.2 2 b dH dH x.2.1) (e:=λx=>[(0,.map (some b)),(3,.pointer (some ⟨ct,0,none⟩)),(4,.pointer (some ⟨ew,0,none⟩))]) (m:=λx=>d x.1) (cC:=(r,zq,dm)) (af 0 (af 3 (af 4 (aR _)))) ?_ ?_
 ·
   replace hT:=(hT.t s_1).t s_2;replace hm:=(hm.t s_1).t s_2;replace hx:=hx.t s_2;exact⟨hf,hr,rfl,λs h=>h,λs h=>h,hF,hT,hx,hy,hm⟩
 intro⟨c,u,a_⟩ w3 hI bV;obtain⟨hf,hc,hρ,hdom,zu,hF,hT,hx,hy,hm⟩:=hI;try simp only at hf hc hρ hdom zu hF hT hx hy hm
 show Run _ _ _ _ [(0,.map (some b)),(3,.pointer (some ⟨ct,0,none⟩)),(4,.pointer (some ⟨ew,0,none⟩))] _ _;obtain⟨v,hv⟩:=hc;obtain⟨⟨v2,vZ⟩,Mc,RV,Ii⟩:=hf c v hv;refine aI 2 ?_;refine cm [] (a_) [1,3,5,7,9] b5 ?_;intro w4 aB;refine aj 1 ?_;replace hx:=hx.t aB;refine dn 2 (bh c) hx.sz ?_;replace hm:=hm.t aB;refine lW (λw' hS=>gV ((hm.stay hS ai).lookup (z0:=(⟨0,0⟩:ak)) Tryz.underlying198 (nP Tryz.underlying55 ai ai aq Tryz.underlying3) Tryz.zeroValue55 rfl rfl) (show _=dH v from by rw[hv];rfl)) ?_;refine dn 2 (bh c) hx.sz ?_;refine bK (λ_=>Hj (a:=v) (b:=c) Tryz.underlying55 ai ai aq Tryz.underlying3 rfl rfl) ?_;refine ay 1 ?_;refine bF 9 rfl (λgi=>?_) (λgi=>?_)
 ·
  refine aI 3 ?_;refine cm [] (a_) [1,3,5,7,9,11,13,14] b5 ?_;intro ez aM;have hR:=ax.refl [] ez (a_);refine aj 1 ?_;replace hx:=hx.t aM;refine dn 2 (bh c) hx.sz ?_;refine aj 2 ?_;refine dn 2 (bh c) hx.sz ?_;replace hm:=hm.t aM;refine lW (λw' hS=>gV ((hm.stay hS ai).lookup (z0:=(⟨0,0⟩:ak)) Tryz.underlying198 (nP Tryz.underlying55 ai ai aq Tryz.underlying3) Tryz.zeroValue55 rfl rfl) (show _=dH v from by rw[hv];rfl)) ?_;refine lW (λw' hS=>gV ((hm.stay hS ai).lookup (z0:=(⟨0,0⟩:ak)) Tryz.underlying198 (nP Tryz.underlying55 ai ai aq Tryz.underlying3) Tryz.zeroValue55 rfl rfl) (show _=dH v2 from by rw[vZ];rfl)) ?_;refine jU rfl ?_;refine cq (xo (k:=c) (u:=v2) hm Tryz.underlying198 (nP Tryz.underlying55 ai ai aq Tryz.underlying3) rfl rfl rfl) ?_;rintro _ fE ⟨rfl,aV,hm⟩;refine bQ 3 ?_ [1];replace hx:=hx.t aV;refine cu 2 (bh c) hx.at_ ?_;refine ov (gV (hm.lookup (z0:=(⟨0,0⟩:ak)) Tryz.underlying198 (nP Tryz.underlying55 ai ai aq Tryz.underlying3) Tryz.zeroValue55 rfl rfl) (show _=dH v2 from by rw[nN,if_pos rfl];rfl)) ?_;refine cq (eO (vs:=bh v2) (n:=2) rfl rfl aq rfl rfl (jf rfl) hx rfl) ?_;rintro _ w7 ⟨rfl,aX,hx⟩;refine ay 2 ?_;replace hF:=(((hF.st aB).st aM).st aV).st aX;replace hT:=(((hT.t aB).t aM).t aV).t aX;replace hy:=(((hy.t aB).t aM).t aV).t aX;replace hm:=hm.t aX;refine kp (aH 0 rfl rfl (aH 3 rfl rfl (aH 4 rfl rfl (aR _)))) (bV (v2,iu u c v2,a_) _ ⟨(hf.Yi hv vZ gi),(by
     obtain⟨⟨v3,cr⟩,_⟩:=hf v v2 vZ;rw[nN];split
     ·exact⟨_,rfl⟩
     ·exact⟨v3,cr⟩),((hf v v2 vZ).2.1.trans (Mc.trans hρ)),(λs aX=>by
     obtain⟨x,hx⟩:=hdom s aX;rw[nN];split
     ·exact⟨_,rfl⟩
     ·exact⟨x,hx⟩),(λs aX=>by
     rw[nN,if_neg]
     ·exact zu s aX
     ·intro e;subst e;have:=zu _ aX;rw[hv] at this;exact gi (Option.some.inj this)),hF,hT,hx,hy,hm⟩ (by
     simp only;have a1:=RV gi;by_cases e:v2=v
     ·rw[e];exact a1
     ·have:=(hf v v2 vZ).2.2.1 e;omega))
 obtain rfl:v=c:=Classical.not_not.1 gi;have Sd:ρ r=v:=by rw[<-hρ];exact hf.idem hv
 refine aG 3 ?_ [0];refine cu 2 (bh v) hx.at_ ?_;replace hy:=hy.t aB;refine cq (eO (vs:=bh v) (n:=2) rfl rfl aq rfl rfl (jf rfl) hy rfl) ?_;rintro _ fR ⟨rfl,bp,hy⟩;refine ay 1 ?_;refine KR aq Tryz.func145 Tryz.results145 rfl hy.at_ aq aq rfl ?_;replace hT:=(hT.t aB).t bp;replace hm:=hm.t bp;exact⟨by rw[Sd],hT.lV ai,u,hm.Yl hbc,hf,by rw[Sd];exact hv,hdom,zu⟩
namespace vl
def c0:=cw Tryz.f144
def nu:=(aC (cl (aC (aC (aC c0)))))
def C':=(cl (aC (aC (cl (cl nu)))))
def zl:=di (aC (cl C'))
end vl
theorem nw {w₀:World} {C:Nat->Nat} {l:List aD} {aK:Value} (hF:aL w₀ C) (hl:av w₀ (au C) l aK) (hlen:l.length<=100000) (j:Nat) (hj:j≠0):
    Calls Tryz.prog 144 #[aK] w₀ (bH λv w'=>∃aQ b u d,v=.map (some b)/\ax [] w₀ C w' aQ/\aL w' aQ/\fZ w' aQ j b dH dH u/\ox u (b8 l) d/\Dom u (aO l)):=by
 have bq:=hF;have hT:=z9 w₀ C;replace hF:=hF.bk;replace hl:=hl.c1;refine cg Tryz.func144 ?_;refine aG 6 ?_ [1,2];refine bD (Cv hF 3 dH dH) ?_;rintro _ EY ⟨v8,bm,rfl,s_1,hm,hF⟩;refine bQ 6 ?_ [13];replace hl:=hl.t s_1;refine bZ Tryz.call130 (C9 hF hl hlen) ?_;rintro l7 w1 ⟨s_2,cW⟩;refine dE cW.ln ?_;refine ay 3 ?_;refine cH (ι:=Nat×(List (ak×ak))×(Nat->Nat)) (I:=λx w=>x.1<=(aO l).length/\ox x.2.1 id (λ_=>0)/\Dom x.2.1 ((aO l).take x.1)/\aL w x.2.2/\ax [2,3,4,5,6,7,8,9] w₀ (bk C) w x.2.2/\av w (au x.2.2) l aK/\av w (au x.2.2) (aO l) l7/\fZ w x.2.2 3 bm dH dH x.2.1) (e:=λx=>[(0,aK),(3,.map (some bm)),(10,l7),(11,.int .i64 (aO l).length),(12,.int .i64 x.1)]) (m:=λx=>(aO l).length-x.1) (cC:=(0,[],v8)) (af 0 (af 3 (af 10 (af 11 (af 12 (aR _)))))) ?_ ?_
 ·
   replace hT:=(hT.t s_1).t s_2;replace hF:=hF.st s_2;replace hl:=hl.t s_2;replace hm:=hm.t s_2;exact⟨Nat.zero_le _,λr v h=>by simp[fe] at h,λr hr=>by simp at hr,hF,hT,hl,cW,hm⟩
 intro⟨k,u,a_⟩ w2 hI bV;obtain⟨hk,hf,hdom,hF,hT,hl,cW,hm⟩:=hI;try simp only at hk hf hdom hF hT hl cW hm
 show Run _ _ _ _ [(0,aK),(3,.map (some bm)),(10,l7),(11,.int .i64 (aO l).length),(12,.int .i64 k)] _ _;have hrl:=cW.le;refine aI 5 ?_ [1];refine bF 13 rfl (λk5=>?_) (λk5=>?_)
 ·
  have aA:k<(aO l).length:=by omega
  refine aG 5 ?_ [1];refine bn cW ?_;intro _ gT qI fJ;refine iq fJ ?_;intro vU g15;obtain rfl:=bR.1 g15;refine bD (fD (cs:=[.int .i64 0,.int .i64 0]) hF 4 aq) ?_;rintro _ w3 ⟨nt,pz,rfl,aB,hx,hF⟩;refine cq (eO (vs:=bh ((aO l)[k]'aA)) (n:=2) rfl rfl aq rfl rfl (jf rfl) hx rfl) ?_;rintro _ w4 ⟨rfl,aM,hx⟩;refine bQ 3 ?_ [1];refine cu 2 (bh ((aO l)[k]'aA)) hx.at_ ?_;refine cu 2 (bh ((aO l)[k]'aA)) hx.at_ ?_;replace hm:=(hm.t aB).t aM;refine cq (xo (k:=(aO l)[k]'aA) (u:=(aO l)[k]'aA) hm Tryz.underlying198 (nP Tryz.underlying55 ai ai aq Tryz.underlying3) rfl rfl rfl) ?_;rintro _ ez ⟨rfl,aV,hm⟩;refine ay 6 ?_ [3];replace hT:=((hT.t aB).t aM).t aV;replace hl:=((hl.t aB).t aM).t aV;replace cW:=((cW.t aB).t aM).t aV;replace hF:=(hF.st aM).st aV;refine kp (af 0 (af 3 (af 10 (af 11 (aH 12 rfl (eq_int aF) (aR _)))))) (bV (k+1,iu u ((aO l)[k]'aA) ((aO l)[k]'aA),nt) _ ⟨aJ,(hf.self _),(by simp only;rw[List.take_succ_eq_append_getElem aA];exact hdom.Yh _ _),hF,hT,hl,cW,hm⟩ aJ)
 have aA:k=(aO l).length:=by omega
 subst aA;rw[List.take_length] at hdom;refine aG 5 ?_ [7];refine dE hl.ln ?_;refine ay 3 ?_;refine cH (ι:=Nat×(List (ak×ak))×(Nat->Nat)) (I:=λx w=>x.1<=l.length/\(∃d,ox x.2.1 (b8 (l.take x.1)) d)/\Dom x.2.1 (aO l)/\aL w x.2.2/\ax [2,3,4,5,6,7,8,9] w₀ (bk C) w x.2.2/\av w (au x.2.2) l aK/\fZ w x.2.2 3 bm dH dH x.2.1) (e:=λx=>[(3,.map (some bm)),(20,aK),(21,.int .i64 l.length),(22,.int .i64 x.1)]) (m:=λx=>l.length-x.1) (cC:=(0,u,a_)) (af 3 (af 20 (af 21 (af 22 (aR _))))) ?_ ?_
 · exact⟨Nat.zero_le _,⟨_,hf⟩,hdom,hF,hT,hl,hm⟩
 intro⟨k,u,a_⟩ fE hI ei;obtain⟨hk,hf,hdom,hF,hT,hl,hm⟩:=hI;try simp only at hk hf hdom hF hT hl hm
 show Run _ _ _ _ [(3,.map (some bm)),(20,aK),(21,.int .i64 l.length),(22,.int .i64 k)] _ _;have l5:=hl.le;obtain⟨dd,hf⟩:=hf;refine aI 5 ?_ [1];refine bF 23 rfl (λh23=>?_) (λh23=>?_)
 ·
  have aA:k<l.length:=by omega
  have tr:=hdom (l[k]).A (jB.2 ⟨_,List.getElem_mem aA,.inl rfl⟩);have C1:=hdom (l[k]).B (jB.2 ⟨_,List.getElem_mem aA,.inr rfl⟩);refine aG 5 ?_ [1];refine bn hl ?_;intro _ LY LZ gl;refine iq gl ?_;intro v25 l8;obtain rfl:=gY.1 l8;refine bD (fD (cs:=[.int .i64 0,.int .i64 0,.int .i64 0,.int .i64 0,.int .i64 0]) hF 4 aq) ?_;rintro _ w7 ⟨pH,Se,rfl,aX,hy,hF⟩;refine cq (eO (vs:=iH (l[k]'aA)) (n:=5) rfl rfl aq rfl rfl (jf rfl) hy rfl) ?_;rintro _ fR ⟨rfl,bp,hy⟩;refine ay 1 ?_;refine cm [3] (pH) [1,3,5,7,11,13,15,8,16,18] b5 ?_;intro gE bt;have hR:=ax.refl [3] gE (pH);refine aj 3 ?_ [0];replace hy:=hy.t bt;refine dn 2 (bh (l[k]'aA).A) hy.sz ?_;refine aj 2 ?_ [2];refine dn 2 (bh (l[k]'aA).B) hy.sz ?_;replace hm:=((hm.t aX).t bp).t bt;replace hF:=(hF.st bp).st bt;refine gn Tryz.call145 rfl (LX (r:=(l[k]'aA).A) hF ai hm hf tr) ?_;rintro uz iI ⟨rfl,bM,EZ,hm,hf,Sf,hda,_⟩;refine⟨(hR.trans bM aF).ext,?_⟩;replace hF:=hF.st bM;refine gn Tryz.call145 rfl (LX (r:=(l[k]'aA).B) hF ai hm hf (hda _ C1)) ?_;rintro A_ jj ⟨rfl,bE,ub,hm,hf,hrb,hdb,dX⟩;replace hR:=hR.t bM;refine⟨(hR.trans bE aF).ext,?_⟩;refine jU rfl ?_;have vb:=dX _ Sf;refine cq (xo (k:=b8 (l.take k) (l[k]'aA).A) (u:=b8 (l.take k) (l[k]'aA).B) hm Tryz.underlying198 (nP Tryz.underlying55 ai ai aq Tryz.underlying3) rfl rfl rfl) ?_;rintro _ jQ ⟨rfl,bP,hm⟩;refine ay 6 ?_ [3];replace hT:=(((((hT.t aX).t bp).t bt).t bM).t bE).t bP;replace hl:=(((((hl.t aX).t bp).t bt).t bM).t bE).t bP;replace hF:=(hF.st bE).st bP;refine kp (af 3 (af 20 (af 21 (aH 22 rfl (eq_int aF) (aR _))))) (ei (k+1,iu ub (b8 (l.take k) (l[k]'aA).A) (b8 (l.take k) (l[k]'aA).B),pH) _ ⟨aJ,(by simp only;rw[List.take_succ_eq_append_getElem aA,Yg];exact hf.join vb hrb),(Dom.put (λs bP=>hdb _ (hda _ (hdom s bP))) _ _),hF,hT,hl,hm⟩ aJ)
 have aA:k=l.length:=by omega
 subst aA;rw[List.take_length] at hf;refine aI 6 ?_ [3];refine bI Tryz.func144 ?_;obtain⟨rJ,qi,Da,hFg⟩:=hm.mM hT bq (λb _=>jT C ai b) j;exact⟨rJ,bm,u,dd,rfl,(hT.bN ai).mM qi,hFg,Da,hf,hdom⟩
end
end Go.Proofs.YtmdhggfehknjjaaGreat
