/- Steps through functions of the program. -/
import Derived.Test.YtmdhggfehknjjaaGreatJC6X0
import Derived.Test.YtmdhggfehknjjaaGreatL2
import Derived.Test.YtmdhggfehknjjaaGreatL3
set_option maxRecDepth 100000
set_option maxHeartbeats 4000000
namespace Go.Proofs.YtmdhggfehknjjaaGreat
open Go.K Go.K.aZ
noncomputable section
namespace Gr
def c0:=cw Tryz.f106
end Gr
theorem M6 (x:Int) (w:World):Calls Tryz.prog 106 #[.int .i64 x] w (bH λv w'=>v=.bool (jt x)/\w'=w):=by
 refine cg Tryz.func106 ?_;refine aI 5 ?_ [1];by_cases hA:1<=x
 ·
  refine aG 2 ?_ [127];refine dT hA ?_;refine ay 6 ?_;refine bI Tryz.func106 ?_;exact⟨by unfold jt;congr 1;apply decide_eq_decide.2;omega,rfl⟩
 refine aG 2 ?_ [127];refine ey hA ?_;refine ay 6 ?_;refine bI Tryz.func106 ?_;exact⟨by unfold jt;rw[decide_eq_false (λe=>hA e.1)],rfl⟩
namespace x2
def c0:=cw Tryz.f107
def o1:=di (cl (aC c0))
end x2
theorem y2 {w₀:World} {C:Nat->Nat} {x y:bC} (hF:aL w₀ C):Calls Tryz.prog 107 #[.agg (ni x).toArray,.agg (ni y).toArray] w₀ (bH λv w'=>v=.int .i64 (lZ x y)/\ax [] w₀ C w' C):=by
 have bq:=hF;have hT:=z9 w₀ C;replace hF:=hF.bk;refine cg Tryz.func107 ?_;refine aG 2 ?_ [4];refine bD (eX (cs:=ni x) hF 3 rfl rfl) ?_;rintro _ w1 ⟨eP,ct,rfl,s_1,hx,hF⟩;refine bD (eX (cs:=ni y) hF 3 rfl rfl) ?_;rintro _ w2 ⟨dm,ew,rfl,s_2,hy,hF⟩;refine ay 3 ?_;refine cm [] (dm) [1,3,5,7,9,11,13,15,19,21,23,25,29,31,33,35,16,26,36,38,40,43] b5 ?_;intro w3 aB;have hR:=ax.refl [] w3 (dm);refine aj 1 ?_ [0];replace hx:=(hx.t s_2).t aB;refine dn 2 (bh x.A) hx.sz ?_;refine aj 1 ?_ [2];refine dn 2 (bh x.B) hx.sz ?_;refine aj 1 ?_ [0];replace hy:=hy.t aB;refine dn 2 (bh y.A) hy.sz ?_;refine aj 1 ?_ [2];refine dn 2 (bh y.B) hy.sz ?_;refine aj 1 ?_ [4];refine fW hx.sz ?_;refine aj 1 ?_ [4];refine fW hy.sz ?_;refine aj 1 ?_ [5];refine fW hx.sz ?_;refine aj 1 ?_ [5];refine fW hy.sz ?_;replace hF:=hF.st aB;refine dC Tryz.call143 (Sb (a:=x.A) (b:=x.B) (c:=y.A) (d:=y.B) hF) ?_;rintro j4 w4 ⟨rfl,aM⟩;refine⟨(hR.trans aM aF).ext,?_⟩;refine dC Tryz.call97 (EU _ _ _) ?_;rintro mP ez ⟨rfl,rfl⟩;replace hR:=hR.t aM;refine⟨hR.ext,?_⟩;refine dC Tryz.call97 (EU _ _ _) ?_;rintro nr fE ⟨rfl,rfl⟩;refine⟨hR.ext,?_⟩;replace hF:=hF.st aM;refine ej (fk (ys:=([r8 x.A x.B y.A y.B,jW x.cR y.cR,jW x.bz y.bz]:List Int)) (e:=3) (bytes:=8) hF aq rfl ai ai ⟨rfl,⟨_,rfl,jc.2 rfl⟩,rfl,⟨_,rfl,jc.2 rfl⟩,rfl,⟨_,rfl,jc.2 rfl⟩,trivial⟩) ?_;rintro v24 w7 ⟨aV,g24,hF⟩;refine⟨(hR.trans aV aF).ext,?_⟩;refine dC Tryz.call96 (Ia g24) ?_;rintro wF fR ⟨rfl,rfl⟩;replace hR:=hR.t aV;refine⟨hR.ext,?_⟩;refine ay 2 ?_;refine bI Tryz.func107 ?_;replace hT:=((((hT.t s_1).t s_2).t aB).t aM).t aV;exact⟨rfl,hT.bN ai⟩
namespace bf
def c0:=cw Tryz.f118
end bf
theorem ek {w₀:World} {C:Nat->Nat} {x y:ak} (hF:aL w₀ C):Calls Tryz.prog 118 #[.agg #[.int .i64 x.a,.int .i64 x.b],.agg #[.int .i64 y.a,.int .i64 y.b]] w₀ (bH λv w'=>v=.bool (jK x y)/\ax [] w₀ C w' C):=by
 have bq:=hF;have hT:=z9 w₀ C;replace hF:=hF.bk;refine cg Tryz.func118 ?_;refine aG 2 ?_ [4];refine bD (eX (cs:=bh x) hF 3 rfl rfl) ?_;rintro _ w1 ⟨eP,ct,rfl,s_1,hx,hF⟩;refine bD (eX (cs:=bh y) hF 3 rfl rfl) ?_;rintro _ w2 ⟨dm,ew,rfl,s_2,hy,hF⟩;refine ay 2 ?_;refine kp (af 2 (af 3 (aR _))) ?_;refine aI 1 ?_;refine kJ 4 (jK x y) (dm) ?_ ?_
 ·
  intro c5;by_cases hA:mK x=true
  ·
   by_cases hB:mK y=true
   ·
    refine aG 1 ?_ [15076];have hcs:=ax.ou hF;replace hx:=hx.t s_2;refine cu 2 (bh x) hx.at_ ?_;refine bZ Tryz.call100 (td hF) ?_;rintro lP w3 ⟨rfl,aB⟩;rw[hA];refine aj 1 ?_;replace hy:=hy.t aB;refine cu 2 (bh y) hy.at_ ?_;replace hF:=hF.st aB;refine bZ Tryz.call100 (td hF) ?_;rintro j4 w4 ⟨rfl,aM⟩;rw[hB];refine aj 3 ?_ [0];replace hx:=(hx.t aB).t aM;refine bU hx.at_ ?_;refine aj 1 ?_ [0];replace hy:=hy.t aM;refine bU hy.at_ ?_;refine aj 3 ?_;replace hcs:=(hcs.t aB).t aM;exact cD.nil (c5 _ _ _ hcs rfl (by unfold jK;rw[hA,hB];rfl) (ef 14))
   refine aG 1 ?_ [15076];have hcs:=ax.ou hF;replace hx:=hx.t s_2;refine cu 2 (bh x) hx.at_ ?_;refine bZ Tryz.call100 (td hF) ?_;rintro mP ez ⟨rfl,aV⟩;rw[hA];refine aj 1 ?_;replace hy:=hy.t aV;refine cu 2 (bh y) hy.at_ ?_;replace hF:=hF.st aV;refine bZ Tryz.call100 (td hF) ?_;rintro nr fE ⟨rfl,aX⟩;rw[Bool.eq_false_iff.2 hB];refine aj 9 ?_;replace hcs:=(hcs.t aV).t aX;exact cD.nil (c5 _ _ _ hcs rfl (by unfold jK;rw[hA,Bool.eq_false_iff.2 hB];simp) (ef 14))
  refine aG 1 ?_ [15076];have hcs:=ax.ou hF;replace hx:=hx.t s_2;refine cu 2 (bh x) hx.at_ ?_;refine bZ Tryz.call100 (td hF) ?_;rintro mE w7 ⟨rfl,bp⟩;rw[Bool.eq_false_iff.2 hA];refine aj 12 ?_;replace hcs:=hcs.t bp;exact cD.nil (c5 _ _ _ hcs rfl (by unfold jK;rw[Bool.eq_false_iff.2 hA];simp) (ef 14))
 intro fR bt;refine bI Tryz.func118 ?_;replace hT:=((hT.t s_1).t s_2).t bt;exact⟨rfl,hT.bN ai⟩
namespace KO
def c0:=cw Tryz.f119
end KO
theorem M7 (x:Int) (w:World):Calls Tryz.prog 119 #[.int .i64 x] w (bH λv w'=>v=.bool (jt x)/\w'=w):=by
 refine cg Tryz.func119 ?_;refine aI 5 ?_ [1];by_cases hA:1<=x
 ·
  refine aG 2 ?_ [127];refine dT hA ?_;refine ay 6 ?_;refine bI Tryz.func119 ?_;exact⟨by unfold jt;congr 1;apply decide_eq_decide.2;omega,rfl⟩
 refine aG 2 ?_ [127];refine ey hA ?_;refine ay 6 ?_;refine bI Tryz.func119 ?_;exact⟨by unfold jt;rw[decide_eq_false (λe=>hA e.1)],rfl⟩
namespace A3
def c0:=cw Tryz.f178
end A3
theorem Lg {w₀:World} {C:Nat->Nat} {a b c d:ak} (hF:aL w₀ C):Calls Tryz.prog 178 #[.agg #[.int .i64 a.a,.int .i64 a.b],.agg #[.int .i64 b.a,.int .i64 b.b],.agg #[.int .i64 c.a,.int .i64 c.b],.agg #[.int .i64 d.a,.int .i64 d.b]] w₀ (bH λv w'=>v=.int .i64 (r8 a b c d)/\ax [] w₀ C w' C):=by
 have bq:=hF;have hT:=z9 w₀ C;replace hF:=hF.bk;refine cg Tryz.func178 ?_;refine aG 2 ?_ [16];refine bD (eX (cs:=bh a) hF 3 rfl rfl) ?_;rintro _ w1 ⟨eP,ct,rfl,s_1,ha,hF⟩;refine bD (eX (cs:=bh b) hF 3 rfl rfl) ?_;rintro _ w2 ⟨dm,ew,rfl,s_2,hb,hF⟩;refine bD (eX (cs:=bh c) hF 3 rfl rfl) ?_;rintro _ w3 ⟨nt,pz,rfl,aB,hc,hF⟩;refine bD (eX (cs:=bh d) hF 3 rfl rfl) ?_;rintro _ w4 ⟨gR,pE,rfl,aM,hd,hF⟩;refine bQ 5 ?_ [4];replace ha:=((ha.t s_2).t aB).t aM;refine cu 2 (bh a) ha.at_ ?_;replace hc:=hc.t aM;refine cu 2 (bh c) hc.at_ ?_;refine bK (λ_=>Hj (a:=_) (b:=_) Tryz.underlying55 ai ai aq Tryz.underlying3 rfl rfl) ?_;refine ay 1 ?_;refine bF 11 rfl (λkQ=>?_) (λkQ=>?_)
 ·
  refine aG 3 ?_ [0];refine cu 2 (bh a) ha.at_ ?_;refine cu 2 (bh c) hc.at_ ?_;refine bZ Tryz.call80 (Mb (x:=a) (y:=c) hF) ?_;rintro mP ez ⟨rfl,aV⟩;refine ay 1 ?_;refine bF 14 rfl (λfJ=>?_) (λfJ=>?_)
  ·
   refine aI 4 ?_ [1];refine bI Tryz.func178 ?_;replace hT:=((((hT.t s_1).t s_2).t aB).t aM).t aV;exact⟨by unfold r8;rw[AW,vO a c,vO b d];rw[if_neg kQ,if_pos fJ];rfl,hT.bN ai⟩
  refine aI 5 ?_ [1];refine bI Tryz.func178 ?_;replace hT:=((((hT.t s_1).t s_2).t aB).t aM).t aV;exact⟨by unfold r8;rw[AW,vO a c,vO b d];rw[if_neg kQ,if_neg fJ];rfl,hT.bN ai⟩
 refine aG 4 ?_ [4];replace hb:=(hb.t aB).t aM;refine cu 2 (bh b) hb.at_ ?_;refine cu 2 (bh d) hd.at_ ?_;refine bK (λ_=>iw (a:=_) (b:=_) Tryz.underlying55 ai ai aq Tryz.underlying3 rfl rfl) ?_;refine ay 1 ?_;refine bF 17 rfl (λfF=>?_) (λfF=>?_)
 ·
  refine aI 4 ?_ [1];refine bI Tryz.func178 ?_;replace hT:=(((hT.t s_1).t s_2).t aB).t aM;exact⟨by unfold r8;rw[AW,vO a c,vO b d];rw[if_pos (Classical.not_not.1 kQ),if_pos fF];rfl,hT.bN ai⟩
 refine aG 4 ?_ [0];refine cu 2 (bh b) hb.at_ ?_;refine cu 2 (bh d) hd.at_ ?_;refine bZ Tryz.call80 (Mb (x:=b) (y:=d) hF) ?_;rintro nr fE ⟨rfl,aX⟩;refine ay 1 ?_;refine bF 20 rfl (λlg=>?_) (λlg=>?_)
 ·
  refine aI 4 ?_ [1];refine bI Tryz.func178 ?_;replace hT:=((((hT.t s_1).t s_2).t aB).t aM).t aX;exact⟨by unfold r8;rw[AW,vO a c,vO b d];rw[if_pos (Classical.not_not.1 kQ),if_neg fF,if_pos lg];rfl,hT.bN ai⟩
 refine aI 5 ?_ [1];refine bI Tryz.func178 ?_;replace hT:=((((hT.t s_1).t s_2).t aB).t aM).t aX;exact⟨by unfold r8;rw[AW,vO a c,vO b d];rw[if_pos (Classical.not_not.1 kQ),if_neg fF,if_neg lg];rfl,hT.bN ai⟩
namespace X2
def c0:=cw Tryz.f120
end X2
theorem gx {w₀:World} {C:Nat->Nat} {x y:bC} (hF:aL w₀ C):Calls Tryz.prog 120 #[.agg (ni x).toArray,.agg (ni y).toArray] w₀ (bH λv w'=>v=.int .i64 (lZ x y)/\ax [] w₀ C w' C):=by
 have bq:=hF;have hT:=z9 w₀ C;replace hF:=hF.bk;refine cg Tryz.func120 ?_;refine aG 2 ?_ [4];refine bD (eX (cs:=ni x) hF 3 rfl rfl) ?_;rintro _ w1 ⟨eP,ct,rfl,s_1,hx,hF⟩;refine bD (eX (cs:=ni y) hF 3 rfl rfl) ?_;rintro _ w2 ⟨dm,ew,rfl,s_2,hy,hF⟩;refine bQ 6 ?_ [597,0];replace hx:=hx.t s_2;refine cu 2 (bh x.A) hx.at_ ?_;refine aj 1 ?_ [2];refine cu 2 (bh x.B) hx.at_ ?_;refine aj 1 ?_ [0];refine cu 2 (bh y.A) hy.at_ ?_;refine aj 1 ?_ [2];refine cu 2 (bh y.B) hy.at_ ?_;refine bZ Tryz.call178 (Lg (a:=x.A) (b:=x.B) (c:=y.A) (d:=y.B) hF) ?_;rintro lP w3 ⟨rfl,aB⟩;refine ay 7 ?_ [3];refine bF 16 rfl (λen=>?_) (λen=>?_)
 ·
  refine aI 5 ?_ [3];refine bI Tryz.func120 ?_;replace hT:=((hT.t s_1).t s_2).t aB;exact⟨by unfold lZ;rw[AV,s7 x.cR y.cR,s7 x.bz y.bz];rw[if_pos en],hT.bN ai⟩
 refine aG 5 ?_ [21,4];replace hx:=hx.t aB;refine bU hx.at_ ?_;refine aj 1 ?_ [4];replace hy:=hy.t aB;refine bU hy.at_ ?_;refine ay 2 ?_;refine bF 22 rfl (λiM=>?_) (λiM=>?_)
 ·
  refine aG 4 ?_ [21,4];refine bU hx.at_ ?_;refine aj 1 ?_ [4];refine bU hy.at_ ?_;refine ay 2 ?_;refine bF 27 rfl (λj7=>?_) (λj7=>?_)
  ·
   refine aI 4 ?_ [1];refine bI Tryz.func120 ?_;replace hT:=((hT.t s_1).t s_2).t aB;exact⟨by unfold lZ;rw[AV,s7 x.cR y.cR,s7 x.bz y.bz];rw[if_neg en,if_neg iM,if_pos j7];rfl,hT.bN ai⟩
  refine aI 5 ?_ [1];refine bI Tryz.func120 ?_;replace hT:=((hT.t s_1).t s_2).t aB;exact⟨by unfold lZ;rw[AV,s7 x.cR y.cR,s7 x.bz y.bz];rw[if_neg en,if_neg iM,if_neg j7];rfl,hT.bN ai⟩
 refine aG 5 ?_ [21,5];refine bU hx.at_ ?_;refine aj 1 ?_ [5];refine bU hy.at_ ?_;refine ay 2 ?_;refine bF 32 rfl (λg_=>?_) (λg_=>?_)
 ·
  refine aG 4 ?_ [21,5];refine bU hx.at_ ?_;refine aj 1 ?_ [5];refine bU hy.at_ ?_;refine ay 2 ?_;refine bF 37 rfl (λlp=>?_) (λlp=>?_)
  ·
   refine aI 4 ?_ [1];refine bI Tryz.func120 ?_;replace hT:=((hT.t s_1).t s_2).t aB;exact⟨by unfold lZ;rw[AV,s7 x.cR y.cR,s7 x.bz y.bz];rw[if_neg en,if_pos (Classical.not_not.1 iM),if_neg g_,if_pos lp];rfl,hT.bN ai⟩
  refine aI 5 ?_ [1];refine bI Tryz.func120 ?_;replace hT:=((hT.t s_1).t s_2).t aB;exact⟨by unfold lZ;rw[AV,s7 x.cR y.cR,s7 x.bz y.bz];rw[if_neg en,if_pos (Classical.not_not.1 iM),if_neg g_,if_neg lp];rfl,hT.bN ai⟩
 refine aI 5 ?_ [1];refine bI Tryz.func120 ?_;replace hT:=((hT.t s_1).t s_2).t aB;exact⟨by unfold lZ;rw[AV,s7 x.cR y.cR,s7 x.bz y.bz];rw[if_neg en,if_pos (Classical.not_not.1 iM),if_pos (Classical.not_not.1 g_)];rfl,hT.bN ai⟩
namespace gy
def c0:=cw Tryz.f63
def kP:=(cl (aC (cl (aC (aC c0)))))
def tf:=(cl (cl (aC (aC (cl kP)))))
def uv:=(aC (aC (aC (cl (aC tf)))))
def zl:=di (cl (aC uv))
end gy
theorem M8 {w₀:World} {C:Nat->Nat} {l:List bC} {aK:Value} (hF:aL w₀ C) (hl:av w₀ (au C) l aK):Calls Tryz.prog 63 #[aK] w₀ (bH λv w'=>v=.int .i64 (jY l)/\ax [] w₀ C w' C):=by
 have bq:=hF;have hT:=z9 w₀ C;replace hF:=hF.bk;replace hl:=hl.c1;refine cg Tryz.func63 ?_;refine aG 8 ?_ [1,7];refine dE hl.ln ?_;refine ay 2 ?_;refine bF 7 rfl (λh7=>?_) (λh7=>?_)
 ·
  refine aI 4 ?_ [1];refine bI Tryz.func63 ?_;exact⟨congrArg (Value.int .i64) (by unfold jY;rw[if_pos ah]),hT.bN ai⟩
 have hlim:¬4096<l.length:=by omega
 refine aG 5 ?_ [7];refine dE hl.ln ?_;refine ay 3 ?_;refine cH (ι:=Nat×(Nat->Nat)) (I:=λx w=>x.1<=l.length/\(∀k,k<x.1->su l k=0)/\aL w x.2/\ax [2,3,4,5,6,7,8,9] w₀ (bk C) w x.2/\av w (au x.2) l aK) (e:=λx=>[(0,aK),(8,aK),(9,.int .i64 l.length),(10,.int .i64 x.1)]) (m:=λx=>l.length-x.1) (cC:=(0,bk C)) (af 0 (af 8 (af 9 (af 10 (aR _))))) ?_ ?_
 · exact⟨Nat.zero_le _,λk hk=>by first|omega|(simp only at hk;omega),hF,hT,hl⟩
 intro⟨i,a_⟩ w1 hI bV;obtain⟨hi,h0,hF,hT,hl⟩:=hI;try simp only at hi h0 hF hT hl
 show Run _ _ _ _ [(0,aK),(8,aK),(9,.int .i64 l.length),(10,.int .i64 i)] _ _;have hle:=hl.le;refine aI 5 ?_ [1];refine bF 11 rfl (λkQ=>?_) (λkQ=>?_)
 ·
  have hil:i<l.length:=by omega
  refine aG 6 ?_ [19];refine bn hl ?_;intro _ Ie Ig k5;refine iq k5 ?_;intro C8 g14;obtain rfl:=zb.1 g14;refine bD (fD (cs:=[.int .i64 0,.int .i64 0,.int .i64 0,.int .i64 0,.int .i64 0,.int .i64 0,.bool false]) hF 4 aq) ?_;rintro _ w2 ⟨dm,ew,rfl,s_1,hx,hF⟩;refine aj 1 ?_;refine cq (eO (vs:=ni ((l[i]'hil))) (n:=7) rfl rfl aq rfl rfl (jf rfl) hx rfl) ?_;rintro _ w3 ⟨rfl,s_2,hx⟩;refine bQ 5 ?_ [101,0];refine cu 2 (bh (l[i]'hil).A) hx.at_ ?_;refine aj 1 ?_ [2];refine cu 2 (bh (l[i]'hil).B) hx.at_ ?_;replace hF:=hF.st s_2;refine bZ Tryz.call105 (R_ (x:=(l[i]'hil).A) (y:=(l[i]'hil).B) hF) ?_;rintro j4 w4 ⟨rfl,aB⟩;refine ay 3 ?_;refine gJ 15 rfl (λjO=>?_) (λjO=>?_)
  ·
   have hc:jK (l[i]'hil).A (l[i]'hil).B=false:=by simpa using jO
   refine aI 4 ?_ [1];refine bI Tryz.func63 ?_;replace hT:=((hT.t s_1).t s_2).t aB;exact⟨congrArg (Value.int .i64) (by unfold jY;rw[if_neg hlim,CW h0 hil (Rr hil hc) ai]),hT.bN ai⟩
  have hc:jK (l[i]'hil).A (l[i]'hil).B=true:=by simpa using jO
  refine aI 1 ?_;refine kJ 22 (!(jt (l[i]'hil).cR&&jt (l[i]'hil).bz)) (dm) ?_ ?_
  ·
   intro c5;by_cases hA:jt (l[i]'hil).cR=true
   ·
    refine aG 1 ?_ [1849];replace hF:=hF.st aB;have hcs:=ax.ou hF;refine aj 1 ?_ [4];replace hx:=hx.t aB;refine bU hx.at_ ?_;refine bZ Tryz.call106 (M6 _ _) ?_;rintro mP ez ⟨rfl,rfl⟩;rw[hA];refine aj 3 ?_ [5];refine bU hx.at_ ?_;refine bZ Tryz.call106 (M6 _ _) ?_;rintro nr fE ⟨rfl,rfl⟩;refine aj 3 ?_;exact cD.nil (c5 _ _ _ hcs rfl (by rw[hA];simp) (ef 11))
   refine aG 1 ?_ [1849];replace hF:=hF.st aB;have hcs:=ax.ou hF;refine aj 1 ?_ [4];replace hx:=hx.t aB;refine bU hx.at_ ?_;refine bZ Tryz.call106 (M6 _ _) ?_;rintro mE w7 ⟨rfl,rfl⟩;rw[Bool.eq_false_iff.2 hA];refine aj 8 ?_;exact cD.nil (c5 _ _ _ hcs rfl (by rw[Bool.eq_false_iff.2 hA];simp) (ef 11))
  intro fR aM;refine gJ 22 rfl (λiM=>?_) (λiM=>?_)
  ·
   have hv: (jt (l[i]'hil).cR&&jt (l[i]'hil).bz)=false:=by rw[Bool.not_eq_true'] at iM;exact iM
   refine aI 4 ?_ [1];refine bI Tryz.func63 ?_;replace hT:=(((hT.t s_1).t s_2).t aB).t aM;exact⟨congrArg (Value.int .i64) (by unfold jY;rw[if_neg hlim,CW h0 hil (Rs hil hc hv) ai]),hT.bN ai⟩
  have hv: (jt (l[i]'hil).cR&&jt (l[i]'hil).bz)=true:=by rw[Bool.not_eq_false'] at iM;exact iM
  refine aI 1 ?_;by_cases hA: (0:Int)<i
  ·
   refine cm [] (dm) [1,3,5,7,9,11,13,15,17,18,21,23,25] b5 ?_;intro gE aV;have hR:=ax.refl [] gE (dm);refine aj 1 ?_;refine dT hA ?_;refine aj 4 ?_;replace hl:=((((hl.t s_1).t s_2).t aB).t aM).t aV;refine bn hl ?_;intro _ Bv Bw kj;refine ck kj ?_;intro v41 DC;have lq: ((i:Int)-1).toNat=i-1:=by omega
   simp only[lq] at DC;obtain rfl:=zb.1 DC;replace hx:=((hx.t aB).t aM).t aV;refine dn 7 (ni (l[i]'hil)) hx.sz ?_;replace hF:=((hF.st aB).st aM).st aV;refine dC Tryz.call107 (y2 (y:=(l[i]'hil)) hF) ?_;rintro uz iI ⟨rfl,aX⟩;refine⟨(hR.trans aX aF).ext,?_⟩;refine ay 4 ?_;refine bF 33 rfl (λmT=>?_) (λmT=>?_)
   ·
    refine aI 4 ?_ [1];refine bI Tryz.func63 ?_;replace hT:=(((((hT.t s_1).t s_2).t aB).t aM).t aV).t aX;exact⟨congrArg (Value.int .i64) (by unfold jY;rw[if_neg hlim,CW h0 hil (Rt hil hc hv ah ah) ai]),hT.bN ai⟩
   refine aI 7 ?_ [3];replace hT:=(((((hT.t s_1).t s_2).t aB).t aM).t aV).t aX;replace hF:=hF.st aX;replace hl:=hl.t aX;refine kp (af 0 (af 8 (af 9 (aH 10 rfl (eq_int aF) (aR _))))) (bV (i+1,dm) _ ⟨aJ,(HT h0 (EH hil hc hv (λh0=>by omega))),hF,hT,hl⟩ aJ)
  refine cm [] (dm) [1,3,5,7,9,11,13,15,17,18,21,23,25] b5 ?_;intro jj bp;have hR:=ax.refl [] jj (dm);refine aj 1 ?_;refine ey hA ?_;refine ay 20 ?_ [3];replace hT:=((((hT.t s_1).t s_2).t aB).t aM).t bp;replace hl:=((((hl.t s_1).t s_2).t aB).t aM).t bp;replace hF:=((hF.st aB).st aM).st bp;refine kp (af 0 (af 8 (af 9 (aH 10 rfl (eq_int aF) (aR _))))) (bV (i+1,dm) _ ⟨aJ,(HT h0 (EH hil hc hv (λh0=>absurd h0 ah))),hF,hT,hl⟩ aJ)
 have hil:i=l.length:=by omega
 refine aI 5 ?_ [1];refine bI Tryz.func63 ?_;exact⟨congrArg (Value.int .i64) (by unfold jY;rw[if_neg hlim,CV (by rw[<-hil];exact h0)]),hT.bN ai⟩
namespace pS
def c0:=cw Tryz.f68
def kP:=(cl (aC (cl (aC (aC c0)))))
def nu:=(cl (cl (cl (aC (cl kP)))))
def ru:=di (cl nu)
def FD:=(aC (cl (cl (aC (cl kP)))))
def zl:=di (cl (aC FD))
end pS
theorem T8 {w₀:World} {C:Nat->Nat} {l:List bC} {aK:Value} (hF:aL w₀ C) (hl:av w₀ (au C) l aK):Calls Tryz.prog 68 #[aK] w₀ (bH λv w'=>v=.int .i64 (jY l)/\ax [] w₀ C w' C):=by
 have bq:=hF;have hT:=z9 w₀ C;replace hF:=hF.bk;replace hl:=hl.c1;refine cg Tryz.func68 ?_;refine aG 8 ?_ [1,7];refine dE hl.ln ?_;refine ay 2 ?_;refine bF 6 rfl (λh6=>?_) (λh6=>?_)
 ·
  refine aI 4 ?_ [1];refine bI Tryz.func68 ?_;exact⟨congrArg (Value.int .i64) (by unfold jY;rw[if_pos ah]),hT.bN ai⟩
 have hlim:¬4096<l.length:=by omega
 refine aI 7 ?_ [1];refine cH (ι:=Nat×(Nat->Nat)) (I:=λx w=>x.1<=l.length/\(∀k,k<x.1->su l k=0)/\aL w x.2/\ax [2,3,4,5,6,7,8,9] w₀ (bk C) w x.2/\av w (au x.2) l aK) (e:=λx=>[(0,aK),(3,.int .i64 x.1)]) (m:=λx=>l.length-x.1) (cC:=(0,bk C)) (af 0 (af 3 (aR _))) ?_ ?_
 · exact⟨Nat.zero_le _,λk hk=>by first|omega|(simp only at hk;omega),hF,hT,hl⟩
 intro⟨i,a_⟩ w1 hI bV;obtain⟨hi,h0,hF,hT,hl⟩:=hI;try simp only at hi h0 hF hT hl
 show Run _ _ _ _ [(0,aK),(3,.int .i64 i)] _ _;have hle:=hl.le;refine aG 5 ?_ [15];refine dE hl.ln ?_;refine ay 2 ?_;refine bF 10 rfl (λjd=>?_) (λjd=>?_)
 ·
  have hil:i<l.length:=by omega
  refine aI 5 ?_;refine cm [] (a_) [1,3,5,7,9,11,13,15,17,19,20,23] b5 ?_;intro w2 s_1;have hR:=ax.refl [] w2 (a_);replace hl:=hl.t s_1;have jl:=hl;refine aj 2 ?_;refine bn jl ?_;intro _ M9 DE jO;have en:=bJ.ej jO;refine aj 1 ?_ [0];refine ck en ?_;intro v17 g17;have agw:=g17;replace g17:=g17.st hR (by first|decide|(simp<;>omega));obtain rfl:=bR.1 g17;refine aj 2 ?_;refine bn jl ?_;intro _ T9 T_ lg;have nX:=bJ.lH lg;refine aj 1 ?_ [2];refine ck nX ?_;intro v22 g22;have agx:=g22;replace g22:=g22.st hR (by first|decide|(simp<;>omega));obtain rfl:=bR.1 g22;replace hF:=hF.st s_1;refine dC Tryz.call118 (ek (x:=(l[i]'hil).A) (y:=(l[i]'hil).B) hF) ?_;rintro lP w3 ⟨rfl,s_2⟩;refine⟨(hR.trans s_2 aF).ext,?_⟩;refine ay 2 ?_;refine gJ 24 rfl (λgl=>?_) (λgl=>?_)
  ·
   have hc:jK (l[i]'hil).A (l[i]'hil).B=false:=by simpa using gl
   refine aI 4 ?_ [1];refine bI Tryz.func68 ?_;replace hT:=(hT.t s_1).t s_2;exact⟨congrArg (Value.int .i64) (by unfold jY;rw[if_neg hlim,CW h0 hil (Rr hil hc) ai]),hT.bN ai⟩
  have hc:jK (l[i]'hil).A (l[i]'hil).B=true:=by simpa using gl
  refine aI 3 ?_;refine kJ 40 (!(jt (l[i]'hil).cR&&jt (l[i]'hil).bz)) (a_) ?_ ?_
  ·
   intro c5;by_cases hA:jt (l[i]'hil).cR=true
   ·
    refine aG 1 ?_ [53199];replace hF:=hF.st s_2;have hcs:=ax.ou hF;refine aj 2 ?_;replace hl:=hl.t s_2;refine bn hl ?_;intro _ FE zY j7;have iz:=bJ.Rp j7;refine aj 1 ?_ [4];refine iF iz ?_;intro qS eZ;first|(obtain rfl:=kG.1 eZ)|(obtain rfl:=jc.1 eZ)
    refine bZ Tryz.call119 (M7 _ _) ?_;rintro j4 w4 ⟨rfl,rfl⟩;rw[hA];refine aj 4 ?_;refine bn hl ?_;intro _ uB Dc k8;have lu:=bJ.Y0 k8;refine aj 1 ?_ [5];refine iF lu ?_;intro v37 oa;first|(obtain rfl:=kG.1 oa)|(obtain rfl:=jc.1 oa)
    refine bZ Tryz.call119 (M7 _ _) ?_;rintro mP ez ⟨rfl,rfl⟩;refine aj 2 ?_;exact cD.nil (c5 _ _ _ hcs rfl (by rw[hA];simp) (ef 16))
   refine aG 1 ?_ [53199];replace hF:=hF.st s_2;have hcs:=ax.ou hF;refine aj 2 ?_;replace hl:=hl.t s_2;refine bn hl ?_;intro _ FE zY j7;have iz:=bJ.Rp j7;refine aj 1 ?_ [4];refine iF iz ?_;intro qS eZ;first|(obtain rfl:=kG.1 eZ)|(obtain rfl:=jc.1 eZ)
   refine bZ Tryz.call119 (M7 _ _) ?_;rintro nr fE ⟨rfl,rfl⟩;rw[Bool.eq_false_iff.2 hA];refine aj 10 ?_;exact cD.nil (c5 _ _ _ hcs rfl (by rw[Bool.eq_false_iff.2 hA];simp) (ef 16))
  intro w7 aB;refine gJ 40 rfl (λkj=>?_) (λkj=>?_)
  ·
   have hv: (jt (l[i]'hil).cR&&jt (l[i]'hil).bz)=false:=by rw[Bool.not_eq_true'] at kj;exact kj
   refine aI 4 ?_ [1];refine bI Tryz.func68 ?_;replace hT:=((hT.t s_1).t s_2).t aB;exact⟨congrArg (Value.int .i64) (by unfold jY;rw[if_neg hlim,CW h0 hil (Rs hil hc hv) ai]),hT.bN ai⟩
  have hv: (jt (l[i]'hil).cR&&jt (l[i]'hil).bz)=true:=by rw[Bool.not_eq_false'] at kj;exact kj
  refine aI 2 ?_;by_cases hA: (0:Int)<i
  ·
   refine cm [] (a_) [1,3,5,7,9,11,13,15,17,19,21,23,24,27,29] b5 ?_;intro fR aM;have hR:=ax.refl [] fR (a_);replace hl:=((hl.t s_2).t aB).t aM;have jl:=hl;refine aj 1 ?_;refine dT hA ?_;refine aj 4 ?_;refine bn jl ?_;intro _ FF FG uF;refine ck uF ?_;intro DF lz;have DG:=lz;replace lz:=lz.st hR (by first|decide|(simp<;>omega));have lq: ((i:Int)-1).toNat=i-1:=by omega
   simp only[lq] at lz;obtain rfl:=zb.1 lz;refine aj 2 ?_;refine bn jl ?_;intro _ DH DI sJ;refine ck sJ ?_;intro Bc oD;have agy:=oD;replace oD:=oD.st hR (by first|decide|(simp<;>omega));obtain rfl:=zb.1 oD;replace hF:=((hF.st s_2).st aB).st aM;refine dC Tryz.call120 (gx (y:=(l[i]'hil)) hF) ?_;rintro vV gE ⟨rfl,aV⟩;refine⟨(hR.trans aV aF).ext,?_⟩;refine ay 3 ?_;refine bF 55 rfl (λnW=>?_) (λnW=>?_)
   ·
    refine aI 4 ?_ [1];refine bI Tryz.func68 ?_;replace hT:=((((hT.t s_1).t s_2).t aB).t aM).t aV;exact⟨congrArg (Value.int .i64) (by unfold jY;rw[if_neg hlim,CW h0 hil (Rt hil hc hv ah ah) ai]),hT.bN ai⟩
   refine aI 7 ?_ [7];replace hT:=((((hT.t s_1).t s_2).t aB).t aM).t aV;replace hF:=hF.st aV;replace hl:=hl.t aV;refine kp (af 0 (aH 3 rfl (eq_int aF) (aR _))) (bV (i+1,a_) _ ⟨aJ,(HT h0 (EH hil hc hv (λh0=>by omega))),hF,hT,hl⟩ aJ)
  refine cm [] (a_) [1,3,5,7,9,11,13,15,17,19,21,23,24,27,29] b5 ?_;intro iI aX;have hR:=ax.refl [] iI (a_);replace hl:=((hl.t s_2).t aB).t aX;have jl:=hl;refine aj 1 ?_;refine ey hA ?_;refine ay 22 ?_ [7];replace hT:=(((hT.t s_1).t s_2).t aB).t aX;replace hF:=((hF.st s_2).st aB).st aX;refine kp (af 0 (aH 3 rfl (eq_int aF) (aR _))) (bV (i+1,a_) _ ⟨aJ,(HT h0 (EH hil hc hv (λh0=>absurd h0 ah))),hF,hT,hl⟩ aJ)
 have hil:i=l.length:=by omega
 refine aI 5 ?_ [1];refine bI Tryz.func68 ?_;exact⟨congrArg (Value.int .i64) (by unfold jY;rw[if_neg hlim,CV (by rw[<-hil];exact h0)]),hT.bN ai⟩
theorem Zt {l:List bC} (hm:l.length<=4096) (hO:∀i (h:i<l.length),uj l[i]) (qn:∀i (h:i+1<l.length),lZ l[i] l[i+1]<0):jY l=0:=by
 unfold jY;rw[if_neg ah,CV (λk hk=>?_)];have h:=hO k hk;unfold uj at h;refine EH hk h.1 (by rw[h.2.1,h.2.2];rfl) (λh0=>?_);have:=qn (k-1) ah;simp only[show k-1+1=k from by omega] at this;exact this
theorem Zq {w₀:World} {C:Nat->Nat} {l:List bC} {aK:Value} (hF:aL w₀ C) (hl:av w₀ (au C) l aK) (hm:l.length<=4096) (hO:∀i (h:i<l.length),uj l[i]) (qn:∀i (h:i+1<l.length),lZ l[i] l[i+1]<0):Calls Tryz.prog 63 #[aK] w₀ (bH λv w'=>v=.int .i64 0/\ax [] w₀ C w' C):=
 (M8 hF hl).mono (bH.mono λv w' ⟨e,h⟩=>⟨by rw[e,Zt hm hO qn],h⟩)
end
end Go.Proofs.YtmdhggfehknjjaaGreat
namespace Go.Proofs.YtmdhggfehknjjaaGreat
open Go.K Go.K.aZ
noncomputable section
namespace HB
def c0:=cw Tryz.f128
end HB
theorem Ua {w₀:World} {C:Nat->Nat} {l:List aD} {ds:List bC} {aK cO:Value} (hF:aL w₀ C) (hl:av w₀ (au C) l aK) (hz:av w₀ (au C) ds cO) (l9:gD l=0) (zZ:ds.length<=4096) (hO:∀i (h:i<ds.length),uj ds[i]) (qn:∀i (h:i+1<ds.length),lZ ds[i] ds[i+1]<0):Calls Tryz.prog 128 #[aK,cO] w₀ (bH λv w'=>∃c4,v=.tuple #[.agg #[aK,c4],.int .i64 0]/\ax [] w₀ C w' C/\gp w' (au C) ds c4):=by
 have bq:=hF;have hT:=z9 w₀ C;replace hF:=hF.bk;replace hl:=hl.c1;replace hz:=hz.c1;refine cg Tryz.func128 ?_;refine aG 2 ?_ [2];refine bD (fD (cs:=[.slice none 0 0,.map none]) hF 3 aq) ?_;rintro _ w1 ⟨eP,ct,rfl,s_1,hy,hF⟩;refine bQ 6 ?_ [5];replace hl:=hl.t s_1;refine bZ Tryz.call82 (Ic hF hl) ?_;rintro kO w2 ⟨rfl,s_2⟩;rw[l9];refine bQ 5 ?_ [3];refine bK (λ_=>G6 (wZ rfl rfl) ai) ?_;refine bQ 7 ?_ [5];replace hz:=(hz.t s_1).t s_2;replace hF:=hF.st s_2;refine bZ Tryz.call63 (Zq hF hz zZ hO qn) ?_;rintro lP w3 ⟨rfl,aB⟩;refine bQ 5 ?_ [3];refine bK (λ_=>G6 (wZ rfl rfl) ai) ?_;refine bQ 6 ?_ [5];replace hF:=hF.st aB;refine bD (Cv hF 5 xD (λb:Bool=>Value.bool b)) ?_;rintro _ EY ⟨v8,bm,rfl,aM,hm,hF⟩;replace hl:=((hl.t s_2).t aB).t aM;refine bK (λ_=>gO (zs:=[.slice none 0 0,.map none]) (ps:=[(0,1),(1,1)]) (eo:=[(0,[aK]),(1,[.map (some bm)])]) (cs:=[aK,.map (some bm)]) aq aq (by exact⟨rfl,⟨_,rfl,(hl.one rfl).1⟩,rfl,⟨_,rfl,rfl⟩,trivial⟩) rfl) ?_;refine bD (fD (cs:=[.slice none 0 0,.map none]) hF 4 aq) ?_;rintro _ w4 ⟨gR,pE,rfl,aV,bW,hF⟩;replace hl:=hl.t aV;refine cq (eO (vs:=[aK,.map (some bm)]) (n:=2) rfl rfl aq rfl rfl (by repeat' first|exact kX|refine kY ?_ ?_|rfl|exact(hl.one rfl).2) bW rfl) ?_;rintro _ ez ⟨rfl,aX,bW⟩;refine bQ 5 ?_ [7];replace hz:=(((hz.t aB).t aM).t aV).t aX;refine dE hz.ln ?_;refine ay 3 ?_
 refine cH (ι:=Nat×(List ((ak×ak)×Bool))×(Nat->Nat)) (I:=λx w=>x.1<=ds.length/\(∀a b,(fe x.2.1 (a,b)).getD false=jw (ds.take x.1) a b)/\aL w x.2.2/\ax [2,3,4,5,6,7,8,9] w₀ (bk C) w x.2.2/\av w (au x.2.2) l aK/\av w (au x.2.2) ds cO/\cE w x.2.2 3 ct (.cells [.slice none 0 0,.map none].toArray 129)/\cE w x.2.2 4 pE (.cells [aK,.map (some bm)].toArray 129)/\fZ w x.2.2 5 bm xD (λb:Bool=>Value.bool b) x.2.1) (e:=λx=>[(4,.pointer (some ⟨ct,0,none⟩)),(8,.pointer (some ⟨pE,0,none⟩)),(26,cO),(27,.int .i64 ds.length),(28,.int .i64 x.1)]) (m:=λx=>ds.length-x.1) (cC:=(0,[],gR)) (af 4 (af 8 (af 26 (af 27 (af 28 (aR _)))))) ?_ ?_
 ·
   replace hT:=(((((hT.t s_1).t s_2).t aB).t aM).t aV).t aX;replace hy:=((((hy.t s_2).t aB).t aM).t aV).t aX;replace hm:=(hm.t aV).t aX;replace hF:=hF.st aX;replace hl:=hl.t aX;exact⟨Nat.zero_le _,λa b=>by simp[fe,jw],hF,hT,hl,hz,hy,bW,hm⟩
 intro⟨k,m,a_⟩ fE hI bV;obtain⟨hk,hap,hF,hT,hl,hz,hy,bW,hm⟩:=hI;try simp only at hk hap hF hT hl hz hy bW hm
 show Run _ _ _ _ [(4,.pointer (some ⟨ct,0,none⟩)),(8,.pointer (some ⟨pE,0,none⟩)),(26,cO),(27,.int .i64 ds.length),(28,.int .i64 k)] _ _;have hle:=hz.le;refine aI 5 ?_ [1];refine bF 29 rfl (λnx=>?_) (λnx=>?_)
 ·
  have aA:k<ds.length:=by omega
  have E1:=Zj aA;refine aG 5 ?_ [1];refine bn hz ?_;intro _ oH Wt uG;refine iq uG ?_;intro v31 qT;obtain rfl:=zb.1 qT;refine bD (fD (cs:=[.int .i64 0,.int .i64 0,.int .i64 0,.int .i64 0,.int .i64 0,.int .i64 0,.bool false]) hF 6 aq) ?_;rintro _ w7 ⟨pH,Se,rfl,bp,sG,hF⟩;refine cq (eO (vs:=ni (ds[k]'aA)) (n:=7) rfl rfl aq rfl rfl (jf rfl) sG rfl) ?_;rintro _ fR ⟨rfl,bt,sG⟩;refine bQ 4 ?_ [5,6];refine bU sG.at_ ?_;refine ay 2 ?_;refine gJ 34 rfl (λmR=>?_) (λmR=>?_)
  ·
   have pY: (ds[k]'aA).same=false:=by simpa using mR
   refine aG 2 ?_ [85,1];replace bW:=(bW.t bp).t bt;refine bU bW.at_ ?_;refine aj 1 ?_ [0];refine cu 2 (bh (ds[k]'aA).A) sG.at_ ?_;refine aj 1 ?_ [2];refine cu 2 (bh (ds[k]'aA).B) sG.at_ ?_;refine bK (λ_=>gO (zs:=[.int .i64 0,.int .i64 0,.int .i64 0,.int .i64 0]) (ps:=[(0,2),(2,2)]) (eo:=[(0,bh ((ds[k]'aA).A)),(1,bh ((ds[k]'aA).B))]) (cs:=[.int .i64 ((ds[k]'aA).A).a,.int .i64 ((ds[k]'aA).A).b,.int .i64 ((ds[k]'aA).B).a,.int .i64 ((ds[k]'aA).B).b]) aq aq (by exact⟨rfl,⟨_,rfl,rfl⟩,rfl,⟨_,rfl,rfl⟩,trivial⟩) rfl) ?_;replace hm:=(hm.t bp).t bt;refine cq (xo (k:=((ds[k]'aA).A,(ds[k]'aA).B)) (u:=true) hm Tryz.underlying127 (CX Tryz.underlying227 ai ai aq Tryz.underlying55 ai ai aq Tryz.underlying3 aq aq) rfl rfl rfl) ?_;rintro _ gE ⟨rfl,bM,hm⟩;refine ay 6 ?_ [3];have x5:=(bp.aY bt).aY bM;replace hT:=((hT.t bp).t bt).t bM;replace hl:=hl.t x5;replace hz:=hz.t x5;replace hy:=hy.t x5;replace hF:=(hF.st bt).st bM;replace bW:=bW.t bM;refine kp (aH 4 rfl rfl (aH 8 rfl rfl (aH 26 rfl rfl (aH 27 rfl rfl (aH 28 rfl (eq_int aF) (aR _)))))) (bV (k+1,iu m ((ds[k]'aA).A,(ds[k]'aA).B) true,pH) _ ⟨aJ,(λa b=>by
    simp only;rw[nN,E1,pY,<-hap a b];by_cases e: ((ds[k]'aA).A,(ds[k]'aA).B)=(a,b)
    ·rw[if_pos e];injection e with e1 e2;simp[e1,e2]
    ·rw[if_neg e,decide_eq_false (λe2=>e (by rw[e2.1,e2.2]))];simp),hF,hT,hl,hz,hy,bW,hm⟩ aJ)
  have pY: (ds[k]'aA).same=true:=by simpa using mR
  refine aI 6 ?_ [3];have lB:=bp.aY bt;replace hT:=(hT.t bp).t bt;replace hl:=hl.t lB;replace hz:=hz.t lB;replace hy:=hy.t lB;replace bW:=bW.t lB;replace hm:=hm.t lB;replace hF:=hF.st bt;refine kp (af 4 (af 8 (af 26 (af 27 (aH 28 rfl (eq_int aF) (aR _)))))) (bV (k+1,m,pH) _ ⟨aJ,(λa b=>by simp only;rw[E1,pY,<-hap a b];simp),hF,hT,hl,hz,hy,bW,hm⟩ aJ)
 have aA:k=ds.length:=by omega
 rw[aA,List.take_length] at hap;refine aG 3 ?_ [4];refine cu 2 ([aK,.map (some bm)]) bW.at_ ?_;refine cq (eO (vs:=[aK,.map (some bm)]) (n:=2) rfl rfl aq rfl rfl (by repeat' first|exact kX|refine kY ?_ ?_|rfl|exact(hl.one rfl).2) hy rfl) ?_;rintro _ iI ⟨rfl,bS,hy⟩;refine ay 2 ?_;refine tX aq Tryz.func128 Tryz.results128 rfl rfl hy.at_ aq aq rfl ?_;replace hT:=hT.t bS;replace hm:=hm.t bS;exact⟨_,rfl,hT.bN ai,m,hm.out hT bq (fu C) (λb _=>jT C ai b),hap⟩
namespace DW
def c0:=cw Tryz.f137
end DW
theorem M_ {w₀:World} {C:Nat->Nat} {ds:List bC} {bz c4:Value} {a b:ak} (hF:aL w₀ C) (uf:gp w₀ (au C) ds c4):Calls Tryz.prog 137 #[.agg #[bz,c4],.agg #[.int .i64 a.a,.int .i64 a.b],.agg #[.int .i64 b.a,.int .i64 b.b]] w₀ (bH λv w'=>v=.bool (eU ds a b)/\ax [] w₀ C w' C):=by
 have bq:=hF;have hT:=z9 w₀ C;replace hF:=hF.bk;obtain⟨m,hm,hap⟩:=uf;replace hm:tY w₀ (au (bk C)) xD (λb:Bool=>Value.bool b) m c4:=by rw[fu];exact hm
 refine cg Tryz.func137 ?_;refine aG 2 ?_ [8];refine bD (eX (cs:=[bz,c4]) hF 3 rfl rfl) ?_;rintro _ w1 ⟨eP,ct,rfl,s_1,hx,hF⟩;refine bD (eX (cs:=bh a) hF 3 rfl rfl) ?_;rintro _ w2 ⟨dm,ew,rfl,s_2,ha,hF⟩;refine bD (eX (cs:=bh b) hF 3 rfl rfl) ?_;rintro _ w3 ⟨nt,pz,rfl,aB,hb,hF⟩;refine ay 3 ?_;by_cases hA:a.a=b.a
 ·
  refine aG 2 ?_ [3437685,0];replace ha:=ha.t aB;refine bU ha.at_ ?_;refine aj 1 ?_ [0];refine bU hb.at_ ?_;refine dT hA ?_;refine ay 18 ?_;refine bI Tryz.func137 ?_;replace hT:=((hT.t s_1).t s_2).t aB;exact⟨by unfold eU;rw[decide_eq_true hA];rfl,hT.bN ai⟩
 by_cases hX:jw ds a b=true
 ·
  refine aG 2 ?_ [3437685,0];replace ha:=ha.t aB;refine bU ha.at_ ?_;refine aj 1 ?_ [0];refine bU hb.at_ ?_;refine ey hA ?_;refine aj 2 ?_ [1];replace hx:=(hx.t s_2).t aB;refine bU hx.at_ ?_;refine cu 2 (bh a) ha.at_ ?_;refine cu 2 (bh b) hb.at_ ?_;refine bK (λ_=>gO (zs:=[.int .i64 0,.int .i64 0,.int .i64 0,.int .i64 0]) (ps:=[(0,2),(2,2)]) (eo:=[(0,bh (a)),(1,bh (b))]) (cs:=[.int .i64 (a).a,.int .i64 (a).b,.int .i64 (b).a,.int .i64 (b).b]) aq aq (by exact⟨rfl,⟨_,rfl,rfl⟩,rfl,⟨_,rfl,rfl⟩,trivial⟩) rfl) ?_;replace hm:=((hm.t s_1).t s_2).t aB;refine ov (gV (hm.lookup (z0:=false) (k:=(a,b)) Tryz.underlying127 (CX Tryz.underlying227 ai ai aq Tryz.underlying55 ai ai aq Tryz.underlying3 aq aq) Tryz.zeroValue4 rfl rfl) (show _=Value.bool true from congrArg Value.bool ((hap a b).trans hX))) ?_;refine ay 11 ?_;refine bI Tryz.func137 ?_;replace hT:=((hT.t s_1).t s_2).t aB;exact⟨by unfold eU;rw[hX];simp,hT.bN ai⟩
 by_cases hY:jw ds b a=true
 ·
  refine aG 2 ?_ [3437685,0];replace ha:=ha.t aB;refine bU ha.at_ ?_;refine aj 1 ?_ [0];refine bU hb.at_ ?_;refine ey hA ?_;refine aj 2 ?_ [1];replace hx:=(hx.t s_2).t aB;refine bU hx.at_ ?_;refine cu 2 (bh a) ha.at_ ?_;refine cu 2 (bh b) hb.at_ ?_;refine bK (λ_=>gO (zs:=[.int .i64 0,.int .i64 0,.int .i64 0,.int .i64 0]) (ps:=[(0,2),(2,2)]) (eo:=[(0,bh (a)),(1,bh (b))]) (cs:=[.int .i64 (a).a,.int .i64 (a).b,.int .i64 (b).a,.int .i64 (b).b]) aq aq (by exact⟨rfl,⟨_,rfl,rfl⟩,rfl,⟨_,rfl,rfl⟩,trivial⟩) rfl) ?_;replace hm:=((hm.t s_1).t s_2).t aB;refine ov (gV (hm.lookup (z0:=false) (k:=(a,b)) Tryz.underlying127 (CX Tryz.underlying227 ai ai aq Tryz.underlying55 ai ai aq Tryz.underlying3 aq aq) Tryz.zeroValue4 rfl rfl) (show _=Value.bool false from congrArg Value.bool ((hap a b).trans (Bool.eq_false_iff.2 hX)))) ?_;refine aj 3 ?_ [1];refine bU hx.at_ ?_;refine cu 2 (bh b) hb.at_ ?_;refine cu 2 (bh a) ha.at_ ?_;refine bK (λ_=>gO (zs:=[.int .i64 0,.int .i64 0,.int .i64 0,.int .i64 0]) (ps:=[(0,2),(2,2)]) (eo:=[(0,bh (b)),(1,bh (a))]) (cs:=[.int .i64 (b).a,.int .i64 (b).b,.int .i64 (a).a,.int .i64 (a).b]) aq aq (by exact⟨rfl,⟨_,rfl,rfl⟩,rfl,⟨_,rfl,rfl⟩,trivial⟩) rfl) ?_;refine ov (gV (hm.lookup (z0:=false) (k:=(b,a)) Tryz.underlying127 (CX Tryz.underlying227 ai ai aq Tryz.underlying55 ai ai aq Tryz.underlying3 aq aq) Tryz.zeroValue4 rfl rfl) (show _=Value.bool true from congrArg Value.bool ((hap b a).trans hY))) ?_;refine ay 3 ?_;refine bI Tryz.func137 ?_;replace hT:=((hT.t s_1).t s_2).t aB;exact⟨by unfold eU;rw[hY];simp,hT.bN ai⟩
 refine aG 2 ?_ [3437685,0];replace ha:=ha.t aB;refine bU ha.at_ ?_;refine aj 1 ?_ [0];refine bU hb.at_ ?_;refine ey hA ?_;refine aj 2 ?_ [1];replace hx:=(hx.t s_2).t aB;refine bU hx.at_ ?_;refine cu 2 (bh a) ha.at_ ?_;refine cu 2 (bh b) hb.at_ ?_;refine bK (λ_=>gO (zs:=[.int .i64 0,.int .i64 0,.int .i64 0,.int .i64 0]) (ps:=[(0,2),(2,2)]) (eo:=[(0,bh (a)),(1,bh (b))]) (cs:=[.int .i64 (a).a,.int .i64 (a).b,.int .i64 (b).a,.int .i64 (b).b]) aq aq (by exact⟨rfl,⟨_,rfl,rfl⟩,rfl,⟨_,rfl,rfl⟩,trivial⟩) rfl) ?_;replace hm:=((hm.t s_1).t s_2).t aB;refine ov (gV (hm.lookup (z0:=false) (k:=(a,b)) Tryz.underlying127 (CX Tryz.underlying227 ai ai aq Tryz.underlying55 ai ai aq Tryz.underlying3 aq aq) Tryz.zeroValue4 rfl rfl) (show _=Value.bool false from congrArg Value.bool ((hap a b).trans (Bool.eq_false_iff.2 hX)))) ?_;refine aj 3 ?_ [1];refine bU hx.at_ ?_;refine cu 2 (bh b) hb.at_ ?_;refine cu 2 (bh a) ha.at_ ?_;refine bK (λ_=>gO (zs:=[.int .i64 0,.int .i64 0,.int .i64 0,.int .i64 0]) (ps:=[(0,2),(2,2)]) (eo:=[(0,bh (b)),(1,bh (a))]) (cs:=[.int .i64 (b).a,.int .i64 (b).b,.int .i64 (a).a,.int .i64 (a).b]) aq aq (by exact⟨rfl,⟨_,rfl,rfl⟩,rfl,⟨_,rfl,rfl⟩,trivial⟩) rfl) ?_;refine ov (gV (hm.lookup (z0:=false) (k:=(b,a)) Tryz.underlying127 (CX Tryz.underlying227 ai ai aq Tryz.underlying55 ai ai aq Tryz.underlying3 aq aq) Tryz.zeroValue4 rfl rfl) (show _=Value.bool false from congrArg Value.bool ((hap b a).trans (Bool.eq_false_iff.2 hY)))) ?_;refine ay 3 ?_;refine bI Tryz.func137 ?_;replace hT:=((hT.t s_1).t s_2).t aB;exact⟨by unfold eU;rw[decide_eq_false hA,Bool.eq_false_iff.2 hX,Bool.eq_false_iff.2 hY];rfl,hT.bN ai⟩
end
end Go.Proofs.YtmdhggfehknjjaaGreat
namespace Go.Proofs.YtmdhggfehknjjaaGreat
open Go.K Go.K.aZ
theorem Ub {w₀:World} {C:Nat->Nat} {l:List aD} {ds:List bC} {aK cO:Value} (hF:aL w₀ C) (hl:av w₀ (au C) l aK) (hz:av w₀ (au C) ds cO) (hE:iO l ds≠0):Calls Tryz.prog 128 #[aK,cO] w₀ (bH λv w'=>v=.tuple #[.agg #[.slice none 0 0,.map none],.int .i64 (iO l ds)]/\ax [] w₀ C w' C):=by
 have bq:=hF;have hT:=z9 w₀ C;replace hF:=hF.bk;replace hl:=hl.c1;replace hz:=hz.c1;refine cg Tryz.func128 ?_;refine aG 2 ?_ [2];refine bD (fD (cs:=[.slice none 0 0,.map none]) hF 3 aq) ?_;rintro _ w1 ⟨eP,ct,rfl,s_1,hy,hF⟩;refine bQ 6 ?_ [5];replace hl:=hl.t s_1;refine bZ Tryz.call82 (Ic hF hl) ?_;rintro kO w2 ⟨rfl,s_2⟩;refine ay 7 ?_ [3];refine bF 14 rfl (λfJ=>?_) (λfJ=>?_)
 ·
  have I7:iO l ds=gD l:=by unfold iO;rw[if_pos fJ]
  refine aG 2 ?_ [11];refine bK (λ_=>gO (zs:=[.slice none 0 0,.map none]) (ps:=[(0,1),(1,1)]) (eo:=[]) (cs:=[.slice none 0 0,.map none]) aq aq trivial rfl) ?_;refine aj 1 ?_;replace hy:=hy.t s_2;refine cq (eO (vs:=[.slice none 0 0,.map none]) (n:=2) rfl rfl aq rfl rfl (by intro u hu;simp only[List.mem_cons,List.not_mem_nil,or_false] at hu;rcases hu with rfl|rfl<;>first|rfl) hy rfl) ?_;rintro _ w3 ⟨rfl,aB,hy⟩;refine ay 2 ?_;refine tX aq Tryz.func128 Tryz.results128 rfl rfl hy.at_ aq aq rfl ?_;replace hT:=((hT.t s_1).t s_2).t aB;exact⟨by rw[I7],hT.bN ai⟩
 have I7:iO l ds=jY ds:=by unfold iO;rw[if_neg fJ]
 refine aG 5 ?_ [5];replace hz:=(hz.t s_1).t s_2;replace hF:=hF.st s_2;refine bZ Tryz.call63 (M8 hF hz) ?_;rintro j4 w4 ⟨rfl,aM⟩;refine bQ 5 ?_ [3];refine bK (λ_=>KF (wZ rfl rfl) (by rw[<-I7];exact hE)) ?_;refine bQ 4 ?_ [11];refine bK (λ_=>gO (zs:=[.slice none 0 0,.map none]) (ps:=[(0,1),(1,1)]) (eo:=[]) (cs:=[.slice none 0 0,.map none]) aq aq trivial rfl) ?_;refine aj 1 ?_;replace hy:=(hy.t s_2).t aM;refine cq (eO (vs:=[.slice none 0 0,.map none]) (n:=2) rfl rfl aq rfl rfl (by intro u hu;simp only[List.mem_cons,List.not_mem_nil,or_false] at hu;rcases hu with rfl|rfl<;>first|rfl) hy rfl) ?_;rintro _ ez ⟨rfl,aV,hy⟩;refine ay 2 ?_;refine tX aq Tryz.func128 Tryz.results128 rfl rfl hy.at_ aq aq rfl ?_;replace hT:=(((hT.t s_1).t s_2).t aM).t aV;exact⟨by rw[I7],hT.bN ai⟩
end Go.Proofs.YtmdhggfehknjjaaGreat
namespace Go.Proofs.YtmdhggfehknjjaaGreat
open Go.K Go.K.aZ
noncomputable section
namespace r4
def c0:=cw Tryz.f190
end r4
theorem q4 {w₀:World} {C:Nat->Nat} {l:List ak} {aK:Value} {p:ak->Bool} {nf:Nat} {caps:Array Value} (ja:∀args w,(callFunc nf args).run Tryz.prog w=.ok (.enter nf args) w) (hp:∀w1,ax [] w₀ C w1 C->∀x∈l,Calls Tryz.prog nf ([dH x]++caps.toList).toArray w1 (bH λv w'=>v=.bool (p x)/\ax [] w1 C w' C)) (hF:aL w₀ C) (hl:av w₀ (au C) l aK):Calls Tryz.prog 190 #[aK,.func (.func nf) #[] caps] w₀ (bH λv w'=>v=.int .i64 (idxOf p l)/\ax [] w₀ C w' C):=by
 have hT:=ax.refl [] w₀ C;refine cg Tryz.func190 ?_;refine aG 8 ?_ [1,7];refine dE hl.ln ?_;refine ay 3 ?_;refine cH (ι:=Nat) (I:=λx w=>x<=l.length/\(∀i (hi:i<x) (hl:i<l.length),p l[i]=false)/\aL w C/\ax [] w₀ C w C/\av w (au C) l aK) (e:=λx=>[(0,aK),(1,.func (.func nf) #[] caps),(7,.int .i64 l.length),(8,.int .i64 x)]) (m:=λx=>l.length-x) (cC:=0) (af 0 (af 1 (af 7 (af 8 (aR _))))) ?_ ?_
 · exact⟨Nat.zero_le _,λi hi _=>by first|omega|(simp only at hi;omega),hF,hT,hl⟩
 intro k w1 hI bV;obtain⟨hk,h0,hF,hT,hl⟩:=hI;try simp only at hk h0 hF hT hl
 show Run _ _ _ _ [(0,aK),(1,.func (.func nf) #[] caps),(7,.int .i64 l.length),(8,.int .i64 k)] _ _;have hle:=hl.le;refine aI 5 ?_ [1];refine bF 9 rfl (λgi=>?_) (λgi=>?_)
 ·
  have aA:k<l.length:=by omega
  refine aG 13 ?_ [3,15];refine bn hl ?_;intro _ gT qI fJ;refine iq fJ ?_;intro vU g15;obtain rfl:=bR.1 g15;refine nz ?_;refine G3 (iT 16 (.call {callee:=.value 11,args:=#[15],argTypes:=#[55]})) rfl rfl (xb ja rfl rfl) (hp _ hT (l[k]'aA) (List.getElem_mem aA)) ?_;rintro kO w2 ⟨rfl,s_1⟩;refine cK ?_;refine ay 1 ?_;refine gJ 16 rfl (λen=>?_) (λen=>?_)
  ·
   refine aI 5 ?_ [3];refine bI Tryz.func190 ?_;replace hT:=hT.t s_1;exact⟨by rw[AH aA (λi hi=>h0 i hi ah) en],hT⟩
  refine aI 6 ?_ [3];replace hF:=hF.st s_1;replace hT:=hT.t s_1;replace hl:=hl.t s_1;refine kp (aH 0 rfl rfl (aH 1 rfl rfl (aH 7 rfl rfl (aH 8 rfl (eq_int aF) (aR _))))) (bV (k+1) _ ⟨aJ,(λi hi hl=>by
    by_cases e:i=k
    ·subst e;exact en
    ·exact h0 i (by first|omega|(simp only at hi;omega)) hl),hF,hT,hl⟩ aJ)
 have aA:k=l.length:=by omega
 refine aI 5 ?_ [1];refine bI Tryz.func190 ?_;exact⟨by rw[Ey (λi hi=>h0 i ah hi)],hT⟩
namespace o8
def c0:=cw Tryz.f134
end o8
theorem FH {w₀:World} {C:Nat->Nat} {l:List ak} {aK:Value} {p:ak->Bool} {nf:Nat} {caps:Array Value} (ja:∀args w,(callFunc nf args).run Tryz.prog w=.ok (.enter nf args) w) (hp:∀w1,ax [] w₀ C w1 C->∀x∈l,Calls Tryz.prog nf ([dH x]++caps.toList).toArray w1 (bH λv w'=>v=.bool (p x)/\ax [] w1 C w' C)) (hF:aL w₀ C) (hl:av w₀ (au C) l aK):Calls Tryz.prog 134 #[aK,.func (.func nf) #[] caps] w₀ (bH λv w'=>v=.bool (l.any p)/\ax [] w₀ C w' C):=by
 have hT:=ax.refl [] w₀ C;refine cg Tryz.func134 ?_;refine aG 8 ?_ [1,27];refine bZ Tryz.call190 (q4 ja hp hF hl) ?_;rintro lX w1 ⟨rfl,s_1⟩;refine ay 3 ?_;refine bI Tryz.func134 ?_;replace hT:=hT.t s_1;exact⟨by rw[xx],hT⟩
end
end Go.Proofs.YtmdhggfehknjjaaGreat
