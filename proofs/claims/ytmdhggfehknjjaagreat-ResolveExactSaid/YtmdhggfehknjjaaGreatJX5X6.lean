/- Steps through functions of the program. -/
import Derived.Test.YtmdhggfehknjjaaGreatJX1X4
import Derived.Test.YtmdhggfehknjjaaGreatL3
set_option maxRecDepth 100000
set_option maxHeartbeats 4000000
namespace Go.Proofs.YtmdhggfehknjjaaGreat
open Go.K Go.K.aZ
noncomputable section
namespace abw
def c0:=cw Tryz.f47
def tZ:=(cl (aC (aC (aC (aC c0)))))
def N8:=(cl (aC (cl (cl (aC tZ)))))
def wG:=di (aC (cl N8))
end abw
theorem N9 {w₀:World} {C:Nat->Nat} {l:List aD} {aK:Value} (hF:aL w₀ C) (hl:av w₀ (au C) l aK) (hlen:l.length<=100000):
    Calls Tryz.prog 47 #[aK] w₀ (bH λv w'=>∃u,v=.tuple #[u,.int .i64 (gD l)]/\ax [] w₀ C w' C/\av w' (au C) (if gD l=0 then aP l else[]) u):=by
 have bq:=hF;have hT:=z9 w₀ C;replace hF:=hF.bk;replace hl:=hl.c1;refine cg Tryz.func47 ?_;refine aG 8 ?_ [3,125];refine bZ Tryz.call27 (abh hF hl hlen) ?_;rintro lX w1 ⟨u,rfl,s_1,hp⟩;refine ay 12 ?_ [3];refine bF 15 rfl (λjO=>?_) (λjO=>?_)
 ·
  refine aI 6 ?_ [7];refine rm aq Tryz.func47 Tryz.results47 rfl rfl ?_;replace hT:=hT.t s_1;exact⟨_,rfl,hT.bN ai,by rw[if_neg jO];exact gu⟩
 have l9:gD l=0:=Classical.not_not.1 jO;have k7:=Et l9;have mw:=K5 l;rw[if_pos l9] at hp;refine aG 4 ?_ [11];refine dE hp.ln ?_;replace hF:=hF.st s_1;refine bD (El (e:=23) (bytes:=24) (x0:=(⟨.slice none 0 0⟩:gC)) (zs:=[.slice none 0 0]) hF (j:=4) ai aq aq rfl rfl ah ah ah (λh M=>⟨rfl,rfl⟩)) ?_;rintro xG w2 ⟨dm,s_2,ho,hF⟩;rw[QU] at ho;refine ay 2 ?_;replace hT:=(hT.t s_1).t s_2;replace hT:ax ([2,3,4,5,6,7,8,9]++List.range' 10 (2*l.length+1)) w₀ (bk C) _ _:=hT.mono (by intro c hc;exact List.mem_append_left _ hc);refine aI 6 ?_ [1];refine cH (ι:=Nat×(Nat->Value)×(Nat->Nat)) (I:=λx w=>x.1<=l.length/\aL w x.2.2/\ax ([2,3,4,5,6,7,8,9]++List.range' 10 (2*l.length+1)) w₀ (bk C) w x.2.2/\av w (au x.2.2) l aK/\av w (au x.2.2) (dM l) u/\bg w x.2.2 4 23 xG (kL x.2.1 (dM l).length)/\(∀i,i<(dM l).length->bg w x.2.2 (10+i) 58 (x.2.1 i) ((ry l x.1).getD i []))) (e:=λx=>[(0,aK),(4,u),(6,xG),(7,.int .i64 x.1)]) (m:=λx=>l.length-x.1) (cC:=(0,λ_=> .slice none 0 0,dm)) (af 0 (af 4 (af 6 (af 7 (aR _))))) ?_ ?_
 ·
   replace hl:=(hl.t s_1).t s_2;replace hp:=hp.t s_2;exact⟨Nat.zero_le _,hF,hT,hl,hp,ho,λi hi=>by rw[QX];exact bg.nil⟩
 intro⟨k,gP,a_⟩ w3 hI bV;obtain⟨hk,hF,hT,hl,hp,ho,hin⟩:=hI;try simp only at hk hF hT hl hp ho hin
 show Run _ _ _ _ [(0,aK),(4,u),(6,xG),(7,.int .i64 k)] _ _;obtain⟨n,hn⟩:∃n,n=(dM l).length:=⟨_,rfl⟩
 rw[<-hn] at ho hin mw;have hsl:=vK gP n;refine aG 5 ?_ [15];refine dE hl.ln ?_;refine ay 2 ?_;refine bF 23 rfl (λh23=>?_) (λh23=>?_)
 ·
  have aA:k<l.length:=by omega
  obtain⟨i0,Bi⟩:=QW (l:=l) (r:=l[k].A) (jB.2 ⟨_,List.getElem_mem aA,.inl rfl⟩);have uA:i0<n:=by obtain⟨h1,_⟩:=CG.1 Bi;rw[hn];unfold dM;rwa [nQ]
  have Bd:=Hy l k i0;refine aG 8 ?_ [159];refine bn hl ?_;intro _ E8 E9 nx;have uG:=bJ.jr nx;refine aj 1 ?_ [0];refine iq uG ?_;intro v31 qT;obtain rfl:=bR.1 qT;refine bZ Tryz.call28 (BO (c:=l[k].A) hF hp) ?_;rintro j4 w4 ⟨rfl,aB⟩;rw[Yt Bi];replace hin:=λk hk=>(hin k hk).st aB (by simp<;>omega) (by simp<;>omega);refine ay 2 ?_;refine cm [10+i0] (a_) [1,3,5,7,9,11,13,15,17,19,20,22,25,26] b5 ?_;intro ez aM;replace hin:=λk hk=>(hin k hk).st aM (by simp<;>omega) (by simp<;>omega);have hR:=ax.refl [10+i0] ez (a_);refine aj 4 ?_;replace ho:=(ho.t aB).t aM;refine dx ho ?_;intro oa FU;refine pZ ho FU ?_;intro _ Ih xJ;obtain⟨U6,_⟩:=lY.1 xJ;rw[Ex] at U6;subst U6;refine aj 2 ?_;replace hl:=(hl.t aB).t aM;refine bn hl ?_;intro _ ahk ahl pQ;refine ck pQ ?_;intro wR oM;obtain rfl:=gY.1 oM;replace hF:=(hF.st aB).st aM;refine ej (fk (ys:=([l[k]'aA]:List aD)) (e:=58) (bytes:=40) hF aq rfl ai ai ⟨rfl,⟨_,rfl,gY.2 rfl⟩,trivial⟩) ?_;rintro vW fE ⟨aV,vX,hF⟩;refine⟨(hR.trans aV aF).ext,?_⟩;replace hin:=λk hk=>(hin k hk).st aV (by simp<;>omega) (by simp<;>omega);refine ej (eY (e:=58) (bytes:=40) hF ah rfl rfl aq ai (hin i0 uA) vX fC fC) ?_;rintro v44 w7 ⟨pH,aX,jP,hF⟩;replace hR:=hR.t aV;refine⟨(hR.trans aX aF).ext,?_⟩;replace hT:=((hT.t aB).t aM).t aV;replace hT:=hT.trans aX (by simp<;>omega);replace hR:=hR.trans aX (by simp<;>omega);replace hin:=λk hk (hne:k≠i0)=>(hin k hk).st aX (by simp<;>omega) (by simp<;>omega);replace ho:=(ho.t aV).t aX;refine dx ho ?_;intro L5 Jf;refine jU rfl ?_;refine cq (iU ho Jf ah rfl rfl aq (lY.2 ⟨rfl,jP.one.2⟩)) ?_;rintro _ fR ⟨rfl,bp,ho⟩;replace hin:=λk hk hne=>(hin k hk hne).st bp (by simp<;>omega) (by simp<;>omega);refine ay 7 ?_ [7]
  replace hp:=((((hp.t aB).t aM).t aV).t aX).t bp;replace hl:=((hl.t aV).t aX).t bp;replace hF:=hF.st bp;replace hT:=hT.t bp;replace jP:=jP.u bp;refine kp (aH 0 rfl rfl (aH 4 rfl rfl (aH 6 rfl rfl (aH 7 rfl (eq_int aF) (aR _))))) (bV (k+1,kf gP i0 v44,pH) _ ⟨aJ,hF,hT,hl,hp,(by simp only;rw[<-hn,<-Hv];exact ho),(λi hi=>by
     simp only;rw[QY aA Bi hi];by_cases e:i=i0
     ·subst e;simp only[kf,if_pos];exact jP
     ·simp only[kf,if_neg e];exact hin i ah e)⟩ aJ)
 have aA:k=l.length:=by omega
 subst aA;rw[Hw] at hin;refine aI 7 ?_ [7];refine rm aq Tryz.func47 Tryz.results47 rfl rfl ?_;rw[l9];have qJ: (aP l).length=n:=by rw[vJ,hn]
 rw[<-qJ] at ho;refine⟨_,rfl,hT.bN K8,?_⟩;rw[if_pos rfl];refine K_ (gP:=gP) (ho.out hT bq (fu C) (λb _=>jT C ai b) (by rw[vK];omega)) λi hi=>?_;exact(hin i ah).out hT bq (fu C) (λb _=>jT C ah b) (by rw[<-Hw];exact Nat.le_trans (Hy l _ i) ah)
namespace abx
def c0:=cw Tryz.f24
def kP:=(cl (aC (cl (aC (aC c0)))))
def nu:=(cl (cl (cl (aC (cl kP)))))
def ru:=di nu
end abx
theorem U7 {w₀:World} {C:Nat->Nat} {l:List (List ak)} {cR bz:Value} (hF:aL w₀ C) (ha:av w₀ (au C) l cR) (hb:av w₀ (au C) l bz):Calls Tryz.prog 24 #[cR,bz] w₀ (bH λv w'=>v=.bool true/\ax [] w₀ C w' C):=by
 have bq:=hF;have hT:=z9 w₀ C;replace hF:=hF.bk;replace ha:=ha.c1;replace hb:=hb.c1;refine cg Tryz.func24 ?_;refine aG 8 ?_ [1,31];refine dE ha.ln ?_;refine aj 1 ?_;refine dE hb.ln ?_;refine ey (λe=>e rfl) ?_;refine ay 9 ?_ [1];refine cH (ι:=Nat×(Nat->Nat)) (I:=λx w=>x.1<=l.length/\aL w x.2/\ax [2,3,4,5,6,7,8,9] w₀ (bk C) w x.2/\av w (au x.2) l cR/\av w (au x.2) l bz) (e:=λx=>[(0,cR),(1,bz),(5,.int .i64 x.1)]) (m:=λx=>l.length-x.1) (cC:=(0,bk C)) (af 0 (af 1 (af 5 (aR _)))) ?_ ?_
 · exact⟨Nat.zero_le _,hF,hT,ha,hb⟩
 intro⟨i,a_⟩ w1 hI bV;obtain⟨hi,hF,hT,ha,hb⟩:=hI;try simp only at hi hF hT ha hb
 show Run _ _ _ _ [(0,cR),(1,bz),(5,.int .i64 i)] _ _;have hle:=ha.le;refine aG 5 ?_ [15];refine dE ha.ln ?_;refine ay 2 ?_;refine bF 14 rfl (λfJ=>?_) (λfJ=>?_)
 ·
  have hil:i<l.length:=by omega
  refine aI 4 ?_;refine cm [] (a_) [1,3,5,7,9,11,13,15,16,19] b5 ?_;intro w2 s_1;have hR:=ax.refl [] w2 (a_);refine aj 2 ?_;replace ha:=ha.t s_1;refine bn ha ?_;intro _ Md E7 rH;refine fU rH ?_;intro v20 g20;refine aj 2 ?_;replace hb:=hb.t s_1;refine bn hb ?_;intro _ oW qz h23;refine fU h23 ?_;intro v24 g24;replace hF:=hF.st s_1;refine dC Tryz.call38 (dG hF g20 g24) ?_;rintro lP w3 ⟨rfl,s_2⟩;refine⟨(hR.trans s_2 aF).ext,?_⟩;refine ay 10 ?_ [7];replace hT:=(hT.t s_1).t s_2;replace hF:=hF.st s_2;replace ha:=ha.t s_2;replace hb:=hb.t s_2;refine kp (af 0 (af 1 (aH 5 rfl (eq_int aF) (aR _)))) (bV (i+1,a_) _ ⟨aJ,hF,hT,ha,hb⟩ aJ)
 refine aI 5 ?_ [1];refine bI Tryz.func24 ?_;exact⟨rfl,hT.bN ai⟩
end
end Go.Proofs.YtmdhggfehknjjaaGreat
namespace Go.Proofs.YtmdhggfehknjjaaGreat
open Go.K Go.K.aZ
noncomputable section
namespace aby
def c0:=cw Tryz.f183
def qH:=(cl (cl (aC (cl (aC c0)))))
def vY:=di (cl (cl (cl (aC qH))))
end aby
theorem abz {w₀:World} {C:Nat->Nat} {l:List bC} {a b:ak} {aK:Value} (hF:aL w₀ C) (hl:av w₀ (au C) l aK):Calls Tryz.prog 183 #[aK,.agg #[.int .i64 a.a,.int .i64 a.b],.agg #[.int .i64 b.a,.int .i64 b.b]] w₀ (bH λv w'=>v=.bool (jw l a b||jw l b a)/\ax [] w₀ C w' C):=by
 have bq:=hF;have hT:=z9 w₀ C;replace hF:=hF.bk;replace hl:=hl.c1;refine cg Tryz.func183 ?_;refine aG 2 ?_ [4];refine bD (eX (cs:=bh a) hF 3 rfl rfl) ?_;rintro _ w1 ⟨eP,ct,rfl,s_1,ka,hF⟩;refine bD (eX (cs:=bh b) hF 3 rfl rfl) ?_;rintro _ w2 ⟨dm,ew,rfl,s_2,kb,hF⟩;refine ay 8 ?_ [1];replace hl:=(hl.t s_1).t s_2;refine cH (ι:=Nat×(Nat->Nat)) (I:=λx w=>x.1<=l.length/\(∀k (hk:k<x.1) (hl:k<l.length),tg l[k] a b=false)/\aL w x.2/\ax [2,3,4,5,6,7,8,9] w₀ (bk C) w x.2/\av w (au x.2) l aK/\cE w x.2 3 ct (.cells (bh a).toArray 55)/\cE w x.2 3 ew (.cells (bh b).toArray 55)) (e:=λx=>[(0,aK),(4,.pointer (some ⟨ct,0,none⟩)),(5,.pointer (some ⟨ew,0,none⟩)),(7,.int .i64 x.1)]) (m:=λx=>l.length-x.1) (cC:=(0,dm)) (af 0 (af 4 (af 5 (af 7 (aR _))))) ?_ ?_
 ·
   replace hT:=(hT.t s_1).t s_2;replace ka:=ka.t s_2;exact⟨Nat.zero_le _,λk hk=>by first|omega|(simp only at hk;omega),hF,hT,hl,ka,kb⟩
 intro⟨i,a_⟩ w3 hI bV;obtain⟨hi,h0,hF,hT,hl,ka,kb⟩:=hI;try simp only at hi h0 hF hT hl ka kb
 show Run _ _ _ _ [(0,aK),(4,.pointer (some ⟨ct,0,none⟩)),(5,.pointer (some ⟨ew,0,none⟩)),(7,.int .i64 i)] _ _;have hle:=hl.le;refine aG 5 ?_ [15];refine dE hl.ln ?_;refine ay 2 ?_;refine bF 11 rfl (λkQ=>?_) (λkQ=>?_)
 ·
  have hil:i<l.length:=by omega
  refine aI 4 ?_;refine kJ 55 (tg (l[i]'hil) a b) (a_) ?_ ?_
  ·
   intro c5;by_cases lE: (l[i]'hil).same=true
   ·
    refine cm [] (a_) [1,3,5,7,9,11,13,15,17,19,21,23,25,27,29,31,33,35,37,39,41,43,45,47,49,51,53,55,57,59,61,63,65,67,69,71,73,75,77,79,81,83] b5 ?_;intro w4 aB;have hcs:=aB;refine aj 2 ?_;replace hl:=hl.t aB;refine bn hl ?_;intro _ gG pI en;have fF:=bJ.s8 en;refine aj 1 ?_ [6];refine fU fF ?_;intro qh g18;obtain rfl:=m_.1 g18;refine lW (λw' hS=>gV (nI rfl) (show _=Value.bool false from congrArg Value.bool (by rw[lE];rfl))) ?_;refine aj 36 ?_;exact cD.nil (c5 _ _ _ hcs rfl (by unfold tg;rw[lE];rfl) (ef 42))
   by_cases hA: (l[i]'hil).A=a
   ·
    by_cases hB: (l[i]'hil).B=b
    ·
     refine cm [] (a_) [1,3,5,7,9,11,13,15,17,19,21,23,25,27,29,31,33,35,37,39,41,43,45,47,49,51,53,55,57,59,61,63,65,67,69,71,73,75,77,79,81,83] b5 ?_;intro ez aM;have hcs:=aM;refine aj 2 ?_;replace hl:=hl.t aM;refine bn hl ?_;intro _ gG pI en;have fF:=bJ.s8 en;refine aj 1 ?_ [6];refine fU fF ?_;intro qh g18;obtain rfl:=m_.1 g18;refine lW (λw' hS=>gV (nI rfl) (show _=Value.bool true from congrArg Value.bool (by rw[(Bool.eq_false_iff.2 lE)];rfl))) ?_;refine aj 3 ?_;refine bn hl ?_;intro _ oW qz h23;have gl:=bJ.ej h23;refine aj 1 ?_ [0];refine ck gl ?_;intro v25 l8;obtain rfl:=bR.1 l8;replace ka:=ka.t aM;refine dn 2 (bh a) ka.sz ?_;refine bK (λ_=>mu (iw (a:=(l[i]'hil).A) (b:=a) Tryz.underlying55 ai ai aq Tryz.underlying3 rfl rfl) hA) ?_;refine aj 3 ?_;refine bn hl ?_;intro _ JA JB pF;have g_:=bJ.lH pF;refine aj 1 ?_ [2];refine ck g_ ?_;intro v33 rO;obtain rfl:=bR.1 rO;replace kb:=kb.t aM;refine dn 2 (bh b) kb.sz ?_;refine bK (λ_=>mu (iw (a:=(l[i]'hil).B) (b:=b) Tryz.underlying55 ai ai aq Tryz.underlying3 rfl rfl) hB) ?_;refine aj 20 ?_;exact cD.nil (c5 _ _ _ hcs rfl (by unfold tg;rw[Bool.eq_false_iff.2 lE,decide_eq_true ⟨hA,hB⟩];rfl) (ef 42))
    by_cases hP: (l[i]'hil).A=b
    ·
     by_cases hQ: (l[i]'hil).B=a
     ·
      refine cm [] (a_) [1,3,5,7,9,11,13,15,17,19,21,23,25,27,29,31,33,35,37,39,41,43,45,47,49,51,53,55,57,59,61,63,65,67,69,71,73,75,77,79,81,83] b5 ?_;intro fE aV;have hcs:=aV;refine aj 2 ?_;replace hl:=hl.t aV;refine bn hl ?_;intro _ gG pI en;have fF:=bJ.s8 en;refine aj 1 ?_ [6];refine fU fF ?_;intro qh g18;obtain rfl:=m_.1 g18;refine lW (λw' hS=>gV (nI rfl) (show _=Value.bool true from congrArg Value.bool (by rw[(Bool.eq_false_iff.2 lE)];rfl))) ?_;refine aj 3 ?_;refine bn hl ?_;intro _ oW qz h23;have gl:=bJ.ej h23;refine aj 1 ?_ [0];refine ck gl ?_;intro v25 l8;obtain rfl:=bR.1 l8;replace ka:=ka.t aV;refine dn 2 (bh a) ka.sz ?_;refine bK (λ_=>mu (iw (a:=(l[i]'hil).A) (b:=a) Tryz.underlying55 ai ai aq Tryz.underlying3 rfl rfl) hA) ?_;refine aj 3 ?_;refine bn hl ?_;intro _ JA JB pF;have g_:=bJ.lH pF;refine aj 1 ?_ [2];refine ck g_ ?_;intro v33 rO;obtain rfl:=bR.1 rO;replace kb:=kb.t aV;refine dn 2 (bh b) kb.sz ?_;refine bK (λ_=>lG (iw (a:=(l[i]'hil).B) (b:=b) Tryz.underlying55 ai ai aq Tryz.underlying3 rfl rfl) hB) ?_;refine aj 4 ?_;refine bn hl ?_;intro _ Bv Bw kj;have pQ:=bJ.ej kj;refine aj 1 ?_ [0];refine ck pQ ?_;intro wR oM;obtain rfl:=bR.1 oM;refine dn 2 (bh b) kb.sz ?_;refine bK (λ_=>mu (iw (a:=(l[i]'hil).A) (b:=b) Tryz.underlying55 ai ai aq Tryz.underlying3 rfl rfl) hP) ?_;refine aj 3 ?_;refine bn hl ?_;intro _ Gj Gk h48;have jR:=bJ.lH h48;refine aj 1 ?_ [2];refine ck jR ?_;intro v50 hU;obtain rfl:=bR.1 hU;refine dn 2 (bh a) ka.sz ?_;refine bK (λ_=>mu (iw (a:=(l[i]'hil).B) (b:=a) Tryz.underlying55 ai ai aq Tryz.underlying3 rfl rfl) hQ) ?_;refine aj 3 ?_;exact cD.nil (c5 _ _ _ hcs rfl (by unfold tg;rw[Bool.eq_false_iff.2 lE,decide_eq_false (λe=>hB e.2),decide_eq_true ⟨hP,hQ⟩];rfl) (ef 42))
     refine cm [] (a_) [1,3,5,7,9,11,13,15,17,19,21,23,25,27,29,31,33,35,37,39,41,43,45,47,49,51,53,55,57,59,61,63,65,67,69,71,73,75,77,79,81,83] b5 ?_;intro w7 aX;have hcs:=aX;refine aj 2 ?_;replace hl:=hl.t aX;refine bn hl ?_;intro _ gG pI en;have fF:=bJ.s8 en;refine aj 1 ?_ [6];refine fU fF ?_;intro qh g18;obtain rfl:=m_.1 g18;refine lW (λw' hS=>gV (nI rfl) (show _=Value.bool true from congrArg Value.bool (by rw[(Bool.eq_false_iff.2 lE)];rfl))) ?_;refine aj 3 ?_;refine bn hl ?_;intro _ oW qz h23;have gl:=bJ.ej h23;refine aj 1 ?_ [0];refine ck gl ?_;intro v25 l8;obtain rfl:=bR.1 l8;replace ka:=ka.t aX;refine dn 2 (bh a) ka.sz ?_;refine bK (λ_=>mu (iw (a:=(l[i]'hil).A) (b:=a) Tryz.underlying55 ai ai aq Tryz.underlying3 rfl rfl) hA) ?_;refine aj 3 ?_;refine bn hl ?_;intro _ JA JB pF;have g_:=bJ.lH pF;refine aj 1 ?_ [2];refine ck g_ ?_;intro v33 rO;obtain rfl:=bR.1 rO;replace kb:=kb.t aX;refine dn 2 (bh b) kb.sz ?_;refine bK (λ_=>lG (iw (a:=(l[i]'hil).B) (b:=b) Tryz.underlying55 ai ai aq Tryz.underlying3 rfl rfl) hB) ?_;refine aj 4 ?_;refine bn hl ?_;intro _ Bv Bw kj;have pQ:=bJ.ej kj;refine aj 1 ?_ [0];refine ck pQ ?_;intro wR oM;obtain rfl:=bR.1 oM;refine dn 2 (bh b) kb.sz ?_;refine bK (λ_=>mu (iw (a:=(l[i]'hil).A) (b:=b) Tryz.underlying55 ai ai aq Tryz.underlying3 rfl rfl) hP) ?_;refine aj 3 ?_;refine bn hl ?_;intro _ Gj Gk h48;have jR:=bJ.lH h48;refine aj 1 ?_ [2];refine ck jR ?_;intro v50 hU;obtain rfl:=bR.1 hU;refine dn 2 (bh a) ka.sz ?_;refine bK (λ_=>lG (iw (a:=(l[i]'hil).B) (b:=a) Tryz.underlying55 ai ai aq Tryz.underlying3 rfl rfl) hQ) ?_;refine aj 3 ?_;exact cD.nil (c5 _ _ _ hcs rfl (by unfold tg;rw[Bool.eq_false_iff.2 lE,decide_eq_false (λe=>hB e.2),decide_eq_false (λe=>hQ e.2)];rfl) (ef 42))
    refine cm [] (a_) [1,3,5,7,9,11,13,15,17,19,21,23,25,27,29,31,33,35,37,39,41,43,45,47,49,51,53,55,57,59,61,63,65,67,69,71,73,75,77,79,81,83] b5 ?_;intro fR bp;have hcs:=bp;refine aj 2 ?_;replace hl:=hl.t bp;refine bn hl ?_;intro _ gG pI en;have fF:=bJ.s8 en;refine aj 1 ?_ [6];refine fU fF ?_;intro qh g18;obtain rfl:=m_.1 g18;refine lW (λw' hS=>gV (nI rfl) (show _=Value.bool true from congrArg Value.bool (by rw[(Bool.eq_false_iff.2 lE)];rfl))) ?_;refine aj 3 ?_;refine bn hl ?_;intro _ oW qz h23;have gl:=bJ.ej h23;refine aj 1 ?_ [0];refine ck gl ?_;intro v25 l8;obtain rfl:=bR.1 l8;replace ka:=ka.t bp;refine dn 2 (bh a) ka.sz ?_;refine bK (λ_=>mu (iw (a:=(l[i]'hil).A) (b:=a) Tryz.underlying55 ai ai aq Tryz.underlying3 rfl rfl) hA) ?_;refine aj 3 ?_;refine bn hl ?_;intro _ JA JB pF;have g_:=bJ.lH pF;refine aj 1 ?_ [2];refine ck g_ ?_;intro v33 rO;obtain rfl:=bR.1 rO;replace kb:=kb.t bp;refine dn 2 (bh b) kb.sz ?_;refine bK (λ_=>lG (iw (a:=(l[i]'hil).B) (b:=b) Tryz.underlying55 ai ai aq Tryz.underlying3 rfl rfl) hB) ?_;refine aj 4 ?_;refine bn hl ?_;intro _ Bv Bw kj;have pQ:=bJ.ej kj;refine aj 1 ?_ [0];refine ck pQ ?_;intro wR oM;obtain rfl:=bR.1 oM;refine dn 2 (bh b) kb.sz ?_;refine bK (λ_=>lG (iw (a:=(l[i]'hil).A) (b:=b) Tryz.underlying55 ai ai aq Tryz.underlying3 rfl rfl) hP) ?_;refine aj 11 ?_;exact cD.nil (c5 _ _ _ hcs rfl (by unfold tg;rw[Bool.eq_false_iff.2 lE,decide_eq_false (λe=>hB e.2),decide_eq_false (λe=>hP e.1)];rfl) (ef 42))
   by_cases hP: (l[i]'hil).A=b
   ·
    by_cases hQ: (l[i]'hil).B=a
    ·
     refine cm [] (a_) [1,3,5,7,9,11,13,15,17,19,21,23,25,27,29,31,33,35,37,39,41,43,45,47,49,51,53,55,57,59,61,63,65,67,69,71,73,75,77,79,81,83] b5 ?_;intro gE bt;have hcs:=bt;refine aj 2 ?_;replace hl:=hl.t bt;refine bn hl ?_;intro _ gG pI en;have fF:=bJ.s8 en;refine aj 1 ?_ [6];refine fU fF ?_;intro qh g18;obtain rfl:=m_.1 g18;refine lW (λw' hS=>gV (nI rfl) (show _=Value.bool true from congrArg Value.bool (by rw[(Bool.eq_false_iff.2 lE)];rfl))) ?_;refine aj 3 ?_;refine bn hl ?_;intro _ oW qz h23;have gl:=bJ.ej h23;refine aj 1 ?_ [0];refine ck gl ?_;intro v25 l8;obtain rfl:=bR.1 l8;replace ka:=ka.t bt;refine dn 2 (bh a) ka.sz ?_;refine bK (λ_=>lG (iw (a:=(l[i]'hil).A) (b:=a) Tryz.underlying55 ai ai aq Tryz.underlying3 rfl rfl) hA) ?_;refine aj 12 ?_;refine bn hl ?_;intro _ Bv Bw kj;have pQ:=bJ.ej kj;refine aj 1 ?_ [0];refine ck pQ ?_;intro wR oM;obtain rfl:=bR.1 oM;replace kb:=kb.t bt;refine dn 2 (bh b) kb.sz ?_;refine bK (λ_=>mu (iw (a:=(l[i]'hil).A) (b:=b) Tryz.underlying55 ai ai aq Tryz.underlying3 rfl rfl) hP) ?_;refine aj 3 ?_;refine bn hl ?_;intro _ Gj Gk h48;have jR:=bJ.lH h48;refine aj 1 ?_ [2];refine ck jR ?_;intro v50 hU;obtain rfl:=bR.1 hU;refine dn 2 (bh a) ka.sz ?_;refine bK (λ_=>mu (iw (a:=(l[i]'hil).B) (b:=a) Tryz.underlying55 ai ai aq Tryz.underlying3 rfl rfl) hQ) ?_;refine aj 3 ?_;exact cD.nil (c5 _ _ _ hcs rfl (by unfold tg;rw[Bool.eq_false_iff.2 lE,decide_eq_false (λe=>hA e.1),decide_eq_true ⟨hP,hQ⟩];rfl) (ef 42))
    refine cm [] (a_) [1,3,5,7,9,11,13,15,17,19,21,23,25,27,29,31,33,35,37,39,41,43,45,47,49,51,53,55,57,59,61,63,65,67,69,71,73,75,77,79,81,83] b5 ?_;intro iI bM;have hcs:=bM;refine aj 2 ?_;replace hl:=hl.t bM;refine bn hl ?_;intro _ gG pI en;have fF:=bJ.s8 en;refine aj 1 ?_ [6];refine fU fF ?_;intro qh g18;obtain rfl:=m_.1 g18;refine lW (λw' hS=>gV (nI rfl) (show _=Value.bool true from congrArg Value.bool (by rw[(Bool.eq_false_iff.2 lE)];rfl))) ?_;refine aj 3 ?_;refine bn hl ?_;intro _ oW qz h23;have gl:=bJ.ej h23;refine aj 1 ?_ [0];refine ck gl ?_;intro v25 l8;obtain rfl:=bR.1 l8;replace ka:=ka.t bM;refine dn 2 (bh a) ka.sz ?_;refine bK (λ_=>lG (iw (a:=(l[i]'hil).A) (b:=a) Tryz.underlying55 ai ai aq Tryz.underlying3 rfl rfl) hA) ?_;refine aj 12 ?_;refine bn hl ?_;intro _ Bv Bw kj;have pQ:=bJ.ej kj;refine aj 1 ?_ [0];refine ck pQ ?_;intro wR oM;obtain rfl:=bR.1 oM;replace kb:=kb.t bM;refine dn 2 (bh b) kb.sz ?_;refine bK (λ_=>mu (iw (a:=(l[i]'hil).A) (b:=b) Tryz.underlying55 ai ai aq Tryz.underlying3 rfl rfl) hP) ?_;refine aj 3 ?_;refine bn hl ?_;intro _ Gj Gk h48;have jR:=bJ.lH h48;refine aj 1 ?_ [2];refine ck jR ?_;intro v50 hU;obtain rfl:=bR.1 hU;refine dn 2 (bh a) ka.sz ?_;refine bK (λ_=>lG (iw (a:=(l[i]'hil).B) (b:=a) Tryz.underlying55 ai ai aq Tryz.underlying3 rfl rfl) hQ) ?_;refine aj 3 ?_;exact cD.nil (c5 _ _ _ hcs rfl (by unfold tg;rw[Bool.eq_false_iff.2 lE,decide_eq_false (λe=>hA e.1),decide_eq_false (λe=>hQ e.2)];rfl) (ef 42))
   refine cm [] (a_) [1,3,5,7,9,11,13,15,17,19,21,23,25,27,29,31,33,35,37,39,41,43,45,47,49,51,53,55,57,59,61,63,65,67,69,71,73,75,77,79,81,83] b5 ?_;intro jj bE;have hcs:=bE;refine aj 2 ?_;replace hl:=hl.t bE;refine bn hl ?_;intro _ gG pI en;have fF:=bJ.s8 en;refine aj 1 ?_ [6];refine fU fF ?_;intro qh g18;obtain rfl:=m_.1 g18;refine lW (λw' hS=>gV (nI rfl) (show _=Value.bool true from congrArg Value.bool (by rw[(Bool.eq_false_iff.2 lE)];rfl))) ?_;refine aj 3 ?_;refine bn hl ?_;intro _ oW qz h23;have gl:=bJ.ej h23;refine aj 1 ?_ [0];refine ck gl ?_;intro v25 l8;obtain rfl:=bR.1 l8;replace ka:=ka.t bE;refine dn 2 (bh a) ka.sz ?_;refine bK (λ_=>lG (iw (a:=(l[i]'hil).A) (b:=a) Tryz.underlying55 ai ai aq Tryz.underlying3 rfl rfl) hA) ?_;refine aj 12 ?_;refine bn hl ?_;intro _ Bv Bw kj;have pQ:=bJ.ej kj;refine aj 1 ?_ [0];refine ck pQ ?_;intro wR oM;obtain rfl:=bR.1 oM;replace kb:=kb.t bE;refine dn 2 (bh b) kb.sz ?_;refine bK (λ_=>lG (iw (a:=(l[i]'hil).A) (b:=b) Tryz.underlying55 ai ai aq Tryz.underlying3 rfl rfl) hP) ?_;refine aj 11 ?_;exact cD.nil (c5 _ _ _ hcs rfl (by unfold tg;rw[Bool.eq_false_iff.2 lE,decide_eq_false (λe=>hA e.1),decide_eq_false (λe=>hP e.1)];rfl) (ef 42))
  intro jQ bP;refine gJ 55 rfl (λnW=>?_) (λnW=>?_)
  ·
   refine aI 4 ?_ [1];refine bI Tryz.func183 ?_;replace hT:=hT.t bP;exact⟨by rw[<-Sq,List.any_eq_true.2 ⟨_,List.getElem_mem hil,nW⟩],hT.bN ai⟩
  refine aI 7 ?_ [7];replace hF:=hF.st bP;replace hT:=hT.t bP;replace hl:=hl.t bP;replace ka:=ka.t bP;replace kb:=kb.t bP;refine kp (aH 0 rfl rfl (aH 4 rfl rfl (aH 5 rfl rfl (aH 7 rfl (eq_int aF) (aR _))))) (bV (i+1,a_) _ ⟨aJ,(λk hk hl=>by
       try simp only at hk
       by_cases e:k=i
       ·subst e;exact nW
       ·exact h0 k ah hl),hF,hT,hl,ka,kb⟩ aJ)
 have hil:i=l.length:=by omega
 refine aI 5 ?_ [1];refine bI Tryz.func183 ?_;exact⟨by rw[<-Sq,List.any_eq_false.2 (λx hx=>by obtain⟨k,hk,rfl⟩:=List.getElem_of_mem hx;rw[h0 k ah hk];simp)],hT.bN ai⟩
namespace abA
def c0:=cw Tryz.f127
end abA
theorem N_ {w₀:World} {C:Nat->Nat} {l:List bC} {a b:ak} {aK:Value} (hF:aL w₀ C) (hl:av w₀ (au C) l aK):Calls Tryz.prog 127 #[aK,.agg #[.int .i64 a.a,.int .i64 a.b],.agg #[.int .i64 b.a,.int .i64 b.b]] w₀ (bH λv w'=>v=.bool (!eU l a b)/\ax [] w₀ C w' C):=by
 have bq:=hF;have hT:=z9 w₀ C;replace hF:=hF.bk;replace hl:=hl.c1;refine cg Tryz.func127 ?_;refine aG 2 ?_ [4];refine bD (eX (cs:=bh a) hF 3 rfl rfl) ?_;rintro _ w1 ⟨eP,ct,rfl,s_1,ka,hF⟩;refine bD (eX (cs:=bh b) hF 3 rfl rfl) ?_;rintro _ w2 ⟨dm,ew,rfl,s_2,kb,hF⟩;refine ay 3 ?_;by_cases hA:a.a≠b.a
 ·
  refine aG 2 ?_ [7285,0];replace ka:=ka.t s_2;refine bU ka.at_ ?_;refine aj 1 ?_ [0];refine bU kb.at_ ?_;refine dT hA ?_;refine aj 2 ?_;refine cu 2 (bh a) ka.at_ ?_;refine cu 2 (bh b) kb.at_ ?_;replace hl:=(hl.t s_1).t s_2;refine bZ Tryz.call183 (abz (a:=a) (b:=b) hF hl) ?_;rintro lP w3 ⟨rfl,aB⟩;refine ay 4 ?_;refine bI Tryz.func127 ?_;replace hT:=((hT.t s_1).t s_2).t aB;exact⟨by unfold eU;rw[decide_eq_false hA,Bool.false_or],hT.bN ai⟩
 refine aG 2 ?_ [7285,0];replace ka:=ka.t s_2;refine bU ka.at_ ?_;refine aj 1 ?_ [0];refine bU kb.at_ ?_;refine ey hA ?_;refine ay 9 ?_;refine bI Tryz.func127 ?_;replace hT:=(hT.t s_1).t s_2;exact⟨by unfold eU;rw[decide_eq_true (Classical.not_not.1 hA)];rfl,hT.bN ai⟩
namespace abB
def c0:=cw Tryz.f71
end abB
theorem U8 {w₀:World} {C:Nat->Nat} {l:List aD} {ds:List bC} {aK cO:Value} (hF:aL w₀ C) (hl:av w₀ (au C) l aK) (hz:av w₀ (au C) ds cO):Calls Tryz.prog 71 #[aK,cO] w₀ (bH λv w'=>v=.int .i64 (iO l ds)/\ax [] w₀ C w' C):=by
 have bq:=hF;have hT:=z9 w₀ C;replace hF:=hF.bk;replace hl:=hl.c1;replace hz:=hz.c1;refine cg Tryz.func71 ?_;refine aG 8 ?_ [1,5];refine bZ Tryz.call58 (NZ hF hl) ?_;rintro lX w1 ⟨rfl,s_1⟩;refine ay 7 ?_ [3];refine bF 9 rfl (λgi=>?_) (λgi=>?_)
 ·
  refine aI 5 ?_ [3];refine bI Tryz.func71 ?_;replace hT:=hT.t s_1;exact⟨by unfold iO;rw[if_pos gi],hT.bN ai⟩
 refine aG 4 ?_ [5];replace hF:=hF.st s_1;replace hz:=hz.t s_1;refine bZ Tryz.call68 (T8 hF hz) ?_;rintro kO w2 ⟨rfl,s_2⟩;refine ay 2 ?_;refine bI Tryz.func71 ?_;replace hT:=(hT.t s_1).t s_2;exact⟨by unfold iO;rw[if_neg gi],hT.bN ai⟩
end
end Go.Proofs.YtmdhggfehknjjaaGreat
