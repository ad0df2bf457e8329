/- Steps through functions of the program. -/
import Derived.Test.YtmdhggfehknjjaaGreatJC1C5
import Derived.Test.YtmdhggfehknjjaaGreatL2
set_option maxRecDepth 100000
set_option maxHeartbeats 4000000
namespace Go.Proofs.YtmdhggfehknjjaaGreat
open Go.K Go.K.aZ
noncomputable section
namespace rz
def c0:=cw Tryz.f83
def Db:=(aC (aC (aC (aC (aC c0)))))
def rI:=(aC (cl (cl (aC (cl Db)))))
def E0:=(aC (aC (cl (cl (aC rI)))))
def pI:=di (aC (aC E0))
end rz
theorem Sg {w₀:World} {C:Nat->Nat} {l:List aD} {aK:Value} (hF:aL w₀ C) (hl:av w₀ (au C) l aK) (hlen:l.length<=100000):
    Calls Tryz.prog 83 #[aK] w₀ (bH λv w'=>∃u,v=.tuple #[u,.int .i64 (gD l)]/\ax [] w₀ C w' C/\(gD l≠0->u=.slice none 0 0)/\av w' (au C) (if gD l=0 then dM l else[]) u):=by
 have bq:=hF;have hT:=z9 w₀ C;replace hF:=hF.bk;replace hl:=hl.c1;refine cg Tryz.func83 ?_;refine aG 9 ?_ [3,5];refine bZ Tryz.call82 (Ic hF hl) ?_;rintro lX w1 ⟨rfl,s_1⟩;refine ay 7 ?_ [3];refine bF 16 rfl (λen=>?_) (λen=>?_)
 ·
  refine aI 6 ?_ [7];refine rm aq Tryz.func83 Tryz.results83 rfl rfl ?_;replace hT:=hT.t s_1;exact⟨_,rfl,hT.bN ai,λ_=>rfl,by rw[if_neg en];exact gu⟩
 have l9:gD l=0:=Classical.not_not.1 en;have k7:=Et l9;have RA:=lJ l;refine aG 4 ?_ [5];replace hF:=hF.st s_1;replace hl:=hl.t s_1;refine dc Tryz.call144 rfl (nw hF hl hlen 4 ai) ?_;rintro kO w2 ⟨rJ,L1,Sh,df,rfl,s_2,hF,hm,hf,hdom⟩;refine bQ 4 ?_ [2];refine bD (Cv hF 5 dH Cw) ?_;rintro _ EY ⟨v8,ba,rfl,aB,ku,hF⟩;refine bQ 10 ?_ [1,13];replace hl:=(hl.t s_2).t aB;refine bZ Tryz.call130 (C9 hF hl hlen) ?_;rintro l7 w3 ⟨aM,cW⟩;refine dE cW.ln ?_;refine ay 3 ?_;replace hT:=(((hT.t s_1).t s_2).t aB).t aM;replace hT:ax ([2,3,4,5,6,7,8,9]++List.range' 10 (2*l.length+1)) w₀ (bk C) _ _:=hT.mono (by intro c hc;exact List.mem_append_left _ hc);refine cH (ι:=Nat×(List (ak×ak))×(List (ak×Nat))×Value×(Nat->Value)×(Nat->Nat)) (I:=λx w=>x.1<=(aO l).length/\ox x.2.1 (b8 l) df/\Dom x.2.1 (aO l)/\ue x.2.2.1 ((eC (b8 l) ((aO l).take x.1)).map (b8 l))/\aL w x.2.2.2.2.2/\ax ([2,3,4,5,6,7,8,9]++List.range' 10 (2*l.length+1)) w₀ (bk C) w x.2.2.2.2.2/\av w (au x.2.2.2.2.2) (aO l) l7/\fZ w x.2.2.2.2.2 4 L1 dH dH x.2.1/\fZ w x.2.2.2.2.2 5 ba dH Cw x.2.2.1/\bg w x.2.2.2.2.2 3 52 x.2.2.2.1 (kL x.2.2.2.2.1 (eC (b8 l) ((aO l).take x.1)).length)/\(∀i,i<(eC (b8 l) ((aO l).take x.1)).length->bg w x.2.2.2.2.2 (10+i) 55 (x.2.2.2.2.1 i) ((iK (b8 l) ((aO l).take x.1)).getD i []))) (e:=λx=>[(5,.map (some L1)),(6,.map (some ba)),(7,x.2.2.2.1),(22,l7),(23,.int .i64 (aO l).length),(24,.int .i64 x.1)]) (m:=λx=>(aO l).length-x.1) (cC:=(0,Sh,[],.slice none 0 0,λ_=> .slice none 0 0,v8)) (af 5 (af 6 (af 7 (af 22 (af 23 (af 24 (aR _))))))) ?_ ?_
 ·
   replace hm:=(hm.t aB).t aM;replace hF:=hF.st aM;replace ku:=ku.t aM;exact⟨Nat.zero_le _,hf,hdom,ue.nil,hF,hT,cW,hm,ku,bg.nil,λi hi=>by simp[eC] at hi⟩
 intro⟨k,Sh,EZ,cM,gP,a_⟩ w4 hI bV;obtain⟨hk,hf,hdom,hai,hF,hT,cW,hm,ku,ho,hin⟩:=hI;try simp only at hk hf hdom hai hF hT cW hm ku ho hin
 show Run _ _ _ _ [(5,.map (some L1)),(6,.map (some ba)),(7,cM),(22,l7),(23,.int .i64 (aO l).length),(24,.int .i64 k)] _ _;have Si:=(AG (b8 l) ((aO l).take k)).length_le;rw[List.length_take] at Si;obtain⟨n,hn⟩:∃n,n=(eC (b8 l) ((aO l).take k)).length:=⟨_,rfl⟩
 rw[<-hn] at ho hin Si;have hsl:=vK gP n;refine aI 5 ?_ [1];refine bF 25 rfl (λje=>?_) (λje=>?_)
 ·
  have aA:k<(aO l).length:=by omega
  have dV:=hdom ((aO l)[k]'aA) (List.getElem_mem aA);have E1:=List.take_succ_eq_append_getElem aA;refine aG 5 ?_ [1];refine bn cW ?_;intro _ iN xK nV;refine iq nV ?_;intro zw Ba;obtain rfl:=bR.1 Ba;refine bD (fD (cs:=[.int .i64 0,.int .i64 0]) hF 6 aq) ?_;rintro _ ez ⟨zo,agk,rfl,aV,hx,hF⟩;replace hin:=λk hk=>(hin k hk).st aV (by simp<;>omega) (by simp<;>omega);refine cq (eO (vs:=bh ((aO l)[k]'aA)) (n:=2) rfl rfl aq rfl rfl (jf rfl) hx rfl) ?_;rintro _ fE ⟨rfl,aX,hx⟩;replace hin:=λk hk=>(hin k hk).st aX (by simp<;>omega) (by simp<;>omega);refine bQ 4 ?_ [1];refine cu 2 (bh ((aO l)[k]'aA)) hx.at_ ?_;replace hm:=(hm.t aV).t aX;replace hF:=hF.st aX;refine dc Tryz.call145 rfl (LX (r:=(aO l)[k]'aA) hF ai hm hf dV) ?_;rintro mE w7 ⟨rfl,bp,u2,hm,hf,Sf,hda,_⟩;replace hin:=λk hk=>(hin k hk).st bp (by simp<;>omega) (by simp<;>omega);replace hF:=hF.st bp;refine bD (fD (cs:=[.int .i64 0,.int .i64 0]) hF 7 aq) ?_;rintro _ fR ⟨sC,Bb,rfl,bt,hy,hF⟩;replace hin:=λk hk=>(hin k hk).st bt (by simp<;>omega) (by simp<;>omega);refine cq (eO (vs:=bh (b8 l ((aO l)[k]'aA))) (n:=2) rfl rfl aq rfl rfl (jf rfl) hy rfl) ?_;rintro _ gE ⟨rfl,bM,hy⟩;replace hin:=λk hk=>(hin k hk).st bM (by simp<;>omega) (by simp<;>omega);refine ay 2 ?_;by_cases hA: (fe EZ (b8 l ((aO l)[k]'aA))).isSome=true
  ·
   refine aG 2 ?_ [249];refine cu 2 (bh (b8 l ((aO l)[k]'aA))) hy.at_ ?_;obtain⟨i0,Sj⟩:=Option.isSome_iff_exists.1 hA;obtain⟨L3,Sk⟩:=hai.lt Sj;simp only[List.length_map,List.getElem_map] at L3 Sk;have uA:i0<n:=by rw[hn];exact L3
   replace ku:=((((ku.t aV).t aX).t bp).t bt).t bM;refine ov (gV (ku.Qt (z0:=(0:Nat)) (k:=b8 l ((aO l)[k]'aA)) Tryz.underlying200 (nP Tryz.underlying55 ai ai aq Tryz.underlying3) Tryz.zeroValue3 rfl rfl) (show _=Value.tuple #[.int .i64 ((i0:Nat):Int),.bool true] from by rw[Sj];rfl)) ?_;refine ay 14 ?_ [3];refine cm [10+i0] (sC) [1,3,5,7,9,11,13,14,16,19,20] b5 ?_;intro iI bE;replace hin:=λk hk=>(hin k hk).st bE (by simp<;>omega) (by simp<;>omega);have hR:=ax.refl [10+i0] iI (sC);refine aj 4 ?_;replace ho:=(((((ho.t aV).t aX).t bp).t bt).t bM).t bE;refine dx ho ?_;intro iY pG;refine pZ ho pG ?_;intro _ Bc oD;obtain⟨E2,_⟩:=lY.1 oD;rw[Ex] at E2;subst E2;have qJ:=(hin i0 uA).own.len;have Bd: ((iK (b8 l) ((aO l).take k)).getD i0 []).length<=(aO l).length:=K9 _ _ _ rT;replace hx:=(((hx.t bp).t bt).t bM).t bE;refine dn 2 (bh ((aO l)[k]'aA)) hx.sz ?_;replace hF:=(hF.st bM).st bE;refine ej (fk (ys:=([(aO l)[k]'aA]:List ak)) (e:=55) (bytes:=16) hF aq rfl ai ai ⟨rfl,⟨_,rfl,bR.2 rfl⟩,trivial⟩) ?_;rintro v54 jj ⟨bP,Ij,hF⟩;refine⟨(hR.trans bP aF).ext,?_⟩;replace hin:=λk hk=>(hin k hk).st bP (by simp<;>omega) (by simp<;>omega);refine ej (eY (e:=55) (bytes:=16) hF ah rfl rfl aq ai (hin i0 uA) Ij fC fC) ?_;rintro v55 jQ ⟨zx,bS,nW,hF⟩;replace hR:=hR.t bP;refine⟨(hR.trans bS aF).ext,?_⟩;replace hT:=((((((hT.t aV).t aX).t bp).t bt).t bM).t bE).t bP;replace hT:=hT.trans bS (by simp<;>omega);replace hR:=hR.trans bS (by simp<;>omega);replace hin:=λk hk (hne:k≠i0)=>(hin k hk).st bS (by simp<;>omega) (by simp<;>omega);replace ho:=(ho.t bP).t bS;refine dx ho ?_;intro zy L4;refine jU rfl ?_;refine cq (iU ho L4 ah rfl rfl aq (lY.2 ⟨rfl,nW.one.2⟩)) ?_;rintro _ ki ⟨rfl,b7,ho⟩
   replace hin:=λk hk hne=>(hin k hk hne).st b7 (by simp<;>omega) (by simp<;>omega);refine ay 6 ?_ [3];obtain⟨Be,E3⟩:=Yn (f:=b8 l) (r:=(aO l)[k]'aA) L3 Sk;rw[<-E1] at Be E3;have E4: (eC (b8 l) ((aO l).take (k+1))).length=n:=by rw[Be];exact hn.symm
   replace cW:=((((((((cW.t aV).t aX).t bp).t bt).t bM).t bE).t bP).t bS).t b7;replace hm:=(((((hm.t bt).t bM).t bE).t bP).t bS).t b7;replace ku:=(((ku.t bE).t bP).t bS).t b7;replace hF:=hF.st b7;replace hT:=hT.t b7;replace nW:=nW.u b7;refine kp (aH 5 rfl rfl (aH 6 rfl rfl (aH 7 rfl rfl (aH 22 rfl rfl (aH 23 rfl rfl (aH 24 rfl (eq_int aF) (aR _))))))) (bV (k+1,u2,EZ,cM,kf gP i0 v55,zx) _ ⟨aJ,aJ,(λs b7=>hda _ (hdom s b7)),(by simp only;rw[Be];exact hai),hF,hT,cW,hm,ku,(by simp only;rw[E4,<-Hv];exact ho),(λi hi=>by
      simp only at hi⊢;rw[E4] at hi;rw[E3];by_cases e:i=i0
      ·subst e;simp only[kf,if_pos];exact nW
      ·simp only[kf,if_neg e];have:=hin i hi e;simpa only[kf,if_neg e] using this)⟩ aJ)
  refine aG 2 ?_ [249];refine cu 2 (bh (b8 l ((aO l)[k]'aA))) hy.at_ ?_;have hno:fe EZ (b8 l ((aO l)[k]'aA))=none:=by simpa using hA
  replace ku:=((((ku.t aV).t aX).t bp).t bt).t bM;refine ov (gV (ku.Qt (z0:=(0:Nat)) (k:=b8 l ((aO l)[k]'aA)) Tryz.underlying200 (nP Tryz.underlying55 ai ai aq Tryz.underlying3) Tryz.zeroValue3 rfl rfl) (show _=Value.tuple #[.int .i64 ((0:Nat):Int),.bool false] from by rw[hno];rfl)) ?_;refine bQ 16 ?_ [3,7];replace ho:=((((ho.t aV).t aX).t bp).t bt).t bM;refine dE ho.ln ?_;refine bQ 5 ?_ [5];refine cu 2 (bh (b8 l ((aO l)[k]'aA))) hy.at_ ?_;refine aj 1 ?_;refine cq (xo (k:=b8 l ((aO l)[k]'aA)) (u:=(kL gP n).length) ku Tryz.underlying200 (nP Tryz.underlying55 ai ai aq Tryz.underlying3) rfl rfl rfl) ?_;rintro _ kA ⟨rfl,cn,ku⟩;replace hin:=λk hk=>(hin k hk).st cn (by simp<;>omega) (by simp<;>omega);refine bQ 3 ?_ [9];replace hF:=(hF.st bM).st cn;refine bD (fk (ys:=([⟨.slice none 0 0⟩]:List gC)) (e:=52) (bytes:=24) hF aq rfl ai ai ⟨rfl,⟨_,rfl,lY.2 ⟨rfl,rfl⟩⟩,trivial⟩) ?_;rintro v45 kR ⟨bY,L5,hF⟩;replace hin:=λk hk=>(hin k hk).st bY (by simp<;>omega) (by simp<;>omega);replace ho:=(ho.t cn).t bY;refine bD (eY (e:=52) (bytes:=24) hF ai rfl rfl aq ai ho L5 fC fC) ?_;rintro v46 kB ⟨Bf,bT,ho,hF⟩;replace hin:=λk hk=>(hin k hk).st bT (by simp<;>omega) (by simp<;>omega);rw[Ym] at ho;have E5:∀i,i<n+1->bg _ _ (10+i) 55 (kf gP n (.slice none 0 0) i) ((iK (b8 l) ((aO l).take k)).getD i []):=λi hi=>by
    by_cases e:i=n
    ·subst e;simp only[kf,if_pos];rw[Yp ah];exact bg.nil
    simp only[kf,if_neg e];exact hin i ah
  clear hin;have hin:=E5;clear E5;have uA:n<n+1:=Nat.lt_succ_self n;have bx:=vK (kf gP n (.slice none 0 0)) (n+1);rw[hsl];refine ay 2 ?_;refine cm [10+n] (Bf) [1,3,5,7,9,11,13,14,16,19,20] b5 ?_;intro mb b_;replace hin:=λk hk=>(hin k hk).st b_ (by simp<;>omega) (by simp<;>omega);have hR:=ax.refl [10+n] mb (Bf);refine aj 4 ?_;replace ho:=ho.t b_;refine dx ho ?_;intro iY pG;refine pZ ho pG ?_;intro _ Bc oD;obtain⟨E2,_⟩:=lY.1 oD;rw[Ex] at E2;subst E2;have qJ:=(hin n uA).own.len;have Bd: ((iK (b8 l) ((aO l).take k)).getD n []).length<=(aO l).length:=K9 _ _ _ rT;replace hx:=((((((hx.t bp).t bt).t bM).t cn).t bY).t bT).t b_;refine dn 2 (bh ((aO l)[k]'aA)) hx.sz ?_;replace hF:=hF.st b_;refine ej (fk (ys:=([(aO l)[k]'aA]:List ak)) (e:=55) (bytes:=16) hF aq rfl ai ai ⟨rfl,⟨_,rfl,bR.2 rfl⟩,trivial⟩) ?_;rintro v54 mc ⟨cQ,Ij,hF⟩;refine⟨(hR.trans cQ aF).ext,?_⟩;replace hin:=λk hk=>(hin k hk).st cQ (by simp<;>omega) (by simp<;>omega);refine ej (eY (e:=55) (bytes:=16) hF ah rfl rfl aq ai (hin n uA) Ij fC fC) ?_;rintro v55 mg ⟨E6,cB,nW,hF⟩;replace hR:=hR.t cQ;refine⟨(hR.trans cB aF).ext,?_⟩;replace hT:=(((((((((hT.t aV).t aX).t bp).t bt).t bM).t cn).t bY).t bT).t b_).t cQ;replace hT:=hT.trans cB (by simp<;>omega);replace hR:=hR.trans cB (by simp<;>omega);replace hin:=λk hk (hne:k≠n)=>(hin k hk).st cB (by simp<;>omega) (by simp<;>omega);replace ho:=(ho.t cQ).t cB;refine dx ho ?_;intro zy L4;refine jU rfl ?_;refine cq (iU ho L4 ah rfl rfl aq (lY.2 ⟨rfl,nW.one.2⟩)) ?_;rintro _ mQ ⟨rfl,dP,ho⟩;replace hin:=λk hk hne=>(hin k hk hne).st dP (by simp<;>omega) (by simp<;>omega);refine ay 6 ?_ [3];obtain⟨Be,E3⟩:=Yo (f:=b8 l) (xs:=((aO l).take k)) (r:=(aO l)[k]'aA) (λq hq e=>hai.none hno (List.mem_map.2 ⟨q,hq,e⟩)) hn;rw[<-E1] at Be E3
  have E4: (eC (b8 l) ((aO l).take (k+1))).length=(n+1):=by rw[Be];rw[List.length_append,<-hn];rfl
  replace cW:=(((((((((((cW.t aV).t aX).t bp).t bt).t bM).t cn).t bY).t bT).t b_).t cQ).t cB).t dP;replace hm:=((((((((hm.t bt).t bM).t cn).t bY).t bT).t b_).t cQ).t cB).t dP;replace ku:=(((((ku.t bY).t bT).t b_).t cQ).t cB).t dP;replace hF:=hF.st dP;replace hT:=hT.t dP;replace nW:=nW.u dP;refine kp (aH 5 rfl rfl (aH 6 rfl rfl (aH 7 rfl rfl (aH 22 rfl rfl (aH 23 rfl rfl (aH 24 rfl (eq_int aF) (aR _))))))) (bV (k+1,u2,iu EZ (b8 l ((aO l)[k]'aA)) (kL gP n).length,v46,kf (kf gP n (.slice none 0 0)) n v55,E6) _ ⟨aJ,aJ,(λs dP=>hda _ (hdom s dP)),(by
      have:=hai.new hno;simp only;rw[Be,List.map_append,vK,hn];simpa using this),hF,hT,cW,hm,ku,(by simp only;rw[E4,<-Hv];exact ho),(λi hi=>by
      simp only at hi⊢;rw[E4] at hi;rw[E3];by_cases e:i=n
      ·subst e;simp only[kf,if_pos];exact nW
      ·simp only[kf,if_neg e];have:=hin i hi e;simpa only[kf,if_neg e] using this)⟩ aJ)
 have aA:k=(aO l).length:=by omega
 subst aA;rw[List.take_length] at hn hin hai;refine aI 7 ?_ [7];refine rm aq Tryz.func83 Tryz.results83 rfl rfl ?_;rw[l9];have qJ: (dM l).length=n:=by unfold dM;rw[nQ,hn]
 rw[<-qJ] at ho;refine⟨_,rfl,hT.bN K8,λe=>absurd rfl e,?_⟩;rw[if_pos rfl];refine K_ (gP:=gP) (ho.out hT bq (fu C) (λb _=>jT C ai b) (by rw[vK];omega)) λi hi=>?_;exact(hin i ah).out hT bq (fu C) (λb _=>jT C ah b) (Nat.le_trans (K9 (b8 l) (aO l) i (Nat.le_refl _)) ah)
end
end Go.Proofs.YtmdhggfehknjjaaGreat
namespace Go.Proofs.YtmdhggfehknjjaaGreat
open Go.K Go.K.aZ
noncomputable section
namespace vp
def c0:=cw Tryz.f84
def rD:=(aC (aC (aC (aC (aC c0)))))
def br:=(cl (cl (aC (cl (aC rD)))))
def L6:=(aC (cl (cl (aC (aC br)))))
def E7:=di (aC L6)
end vp
theorem Sl {w₀:World} {C:Nat->Nat} {l:List aD} {aK:Value} (hF:aL w₀ C) (hl:av w₀ (au C) l aK) (hlen:l.length<=100000):
    Calls Tryz.prog 84 #[aK] w₀ (bH λv w'=>∃u,v=.tuple #[u,.int .i64 (gD l)]/\ax [] w₀ C w' C/\av w' (au C) (if gD l=0 then aP l else[]) u):=by
 have bq:=hF;have hT:=z9 w₀ C;replace hF:=hF.bk;replace hl:=hl.c1;refine cg Tryz.func84 ?_;refine aG 8 ?_ [3,125];refine bZ Tryz.call83 (Sg hF hl hlen) ?_;rintro lX w1 ⟨u,rfl,s_1,_,hp⟩;refine ay 12 ?_ [3];refine bF 21 rfl (λnX=>?_) (λnX=>?_)
 ·
  refine aI 6 ?_ [7];refine rm aq Tryz.func84 Tryz.results84 rfl rfl ?_;replace hT:=hT.t s_1;exact⟨_,rfl,hT.bN ai,by rw[if_neg nX];exact gu⟩
 have l9:gD l=0:=Classical.not_not.1 nX;have k7:=Et l9;have mw:=K5 l;rw[if_pos l9] at hp;refine aG 3 ?_ [2];replace hF:=hF.st s_1;refine bD (Cv hF 3 dH Cw) ?_;rintro _ EY ⟨v8,bm,rfl,s_2,hm,hF⟩;refine bQ 6 ?_ [7];replace hp:=hp.t s_2;refine dE hp.ln ?_;refine ay 3 ?_;replace hT:=(hT.t s_1).t s_2;replace hT:ax ([2,3,4,5,6,7,8,9]++List.range' 10 (2*l.length+1)) w₀ (bk C) _ _:=hT.mono (by intro c hc;exact List.mem_append_left _ hc);refine cH (ι:=Nat×(List (ak×Nat))×(Nat->Nat)) (I:=λx w=>x.1<=(dM l).length/\Ix x.2.1 (dM l) x.1 0/\aL w x.2.2/\ax ([2,3,4,5,6,7,8,9]++List.range' 10 (2*l.length+1)) w₀ (bk C) w x.2.2/\av w (au x.2.2) l aK/\av w (au x.2.2) (dM l) u/\fZ w x.2.2 3 bm dH Cw x.2.1) (e:=λx=>[(0,aK),(4,u),(6,.map (some bm)),(24,u),(25,.int .i64 (dM l).length),(26,.int .i64 x.1)]) (m:=λx=>(dM l).length-x.1) (cC:=(0,[],v8)) (af 0 (af 4 (af 6 (af 24 (af 25 (af 26 (aR _))))))) ?_ ?_
 ·
   replace hl:=(hl.t s_1).t s_2;exact⟨Nat.zero_le _,Ix.nil _,hF,hT,hl,hp,hm⟩
 intro⟨k,jX,a_⟩ w2 hI bV;obtain⟨hk,Bg,hF,hT,hl,hp,hm⟩:=hI;try simp only at hk Bg hF hT hl hp hm
 show Run _ _ _ _ [(0,aK),(4,u),(6,.map (some bm)),(24,u),(25,.int .i64 (dM l).length),(26,.int .i64 k)] _ _;refine aI 5 ?_ [1];refine bF 27 rfl (λj7=>?_) (λj7=>?_)
 ·
  have aA:k<(dM l).length:=by omega
  have zn: (dM l).getD k []=(dM l)[k]:=by rw[List.getD_eq_getElem?_getD,List.getElem?_eq_getElem aA];rfl
  refine aG 6 ?_ [27];refine bn hp ?_;intro _ E8 E9 nx;refine iF nx ?_;intro v30 ff;refine bQ 6 ?_ [7];refine dE ff.ln ?_;refine ay 3 ?_;refine cH (ι:=Nat×(List (ak×Nat))×(Nat->Nat)) (I:=λx w=>x.1<=((dM l)[k]'aA).length/\Ix x.2.1 (dM l) k x.1/\aL w x.2.2/\ax ([2,3,4,5,6,7,8,9]++List.range' 10 (2*l.length+1)) w₀ (bk C) w x.2.2/\av w (au x.2.2) l aK/\av w (au x.2.2) (dM l) u/\fZ w x.2.2 3 bm dH Cw x.2.1/\av w (au x.2.2) ((dM l)[k]'aA) v30) (e:=λx=>[(0,aK),(4,u),(6,.map (some bm)),(7,.int .i64 k),(24,u),(25,.int .i64 (dM l).length),(26,.int .i64 k),(31,v30),(32,.int .i64 ((dM l)[k]'aA).length),(33,.int .i64 x.1)]) (m:=λx=>((dM l)[k]'aA).length-x.1) (cC:=(0,jX,a_)) (af 0 (af 4 (af 6 (af 7 (af 24 (af 25 (af 26 (af 31 (af 32 (af 33 (aR _))))))))))) ?_ ?_
  · exact⟨Nat.zero_le _,Bg,hF,hT,hl,hp,hm,ff⟩
  intro⟨j,jX,a_⟩ w3 hI ei;obtain⟨hj,Bg,hF,hT,hl,hp,hm,ff⟩:=hI;try simp only at hj Bg hF hT hl hp hm ff
  show Run _ _ _ _ [(0,aK),(4,u),(6,.map (some bm)),(7,.int .i64 k),(24,u),(25,.int .i64 (dM l).length),(26,.int .i64 k),(31,v30),(32,.int .i64 ((dM l)[k]'aA).length),(33,.int .i64 j)] _ _;have agl:=ff.le;refine aI 5 ?_ [1];refine bF 34 rfl (λmR=>?_) (λmR=>?_)
  ·
   have hjl:j<((dM l)[k]'aA).length:=by omega
   refine aG 5 ?_ [1];refine bn ff ?_;intro _ uB Dc k8;refine iq k8 ?_;intro zz Bh;obtain rfl:=bR.1 Bh;refine bD (fD (cs:=[.int .i64 0,.int .i64 0]) hF 5 aq) ?_;rintro _ w4 ⟨gR,pE,rfl,aB,hx,hF⟩;refine cq (eO (vs:=bh ((((dM l)[k]'aA)[j]'hjl))) (n:=2) rfl rfl aq rfl rfl (jf rfl) hx rfl) ?_;rintro _ ez ⟨rfl,aM,hx⟩;refine bQ 3 ?_ [5];refine cu 2 (bh (((dM l)[k]'aA)[j]'hjl)) hx.at_ ?_;refine aj 1 ?_;replace hm:=(hm.t aB).t aM;refine cq (xo (k:=(((dM l)[k]'aA)[j]'hjl)) (u:=k) hm Tryz.underlying200 (nP Tryz.underlying55 ai ai aq Tryz.underlying3) rfl rfl rfl) ?_;rintro _ fE ⟨rfl,aV,hm⟩;refine ay 6 ?_ [3];have L7:=(aB.aY aM).aY aV;replace hT:=((hT.t aB).t aM).t aV;replace hl:=hl.t L7;replace hp:=hp.t L7;replace ff:=ff.t L7;replace hF:=(hF.st aM).st aV;refine kp (af 0 (af 4 (af 6 (af 7 (af 24 (af 25 (af 26 (af 31 (af 32 (aH 33 rfl (eq_int aF) (aR _))))))))))) (ei (j+1,iu jX (((dM l)[k]'aA)[j]'hjl) k,gR) _ ⟨aJ,(Bg.put aA hjl),hF,hT,hl,hp,hm,ff⟩ aJ)
  have hjl:j=((dM l)[k]'aA).length:=by omega
  have vo:=Bg.next (by rw[zn];omega);refine aI 6 ?_ [3];refine kp (af 0 (af 4 (af 6 (af 24 (af 25 (aH 26 rfl (eq_int aF) (aR _))))))) (bV (k+1,jX,a_) _ ⟨aJ,vo,hF,hT,hl,hp,hm⟩ aJ)
 have aA:k=(dM l).length:=by omega
 subst aA;refine aG 4 ?_ [11];refine dE hp.ln ?_;refine bD (El (e:=23) (bytes:=24) (x0:=(⟨.slice none 0 0⟩:gC)) (zs:=[.slice none 0 0]) hF (j:=4) ai aq aq rfl rfl ah ah ah (λh M=>⟨rfl,rfl⟩)) ?_;rintro v44 w7 ⟨pH,bp,ho,hF⟩;rw[QU] at ho;refine bQ 6 ?_ [7];replace hl:=hl.t bp;refine dE hl.ln ?_;refine ay 3 ?_;refine cH (ι:=Nat×(Nat->Value)×(Nat->Nat)) (I:=λx w=>x.1<=l.length/\aL w x.2.2/\ax ([2,3,4,5,6,7,8,9]++List.range' 10 (2*l.length+1)) w₀ (bk C) w x.2.2/\av w (au x.2.2) l aK/\fZ w x.2.2 3 bm dH Cw jX/\bg w x.2.2 4 23 v44 (kL x.2.1 (dM l).length)/\(∀i,i<(dM l).length->bg w x.2.2 (10+i) 58 (x.2.1 i) ((ry l x.1).getD i []))) (e:=λx=>[(0,aK),(6,.map (some bm)),(11,v44),(45,aK),(46,.int .i64 l.length),(47,.int .i64 x.1)]) (m:=λx=>l.length-x.1) (cC:=(0,λ_=> .slice none 0 0,pH)) (af 0 (af 6 (af 11 (af 45 (af 46 (af 47 (aR _))))))) ?_ ?_
 ·
   replace hT:=hT.t bp;replace hm:=hm.t bp;exact⟨Nat.zero_le _,hF,hT,hl,hm,ho,λi hi=>by rw[QX];exact bg.nil⟩
 intro⟨k,gP,a_⟩ fR hI j5;obtain⟨hk,hF,hT,hl,hm,ho,hin⟩:=hI;try simp only at hk hF hT hl hm ho hin
 show Run _ _ _ _ [(0,aK),(6,.map (some bm)),(11,v44),(45,aK),(46,.int .i64 l.length),(47,.int .i64 k)] _ _;obtain⟨n,hn⟩:∃n,n=(dM l).length:=⟨_,rfl⟩
 rw[<-hn] at ho hin mw;have hsl:=vK gP n;refine aI 5 ?_ [1];refine bF 48 rfl (λh48=>?_) (λh48=>?_)
 ·
  have aA:k<l.length:=by omega
  obtain⟨i0,Bi⟩:=QW (l:=l) (r:=l[k].A) (jB.2 ⟨_,List.getElem_mem aA,.inl rfl⟩);have uA:i0<n:=by obtain⟨h1,_⟩:=CG.1 Bi;rw[hn];unfold dM;rwa [nQ]
  have hlk:=Bg i0 _ (.inl ⟨by omega,Bi⟩);have Bd:=Hy l k i0;refine aG 5 ?_ [1];refine bn hl ?_;intro _ De Df jR;refine iq jR ?_;intro v50 hU;obtain rfl:=gY.1 hU;refine bD (fD (cs:=[.int .i64 0,.int .i64 0,.int .i64 0,.int .i64 0,.int .i64 0]) hF 5 aq) ?_;rintro _ gE ⟨wh,E_,rfl,bt,hx,hF⟩;replace hin:=λk hk=>(hin k hk).st bt (by simp<;>omega) (by simp<;>omega);refine cq (eO (vs:=iH (l[k]'aA)) (n:=5) rfl rfl aq rfl rfl (jf rfl) hx rfl) ?_;rintro _ iI ⟨rfl,bM,hx⟩;replace hin:=λk hk=>(hin k hk).st bM (by simp<;>omega) (by simp<;>omega);refine bQ 5 ?_ [19,0];refine cu 2 (bh (l[k]'aA).A) hx.at_ ?_;replace hm:=(hm.t bt).t bM;refine ov (gV (hm.lookup (z0:=(0:Nat)) (k:=(l[k]'aA).A) Tryz.underlying200 (nP Tryz.underlying55 ai ai aq Tryz.underlying3) Tryz.zeroValue3 rfl rfl) (show _=Value.int .i64 (i0:Int) from by rw[hlk];rfl)) ?_;refine ay 2 ?_;refine cm [10+i0] (wh) [1,3,5,7,9,11,13,14,16,19,20] b5 ?_;intro jj bE;replace hin:=λk hk=>(hin k hk).st bE (by simp<;>omega) (by simp<;>omega);have hR:=ax.refl [10+i0] jj (wh);refine aj 4 ?_;replace ho:=((ho.t bt).t bM).t bE;refine dx ho ?_;intro wj Fa;refine pZ ho Fa ?_;intro _ v60 wk;obtain⟨Sm,_⟩:=lY.1 wk;rw[Ex] at Sm;subst Sm;replace hx:=hx.t bE;refine dn 5 (iH (l[k]'aA)) hx.sz ?_;replace hF:=(hF.st bM).st bE;refine ej (fk (ys:=([l[k]'aA]:List aD)) (e:=58) (bytes:=40) hF aq rfl ai ai ⟨rfl,⟨_,rfl,gY.2 rfl⟩,trivial⟩) ?_;rintro L8 jQ ⟨bP,sD,hF⟩;refine⟨(hR.trans bP aF).ext,?_⟩;replace hin:=λk hk=>(hin k hk).st bP (by simp<;>omega) (by simp<;>omega);refine ej (eY (e:=58) (bytes:=40) hF ah rfl rfl aq ai (hin i0 uA) sD fC fC) ?_;rintro zC ki ⟨Fb,bS,h63,hF⟩;replace hR:=hR.t bP;refine⟨(hR.trans bS aF).ext,?_⟩;replace hT:=(((hT.t bt).t bM).t bE).t bP;replace hT:=hT.trans bS (by simp<;>omega);replace hR:=hR.trans bS (by simp<;>omega)
  replace hin:=λk hk (hne:k≠i0)=>(hin k hk).st bS (by simp<;>omega) (by simp<;>omega);replace ho:=(ho.t bP).t bS;refine dx ho ?_;intro xL L9;refine jU rfl ?_;refine cq (iU ho L9 ah rfl rfl aq (lY.2 ⟨rfl,h63.one.2⟩)) ?_;rintro _ kA ⟨rfl,b7,ho⟩;replace hin:=λk hk hne=>(hin k hk hne).st b7 (by simp<;>omega) (by simp<;>omega);refine ay 6 ?_ [3];replace hl:=(((((hl.t bt).t bM).t bE).t bP).t bS).t b7;replace hm:=(((hm.t bE).t bP).t bS).t b7;replace hF:=hF.st b7;replace hT:=hT.t b7;replace h63:=h63.u b7;refine kp (aH 0 rfl rfl (aH 6 rfl rfl (aH 11 rfl rfl (aH 45 rfl rfl (aH 46 rfl rfl (aH 47 rfl (eq_int aF) (aR _))))))) (j5 (k+1,kf gP i0 zC,Fb) _ ⟨aJ,hF,hT,hl,hm,(by simp only;rw[<-hn,<-Hv];exact ho),(λi hi=>by
     simp only;rw[QY aA Bi hi];by_cases e:i=i0
     ·subst e;simp only[kf,if_pos];exact h63
     ·simp only[kf,if_neg e];exact hin i ah e)⟩ aJ)
 have aA:k=l.length:=by omega
 subst aA;rw[Hw] at hin;refine aI 7 ?_ [7];refine rm aq Tryz.func84 Tryz.results84 rfl rfl ?_;rw[l9];have qJ: (aP l).length=n:=by rw[vJ,hn]
 rw[<-qJ] at ho;refine⟨_,rfl,hT.bN K8,?_⟩;rw[if_pos rfl];refine K_ (gP:=gP) (ho.out hT bq (fu C) (λb _=>jT C ai b) (by rw[vK];omega)) λi hi=>?_;exact(hin i ah).out hT bq (fu C) (λb _=>jT C ah b) (by rw[<-Hw];exact Nat.le_trans (Hy l _ i) ah)
end
end Go.Proofs.YtmdhggfehknjjaaGreat
namespace Go.Proofs.YtmdhggfehknjjaaGreat
open Go.K Go.K.aZ
noncomputable section
theorem fK.mM {w':World} {a_ aQ:Nat->Nat} {b i:Nat} (h:fK w' a_ 2 b) (iD:∀b,au aQ b->au a_ b) (hb:aQ b=i):fK w' aQ i b:=let⟨d,⟨h1,v,h2,h3⟩,h4⟩:=h;⟨d,⟨h1,v,av.mM h2 iD,⟨hb,h3.at_⟩⟩,h4⟩
namespace vz
def c0:=cw Tryz.f12
end vz
theorem Sn {w₀:World} {C:Nat->Nat} {i b R I:Nat} {one:Int} (hF:aL w₀ C) (hi:i≠0) (hd:fK w₀ C i b) (hR:R<=7) (hI:I<=7) (h1:1<=one) (h63:one<=9223372036854775807):
    Calls Tryz.prog 12 #[.pointer (some ⟨b,0,none⟩),.int .i64 R,.int .i64 I,.int .i64 one] w₀ (bH λv w'=>∃l,Lb R I l/\(ax [i] w₀ C w' C/\av w' (au C) l v/\fK w' C i b)/\
      ∀j,j≠0->∃aQ,ax [i] w₀ C w' aQ/\aL w' aQ/\bg w' aQ j 58 v l/\fK w' aQ i b):=by
 have bq:=hF;have hbc:=hd.AE;replace hd:=hd.eM hi;have hT:=ax.refl [2,3,4,5,6,7,8,9] w₀ (eM C i);replace hF:=hF.eM i;refine cg Tryz.func12 ?_;refine aI 14 ?_ [1,1,1];refine cH (ι:=Nat×(List aD)×Value×(Nat->Nat)) (I:=λx w=>x.1<=R/\oZ R I x.1 1 0 0 x.2.1/\aL w x.2.2.2/\ax [2,3,4,5,6,7,8,9] w₀ (eM C i) w x.2.2.2/\fK w x.2.2.2 2 b/\bg w x.2.2.2 3 58 x.2.2.1 x.2.1) (e:=λx=>[(0,.pointer (some ⟨b,0,none⟩)),(1,.int .i64 R),(2,.int .i64 I),(3,.int .i64 one),(9,x.2.2.1),(10,.int .i64 x.1)]) (m:=λx=>R-x.1) (cC:=(0,[],.slice none 0 0,eM C i)) (af 0 (af 1 (af 2 (af 3 (af 9 (af 10 (aR _))))))) ?_ ?_
 · exact⟨Nat.zero_le _,oZ.nil _ _ _ _ _ _,hF,hT,hd,bg.nil⟩
 intro⟨r,l,cM,a_⟩ w1 hI bV;obtain⟨hr,hD,hF,hT,hd,ho⟩:=hI;try simp only at hr hD hF hT hd ho
 show Run _ _ _ _ [(0,.pointer (some ⟨b,0,none⟩)),(1,.int .i64 R),(2,.int .i64 I),(3,.int .i64 one),(9,cM),(10,.int .i64 r)] _ _;refine aI 7 ?_ [7];refine bF 16 rfl (λen=>?_) (λen=>?_)
 ·
  have L_:r<R:=by omega
  refine aI 8 ?_ [1];refine cH (ι:=Nat×(List aD)×Value×(Nat->Nat)) (I:=λx w=>1<=x.1/\x.1<=I+1/\oZ R I r x.1 0 0 x.2.1/\aL w x.2.2.2/\ax [2,3,4,5,6,7,8,9] w₀ (eM C i) w x.2.2.2/\fK w x.2.2.2 2 b/\bg w x.2.2.2 3 58 x.2.2.1 x.2.1) (e:=λx=>[(0,.pointer (some ⟨b,0,none⟩)),(1,.int .i64 R),(2,.int .i64 I),(3,.int .i64 one),(9,x.2.2.1),(10,.int .i64 r),(11,.int .i64 x.1)]) (m:=λx=>I+1-x.1) (cC:=(1,l,cM,a_)) (af 0 (af 1 (af 2 (af 3 (af 9 (af 10 (af 11 (aR _)))))))) ?_ ?_
  · exact⟨Nat.le_refl _,rU,hD,hF,hT,hd,ho⟩
  intro⟨p,l,cM,a_⟩ w2 hI ei;obtain⟨hp1,hp,hD,hF,hT,hd,ho⟩:=hI;try simp only at hp1 hp hD hF hT hd ho
  show Run _ _ _ _ [(0,.pointer (some ⟨b,0,none⟩)),(1,.int .i64 R),(2,.int .i64 I),(3,.int .i64 one),(9,cM),(10,.int .i64 r),(11,.int .i64 p)] _ _;refine aI 7 ?_ [7];refine bF 21 rfl (λnX=>?_) (λnX=>?_)
  ·
   have Ik:p<=I:=by omega
   refine aI 10 ?_ [7];refine cH (ι:=Nat×(List aD)×Value×(Nat->Nat)) (I:=λx w=>r<x.1/\x.1<=R/\oZ R I r p x.1 1 x.2.1/\aL w x.2.2.2/\ax [2,3,4,5,6,7,8,9] w₀ (eM C i) w x.2.2.2/\fK w x.2.2.2 2 b/\bg w x.2.2.2 3 58 x.2.2.1 x.2.1) (e:=λx=>[(0,.pointer (some ⟨b,0,none⟩)),(1,.int .i64 R),(2,.int .i64 I),(3,.int .i64 one),(9,x.2.2.1),(10,.int .i64 r),(11,.int .i64 p),(12,.int .i64 x.1)]) (m:=λx=>R-x.1) (cC:=(r+1,l,cM,a_)) (af 0 (af 1 (af 2 (af 3 (af 9 (af 10 (af 11 (aH 12 rfl (eq_int aF) (aR _))))))))) ?_ ?_
   · exact⟨Nat.lt_succ_self _,L_,(hD.to (λx h1 h2=>by unfold rA at h1;unfold vL at*;omega)),hF,hT,hd,ho⟩
   intro⟨s,l,cM,a_⟩ w3 hI j5;obtain⟨hs1,Ma,hD,hF,hT,hd,ho⟩:=hI;try simp only at hs1 Ma hD hF hT hd ho
   show Run _ _ _ _ [(0,.pointer (some ⟨b,0,none⟩)),(1,.int .i64 R),(2,.int .i64 I),(3,.int .i64 one),(9,cM),(10,.int .i64 r),(11,.int .i64 p),(12,.int .i64 s)] _ _;refine aI 7 ?_ [7];refine bF 28 rfl (λiz=>?_) (λiz=>?_)
   ·
    have Il:s<R:=by omega
    refine aI 8 ?_ [1];refine cH (ι:=Nat×(List aD)×Value×(Nat->Nat)) (I:=λx w=>1<=x.1/\x.1<=I+1/\oZ R I r p s x.1 x.2.1/\aL w x.2.2.2/\ax [2,3,4,5,6,7,8,9] w₀ (eM C i) w x.2.2.2/\fK w x.2.2.2 2 b/\bg w x.2.2.2 3 58 x.2.2.1 x.2.1) (e:=λx=>[(0,.pointer (some ⟨b,0,none⟩)),(1,.int .i64 R),(2,.int .i64 I),(3,.int .i64 one),(9,x.2.2.1),(10,.int .i64 r),(11,.int .i64 p),(12,.int .i64 s),(13,.int .i64 x.1)]) (m:=λx=>I+1-x.1) (cC:=(1,l,cM,a_)) (af 0 (af 1 (af 2 (af 3 (af 9 (af 10 (af 11 (af 12 (af 13 (aR _)))))))))) ?_ ?_
    · exact⟨Nat.le_refl _,rU,hD,hF,hT,hd,ho⟩
    intro⟨k,l,cM,a_⟩ w4 hI mS;obtain⟨qA,hk,hD,hF,hT,hd,ho⟩:=hI;try simp only at qA hk hD hF hT hd ho
    show Run _ _ _ _ [(0,.pointer (some ⟨b,0,none⟩)),(1,.int .i64 R),(2,.int .i64 I),(3,.int .i64 one),(9,cM),(10,.int .i64 r),(11,.int .i64 p),(12,.int .i64 s),(13,.int .i64 k)] _ _;have zD:=hD.len hR hI;refine aI 7 ?_ [7];refine bF 33 rfl (λmT=>?_) (λmT=>?_)
    ·
     have Im:k<=I:=by omega
     refine aG 7 ?_ [3];refine dc Tryz.call15 rfl (vG hF ai hd h1 h63) ?_;rintro mP ez ⟨t,rfl,s_1,hd⟩;refine ay 1 ?_;refine gJ 38 rfl (λuw=>?_) (λuw=>?_)
     ·
      refine aG 4 ?_ [9983];refine bK (λ_=>gO (zs:=[.int .i64 0,.int .i64 0]) (ps:=[(0,1),(1,1)]) (eo:=[(0,[.int .i64 (r:Int)]),(1,[.int .i64 (p:Int)])]) (cs:=[.int .i64 (r:Int),.int .i64 (p:Int)]) aq aq ⟨rfl,⟨_,rfl,rfl⟩,rfl,⟨_,rfl,rfl⟩,trivial⟩ rfl) ?_;refine aj 2 ?_;refine bK (λ_=>gO (zs:=[.int .i64 0,.int .i64 0]) (ps:=[(0,1),(1,1)]) (eo:=[(0,[.int .i64 (s:Int)]),(1,[.int .i64 (k:Int)])]) (cs:=[.int .i64 (s:Int),.int .i64 (k:Int)]) aq aq ⟨rfl,⟨_,rfl,rfl⟩,rfl,⟨_,rfl,rfl⟩,trivial⟩ rfl) ?_;refine aj 1 ?_;replace hF:=hF.st s_1;refine dc Tryz.call26 rfl (sY (n:=9) hF ai hd ah ah) ?_;rintro nr fE ⟨q,rfl,hq,s_2,hd⟩;refine aj 1 ?_;refine bK (λ_=>gO (zs:=[.int .i64 0,.int .i64 0,.int .i64 0,.int .i64 0,.int .i64 0]) (ps:=[(0,2),(2,2),(4,1)]) (eo:=[(0,[.int .i64 (r:Int),.int .i64 (p:Int)]),(1,[.int .i64 (s:Int),.int .i64 (k:Int)]),(2,[.int .i64 (1+(q:Int))])]) (cs:=iH (⟨⟨r,p⟩,⟨s,k⟩,1+q⟩:aD)) aq aq ⟨rfl,⟨_,rfl,rfl⟩,rfl,⟨_,rfl,rfl⟩,rfl,⟨_,rfl,rfl⟩,trivial⟩ rfl) ?_;replace hF:=hF.st s_2;refine bD (fk (ys:=([(⟨⟨r,p⟩,⟨s,k⟩,1+q⟩:aD)]:List aD)) (e:=58) (bytes:=40) hF aq rfl ai ai ⟨rfl,⟨_,rfl,gY.2 rfl⟩,trivial⟩) ?_;rintro v50 w7 ⟨aB,hU,hF⟩;replace ho:=((ho.t s_1).t s_2).t aB;refine bD (eY (e:=58) (bytes:=40) hF ai rfl rfl aq ai ho hU fC fC) ?_;rintro v51 fR ⟨sC,aM,ho,hF⟩;refine ay 8 ?_ [7];replace hT:=(((hT.t s_1).t s_2).t aB).t aM;replace hd:=(hd.u aB).u aM;refine kp (af 0 (af 1 (af 2 (af 3 (af 9 (af 10 (af 11 (af 12 (aH 13 rfl (eq_int aF) (aR _)))))))))) (mS (k+1,l++[(⟨⟨r,p⟩,⟨s,k⟩,1+q⟩:aD)],v51,sC) _ ⟨aJ,aJ,(hD.push hs1 Il ⟨hp1,Ik⟩ ⟨qA,Im⟩ hq),hF,hT,hd,ho⟩ aJ)
     refine aI 7 ?_ [7];replace hF:=hF.st s_1;replace hT:=hT.t s_1;replace ho:=ho.t s_1;refine kp (af 0 (af 1 (af 2 (af 3 (af 9 (af 10 (af 11 (af 12 (aH 13 rfl (eq_int aF) (aR _)))))))))) (mS (k+1,l,cM,a_) _ ⟨aJ,aJ,(hD.to (λx h1 h2=>by unfold rA at h1;unfold vL at*;omega)),hF,hT,hd,ho⟩ aJ)
    have Im:k=I+1:=by omega
    refine aI 7 ?_ [7];refine kp (af 0 (af 1 (af 2 (af 3 (af 9 (af 10 (af 11 (aH 12 rfl (eq_int aF) (aR _))))))))) (j5 (s+1,l,cM,a_) _ ⟨aJ,aJ,(hD.to (λx h1 h2=>by unfold rA at h1;unfold vL at*;omega)),hF,hT,hd,ho⟩ aJ)
   have Il:s=R:=by omega
   refine aI 7 ?_ [7];refine kp (af 0 (af 1 (af 2 (af 3 (af 9 (af 10 (aH 11 rfl (eq_int aF) (aR _)))))))) (ei (p+1,l,cM,a_) _ ⟨aJ,aJ,(hD.to (λx h1 h2=>by unfold rA at h1;unfold vL at*;omega)),hF,hT,hd,ho⟩ aJ)
  have Ik:p=I+1:=by omega
  refine aI 7 ?_ [7];refine kp (af 0 (af 1 (af 2 (af 3 (af 9 (aH 10 rfl (eq_int aF) (aR _))))))) (bV (r+1,l,cM,a_) _ ⟨aJ,(hD.to (λx h1 h2=>by unfold rA at h1;unfold vL at*;omega)),hF,hT,hd,ho⟩ aJ)
 refine aI 6 ?_ [3];refine bI Tryz.func12 ?_;have zD:=hD.len hR hI;refine⟨l,hD.fin hR hI,⟨hT.lV ai,ho.out hT bq (nK C i) (λb _=>qv C i ai b) ah,hd.out hT bq hbc⟩,λj hj=>?_⟩;obtain⟨rJ,qi,hFg,va,uC⟩:=ho.mM hT bq (nK C i) (λb _=>qv C i ai b) ai j hj;exact⟨rJ,(hT.lV ai).mM qi,hFg,uC,hd.mM va (by rw[qi b (bq b (by rw[hbc];exact hi)),hbc])⟩
end
end Go.Proofs.YtmdhggfehknjjaaGreat
namespace Go.Proofs.YtmdhggfehknjjaaGreat
open Go.K Go.K.aZ
noncomputable section
namespace vm
def c0:=cw Tryz.f80
end vm
theorem Mb {w₀:World} {C:Nat->Nat} {x y:ak} (hF:aL w₀ C):Calls Tryz.prog 80 #[.agg #[.int .i64 x.a,.int .i64 x.b],.agg #[.int .i64 y.a,.int .i64 y.b]] w₀ (bH λv w'=>v=.bool (decide (er x y))/\ax [] w₀ C w' C):=by
 have bq:=hF;have hT:=z9 w₀ C;replace hF:=hF.bk;refine cg Tryz.func80 ?_;refine aG 2 ?_ [4];refine bD (eX (cs:=[.int .i64 x.a,.int .i64 x.b]) hF 3 rfl rfl) ?_;rintro _ w1 ⟨eP,ct,rfl,s_1,hx,hF⟩;refine bD (eX (cs:=[.int .i64 y.a,.int .i64 y.b]) hF 3 rfl rfl) ?_;rintro _ w2 ⟨dm,ew,rfl,s_2,hy,hF⟩;refine ay 2 ?_;refine kp (af 2 (af 3 (aR _))) ?_;refine aI 1 ?_;refine kJ 4 (decide (er x y)) (dm) ?_ ?_
 ·
  intro c5;by_cases hA:x.a<y.a
  ·
   refine aG 2 ?_ [1006965,0];replace hx:=hx.t s_2;refine bU hx.at_ ?_;refine aj 1 ?_ [0];refine bU hy.at_ ?_;refine dT hA ?_;refine aj 15 ?_;exact cD.nil (c5 _ _ _ (ax.refl _ _ _) rfl (by rw[decide_eq_true (show er x y from Or.inl hA)]) (ef 20))
  by_cases hB:x.a=y.a
  ·
   refine aG 2 ?_ [1006965,0];replace hx:=hx.t s_2;refine bU hx.at_ ?_;refine aj 1 ?_ [0];refine bU hy.at_ ?_;refine ey hA ?_;refine aj 2 ?_ [0];refine bU hx.at_ ?_;refine aj 1 ?_ [0];refine bU hy.at_ ?_;refine dT hB ?_;refine aj 2 ?_ [1];refine bU hx.at_ ?_;refine aj 1 ?_ [1];refine bU hy.at_ ?_;refine aj 4 ?_;exact cD.nil (c5 _ _ _ (ax.refl _ _ _) rfl (by congr 1;apply decide_eq_decide.2;unfold er;omega) (ef 20))
  refine aG 2 ?_ [1006965,0];replace hx:=hx.t s_2;refine bU hx.at_ ?_;refine aj 1 ?_ [0];refine bU hy.at_ ?_;refine ey hA ?_;refine aj 2 ?_ [0];refine bU hx.at_ ?_;refine aj 1 ?_ [0];refine bU hy.at_ ?_;refine ey hB ?_;refine aj 9 ?_;exact cD.nil (c5 _ _ _ (ax.refl _ _ _) rfl (by rw[decide_eq_false (show¬er x y from by unfold er;omega)]) (ef 20))
 intro w3 aB;refine bI Tryz.func80 ?_;replace hT:=((hT.t s_1).t s_2).t aB;exact⟨rfl,hT.bN ai⟩
namespace Ob
def c0:=cw Tryz.f44
end Ob
theorem qj {w₀:World} {C:Nat->Nat} {x y:ak} (hF:aL w₀ C):Calls Tryz.prog 44 #[.agg #[.int .i64 x.a,.int .i64 x.b],.agg #[.int .i64 y.a,.int .i64 y.b]] w₀ (bH λv w'=>v=.bool (decide (er x y))/\ax [] w₀ C w' C):=by
 have bq:=hF;have hT:=z9 w₀ C;replace hF:=hF.bk;refine cg Tryz.func44 ?_;refine aG 2 ?_ [4];refine bD (eX (cs:=[.int .i64 x.a,.int .i64 x.b]) hF 3 rfl rfl) ?_;rintro _ w1 ⟨eP,ct,rfl,s_1,hx,hF⟩;refine bD (eX (cs:=[.int .i64 y.a,.int .i64 y.b]) hF 3 rfl rfl) ?_;rintro _ w2 ⟨dm,ew,rfl,s_2,hy,hF⟩;refine bQ 4 ?_ [8];replace hx:=hx.t s_2;refine cu 2 (bh x) hx.at_ ?_;refine cu 2 (bh y) hy.at_ ?_;refine bZ Tryz.call80 (Mb (x:=x) (y:=y) hF) ?_;rintro lP w3 ⟨rfl,aB⟩;refine ay 2 ?_;refine bI Tryz.func44 ?_;replace hT:=((hT.t s_1).t s_2).t aB;exact⟨rfl,hT.bN ai⟩
namespace C2
def c0:=cw Tryz.f38
def kP:=(cl (aC (cl (aC (aC c0)))))
def nu:=(cl (cl (cl (aC (cl kP)))))
def ru:=di nu
end C2
theorem dG {w₀:World} {C:Nat->Nat} {l:List ak} {cR bz:Value} (hF:aL w₀ C) (ha:av w₀ (au C) l cR) (hb:av w₀ (au C) l bz):Calls Tryz.prog 38 #[cR,bz] w₀ (bH λv w'=>v=.bool true/\ax [] w₀ C w' C):=by
 have bq:=hF;have hT:=z9 w₀ C;replace hF:=hF.bk;replace ha:=ha.c1;replace hb:=hb.c1;refine cg Tryz.func38 ?_;refine aG 8 ?_ [1,31];refine dE ha.ln ?_;refine aj 1 ?_;refine dE hb.ln ?_;refine ey (λe=>e rfl) ?_;refine ay 9 ?_ [1];refine cH (ι:=Nat×(Nat->Nat)) (I:=λx w=>x.1<=l.length/\aL w x.2/\ax [2,3,4,5,6,7,8,9] w₀ (bk C) w x.2/\av w (au x.2) l cR/\av w (au x.2) l bz) (e:=λx=>[(0,cR),(1,bz),(5,.int .i64 x.1)]) (m:=λx=>l.length-x.1) (cC:=(0,bk C)) (af 0 (af 1 (af 5 (aR _)))) ?_ ?_
 · exact⟨Nat.zero_le _,hF,hT,ha,hb⟩
 intro⟨i,a_⟩ w1 hI bV;obtain⟨hi,hF,hT,ha,hb⟩:=hI;try simp only at hi hF hT ha hb
 show Run _ _ _ _ [(0,cR),(1,bz),(5,.int .i64 i)] _ _;have hle:=ha.le;refine aG 5 ?_ [15];refine dE ha.ln ?_;refine ay 2 ?_;refine bF 14 rfl (λfJ=>?_) (λfJ=>?_)
 ·
  have hil:i<l.length:=by omega
  refine aI 4 ?_;refine cm [] (a_) [1,3,5,7,9,11,13,15,17] b5 ?_;intro w2 s_1;refine aj 2 ?_;replace ha:=ha.t s_1;refine bn ha ?_;intro _ Md E7 rH;refine ck rH ?_;intro v20 g20;refine aj 2 ?_;replace hb:=hb.t s_1;refine bn hb ?_;intro _ oW qz h23;refine ck h23 ?_;intro v24 g24;obtain rfl:=bR.1 g20;obtain rfl:=bR.1 g24;refine bK (λ_=>lG (Hj (a:=_) (b:=_) Tryz.underlying55 ai ai aq Tryz.underlying3 rfl rfl) (λe=>e rfl)) ?_;refine ay 9 ?_ [7];replace hF:=hF.st s_1;replace hT:=hT.t s_1;refine kp (af 0 (af 1 (aH 5 rfl (eq_int aF) (aR _)))) (bV (i+1,a_) _ ⟨aJ,hF,hT,ha,hb⟩ aJ)
 refine aI 5 ?_ [1];refine bI Tryz.func38 ?_;exact⟨rfl,hT.bN ai⟩
end
end Go.Proofs.YtmdhggfehknjjaaGreat
