/- Steps through functions of the program. -/
import Derived.Test.YtmdhggfehknjjaaGreatJE3E8
import Derived.Test.YtmdhggfehknjjaaGreatL2
import Derived.Test.YtmdhggfehknjjaaGreatJC1C5
import Derived.Test.YtmdhggfehknjjaaGreatL3
import Derived.Test.YtmdhggfehknjjaaGreatJC6X0
set_option maxRecDepth 100000
set_option maxHeartbeats 4000000
namespace Go.Proofs.YtmdhggfehknjjaaGreat
open Go.K Go.K.aZ
noncomputable section
namespace b6
def c0:=cw Tryz.f188
def o1:=di (cl (aC c0))
end b6
theorem o7 {w₀:World} {C:Nat->Nat} {ds:List bC} {bz c4 e7 vs iX:Value} {fd:Bool} {cR:Int} {x a:ak} {b b1 b2:Nat} (hF:aL w₀ C) (hap:gp w₀ (au C) ds c4) (h0:w₀.heap[b]?=some (.cells [bz,c4,e7,vs,.bool fd,iX,.int .i64 cR].toArray 184)) (h1:w₀.heap[b1]?=some (.cells [Value.pointer (some ⟨b,0,none⟩)].toArray 182)) (h2:w₀.heap[b2]?=some (.cells (bh a).toArray 55)):Calls Tryz.prog 188 #[dH x,.pointer (some ⟨b1,0,none⟩),.pointer (some ⟨b2,0,none⟩)] w₀ (bH λv w'=>v=.bool (eU ds x a)/\ax [] w₀ C w' C):=by
 have bq:=hF;have hT:=z9 w₀ C;replace hF:=hF.bk;replace hap:gp w₀ (au (bk C)) ds c4:=by rw[fu];exact hap
 replace h0:=j0.of h0 C;replace h1:=j0.of h1 C;replace h2:=j0.of h2 C;refine cg Tryz.func188 ?_;refine aG 2 ?_ [2];refine bD (eX (cs:=bh x) hF 3 rfl rfl) ?_;rintro _ w1 ⟨eP,ct,rfl,s_1,hb,hF⟩;refine ay 3 ?_;refine cm [] (eP) [1,3,5,7,9,11,12,15] b5 ?_;intro w2 s_2;have hR:=ax.refl [] w2 (eP);replace h1:=(h1.t s_1).t s_2;refine fW h1.sz ?_;refine aj 2 ?_ [0];replace h0:=(h0.t s_1).t s_2;refine dn 2 ([bz,c4]) h0.sz ?_;replace hb:=hb.t s_2;refine dn 2 (bh x) hb.sz ?_;replace h2:=(h2.t s_1).t s_2;refine dn 2 (bh a) h2.sz ?_;replace hap:=(hap.t s_1).t s_2;replace hF:=hF.st s_2;refine dC Tryz.call137 (M_ (a:=x) (b:=a) hF hap) ?_;rintro lP w3 ⟨rfl,aB⟩;refine⟨(hR.trans aB aF).ext,?_⟩;refine ay 2 ?_;refine bI Tryz.func188 ?_;replace hT:=((hT.t s_1).t s_2).t aB;exact⟨rfl,hT.bN ai⟩
namespace eA
def c0:=cw Tryz.f131
def tZ:=(aC (cl (aC (aC (aC c0)))))
def nu:=(cl (aC (aC (cl (cl tZ)))))
def Ui:=di (cl (aC (aC (cl nu))))
def FK:=(aC (aC (aC (aC (cl nu)))))
def zl:=di FK
def Ng:=(cl (aC (aC (aC (aC c0)))))
def DJ:=di Ng
def Nh:=(aC (aC (aC (aC (aC c0)))))
def qI:=di (aC Nh)
end eA
theorem eB {l:List aD} {ds:List bC} {refs:List ak} {bz c4 e7:Value} {b:Nat} (Ni:refs.Nodup) (Nj:refs.length<=1000) (hw:∀x∈l,1<=x.w/\x.w<=1048576) (k7:l.length<=4096):
    ∀(m i:Nat) (w₀:World) (C:Nat->Nat) (rows:List (List ak)) (st:iW),refs.length=i+m->kN ds (refs.take i) rows->aL w₀ C->av w₀ (au C) l bz->av w₀ (au C) refs e7->gp w₀ (au C) ds c4->H6 184 52 55 w₀ C b bz c4 e7 rows st->
    Calls Tryz.prog 131 #[.pointer (some ⟨b,0,none⟩),.int .i64 (i:Int)] w₀ (bH λv w'=>∃aQ,v=.tuple #[]/\ax [3,4,5] w₀ C w' aQ/\aL w' aQ/\H6 184 52 55 w' aQ b bz c4 e7 rows (sw l ds (refs.drop i) rows st)):=by
 intro m
 induction m using Nat.strongRecOn
 rename_i m ih;intro i w₀ C rows st A0 sL hF hl hrf hap hS;obtain⟨vs,us,iX,hx,ho,hr,cz⟩:=hS;have bq:=hF;have hT:=ax.refl [3,4,5,6,7] w₀ (fm C);replace hF:=hF.fm;replace hl:=hl.fm;replace hrf:=hrf.fm;replace hap:=hap.fm;replace hx:=hx.fm (.inl rfl);replace ho:=ho.fm (.inr (.inl rfl));replace hr:=hr.fm (.inr (.inr rfl));replace cz:=cz.fm;have hrl:=hr.len;have Cn:=sL.R1;have r6: (refs.take i).length<=refs.length:=by rw[List.length_take];omega
 have hrows:rows.length<=1000:=by omega
 have jv:∀s∈rows,s.Nodup:=λs hs=>Ni.sublist ((sL.sub s hs).trans (List.take_sublist _ _));have oc:∀s∈rows,s.length<=1000:=λs hs=>by have:=(sL.sub s hs).length_le;omega
 refine cg Tryz.func131 ?_;refine aG 2 ?_ [0];refine bD (eX (cs:=[Value.pointer (some ⟨b,0,none⟩)]) hF 6 rfl rfl) ?_;rintro _ w1 ⟨eP,ct,rfl,s_1,gH,hF⟩;refine bQ 5 ?_ [109];refine bU gH.at_ ?_;refine aj 2 ?_ [2];replace hx:=hx.t s_1;refine bU hx.at_ ?_;replace hrf:=hrf.t s_1;refine dE hrf.ln ?_;refine ay 2 ?_;refine bF 12 rfl (λh12=>?_) (λh12=>?_)
 ·
  obtain rfl:m=0:=by omega
  refine aG 2 ?_ [0];refine bU gH.at_ ?_;replace hl:=hl.t s_1;replace ho:=ho.t s_1;replace hr:=hr.u s_1;replace cz:=cz.t s_1;refine bZ Tryz.call187 (c6 hF hl ⟨vs,us,iX,hx,ho,hr,cz⟩ jv oc hrows hw k7) ?_;rintro _ w2 ⟨dm,rfl,s_2,hF,hS⟩;obtain⟨vs,us,iX,hx,ho,hr,cz⟩:=hS;refine ay 1 ?_;refine yG aq Tryz.func131 Tryz.results131 ?_;rw[show refs.drop i=[] from List.drop_eq_nil_of_le ah,Y7];replace hT:=(hT.t s_1).t s_2;exact⟨_,rfl,hT.eR,sx hT bq hF,⟨_,_,_,hx.eR hT (.inl rfl),ho.eR hT bq (.inr (.inl rfl)),hr.eR hT bq (.inr (.inr rfl)),cz.eR hT bq⟩⟩
 have hir:i<refs.length:=by omega
 obtain⟨m,rfl⟩:∃q,m=q+1:=⟨m-1,by omega⟩
 have FL:refs.drop i=refs[i]::refs.drop (i+1):=List.drop_eq_getElem_cons hir;refine aG 3 ?_ [54];refine bU gH.at_ ?_;refine aj 2 ?_ [2];refine bU hx.at_ ?_;refine aj 1 ?_;refine bn hrf ?_;intro _ T9 T_ lg;refine iq lg ?_;intro v21 g21;obtain rfl:=bR.1 g21;refine bD (fD (cs:=[.int .i64 0,.int .i64 0]) hF 7 aq) ?_;rintro _ w3 ⟨nt,pz,rfl,aB,hrc,hF⟩;refine cq (eO (vs:=bh ((refs[i]'hir))) (n:=2) rfl rfl aq rfl rfl (jf rfl) hrc rfl) ?_;rintro _ w4 ⟨rfl,aM,hrc⟩;refine bQ 4 ?_ [54];replace gH:=(gH.t aB).t aM;refine bU gH.at_ ?_;refine aj 2 ?_ [3];replace hx:=(hx.t aB).t aM;refine bU hx.at_ ?_;replace ho:=((ho.t s_1).t aB).t aM;refine dE ho.ln ?_;refine ay 3 ?_;refine cH (ι:=Nat×Value×(List Value)×Value×(Nat->Nat)) (I:=λx w=>x.1<=rows.length/\aL w x.2.2.2.2/\ax [3,4,5,6,7] w₀ (fm C) w x.2.2.2.2/\av w (au x.2.2.2.2) l bz/\av w (au x.2.2.2.2) refs e7/\gp w (au x.2.2.2.2) ds c4/\cE w x.2.2.2.2 6 ct (.cells [Value.pointer (some ⟨b,0,none⟩)].toArray 182)/\cE w x.2.2.2.2 7 pz (.cells (bh (refs[i]'hir)).toArray 55)/\cE w x.2.2.2.2 3 b (.cells [bz,c4,e7,x.2.1,.bool (rF l ds (refs[i]'hir) (refs.drop (i+1)) rows st x.1).found,x.2.2.2.1,.int .i64 (rF l ds (refs[i]'hir) (refs.drop (i+1)) rows st x.1).val].toArray 184)/\bg w x.2.2.2.2 4 52 x.2.1 (x.2.2.1.map gC.mk)/\fI w x.2.2.2.2 5 55 x.2.2.1 rows/\av w (au x.2.2.2.2) (rF l ds (refs[i]'hir) (refs.drop (i+1)) rows st x.1).best x.2.2.2.1) (e:=λx=>[(1,.int .i64 (i:Int)),(2,.pointer (some ⟨ct,0,none⟩)),(4,.pointer (some ⟨pz,0,none⟩)),(26,.int .i64 rows.length),(27,.int .i64 x.1)]) (m:=λx=>rows.length-x.1) (cC:=(0,vs,us,iX,nt)) (af 1 (af 2 (af 4 (aH 26 rfl (eq_int (by simp only[List.length_map];omega)) (af 27 (aR _)))))) ?_ ?_
 ·
   have tH:=(s_1.aY aB).aY aM;replace hT:=((hT.t s_1).t aB).t aM;replace hl:=hl.t tH;replace hap:=hap.t tH;replace hr:=((hr.u s_1).u aB).u aM;replace cz:=cz.t tH;replace hrf:=(hrf.t aB).t aM;replace hF:=hF.st aM;exact⟨Nat.zero_le _,hF,hT,hl,hrf,hap,gH,hrc,hx,ho,hr,cz⟩
 intro⟨k,vs,us,iX,a_⟩ ez hI bV;obtain⟨hk,hF,hT,hl,hrf,hap,gH,hrc,hx,ho,hr,cz⟩:=hI;try simp only at hk hF hT hl hrf hap gH hrc hx ho hr cz
 show Run _ _ _ _ [(1,.int .i64 (i:Int)),(2,.pointer (some ⟨ct,0,none⟩)),(4,.pointer (some ⟨pz,0,none⟩)),(26,.int .i64 rows.length),(27,.int .i64 k)] _ _;have hrl:=hr.len;refine aI 5 ?_ [1];refine bF 28 rfl (λiz=>?_) (λiz=>?_)
 ·
  have x9:k<us.length:=by omega
  have hkr:k<rows.length:=by omega
  have hlk:=oc _ (List.getElem_mem hkr);refine aG 11 ?_ [3,182];refine bU gH.at_ ?_;refine aj 2 ?_ [3];refine bU hx.at_ ?_;refine aj 1 ?_;refine dx ho ?_;intro kS CK;refine vF ho CK ?_;intro _ zz Bh;obtain rfl:zz=us[k]'x9:=by have:=(lY.1 Bh).1;simpa using this
  clear Bh;refine bK (λ_=>AB rfl rfl) ?_;have fG:∀w1,ax [] _ ji w1 ji->∀x∈rows[k]'hkr,Calls Tryz.prog 188 ([dH x]++#[Value.pointer (some ⟨ct,0,none⟩),Value.pointer (some ⟨pz,0,none⟩)].toList).toArray w1 (bH λv w'=>v=.bool (eU ds x (refs[i]'hir))/\ax [] w1 ji w' ji):=λw1 h1 x _=>o7 (nR _) (hap.c0.st h1 ai) (h1.same hx.at_) (h1.same gH.at_) (h1.same hrc.at_);refine dc Tryz.call134 rfl (FH (C:=ji) (p:=λx=>eU ds x (refs[i]'hir)) (nf:=188) (caps:=#[Value.pointer (some ⟨ct,0,none⟩),Value.pointer (some ⟨pz,0,none⟩)]) (λargs w=>Tryz.call188 args w) fG (nR _) (hr.mD x9 hkr ah)) ?_;rintro _ fE ⟨rfl,aX⟩;replace aX:=aX.re (a_);refine ay 1 ?_;refine gJ 38 rfl (λuw=>?_) (λuw=>?_)
  ·
   have hok:oy ds (rows[k]'hkr) (refs[i]'hir)=false:=by rw[RZ,uw];rfl
   have hst:=ZC (l:=l) (st:=st) hkr hok (refs.drop (i+1));refine aI 5 ?_ [3];replace hF:=hF.st aX;replace hT:=hT.t aX;replace hl:=hl.t aX;replace hrf:=hrf.t aX;replace hap:=hap.t aX;replace gH:=gH.t aX;replace hrc:=hrc.t aX;replace hx:=hx.t aX;replace ho:=ho.t aX;replace hr:=hr.u aX;replace cz:=cz.t aX;refine kp (af 1 (af 2 (af 4 (af 26 (aH 27 rfl (eq_int aF) (aR _)))))) (bV (k+1,vs,us,iX,a_) _ ⟨aJ,hF,hT,hl,hrf,hap,gH,hrc,(by simp only;rw[hst];exact hx),ho,hr,(by simp only;rw[hst];exact cz)⟩ aJ)
  have hok:oy ds (rows[k]'hkr) (refs[i]'hir)=true:=by rw[RZ];simpa using uw
  have hst:=ZB (l:=l) (st:=st) hkr hok (refs.drop (i+1));have Nk:=sL.R2 hir hkr hok;refine aI 2 ?_;refine cm [5] (a_) [1,3,5,7,9,11,13,15,17,19,21,23,25,26,28,31,32] b5 ?_;intro w7 bp;have hR:=ax.refl [5] w7 (a_);replace gH:=(gH.t aX).t bp;refine fW gH.sz ?_;refine aj 2 ?_ [3];replace hx:=(hx.t aX).t bp;refine fW hx.sz ?_;refine aj 1 ?_;refine fW gH.sz ?_;refine aj 2 ?_ [3];refine fW hx.sz ?_;refine aj 1 ?_;replace ho:=(ho.t aX).t bp;refine dx ho ?_;intro uM DK;refine pZ ho DK ?_;intro _ v50 hU;obtain rfl:v50=us[k]'x9:=by have:=(lY.1 hU).1;simpa using this
  clear hU;replace hrc:=(hrc.t aX).t bp;refine dn 2 (bh (refs[i]'hir)) hrc.sz ?_;replace hF:=(hF.st aX).st bp;refine ej (fk (ys:=([(refs[i]'hir)]:List ak)) (e:=55) (bytes:=16) hF aq rfl ai ai ⟨rfl,⟨_,rfl,bR.2 rfl⟩,trivial⟩) ?_;rintro Bc fR ⟨bt,oD,hF⟩;refine⟨(hR.trans bt aF).ext,?_⟩;replace hr:=((hr.u aX).u bp).u bt;refine ej (hr.append (e:=55) (bytes:=16) hF ai x9 hkr rfl rfl aq ai oD fC fC) ?_;rintro v53 gE ⟨wh,bM,hF,hr⟩;replace hR:=hR.t bt;refine⟨(hR.trans bM aF).ext,?_⟩;have hone:=hr.one k (by rw[List.length_set];exact x9);rw[List.getElem_set,if_pos rfl] at hone;replace ho:=(ho.t bt).t bM;refine dx ho ?_;intro Ij cA;refine jU rfl ?_;refine cq (iU ho cA J6 rfl rfl aq ((lY (x:=⟨v53⟩)).2 ⟨rfl,hone⟩)) ?_;rintro _ iI ⟨rfl,bE,ho⟩;refine ay 1 ?_;rw[<-List.map_set] at ho;refine aG 2 ?_ [6];replace gH:=((gH.t bt).t bM).t bE;refine bU gH.at_ ?_;refine aj 1 ?_;refine jA ((i+1:Nat):Int) ?_;have lB:=(((aX.aY bp).aY bt).aY bM).aY bE;replace hl:=hl.t lB;replace hrf:=hrf.t lB;replace hap:=hap.t lB;replace cz:=cz.t lB;replace hx:=((hx.t bt).t bM).t bE;replace hF:=hF.st bE;replace hr:=hr.u bE;refine dc Tryz.call131 rfl (ih m ah (i+1) _ wh _ _ ah Nk hF hl hrf hap ⟨_,_,_,hx,ho,hr,cz⟩) ?_;rintro _ jj ⟨uN,rfl,bS,hF,hS⟩;clear hx ho hr cz;obtain⟨vs,us,iX,hx,ho,hr,cz⟩:=hS;have hrl:=hr.len;refine ay 1 ?_;refine cm [] (uN) [1,3,5,7,9,11,13,15,17,19,21,23,25,27,29,31,33,35,37,39,41,43,45,46] b5 ?_;intro jQ b7;have hR:=ax.refl [] jQ (uN);simp only[List.length_set] at hrl;have FM:k<us.length:=by omega
  have I_:k<(rows.set k ((rows[k]'hkr)++[(refs[i]'hir)])).length:=by rw[List.length_set];exact hkr
  have agD: ((rows.set k ((rows[k]'hkr)++[(refs[i]'hir)]))[k]'I_).length=(rows[k]'hkr).length+1:=by rw[List.getElem_set,if_pos rfl];simp
  replace gH:=(gH.t bS).t b7;refine fW gH.sz ?_;refine aj 2 ?_ [3];replace hx:=hx.t b7;refine fW hx.sz ?_;refine aj 1 ?_;refine fW gH.sz ?_;refine aj 2 ?_ [3];refine fW hx.sz ?_;refine aj 1 ?_;replace ho:=ho.t b7;refine dx ho ?_;intro Ja DL;refine pZ ho DL ?_;intro _ v70 qY;obtain rfl:v70=us[k]'FM:=by have:=(lY.1 qY).1;simpa using this
  clear qY;refine fW gH.sz ?_;refine aj 2 ?_ [3];refine fW hx.sz ?_;refine aj 1 ?_;refine dx ho ?_;intro wJ FN;refine pZ ho FN ?_;intro _ v77 Uj;obtain rfl:v77=us[k]'FM:=by have:=(lY.1 Uj).1;simpa using this
  clear Uj;replace hr:=hr.u b7;refine bK (λw'=>((hr.mD FM I_ ah).Ci rfl Tryz.underlying52) w') ?_;refine aj 1 ?_;refine nz ?_;refine hr.ZE (e':=55) (iT 80 (.slice 52 70 none (some 79) none)) rfl rfl FM I_ rfl aq rfl ah ah ah ?_;intro v80 kZ;rw[ZA hkr I_ rfl] at kZ;clear hr;have hr:=kZ;clear kZ;have hone:=hr.one k (by rw[List.length_set];exact FM);rw[List.getElem_set,if_pos rfl] at hone;refine cK ?_;refine dx ho ?_;intro Uk cV;refine jU rfl ?_;refine cq (iU ho cV J6 rfl rfl aq ((lY (x:=⟨v80⟩)).2 ⟨rfl,hone⟩)) ?_;rintro _ ki ⟨rfl,cn,ho⟩;refine ay 1 ?_;rw[<-List.map_set] at ho;replace cz:=(cz.t b7).t cn;replace hx:=hx.t cn;rw[<-hst] at hx cz;refine aI 5 ?_ [3];have uI:=(bS.aY b7).aY cn;replace hT:=(((((((hT.t aX).t bp).t bt).t bM).t bE).t bS).t b7).t cn;replace hrc:=(((((hrc.t bt).t bM).t bE).t bS).t b7).t cn;replace hl:=hl.t uI;replace hrf:=hrf.t uI;replace hap:=hap.t uI;replace hF:=(hF.st b7).st cn;replace gH:=gH.t cn;replace hr:=hr.u cn;refine kp (af 1 (af 2 (af 4 (af 26 (aH 27 rfl (eq_int aF) (aR _)))))) (bV (k+1,vs,us.set k v80,iX,uN) _ ⟨aJ,hF,hT,hl,hrf,hap,gH,hrc,hx,ho,hr,cz⟩ aJ)
 obtain rfl:k=rows.length:=by omega
 refine aI 2 ?_;refine cm [4] (a_) [1,3,5,7,9,11,12,14,16,19,21,22] b5 ?_;intro kA bT;have hR:=ax.refl [4] kA (a_);replace hr:=hr.u bT;have hlt:=hr.lt;replace gH:=gH.t bT;refine fW gH.sz ?_;refine fW gH.sz ?_;refine aj 2 ?_ [3];replace hx:=hx.t bT;refine fW hx.sz ?_;replace hrc:=hrc.t bT;refine dn 2 (bh (refs[i]'hir)) hrc.sz ?_;replace hF:=hF.st bT;refine ej (Zx (ys:=([(refs[i]'hir)]:List ak)) (e:=55) (bytes:=16) (j:=5) hF ai aq rfl ai ai ⟨rfl,⟨_,rfl,bR.2 rfl⟩,trivial⟩) ?_;rintro wK kR ⟨Nb,b_,Nl,hF,hfr⟩;refine⟨(hR.trans b_ aF).ext,?_⟩;have hone:=Nl.one.2;replace hr:=hr.u b_;replace hr:=hr.snoc ai Nl (hr.fresh hfr hlt);clear hlt hfr Nl;refine ej (fk (ys:=([⟨wK⟩]:List gC)) (e:=52) (bytes:=24) hF aq rfl ai ai ⟨rfl,⟨_,rfl,lY.2 ⟨rfl,hone⟩⟩,trivial⟩) ?_;rintro FO kB ⟨cQ,yM,hF⟩;replace hR:=hR.t b_;refine⟨(hR.trans cQ aF).ext,?_⟩;replace ho:=((ho.t bT).t b_).t cQ;refine ej (eY (e:=52) (bytes:=24) hF ai rfl rfl aq ai ho yM GO GO) ?_;rintro v91 mb ⟨FP,cB,ho,hF⟩;replace hR:=hR.t cQ;refine⟨(hR.trans cB aF).ext,?_⟩;refine aj 2 ?_ [3];refine jU rfl ?_;replace hx:=((hx.t b_).t cQ).t cB;refine cq (jI rfl rfl aq ho.one.1 ho.one.2 hx aF) ?_;rintro _ mc ⟨rfl,dP,hx⟩;refine ay 1 ?_;replace ho:=ho.t dP;rw[show us.map gC.mk++[⟨wK⟩]=(us++[wK]).map gC.mk from by simp] at ho;refine aG 2 ?_ [6];replace gH:=(((gH.t b_).t cQ).t cB).t dP;refine bU gH.at_ ?_;refine aj 1 ?_;refine jA ((i+1:Nat):Int) ?_;have tF:=(((bT.aY b_).aY cQ).aY cB).aY dP;replace hl:=hl.t tF;replace hrf:=hrf.t tF;replace hap:=hap.t tF;replace cz:=cz.t tF;replace hr:=((hr.u cQ).u cB).u dP;replace hF:=hF.st dP;refine dc Tryz.call131 rfl (ih m ah (i+1) _ FP _ _ ah (sL.new' hir) hF hl hrf hap ⟨_,_,_,hx,ho,hr,cz⟩) ?_;rintro _ mg ⟨E6,rfl,eS,hF,hS⟩;clear hx ho hr cz
 obtain⟨vs,us,iX,hx,ho,hr,cz⟩:=hS;have hrl:=hr.len;refine ay 1 ?_;refine cm [] (E6) [1,3,5,7,9,11,13,15,17,19,21,23,25,27,28] b5 ?_;intro mQ cL;have hR:=ax.refl [] mQ (E6);simp only[List.length_append,List.length_cons,List.length_nil] at hrl;have hml: (us.map gC.mk).length=us.length:=List.length_map _;replace gH:=(gH.t eS).t cL;refine fW gH.sz ?_;refine fW gH.sz ?_;refine aj 2 ?_ [3];replace hx:=hx.t cL;refine fW hx.sz ?_;refine fW gH.sz ?_;refine aj 2 ?_ [3];refine fW hx.sz ?_;replace ho:=ho.t cL;refine dE ho.ln ?_;refine aj 1 ?_;refine nz ?_;refine KP (e':=52) (iT 109 (.slice 24 102 none (some 108) none)) rfl rfl ho rfl aq rfl ah ah ah ?_;intro v109 Jb;try simp only[fP] at Jb
 have yA: (((us.map gC.mk).length:Int)-1).toNat=rows.length:=by simp only[List.length_map];omega
 rw[yA,<-List.map_take] at Jb;clear ho;have ho:=Jb;clear Jb;replace hr:=hr.u cL;replace hr:=hr.ZD rfl;refine cK ?_;refine aj 2 ?_ [3];refine jU rfl ?_;refine cq (jI rfl rfl aq ho.one.1 ho.one.2 hx aF) ?_;rintro _ oK ⟨rfl,eT,hx⟩;refine ay 1 ?_;replace cz:=(cz.t cL).t eT;rw[<-Y6,<-FL] at hx cz;refine qy Tryz.func131 rfl ?_;replace hT:=(((((((hT.t bT).t b_).t cQ).t cB).t dP).t eS).t cL).t eT;replace hF:=(hF.st cL).st eT;replace ho:=ho.t eT;replace hr:=hr.u eT;exact⟨_,rfl,hT.eR,sx hT bq hF,⟨_,_,_,hx.eR hT (.inl rfl),ho.eR hT bq (.inr (.inl rfl)),hr.eR hT bq (.inr (.inr rfl)),cz.eR hT bq⟩⟩
end
end Go.Proofs.YtmdhggfehknjjaaGreat
namespace Go.Proofs.YtmdhggfehknjjaaGreat
open Go.K Go.K.aZ
noncomputable section
namespace yN
def c0:=cw Tryz.f77
end yN
theorem yF {w₀:World} {C:Nat->Nat} {l:List aD} {aK:Value} (hF:aL w₀ C) (hl:av w₀ (au C) l aK) (hlen:l.length<=100000):Calls Tryz.prog 77 #[aK] w₀ (bH λv w'=>v=.bool (decide (((aO l).length:Int)<=8))/\ax [] w₀ C w' C):=by
 have bq:=hF;have hT:=z9 w₀ C;replace hF:=hF.bk;replace hl:=hl.c1;refine cg Tryz.func77 ?_;refine aG 7 ?_ [1,29];refine dc Tryz.call130 rfl (C9 hF hl ah) ?_;rintro e7 w1 ⟨s_1,hrf⟩;refine dE hrf.ln ?_;refine ay 3 ?_;refine bI Tryz.func77 ?_;replace hT:=hT.t s_1;exact⟨rfl,hT.bN ai⟩
namespace pX
def c0:=cw Tryz.f78
def o1:=di (cl (aC c0))
end pX
theorem yI {w₀:World} {C:Nat->Nat} {l:List aD} {ds:List bC} {bz c4 aK:Value} (hF:aL w₀ C) (hl:av w₀ (au C) l aK) (hap:gp w₀ (au C) ds c4) (hrl: (aO l).length<=1000) (hw:∀x∈l,1<=x.w/\x.w<=1048576) (k7:l.length<=4096):Calls Tryz.prog 78 #[.agg #[bz,c4],aK] w₀ (bH λv w'=>ax [] w₀ C w' C/\av w' (au C) (qg l ds) v):=by
 have bq:=hF;have hT:=z9 w₀ C;replace hF:=hF.bk;replace hl:=hl.c1;replace hap:gp w₀ (au (bk C)) ds c4:=by rw[fu];exact hap
 refine cg Tryz.func78 ?_;refine aG 2 ?_ [2];refine bD (eX (cs:=[bz,c4]) hF 4 rfl rfl) ?_;rintro _ w1 ⟨eP,ct,rfl,s_1,hx0,hF⟩;refine ay 3 ?_;refine cm [] (eP) [1,3,5,7,9,10,13,14,17] b5 ?_;intro w2 s_2;have hR:=ax.refl [] w2 (eP);refine aj 2 ?_ [1];replace hx0:=hx0.t s_2;refine fW hx0.sz ?_;replace hl:=(hl.t s_1).t s_2;replace hap:=(hap.t s_1).t s_2;refine bK (λ_=>gO (zs:=[.slice none 0 0,.map none]) (ps:=[(0,1),(1,1)]) (eo:=[(0,[aK]),(1,[c4])]) (cs:=[aK,c4]) aq aq (by exact⟨rfl,⟨_,rfl,(hl.one rfl).1⟩,rfl,⟨_,rfl,hap.one.1⟩,trivial⟩) rfl) ?_;refine aj 1 ?_;replace hF:=hF.st s_2;refine gn Tryz.call130 rfl (C9 hF hl ah) ?_;rintro e7 w3 ⟨aB,hrf⟩;refine⟨(hR.trans aB aF).ext,?_⟩;refine bK (λ_=>gO (zs:=[.slice none 0 0,.map none,.slice none 0 0,.slice none 0 0,.bool false,.slice none 0 0,.int .i64 0]) (ps:=[(0,2),(2,1),(3,1),(4,1),(5,1),(6,1)]) (eo:=[(0,[aK,c4]),(1,[e7])]) (cs:=[aK,c4,e7,.slice none 0 0,.bool false,.slice none 0 0,.int .i64 0]) aq aq (by exact⟨rfl,⟨_,rfl,rfl⟩,rfl,⟨_,rfl,(hrf.one rfl).1⟩,trivial⟩) rfl) ?_;replace hF:=hF.st aB;refine ej (eX (cs:=[aK,c4,e7,.slice none 0 0,.bool false,.slice none 0 0,.int .i64 0]) hF 3 rfl rfl) ?_;rintro _ w4 ⟨gR,pE,rfl,aM,hx,hF⟩;replace hR:=hR.t aB;refine⟨(hR.trans aM aF).ext,?_⟩;refine bQ 5 ?_ [1];replace hl:=(hl.t aB).t aM;replace hap:=(hap.t aB).t aM;replace hrf:=hrf.t aM;refine dc Tryz.call131 rfl (eB (b:=pE) (vI l) hrl hw k7 (aO l).length 0 _ gR [] rE aF kN.nil hF hl hrf hap ⟨_,[],_,hx,bg.nil,fI.nil,gu⟩) ?_;rintro _ ez ⟨zo,rfl,aV,hF,hS⟩;clear hx hx0;obtain⟨vs,us,iX,hx,_,_,cz⟩:=hS;refine bQ 6 ?_ [23,5];refine bU hx.at_ ?_;refine ay 2 ?_;refine bI Tryz.func78 ?_;replace hT:=((((hT.t s_1).t s_2).t aB).t aM).t aV;exact⟨hT.bN ai,cz.out hT bq (fu C)⟩
end
end Go.Proofs.YtmdhggfehknjjaaGreat
namespace Go.Proofs.YtmdhggfehknjjaaGreat
open Go.K Go.K.aZ
noncomputable section
namespace yL
def c0:=cw Tryz.f193
end yL
theorem yE {xs:List ak} {px:Value} {b1 l:Nat} {J:List ak->World->Prop} {w₀:World} (Nn:∀pre A B,J pre A->Ext No A B->J pre B)
    (hr:∀pre A,J pre A->j0 A ji b1 (.cells [px].toArray 52)/\av A (au ji) xs px)
    (hY:∀k (hk:k<xs.length) A,J (xs.take k) A->YieldAt Fence.wide 0 Tryz.prog l #[dH xs[k]] A (λe W'=>e=.returned (.bool true)/\J (xs.take (k+1)) W')) (h0:J [] w₀):Calls Tryz.prog 193 #[.func (.yield l) #[] #[],.pointer (some ⟨b1,0,none⟩)] w₀ (bH λ_ w'=>J xs w'):=by
 obtain⟨h1,hp⟩:=hr _ _ h0;have hF:aL w₀ ji:=nR _;refine cg Tryz.func193 ?_;refine aG 2 ?_ [6];refine bU h1.at_ ?_;refine dE hp.ln ?_;refine ay 3 ?_;refine cH (ι:=Nat) (I:=λx w=>x<=xs.length/\J (xs.take x) w) (e:=λx=>[(0,.func (.yield l) #[] #[]),(1,.pointer (some ⟨b1,0,none⟩)),(5,px),(6,.int .i64 xs.length),(7,.int .i64 (x:Int))]) (m:=λx=>xs.length-x) (cC:=0) (af 0 (af 1 (af 5 (aH 6 rfl (eq_int aF) (af 7 (aR _)))))) ?_ ?_
 · exact⟨Nat.zero_le _,(by rw[List.take_zero];exact h0)⟩
 intro k w1 hI bV;obtain⟨hk,hJ⟩:=hI;obtain⟨h1,hp⟩:=hr _ _ hJ;have hle:=hp.le;have hF:aL w1 ji:=nR w1;have hT:=ax.refl [3] w1 ji;refine aI 5 ?_ [1];refine bF 8 rfl (λh8=>?_) (λh8=>?_)
 ·
  have aA:k<xs.length:=by omega
  refine aG 5 ?_ [1];refine bn hp ?_;intro _ FQ wG gi;refine iq gi ?_;intro v10 g10;obtain rfl:=bR.1 g10;refine bD (fD (cs:=[.int .i64 0,.int .i64 0]) hF 3 aq) ?_;rintro _ w2 ⟨dm,ew,rfl,s_1,hb,hF⟩;refine cq (eO (vs:=bh (xs[k]'aA)) (n:=2) rfl rfl aq rfl rfl (jf rfl) hb rfl) ?_;rintro _ w3 ⟨rfl,s_2,hb⟩;refine ay 2 ?_;replace hT:=(hT.t s_1).t s_2;replace hJ:=Nn _ _ _ hJ (hT.ext.mono (λb _ hb=>by simp at hb));refine bA 1 ?_;refine xQ (λ_=>trivial) (by kernel_rfl:cv _ 0=some (some 11,.move 0,none)) (λc e=>by cases e) rfl (Cc rfl) ?_;refine xQ (λ_=>trivial) (by kernel_rfl:cv _ 1=some (some 12,.load 55 4,none)) (λc e=>by cases e) rfl (om (n:=2) (vs:=bh (xs[k]'aA)) hb.at_ aq aq rfl rfl rfl) ?_;refine kq (λ_=>trivial) rfl (by kernel_rfl:cv _ 2=some (some 13,.call {callee:=.value 11,args:=#[.tmp 12],argTypes:=#[55]},none)) rfl rfl rfl (hY k aA _ hJ) ?_;rintro _ gE ⟨rfl,yC⟩;refine⟨_,rfl,?_⟩;refine xQ (λ_=>trivial) (by kernel_rfl:cv _ 3=some (some 14,.unOp .not 4 13,none)) (λc e=>by cases e) rfl (nI rfl) ?_;refine dI ?_;refine aI 7 ?_ [3];refine kp (af 0 (af 1 (af 5 (af 6 (aH 7 rfl (eq_int aF) (aR _)))))) (bV (k+1) _ ⟨by omega,yC⟩ ah)
 have aA:k=xs.length:=by omega
 refine aI 1 ?_;refine qy Tryz.func193 rfl ?_;rw[aA,List.take_length] at hJ;exact hJ
end
end Go.Proofs.YtmdhggfehknjjaaGreat
namespace Go.Proofs.YtmdhggfehknjjaaGreat
open Go.K Go.K.aZ
noncomputable section
namespace BA
def c0:=cw Tryz.f221
end BA
theorem aT {w₀:World} {C:Nat->Nat} {xs:List ak} {px:Value} {b1:Nat} (hF:aL w₀ C) (h1:w₀.heap[b1]?=some (.cells [px].toArray 52)) (hx:av w₀ (au C) xs px) (hlen:xs.length<=100000) (j:Nat) (hj:j≠0):
   Calls Tryz.prog 221 #[.slice none 0 0,.func (.func 193) #[] #[.pointer (some ⟨b1,0,none⟩)]] w₀ (bH λv w'=>∃aQ,ax [] w₀ C w' aQ/\aL w' aQ/\bg w' aQ j 55 v xs):=by
 refine vu (n:=3) (c:=BA.c0) (N:=13) [.slice none 0 0,.func (.func 193) #[] #[.pointer (some ⟨b1,0,none⟩)]] Tryz.func221 aq aq aq λa ha hD=>?_;have agE:=hD;refine IJ ?_;refine Fq ha hD ?_;refine Bk (λ_=>trivial) (by kernel_rfl:cv _ 0=some (some 2,.box 52 0,none)) (λc e=>by cases e) rfl (PE (cs:=[.slice none 0 0]) rfl rfl) ?_;rintro _ w1 ⟨rfl,hnew⟩;refine xQ (λ_=>trivial) (by kernel_rfl:cv _ 1=some (some 4,.assign (.const (.slice none 0 0)),none)) (λc e=>by cases e) rfl (D7 rfl) ?_;refine Fk λa ha hD=>?_;obtain⟨bo,qM⟩:∃bo,bo=w₀.heap.size:=⟨_,rfl⟩
 rw[<-qM] at ha;have ku:=hnew.at_;rw[<-qM] at ku;have hsz:=hnew.size;show(K.aC BA.c0).wpIn _ _ _ _ _ _;refine IJ ?_;refine IJ ?_;refine Fq ha hD ?_;refine xQ (λ_=>trivial) (by kernel_rfl:cv _ 0=some (some 6,.move 1,none)) (λc e=>by cases e) rfl (Cc rfl) ?_;refine Fk λa ha hD=>?_;show(K.aC (K.cl (K.aC BA.c0))).wpIn _ _ _ _ _ _;refine Ta 0 ?_;have hI0:AS 52 55 w₀ w1.heap.size bo [] w1:=⟨.slice none 0 0,hnew.ext,ku,bg.nil,λb hb=>by cases hb⟩
 refine yl (t:=6) (gf:=193) (encs:=λx:ak=>#[dH x]) (xs:=xs) (I:=AS 52 55 w₀ w1.heap.size bo) aq (ha.ev (x:=.tmp 6) rfl) (λargs w=>Tryz.call193 args w) (λx=>by rw[show Bl (K.cl (K.aC (K.cl (K.aC BA.c0))))=#[7] from by kernel_rfl];rfl) (λpre X Y h hE=>h.ext hE) (λpre X Y h hT=>h.turn ah hT) hI0 ?_ ?_ ?_
 ·intro l k hk X hX;rw[show Bl (K.cl (K.aC (K.cl (K.aC BA.c0))))=#[7] from by kernel_rfl];have ha1:=nZ.yield ha (t:=7) ai (dH xs[k]);refine Fq ha1 rfl ?_;obtain⟨v,g1,g2,g3,g4⟩:=hX;have hL:=AS.lim g2 g3;refine Bk (λ_=>trivial) (by kernel_rfl:cv _ 0=some (some 5,.alloc 55,none)) (λc e=>by cases e) rfl (fD (cs:=[.int .i64 0,.int .i64 0]) hL 3 aq) ?_;rintro _ agF ⟨a_,bW,rfl,hs1,d_,Dm⟩;refine Bk (λ_=>trivial) (by kernel_rfl:cv _ 1=some (none,.store 55 5 7,none)) (λc e=>by cases e) rfl (eO (vs:=bh xs[k]) (n:=2) rfl rfl aq rfl rfl (jf rfl) d_ rfl) ?_;rintro _ Np ⟨rfl,hs2,fc⟩;have hE:Ext No X Np:=(hs1.mono (J:=[3]) (λc hc=>by cases hc)).trans hs2 (λc hc=>hc) |>.ext.mono (λb hb hm=>by
    simp only[List.mem_singleton] at hm;unfold rL at hm;split at hm
    ·cases hm
    ·split at hm<;>cases hm)
  refine Fk λa2 ha2 aU=>?_;refine⟨λb fh hb HO hc=>Fo HO hE,(show AS _ _ _ _ _ _ _ from⟨v,g1,g2,g3,g4⟩:AS 52 55 w₀ w1.heap.size bo (xs.take k) X).ext hE,λJc cU Ul=>?_⟩;obtain⟨lt,agG,Um,hlt,Nq,ux,rfl⟩:=cU;have Un: (Np.putObj lt Um).heap[bW]?=some (.cells (bh xs[k]).toArray 55):=Fp fc.at_ (λe=>by subst e;rw[fc.at_] at Nq;cases Nq;cases ux);generalize Np.putObj lt Um=Jc at Ul Un;clear g1 g2 g3 g4 hL hs1 d_ Dm hs2 fc hE Nq;obtain⟨v,g1,g2,g3,g4⟩:=Ul;have hL:=AS.lim g2 g3;have hA:w1.heap.size<=Jc.heap.size:=by have:=Bm g2;omega
  have nM:cE Jc (rL bo v) 2 bo (.cells [v].toArray 52):=⟨by unfold rL;rw[if_pos rfl],g2⟩
  refine Ta 1 ?_;refine Fq ha2 aU ?_;refine xQ (λ_=>trivial) (by kernel_rfl:cv _ 0=some (some 8,.load 52 2,none)) (λc e=>by cases e) rfl (yJ g2 aq rfl rfl) ?_;refine xQ (λ_=>trivial) (by kernel_rfl:cv _ 1=some (some 9,.load 55 5,none)) (λc e=>by cases e) rfl (om (n:=2) (vs:=bh xs[k]) Un aq aq rfl rfl rfl) ?_;refine Bk (λ_=>trivial) (by kernel_rfl:cv _ 2=some (some 10,.buildSlice 52 1 #[(0,.tmp 9)],none)) (λc e=>by cases e) rfl (fk (ys:=([xs[k]]:List ak)) (e:=55) (bytes:=16) hL aq rfl ai ai ⟨rfl,⟨_,rfl,bR.2 rfl⟩,trivial⟩) ?_;rintro v10 agH ⟨hs4,g10,cG⟩;have r6: (xs.take k).length=k:=by rw[List.length_take];omega
  refine Bk (λ_=>trivial) (by kernel_rfl:cv _ 3=some (some 11,.call {callee:=.builtin .append,args:=#[.tmp 8,.tmp 10],argTypes:=#[52,52]},none)) (λc e=>by cases e) rfl (eY (e:=55) (bytes:=16) cG ai rfl rfl aq ai (g3.st hs4 ai ai) g10 fC fC) ?_;rintro v11 agI ⟨uO,hs5,g11,agJ⟩;have oS:=(nM.st hs4 ai).st hs5 ai;refine Bk (λ_=>trivial) (by kernel_rfl:cv _ 4=some (none,.store 52 2 11,none)) (λc e=>by cases e) rfl (jI rfl rfl aq g11.one.1 g11.one.2 oS aF) ?_;rintro _ iR ⟨rfl,gH,oR⟩;refine Fk λa3 HN agK=>?_;have nO:ax [2,5] Jc (rL bo v) iR uO:=((hs4.mono (J:=[2,5]) (λc hc=>by cases hc)).trans (hs5.mono (J:=[2,5]) (λc hc=>by simp at hc⊢;omega)) (λc hc=>hc)).trans (gH.mono (J:=[2,5]) (λc hc=>by simp at hc⊢;omega)) (λc hc=>hc);have Uo:=g11.st gH ai ai;rw[<-List.take_succ_eq_append_getElem hk] at Uo;obtain⟨r1,r2⟩:=AS.close (n0:=w1.heap.size) g1 g2 g3 g4 ah ah hA nO oR Uo;exact⟨rfl,r1,r2⟩
 ·intro l sH J Nn zG hY hJ0;refine yE (px:=px) Nn (λpre X hX=>?_) hY hJ0;obtain⟨v,g1,_⟩:=zG _ _ hX;exact⟨⟨show 0<2 from by decide,Fo h1 g1⟩,hx.c0.st (I:=[]) (C:=ji) (aQ:=ji) ⟨g1.mono (λ_ _ h=>h.elim),λ_ _=>rfl⟩ ai⟩
 intro D W agL hI hK;obtain⟨v,g1,g2,g3,g4⟩:=hI;show(K.aC (K.aC BA.c0)).wpIn _ _ _ _ _ _;refine IJ ?_;refine Fq (a:={a with defers:=_}) (D:={target:=.collected D,args:=#[]}::a.defers) ha rfl ?_;refine xQ (λ_=>trivial) (by kernel_rfl:cv _ 0=some (some 12,.load 52 2,none)) (λc e=>by cases e) rfl (yJ g2 aq rfl rfl) ?_;refine xQ (λ_=>trivial) (by kernel_rfl:cv _ 1=some (some 4,.assign 12,none)) (λc e=>by cases e) rfl (D7 rfl) ?_;refine Fk λa4 Nr zA=>?_;refine dB ?_;show LeavesInM _ _ _ _ _ _ _ _ _;rw[zA,hD];refine⟨by simp,.inl ⟨_,_,rfl,run_takeDeferred hK,?_⟩⟩;refine⟨_,results_tmp (t:=4) aq _ _ _,_,rfl,?_⟩;have hv:a4.tmps.getD 4 undef=v:=Nr.ev (x:=.tmp 4) rfl;rw[hv];refine⟨λb=>if v.ownBlock=some b then j else C b,⟨?_,λb hb=>?_⟩,λb hb=>?_,?_⟩
 ·exact(Tb g1 ah).mono (λ_ _ h=>h.elim)
 ·show(if v.ownBlock=some b then j else C b)=C b;rw[if_neg (λe=>by have:=g4 b e;omega)]
 ·show b<(W.putObj D _).heap.size;have hb: (if v.ownBlock=some b then j else C b)≠0:=hb;rw[World.putObj_size];split at hb
  · rename_i e;exact(g3.own.fh b e).2
  have:=hF b hb;have:=g1.size;omega
 refine g3.any (λb hb=>World.putObj_heap_other (λe=>?_)) (λb hb=>?_) hj
 ·subst e;obtain⟨cs,hcs⟩:=g3.cells hb;rw[hcs] at hK;cases hK
 show(if v.ownBlock=some b then j else C b)=j;rw[if_pos (show v.ownBlock=some b from hb)]
end
end Go.Proofs.YtmdhggfehknjjaaGreat
namespace Go.Proofs.YtmdhggfehknjjaaGreat
open Go.K Go.K.aZ
noncomputable section
theorem zB {I:List Nat} {w w':World} {C aQ:Nat->Nat} {b:Nat} {fh:Obj} (hT:ax I w (bk C) w' aQ) (hF:aL w C) (hb:cE w' aQ 3 b fh):j0 w' C b fh:=by
 refine⟨?_,hb.at_⟩;by_cases h:C b=0
 ·omega
 have h1:=hT.col b (hF b h);have h2:=jT C (show 1<3 by decide) b;rw[hb.col] at h1;omega
namespace zH
def c0:=cw Tryz.f140
end zH
theorem zI {w₀:World} {C:Nat->Nat} {xs:List ak} {px:Value} (hF:aL w₀ C) (hx:av w₀ (au C) xs px):Calls Tryz.prog 140 #[px] w₀ (bH λv w'=>∃b1,v=.func (.func 193) #[] #[.pointer (some ⟨b1,0,none⟩)]/\ax [] w₀ C w' C/\j0 w' C b1 (.cells [px].toArray 52)):=by
 have bq:=hF;have hT:=z9 w₀ C;replace hF:=hF.bk;replace hx:=hx.c1;refine cg Tryz.func140 ?_;refine aG 2 ?_ [2];refine bD (eX (cs:=[px]) hF 3 rfl (hx.one rfl).1) ?_;rintro _ w1 ⟨eP,ct,rfl,s_1,hb,hF⟩;refine bQ 4 ?_ [3];refine bK (λ_=>AB rfl rfl) ?_;refine ay 2 ?_;refine bI Tryz.func140 ?_;replace hT:=hT.t s_1;exact⟨_,rfl,hT.bN ai,zB hT bq hb⟩
namespace zO
def c0:=cw Tryz.f192
end zO
theorem dD {w₀:World} {C:Nat->Nat} {xs:List ak} {px:Value} {b1:Nat} (hF:aL w₀ C) (h1:w₀.heap[b1]?=some (.cells [px].toArray 52)) (hx:av w₀ (au C) xs px) (hlen:xs.length<=100000) (j:Nat) (hj:j≠0):Calls Tryz.prog 192 #[.func (.func 193) #[] #[.pointer (some ⟨b1,0,none⟩)]] w₀ (bH λv w'=>∃aQ,ax [] w₀ C w' aQ/\aL w' aQ/\bg w' aQ j 55 v xs):=by
 refine cg Tryz.func192 ?_;refine aG 7 ?_ [1,5];refine bZ Tryz.call221 (aT hF h1 hx hlen j hj) ?_;rintro v4 w1 ⟨ya,s_1,SE,ho⟩;refine ay 2 ?_;refine bI Tryz.func192 ?_;exact⟨ya,s_1,SE,ho⟩
namespace dr
def c0:=cw Tryz.f139
end dr
theorem u0 {w₀:World} {C:Nat->Nat} {xs:List ak} {px:Value} {b1:Nat} (hF:aL w₀ C) (h1:w₀.heap[b1]?=some (.cells [px].toArray 52)) (hx:av w₀ (au C) xs px) (hlen:xs.length<=100000):Calls Tryz.prog 139 #[.func (.func 193) #[] #[.pointer (some ⟨b1,0,none⟩)],.func (.func 53) #[] #[]] w₀ (bH λv w'=>ax [] w₀ C w' C/\av w' (au C) (jJ xs) v):=by
 have bq:=hF;have hT:=z9 w₀ C;replace hF:=hF.bk;replace hx:=hx.c1;replace h1:=j0.of h1 C;refine cg Tryz.func139 ?_;refine aG 7 ?_ [1,5];refine dc Tryz.call192 rfl (dD hF h1.at_ hx hlen 3 ai) ?_;rintro z7 w1 ⟨agM,s_1,hF,ho⟩;refine bQ 6 ?_ [3];refine dc Tryz.call185 rfl (R9 hF ho ah) ?_;rintro kO w2 ⟨rfl,s_2,ho,_⟩;refine ay 6 ?_ [3];refine bI Tryz.func139 ?_;replace hT:=(hT.t s_1).t s_2;exact⟨hT.bN ai,ho.out hT bq (fu C) (λb _=>jT C ai b) (by rw[(xq _).length_eq];omega)⟩
end
end Go.Proofs.YtmdhggfehknjjaaGreat
namespace Go.Proofs.YtmdhggfehknjjaaGreat
open Go.K Go.K.aZ
noncomputable section
namespace L2
def c0:=cw Tryz.f191
end L2
theorem Up {w₀:World} {C:Nat->Nat} {k:Nat} (hF:aL w₀ C) (hk:k<=1000000) (j:Nat) (hj:j≠0):Calls Tryz.prog 191 #[.slice none 0 0,.int .i64 k] w₀ (bH λv w'=>∃aQ,ax [] w₀ C w' aQ/\aL w' aQ/\bg w' aQ j 55 v ([]:List ak)):=by
 have bq:=hF;have hT:=z9 w₀ C;replace hF:=hF.bk;refine cg Tryz.func191 ?_;refine aI 10 ?_ [1,3];refine bF 6 rfl (λh6=>?_) (λh6=>?_)
 ·
  omega
 refine aG 6 ?_ [251];refine ov (Rj rfl Tryz.underlying52) ?_;refine aj 1 ?_;refine bK (λ_=>yH rfl Tryz.underlying52) ?_;refine aj 2 ?_;rw[show(k:Int)-(((0:Nat):Int)-((0:Nat):Int))=(k:Int) from by simp];refine ay 7 ?_ [3];refine bF 16 rfl (λen=>?_) (λen=>?_)
 ·
  have gI:0<k:=by omega
  refine aG 3 ?_ [987];refine ov (Rj rfl Tryz.underlying52) ?_;refine bK (λ_=>YW rfl rfl Tryz.underlying52 aq) ?_;refine aj 1 ?_;refine bD (YU (α:=ak) (e:=55) (bytes:=16) (n:=k) (j:=3) hF ai rfl rfl aq ai ai Tryz.underlying3 gI ah) ?_;rintro _ w1 ⟨eP,agO,gc,rfl,s_1,hz,hF⟩;refine aj 1 ?_;refine bK (λ_=>yH rfl Tryz.underlying52) ?_;refine bK (λ_=>YX rfl rfl Tryz.underlying52 aq) ?_;refine ay 7 ?_ [3];refine bI Tryz.func191 ?_;replace hT:=hT.t s_1;obtain⟨rJ,qi,hFg,Da,uC⟩:=hz.mM hT bq (fu C) (λb _=>jT C ai b) ai j hj;exact⟨rJ,(hT.bN ai).mM qi,hFg,uC⟩
 refine aI 6 ?_ [3];refine bI Tryz.func191 ?_;exact⟨C,hT.bN ai,bq.st (hT.bN ai),bg.nil⟩
namespace W2
def c0:=cw Tryz.f138
end W2
theorem agQ {w₀:World} {C:Nat->Nat} {ll:List (List ak)} {dw:Value} (hF:aL w₀ C) (hl:av w₀ (au C) ll dw) (hlen:ll.flatten.length<=100000) (j:Nat) (hj:j≠0):Calls Tryz.prog 138 #[dw] w₀ (bH λv w'=>∃aQ,ax [] w₀ C w' aQ/\aL w' aQ/\bg w' aQ j 55 v ll.flatten):=by
 have bq:=hF;have hT:=z9 w₀ C;replace hF:=hF.bk;replace hl:=hl.c1;refine cg Tryz.func138 ?_;refine aG 12 ?_ [1,1,7];refine dE hl.ln ?_;refine ay 3 ?_;refine cH (ι:=Nat×(Nat->Nat)) (I:=λx w=>x.1<=ll.length/\aL w x.2/\ax [2,3,4,5,6,7,8,9] w₀ (bk C) w x.2/\av w (au x.2) ll dw) (e:=λx=>[(0,dw),(3,.int .i64 ((ll.take x.1).flatten.length:Nat)),(9,dw),(10,.int .i64 ll.length),(11,.int .i64 x.1)]) (m:=λx=>ll.length-x.1) (cC:=(0,bk C)) (af 0 (af 3 (af 9 (af 10 (af 11 (aR _)))))) ?_ ?_
 · exact⟨Nat.zero_le _,hF,hT,hl⟩
 intro⟨i,a_⟩ w1 hI bV;obtain⟨hi,hF,hT,hl⟩:=hI;try simp only at hi hF hT hl
 show Run _ _ _ _ [(0,dw),(3,.int .i64 ((ll.take i).flatten.length:Nat)),(9,dw),(10,.int .i64 ll.length),(11,.int .i64 i)] _ _;have hle:=hl.le;have hfl:=zc (ll:=ll) i;refine aI 5 ?_ [1];refine bF 12 rfl (λh12=>?_) (λh12=>?_)
 ·
  have hil:i<ll.length:=by omega
  have hft:=congrArg List.length (HP hil);rw[List.length_append] at hft;have Ns:=zc (ll:=ll) (i+1);refine aG 5 ?_ [5];refine bn hl ?_;intro _ Ie Ig k5;refine iF k5 ?_;intro C8 g14;refine bQ 6 ?_ [31];refine dE g14.ln ?_;refine ay 8 ?_ [3];refine bF 20 rfl (λlg=>?_) (λlg=>?_)
  ·
   omega
  refine aI 6 ?_ [3];refine kp (af 0 (aH 3 rfl (eq_int rU) (af 9 (af 10 (aH 11 rfl (eq_int aF) (aR _)))))) (bV (i+1,a_) _ ⟨aJ,hF,hT,hl⟩ aJ)
 have hil:i=ll.length:=by omega
 refine aG 4 ?_ [5];refine dc Tryz.call191 rfl (Up hF ah 3 ai) ?_;rintro FR w2 ⟨BD,s_1,hF,ho⟩;refine bQ 6 ?_ [7];replace hl:=hl.t s_1;refine dE hl.ln ?_;refine ay 3 ?_;refine cH (ι:=Nat×Value×(Nat->Nat)) (I:=λx w=>x.1<=ll.length/\aL w x.2.2/\ax [2,3,4,5,6,7,8,9] w₀ (bk C) w x.2.2/\av w (au x.2.2) ll dw/\bg w x.2.2 3 55 x.2.1 ((ll.take x.1).flatten)) (e:=λx=>[(6,x.2.1),(25,dw),(26,.int .i64 ll.length),(27,.int .i64 x.1)]) (m:=λx=>ll.length-x.1) (cC:=(0,FR,BD)) (af 6 (af 25 (af 26 (af 27 (aR _))))) ?_ ?_
 ·
   replace hT:=hT.t s_1;exact⟨Nat.zero_le _,hF,hT,hl,ho⟩
 intro⟨k,cM,de⟩ w3 hI ei;obtain⟨hk,hF,hT,hl,ho⟩:=hI;try simp only at hk hF hT hl ho
 show Run _ _ _ _ [(6,cM),(25,dw),(26,.int .i64 ll.length),(27,.int .i64 k)] _ _;have hle:=hl.le;have hfl:=zc (ll:=ll) k;refine aI 5 ?_ [1];refine bF 28 rfl (λiz=>?_) (λiz=>?_)
 ·
  have aA:k<ll.length:=by omega
  have hft:=HP aA;have Nt:=congrArg List.length hft;rw[List.length_append] at Nt;have Ns:=zc (ll:=ll) (k+1);refine aG 5 ?_ [5];refine bn hl ?_;intro _ E8 E9 nx;refine iF nx ?_;intro v30 ff;refine bQ 5 ?_ [11];refine bD (eY (e:=55) (bytes:=16) hF ai rfl rfl aq ai ho ff ah ah) ?_;rintro v33 w4 ⟨gR,s_2,ho,hF⟩;refine ay 7 ?_ [3];replace hT:=hT.t s_2;replace hl:=hl.t s_2;refine kp (af 6 (af 25 (af 26 (aH 27 rfl (eq_int aF) (aR _))))) (ei (k+1,v33,gR) _ ⟨aJ,hF,hT,hl,(by simp only;rw[hft];exact ho)⟩ aJ)
 have aA:k=ll.length:=by omega
 rw[aA,List.take_length] at ho;refine aI 6 ?_ [3];refine bI Tryz.func138 ?_;obtain⟨rJ,qi,hFg,Da,uC⟩:=ho.mM hT bq (fu C) (λb _=>jT C ai b) ai j hj;exact⟨rJ,(hT.bN ai).mM qi,hFg,uC⟩
theorem Cq {w₀:World} {C:Nat->Nat} {ll:List (List ak)} {dw:Value} (hF:aL w₀ C) (hl:av w₀ (au C) ll dw) (hlen:ll.flatten.length<=100000):Calls Tryz.prog 138 #[dw] w₀ (bH λv w'=>ax [] w₀ C w' C/\av w' (au C) ll.flatten v):=by
 have bq:=hF;have hT:=z9 w₀ C;replace hF:=hF.bk;replace hl:=hl.c1;refine cg Tryz.func138 ?_;refine aG 12 ?_ [1,1,7];refine dE hl.ln ?_;refine ay 3 ?_;refine cH (ι:=Nat×(Nat->Nat)) (I:=λx w=>x.1<=ll.length/\aL w x.2/\ax [2,3,4,5,6,7,8,9] w₀ (bk C) w x.2/\av w (au x.2) ll dw) (e:=λx=>[(0,dw),(3,.int .i64 ((ll.take x.1).flatten.length:Nat)),(9,dw),(10,.int .i64 ll.length),(11,.int .i64 x.1)]) (m:=λx=>ll.length-x.1) (cC:=(0,bk C)) (af 0 (af 3 (af 9 (af 10 (af 11 (aR _)))))) ?_ ?_
 · exact⟨Nat.zero_le _,hF,hT,hl⟩
 intro⟨i,a_⟩ w1 hI bV;obtain⟨hi,hF,hT,hl⟩:=hI;try simp only at hi hF hT hl
 show Run _ _ _ _ [(0,dw),(3,.int .i64 ((ll.take i).flatten.length:Nat)),(9,dw),(10,.int .i64 ll.length),(11,.int .i64 i)] _ _;have hle:=hl.le;have hfl:=zc (ll:=ll) i;refine aI 5 ?_ [1];refine bF 12 rfl (λh12=>?_) (λh12=>?_)
 ·
  have hil:i<ll.length:=by omega
  have hft:=congrArg List.length (HP hil);rw[List.length_append] at hft;have Ns:=zc (ll:=ll) (i+1);refine aG 5 ?_ [5];refine bn hl ?_;intro _ Ie Ig k5;refine iF k5 ?_;intro C8 g14;refine bQ 6 ?_ [31];refine dE g14.ln ?_;refine ay 8 ?_ [3];refine bF 20 rfl (λlg=>?_) (λlg=>?_)
  ·
   omega
  refine aI 6 ?_ [3];refine kp (af 0 (aH 3 rfl (eq_int rU) (af 9 (af 10 (aH 11 rfl (eq_int aF) (aR _)))))) (bV (i+1,a_) _ ⟨aJ,hF,hT,hl⟩ aJ)
 have hil:i=ll.length:=by omega
 refine aG 4 ?_ [5];refine dc Tryz.call191 rfl (Up hF ah 3 ai) ?_;rintro FR w2 ⟨BD,s_1,hF,ho⟩;refine bQ 6 ?_ [7];replace hl:=hl.t s_1;refine dE hl.ln ?_;refine ay 3 ?_;refine cH (ι:=Nat×Value×(Nat->Nat)) (I:=λx w=>x.1<=ll.length/\aL w x.2.2/\ax [2,3,4,5,6,7,8,9] w₀ (bk C) w x.2.2/\av w (au x.2.2) ll dw/\bg w x.2.2 3 55 x.2.1 ((ll.take x.1).flatten)) (e:=λx=>[(6,x.2.1),(25,dw),(26,.int .i64 ll.length),(27,.int .i64 x.1)]) (m:=λx=>ll.length-x.1) (cC:=(0,FR,BD)) (af 6 (af 25 (af 26 (af 27 (aR _))))) ?_ ?_
 ·
   replace hT:=hT.t s_1;exact⟨Nat.zero_le _,hF,hT,hl,ho⟩
 intro⟨k,cM,de⟩ w3 hI ei;obtain⟨hk,hF,hT,hl,ho⟩:=hI;try simp only at hk hF hT hl ho
 show Run _ _ _ _ [(6,cM),(25,dw),(26,.int .i64 ll.length),(27,.int .i64 k)] _ _;have hle:=hl.le;have hfl:=zc (ll:=ll) k;refine aI 5 ?_ [1];refine bF 28 rfl (λiz=>?_) (λiz=>?_)
 ·
  have aA:k<ll.length:=by omega
  have hft:=HP aA;have Nt:=congrArg List.length hft;rw[List.length_append] at Nt;have Ns:=zc (ll:=ll) (k+1);refine aG 5 ?_ [5];refine bn hl ?_;intro _ E8 E9 nx;refine iF nx ?_;intro v30 ff;refine bQ 5 ?_ [11];refine bD (eY (e:=55) (bytes:=16) hF ai rfl rfl aq ai ho ff ah ah) ?_;rintro v33 w4 ⟨gR,s_2,ho,hF⟩;refine ay 7 ?_ [3];replace hT:=hT.t s_2;replace hl:=hl.t s_2;refine kp (af 6 (af 25 (af 26 (aH 27 rfl (eq_int aF) (aR _))))) (ei (k+1,v33,gR) _ ⟨aJ,hF,hT,hl,(by simp only;rw[hft];exact ho)⟩ aJ)
 have aA:k=ll.length:=by omega
 rw[aA,List.take_length] at ho;refine aI 6 ?_ [3];refine bI Tryz.func138 ?_;exact⟨hT.bN ai,ho.out hT bq (fu C) (λb _=>jT C ai b) ah⟩
end
end Go.Proofs.YtmdhggfehknjjaaGreat
