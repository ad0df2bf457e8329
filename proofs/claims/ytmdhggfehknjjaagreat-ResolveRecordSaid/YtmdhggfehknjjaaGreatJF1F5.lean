/- Steps through functions of the program. -/
import Derived.Test.YtmdhggfehknjjaaGreatJE7E9
import Derived.Test.YtmdhggfehknjjaaGreatJC1C3
import Derived.Test.YtmdhggfehknjjaaGreatL3
import Derived.Test.YtmdhggfehknjjaaGreatJC7D4
import Derived.Test.YtmdhggfehknjjaaGreatL2
set_option linter.unusedVariables false
set_option linter.unusedSimpArgs false
set_option maxRecDepth 100000
set_option maxHeartbeats 4000000
namespace Go.Proofs.YtmdhggfehknjjaaGreat
open Go.K Go.K.aY
noncomputable section
namespace Rs
def c0:=bZ Tryz.f77
end Rs
theorem PI {w₀:World} {C:Nat->Nat} {l:List bk} {aK:Value} (hF:aL w₀ C) (hl:aB w₀ (ax C) l aK) (hlen:l.length<=100000):Calls Tryz.prog 77 #[aK] w₀ (bI λv w'=>v=.bool (decide (((bg l).length:Int)<=8))/\aA [] w₀ C w' C):=by
 have bF:=hF;have hT:=z9 w₀ C;replace hF:=hF.bz;replace hl:=hl.c1;refine bW Rs.c0 7 [aK] Tryz.func77 ?_;show Run _ _ _ _ [(0,aK)] _ _;refine aj (aq [af 0] ?_);refine aZ 2 (.bool false) (ak.nil (aj (aq [af 0,nn 1,af 2,af 3,af 4] ?_)));refine ah 3 0 ?_;refine bV 4 130 [3] [23] Tryz.call130 rfl (Ad hF hl (by omega)) ?_;rintro kL w1 ⟨s_1,hrf⟩;refine zE 5 4 52 (hrf.bU rfl Tryz.underlying52) ?_;refine ay (au 6 (.binOp .leq 3 (.tmp 5) (.const (.int .i64 8)) 3)) (λ_=>od rfl rfl) ?_;refine aD 2 6 (ak.nil ?_);refine bR Tryz.func77 Tryz.results77 ?_;replace hT:=hT.t s_1;exact⟨rfl,hT.cm (by decide)⟩
namespace JX
def c0:=bZ Tryz.f78
def o1:=dL (cl (aH c0))
end JX
theorem vr {w₀:World} {C:Nat->Nat} {l:List bk} {ds:List cC} {bN cA aK:Value} (hF:aL w₀ C) (hl:aB w₀ (ax C) l aK) (hap:fI w₀ (ax C) ds cA) (hrl: (bg l).length<=1000) (hw:∀x∈l,1<=x.w/\x.w<=1048576) (m_:l.length<=4096):Calls Tryz.prog 78 #[.agg #[bN,cA],aK] w₀ (bI λv w'=>aA [] w₀ C w' C/\aB w' (ax C) (oD l ds) v):=by
 have bF:=hF;have hT:=z9 w₀ C;replace hF:=hF.bz;replace hl:=hl.c1;replace hap:fI w₀ (ax (bz C)) ds cA:=by rw[ez];exact hap
 refine bW JX.c0 20 [.agg #[bN,cA],aK] Tryz.func78 ?_;show Run _ _ _ _ [(0,.agg #[bN,cA]),(1,aK)] _ _;refine aj (aq [nn 0,af 1] ?_);refine bG (au 2 (.box 129 (.tmp 0))) rfl rfl (dO (cs:=[bN,cA]) hF 4 rfl rfl) ?_;rintro _ w1 ⟨dF,ck,rfl,s_1,hx0,hF⟩;refine aZ 4 (.slice none 0 0) (ak.nil (aj ?_));refine dD (id:=1) (ops:=JX.o1) [] (dF) [af 0,af 1,af 2,af 3,af 4,nn 5,af 6,nn 7,af 8] dn (by kernel_rfl) (by kernel_rfl) (by kernel_rfl) ?_;intro w2 s_2;have hR:=aA.refl [] w2 (dF);refine ah 6 1 (bn 7 129 2 1 1 ?_);replace hx0:=hx0.t s_2;refine ew 8 127 7 (hx0.bE ·) ?_;replace hl:=(hl.t s_1).t s_2;replace hap:=(hap.t s_1).t s_2;refine ay (au 9 (.build 129 #[(0,(.tmp 6)),(1,(.tmp 8))])) (λ_=>ig (zs:=[.slice none 0 0,.map none]) (ps:=[(0,1),(1,1)]) (ei:=[(0,[aK]),(1,[cA])]) (cs:=[aK,cA]) (by kernel_rfl) (by kernel_rfl) (by exact⟨rfl,⟨_,rfl,(hl.one rfl).1⟩,rfl,⟨_,rfl,hap.one.1⟩,trivial⟩) rfl) ?_;refine ah 10 1 ?_;replace hF:=hF.st s_2;refine gw 11 130 [10] [23] Tryz.call130 rfl (Ad hF hl (by omega)) ?_;rintro kL w3 ⟨aF,hrf⟩;refine⟨(hR.trans aF (by simp)).ext,?_⟩;refine ay (au 12 (.build 184 #[(0,(.tmp 9)),(1,(.tmp 11))])) (λ_=>ig (zs:=[.slice none 0 0,.map none,.slice none 0 0,.slice none 0 0,.bool false,.slice none 0 0,.int .i64 0]) (ps:=[(0,2),(2,1),(3,1),(4,1),(5,1),(6,1)]) (ei:=[(0,[aK,cA]),(1,[kL])]) (cs:=[aK,cA,kL,.slice none 0 0,.bool false,.slice none 0 0,.int .i64 0]) (by kernel_rfl) (by kernel_rfl) (by exact⟨rfl,⟨_,rfl,rfl⟩,rfl,⟨_,rfl,(hrf.one rfl).1⟩,trivial⟩) rfl) ?_;replace hF:=hF.st aF;refine gK (au 13 (.box 184 (.tmp 12))) rfl rfl (dO (cs:=[aK,cA,kL,.slice none 0 0,.bool false,.slice none 0 0,.int .i64 0]) hF 3 rfl rfl) ?_;rintro _ w4 ⟨fK,mI,rfl,aI,hx,hF⟩;replace hR:=hR.t aF;refine⟨(hR.trans aI (by simp)).ext,?_⟩;refine aD 5 13 (ak.nil (aj (aq [af 0,nn 1] ?_)));refine ah 14 5 ?_;replace hl:=(hl.t aF).t aI;replace hap:=(hap.t aF).t aI;replace hrf:=hrf.t aI
 refine dU (au 15 (.call {callee:=.value (.func 131),args:=#[(.tmp 14),(.const (.int .i64 0))],argTypes:=#[182,3]})) rfl rfl (dy Tryz.call131 rfl) (e4 (b:=mI) (Bn l) hrl hw m_ (bg l).length 0 _ fK [] xw (by simp) kK.nil hF hl hrf hap ⟨_,[],_,hx,aX.nil,fO.nil,kR⟩) ?_;rintro _ dY ⟨oJ,rfl,aG,hF,hS⟩;clear hx hx0;obtain⟨vs,us,lX,hx,_,_,fe⟩:=hS;refine ak.nil (aj (aq [af 0,af 1,af 2,nn 3,af 4] ?_));refine ah 16 5 (gi 17 16 (bn 18 184 17 4 5 ?_));refine cK 19 24 18 hx.at_ rfl rfl ?_;refine aD 4 19 (ak.nil ?_);refine bR Tryz.func78 Tryz.results78 ?_;replace hT:=((((hT.t s_1).t s_2).t aF).t aI).t aG;exact⟨hT.cm (by decide),fe.out hT bF (ez C)⟩
end
end Go.Proofs.YtmdhggfehknjjaaGreat
set_option linter.unusedVariables false
set_option linter.unusedSimpArgs false
set_option maxRecDepth 100000
set_option maxHeartbeats 4000000
namespace Go.Proofs.YtmdhggfehknjjaaGreat
open Go.K Go.K.aY
noncomputable section
namespace Rt
def c0:=bZ Tryz.f193
end Rt
theorem jy {xs:List av} {px:Value} {b1 l:Nat} {J:List av->World->Prop} {w₀:World} (JY:∀pre A B,J pre A->Ext No A B->J pre B)
    (hr:∀pre A,J pre A->jv A iG b1 (.cells [px].toArray 52)/\aB A (ax iG) xs px)
    (hY:∀k (hk:k<xs.length) A,J (xs.take k) A->YieldAt Fence.wide 0 Tryz.prog l #[cV xs[k]] A (λe W'=>e=.returned (.bool true)/\J (xs.take (k+1)) W')) (h0:J [] w₀):Calls Tryz.prog 193 #[.func (.yield l) #[] #[],.pointer (some ⟨b1,0,none⟩)] w₀ (bI λ_ w'=>J xs w'):=by
 obtain⟨h1,hp⟩:=hr _ _ h0;have hF:aL w₀ iG:=mW _;refine bW Rt.c0 16 [.func (.yield l) #[] #[],.pointer (some ⟨b1,0,none⟩)] Tryz.func193 ?_;show Run _ _ _ _ [(0,.func (.yield l) #[] #[]),(1,.pointer (some ⟨b1,0,none⟩))] _ _;refine aj (aq [nn 0,af 1,af 2] ?_);refine cK 5 52 1 h1.at_ rfl rfl ?_;refine zE 6 5 52 (hp.bU rfl Tryz.underlying52) ?_;refine ef 7 (.int .i64 0) ?_;refine ak.nil (bD 0 ?_);refine cM (ι:=Nat) (I:=λx w=>x<=xs.length/\J (xs.take x) w) (e:=λx=>[(0,.func (.yield l) #[] #[]),(1,.pointer (some ⟨b1,0,none⟩)),(5,px),(6,.int .i64 xs.length),(7,.int .i64 (x:Int))]) (m:=λx=>xs.length-x) (cE:=0) (ai 0 (ai 1 (ai 5 (aJ 6 rfl (eq_int (by simp)) (ai 7 (aV _)))))) ?_ ?_
 · exact⟨Nat.zero_le _,(by rw[List.take_zero];exact h0)⟩
 intro k w1 hI bP;obtain⟨hk,hJ⟩:=hI;obtain⟨h1,hp⟩:=hr _ _ hJ;have hle:=hp.le;have hF:aL w1 iG:=mW w1;have hT:=aA.refl [3] w1 iG;refine aj (aq [af 0] ?_);refine de 8 3 7 6 (ak.nil (aj ?_));refine bQ 8 rfl (λh8=>?_) (λh8=>?_)
 ·
  have aC:k<xs.length:=by omega
  refine bq (aj (bD 1 (aj (aq [af 0,nn 1,nn 2,nn 3] ?_))));refine dw 55 9 52 5 7 hp rfl (h:=?_);intro Ft yo gx;try simp only[aQ] at gx
  refine ic (au 10 (.load 55 (.tmp 9))) rfl rfl trivial gx (by kernel_rfl) (by kernel_rfl) rfl rfl ?_;intro v10 g10;obtain rfl:=fN.1 g10;refine bG (au 4 (.alloc 55)) rfl rfl (dR (cs:=[.int .i64 0,.int .i64 0]) hF 3 (by kernel_rfl)) ?_;rintro _ w2 ⟨dx,en,rfl,s_1,hb,hF⟩;refine cg (k0 (.store 55 (.tmp 4) (.tmp 10))) rfl (dM (vs:=bJ (xs[k]'aC)) (n:=2) rfl rfl (by kernel_rfl) rfl rfl (gp rfl) hb rfl) ?_;rintro _ w3 ⟨rfl,s_2,hb⟩;refine ak.nil (aj ?_);replace hT:=(hT.t s_1).t s_2;replace hJ:=JY _ _ _ hJ (hT.ext.mono (λb _ hb=>by simp at hb));refine Yr 1 ?_;refine ue (λ_=>trivial) (by kernel_rfl:cq _ 0=some (some 11,.move (.tmp 0),none)) (λc e=>by cases e) rfl (rD rfl) ?_;refine ue (λ_=>trivial) (by kernel_rfl:cq _ 1=some (some 12,.load 55 (.tmp 4),none)) (λc e=>by cases e) rfl (jC (n:=2) (vs:=bJ (xs[k]'aC)) hb.at_ (by kernel_rfl) (by kernel_rfl) rfl rfl rfl) ?_;refine Yo (λ_=>trivial) rfl (by kernel_rfl:cq _ 2=some (some 13,.call {callee:=.value (.tmp 11),args:=#[.tmp 12],argTypes:=#[55]},none)) rfl rfl rfl (hY k aC _ hJ) ?_;rintro _ gO ⟨rfl,L2⟩;refine⟨_,rfl,?_⟩;refine ue (λ_=>trivial) (by kernel_rfl:cq _ 3=some (some 14,.unOp .not 4 (.tmp 13),none)) (λc e=>by cases e) rfl (eP rfl) ?_;refine Ys ?_;refine cQ 14 (bq (bO (aq [af 0,af 1] ?_)));refine b7 15 3 7 1 (ah 7 15 (ak.nil ?_));refine kp (ai 0 (ai 1 (ai 5 (ai 6 (aJ 7 rfl (eq_int (by simp)) (aV _)))))) (bP (k+1) _ ⟨by omega,L2⟩ (by omega))
 have aC:k=xs.length:=by omega
 refine cB 0 ?_;refine nF Tryz.func193 rfl ?_;rw[aC,List.take_length] at hJ;exact hJ
end
end Go.Proofs.YtmdhggfehknjjaaGreat
set_option linter.unusedVariables false
set_option linter.unusedSimpArgs false
set_option maxRecDepth 100000
set_option maxHeartbeats 4000000
namespace Go.Proofs.YtmdhggfehknjjaaGreat
open Go.K Go.K.aY
noncomputable section
namespace yt
def c0:=bZ Tryz.f221
end yt
theorem GI {w₀:World} {C:Nat->Nat} {xs:List av} {px:Value} {b1:Nat} (hF:aL w₀ C) (h1:w₀.heap[b1]?=some (.cells [px].toArray 52)) (hx:aB w₀ (ax C) xs px) (hlen:xs.length<=100000) (j:Nat) (hj:j≠0):
   Calls Tryz.prog 221 #[.slice none 0 0,.func (.func 193) #[] #[.pointer (some ⟨b1,0,none⟩)]] w₀ (bI λv w'=>∃aP,aA [] w₀ C w' aP/\aL w' aP/\aX w' aP j 55 v xs):=by
 refine YE (n:=3) (c:=yt.c0) (N:=13) [.slice none 0 0,.func (.func 193) #[] #[.pointer (some ⟨b1,0,none⟩)]] Tryz.func221 (by kernel_rfl) (by kernel_rfl) (by kernel_rfl) λa ha hD=>?_;have abq:=hD;refine EH ?_;refine Cf ha hD ?_;refine xM (λ_=>trivial) (by kernel_rfl:cq _ 0=some (some 2,.box 52 (.tmp 0),none)) (λc e=>by cases e) rfl (KR (cs:=[.slice none 0 0]) rfl rfl) ?_;rintro _ w1 ⟨rfl,hnew⟩;refine ue (λ_=>trivial) (by kernel_rfl:cq _ 1=some (some 4,.assign (.const (.slice none 0 0)),none)) (λc e=>by cases e) rfl (pn rfl) ?_;refine B9 λa ha hD=>?_;obtain⟨bo,oO⟩:∃bo,bo=w₀.heap.size:=⟨_,rfl⟩
 rw[<-oO] at ha;have jl:=hnew.at_;rw[<-oO] at jl;have hsz:=hnew.size;show(K.aH yt.c0).wpIn _ _ _ _ _ _;refine EH ?_;refine EH ?_;refine Cf ha hD ?_;refine ue (λ_=>trivial) (by kernel_rfl:cq _ 0=some (some 6,.move (.tmp 1),none)) (λc e=>by cases e) rfl (rD rfl) ?_;refine B9 λa ha hD=>?_;show(K.aH (K.cl (K.aH yt.c0))).wpIn _ _ _ _ _ _;refine Ou 0 ?_;have hI0:AS 52 55 w₀ w1.heap.size bo [] w1:=⟨.slice none 0 0,hnew.ext,jl,aX.nil,λb hb=>by cases hb⟩
 refine Yv (t:=6) (gf:=193) (encs:=λx:av=>#[cV x]) (xs:=xs) (I:=AS 52 55 w₀ w1.heap.size bo) (by kernel_rfl) (ha.ev (x:=.tmp 6) rfl) (λargs w=>Tryz.call193 args w) (λx=>by rw[show xO (K.cl (K.aH (K.cl (K.aH yt.c0))))=#[7] from by kernel_rfl];rfl) (λpre X Y h hE=>h.ext hE) (λpre X Y h hT=>h.turn (by omega) hT) hI0 ?_ ?_ ?_
 ·intro l k hk X hX;rw[show xO (K.cl (K.aH (K.cl (K.aH yt.c0))))=#[7] from by kernel_rfl];have ha1:=lY.yield ha (t:=7) (by decide) (cV xs[k]);refine Cf ha1 rfl ?_;obtain⟨v,g1,g2,g3,g4⟩:=hX;have hL:=AS.lim g2 g3;refine xM (λ_=>trivial) (by kernel_rfl:cq _ 0=some (some 5,.alloc 55,none)) (λc e=>by cases e) rfl (dR (cs:=[.int .i64 0,.int .i64 0]) hL 3 (by kernel_rfl)) ?_;rintro _ abr ⟨bu,bH,rfl,hs1,jZ,zS⟩;refine xM (λ_=>trivial) (by kernel_rfl:cq _ 1=some (none,.store 55 (.tmp 5) (.tmp 7),none)) (λc e=>by cases e) rfl (dM (vs:=bJ xs[k]) (n:=2) rfl rfl (by kernel_rfl) rfl rfl (gp rfl) jZ rfl) ?_;rintro _ JZ ⟨rfl,hs2,eE⟩;have hE:Ext No X JZ:=(hs1.mono (J:=[3]) (λc hc=>by cases hc)).trans hs2 (λc hc=>hc) |>.ext.mono (λb hb hm=>by
    simp only[List.mem_singleton] at hm;unfold pT at hm;split at hm
    ·cases hm
    ·split at hm<;>cases hm)
  refine B9 λa2 ha2 GM=>?_;refine⟨λb ga hb y8 hc=>Cc y8 hE,(show AS _ _ _ _ _ _ _ from⟨v,g1,g2,g3,g4⟩:AS 52 55 w₀ w1.heap.size bo (xs.take k) X).ext hE,λFu vu Ru=>?_⟩;obtain⟨lt,abt,Rv,hlt,J1,r6,rfl⟩:=vu;have fq: (JZ.putObj lt Rv).heap[bH]?=some (.cells (bJ xs[k]).toArray 55):=Ce eE.at_ (λe=>by subst e;rw[eE.at_] at J1;cases J1;cases r6);generalize JZ.putObj lt Rv=Fu at Ru fq;clear g1 g2 g3 g4 hL hs1 jZ zS hs2 eE hE J1;obtain⟨v,g1,g2,g3,g4⟩:=Ru;have hL:=AS.lim g2 g3;have hA:w1.heap.size<=Fu.heap.size:=by have:=xP g2;omega
  have mQ:cz Fu (pT bo v) 2 bo (.cells [v].toArray 52):=⟨by unfold pT;rw[if_pos rfl],g2⟩
  refine Ou 1 ?_;refine Cf ha2 GM ?_;refine ue (λ_=>trivial) (by kernel_rfl:cq _ 0=some (some 8,.load 52 (.tmp 2),none)) (λc e=>by cases e) rfl (kG g2 (by kernel_rfl) rfl rfl) ?_;refine ue (λ_=>trivial) (by kernel_rfl:cq _ 1=some (some 9,.load 55 (.tmp 5),none)) (λc e=>by cases e) rfl (jC (n:=2) (vs:=bJ xs[k]) fq (by kernel_rfl) (by kernel_rfl) rfl rfl rfl) ?_;refine xM (λ_=>trivial) (by kernel_rfl:cq _ 2=some (some 10,.buildSlice 52 1 #[(0,.tmp 9)],none)) (λc e=>by cases e) rfl (gA (ys:=([xs[k]]:List av)) (e:=55) (bytes:=16) hL (by kernel_rfl) rfl (by decide) (by decide) ⟨rfl,⟨_,rfl,fN.2 rfl⟩,trivial⟩) ?_;rintro v10 abu ⟨hs4,g10,F7⟩;have kf: (xs.take k).length=k:=by rw[List.length_take];omega
  refine xM (λ_=>trivial) (by kernel_rfl:cq _ 3=some (some 11,.call {callee:=.builtin .append,args:=#[.tmp 8,.tmp 10],argTypes:=#[52,52]},none)) (λc e=>by cases e) rfl (gU (e:=55) (bytes:=16) F7 (by decide) rfl rfl (by kernel_rfl) (by decide) (g3.st hs4 (by decide) (by decide)) g10 (by simp only[List.length_cons,List.length_nil];omega) (by simp only[List.length_cons,List.length_nil];omega)) ?_;rintro v11 abv ⟨J2,hs5,g11,abw⟩;have Dr:=(mQ.st hs4 (by decide)).st hs5 (by decide);refine xM (λ_=>trivial) (by kernel_rfl:cq _ 4=some (none,.store 52 (.tmp 2) (.tmp 11),none)) (λc e=>by cases e) rfl (jh rfl rfl (by kernel_rfl) g11.one.1 g11.one.2 Dr (by simp)) ?_;rintro _ QT ⟨rfl,fQ,o5⟩;refine B9 λa3 L3 abx=>?_;have TF:aA [2,5] Fu (pT bo v) QT J2:=((hs4.mono (J:=[2,5]) (λc hc=>by cases hc)).trans (hs5.mono (J:=[2,5]) (λc hc=>by simp at hc⊢;omega)) (λc hc=>hc)).trans (fQ.mono (J:=[2,5]) (λc hc=>by simp at hc⊢;omega)) (λc hc=>hc);have Rw:=g11.st fQ (by decide) (by decide);rw[<-List.take_succ_eq_append_getElem hk] at Rw;obtain⟨r1,r2⟩:=AS.close (n0:=w1.heap.size) g1 g2 g3 g4 (by omega) (by omega) hA TF o5 Rw;exact⟨rfl,r1,r2⟩
 ·intro l qu J JY o4 hY hJ0;refine jy (px:=px) JY (λpre X hX=>?_) hY hJ0;obtain⟨v,g1,_⟩:=o4 _ _ hX;exact⟨⟨show 0<2 from by decide,Cc h1 g1⟩,hx.c0.st (I:=[]) (C:=iG) (aP:=iG) ⟨g1.mono (λ_ _ h=>h.elim),λ_ _=>rfl⟩ (by decide)⟩
 intro D W aby hI hK;obtain⟨v,g1,g2,g3,g4⟩:=hI;show(K.aH (K.aH yt.c0)).wpIn _ _ _ _ _ _;refine EH ?_;refine Cf (a:={a with defers:=_}) (D:={target:=.collected D,args:=#[]}::a.defers) ha rfl ?_;refine ue (λ_=>trivial) (by kernel_rfl:cq _ 0=some (some 12,.load 52 (.tmp 2),none)) (λc e=>by cases e) rfl (kG g2 (by kernel_rfl) rfl rfl) ?_;refine ue (λ_=>trivial) (by kernel_rfl:cq _ 1=some (some 4,.assign (.tmp 12),none)) (λc e=>by cases e) rfl (pn rfl) ?_;refine B9 λa4 aN RM=>?_;refine YD ?_;show LeavesInM _ _ _ _ _ _ _ _ _;rw[RM,hD];refine⟨by simp,.inl ⟨_,_,rfl,run_takeDeferred hK,?_⟩⟩;refine⟨_,results_tmp (t:=4) (by kernel_rfl) _ _ _,_,rfl,?_⟩;have hv:a4.tmps.getD 4 undef=v:=aN.ev (x:=.tmp 4) rfl;rw[hv];refine⟨λb=>if v.ownBlock=some b then j else C b,⟨?_,λb hb=>?_⟩,λb hb=>?_,?_⟩
 ·exact(Ov g1 (by omega)).mono (λ_ _ h=>h.elim)
 ·show(if v.ownBlock=some b then j else C b)=C b;rw[if_neg (λe=>by have:=g4 b e;omega)]
 ·show b<(W.putObj D _).heap.size;have hb: (if v.ownBlock=some b then j else C b)≠0:=hb;rw[World.putObj_size];split at hb
  · rename_i e;exact(g3.own.ga b e).2
  have:=hF b hb;have:=g1.size;omega
 refine g3.any (λb hb=>World.putObj_heap_other (λe=>?_)) (λb hb=>?_) hj
 ·subst e;obtain⟨cs,hcs⟩:=g3.cells hb;rw[hcs] at hK;cases hK
 show(if v.ownBlock=some b then j else C b)=j;rw[if_pos (show v.ownBlock=some b from hb)]
end
end Go.Proofs.YtmdhggfehknjjaaGreat
set_option linter.unusedVariables false
set_option linter.unusedSimpArgs false
set_option maxRecDepth 100000
set_option maxHeartbeats 4000000
namespace Go.Proofs.YtmdhggfehknjjaaGreat
open Go.K Go.K.aY
noncomputable section
theorem zG {I:List Nat} {w w':World} {C aP:Nat->Nat} {b:Nat} {ga:Obj} (hT:aA I w (bz C) w' aP) (hF:aL w C) (hb:cz w' aP 3 b ga):jv w' C b ga:=by
 refine⟨?_,hb.at_⟩;by_cases h:C b=0
 ·omega
 have h1:=hT.col b (hF b h);have h2:=iY C (show 1<3 by decide) b;rw[hb.col] at h1;omega
namespace Rx
def c0:=bZ Tryz.f140
end Rx
theorem QK {w₀:World} {C:Nat->Nat} {xs:List av} {px:Value} (hF:aL w₀ C) (hx:aB w₀ (ax C) xs px):Calls Tryz.prog 140 #[px] w₀ (bI λv w'=>∃b1,v=.func (.func 193) #[] #[.pointer (some ⟨b1,0,none⟩)]/\aA [] w₀ C w' C/\jv w' C b1 (.cells [px].toArray 52)):=by
 have bF:=hF;have hT:=z9 w₀ C;replace hF:=hF.bz;replace hx:=hx.c1;refine bW Rx.c0 4 [px] Tryz.func140 ?_;show Run _ _ _ _ [(0,px)] _ _;refine aj (aq [nn 0,af 1] ?_);refine bG (au 1 (.box 52 (.tmp 0))) rfl rfl (dO (cs:=[px]) hF 3 rfl (hx.one rfl).1) ?_;rintro _ w1 ⟨dF,ck,rfl,s_1,hb,hF⟩;refine ay (au 2 (.assign (.const .nilFunc))) (λ_=>pn rfl) ?_;refine ak.nil (aj (aq [af 0,af 1] ?_));refine ay (au 3 (.makeFunc (.func 193) #[] #[(.tmp 1)])) (λ_=>wU rfl rfl) ?_;refine aD 2 3 (ak.nil ?_);refine bR Tryz.func140 Tryz.results140 ?_;replace hT:=hT.t s_1;exact⟨_,rfl,hT.cm (by decide),zG hT bF hb⟩
namespace Ry
def c0:=bZ Tryz.f192
end Ry
theorem oN {w₀:World} {C:Nat->Nat} {xs:List av} {px:Value} {b1:Nat} (hF:aL w₀ C) (h1:w₀.heap[b1]?=some (.cells [px].toArray 52)) (hx:aB w₀ (ax C) xs px) (hlen:xs.length<=100000) (j:Nat) (hj:j≠0):Calls Tryz.prog 192 #[.func (.func 193) #[] #[.pointer (some ⟨b1,0,none⟩)]] w₀ (bI λv w'=>∃aP,aA [] w₀ C w' aP/\aL w' aP/\aX w' aP j 55 v xs):=by
 refine bW Ry.c0 5 [.func (.func 193) #[] #[.pointer (some ⟨b1,0,none⟩)]] Tryz.func192 ?_;show Run _ _ _ _ [(0,.func (.func 193) #[] #[.pointer (some ⟨b1,0,none⟩)])] _ _;refine aj (aq [af 0] ?_);refine aZ 2 (.slice none 0 0) (ak.nil (aj (aq [af 0,nn 1,af 2] ?_)));refine ah 3 0 ?_;refine dU (au 4 (.call {callee:=.value (.func 221),args:=#[(.const (.slice none 0 0)),(.tmp 3)],argTypes:=#[52,193]})) rfl rfl (dy Tryz.call221 rfl) (GI hF h1 hx hlen j hj) ?_;rintro v4 w1 ⟨vW,s_1,um,ho⟩;refine aD 2 4 (ak.nil ?_);refine bR Tryz.func192 Tryz.results192 ?_;exact⟨vW,s_1,um,ho⟩
namespace Rz
def c0:=bZ Tryz.f139
end Rz
theorem W1 {w₀:World} {C:Nat->Nat} {xs:List av} {px:Value} {b1:Nat} (hF:aL w₀ C) (h1:w₀.heap[b1]?=some (.cells [px].toArray 52)) (hx:aB w₀ (ax C) xs px) (hlen:xs.length<=100000):Calls Tryz.prog 139 #[.func (.func 193) #[] #[.pointer (some ⟨b1,0,none⟩)],.func (.func 53) #[] #[]] w₀ (bI λv w'=>aA [] w₀ C w' C/\aB w' (ax C) (j4 xs) v):=by
 have bF:=hF;have hT:=z9 w₀ C;replace hF:=hF.bz;replace hx:=hx.c1;replace h1:=jv.of h1 C;refine bW Rz.c0 12 [.func (.func 193) #[] #[.pointer (some ⟨b1,0,none⟩)],.func (.func 53) #[] #[]] Tryz.func139 ?_;show Run _ _ _ _ [(0,.func (.func 193) #[] #[.pointer (some ⟨b1,0,none⟩)]),(1,.func (.func 53) #[] #[])] _ _;refine aj (aq [af 0] ?_);refine aZ 4 (.slice none 0 0) (ak.nil (aj (aq [af 0,nn 1,af 2] ?_)));refine ah 6 0 ?_;refine bV 7 192 [6] [193] Tryz.call192 rfl (oN hF h1.at_ hx hlen 3 (by decide)) ?_;rintro tZ w1 ⟨abz,s_1,hF,ho⟩;refine aD 5 7 (ak.nil (aj (aq [af 0,af 1,nn 2] ?_)));refine ah 8 5 (ah 9 1 ?_);refine bV 10 185 [8,9] [52,107] Tryz.call185 rfl (O_ hF ho (by omega)) ?_;rintro gC w2 ⟨rfl,s_2,ho,_⟩;refine ak.nil (aj (aq [af 0,af 1] ?_));refine ah 11 5 (aD 4 11 (ak.nil ?_));refine bR Tryz.func139 Tryz.results139 ?_;replace hT:=(hT.t s_1).t s_2;exact⟨hT.cm (by decide),ho.out hT bF (ez C) (λb _=>iY C (by decide) b) (by rw[(u7 _).length_eq];omega)⟩
end
end Go.Proofs.YtmdhggfehknjjaaGreat
set_option linter.unusedVariables false
set_option linter.unusedSimpArgs false
set_option maxRecDepth 100000
set_option maxHeartbeats 4000000
namespace Go.Proofs.YtmdhggfehknjjaaGreat
open Go.K Go.K.aY
noncomputable section
namespace RB
def c0:=bZ Tryz.f191
end RB
theorem RC {w₀:World} {C:Nat->Nat} {k:Nat} (hF:aL w₀ C) (hk:k<=1000000) (j:Nat) (hj:j≠0):Calls Tryz.prog 191 #[.slice none 0 0,.int .i64 k] w₀ (bI λv w'=>∃aP,aA [] w₀ C w' aP/\aL w' aP/\aX w' aP j 55 v ([]:List av)):=by
 have bF:=hF;have hT:=z9 w₀ C;replace hF:=hF.bz;refine bW RB.c0 27 [.slice none 0 0,.int .i64 k] Tryz.func191 ?_;show Run _ _ _ _ [(0,.slice none 0 0),(1,.int .i64 k)] _ _;refine aj (aq [af 0] ?_);refine aZ 4 (.slice none 0 0) (ak.nil (aj (aj (aq [af 0,af 1] ?_))));refine ah 5 1 ?_;refine ay (au 6 (.binOp .lss 3 (.tmp 5) (.const (.int .i64 0)) 3)) (λ_=>fS rfl rfl) ?_;refine ak.nil ?_;refine bQ 6 rfl (λh6=>?_) (λh6=>?_)
 ·
  omega
 refine bq (aj (aj (aq [af 0,af 1,nn 2,af 3,af 4,af 5,af 6,af 7] ?_)));refine ah 8 1 (ah 9 0 ?_);refine iN (au 10 (.call {callee:=.builtin .cap,args:=#[(.tmp 9)],argTypes:=#[52]})) rfl rfl trivial (Nl rfl Tryz.underlying52) ?_;refine ah 11 0 ?_;refine ay (au 12 (.call {callee:=.builtin .len,args:=#[(.tmp 11)],argTypes:=#[52]})) (λ_=>wP rfl Tryz.underlying52) ?_;refine ay (au 13 (.binOp .sub 3 (.tmp 10) (.tmp 12) 3)) (λ_=>eM rfl rfl (by omega) (by omega)) ?_;refine ay (au 14 (.binOp .sub 3 (.tmp 8) (.tmp 13) 3)) (λ_=>eM rfl rfl (by omega) (by omega)) ?_;rw[show(k:Int)-(((0:Nat):Int)-((0:Nat):Int))=(k:Int) from by simp];refine aD 1 14 (ak.nil (aj (aq [af 0,af 1] ?_)));refine ah 15 1 ?_;refine ay (au 16 (.binOp .gtr 3 (.tmp 15) (.const (.int .i64 0)) 3)) (λ_=>gl rfl rfl) ?_;refine ak.nil ?_;refine bQ 16 rfl (λjx=>?_) (λjx=>?_)
 ·
  have jO:0<k:=by omega
  refine aq [af 0,af 1,nn 2,af 3,af 4,nn 5,af 6,af 7,af 8,af 9] ?_;refine ah 17 0 (ah 18 0 ?_);refine iN (au 19 (.call {callee:=.builtin .cap,args:=#[(.tmp 18)],argTypes:=#[52]})) rfl rfl trivial (Nl rfl Tryz.underlying52) ?_;refine ay (au 20 (.slice 52 (.tmp 17) none (some (.tmp 19)) none)) (λ_=>Xb rfl rfl Tryz.underlying52 (by kernel_rfl)) ?_;refine ah 21 1 ?_;refine bG (au 22 (.call {callee:=.builtin .append,args:=#[(.tmp 20),(.tmp 21)],argTypes:=#[52,3]})) rfl rfl (W9 (α:=av) (e:=55) (bytes:=16) (n:=k) (j:=3) hF (by decide) rfl rfl (by kernel_rfl) (by decide) (by decide) Tryz.underlying3 jO (by omega)) ?_;rintro _ w1 ⟨dF,abA,gc,rfl,s_1,hz,hF⟩;refine ah 23 0 ?_;refine ay (au 24 (.call {callee:=.builtin .len,args:=#[(.tmp 23)],argTypes:=#[52]})) (λ_=>wP rfl Tryz.underlying52) ?_;refine ay (au 25 (.slice 52 (.tmp 22) none (some (.tmp 24)) none)) (λ_=>Xc rfl rfl Tryz.underlying52 (by kernel_rfl)) ?_;refine aD 0 25 (ak.nil (aj (aq [af 0,af 1] ?_)));refine ah 26 0 (aD 4 26 (ak.nil ?_));refine bR Tryz.func191 Tryz.results191 ?_;replace hT:=hT.t s_1;obtain⟨q_,r8,hFg,Ai,uF⟩:=hz.nL hT bF (ez C) (λb _=>iY C (by decide) b) (by decide) j hj;exact⟨q_,(hT.cm (by decide)).nL r8,hFg,uF⟩
 refine bq (aj (aq [af 0,af 1] ?_));refine ah 26 0 (aD 4 26 (ak.nil ?_));refine bR Tryz.func191 Tryz.results191 ?_;exact⟨C,hT.cm (by decide),bF.st (hT.cm (by decide)),aX.nil⟩
namespace J3
def c0:=bZ Tryz.f138
end J3
theorem abB {w₀:World} {C:Nat->Nat} {ll:List (List av)} {cR:Value} (hF:aL w₀ C) (hl:aB w₀ (ax C) ll cR) (hlen:ll.flatten.length<=100000) (j:Nat) (hj:j≠0):Calls Tryz.prog 138 #[cR] w₀ (bI λv w'=>∃aP,aA [] w₀ C w' aP/\aL w' aP/\aX w' aP j 55 v ll.flatten):=by
 have bF:=hF;have hT:=z9 w₀ C;replace hF:=hF.bz;replace hl:=hl.c1;refine bW J3.c0 36 [cR] Tryz.func138 ?_;show Run _ _ _ _ [(0,cR)] _ _;refine aj (aq [af 0] ?_);refine aZ 2 (.slice none 0 0) (ak.nil (aj (aq [af 0] ?_)));refine aZ 3 (.int .i64 0) (ak.nil (aj (aj (aq [af 0,af 1,af 2] ?_))));refine ah 9 0 ?_;refine zE 10 9 24 (hl.bU rfl Tryz.underlying24) ?_;refine ef 11 (.int .i64 0) ?_;refine ak.nil (bD 0 ?_);refine cM (ι:=Nat×(Nat->Nat)) (I:=λx w=>x.1<=ll.length/\aL w x.2/\aA [2,3,4,5,6,7,8,9] w₀ (bz C) w x.2/\aB w (ax x.2) ll cR) (e:=λx=>[(0,cR),(3,.int .i64 ((ll.take x.1).flatten.length:Nat)),(9,cR),(10,.int .i64 ll.length),(11,.int .i64 x.1)]) (m:=λx=>ll.length-x.1) (cE:=(0,bz C)) (ai 0 (ai 3 (ai 9 (ai 10 (ai 11 (aV _)))))) ?_ ?_
 · exact⟨Nat.zero_le _,hF,hT,hl⟩
 intro⟨i,bu⟩ w1 hI bP;obtain⟨hi,hF,hT,hl⟩:=hI;try simp only at hi hF hT hl
 show Run _ _ _ _ [(0,cR),(3,.int .i64 ((ll.take i).flatten.length:Nat)),(9,cR),(10,.int .i64 ll.length),(11,.int .i64 i)] _ _;have hle:=hl.le;have hfl:=vO (ll:=ll) i;refine aj (aq [af 0] ?_);refine de 12 3 11 10 (ak.nil (aj ?_));refine bQ 12 rfl (λh12=>?_) (λh12=>?_)
 ·
  have hil:i<ll.length:=by omega
  have hft:=congrArg List.length (Et hil);rw[List.length_append] at hft;have J4:=vO (ll:=ll) (i+1);refine bq (aj (bD 1 (aj (aq [af 0,nn 1,af 2] ?_))));refine dw 52 13 24 9 11 hl rfl (h:=?_);intro zC zD fV;try simp only[aQ] at fV
  refine iy (au 14 (.load 52 (.tmp 13))) rfl rfl trivial fV (by kernel_rfl) rfl rfl ?_;intro vS g14;refine aD 5 14 (ak.nil (aj (aq [af 0,af 1,af 2,af 3,af 4] ?_)));refine ah 15 3 (ah 16 5 ?_);refine zE 17 16 52 (g14.bU rfl Tryz.underlying52) ?_;refine ay (au 18 (.binOp .add 3 (.tmp 15) (.tmp 17) 3)) (λ_=>gZ rfl rfl (by omega) (by omega)) ?_;refine aD 3 18 (ak.nil (aj (aq [af 0,af 1] ?_)));refine ah 19 3 ?_;refine ay (au 20 (.binOp .lss 3 (.tmp 19) (.const (.int .i64 0)) 3)) (λ_=>fS rfl rfl) ?_;refine ak.nil ?_;refine bQ 20 rfl (λqZ=>?_) (λqZ=>?_)
  ·
   omega
  refine bq (bO (aq [af 0,af 1] ?_));refine b7 22 3 11 1 (ah 11 22 (ak.nil ?_));refine kp (ai 0 (aJ 3 rfl (eq_int (by simp only;omega)) (ai 9 (ai 10 (aJ 11 rfl (eq_int (by simp)) (aV _)))))) (bP (i+1,bu) _ ⟨(by first|omega|(simp only;omega)),hF,hT,hl⟩ (by first|omega|(simp only;omega)))
 have hil:i=ll.length:=by omega
 refine cB 0 ?_;refine aj (aq [af 0,nn 1,af 2] ?_);refine ah 23 3 ?_;refine dU (au 24 (.call {callee:=.value (.func 191),args:=#[(.const (.slice none 0 0)),(.tmp 23)],argTypes:=#[52,3]})) rfl rfl (dy Tryz.call191 rfl) (RC hF (by omega) 3 (by decide)) ?_;rintro Dc w2 ⟨J5,s_1,hF,ho⟩;refine aD 6 24 (ak.nil (aj (aj (aq [af 0,af 1,af 2] ?_))));refine ah 25 0 ?_;replace hl:=hl.t s_1;refine zE 26 25 24 (hl.bU rfl Tryz.underlying24) ?_;refine ef 27 (.int .i64 0) ?_;refine ak.nil (bD 2 ?_);refine cM (ι:=Nat×Value×(Nat->Nat)) (I:=λx w=>x.1<=ll.length/\aL w x.2.2/\aA [2,3,4,5,6,7,8,9] w₀ (bz C) w x.2.2/\aB w (ax x.2.2) ll cR/\aX w x.2.2 3 55 x.2.1 ((ll.take x.1).flatten)) (e:=λx=>[(6,x.2.1),(25,cR),(26,.int .i64 ll.length),(27,.int .i64 x.1)]) (m:=λx=>ll.length-x.1) (cE:=(0,Dc,J5)) (ai 6 (ai 25 (ai 26 (ai 27 (aV _))))) ?_ ?_
 ·
   replace hT:=hT.t s_1;exact⟨Nat.zero_le _,hF,hT,hl,ho⟩
 intro⟨k,ek,ey⟩ w3 hI eX;obtain⟨hk,hF,hT,hl,ho⟩:=hI;try simp only at hk hF hT hl ho
 show Run _ _ _ _ [(6,ek),(25,cR),(26,.int .i64 ll.length),(27,.int .i64 k)] _ _;have hle:=hl.le;have hfl:=vO (ll:=ll) k;refine aj (aq [af 0] ?_);refine de 28 3 27 26 (ak.nil (aj ?_));refine bQ 28 rfl (λk9=>?_) (λk9=>?_)
 ·
  have aC:k<ll.length:=by omega
  have hft:=Et aC;have J6:=congrArg List.length hft;rw[List.length_append] at J6;have J4:=vO (ll:=ll) (k+1);refine bq (aj (bD 3 (aj (aq [af 0,nn 1,af 2] ?_))));refine dw 52 29 24 25 27 hl rfl (h:=?_);intro Ap Aq kO;try simp only[aQ] at kO
  refine iy (au 30 (.load 52 (.tmp 29))) rfl rfl trivial kO (by kernel_rfl) rfl rfl ?_;intro v30 fm;refine aD 8 30 (ak.nil (aq [af 0,af 1,nn 2,af 3] ?_));refine ah 31 6 (ah 32 8 ?_);refine bG (au 33 (.call {callee:=.builtin .append,args:=#[(.tmp 31),(.tmp 32)],argTypes:=#[52,52]})) rfl rfl (gU (e:=55) (bytes:=16) hF (by decide) rfl rfl (by kernel_rfl) (by decide) ho fm (by omega) (by omega)) ?_;rintro v33 w4 ⟨fK,s_2,ho,hF⟩;refine aD 6 33 (ak.nil (bO (aq [af 0,af 1] ?_)));refine b7 34 3 27 1 (ah 27 34 (ak.nil ?_));replace hT:=hT.t s_2;replace hl:=hl.t s_2;refine kp (ai 6 (ai 25 (ai 26 (aJ 27 rfl (eq_int (by simp)) (aV _))))) (eX (k+1,v33,fK) _ ⟨(by first|omega|(simp only;omega)),hF,hT,hl,(by simp only;rw[hft];exact ho)⟩ (by first|omega|(simp only;omega)))
 have aC:k=ll.length:=by omega
 rw[aC,List.take_length] at ho;refine cB 2 ?_;refine aj (aq [af 0,af 1] ?_);refine ah 35 6 (aD 2 35 (ak.nil ?_));refine bR Tryz.func138 Tryz.results138 ?_;obtain⟨q_,r8,hFg,Ai,uF⟩:=ho.nL hT bF (ez C) (λb _=>iY C (by decide) b) (by decide) j hj;exact⟨q_,(hT.cm (by decide)).nL r8,hFg,uF⟩
theorem Tr {w₀:World} {C:Nat->Nat} {ll:List (List av)} {cR:Value} (hF:aL w₀ C) (hl:aB w₀ (ax C) ll cR) (hlen:ll.flatten.length<=100000):Calls Tryz.prog 138 #[cR] w₀ (bI λv w'=>aA [] w₀ C w' C/\aB w' (ax C) ll.flatten v):=by
 have bF:=hF;have hT:=z9 w₀ C;replace hF:=hF.bz;replace hl:=hl.c1;refine bW J3.c0 36 [cR] Tryz.func138 ?_;show Run _ _ _ _ [(0,cR)] _ _;refine aj (aq [af 0] ?_);refine aZ 2 (.slice none 0 0) (ak.nil (aj (aq [af 0] ?_)));refine aZ 3 (.int .i64 0) (ak.nil (aj (aj (aq [af 0,af 1,af 2] ?_))));refine ah 9 0 ?_;refine zE 10 9 24 (hl.bU rfl Tryz.underlying24) ?_;refine ef 11 (.int .i64 0) ?_;refine ak.nil (bD 0 ?_);refine cM (ι:=Nat×(Nat->Nat)) (I:=λx w=>x.1<=ll.length/\aL w x.2/\aA [2,3,4,5,6,7,8,9] w₀ (bz C) w x.2/\aB w (ax x.2) ll cR) (e:=λx=>[(0,cR),(3,.int .i64 ((ll.take x.1).flatten.length:Nat)),(9,cR),(10,.int .i64 ll.length),(11,.int .i64 x.1)]) (m:=λx=>ll.length-x.1) (cE:=(0,bz C)) (ai 0 (ai 3 (ai 9 (ai 10 (ai 11 (aV _)))))) ?_ ?_
 · exact⟨Nat.zero_le _,hF,hT,hl⟩
 intro⟨i,bu⟩ w1 hI bP;obtain⟨hi,hF,hT,hl⟩:=hI;try simp only at hi hF hT hl
 show Run _ _ _ _ [(0,cR),(3,.int .i64 ((ll.take i).flatten.length:Nat)),(9,cR),(10,.int .i64 ll.length),(11,.int .i64 i)] _ _;have hle:=hl.le;have hfl:=vO (ll:=ll) i;refine aj (aq [af 0] ?_);refine de 12 3 11 10 (ak.nil (aj ?_));refine bQ 12 rfl (λh12=>?_) (λh12=>?_)
 ·
  have hil:i<ll.length:=by omega
  have hft:=congrArg List.length (Et hil);rw[List.length_append] at hft;have J4:=vO (ll:=ll) (i+1);refine bq (aj (bD 1 (aj (aq [af 0,nn 1,af 2] ?_))));refine dw 52 13 24 9 11 hl rfl (h:=?_);intro zC zD fV;try simp only[aQ] at fV
  refine iy (au 14 (.load 52 (.tmp 13))) rfl rfl trivial fV (by kernel_rfl) rfl rfl ?_;intro vS g14;refine aD 5 14 (ak.nil (aj (aq [af 0,af 1,af 2,af 3,af 4] ?_)));refine ah 15 3 (ah 16 5 ?_);refine zE 17 16 52 (g14.bU rfl Tryz.underlying52) ?_;refine ay (au 18 (.binOp .add 3 (.tmp 15) (.tmp 17) 3)) (λ_=>gZ rfl rfl (by omega) (by omega)) ?_;refine aD 3 18 (ak.nil (aj (aq [af 0,af 1] ?_)));refine ah 19 3 ?_;refine ay (au 20 (.binOp .lss 3 (.tmp 19) (.const (.int .i64 0)) 3)) (λ_=>fS rfl rfl) ?_;refine ak.nil ?_;refine bQ 20 rfl (λqZ=>?_) (λqZ=>?_)
  ·
   omega
  refine bq (bO (aq [af 0,af 1] ?_));refine b7 22 3 11 1 (ah 11 22 (ak.nil ?_));refine kp (ai 0 (aJ 3 rfl (eq_int (by simp only;omega)) (ai 9 (ai 10 (aJ 11 rfl (eq_int (by simp)) (aV _)))))) (bP (i+1,bu) _ ⟨(by first|omega|(simp only;omega)),hF,hT,hl⟩ (by first|omega|(simp only;omega)))
 have hil:i=ll.length:=by omega
 refine cB 0 ?_;refine aj (aq [af 0,nn 1,af 2] ?_);refine ah 23 3 ?_;refine dU (au 24 (.call {callee:=.value (.func 191),args:=#[(.const (.slice none 0 0)),(.tmp 23)],argTypes:=#[52,3]})) rfl rfl (dy Tryz.call191 rfl) (RC hF (by omega) 3 (by decide)) ?_;rintro Dc w2 ⟨J5,s_1,hF,ho⟩;refine aD 6 24 (ak.nil (aj (aj (aq [af 0,af 1,af 2] ?_))));refine ah 25 0 ?_;replace hl:=hl.t s_1;refine zE 26 25 24 (hl.bU rfl Tryz.underlying24) ?_;refine ef 27 (.int .i64 0) ?_;refine ak.nil (bD 2 ?_);refine cM (ι:=Nat×Value×(Nat->Nat)) (I:=λx w=>x.1<=ll.length/\aL w x.2.2/\aA [2,3,4,5,6,7,8,9] w₀ (bz C) w x.2.2/\aB w (ax x.2.2) ll cR/\aX w x.2.2 3 55 x.2.1 ((ll.take x.1).flatten)) (e:=λx=>[(6,x.2.1),(25,cR),(26,.int .i64 ll.length),(27,.int .i64 x.1)]) (m:=λx=>ll.length-x.1) (cE:=(0,Dc,J5)) (ai 6 (ai 25 (ai 26 (ai 27 (aV _))))) ?_ ?_
 ·
   replace hT:=hT.t s_1;exact⟨Nat.zero_le _,hF,hT,hl,ho⟩
 intro⟨k,ek,ey⟩ w3 hI eX;obtain⟨hk,hF,hT,hl,ho⟩:=hI;try simp only at hk hF hT hl ho
 show Run _ _ _ _ [(6,ek),(25,cR),(26,.int .i64 ll.length),(27,.int .i64 k)] _ _;have hle:=hl.le;have hfl:=vO (ll:=ll) k;refine aj (aq [af 0] ?_);refine de 28 3 27 26 (ak.nil (aj ?_));refine bQ 28 rfl (λk9=>?_) (λk9=>?_)
 ·
  have aC:k<ll.length:=by omega
  have hft:=Et aC;have J6:=congrArg List.length hft;rw[List.length_append] at J6;have J4:=vO (ll:=ll) (k+1);refine bq (aj (bD 3 (aj (aq [af 0,nn 1,af 2] ?_))));refine dw 52 29 24 25 27 hl rfl (h:=?_);intro Ap Aq kO;try simp only[aQ] at kO
  refine iy (au 30 (.load 52 (.tmp 29))) rfl rfl trivial kO (by kernel_rfl) rfl rfl ?_;intro v30 fm;refine aD 8 30 (ak.nil (aq [af 0,af 1,nn 2,af 3] ?_));refine ah 31 6 (ah 32 8 ?_);refine bG (au 33 (.call {callee:=.builtin .append,args:=#[(.tmp 31),(.tmp 32)],argTypes:=#[52,52]})) rfl rfl (gU (e:=55) (bytes:=16) hF (by decide) rfl rfl (by kernel_rfl) (by decide) ho fm (by omega) (by omega)) ?_;rintro v33 w4 ⟨fK,s_2,ho,hF⟩;refine aD 6 33 (ak.nil (bO (aq [af 0,af 1] ?_)));refine b7 34 3 27 1 (ah 27 34 (ak.nil ?_));replace hT:=hT.t s_2;replace hl:=hl.t s_2;refine kp (ai 6 (ai 25 (ai 26 (aJ 27 rfl (eq_int (by simp)) (aV _))))) (eX (k+1,v33,fK) _ ⟨(by first|omega|(simp only;omega)),hF,hT,hl,(by simp only;rw[hft];exact ho)⟩ (by first|omega|(simp only;omega)))
 have aC:k=ll.length:=by omega
 rw[aC,List.take_length] at ho;refine cB 2 ?_;refine aj (aq [af 0,af 1] ?_);refine ah 35 6 (aD 2 35 (ak.nil ?_));refine bR Tryz.func138 Tryz.results138 ?_;exact⟨hT.cm (by decide),ho.out hT bF (ez C) (λb _=>iY C (by decide) b) (by omega)⟩
end
end Go.Proofs.YtmdhggfehknjjaaGreat
