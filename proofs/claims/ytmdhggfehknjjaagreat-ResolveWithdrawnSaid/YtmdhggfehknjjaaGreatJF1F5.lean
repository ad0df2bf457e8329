/- Steps through functions of the program. -/
import Derived.Test.YtmdhggfehknjjaaGreatJE7E9
import Derived.Test.YtmdhggfehknjjaaGreatJC1C3
import Derived.Test.YtmdhggfehknjjaaGreatL2
import Derived.Test.YtmdhggfehknjjaaGreatJC7D4
set_option linter.unusedVariables false
set_option linter.unusedSimpArgs false
set_option maxRecDepth 100000
set_option maxHeartbeats 4000000
namespace Go.Proofs.YtmdhggfehknjjaaGreat
open Go.K Go.K.bu
noncomputable section
namespace Sr
def c0:=bZ Tryz.f77
end Sr
theorem p5 {w₀:World} {C:Nat->Nat} {l:List a_} {aG:Value} (hF:aL w₀ C) (hl:aB w₀ (aA C) l aG) (hlen:l.length<=100000):Calls Tryz.prog 77 #[aG] w₀ (bI λv w'=>v=.bool (decide (((aO l).length:Int)<=8))/\ay [] w₀ C w' C):=by
 have bH:=hF;have hT:=z9 w₀ C;replace hF:=hF.bq;replace hl:=hl.c1;refine bT Sr.c0 7 [aG] Tryz.func77 ?_;show Run _ _ _ _ [(0,aG)] _ _;refine ai (aq [af 0] ?_);refine aX 2 (.bool false) (aj.nil (ai (aq [af 0,nn 1,af 2,af 3,af 4] ?_)));refine ah 3 0 ?_;refine bU 4 130 [3] [23] Tryz.call130 rfl (Ap hF hl (by omega)) ?_;rintro kH w1 ⟨s_1,hrf⟩;refine zE 5 4 52 (hrf.bS rfl Tryz.underlying52) ?_;refine ax (au 6 (.binOp .leq 3 (.tmp 5) (.const (.int .i64 8)) 3)) (λ_=>nA rfl rfl) ?_;refine aC 2 6 (aj.nil ?_);refine bP Tryz.func77 Tryz.results77 ?_;replace hT:=hT.t s_1;exact⟨rfl,hT.bW (by decide)⟩
namespace Kl
def c0:=bZ Tryz.f78
def o1:=dF (cl (aH c0))
end Kl
theorem A1 {w₀:World} {C:Nat->Nat} {l:List a_} {ds:List cI} {bO cC aG:Value} (hF:aL w₀ C) (hl:aB w₀ (aA C) l aG) (hap:fP w₀ (aA C) ds cC) (hrl: (aO l).length<=1000) (hw:∀x∈l,1<=x.w/\x.w<=1048576) (mL:l.length<=4096):Calls Tryz.prog 78 #[.agg #[bO,cC],aG] w₀ (bI λv w'=>ay [] w₀ C w' C/\aB w' (aA C) (ov l ds) v):=by
 have bH:=hF;have hT:=z9 w₀ C;replace hF:=hF.bq;replace hl:=hl.c1;replace hap:fP w₀ (aA (bq C)) ds cC:=by rw[ez];exact hap
 refine bT Kl.c0 20 [.agg #[bO,cC],aG] Tryz.func78 ?_;show Run _ _ _ _ [(0,.agg #[bO,cC]),(1,aG)] _ _;refine ai (aq [nn 0,af 1] ?_);refine bG (au 2 (.box 129 (.tmp 0))) rfl rfl (dI (cs:=[bO,cC]) hF 4 rfl rfl) ?_;rintro _ w1 ⟨dy,bY,rfl,s_1,hx0,hF⟩;refine aX 4 (.slice none 0 0) (aj.nil (ai ?_));refine dm (id:=1) (ops:=Kl.o1) [] (dy) [af 0,af 1,af 2,af 3,af 4,nn 5,af 6,nn 7,af 8] cM (by kernel_rfl) (by kernel_rfl) (by kernel_rfl) ?_;intro w2 s_2;have hR:=ay.refl [] w2 (dy);refine ah 6 1 (bp 7 129 2 1 1 ?_);replace hx0:=hx0.t s_2;refine eB 8 127 7 (hx0.bF ·) ?_;replace hl:=(hl.t s_1).t s_2;replace hap:=(hap.t s_1).t s_2;refine ax (au 9 (.build 129 #[(0,(.tmp 6)),(1,(.tmp 8))])) (λ_=>hU (zs:=[.slice none 0 0,.map none]) (ps:=[(0,1),(1,1)]) (en:=[(0,[aG]),(1,[cC])]) (cs:=[aG,cC]) (by kernel_rfl) (by kernel_rfl) (by exact⟨rfl,⟨_,rfl,(hl.one rfl).1⟩,rfl,⟨_,rfl,hap.one.1⟩,trivial⟩) rfl) ?_;refine ah 10 1 ?_;replace hF:=hF.st s_2;refine fJ 11 130 [10] [23] Tryz.call130 rfl (Ap hF hl (by omega)) ?_;rintro kH w3 ⟨aD,hrf⟩;refine⟨(hR.trans aD (by simp)).ext,?_⟩;refine ax (au 12 (.build 184 #[(0,(.tmp 9)),(1,(.tmp 11))])) (λ_=>hU (zs:=[.slice none 0 0,.map none,.slice none 0 0,.slice none 0 0,.bool false,.slice none 0 0,.int .i64 0]) (ps:=[(0,2),(2,1),(3,1),(4,1),(5,1),(6,1)]) (en:=[(0,[aG,cC]),(1,[kH])]) (cs:=[aG,cC,kH,.slice none 0 0,.bool false,.slice none 0 0,.int .i64 0]) (by kernel_rfl) (by kernel_rfl) (by exact⟨rfl,⟨_,rfl,rfl⟩,rfl,⟨_,rfl,(hrf.one rfl).1⟩,trivial⟩) rfl) ?_;replace hF:=hF.st aD;refine fU (au 13 (.box 184 (.tmp 12))) rfl rfl (dI (cs:=[aG,cC,kH,.slice none 0 0,.bool false,.slice none 0 0,.int .i64 0]) hF 3 rfl rfl) ?_;rintro _ w4 ⟨gq,mK,rfl,aK,hx,hF⟩;replace hR:=hR.t aD;refine⟨(hR.trans aK (by simp)).ext,?_⟩;refine aC 5 13 (aj.nil (ai (aq [af 0,nn 1] ?_)));refine ah 14 5 ?_;replace hl:=(hl.t aD).t aK;replace hap:=(hap.t aD).t aK;replace hrf:=hrf.t aK
 refine dN (au 15 (.call {callee:=.value (.func 131),args:=#[(.tmp 14),(.const (.int .i64 0))],argTypes:=#[182,3]})) rfl rfl (de Tryz.call131 rfl) (vn (b:=mK) (vw l) hrl hw mL (aO l).length 0 _ gq [] xO (by simp) kG.nil hF hl hrf hap ⟨_,[],_,hx,bh.nil,fW.nil,jX⟩) ?_;rintro _ dZ ⟨oA,rfl,aJ,hF,hS⟩;clear hx hx0;obtain⟨vs,us,lV,hx,_,_,fA⟩:=hS;refine aj.nil (ai (aq [af 0,af 1,af 2,nn 3,af 4] ?_));refine ah 16 5 (gn 17 16 (bp 18 184 17 4 5 ?_));refine cH 19 24 18 hx.at_ rfl rfl ?_;refine aC 4 19 (aj.nil ?_);refine bP Tryz.func78 Tryz.results78 ?_;replace hT:=((((hT.t s_1).t s_2).t aD).t aK).t aJ;exact⟨hT.bW (by decide),fA.out hT bH (ez C)⟩
end
end Go.Proofs.YtmdhggfehknjjaaGreat
set_option linter.unusedVariables false
set_option linter.unusedSimpArgs false
set_option maxRecDepth 100000
set_option maxHeartbeats 4000000
namespace Go.Proofs.YtmdhggfehknjjaaGreat
open Go.K Go.K.bu
noncomputable section
namespace Ss
def c0:=bZ Tryz.f193
end Ss
theorem o3 {xs:List av} {px:Value} {b1 l:Nat} {J:List av->World->Prop} {w₀:World} (Km:∀pre A B,J pre A->Ext No A B->J pre B)
    (hr:∀pre A,J pre A->jr A iA b1 (.cells [px].toArray 52)/\aB A (aA iA) xs px)
    (hY:∀k (hk:k<xs.length) A,J (xs.take k) A->YieldAt Fence.wide 0 Tryz.prog l #[cW xs[k]] A (λe W'=>e=.returned (.bool true)/\J (xs.take (k+1)) W')) (h0:J [] w₀):Calls Tryz.prog 193 #[.func (.yield l) #[] #[],.pointer (some ⟨b1,0,none⟩)] w₀ (bI λ_ w'=>J xs w'):=by
 obtain⟨h1,hp⟩:=hr _ _ h0;have hF:aL w₀ iA:=mZ _;refine bT Ss.c0 16 [.func (.yield l) #[] #[],.pointer (some ⟨b1,0,none⟩)] Tryz.func193 ?_;show Run _ _ _ _ [(0,.func (.yield l) #[] #[]),(1,.pointer (some ⟨b1,0,none⟩))] _ _;refine ai (aq [nn 0,af 1,af 2] ?_);refine cH 5 52 1 h1.at_ rfl rfl ?_;refine zE 6 5 52 (hp.bS rfl Tryz.underlying52) ?_;refine eE 7 (.int .i64 0) ?_;refine aj.nil (bD 0 ?_);refine cK (ι:=Nat) (I:=λx w=>x<=xs.length/\J (xs.take x) w) (e:=λx=>[(0,.func (.yield l) #[] #[]),(1,.pointer (some ⟨b1,0,none⟩)),(5,px),(6,.int .i64 xs.length),(7,.int .i64 (x:Int))]) (m:=λx=>xs.length-x) (cE:=0) (ak 0 (ak 1 (ak 5 (aV 6 rfl (eq_int (by simp)) (ak 7 (aY _)))))) ?_ ?_
 · exact⟨Nat.zero_le _,(by rw[List.take_zero];exact h0)⟩
 intro k w1 hI bN;obtain⟨hk,hJ⟩:=hI;obtain⟨h1,hp⟩:=hr _ _ hJ;have hle:=hp.le;have hF:aL w1 iA:=mZ w1;have hT:=ay.refl [3] w1 iA;refine ai (aq [af 0] ?_);refine c4 8 3 7 6 (aj.nil (ai ?_));refine bQ 8 rfl (λh8=>?_) (λh8=>?_)
 ·
  have aF:k<xs.length:=by omega
  refine bn (ai (bD 1 (ai (aq [af 0,nn 1,nn 2,nn 3] ?_))));refine c5 55 9 52 5 7 hp rfl (h:=?_);intro FJ yW fV;try simp only[aP] at fV
  refine iH (au 10 (.load 55 (.tmp 9))) rfl rfl trivial fV (by kernel_rfl) (by kernel_rfl) rfl rfl ?_;intro v10 g10;obtain rfl:=eA.1 g10;refine bG (au 4 (.alloc 55)) rfl rfl (ec (cs:=[.int .i64 0,.int .i64 0]) hF 3 (by kernel_rfl)) ?_;rintro _ w2 ⟨cQ,ek,rfl,s_1,hb,hF⟩;refine cq (k0 (.store 55 (.tmp 4) (.tmp 10))) rfl (dX (vs:=bE (xs[k]'aF)) (n:=2) rfl rfl (by kernel_rfl) rfl rfl (gx rfl) hb rfl) ?_;rintro _ w3 ⟨rfl,s_2,hb⟩;refine aj.nil (ai ?_);replace hT:=(hT.t s_1).t s_2;replace hJ:=Km _ _ _ hJ (hT.ext.mono (λb _ hb=>by simp at hb));refine X_ 1 ?_;refine ue (λ_=>trivial) (by kernel_rfl:cv _ 0=some (some 11,.move (.tmp 0),none)) (λc e=>by cases e) rfl (rF rfl) ?_;refine ue (λ_=>trivial) (by kernel_rfl:cv _ 1=some (some 12,.load 55 (.tmp 4),none)) (λc e=>by cases e) rfl (gT (n:=2) (vs:=bE (xs[k]'aF)) hb.at_ (by kernel_rfl) (by kernel_rfl) rfl rfl rfl) ?_;refine X7 (λ_=>trivial) rfl (by kernel_rfl:cv _ 2=some (some 13,.call {callee:=.value (.tmp 11),args:=#[.tmp 12],argTypes:=#[55]},none)) rfl rfl rfl (hY k aF _ hJ) ?_;rintro _ gM ⟨rfl,C3⟩;refine⟨_,rfl,?_⟩;refine ue (λ_=>trivial) (by kernel_rfl:cv _ 3=some (some 14,.unOp .not 4 (.tmp 13),none)) (λc e=>by cases e) rfl (ey rfl) ?_;refine Ya ?_;refine cR 14 (bn (bR (aq [af 0,af 1] ?_)));refine cn 15 3 7 1 (ah 7 15 (aj.nil ?_));refine kp (ak 0 (ak 1 (ak 5 (ak 6 (aV 7 rfl (eq_int (by simp)) (aY _)))))) (bN (k+1) _ ⟨by omega,C3⟩ (by omega))
 have aF:k=xs.length:=by omega
 refine cB 0 ?_;refine nE Tryz.func193 rfl ?_;rw[aF,List.take_length] at hJ;exact hJ
end
end Go.Proofs.YtmdhggfehknjjaaGreat
set_option linter.unusedVariables false
set_option linter.unusedSimpArgs false
set_option maxRecDepth 100000
set_option maxHeartbeats 4000000
namespace Go.Proofs.YtmdhggfehknjjaaGreat
open Go.K Go.K.bu
noncomputable section
namespace yZ
def c0:=bZ Tryz.f221
end yZ
theorem o9 {w₀:World} {C:Nat->Nat} {xs:List av} {px:Value} {b1:Nat} (hF:aL w₀ C) (h1:w₀.heap[b1]?=some (.cells [px].toArray 52)) (hx:aB w₀ (aA C) xs px) (hlen:xs.length<=100000) (j:Nat) (hj:j≠0):
   Calls Tryz.prog 221 #[.slice none 0 0,.func (.func 193) #[] #[.pointer (some ⟨b1,0,none⟩)]] w₀ (bI λv w'=>∃aQ,ay [] w₀ C w' aQ/\aL w' aQ/\bh w' aQ j 55 v xs):=by
 refine Ym (n:=3) (c:=yZ.c0) (N:=13) [.slice none 0 0,.func (.func 193) #[] #[.pointer (some ⟨b1,0,none⟩)]] Tryz.func221 (by kernel_rfl) (by kernel_rfl) (by kernel_rfl) λa ha hD=>?_;have acn:=hD;refine ES ?_;refine Cz ha hD ?_;refine xX (λ_=>trivial) (by kernel_rfl:cv _ 0=some (some 2,.box 52 (.tmp 0),none)) (λc e=>by cases e) rfl (Ln (cs:=[.slice none 0 0]) rfl rfl) ?_;rintro _ w1 ⟨rfl,hnew⟩;refine ue (λ_=>trivial) (by kernel_rfl:cv _ 1=some (some 4,.assign (.const (.slice none 0 0)),none)) (λc e=>by cases e) rfl (n_ rfl) ?_;refine Cu λa ha hD=>?_;obtain⟨bo,oy⟩:∃bo,bo=w₀.heap.size:=⟨_,rfl⟩
 rw[<-oy] at ha;have jh:=hnew.at_;rw[<-oy] at jh;have hsz:=hnew.size;show(K.aH yZ.c0).wpIn _ _ _ _ _ _;refine ES ?_;refine ES ?_;refine Cz ha hD ?_;refine ue (λ_=>trivial) (by kernel_rfl:cv _ 0=some (some 6,.move (.tmp 1),none)) (λc e=>by cases e) rfl (rF rfl) ?_;refine Cu λa ha hD=>?_;show(K.aH (K.cl (K.aH yZ.c0))).wpIn _ _ _ _ _ _;refine Og 0 ?_;have hI0:AS 52 55 w₀ w1.heap.size bo [] w1:=⟨.slice none 0 0,hnew.ext,jh,bh.nil,λb hb=>by cases hb⟩
 refine Yd (t:=6) (gf:=193) (encs:=λx:av=>#[cW x]) (xs:=xs) (I:=AS 52 55 w₀ w1.heap.size bo) (by kernel_rfl) (ha.ev (x:=.tmp 6) rfl) (λargs w=>Tryz.call193 args w) (λx=>by rw[show xZ (K.cl (K.aH (K.cl (K.aH yZ.c0))))=#[7] from by kernel_rfl];rfl) (λpre X Y h hE=>h.ext hE) (λpre X Y h hT=>h.turn (by omega) hT) hI0 ?_ ?_ ?_
 ·intro l k hk X hX;rw[show xZ (K.cl (K.aH (K.cl (K.aH yZ.c0))))=#[7] from by kernel_rfl];have ha1:=lW.yield ha (t:=7) (by decide) (cW xs[k]);refine Cz ha1 rfl ?_;obtain⟨v,g1,g2,g3,g4⟩:=hX;have hL:=AS.lim g2 g3;refine xX (λ_=>trivial) (by kernel_rfl:cv _ 0=some (some 5,.alloc 55,none)) (λc e=>by cases e) rfl (ec (cs:=[.int .i64 0,.int .i64 0]) hL 3 (by kernel_rfl)) ?_;rintro _ aco ⟨aW,bK,rfl,hs1,jv,Ik⟩;refine xX (λ_=>trivial) (by kernel_rfl:cv _ 1=some (none,.store 55 (.tmp 5) (.tmp 7),none)) (λc e=>by cases e) rfl (dX (vs:=bE xs[k]) (n:=2) rfl rfl (by kernel_rfl) rfl rfl (gx rfl) jv rfl) ?_;rintro _ Kn ⟨rfl,hs2,ew⟩;have hE:Ext No X Kn:=(hs1.mono (J:=[3]) (λc hc=>by cases hc)).trans hs2 (λc hc=>hc) |>.ext.mono (λb hb hm=>by
    simp only[List.mem_singleton] at hm;unfold pI at hm;split at hm
    ·cases hm
    ·split at hm<;>cases hm)
  refine Cu λa2 ha2 az=>?_;refine⟨λb gj hb zP hc=>Cx zP hE,(show AS _ _ _ _ _ _ _ from⟨v,g1,g2,g3,g4⟩:AS 52 55 w₀ w1.heap.size bo (xs.take k) X).ext hE,λFK me Sw=>?_⟩;obtain⟨lt,acp,Sx,hlt,Ko,rY,rfl⟩:=me;have Sy: (Kn.putObj lt Sx).heap[bK]?=some (.cells (bE xs[k]).toArray 55):=Cy ew.at_ (λe=>by subst e;rw[ew.at_] at Ko;cases Ko;cases rY);generalize Kn.putObj lt Sx=FK at Sw Sy;clear g1 g2 g3 g4 hL hs1 jv Ik hs2 ew hE Ko;obtain⟨v,g1,g2,g3,g4⟩:=Sw;have hL:=AS.lim g2 g3;have hA:w1.heap.size<=FK.heap.size:=by have:=x7 g2;omega
  have mU:cD FK (pI bo v) 2 bo (.cells [v].toArray 52):=⟨by unfold pI;rw[if_pos rfl],g2⟩
  refine Og 1 ?_;refine Cz ha2 az ?_;refine ue (λ_=>trivial) (by kernel_rfl:cv _ 0=some (some 8,.load 52 (.tmp 2),none)) (λc e=>by cases e) rfl (oQ g2 (by kernel_rfl) rfl rfl) ?_;refine ue (λ_=>trivial) (by kernel_rfl:cv _ 1=some (some 9,.load 55 (.tmp 5),none)) (λc e=>by cases e) rfl (gT (n:=2) (vs:=bE xs[k]) Sy (by kernel_rfl) (by kernel_rfl) rfl rfl rfl) ?_;refine xX (λ_=>trivial) (by kernel_rfl:cv _ 2=some (some 10,.buildSlice 52 1 #[(0,.tmp 9)],none)) (λc e=>by cases e) rfl (f_ (ys:=([xs[k]]:List av)) (e:=55) (bytes:=16) hL (by kernel_rfl) rfl (by decide) (by decide) ⟨rfl,⟨_,rfl,eA.2 rfl⟩,trivial⟩) ?_;rintro v10 acq ⟨hs4,g10,ep⟩;have lG: (xs.take k).length=k:=by rw[List.length_take];omega
  refine xX (λ_=>trivial) (by kernel_rfl:cv _ 3=some (some 11,.call {callee:=.builtin .append,args:=#[.tmp 8,.tmp 10],argTypes:=#[52,52]},none)) (λc e=>by cases e) rfl (gl (e:=55) (bytes:=16) ep (by decide) rfl rfl (by kernel_rfl) (by decide) (g3.st hs4 (by decide) (by decide)) g10 (by simp only[List.length_cons,List.length_nil];omega) (by simp only[List.length_cons,List.length_nil];omega)) ?_;rintro v11 acr ⟨p6,hs5,g11,acs⟩;have e5:=(mU.st hs4 (by decide)).st hs5 (by decide);refine xX (λ_=>trivial) (by kernel_rfl:cv _ 4=some (none,.store 52 (.tmp 2) (.tmp 11),none)) (λc e=>by cases e) rfl (je rfl rfl (by kernel_rfl) g11.one.1 g11.one.2 e5 (by simp)) ?_;rintro _ C4 ⟨rfl,fZ,wm⟩;refine Cu λa3 ME acu=>?_;have k8:ay [2,5] FK (pI bo v) C4 p6:=((hs4.mono (J:=[2,5]) (λc hc=>by cases hc)).trans (hs5.mono (J:=[2,5]) (λc hc=>by simp at hc⊢;omega)) (λc hc=>hc)).trans (fZ.mono (J:=[2,5]) (λc hc=>by simp at hc⊢;omega)) (λc hc=>hc);have Sz:=g11.st fZ (by decide) (by decide);rw[<-List.take_succ_eq_append_getElem hk] at Sz;obtain⟨r1,r2⟩:=AS.close (n0:=w1.heap.size) g1 g2 g3 g4 (by omega) (by omega) hA k8 wm Sz;exact⟨rfl,r1,r2⟩
 ·intro l qm J Km k3 hY hJ0;refine o3 (px:=px) Km (λpre X hX=>?_) hY hJ0;obtain⟨v,g1,_⟩:=k3 _ _ hX;exact⟨⟨show 0<2 from by decide,Cx h1 g1⟩,hx.c0.st (I:=[]) (C:=iA) (aQ:=iA) ⟨g1.mono (λ_ _ h=>h.elim),λ_ _=>rfl⟩ (by decide)⟩
 intro D W acv hI hK;obtain⟨v,g1,g2,g3,g4⟩:=hI;show(K.aH (K.aH yZ.c0)).wpIn _ _ _ _ _ _;refine ES ?_;refine Cz (a:={a with defers:=_}) (D:={target:=.collected D,args:=#[]}::a.defers) ha rfl ?_;refine ue (λ_=>trivial) (by kernel_rfl:cv _ 0=some (some 12,.load 52 (.tmp 2),none)) (λc e=>by cases e) rfl (oQ g2 (by kernel_rfl) rfl rfl) ?_;refine ue (λ_=>trivial) (by kernel_rfl:cv _ 1=some (some 4,.assign (.tmp 12),none)) (λc e=>by cases e) rfl (n_ rfl) ?_;refine Cu λa4 x3 x4=>?_;refine Yl ?_;show LeavesInM _ _ _ _ _ _ _ _ _;rw[x4,hD];refine⟨by simp,.inl ⟨_,_,rfl,run_takeDeferred hK,?_⟩⟩;refine⟨_,results_tmp (t:=4) (by kernel_rfl) _ _ _,_,rfl,?_⟩;have hv:a4.tmps.getD 4 undef=v:=x3.ev (x:=.tmp 4) rfl;rw[hv];refine⟨λb=>if v.ownBlock=some b then j else C b,⟨?_,λb hb=>?_⟩,λb hb=>?_,?_⟩
 ·exact(Oh g1 (by omega)).mono (λ_ _ h=>h.elim)
 ·show(if v.ownBlock=some b then j else C b)=C b;rw[if_neg (λe=>by have:=g4 b e;omega)]
 ·show b<(W.putObj D _).heap.size;have hb: (if v.ownBlock=some b then j else C b)≠0:=hb;rw[World.putObj_size];split at hb
  · rename_i e;exact(g3.own.gj b e).2
  have:=hF b hb;have:=g1.size;omega
 refine g3.any (λb hb=>World.putObj_heap_other (λe=>?_)) (λb hb=>?_) hj
 ·subst e;obtain⟨cs,hcs⟩:=g3.cells hb;rw[hcs] at hK;cases hK
 show(if v.ownBlock=some b then j else C b)=j;rw[if_pos (show v.ownBlock=some b from hb)]
end
end Go.Proofs.YtmdhggfehknjjaaGreat
set_option linter.unusedVariables false
set_option linter.unusedSimpArgs false
set_option maxRecDepth 100000
set_option maxHeartbeats 4000000
namespace Go.Proofs.YtmdhggfehknjjaaGreat
open Go.K Go.K.bu
noncomputable section
theorem x5 {I:List Nat} {w w':World} {C aQ:Nat->Nat} {b:Nat} {gj:Obj} (hT:ay I w (bq C) w' aQ) (hF:aL w C) (hb:cD w' aQ 3 b gj):jr w' C b gj:=by
 refine⟨?_,hb.at_⟩;by_cases h:C b=0
 ·omega
 have h1:=hT.col b (hF b h);have h2:=h_ C (show 1<3 by decide) b;rw[hb.col] at h1;omega
namespace SA
def c0:=bZ Tryz.f140
end SA
theorem o8 {w₀:World} {C:Nat->Nat} {xs:List av} {px:Value} (hF:aL w₀ C) (hx:aB w₀ (aA C) xs px):Calls Tryz.prog 140 #[px] w₀ (bI λv w'=>∃b1,v=.func (.func 193) #[] #[.pointer (some ⟨b1,0,none⟩)]/\ay [] w₀ C w' C/\jr w' C b1 (.cells [px].toArray 52)):=by
 have bH:=hF;have hT:=z9 w₀ C;replace hF:=hF.bq;replace hx:=hx.c1;refine bT SA.c0 4 [px] Tryz.func140 ?_;show Run _ _ _ _ [(0,px)] _ _;refine ai (aq [nn 0,af 1] ?_);refine bG (au 1 (.box 52 (.tmp 0))) rfl rfl (dI (cs:=[px]) hF 3 rfl (hx.one rfl).1) ?_;rintro _ w1 ⟨dy,bY,rfl,s_1,hb,hF⟩;refine ax (au 2 (.assign (.const .nilFunc))) (λ_=>n_ rfl) ?_;refine aj.nil (ai (aq [af 0,af 1] ?_));refine ax (au 3 (.makeFunc (.func 193) #[] #[(.tmp 1)])) (λ_=>xl rfl rfl) ?_;refine aC 2 3 (aj.nil ?_);refine bP Tryz.func140 Tryz.results140 ?_;replace hT:=hT.t s_1;exact⟨_,rfl,hT.bW (by decide),x5 hT bH hb⟩
namespace SB
def c0:=bZ Tryz.f192
end SB
theorem n4 {w₀:World} {C:Nat->Nat} {xs:List av} {px:Value} {b1:Nat} (hF:aL w₀ C) (h1:w₀.heap[b1]?=some (.cells [px].toArray 52)) (hx:aB w₀ (aA C) xs px) (hlen:xs.length<=100000) (j:Nat) (hj:j≠0):Calls Tryz.prog 192 #[.func (.func 193) #[] #[.pointer (some ⟨b1,0,none⟩)]] w₀ (bI λv w'=>∃aQ,ay [] w₀ C w' aQ/\aL w' aQ/\bh w' aQ j 55 v xs):=by
 refine bT SB.c0 5 [.func (.func 193) #[] #[.pointer (some ⟨b1,0,none⟩)]] Tryz.func192 ?_;show Run _ _ _ _ [(0,.func (.func 193) #[] #[.pointer (some ⟨b1,0,none⟩)])] _ _;refine ai (aq [af 0] ?_);refine aX 2 (.slice none 0 0) (aj.nil (ai (aq [af 0,nn 1,af 2] ?_)));refine ah 3 0 ?_;refine dN (au 4 (.call {callee:=.value (.func 221),args:=#[(.const (.slice none 0 0)),(.tmp 3)],argTypes:=#[52,193]})) rfl rfl (de Tryz.call221 rfl) (o9 hF h1 hx hlen j hj) ?_;rintro v4 w1 ⟨An,s_1,vg,ho⟩;refine aC 2 4 (aj.nil ?_);refine bP Tryz.func192 Tryz.results192 ?_;exact⟨An,s_1,vg,ho⟩
namespace SC
def c0:=bZ Tryz.f139
end SC
theorem sv {w₀:World} {C:Nat->Nat} {xs:List av} {px:Value} {b1:Nat} (hF:aL w₀ C) (h1:w₀.heap[b1]?=some (.cells [px].toArray 52)) (hx:aB w₀ (aA C) xs px) (hlen:xs.length<=100000):Calls Tryz.prog 139 #[.func (.func 193) #[] #[.pointer (some ⟨b1,0,none⟩)],.func (.func 53) #[] #[]] w₀ (bI λv w'=>ay [] w₀ C w' C/\aB w' (aA C) (jY xs) v):=by
 have bH:=hF;have hT:=z9 w₀ C;replace hF:=hF.bq;replace hx:=hx.c1;replace h1:=jr.of h1 C;refine bT SC.c0 12 [.func (.func 193) #[] #[.pointer (some ⟨b1,0,none⟩)],.func (.func 53) #[] #[]] Tryz.func139 ?_;show Run _ _ _ _ [(0,.func (.func 193) #[] #[.pointer (some ⟨b1,0,none⟩)]),(1,.func (.func 53) #[] #[])] _ _;refine ai (aq [af 0] ?_);refine aX 4 (.slice none 0 0) (aj.nil (ai (aq [af 0,nn 1,af 2] ?_)));refine ah 6 0 ?_;refine bU 7 192 [6] [193] Tryz.call192 rfl (n4 hF h1.at_ hx hlen 3 (by decide)) ?_;rintro uk w1 ⟨acw,s_1,hF,ho⟩;refine aC 5 7 (aj.nil (ai (aq [af 0,af 1,nn 2] ?_)));refine ah 8 5 (ah 9 1 ?_);refine bU 10 185 [8,9] [52,107] Tryz.call185 rfl (OW hF ho (by omega)) ?_;rintro gL w2 ⟨rfl,s_2,ho,_⟩;refine aj.nil (ai (aq [af 0,af 1] ?_));refine ah 11 5 (aC 4 11 (aj.nil ?_));refine bP Tryz.func139 Tryz.results139 ?_;replace hT:=(hT.t s_1).t s_2;exact⟨hT.bW (by decide),ho.out hT bH (ez C) (λb _=>h_ C (by decide) b) (by rw[(u_ _).length_eq];omega)⟩
end
end Go.Proofs.YtmdhggfehknjjaaGreat
set_option linter.unusedVariables false
set_option linter.unusedSimpArgs false
set_option maxRecDepth 100000
set_option maxHeartbeats 4000000
namespace Go.Proofs.YtmdhggfehknjjaaGreat
open Go.K Go.K.bu
noncomputable section
namespace SD
def c0:=bZ Tryz.f191
end SD
theorem SE {w₀:World} {C:Nat->Nat} {k:Nat} (hF:aL w₀ C) (hk:k<=1000000) (j:Nat) (hj:j≠0):Calls Tryz.prog 191 #[.slice none 0 0,.int .i64 k] w₀ (bI λv w'=>∃aQ,ay [] w₀ C w' aQ/\aL w' aQ/\bh w' aQ j 55 v ([]:List av)):=by
 have bH:=hF;have hT:=z9 w₀ C;replace hF:=hF.bq;refine bT SD.c0 27 [.slice none 0 0,.int .i64 k] Tryz.func191 ?_;show Run _ _ _ _ [(0,.slice none 0 0),(1,.int .i64 k)] _ _;refine ai (aq [af 0] ?_);refine aX 4 (.slice none 0 0) (aj.nil (ai (ai (aq [af 0,af 1] ?_))));refine ah 5 1 ?_;refine ax (au 6 (.binOp .lss 3 (.tmp 5) (.const (.int .i64 0)) 3)) (λ_=>eO rfl rfl) ?_;refine aj.nil ?_;refine bQ 6 rfl (λh6=>?_) (λh6=>?_)
 ·
  omega
 refine bn (ai (ai (aq [af 0,af 1,nn 2,af 3,af 4,af 5,af 6,af 7] ?_)));refine ah 8 1 (ah 9 0 ?_);refine jl (au 10 (.call {callee:=.builtin .cap,args:=#[(.tmp 9)],argTypes:=#[52]})) rfl rfl trivial (NR rfl Tryz.underlying52) ?_;refine ah 11 0 ?_;refine ax (au 12 (.call {callee:=.builtin .len,args:=#[(.tmp 11)],argTypes:=#[52]})) (λ_=>wZ rfl Tryz.underlying52) ?_;refine ax (au 13 (.binOp .sub 3 (.tmp 10) (.tmp 12) 3)) (λ_=>eD rfl rfl (by omega) (by omega)) ?_;refine ax (au 14 (.binOp .sub 3 (.tmp 8) (.tmp 13) 3)) (λ_=>eD rfl rfl (by omega) (by omega)) ?_;rw[show(k:Int)-(((0:Nat):Int)-((0:Nat):Int))=(k:Int) from by simp];refine aC 1 14 (aj.nil (ai (aq [af 0,af 1] ?_)));refine ah 15 1 ?_;refine ax (au 16 (.binOp .gtr 3 (.tmp 15) (.const (.int .i64 0)) 3)) (λ_=>fH rfl rfl) ?_;refine aj.nil ?_;refine bQ 16 rfl (λiO=>?_) (λiO=>?_)
 ·
  have jO:0<k:=by omega
  refine aq [af 0,af 1,nn 2,af 3,af 4,nn 5,af 6,af 7,af 8,af 9] ?_;refine ah 17 0 (ah 18 0 ?_);refine jl (au 19 (.call {callee:=.builtin .cap,args:=#[(.tmp 18)],argTypes:=#[52]})) rfl rfl trivial (NR rfl Tryz.underlying52) ?_;refine ax (au 20 (.slice 52 (.tmp 17) none (some (.tmp 19)) none)) (λ_=>Xm rfl rfl Tryz.underlying52 (by kernel_rfl)) ?_;refine ah 21 1 ?_;refine bG (au 22 (.call {callee:=.builtin .append,args:=#[(.tmp 20),(.tmp 21)],argTypes:=#[52,3]})) rfl rfl (Xj (α:=av) (e:=55) (bytes:=16) (n:=k) (j:=3) hF (by decide) rfl rfl (by kernel_rfl) (by decide) (by decide) Tryz.underlying3 jO (by omega)) ?_;rintro _ w1 ⟨dy,acy,gc,rfl,s_1,hz,hF⟩;refine ah 23 0 ?_;refine ax (au 24 (.call {callee:=.builtin .len,args:=#[(.tmp 23)],argTypes:=#[52]})) (λ_=>wZ rfl Tryz.underlying52) ?_;refine ax (au 25 (.slice 52 (.tmp 22) none (some (.tmp 24)) none)) (λ_=>Xn rfl rfl Tryz.underlying52 (by kernel_rfl)) ?_;refine aC 0 25 (aj.nil (ai (aq [af 0,af 1] ?_)));refine ah 26 0 (aC 4 26 (aj.nil ?_));refine bP Tryz.func191 Tryz.results191 ?_;replace hT:=hT.t s_1;obtain⟨q9,r5,hFg,As,uI⟩:=hz.nK hT bH (ez C) (λb _=>h_ C (by decide) b) (by decide) j hj;exact⟨q9,(hT.bW (by decide)).nK r5,hFg,uI⟩
 refine bn (ai (aq [af 0,af 1] ?_));refine ah 26 0 (aC 4 26 (aj.nil ?_));refine bP Tryz.func191 Tryz.results191 ?_;exact⟨C,hT.bW (by decide),bH.st (hT.bW (by decide)),bh.nil⟩
namespace Kq
def c0:=bZ Tryz.f138
end Kq
theorem acz {w₀:World} {C:Nat->Nat} {ll:List (List av)} {cV:Value} (hF:aL w₀ C) (hl:aB w₀ (aA C) ll cV) (hlen:ll.flatten.length<=100000) (j:Nat) (hj:j≠0):Calls Tryz.prog 138 #[cV] w₀ (bI λv w'=>∃aQ,ay [] w₀ C w' aQ/\aL w' aQ/\bh w' aQ j 55 v ll.flatten):=by
 have bH:=hF;have hT:=z9 w₀ C;replace hF:=hF.bq;replace hl:=hl.c1;refine bT Kq.c0 36 [cV] Tryz.func138 ?_;show Run _ _ _ _ [(0,cV)] _ _;refine ai (aq [af 0] ?_);refine aX 2 (.slice none 0 0) (aj.nil (ai (aq [af 0] ?_)));refine aX 3 (.int .i64 0) (aj.nil (ai (ai (aq [af 0,af 1,af 2] ?_))));refine ah 9 0 ?_;refine zE 10 9 24 (hl.bS rfl Tryz.underlying24) ?_;refine eE 11 (.int .i64 0) ?_;refine aj.nil (bD 0 ?_);refine cK (ι:=Nat×(Nat->Nat)) (I:=λx w=>x.1<=ll.length/\aL w x.2/\ay [2,3,4,5,6,7,8,9] w₀ (bq C) w x.2/\aB w (aA x.2) ll cV) (e:=λx=>[(0,cV),(3,.int .i64 ((ll.take x.1).flatten.length:Nat)),(9,cV),(10,.int .i64 ll.length),(11,.int .i64 x.1)]) (m:=λx=>ll.length-x.1) (cE:=(0,bq C)) (ak 0 (ak 3 (ak 9 (ak 10 (ak 11 (aY _)))))) ?_ ?_
 · exact⟨Nat.zero_le _,hF,hT,hl⟩
 intro⟨i,aW⟩ w1 hI bN;obtain⟨hi,hF,hT,hl⟩:=hI;try simp only at hi hF hT hl
 show Run _ _ _ _ [(0,cV),(3,.int .i64 ((ll.take i).flatten.length:Nat)),(9,cV),(10,.int .i64 ll.length),(11,.int .i64 i)] _ _;have hle:=hl.le;have hfl:=vQ (ll:=ll) i;refine ai (aq [af 0] ?_);refine c4 12 3 11 10 (aj.nil (ai ?_));refine bQ 12 rfl (λh12=>?_) (λh12=>?_)
 ·
  have hil:i<ll.length:=by omega
  have hft:=congrArg List.length (EL hil);rw[List.length_append] at hft;have Kr:=vQ (ll:=ll) (i+1);refine bn (ai (bD 1 (ai (aq [af 0,nn 1,af 2] ?_))));refine c5 52 13 24 9 11 hl rfl (h:=?_);intro Ai vT gi;try simp only[aP] at gi
  refine gP (au 14 (.load 52 (.tmp 13))) rfl rfl trivial gi (by kernel_rfl) rfl rfl ?_;intro vU g14;refine aC 5 14 (aj.nil (ai (aq [af 0,af 1,af 2,af 3,af 4] ?_)));refine ah 15 3 (ah 16 5 ?_);refine zE 17 16 52 (g14.bS rfl Tryz.underlying52) ?_;refine ax (au 18 (.binOp .add 3 (.tmp 15) (.tmp 17) 3)) (λ_=>gZ rfl rfl (by omega) (by omega)) ?_;refine aC 3 18 (aj.nil (ai (aq [af 0,af 1] ?_)));refine ah 19 3 ?_;refine ax (au 20 (.binOp .lss 3 (.tmp 19) (.const (.int .i64 0)) 3)) (λ_=>eO rfl rfl) ?_;refine aj.nil ?_;refine bQ 20 rfl (λnt=>?_) (λnt=>?_)
  ·
   omega
  refine bn (bR (aq [af 0,af 1] ?_));refine cn 22 3 11 1 (ah 11 22 (aj.nil ?_));refine kp (ak 0 (aV 3 rfl (eq_int (by simp only;omega)) (ak 9 (ak 10 (aV 11 rfl (eq_int (by simp)) (aY _)))))) (bN (i+1,aW) _ ⟨(by first|omega|(simp only;omega)),hF,hT,hl⟩ (by first|omega|(simp only;omega)))
 have hil:i=ll.length:=by omega
 refine cB 0 ?_;refine ai (aq [af 0,nn 1,af 2] ?_);refine ah 23 3 ?_;refine dN (au 24 (.call {callee:=.value (.func 191),args:=#[(.const (.slice none 0 0)),(.tmp 23)],argTypes:=#[52,3]})) rfl rfl (de Tryz.call191 rfl) (SE hF (by omega) 3 (by decide)) ?_;rintro Dz w2 ⟨Ks,s_1,hF,ho⟩;refine aC 6 24 (aj.nil (ai (ai (aq [af 0,af 1,af 2] ?_))));refine ah 25 0 ?_;replace hl:=hl.t s_1;refine zE 26 25 24 (hl.bS rfl Tryz.underlying24) ?_;refine eE 27 (.int .i64 0) ?_;refine aj.nil (bD 2 ?_);refine cK (ι:=Nat×Value×(Nat->Nat)) (I:=λx w=>x.1<=ll.length/\aL w x.2.2/\ay [2,3,4,5,6,7,8,9] w₀ (bq C) w x.2.2/\aB w (aA x.2.2) ll cV/\bh w x.2.2 3 55 x.2.1 ((ll.take x.1).flatten)) (e:=λx=>[(6,x.2.1),(25,cV),(26,.int .i64 ll.length),(27,.int .i64 x.1)]) (m:=λx=>ll.length-x.1) (cE:=(0,Dz,Ks)) (ak 6 (ak 25 (ak 26 (ak 27 (aY _))))) ?_ ?_
 ·
   replace hT:=hT.t s_1;exact⟨Nat.zero_le _,hF,hT,hl,ho⟩
 intro⟨k,dU,eM⟩ w3 hI fk;obtain⟨hk,hF,hT,hl,ho⟩:=hI;try simp only at hk hF hT hl ho
 show Run _ _ _ _ [(6,dU),(25,cV),(26,.int .i64 ll.length),(27,.int .i64 k)] _ _;have hle:=hl.le;have hfl:=vQ (ll:=ll) k;refine ai (aq [af 0] ?_);refine c4 28 3 27 26 (aj.nil (ai ?_));refine bQ 28 rfl (λjW=>?_) (λjW=>?_)
 ·
  have aF:k<ll.length:=by omega
  have hft:=EL aF;have Kt:=congrArg List.length hft;rw[List.length_append] at Kt;have Kr:=vQ (ll:=ll) (k+1);refine bn (ai (bD 3 (ai (aq [af 0,nn 1,af 2] ?_))));refine c5 52 29 24 25 27 hl rfl (h:=?_);intro Ay Az kI;try simp only[aP] at kI
  refine gP (au 30 (.load 52 (.tmp 29))) rfl rfl trivial kI (by kernel_rfl) rfl rfl ?_;intro v30 fD;refine aC 8 30 (aj.nil (aq [af 0,af 1,nn 2,af 3] ?_));refine ah 31 6 (ah 32 8 ?_);refine bG (au 33 (.call {callee:=.builtin .append,args:=#[(.tmp 31),(.tmp 32)],argTypes:=#[52,52]})) rfl rfl (gl (e:=55) (bytes:=16) hF (by decide) rfl rfl (by kernel_rfl) (by decide) ho fD (by omega) (by omega)) ?_;rintro v33 w4 ⟨gq,s_2,ho,hF⟩;refine aC 6 33 (aj.nil (bR (aq [af 0,af 1] ?_)));refine cn 34 3 27 1 (ah 27 34 (aj.nil ?_));replace hT:=hT.t s_2;replace hl:=hl.t s_2;refine kp (ak 6 (ak 25 (ak 26 (aV 27 rfl (eq_int (by simp)) (aY _))))) (fk (k+1,v33,gq) _ ⟨(by first|omega|(simp only;omega)),hF,hT,hl,(by simp only;rw[hft];exact ho)⟩ (by first|omega|(simp only;omega)))
 have aF:k=ll.length:=by omega
 rw[aF,List.take_length] at ho;refine cB 2 ?_;refine ai (aq [af 0,af 1] ?_);refine ah 35 6 (aC 2 35 (aj.nil ?_));refine bP Tryz.func138 Tryz.results138 ?_;obtain⟨q9,r5,hFg,As,uI⟩:=ho.nK hT bH (ez C) (λb _=>h_ C (by decide) b) (by decide) j hj;exact⟨q9,(hT.bW (by decide)).nK r5,hFg,uI⟩
theorem bB {w₀:World} {C:Nat->Nat} {ll:List (List av)} {cV:Value} (hF:aL w₀ C) (hl:aB w₀ (aA C) ll cV) (hlen:ll.flatten.length<=100000):Calls Tryz.prog 138 #[cV] w₀ (bI λv w'=>ay [] w₀ C w' C/\aB w' (aA C) ll.flatten v):=by
 have bH:=hF;have hT:=z9 w₀ C;replace hF:=hF.bq;replace hl:=hl.c1;refine bT Kq.c0 36 [cV] Tryz.func138 ?_;show Run _ _ _ _ [(0,cV)] _ _;refine ai (aq [af 0] ?_);refine aX 2 (.slice none 0 0) (aj.nil (ai (aq [af 0] ?_)));refine aX 3 (.int .i64 0) (aj.nil (ai (ai (aq [af 0,af 1,af 2] ?_))));refine ah 9 0 ?_;refine zE 10 9 24 (hl.bS rfl Tryz.underlying24) ?_;refine eE 11 (.int .i64 0) ?_;refine aj.nil (bD 0 ?_);refine cK (ι:=Nat×(Nat->Nat)) (I:=λx w=>x.1<=ll.length/\aL w x.2/\ay [2,3,4,5,6,7,8,9] w₀ (bq C) w x.2/\aB w (aA x.2) ll cV) (e:=λx=>[(0,cV),(3,.int .i64 ((ll.take x.1).flatten.length:Nat)),(9,cV),(10,.int .i64 ll.length),(11,.int .i64 x.1)]) (m:=λx=>ll.length-x.1) (cE:=(0,bq C)) (ak 0 (ak 3 (ak 9 (ak 10 (ak 11 (aY _)))))) ?_ ?_
 · exact⟨Nat.zero_le _,hF,hT,hl⟩
 intro⟨i,aW⟩ w1 hI bN;obtain⟨hi,hF,hT,hl⟩:=hI;try simp only at hi hF hT hl
 show Run _ _ _ _ [(0,cV),(3,.int .i64 ((ll.take i).flatten.length:Nat)),(9,cV),(10,.int .i64 ll.length),(11,.int .i64 i)] _ _;have hle:=hl.le;have hfl:=vQ (ll:=ll) i;refine ai (aq [af 0] ?_);refine c4 12 3 11 10 (aj.nil (ai ?_));refine bQ 12 rfl (λh12=>?_) (λh12=>?_)
 ·
  have hil:i<ll.length:=by omega
  have hft:=congrArg List.length (EL hil);rw[List.length_append] at hft;have Kr:=vQ (ll:=ll) (i+1);refine bn (ai (bD 1 (ai (aq [af 0,nn 1,af 2] ?_))));refine c5 52 13 24 9 11 hl rfl (h:=?_);intro Ai vT gi;try simp only[aP] at gi
  refine gP (au 14 (.load 52 (.tmp 13))) rfl rfl trivial gi (by kernel_rfl) rfl rfl ?_;intro vU g14;refine aC 5 14 (aj.nil (ai (aq [af 0,af 1,af 2,af 3,af 4] ?_)));refine ah 15 3 (ah 16 5 ?_);refine zE 17 16 52 (g14.bS rfl Tryz.underlying52) ?_;refine ax (au 18 (.binOp .add 3 (.tmp 15) (.tmp 17) 3)) (λ_=>gZ rfl rfl (by omega) (by omega)) ?_;refine aC 3 18 (aj.nil (ai (aq [af 0,af 1] ?_)));refine ah 19 3 ?_;refine ax (au 20 (.binOp .lss 3 (.tmp 19) (.const (.int .i64 0)) 3)) (λ_=>eO rfl rfl) ?_;refine aj.nil ?_;refine bQ 20 rfl (λnt=>?_) (λnt=>?_)
  ·
   omega
  refine bn (bR (aq [af 0,af 1] ?_));refine cn 22 3 11 1 (ah 11 22 (aj.nil ?_));refine kp (ak 0 (aV 3 rfl (eq_int (by simp only;omega)) (ak 9 (ak 10 (aV 11 rfl (eq_int (by simp)) (aY _)))))) (bN (i+1,aW) _ ⟨(by first|omega|(simp only;omega)),hF,hT,hl⟩ (by first|omega|(simp only;omega)))
 have hil:i=ll.length:=by omega
 refine cB 0 ?_;refine ai (aq [af 0,nn 1,af 2] ?_);refine ah 23 3 ?_;refine dN (au 24 (.call {callee:=.value (.func 191),args:=#[(.const (.slice none 0 0)),(.tmp 23)],argTypes:=#[52,3]})) rfl rfl (de Tryz.call191 rfl) (SE hF (by omega) 3 (by decide)) ?_;rintro Dz w2 ⟨Ks,s_1,hF,ho⟩;refine aC 6 24 (aj.nil (ai (ai (aq [af 0,af 1,af 2] ?_))));refine ah 25 0 ?_;replace hl:=hl.t s_1;refine zE 26 25 24 (hl.bS rfl Tryz.underlying24) ?_;refine eE 27 (.int .i64 0) ?_;refine aj.nil (bD 2 ?_);refine cK (ι:=Nat×Value×(Nat->Nat)) (I:=λx w=>x.1<=ll.length/\aL w x.2.2/\ay [2,3,4,5,6,7,8,9] w₀ (bq C) w x.2.2/\aB w (aA x.2.2) ll cV/\bh w x.2.2 3 55 x.2.1 ((ll.take x.1).flatten)) (e:=λx=>[(6,x.2.1),(25,cV),(26,.int .i64 ll.length),(27,.int .i64 x.1)]) (m:=λx=>ll.length-x.1) (cE:=(0,Dz,Ks)) (ak 6 (ak 25 (ak 26 (ak 27 (aY _))))) ?_ ?_
 ·
   replace hT:=hT.t s_1;exact⟨Nat.zero_le _,hF,hT,hl,ho⟩
 intro⟨k,dU,eM⟩ w3 hI fk;obtain⟨hk,hF,hT,hl,ho⟩:=hI;try simp only at hk hF hT hl ho
 show Run _ _ _ _ [(6,dU),(25,cV),(26,.int .i64 ll.length),(27,.int .i64 k)] _ _;have hle:=hl.le;have hfl:=vQ (ll:=ll) k;refine ai (aq [af 0] ?_);refine c4 28 3 27 26 (aj.nil (ai ?_));refine bQ 28 rfl (λjW=>?_) (λjW=>?_)
 ·
  have aF:k<ll.length:=by omega
  have hft:=EL aF;have Kt:=congrArg List.length hft;rw[List.length_append] at Kt;have Kr:=vQ (ll:=ll) (k+1);refine bn (ai (bD 3 (ai (aq [af 0,nn 1,af 2] ?_))));refine c5 52 29 24 25 27 hl rfl (h:=?_);intro Ay Az kI;try simp only[aP] at kI
  refine gP (au 30 (.load 52 (.tmp 29))) rfl rfl trivial kI (by kernel_rfl) rfl rfl ?_;intro v30 fD;refine aC 8 30 (aj.nil (aq [af 0,af 1,nn 2,af 3] ?_));refine ah 31 6 (ah 32 8 ?_);refine bG (au 33 (.call {callee:=.builtin .append,args:=#[(.tmp 31),(.tmp 32)],argTypes:=#[52,52]})) rfl rfl (gl (e:=55) (bytes:=16) hF (by decide) rfl rfl (by kernel_rfl) (by decide) ho fD (by omega) (by omega)) ?_;rintro v33 w4 ⟨gq,s_2,ho,hF⟩;refine aC 6 33 (aj.nil (bR (aq [af 0,af 1] ?_)));refine cn 34 3 27 1 (ah 27 34 (aj.nil ?_));replace hT:=hT.t s_2;replace hl:=hl.t s_2;refine kp (ak 6 (ak 25 (ak 26 (aV 27 rfl (eq_int (by simp)) (aY _))))) (fk (k+1,v33,gq) _ ⟨(by first|omega|(simp only;omega)),hF,hT,hl,(by simp only;rw[hft];exact ho)⟩ (by first|omega|(simp only;omega)))
 have aF:k=ll.length:=by omega
 rw[aF,List.take_length] at ho;refine cB 2 ?_;refine ai (aq [af 0,af 1] ?_);refine ah 35 6 (aC 2 35 (aj.nil ?_));refine bP Tryz.func138 Tryz.results138 ?_;exact⟨hT.bW (by decide),ho.out hT bH (ez C) (λb _=>h_ C (by decide) b) (by omega)⟩
end
end Go.Proofs.YtmdhggfehknjjaaGreat
