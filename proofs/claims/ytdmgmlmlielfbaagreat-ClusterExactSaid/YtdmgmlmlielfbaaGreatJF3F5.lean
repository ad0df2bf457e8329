/- Steps through functions of the program. -/
import Derived.Test.YtdmgmlmlielfbaaGreatJE8F2
import Derived.Test.YtdmgmlmlielfbaaGreatL2
import Derived.Test.YtdmgmlmlielfbaaGreatJC1C3
import Derived.Test.YtdmgmlmlielfbaaGreatJC7H1
set_option linter.unusedVariables false
set_option linter.unusedSimpArgs false
set_option maxRecDepth 100000
set_option maxHeartbeats 4000000
namespace Go.Proofs.YtdmgmlmlielfbaaGreat
open Go.K Go.K.bg
noncomputable section
namespace xu
def c0:=cz Tryz.f142
end xu
theorem Wm {w₀:World} {C:Nat->Nat} {xs:List av} {px:Value} {b1:Nat} (hF:aM w₀ C) (h1:w₀.heap[b1]?=some (.cells [px].toArray 53)) (hx:aG w₀ (aB C) xs px) (hlen:xs.length<=100000) (j:Nat) (hj:j≠0):
   Calls Tryz.prog 142 #[.slice none 0 0,.func (.func 120) #[] #[.pointer (some ⟨b1,0,none⟩)]] w₀ (bM λv w'=>∃aP,ay [] w₀ C w' aP/\aM w' aP/\bn w' aP j 47 v xs):=by
 refine U8 (n:=3) (c:=xu.c0) (N:=13) [.slice none 0 0,.func (.func 120) #[] #[.pointer (some ⟨b1,0,none⟩)]] Tryz.func142 (by kernel_rfl) (by kernel_rfl) (by kernel_rfl) λa ha hD=>?_;have w5:=hD;refine DM ?_;refine A9 ha hD ?_;refine wO (λ_=>trivial) (by kernel_rfl:cZ _ 0=some (some 2,.box 53 (.tmp 0),none)) (λc e=>by cases e) rfl (JW (cs:=[.slice none 0 0]) rfl rfl) ?_;rintro _ w1 ⟨rfl,hnew⟩;refine tQ (λ_=>trivial) (by kernel_rfl:cZ _ 1=some (some 4,.assign (.const (.slice none 0 0)),none)) (λc e=>by cases e) rfl (nJ rfl) ?_;refine A4 λa ha hD=>?_;obtain⟨bo,oD⟩:∃bo,bo=w₀.heap.size:=⟨_,rfl⟩
 rw[<-oD] at ha;have jw:=hnew.at_;rw[<-oD] at jw;have hsz:=hnew.size;show(K.aJ xu.c0).wpIn _ _ _ _ _ _;refine DM ?_;refine DM ?_;refine A9 ha hD ?_;refine tQ (λ_=>trivial) (by kernel_rfl:cZ _ 0=some (some 6,.move (.tmp 1),none)) (λc e=>by cases e) rfl (zV rfl) ?_;refine A4 λa ha hD=>?_;show(K.aJ (K.cl (K.aJ xu.c0))).wpIn _ _ _ _ _ _;refine M9 0 ?_;have hI0:AS 53 47 w₀ w1.heap.size bo [] w1:=⟨.slice none 0 0,hnew.ext,jw,bn.nil,λb hb=>by cases hb⟩
 refine UZ (t:=6) (gf:=120) (encs:=λx:av=>#[dg x]) (xs:=xs) (I:=AS 53 47 w₀ w1.heap.size bo) (by kernel_rfl) (ha.ev (x:=.tmp 6) rfl) (λargs w=>Tryz.call120 args w) (λx=>by rw[show wQ (K.cl (K.aJ (K.cl (K.aJ xu.c0))))=#[7] from by kernel_rfl];rfl) (λpre X Y h hE=>h.ext hE) (λpre X Y h hT=>h.turn (by omega) hT) hI0 ?_ ?_ ?_
 ·intro l k hk X hX;rw[show wQ (K.cl (K.aJ (K.cl (K.aJ xu.c0))))=#[7] from by kernel_rfl];have ha1:=mq.yield ha (t:=7) (by decide) (dg xs[k]);refine A9 ha1 rfl ?_;obtain⟨v,g1,g2,g3,g4⟩:=hX;have hL:=AS.lim g2 g3;refine wO (λ_=>trivial) (by kernel_rfl:cZ _ 0=some (some 5,.alloc 47,none)) (λc e=>by cases e) rfl (gJ (cs:=[.int .i64 0,.int .i64 0]) hL 3 (by kernel_rfl)) ?_;rintro _ vo ⟨bC,dw,rfl,hs1,ug,Gu⟩;refine wO (λ_=>trivial) (by kernel_rfl:cZ _ 1=some (none,.store 47 (.tmp 5) (.tmp 7),none)) (λc e=>by cases e) rfl (gB (vs:=aZ xs[k]) (n:=2) rfl rfl (by kernel_rfl) rfl rfl (g_ rfl) ug rfl) ?_;rintro _ HN ⟨rfl,hs2,ff⟩;have hE:Ext No X HN:=(hs1.mono (J:=[3]) (λc hc=>by cases hc)).trans hs2 (λc hc=>hc) |>.ext.mono (λb hb hm=>by
    simp only[List.mem_singleton] at hm;unfold pq at hm;split at hm
    ·cases hm
    ·split at hm<;>cases hm)
  refine A4 λa2 ha2 Wn=>?_;refine⟨λb fA hb Dg hc=>A7 Dg hE,(show AS _ _ _ _ _ _ _ from⟨v,g1,g2,g3,g4⟩:AS 53 47 w₀ w1.heap.size bo (xs.take k) X).ext hE,λEe Wo N4=>?_⟩;obtain⟨lt,fz,N5,hlt,HO,yg,rfl⟩:=Wo;have N6: (HN.putObj lt N5).heap[dw]?=some (.cells (aZ xs[k]).toArray 47):=A8 ff.at_ (λe=>by subst e;rw[ff.at_] at HO;cases HO;cases yg);generalize HN.putObj lt N5=Ee at N4 N6;clear g1 g2 g3 g4 hL hs1 ug Gu hs2 ff hE HO;obtain⟨v,g1,g2,g3,g4⟩:=N4;have hL:=AS.lim g2 g3;have hA:w1.heap.size<=Ee.heap.size:=by have:=wR g2;omega
  have Ag:dN Ee (pq bo v) 2 bo (.cells [v].toArray 53):=⟨by unfold pq;rw[if_pos rfl],g2⟩
  refine M9 1 ?_;refine A9 ha2 Wn ?_;refine tQ (λ_=>trivial) (by kernel_rfl:cZ _ 0=some (some 8,.load 53 (.tmp 2),none)) (λc e=>by cases e) rfl (vZ g2 (by kernel_rfl) rfl rfl) ?_;refine tQ (λ_=>trivial) (by kernel_rfl:cZ _ 1=some (some 9,.load 47 (.tmp 5),none)) (λc e=>by cases e) rfl (eL (n:=2) (vs:=aZ xs[k]) N6 (by kernel_rfl) (by kernel_rfl) rfl rfl rfl) ?_;refine wO (λ_=>trivial) (by kernel_rfl:cZ _ 2=some (some 10,.buildSlice 53 1 #[(0,.tmp 9)],none)) (λc e=>by cases e) rfl (fI (ys:=([xs[k]]:List av)) (e:=47) (bytes:=16) hL (by kernel_rfl) rfl (by decide) (by decide) ⟨rfl,⟨_,rfl,bY.2 rfl⟩,trivial⟩) ?_;rintro v10 qs ⟨hs4,g10,Wp⟩;have pT: (xs.take k).length=k:=by rw[List.length_take];omega
  refine wO (λ_=>trivial) (by kernel_rfl:cZ _ 3=some (some 11,.call {callee:=.builtin .append,args:=#[.tmp 8,.tmp 10],argTypes:=#[53,53]},none)) (λc e=>by cases e) rfl (fU (e:=47) (bytes:=16) Wp (by decide) rfl rfl (by kernel_rfl) (by decide) (g3.st hs4 (by decide) (by decide)) g10 (by simp only[List.length_cons,List.length_nil];omega) (by simp only[List.length_cons,List.length_nil];omega)) ?_;rintro v11 yN ⟨uh,hs5,g11,oo⟩;have Wq:=(Ag.st hs4 (by decide)).st hs5 (by decide);refine wO (λ_=>trivial) (by kernel_rfl:cZ _ 4=some (none,.store 53 (.tmp 2) (.tmp 11),none)) (λc e=>by cases e) rfl (k9 rfl rfl (by kernel_rfl) g11.one.1 g11.one.2 Wq (by simp)) ?_;rintro _ Wr ⟨rfl,fT,Ws⟩;refine A4 λa3 yx h9=>?_;have Wu:ay [2,5] Ee (pq bo v) Wr uh:=((hs4.mono (J:=[2,5]) (λc hc=>by cases hc)).trans (hs5.mono (J:=[2,5]) (λc hc=>by simp at hc⊢;omega)) (λc hc=>hc)).trans (fT.mono (J:=[2,5]) (λc hc=>by simp at hc⊢;omega)) (λc hc=>hc);have N7:=g11.st fT (by decide) (by decide);rw[<-List.take_succ_eq_append_getElem hk] at N7;obtain⟨r1,r2⟩:=AS.close (n0:=w1.heap.size) g1 g2 g3 g4 (by omega) (by omega) hA Wu Ws N7;exact⟨rfl,r1,r2⟩
 ·intro l qf J HM Wv hY hJ0;refine Wj (px:=px) HM (λpre X hX=>?_) hY hJ0;obtain⟨v,g1,_⟩:=Wv _ _ hX;exact⟨⟨show 0<2 from by decide,A7 h1 g1⟩,hx.c0.st (I:=[]) (C:=iC) (aP:=iC) ⟨g1.mono (λ_ _ h=>h.elim),λ_ _=>rfl⟩ (by decide)⟩
 intro D W PV hI hK;obtain⟨v,g1,g2,g3,g4⟩:=hI;show(K.aJ (K.aJ xu.c0)).wpIn _ _ _ _ _ _;refine DM ?_;refine A9 (a:={a with defers:=_}) (D:={target:=.collected D,args:=#[]}::a.defers) ha rfl ?_;refine tQ (λ_=>trivial) (by kernel_rfl:cZ _ 0=some (some 12,.load 53 (.tmp 2),none)) (λc e=>by cases e) rfl (vZ g2 (by kernel_rfl) rfl rfl) ?_;refine tQ (λ_=>trivial) (by kernel_rfl:cZ _ 1=some (some 4,.assign (.tmp 12),none)) (λc e=>by cases e) rfl (nJ rfl) ?_;refine A4 λa4 Ww Wx=>?_;refine U7 ?_;show LeavesInM _ _ _ _ _ _ _ _ _;rw[Wx,hD];refine⟨by simp,.inl ⟨_,_,rfl,run_takeDeferred hK,?_⟩⟩;refine⟨_,results_tmp (t:=4) (by kernel_rfl) _ _ _,_,rfl,?_⟩;have hv:a4.tmps.getD 4 undef=v:=Ww.ev (x:=.tmp 4) rfl;rw[hv];refine⟨λb=>if v.ownBlock=some b then j else C b,⟨?_,λb hb=>?_⟩,λb hb=>?_,?_⟩
 ·exact(M_ g1 (by omega)).mono (λ_ _ h=>h.elim)
 ·show(if v.ownBlock=some b then j else C b)=C b;rw[if_neg (λe=>by have:=g4 b e;omega)]
 ·show b<(W.putObj D _).heap.size;have hb: (if v.ownBlock=some b then j else C b)≠0:=hb;rw[World.putObj_size];split at hb
  · rename_i e;exact(g3.own.fA b e).2
  have:=hF b hb;have:=g1.size;omega
 refine g3.any (λb hb=>World.putObj_heap_other (λe=>?_)) (λb hb=>?_) hj
 ·subst e;obtain⟨cs,hcs⟩:=g3.cells hb;rw[hcs] at hK;cases hK
 show(if v.ownBlock=some b then j else C b)=j;rw[if_pos (show v.ownBlock=some b from hb)]
end
end Go.Proofs.YtdmgmlmlielfbaaGreat
set_option linter.unusedVariables false
set_option linter.unusedSimpArgs false
set_option maxRecDepth 100000
set_option maxHeartbeats 4000000
namespace Go.Proofs.YtdmgmlmlielfbaaGreat
open Go.K Go.K.bg
noncomputable section
theorem Wy {I:List Nat} {w w':World} {C aP:Nat->Nat} {b:Nat} {fA:Obj} (hT:ay I w (bE C) w' aP) (hF:aM w C) (hb:dN w' aP 3 b fA):jq w' C b fA:=by
 refine⟨?_,hb.at_⟩;by_cases h:C b=0
 ·omega
 have h1:=hT.col b (hF b h);have h2:=k_ C (show 1<3 by decide) b;rw[hb.col] at h1;omega
namespace N8
def c0:=cz Tryz.f83
end N8
theorem Wz {w₀:World} {C:Nat->Nat} {xs:List av} {px:Value} (hF:aM w₀ C) (hx:aG w₀ (aB C) xs px):Calls Tryz.prog 83 #[px] w₀ (bM λv w'=>∃b1,v=.func (.func 120) #[] #[.pointer (some ⟨b1,0,none⟩)]/\ay [] w₀ C w' C/\jq w' C b1 (.cells [px].toArray 53)):=by
 have bp:=hF;have hT:=z9 w₀ C;replace hF:=hF.bE;replace hx:=hx.c1;refine ct N8.c0 4 [px] Tryz.func83 ?_;show Run _ _ _ _ [(0,px)] _ _;refine aj (aq [nn 0,af 1] ?_);refine bT (au 1 (.box 53 (.tmp 0))) rfl rfl (eU (cs:=[px]) hF 3 rfl (hx.one rfl).1) ?_;rintro _ w1 ⟨eu,c4,rfl,s_1,hb,hF⟩;refine ax (au 2 (.assign (.const .nilFunc))) (λ_=>nJ rfl) ?_;refine ai.nil (aj (aq [af 0,af 1] ?_));refine ax (au 3 (.makeFunc (.func 120) #[] #[(.tmp 1)])) (λ_=>wu rfl rfl) ?_;refine aD 2 3 (ai.nil ?_);refine bN Tryz.func83 Tryz.results83 ?_;replace hT:=hT.t s_1;exact⟨_,rfl,hT.bW (by decide),Wy hT bp hb⟩
namespace N9
def c0:=cz Tryz.f119
end N9
theorem WA {w₀:World} {C:Nat->Nat} {xs:List av} {px:Value} {b1:Nat} (hF:aM w₀ C) (h1:w₀.heap[b1]?=some (.cells [px].toArray 53)) (hx:aG w₀ (aB C) xs px) (hlen:xs.length<=100000) (j:Nat) (hj:j≠0):Calls Tryz.prog 119 #[.func (.func 120) #[] #[.pointer (some ⟨b1,0,none⟩)]] w₀ (bM λv w'=>∃aP,ay [] w₀ C w' aP/\aM w' aP/\bn w' aP j 47 v xs):=by
 refine ct N9.c0 5 [.func (.func 120) #[] #[.pointer (some ⟨b1,0,none⟩)]] Tryz.func119 ?_;show Run _ _ _ _ [(0,.func (.func 120) #[] #[.pointer (some ⟨b1,0,none⟩)])] _ _;refine aj (aq [af 0] ?_);refine aR 2 (.slice none 0 0) (ai.nil (aj (aq [af 0,nn 1,af 2] ?_)));refine ah 3 0 ?_;refine dY (au 4 (.call {callee:=.value (.func 142),args:=#[(.const (.slice none 0 0)),(.tmp 3)],argTypes:=#[53,118]})) rfl rfl (cL Tryz.call142 rfl) (Wm hF h1 hx hlen j hj) ?_;rintro v4 w1 ⟨zh,s_1,WB,ho⟩;refine aD 2 4 (ai.nil ?_);refine bN Tryz.func119 Tryz.results119 ?_;exact⟨zh,s_1,WB,ho⟩
namespace N_
def c0:=cz Tryz.f82
end N_
theorem WC {w₀:World} {C:Nat->Nat} {xs:List av} {px:Value} {b1:Nat} (hF:aM w₀ C) (h1:w₀.heap[b1]?=some (.cells [px].toArray 53)) (hx:aG w₀ (aB C) xs px) (hlen:xs.length<=100000):Calls Tryz.prog 82 #[.func (.func 120) #[] #[.pointer (some ⟨b1,0,none⟩)],.func (.func 55) #[] #[]] w₀ (bM λv w'=>ay [] w₀ C w' C/\aG w' (aB C) (iq xs) v):=by
 have bp:=hF;have hT:=z9 w₀ C;replace hF:=hF.bE;replace hx:=hx.c1;replace h1:=jq.of h1 C;refine ct N_.c0 12 [.func (.func 120) #[] #[.pointer (some ⟨b1,0,none⟩)],.func (.func 55) #[] #[]] Tryz.func82 ?_;show Run _ _ _ _ [(0,.func (.func 120) #[] #[.pointer (some ⟨b1,0,none⟩)]),(1,.func (.func 55) #[] #[])] _ _;refine aj (aq [af 0] ?_);refine aR 4 (.slice none 0 0) (ai.nil (aj (aq [af 0,nn 1,af 2] ?_)));refine ah 6 0 ?_;refine bU 7 119 [6] [118] Tryz.call119 rfl (WA hF h1.at_ hx hlen 3 (by decide)) ?_;rintro HC w1 ⟨vr,s_1,hF,ho⟩;refine aD 5 7 (ai.nil (aj (aq [af 0,af 1,nn 2] ?_)));refine ah 8 5 (ah 9 1 ?_);refine bU 10 113 [8,9] [53,87] Tryz.call113 rfl (K4 hF ho (by omega)) ?_;rintro kz w2 ⟨rfl,s_2,ho,_⟩;refine ai.nil (aj (aq [af 0,af 1] ?_));refine ah 11 5 (aD 4 11 (ai.nil ?_));refine bN Tryz.func82 Tryz.results82 ?_;replace hT:=(hT.t s_1).t s_2;exact⟨hT.bW (by decide),ho.out hT bp (fP C) (λb _=>k_ C (by decide) b) (by rw[(tA _).length_eq];omega)⟩
end
end Go.Proofs.YtdmgmlmlielfbaaGreat
set_option linter.unusedVariables false
set_option linter.unusedSimpArgs false
set_option maxRecDepth 100000
set_option maxHeartbeats 4000000
namespace Go.Proofs.YtdmgmlmlielfbaaGreat
open Go.K Go.K.bg
noncomputable section
namespace Oa
def c0:=cz Tryz.f118
end Oa
theorem Oc {w₀:World} {C:Nat->Nat} {k:Nat} (hF:aM w₀ C) (hk:k<=1000000) (j:Nat) (hj:j≠0):Calls Tryz.prog 118 #[.slice none 0 0,.int .i64 k] w₀ (bM λv w'=>∃aP,ay [] w₀ C w' aP/\aM w' aP/\bn w' aP j 47 v ([]:List av)):=by
 have bp:=hF;have hT:=z9 w₀ C;replace hF:=hF.bE;refine ct Oa.c0 27 [.slice none 0 0,.int .i64 k] Tryz.func118 ?_;show Run _ _ _ _ [(0,.slice none 0 0),(1,.int .i64 k)] _ _;refine aj (aq [af 0] ?_);refine aR 4 (.slice none 0 0) (ai.nil (aj (aj (aq [af 0,af 1] ?_))));refine ah 5 1 ?_;refine ax (au 6 (.binOp .lss 3 (.tmp 5) (.const (.int .i64 0)) 3)) (λ_=>eX rfl rfl) ?_;refine ai.nil ?_;refine bI 6 rfl (λh6=>?_) (λh6=>?_)
 ·
  omega
 refine bk (aj (aj (aq [af 0,af 1,nn 2,af 3,af 4,af 5,af 6,af 7] ?_)));refine ah 8 1 (ah 9 0 ?_);refine jH (au 10 (.call {callee:=.builtin .cap,args:=#[(.tmp 9)],argTypes:=#[53]})) rfl rfl trivial (Lt rfl Tryz.underlying53) ?_;refine ah 11 0 ?_;refine ax (au 12 (.call {callee:=.builtin .len,args:=#[(.tmp 11)],argTypes:=#[53]})) (λ_=>vX rfl Tryz.underlying53) ?_;refine ax (au 13 (.binOp .sub 3 (.tmp 10) (.tmp 12) 3)) (λ_=>fu rfl rfl (by omega) (by omega)) ?_;refine ax (au 14 (.binOp .sub 3 (.tmp 8) (.tmp 13) 3)) (λ_=>fu rfl rfl (by omega) (by omega)) ?_;rw[show(k:Int)-(((0:Nat):Int)-((0:Nat):Int))=(k:Int) from by simp];refine aD 1 14 (ai.nil (aj (aq [af 0,af 1] ?_)));refine ah 15 1 ?_;refine ax (au 16 (.binOp .gtr 3 (.tmp 15) (.const (.int .i64 0)) 3)) (λ_=>fq rfl rfl) ?_;refine ai.nil ?_;refine bI 16 rfl (λdK=>?_) (λdK=>?_)
 ·
  have WD:0<k:=by omega
  refine aq [af 0,af 1,nn 2,af 3,af 4,nn 5,af 6,af 7,af 8,af 9] ?_;refine ah 17 0 (ah 18 0 ?_);refine jH (au 19 (.call {callee:=.builtin .cap,args:=#[(.tmp 18)],argTypes:=#[53]})) rfl rfl trivial (Lt rfl Tryz.underlying53) ?_;refine ax (au 20 (.slice 53 (.tmp 17) none (some (.tmp 19)) none)) (λ_=>Td rfl rfl Tryz.underlying53 (by kernel_rfl)) ?_;refine ah 21 1 ?_;refine bT (au 22 (.call {callee:=.builtin .append,args:=#[(.tmp 20),(.tmp 21)],argTypes:=#[53,3]})) rfl rfl (Ta (α:=av) (e:=47) (bytes:=16) (n:=k) (j:=3) hF (by decide) rfl rfl (by kernel_rfl) (by decide) (by decide) Tryz.underlying3 WD (by omega)) ?_;rintro _ w1 ⟨eu,w6,gc,rfl,s_1,hz,hF⟩;refine ah 23 0 ?_;refine ax (au 24 (.call {callee:=.builtin .len,args:=#[(.tmp 23)],argTypes:=#[53]})) (λ_=>vX rfl Tryz.underlying53) ?_;refine ax (au 25 (.slice 53 (.tmp 22) none (some (.tmp 24)) none)) (λ_=>Te rfl rfl Tryz.underlying53 (by kernel_rfl)) ?_;refine aD 0 25 (ai.nil (aj (aq [af 0,af 1] ?_)));refine ah 26 0 (aD 4 26 (ai.nil ?_));refine bN Tryz.func118 Tryz.results118 ?_;replace hT:=hT.t s_1;obtain⟨pz,nD,hFg,Bd,rQ⟩:=hz.kX hT bp (fP C) (λb _=>k_ C (by decide) b) (by decide) j hj;exact⟨pz,(hT.bW (by decide)).kX nD,hFg,rQ⟩
 refine bk (aj (aq [af 0,af 1] ?_));refine ah 26 0 (aD 4 26 (ai.nil ?_));refine bN Tryz.func118 Tryz.results118 ?_;exact⟨C,hT.bW (by decide),bp.st (hT.bW (by decide)),bn.nil⟩
namespace HP
def c0:=cz Tryz.f81
end HP
theorem ob {w₀:World} {C:Nat->Nat} {ll:List (List av)} {cV:Value} (hF:aM w₀ C) (hl:aG w₀ (aB C) ll cV) (hlen:ll.flatten.length<=100000) (j:Nat) (hj:j≠0):Calls Tryz.prog 81 #[cV] w₀ (bM λv w'=>∃aP,ay [] w₀ C w' aP/\aM w' aP/\bn w' aP j 47 v ll.flatten):=by
 have bp:=hF;have hT:=z9 w₀ C;replace hF:=hF.bE;replace hl:=hl.c1;refine ct HP.c0 36 [cV] Tryz.func81 ?_;show Run _ _ _ _ [(0,cV)] _ _;refine aj (aq [af 0] ?_);refine aR 2 (.slice none 0 0) (ai.nil (aj (aq [af 0] ?_)));refine aR 3 (.int .i64 0) (ai.nil (aj (aj (aq [af 0,af 1,af 2] ?_))));refine ah 9 0 ?_;refine zE 10 9 25 (hl.b8 rfl Tryz.underlying25) ?_;refine ig 11 (.int .i64 0) ?_;refine ai.nil (bF 0 ?_);refine cM (ι:=Nat×(Nat->Nat)) (I:=λx w=>x.1<=ll.length/\aM w x.2/\ay [2,3,4,5,6,7,8,9] w₀ (bE C) w x.2/\aG w (aB x.2) ll cV) (e:=λx=>[(0,cV),(3,.int .i64 ((ll.take x.1).flatten.length:Nat)),(9,cV),(10,.int .i64 ll.length),(11,.int .i64 x.1)]) (m:=λx=>ll.length-x.1) (cD:=(0,bE C)) (ak 0 (ak 3 (ak 9 (ak 10 (ak 11 (aY _)))))) ?_ ?_
 · exact⟨Nat.zero_le _,hF,hT,hl⟩
 intro⟨i,bC⟩ w1 hI cn;obtain⟨hi,hF,hT,hl⟩:=hI;try simp only at hi hF hT hl
 show Run _ _ _ _ [(0,cV),(3,.int .i64 ((ll.take i).flatten.length:Nat)),(9,cV),(10,.int .i64 ll.length),(11,.int .i64 i)] _ _;have hle:=hl.le;have hfl:=uX (ll:=ll) i;refine aj (aq [af 0] ?_);refine dm 12 3 11 10 (ai.nil (aj ?_));refine bI 12 rfl (λh12=>?_) (λh12=>?_)
 ·
  have hil:i<ll.length:=by omega
  have hft:=congrArg List.length (Di hil);rw[List.length_append] at hft;have HQ:=uX (ll:=ll) (i+1);refine bk (aj (bF 1 (aj (aq [af 0,nn 1,af 2] ?_))));refine cq 53 13 25 9 11 hl rfl (h:=?_);intro C9 ye iu;try simp only[aI] at iu
  refine jt (au 14 (.load 53 (.tmp 13))) rfl rfl trivial iu (by kernel_rfl) rfl rfl ?_;intro yf g14;refine aD 5 14 (ai.nil (aj (aq [af 0,af 1,af 2,af 3,af 4] ?_)));refine ah 15 3 (ah 16 5 ?_);refine zE 17 16 53 (g14.b8 rfl Tryz.underlying53) ?_;refine ax (au 18 (.binOp .add 3 (.tmp 15) (.tmp 17) 3)) (λ_=>iK rfl rfl (by omega) (by omega)) ?_;refine aD 3 18 (ai.nil (aj (aq [af 0,af 1] ?_)));refine ah 19 3 ?_;refine ax (au 20 (.binOp .lss 3 (.tmp 19) (.const (.int .i64 0)) 3)) (λ_=>eX rfl rfl) ?_;refine ai.nil ?_;refine bI 20 rfl (λjT=>?_) (λjT=>?_)
  ·
   omega
  refine bk (bS (aq [af 0,af 1] ?_));refine bZ 22 3 11 1 (ah 11 22 (ai.nil ?_));refine kp (ak 0 (aL 3 rfl (eq_int (by simp only;omega)) (ak 9 (ak 10 (aL 11 rfl (eq_int (by simp)) (aY _)))))) (cn (i+1,bC) _ ⟨(by first|omega|(simp only;omega)),hF,hT,hl⟩ (by first|omega|(simp only;omega)))
 have hil:i=ll.length:=by omega
 refine cA 0 ?_;refine aj (aq [af 0,nn 1,af 2] ?_);refine ah 23 3 ?_;refine dY (au 24 (.call {callee:=.value (.func 118),args:=#[(.const (.slice none 0 0)),(.tmp 23)],argTypes:=#[53,3]})) rfl rfl (cL Tryz.call118 rfl) (Oc hF (by omega) 3 (by decide)) ?_;rintro xw w2 ⟨rS,s_1,hF,ho⟩;refine aD 6 24 (ai.nil (aj (aj (aq [af 0,af 1,af 2] ?_))));refine ah 25 0 ?_;replace hl:=hl.t s_1;refine zE 26 25 25 (hl.b8 rfl Tryz.underlying25) ?_;refine ig 27 (.int .i64 0) ?_;refine ai.nil (bF 2 ?_);refine cM (ι:=Nat×Value×(Nat->Nat)) (I:=λx w=>x.1<=ll.length/\aM w x.2.2/\ay [2,3,4,5,6,7,8,9] w₀ (bE C) w x.2.2/\aG w (aB x.2.2) ll cV/\bn w x.2.2 3 47 x.2.1 ((ll.take x.1).flatten)) (e:=λx=>[(6,x.2.1),(25,cV),(26,.int .i64 ll.length),(27,.int .i64 x.1)]) (m:=λx=>ll.length-x.1) (cD:=(0,xw,rS)) (ak 6 (ak 25 (ak 26 (ak 27 (aY _))))) ?_ ?_
 ·
   replace hT:=hT.t s_1;exact⟨Nat.zero_le _,hF,hT,hl,ho⟩
 intro⟨k,eE,cO⟩ w3 hI d_;obtain⟨hk,hF,hT,hl,ho⟩:=hI;try simp only at hk hF hT hl ho
 show Run _ _ _ _ [(6,eE),(25,cV),(26,.int .i64 ll.length),(27,.int .i64 k)] _ _;have hle:=hl.le;have hfl:=uX (ll:=ll) k;refine aj (aq [af 0] ?_);refine dm 28 3 27 26 (ai.nil (aj ?_));refine bI 28 rfl (λfS=>?_) (λfS=>?_)
 ·
  have aK:k<ll.length:=by omega
  have hft:=Di aK;have HR:=congrArg List.length hft;rw[List.length_append] at HR;have HQ:=uX (ll:=ll) (k+1);refine bk (aj (bF 3 (aj (aq [af 0,nn 1,af 2] ?_))));refine cq 53 29 25 25 27 hl rfl (h:=?_);intro Bk Bl lI;try simp only[aI] at lI
  refine jt (au 30 (.load 53 (.tmp 29))) rfl rfl trivial lI (by kernel_rfl) rfl rfl ?_;intro v30 eF;refine aD 8 30 (ai.nil (aq [af 0,af 1,nn 2,af 3] ?_));refine ah 31 6 (ah 32 8 ?_);refine bT (au 33 (.call {callee:=.builtin .append,args:=#[(.tmp 31),(.tmp 32)],argTypes:=#[53,53]})) rfl rfl (fU (e:=47) (bytes:=16) hF (by decide) rfl rfl (by kernel_rfl) (by decide) ho eF (by omega) (by omega)) ?_;rintro v33 w4 ⟨gw,s_2,ho,hF⟩;refine aD 6 33 (ai.nil (bS (aq [af 0,af 1] ?_)));refine bZ 34 3 27 1 (ah 27 34 (ai.nil ?_));replace hT:=hT.t s_2;replace hl:=hl.t s_2;refine kp (ak 6 (ak 25 (ak 26 (aL 27 rfl (eq_int (by simp)) (aY _))))) (d_ (k+1,v33,gw) _ ⟨(by first|omega|(simp only;omega)),hF,hT,hl,(by simp only;rw[hft];exact ho)⟩ (by first|omega|(simp only;omega)))
 have aK:k=ll.length:=by omega
 rw[aK,List.take_length] at ho;refine cA 2 ?_;refine aj (aq [af 0,af 1] ?_);refine ah 35 6 (aD 2 35 (ai.nil ?_));refine bN Tryz.func81 Tryz.results81 ?_;obtain⟨pz,nD,hFg,Bd,rQ⟩:=ho.kX hT bp (fP C) (λb _=>k_ C (by decide) b) (by decide) j hj;exact⟨pz,(hT.bW (by decide)).kX nD,hFg,rQ⟩
theorem WE {w₀:World} {C:Nat->Nat} {ll:List (List av)} {cV:Value} (hF:aM w₀ C) (hl:aG w₀ (aB C) ll cV) (hlen:ll.flatten.length<=100000):Calls Tryz.prog 81 #[cV] w₀ (bM λv w'=>ay [] w₀ C w' C/\aG w' (aB C) ll.flatten v):=by
 have bp:=hF;have hT:=z9 w₀ C;replace hF:=hF.bE;replace hl:=hl.c1;refine ct HP.c0 36 [cV] Tryz.func81 ?_;show Run _ _ _ _ [(0,cV)] _ _;refine aj (aq [af 0] ?_);refine aR 2 (.slice none 0 0) (ai.nil (aj (aq [af 0] ?_)));refine aR 3 (.int .i64 0) (ai.nil (aj (aj (aq [af 0,af 1,af 2] ?_))));refine ah 9 0 ?_;refine zE 10 9 25 (hl.b8 rfl Tryz.underlying25) ?_;refine ig 11 (.int .i64 0) ?_;refine ai.nil (bF 0 ?_);refine cM (ι:=Nat×(Nat->Nat)) (I:=λx w=>x.1<=ll.length/\aM w x.2/\ay [2,3,4,5,6,7,8,9] w₀ (bE C) w x.2/\aG w (aB x.2) ll cV) (e:=λx=>[(0,cV),(3,.int .i64 ((ll.take x.1).flatten.length:Nat)),(9,cV),(10,.int .i64 ll.length),(11,.int .i64 x.1)]) (m:=λx=>ll.length-x.1) (cD:=(0,bE C)) (ak 0 (ak 3 (ak 9 (ak 10 (ak 11 (aY _)))))) ?_ ?_
 · exact⟨Nat.zero_le _,hF,hT,hl⟩
 intro⟨i,bC⟩ w1 hI cn;obtain⟨hi,hF,hT,hl⟩:=hI;try simp only at hi hF hT hl
 show Run _ _ _ _ [(0,cV),(3,.int .i64 ((ll.take i).flatten.length:Nat)),(9,cV),(10,.int .i64 ll.length),(11,.int .i64 i)] _ _;have hle:=hl.le;have hfl:=uX (ll:=ll) i;refine aj (aq [af 0] ?_);refine dm 12 3 11 10 (ai.nil (aj ?_));refine bI 12 rfl (λh12=>?_) (λh12=>?_)
 ·
  have hil:i<ll.length:=by omega
  have hft:=congrArg List.length (Di hil);rw[List.length_append] at hft;have HQ:=uX (ll:=ll) (i+1);refine bk (aj (bF 1 (aj (aq [af 0,nn 1,af 2] ?_))));refine cq 53 13 25 9 11 hl rfl (h:=?_);intro C9 ye iu;try simp only[aI] at iu
  refine jt (au 14 (.load 53 (.tmp 13))) rfl rfl trivial iu (by kernel_rfl) rfl rfl ?_;intro yf g14;refine aD 5 14 (ai.nil (aj (aq [af 0,af 1,af 2,af 3,af 4] ?_)));refine ah 15 3 (ah 16 5 ?_);refine zE 17 16 53 (g14.b8 rfl Tryz.underlying53) ?_;refine ax (au 18 (.binOp .add 3 (.tmp 15) (.tmp 17) 3)) (λ_=>iK rfl rfl (by omega) (by omega)) ?_;refine aD 3 18 (ai.nil (aj (aq [af 0,af 1] ?_)));refine ah 19 3 ?_;refine ax (au 20 (.binOp .lss 3 (.tmp 19) (.const (.int .i64 0)) 3)) (λ_=>eX rfl rfl) ?_;refine ai.nil ?_;refine bI 20 rfl (λjT=>?_) (λjT=>?_)
  ·
   omega
  refine bk (bS (aq [af 0,af 1] ?_));refine bZ 22 3 11 1 (ah 11 22 (ai.nil ?_));refine kp (ak 0 (aL 3 rfl (eq_int (by simp only;omega)) (ak 9 (ak 10 (aL 11 rfl (eq_int (by simp)) (aY _)))))) (cn (i+1,bC) _ ⟨(by first|omega|(simp only;omega)),hF,hT,hl⟩ (by first|omega|(simp only;omega)))
 have hil:i=ll.length:=by omega
 refine cA 0 ?_;refine aj (aq [af 0,nn 1,af 2] ?_);refine ah 23 3 ?_;refine dY (au 24 (.call {callee:=.value (.func 118),args:=#[(.const (.slice none 0 0)),(.tmp 23)],argTypes:=#[53,3]})) rfl rfl (cL Tryz.call118 rfl) (Oc hF (by omega) 3 (by decide)) ?_;rintro xw w2 ⟨rS,s_1,hF,ho⟩;refine aD 6 24 (ai.nil (aj (aj (aq [af 0,af 1,af 2] ?_))));refine ah 25 0 ?_;replace hl:=hl.t s_1;refine zE 26 25 25 (hl.b8 rfl Tryz.underlying25) ?_;refine ig 27 (.int .i64 0) ?_;refine ai.nil (bF 2 ?_);refine cM (ι:=Nat×Value×(Nat->Nat)) (I:=λx w=>x.1<=ll.length/\aM w x.2.2/\ay [2,3,4,5,6,7,8,9] w₀ (bE C) w x.2.2/\aG w (aB x.2.2) ll cV/\bn w x.2.2 3 47 x.2.1 ((ll.take x.1).flatten)) (e:=λx=>[(6,x.2.1),(25,cV),(26,.int .i64 ll.length),(27,.int .i64 x.1)]) (m:=λx=>ll.length-x.1) (cD:=(0,xw,rS)) (ak 6 (ak 25 (ak 26 (ak 27 (aY _))))) ?_ ?_
 ·
   replace hT:=hT.t s_1;exact⟨Nat.zero_le _,hF,hT,hl,ho⟩
 intro⟨k,eE,cO⟩ w3 hI d_;obtain⟨hk,hF,hT,hl,ho⟩:=hI;try simp only at hk hF hT hl ho
 show Run _ _ _ _ [(6,eE),(25,cV),(26,.int .i64 ll.length),(27,.int .i64 k)] _ _;have hle:=hl.le;have hfl:=uX (ll:=ll) k;refine aj (aq [af 0] ?_);refine dm 28 3 27 26 (ai.nil (aj ?_));refine bI 28 rfl (λfS=>?_) (λfS=>?_)
 ·
  have aK:k<ll.length:=by omega
  have hft:=Di aK;have HR:=congrArg List.length hft;rw[List.length_append] at HR;have HQ:=uX (ll:=ll) (k+1);refine bk (aj (bF 3 (aj (aq [af 0,nn 1,af 2] ?_))));refine cq 53 29 25 25 27 hl rfl (h:=?_);intro Bk Bl lI;try simp only[aI] at lI
  refine jt (au 30 (.load 53 (.tmp 29))) rfl rfl trivial lI (by kernel_rfl) rfl rfl ?_;intro v30 eF;refine aD 8 30 (ai.nil (aq [af 0,af 1,nn 2,af 3] ?_));refine ah 31 6 (ah 32 8 ?_);refine bT (au 33 (.call {callee:=.builtin .append,args:=#[(.tmp 31),(.tmp 32)],argTypes:=#[53,53]})) rfl rfl (fU (e:=47) (bytes:=16) hF (by decide) rfl rfl (by kernel_rfl) (by decide) ho eF (by omega) (by omega)) ?_;rintro v33 w4 ⟨gw,s_2,ho,hF⟩;refine aD 6 33 (ai.nil (bS (aq [af 0,af 1] ?_)));refine bZ 34 3 27 1 (ah 27 34 (ai.nil ?_));replace hT:=hT.t s_2;replace hl:=hl.t s_2;refine kp (ak 6 (ak 25 (ak 26 (aL 27 rfl (eq_int (by simp)) (aY _))))) (d_ (k+1,v33,gw) _ ⟨(by first|omega|(simp only;omega)),hF,hT,hl,(by simp only;rw[hft];exact ho)⟩ (by first|omega|(simp only;omega)))
 have aK:k=ll.length:=by omega
 rw[aK,List.take_length] at ho;refine cA 2 ?_;refine aj (aq [af 0,af 1] ?_);refine ah 35 6 (aD 2 35 (ai.nil ?_));refine bN Tryz.func81 Tryz.results81 ?_;exact⟨hT.bW (by decide),ho.out hT bp (fP C) (λb _=>k_ C (by decide) b) (by omega)⟩
end
end Go.Proofs.YtdmgmlmlielfbaaGreat
