/- Steps through functions of the program. -/
import Derived.Test.YtmdhggfehknjjaaGreatJY1R3
import Derived.Test.YtmdhggfehknjjaaGreatJE3E8
set_option maxRecDepth 100000
set_option maxHeartbeats 4000000
namespace Go.Proofs.YtmdhggfehknjjaaGreat
open Go.K Go.K.aZ
noncomputable section
namespace ada
def c0:=cw Tryz.f147
def o1:=di (cl (aC c0))
end ada
theorem adb {w₀:World} {C:Nat->Nat} {x y:CC} (hF:aL w₀ C):Calls Tryz.prog 147 #[.agg (qO x).toArray,.agg (qO y).toArray] w₀ (bH λv w'=>v=.int .i64 (wD x y)/\ax [] w₀ C w' C):=by
 have bq:=hF;have hT:=z9 w₀ C;replace hF:=hF.bk;refine cg Tryz.func147 ?_;refine aG 2 ?_ [4];refine bD (eX (cs:=qO x) hF 3 rfl rfl) ?_;rintro _ w1 ⟨eP,ct,rfl,s_1,hx,hF⟩;refine bD (eX (cs:=qO y) hF 3 rfl rfl) ?_;rintro _ w2 ⟨dm,ew,rfl,s_2,hy,hF⟩;refine ay 3 ?_;refine cm [] (dm) [1,3,5,7,11,13,15,17,8,18,20,22,25] b5 ?_;intro w3 aB;have hR:=ax.refl [] w3 (dm);refine aj 1 ?_ [0];replace hx:=(hx.t s_2).t aB;refine dn 2 (bh x.1) hx.sz ?_;refine aj 1 ?_ [0];replace hy:=hy.t aB;refine dn 2 (bh y.1) hy.sz ?_;refine aj 1 ?_ [2];refine dn 2 (bh x.2) hx.sz ?_;refine aj 1 ?_ [2];refine dn 2 (bh y.2) hy.sz ?_;replace hF:=hF.st aB;refine dC Tryz.call53 (vT (x:=x.1) (y:=y.1) hF) ?_;rintro j4 w4 ⟨rfl,aM⟩;refine⟨(hR.trans aM aF).ext,?_⟩;replace hF:=hF.st aM;refine dC Tryz.call53 (vT (x:=x.2) (y:=y.2) hF) ?_;rintro mP ez ⟨rfl,aV⟩;replace hR:=hR.t aM;refine⟨(hR.trans aV aF).ext,?_⟩;replace hF:=hF.st aV;refine ej (fk (ys:=([jq x.1 y.1,jq x.2 y.2]:List Int)) (e:=3) (bytes:=8) hF aq rfl ai ai ⟨rfl,⟨_,rfl,jc.2 rfl⟩,rfl,⟨_,rfl,jc.2 rfl⟩,trivial⟩) ?_;rintro vU fE ⟨aX,g15,hF⟩;replace hR:=hR.t aV;refine⟨(hR.trans aX aF).ext,?_⟩;refine dC Tryz.call96 (Ia g15) ?_;rintro mE w7 ⟨rfl,rfl⟩;replace hR:=hR.t aX;refine⟨hR.ext,?_⟩;refine ay 2 ?_;refine bI Tryz.func147 ?_;replace hT:=(((((hT.t s_1).t s_2).t aB).t aM).t aV).t aX;exact⟨rfl,hT.bN ai⟩
theorem OJ (x y:CC):Go.Proofs.ltOf wD x y=!qQ y x:=by unfold qQ Go.Proofs.ltOf;simp
theorem JS {x y:CC}:Go.Proofs.ltOf wD x y=true↔qP x y:=by rw[OJ,Bool.not_eq_true',Bool.eq_false_iff,ne_eq,wE,Classical.not_not]
theorem ade:Go.Sort.SWO (Go.Proofs.ltOf wD) where
 irrefl x:=by rw[Bool.eq_false_iff,ne_eq,JS];exact Dx x
 trans x y z h h':=JS.2 (Fw (JS.1 h) (JS.1 h'))
 ntrans x y z h h':=by
  rw[OJ,Bool.not_eq_false'] at h h'⊢;exact TA z y x h' h
theorem adf (x y:CC) (h:Go.Proofs.ltOf wD x y=false) (h':Go.Proofs.ltOf wD y x=false):x=y:=by
 rw[OJ,Bool.not_eq_false'] at h h';exact Tz x y h' h
theorem adg {w:World} {C:Nat->Nat} {j:Nat} {v:Value} {ys:List CC} (hF:aL w C) (ho:bg w C j 138 v ys) (hlen:ys.length<=140737488355328):
  Calls Tryz.prog 146 #[v,.func (.func 147) #[] #[]] w (bH λu w'=>u=.tuple #[]/\ax [j] w C w' C/\bg w' C j 138 v (sortCC ys)/\aL w' C):=
 QS (enc:=qO) (cf:=wD) Go.Proofs.Tryz.sortCC (λw=>Tryz.isAgg138 w) (λw=>Tryz.sizeOf138 w)
  (λh M x vs=>IQ) (λx=>rfl) ai (λx u hu=>by simp only[qO,List.mem_cons,List.not_mem_nil,or_false] at hu;rcases hu with rfl|rfl|rfl|rfl<;>rfl) ade adf (λargs w=>Tryz.call147 args w)
  (λW x y=>(adb (C:=λ_=>0) (λb hb=>absurd rfl hb)).mono (by rintro e w' ⟨u,rfl,rfl,hs⟩;exact⟨_,rfl,rfl,hs.ext.mono (λb _ hb=>by simp at hb)⟩)) hF ho hlen
namespace adh
def c0:=cw Tryz.f148
def kP:=(cl (aC (cl (aC (aC c0)))))
def nu:=(cl (cl (cl (aC (cl kP)))))
def ru:=di nu
def rI:=(aC (cl (cl (aC (cl kP)))))
def A7:=(cl (aC (cl (aC (cl rI)))))
def A8:=(cl (cl (cl (aC (cl A7)))))
def EW:=di A8
end adh
theorem adi {w₀:World} {C:Nat->Nat} {j:Nat} {v:Value} {xs:List CC} (hF:aL w₀ C) (hj:j≠0) (ho:bg w₀ C j 138 v xs) (hlen:xs.length<=140737488355328):
    Calls Tryz.prog 148 #[v] w₀ (bH λu w'=>ax [j] w₀ C w' C/\bg w' C j 138 u (iG xs)/\aL w' C):=by
 have hT:=ax.refl [j] w₀ C;refine cg Tryz.func148 ?_;refine aG 8 ?_ [1,7];refine dE ho.ln ?_;refine ay 2 ?_;refine bF 8 rfl (λh8=>?_) (λh8=>?_)
 ·
  have hx:iG xs=xs:=by
    match xs,h8 with
    |[],_=>rfl
    |[a],_=>rfl
    |a::b::l,h=>simp at h;omega
  refine aI 5 ?_ [3];refine bI Tryz.func148 ?_;exact⟨hT,by rw[hx];exact ho,hF⟩
 have h2:2<=xs.length:=by omega
 have LU:iG (xs.take 1)=xs.take 1:=by
   obtain⟨a,l,rfl⟩:∃a l,xs=a::l:=by cases xs with|nil=>simp at h2|cons a l=>exact⟨a,l,rfl⟩
   simp[iG]
 refine aI 7 ?_ [1];refine cH (ι:=Nat) (I:=λx w=>1<=x/\x<=xs.length/\iG (xs.take x)=xs.take x/\aL w C/\ax [j] w₀ C w C/\bg w C j 138 v xs) (e:=λx=>[(0,v),(3,.int .i64 x)]) (m:=λx=>xs.length-x) (cC:=1) (af 0 (af 3 (aR _))) ?_ ?_
 · exact⟨Nat.le_refl _,by first|omega|(simp only;omega),LU,hF,hT,ho⟩
 intro k w1 hI bV;obtain⟨qA,hk,hc,hF,hT,ho⟩:=hI;try simp only at qA hk hc hF hT ho
 show Run _ _ _ _ [(0,v),(3,.int .i64 k)] _ _;refine aG 5 ?_ [15];refine dE ho.ln ?_;refine ay 2 ?_;refine bF 13 rfl (λk5=>?_) (λk5=>?_)
 ·
  have aA:k<xs.length:=by omega
  have ux:=Ho qA aA;refine aI 4 ?_;refine cm [] (C) [1,3,5,7,9,11,13,15,17,19] b5 ?_;intro w2 s_1;refine aj 2 ?_;replace ho:=ho.t s_1;refine dx ho ?_;intro g18 LV;refine p5 ho LV ?_;intro _ xG g19;refine aj 3 ?_;refine dx ho ?_;intro g23 EX;refine p5 ho EX ?_;intro _ v24 g24;obtain rfl:=Bs.1 g19;obtain rfl:=Bs.1 g24;refine bK (λ_=>oz (a:=_) (b:=_) (ML Tryz.underlying138 ai ai aq Tryz.underlying55 ai ai aq Tryz.underlying3 aq aq) aq rfl rfl) ?_;refine ay 1 ?_;refine bF 25 rfl (λje=>?_) (λje=>?_)
  ·
   have hd:xs[k-1]'ah=xs[k]:=by
     have e: ((k:Int)-1).toNat=k-1:=by omega
     simp only[e] at je;exact je.symm
   rw[if_pos hd,hc] at ux;refine aG 4 ?_ [15];refine nz ?_;refine Hh (e':=138) (iT 28 (.slice 136 26 (some 27) none none)) rfl rfl ho rfl aq rfl ah ah ?_;intro v28 iz;try simp only[fP] at iz
   obtain⟨Z2,sA⟩:=ho.Hf ah;refine cK ?_;refine ay 8 ?_ [1];refine cH (ι:=Nat×Nat×(List CC)) (I:=λx w=>1<=x.1/\k+x.1<=xs.length/\x.2.2.length=xs.length/\x.2.1+1<=k+x.1/\(∀p (hp:p<xs.length) (hp2:p<x.2.2.length),k+x.1<=p+1->x.2.2[p]=xs[p])/\x.2.2.take x.2.1=iG (xs.take (k+x.1))/\aL w C/\ax [j] w₀ C w C/\bg w C j 138 v x.2.2) (e:=λx=>[(0,v),(3,.int .i64 x.2.1),(4,v28),(5,.int .i64 x.1)]) (m:=λx=>xs.length-k-x.1) (cC:=(1,k,xs)) (af 0 (af 3 (af 4 (af 5 (aR _))))) ?_ ?_
   ·
     replace hF:=hF.st s_1;replace hT:=hT.t s_1;exact⟨Nat.le_refl _,by first|omega|(simp only;omega),rfl,by first|omega|(simp only;omega),λp _ _ _=>rfl,ux.symm,hF,hT,ho⟩
   intro⟨q,i,ys⟩ w3 hI ei;obtain⟨hq1,hq,xH,hi,hys,l6,hF,hT,ho⟩:=hI;try simp only at hq1 hq xH hi hys l6 hF hT ho
   show Run _ _ _ _ [(0,v),(3,.int .i64 i),(4,v28),(5,.int .i64 q)] _ _;refine aG 5 ?_ [15];refine dE iz.ln ?_;refine ay 2 ?_;refine bF 32 rfl (λg_=>?_) (λg_=>?_)
   ·
    have iA:k+q<xs.length:=by omega
    have xI:=Ho (l:=xs) (k:=k+q) ah iA;have e1:k+((q:Int)-1).toNat=k+q-1:=by omega
    refine aI 4 ?_;refine cm [] (C) [1,3,5,7,9,11,13,15,17,19] b5 ?_;intro w4 s_2;refine aj 2 ?_;refine bK (λ_=>Cu (e':=138) iz sA aq rfl rfl ah ah) ?_;try simp only[fP]
    replace ho:=ho.t s_2;refine p5 ho sA ?_;intro _ Ih xJ;refine aj 3 ?_;refine bK (λ_=>Cu (e':=138) iz sA aq rfl rfl ah ah) ?_;try simp only[fP]
    refine p5 ho sA ?_;intro _ vW vX;obtain rfl:=Bs.1 xJ;obtain rfl:=Bs.1 vX;refine bK (λ_=>TJ (a:=_) (b:=_) (ML Tryz.underlying138 ai ai aq Tryz.underlying55 ai ai aq Tryz.underlying3 aq aq) aq rfl rfl) ?_;refine ay 1 ?_;refine bF 44 rfl (λjP=>?_) (λjP=>?_)
    ·
     have r1:=hys (k+q) ah ah ah;have r2:=hys (k+q-1) ah ah ah;have hd:¬xs[k+q-1]'ah=xs[k+q]:=by
       simp only[e1,r1,r2] at jP;exact λe=>jP e.symm
     rw[if_neg hd,<-l6] at xI;refine aG 6 ?_ [95];refine bK (λ_=>Cu (e':=138) iz sA aq rfl rfl ah ah) ?_;try simp only[fP]
     refine lI ho sA ?_;intro _ v50 hU;refine dx ho ?_;intro iY pG;refine cq (iU ho pG (by first|omega|(simp only[fP];omega)) rfl rfl aq hU) ?_;rintro _ ez ⟨rfl,aB,ho⟩;replace hT:=hT.t s_2;replace hT:=hT.trans aB (by simp<;>omega);refine ay 12 ?_ [7,7];replace hF:=(hF.st s_2).st aB;refine kp (af 0 (aH 3 rfl (eq_int aF) (af 4 (aH 5 rfl (eq_int aF) (aR _))))) (ei (q+1,i+1,ys.set i ys[k+q]) _ ⟨aJ,aJ,(by simp only[List.length_set];exact xH),aJ,(λp hp hp2 h=>by simp only[List.getElem_set];rw[if_neg ah];exact hys p hp ah ah),(by simp only;rw[List.take_succ_eq_append_getElem (by rw[List.length_set];omega),List.take_set_of_le (Nat.le_refl i),List.getElem_set_self,r1];exact xI.symm),hF,hT,ho⟩ aJ)
    have r1:=hys (k+q) ah ah ah;have r2:=hys (k+q-1) ah ah ah;have hd:xs[k+q-1]'ah=xs[k+q]:=by
      simp only[e1,r1,r2] at jP;exact(Classical.not_not.1 jP).symm
    rw[if_pos hd,<-l6] at xI;refine aI 7 ?_ [7];replace hF:=hF.st s_2;replace hT:=hT.t s_2;refine kp (af 0 (af 3 (af 4 (aH 5 rfl (eq_int aF) (aR _))))) (ei (q+1,i,ys) _ ⟨aJ,aJ,aJ,aJ,(λp hp hp2 h=>hys p hp hp2 (by simp only at h;omega)),xI.symm,hF,hT,ho⟩ aJ)
   have iA:k+q=xs.length:=by omega
   rw[iA,List.take_length] at l6;refine aG 5 ?_ [7];refine nz ?_;refine Hh (e':=138) (iT 56 (.slice 136 54 (some 55) none none)) rfl rfl ho rfl aq rfl ah ah ?_;intro LW A9;try simp only[fP] at A9
   obtain⟨Z3,Z4⟩:=ho.Hf ah;refine cK ?_;refine cq (Qj (x0:=(⟨⟨0,0⟩,⟨0,0⟩⟩:CC)) (zs:=[.int .i64 0,.int .i64 0,.int .i64 0,.int .i64 0]) ho A9 ah ah Tryz.underlying136 aq (λh M=>q3) rfl) ?_;rintro _ wc ⟨aM,ho⟩;replace hT:=hT.trans aM (by simp<;>omega);refine bQ 5 ?_ [15];have Z5: (ys.take i++List.replicate (ys.length-i) (⟨⟨0,0⟩,⟨0,0⟩⟩:CC)).length=xs.length:=by simp;omega
   refine nz ?_;refine KP (e':=138) (iT 59 (.slice 136 57 none (some 58) none)) rfl rfl ho rfl aq rfl ah ah ah ?_;intro v59 uy;try simp only[fP] at uy
   refine cK ?_;refine ay 2 ?_;refine bI Tryz.func148 ?_;rw[List.take_left' rT,l6] at uy;replace hF:=hF.st aM;exact⟨hT,uy,hF⟩
  have hd:¬xs[k-1]'ah=xs[k]:=by
    have e: ((k:Int)-1).toNat=k-1:=by omega
    simp only[e] at je;exact λe=>je e.symm
  rw[if_neg hd,hc,<-List.take_succ_eq_append_getElem aA] at ux;refine aI 7 ?_ [7];replace hF:=hF.st s_1;replace hT:=hT.t s_1;refine kp (af 0 (aH 3 rfl (eq_int aF) (aR _))) (bV (k+1) _ ⟨aJ,aJ,ux,hF,hT,ho⟩ aJ)
 have aA:k=xs.length:=by omega
 subst aA;rw[List.take_length] at hc;refine aI 6 ?_ [3];refine bI Tryz.func148 ?_;rw[hc];exact⟨hT,ho,hF⟩
namespace adj
def c0:=cw Tryz.f88
end adj
theorem VN {w₀:World} {C:Nat->Nat} {s:List ak} {ds:List bC} {vs cO:Value} (hF:aL w₀ C) (hs0:av w₀ (au C) s vs) (hz:av w₀ (au C) ds cO) (zZ:ds.length<=4096):Calls Tryz.prog 88 #[vs,cO] w₀ (bH λv w'=>ax [] w₀ C w' C/\av w' (au C) (tD s ds) v):=by
 have bq:=hF;have hT:=z9 w₀ C;replace hF:=hF.bk;replace hs0:=hs0.c1;replace hz:=hz.c1;refine cg Tryz.func88 ?_;refine aG 12 ?_ [1,1,7];refine dE hz.ln ?_;refine ay 3 ?_;refine cH (ι:=Nat×Value×(Nat->Nat)) (I:=λx w=>x.1<=ds.length/\aL w x.2.2/\ax [2,3,4,5,6,7,8,9] w₀ (bk C) w x.2.2/\av w (au x.2.2) s vs/\av w (au x.2.2) ds cO/\bg w x.2.2 4 138 x.2.1 (tC s (ds.take x.1))) (e:=λx=>[(0,vs),(5,x.2.1),(8,cO),(9,.int .i64 ds.length),(10,.int .i64 x.1)]) (m:=λx=>ds.length-x.1) (cC:=(0,.slice none 0 0,bk C)) (af 0 (af 5 (af 8 (af 9 (af 10 (aR _)))))) ?_ ?_
 · exact⟨Nat.zero_le _,hF,hT,hs0,hz,bg.nil⟩
 intro⟨k,cM,a_⟩ w1 hI bV;obtain⟨hk,hF,hT,hs0,hz,ho⟩:=hI;try simp only at hk hF hT hs0 hz ho
 show Run _ _ _ _ [(0,vs),(5,cM),(8,cO),(9,.int .i64 ds.length),(10,.int .i64 k)] _ _;have hle:=hz.le;have hel:=TD (s:=s) (ds:=ds) k;refine aI 5 ?_ [1];refine bF 11 rfl (λkQ=>?_) (λkQ=>?_)
 ·
  have aA:k<ds.length:=by omega
  have eV:=Cm (s:=s) aA;refine aG 5 ?_ [1];refine bn hz ?_;intro _ Uf DJ h12;refine iq h12 ?_;intro Ug g13;obtain rfl:=zb.1 g13;refine bD (fD (cs:=[.int .i64 0,.int .i64 0,.int .i64 0,.int .i64 0,.int .i64 0,.int .i64 0,.bool false]) hF 5 aq) ?_;rintro _ w2 ⟨dm,ew,rfl,s_1,bW,hF⟩;refine cq (eO (vs:=ni (ds[k]'aA)) (n:=7) rfl rfl aq rfl rfl (jf rfl) bW rfl) ?_;rintro _ w3 ⟨rfl,s_2,bW⟩;refine ay 2 ?_;by_cases hS: (ds[k]'aA).same=true
  ·
   refine aG 2 ?_ [20285,6];refine bU bW.at_ ?_;rw[hS];refine ay 21 ?_ [3];rw[if_neg (by unfold zQ;simp[hS])] at eV;replace hT:=(hT.t s_1).t s_2;replace hs0:=(hs0.t s_1).t s_2;replace hz:=(hz.t s_1).t s_2;replace ho:=(ho.t s_1).t s_2;replace hF:=hF.st s_2;refine kp (af 0 (af 5 (af 8 (af 9 (aH 10 rfl (eq_int aF) (aR _)))))) (bV (k+1,cM,dm) _ ⟨aJ,hF,hT,hs0,hz,(by simp only;rw[eV];exact ho)⟩ aJ)
  by_cases hA: (ds[k]'aA).A∈s
  ·
   by_cases hB: (ds[k]'aA).B∈s
   ·
    refine aG 2 ?_ [20285,6];refine bU bW.at_ ?_;rw[(Bool.eq_false_iff.2 hS)];refine aj 4 ?_ [0];refine cu 2 (bh (ds[k]'aA).A) bW.at_ ?_;replace hs0:=(hs0.t s_1).t s_2;replace hF:=hF.st s_2;refine bZ Tryz.call49 (jC (c:=(ds[k]'aA).A) hF hs0) ?_;rintro j4 w4 ⟨rfl,aB⟩;rw[jE,decide_eq_true hA];refine aj 4 ?_ [2];replace bW:=bW.t aB;refine cu 2 (bh (ds[k]'aA).B) bW.at_ ?_;replace hF:=hF.st aB;replace hs0:=hs0.t aB;refine bZ Tryz.call49 (jC (c:=(ds[k]'aA).B) hF hs0) ?_;rintro mP ez ⟨rfl,aM⟩;rw[jE,decide_eq_true hB];refine bQ 6 ?_ [299,0];replace bW:=bW.t aM;refine cu 2 (bh (ds[k]'aA).A) bW.at_ ?_;refine aj 1 ?_ [2];refine cu 2 (bh (ds[k]'aA).B) bW.at_ ?_;refine bK (λ_=>gO (zs:=[.int .i64 0,.int .i64 0,.int .i64 0,.int .i64 0]) (ps:=[(0,2),(2,2)]) (eo:=[(0,bh (ds[k]'aA).A),(1,bh (ds[k]'aA).B)]) (cs:=qO ((ds[k]'aA).A,(ds[k]'aA).B)) aq aq (by exact⟨rfl,⟨_,rfl,rfl⟩,rfl,⟨_,rfl,rfl⟩,trivial⟩) rfl) ?_;replace hF:=hF.st aM;refine bD (fk (ys:=([((ds[k]'aA).A,(ds[k]'aA).B)]:List CC)) (e:=138) (bytes:=32) hF aq rfl ai ai ⟨rfl,⟨_,rfl,Bs.2 rfl⟩,trivial⟩) ?_;rintro v35 fE ⟨aV,kS,hF⟩;replace ho:=((((ho.t s_1).t s_2).t aB).t aM).t aV;refine bD (eY (e:=138) (bytes:=32) hF ai rfl rfl aq ai ho kS fC fC) ?_;rintro zz w7 ⟨pH,aX,ho,hF⟩;refine ay 7 ?_ [3];rw[if_pos (by unfold zQ;simp[Bool.eq_false_iff.2 hS,hA,hB])] at eV;replace hT:=(((((hT.t s_1).t s_2).t aB).t aM).t aV).t aX;replace hz:=(((((hz.t s_1).t s_2).t aB).t aM).t aV).t aX;replace hs0:=((hs0.t aM).t aV).t aX;refine kp (af 0 (af 5 (af 8 (af 9 (aH 10 rfl (eq_int aF) (aR _)))))) (bV (k+1,zz,pH) _ ⟨aJ,hF,hT,hs0,hz,(by simp only;rw[eV];exact ho)⟩ aJ)
   refine aG 2 ?_ [20285,6];refine bU bW.at_ ?_;rw[(Bool.eq_false_iff.2 hS)];refine aj 4 ?_ [0];refine cu 2 (bh (ds[k]'aA).A) bW.at_ ?_;replace hs0:=(hs0.t s_1).t s_2;replace hF:=hF.st s_2;refine bZ Tryz.call49 (jC (c:=(ds[k]'aA).A) hF hs0) ?_;rintro wF fR ⟨rfl,bp⟩;rw[jE,decide_eq_true hA];refine aj 4 ?_ [2];replace bW:=bW.t bp;refine cu 2 (bh (ds[k]'aA).B) bW.at_ ?_;replace hF:=hF.st bp;replace hs0:=hs0.t bp;refine bZ Tryz.call49 (jC (c:=(ds[k]'aA).B) hF hs0) ?_;rintro vV gE ⟨rfl,bt⟩;rw[jE,decide_eq_false hB];refine ay 9 ?_ [3];rw[if_neg (by unfold zQ;simp[hB])] at eV;have x6:=((s_1.aY s_2).aY bp).aY bt;replace hT:=(((hT.t s_1).t s_2).t bp).t bt;replace hz:=hz.t x6;replace ho:=ho.t x6;replace hF:=hF.st bt;replace hs0:=hs0.t bt;refine kp (af 0 (af 5 (af 8 (af 9 (aH 10 rfl (eq_int aF) (aR _)))))) (bV (k+1,cM,dm) _ ⟨aJ,hF,hT,hs0,hz,(by simp only;rw[eV];exact ho)⟩ aJ)
  refine aG 2 ?_ [20285,6];refine bU bW.at_ ?_;rw[(Bool.eq_false_iff.2 hS)];refine aj 4 ?_ [0];refine cu 2 (bh (ds[k]'aA).A) bW.at_ ?_;replace hs0:=(hs0.t s_1).t s_2;replace hF:=hF.st s_2;refine bZ Tryz.call49 (jC (c:=(ds[k]'aA).A) hF hs0) ?_;rintro uz iI ⟨rfl,bE⟩;rw[jE,decide_eq_false hA];refine ay 15 ?_ [3];rw[if_neg (by unfold zQ;simp[hA])] at eV;replace hT:=((hT.t s_1).t s_2).t bE;replace hz:=((hz.t s_1).t s_2).t bE;replace ho:=((ho.t s_1).t s_2).t bE;replace hF:=hF.st bE;replace hs0:=hs0.t bE;refine kp (af 0 (af 5 (af 8 (af 9 (aH 10 rfl (eq_int aF) (aR _)))))) (bV (k+1,cM,dm) _ ⟨aJ,hF,hT,hs0,hz,(by simp only;rw[eV];exact ho)⟩ aJ)
 have aA:k=ds.length:=by omega
 rw[aA,List.take_length] at ho hel;refine aG 4 ?_ [1];refine dc Tryz.call146 rfl (adg hF ho ah) ?_;rintro A_ jj ⟨rfl,bP,ho,hF⟩;have hsl:=TC (tC s ds);refine bQ 4 ?_ [5];refine dc Tryz.call148 rfl (adi hF ai ho ah) ?_;rintro Aa jQ ⟨bS,ho,hF⟩;have N3:=o9 (s:=s) (ds:=ds);refine ay 2 ?_;refine bI Tryz.func88 ?_;replace hT:=(hT.t bP).t bS;exact⟨hT.bN ai,ho.out hT bq (fu C) (λb _=>jT C ai b) (by show(tD s ds).length<=_;omega)⟩
end
end Go.Proofs.YtmdhggfehknjjaaGreat
namespace Go.Proofs.YtmdhggfehknjjaaGreat
open Go.K Go.K.aZ
noncomputable section
theorem adk {h:Array Obj} {M:Nat->Prop}:rep h M ([]:List ak) [.slice none 0 0]:=⟨none,0,rfl,Nat.le_refl _,by simp,.inl rfl⟩
theorem adl {l:List (List ak)} {k:Nat} (h:k<l.length): (l.take k++List.replicate (l.length-k) []).set k l[k]=l.take (k+1)++List.replicate (l.length-(k+1)) []:=by
 have h1: (l.take k).length=k:=by simp;omega
 rw[List.set_append_right _ _ ah,h1,Nat.sub_self,show l.length-k=(l.length-(k+1))+1 from by omega,List.replicate_succ,List.set_cons_zero,List.take_succ_eq_append_getElem h,List.append_assoc];rfl
namespace adn
def c0:=cw Tryz.f92
end adn
theorem ado {w₀:World} {C:Nat->Nat} {j c0:Nat} (hF:aL w₀ C):Calls Tryz.prog 92 #[.slice none 0 c0,.func (.func 93) #[] #[]] w₀ (bH λv w'=>∃aQ,ax [] w₀ C w' aQ/\aL w' aQ/\bg w' aQ j 52 v ([]:List (List ak))):=by
 refine cg Tryz.func92 ?_;refine aG 8 ?_ [1,3];refine bK (λ_=>Lp rfl Tryz.underlying24) ?_;refine ay 6 ?_ [1];refine bI Tryz.func92 ?_;exact⟨C,ax.refl _ _ _,hF,bg.nil⟩
theorem adp {w₀:World} {C:Nat->Nat} {l:List (List ak)} {aK:Value} {j:Nat} {b0:Addr} {n0 c0:Nat} (nF:aK=.slice (some b0) n0 c0) (hF:aL w₀ C) (hl:av w₀ (au C) l aK) (l5:∀x∈l,x.length<=1000000) (hlen:l.length<=1000000) (hj:j≠0):Calls Tryz.prog 92 #[aK,.func (.func 93) #[] #[]] w₀ (bH λv w'=>∃aQ,ax [] w₀ C w' aQ/\aL w' aQ/\bg w' aQ j 52 v l):=by
 have bq:=hF;have hT:=z9 w₀ C;replace hF:=hF.bk;replace hl:=hl.c1;refine cg Tryz.func92 ?_;refine aG 8 ?_ [1,3];refine bK (λ_=>AU ((show _=some aK from rfl).trans (congrArg some nF)) Tryz.underlying24) ?_;refine bQ 6 ?_ [11];refine dE hl.ln ?_;refine bD (El (e:=52) (bytes:=24) (x0:=([]:List ak)) (zs:=[.slice none 0 0]) hF (j:=3) ai aq aq rfl rfl (Nat.le_refl _) ah ah (λh M=>adk)) ?_;rintro v12 w1 ⟨eP,s_1,ho,hF⟩;refine bQ 6 ?_ [7];replace hl:=hl.t s_1;refine dE hl.ln ?_;refine ay 3 ?_;refine cH (ι:=Nat×(Nat->Nat)) (I:=λx w=>x.1<=l.length/\aL w x.2/\ax [2,3,4,5,6,7,8,9] w₀ (bk C) w x.2/\av w (au x.2) l aK/\bg w x.2 3 52 v12 (l.take x.1++List.replicate (l.length-x.1) [])) (e:=λx=>[(1,.func (.func 93) #[] #[]),(5,v12),(13,aK),(14,.int .i64 l.length),(15,.int .i64 x.1)]) (m:=λx=>l.length-x.1) (cC:=(0,eP)) (af 1 (af 5 (af 13 (af 14 (af 15 (aR _)))))) ?_ ?_
 ·
   replace hT:=hT.t s_1;exact⟨Nat.zero_le _,hF,hT,hl,by simpa using ho⟩
 intro⟨k,a_⟩ w2 hI bV;obtain⟨hk,hF,hT,hl,ho⟩:=hI;try simp only at hk hF hT hl ho
 show Run _ _ _ _ [(1,.func (.func 93) #[] #[]),(5,v12),(13,aK),(14,.int .i64 l.length),(15,.int .i64 k)] _ _;have hle:=hl.le;have xB: (l.take k++List.replicate (l.length-k) []).length=l.length:=by simp;omega
 refine aI 5 ?_ [1];refine bF 16 rfl (λen=>?_) (λen=>?_)
 ·
  have aA:k<l.length:=by omega
  have adq:=l5 _ (List.getElem_mem aA);refine aG 6 ?_ [27];refine bn hl ?_;intro _ VH BP j_;refine iF j_ ?_;intro xG g19;refine bQ 8 ?_ [47];refine nz ?_;refine G3 (iT 24 (.call {callee:=.value 22,args:=#[23],argTypes:=#[52]})) rfl rfl (xb (λargs w=>Tryz.call93 args w) rfl rfl) (ac7 hF g19 adq) ?_;rintro lP w3 ⟨s_2,hn⟩;replace ho:=ho.t s_2;refine cK ?_;refine dx ho ?_;intro l8 Nu;refine cq (iU ho Nu ah rfl rfl aq hn) ?_;rintro _ w4 ⟨rfl,aB,ho⟩;refine ay 6 ?_ [3];replace hF:=(hF.st s_2).st aB;replace hT:=(hT.t s_2).t aB;replace hl:=(hl.t s_2).t aB;refine kp (af 1 (af 5 (af 13 (af 14 (aH 15 rfl (eq_int aF) (aR _)))))) (bV (k+1,a_) _ ⟨aJ,hF,hT,hl,(by simp only;rw[<-adl aA];exact ho)⟩ aJ)
 have aA:k=l.length:=by omega
 refine aI 6 ?_ [3];refine bI Tryz.func92 ?_;rw[aA,List.take_length,Nat.sub_self,List.replicate_zero,List.append_nil] at ho;obtain⟨rJ,qi,hFg,Da,uC⟩:=ho.mM hT bq (fu C) (λb _=>jT C ai b) ai j hj;exact⟨rJ,(hT.bN ai).mM qi,hFg,uC⟩
theorem adr {w₀:World} {C:Nat->Nat} {l:List (List ak)} {aK:Value} {j:Nat} (hF:aL w₀ C) (hl:av w₀ (au C) l aK) (l5:∀x∈l,x.length<=1000000) (hlen:l.length<=1000000) (hj:j≠0):Calls Tryz.prog 92 #[aK,.func (.func 93) #[] #[]] w₀ (bH λv w'=>∃aQ,ax [] w₀ C w' aQ/\aL w' aQ/\bg w' aQ j 52 v l):=by
 obtain⟨a0,c0,nF,Bx,_,hs0⟩:=ko.1 hl;rcases a0 with _|b0
 ·have e:l=[]:=by
   rcases hs0 with h|⟨b,o,h,_⟩
   ·exact h
   ·cases h
  subst e;subst nF;exact ado hF
 ·exact adp nF hF hl l5 hlen hj
namespace ads
def c0:=cw Tryz.f50
end ads
theorem adt {w₀:World} {C:Nat->Nat} {l:List (List ak)} {aK:Value} {j:Nat} (hF:aL w₀ C) (hl:av w₀ (au C) l aK) (l5:∀x∈l,x.length<=1000000) (hlen:l.length<=1000000) (hj:j≠0):Calls Tryz.prog 50 #[aK] w₀ (bH λv w'=>∃aQ,ax [] w₀ C w' aQ/\aL w' aQ/\bg w' aQ j 52 v l):=by
 refine cg Tryz.func50 ?_;refine aG 7 ?_ [1,5];refine bZ Tryz.call92 (adr hF hl l5 hlen hj) ?_;rintro v w1 ⟨de,s_1,hF,ho⟩;refine ay 2 ?_;refine bI Tryz.func50 ?_;exact⟨de,s_1,hF,ho⟩
end
end Go.Proofs.YtmdhggfehknjjaaGreat
namespace Go.Proofs.YtmdhggfehknjjaaGreat
open Go.K Go.K.aZ
noncomputable section
namespace adu
def c0:=cw Tryz.f52
def o1:=di (cl (aC c0))
end adu
theorem adv {w₀:World} {C:Nat->Nat} {x y:List ak} {vx vy:Value} (hF:aL w₀ C) (hx:av w₀ (au C) x vx) (hy:av w₀ (au C) y vy) (eV:0<x.length) (NV:0<y.length):Calls Tryz.prog 52 #[vx,vy] w₀ (bH λv w'=>v=.int .i64 (fQ x y)/\ax [] w₀ C w' C):=by
 have bq:=hF;have hT:=z9 w₀ C;replace hF:=hF.bk;replace hx:=hx.c1;replace hy:=hy.c1;refine cg Tryz.func52 ?_;refine aI 5 ?_ [1];refine cm [] (bk C) [1,3,5,7,9,11,12,15] b5 ?_;intro w1 s_1;have hR:=ax.refl [] w1 (bk C);replace hx:=hx.t s_1;have hle1:=hx.le;replace hy:=hy.t s_1;have hle2:=hy.le;refine aj 1 ?_;refine bn hx ?_;intro _ aaR ru h6;refine ck h6 ?_;intro z7 g7;obtain rfl:=bR.1 g7;refine aj 1 ?_;refine bn hy ?_;intro _ FQ wG gi;refine ck gi ?_;intro v10 g10;obtain rfl:=bR.1 g10;replace hF:=hF.st s_1;refine dC Tryz.call53 (vT hF) ?_;rintro kO w2 ⟨rfl,s_2⟩;refine⟨(hR.trans s_2 aF).ext,?_⟩;refine ay 2 ?_;refine bI Tryz.func52 ?_;replace hT:=(hT.t s_1).t s_2;exact⟨by rw[H8 eV NV]<;>rfl,hT.bN ai⟩
theorem adw {w₀:World} {C:Nat->Nat} {j:Nat} {v:Value} {ys:List (List ak)} (hF:aL w₀ C) (hj:j≠0) (ho:bg w₀ C j 52 v ys) (sO:∀x∈ys,0<x.length) (hds:∀i k (hi:i<(ys).length) (hk:k<(ys).length),i≠k->fQ (ys)[i] (ys)[k]≠0) (hlen:ys.length<=1000000):Calls Tryz.prog 51 #[v,.func (.func 52) #[] #[]] w₀ (bH λu w'=>u=.tuple #[]/\∃zs,fH fQ ys zs/\ax [j] w₀ C w' C/\bg w' C j 52 v zs/\aL w' C):=
 Ti (cf:=fQ) Go.Proofs.Tryz.sortL rfl A4 hds (λargs w=>Tryz.call52 args w) (λW hs hF x hx y hy vx vy NW NY=>adv hF NW NY (sO x hx) (sO y hy)) hj hF ho ah
end
end Go.Proofs.YtmdhggfehknjjaaGreat
namespace Go.Proofs.YtmdhggfehknjjaaGreat
open Go.K Go.K.aZ
noncomputable section
namespace adx
def c0:=cw Tryz.f81
def tZ:=(cl (aC (aC (aC (aC c0)))))
def rI:=(aC (aC (cl (cl (aC tZ)))))
def FD:=(cl (cl (aC (cl (cl rI)))))
def Ui:=di FD
end adx
theorem ady {w₀:World} {C:Nat->Nat} {l:List aD} {ds:List bC} {aK cO bX:Value} (hF:aL w₀ C) (hl:av w₀ (au C) l aK) (hz:av w₀ (au C) ds cO) (hE:iO l ds≠0):Calls Tryz.prog 81 #[aK,cO,bX] w₀ (bH λv w'=>v=.int .i64 (iO l ds)/\ax [] w₀ C w' C):=by
 have bq:=hF;have hT:=z9 w₀ C;replace hF:=hF.bk;replace hl:=hl.c1;replace hz:=hz.c1;refine cg Tryz.func81 ?_;refine aG 8 ?_ [1,315];refine bZ Tryz.call128 (Ub hF hl hz hE) ?_;rintro lX w1 ⟨rfl,s_1⟩;refine aj 3 ?_;replace hF:=hF.st s_1;refine bD (fD (cs:=[.slice none 0 0,.map none]) hF 4 aq) ?_;rintro _ w2 ⟨dm,ew,rfl,s_2,bW,hF⟩;refine cq (eO (vs:=[.slice none 0 0,.map none]) (n:=2) rfl rfl aq rfl rfl (by intro u hu;simp only[List.mem_cons,List.not_mem_nil,or_false] at hu;rcases hu with rfl|rfl<;>first|rfl) bW rfl) ?_;rintro _ w3 ⟨rfl,aB,bW⟩;refine bQ 6 ?_ [3];refine bK (λ_=>KF (wZ rfl rfl) (hE)) ?_;refine ay 7 ?_ [3];refine bI Tryz.func81 ?_;replace hT:=((hT.t s_1).t s_2).t aB;exact⟨rfl,hT.bN ai⟩
theorem adz {w₀:World} {C:Nat->Nat} {l:List aD} {ds:List bC} {ps:List (List ak)} {aK cO bX:Value} (hF:aL w₀ C) (hl:av w₀ (au C) l aK) (hz:av w₀ (au C) ds cO) (hp:av w₀ (au C) ps bX) (l9:gD l=0) (k7:l.length<=4096) (zZ:ds.length<=4096) (hO:∀i (h:i<ds.length),uj ds[i]) (qn:∀i (h:i+1<ds.length),lZ ds[i] ds[i+1]<0) (hE:iO l ds=0) (oh:∀p∈ps,p.length<=8796093021952):Calls Tryz.prog 81 #[aK,cO,bX] w₀ (bH λv w'=>v=.int .i64 (ny l ds ps)/\ax [] w₀ C w' C):=by
 have bq:=hF;have hT:=z9 w₀ C;replace hF:=hF.bk;replace hl:=hl.c1;replace hz:=hz.c1;replace hp:=hp.c1;refine cg Tryz.func81 ?_;refine aG 8 ?_ [1,315];refine bZ Tryz.call128 (Ua hF hl hz l9 zZ hO qn) ?_;rintro lX w1 ⟨c4,rfl,s_1,hap⟩;refine aj 3 ?_;replace hF:=hF.st s_1;refine bD (fD (cs:=[.slice none 0 0,.map none]) hF 4 aq) ?_;rintro _ w2 ⟨dm,ew,rfl,s_2,bW,hF⟩;replace hl:=(hl.t s_1).t s_2;replace hap:=hap.t s_2;refine cq (eO (vs:=[aK,c4]) (n:=2) rfl rfl aq rfl rfl (by repeat' first|exact kX|refine kY ?_ ?_|rfl|exact(hl.one rfl).2|exact hap.one.2) bW rfl) ?_;rintro _ w3 ⟨rfl,aB,bW⟩;refine bQ 6 ?_ [3];refine bK (λ_=>G6 (wZ rfl rfl) ai) ?_;refine bQ 5 ?_ [2];replace hF:=hF.st aB;refine bD (Cv hF 5 dH KU) ?_;rintro _ EY ⟨v8,bm,rfl,aM,hm,hF⟩;refine bQ 6 ?_ [7];replace hp:=(((hp.t s_1).t s_2).t aB).t aM;refine dE hp.ln ?_;refine ay 3 ?_;refine cH (ι:=Nat×(List (ak×Bool))×(Nat->Nat)) (I:=λx w=>x.1<=ps.length/\Seen x.2.1 ((ps.take x.1).flatten)/\eG l ds (ps.take x.1)/\aL w x.2.2/\ax [2,3,4,5,6,7,8,9] w₀ (bk C) w x.2.2/\av w (au x.2.2) l aK/\av w (au x.2.2) ps bX/\gp w (au x.2.2) ds c4/\cE w x.2.2 4 ew (.cells [aK,c4].toArray 129)/\fZ w x.2.2 5 bm dH KU x.2.1) (e:=λx=>[(2,bX),(7,.pointer (some ⟨ew,0,none⟩)),(9,.map (some bm)),(24,bX),(25,.int .i64 ps.length),(26,.int .i64 x.1)]) (m:=λx=>ps.length-x.1) (cC:=(0,[],v8)) (af 2 (af 7 (af 9 (af 24 (af 25 (af 26 (aR _))))))) ?_ ?_
 ·
   replace hT:=(((hT.t s_1).t s_2).t aB).t aM;replace hl:=(hl.t aB).t aM;replace hap:=(hap.t aB).t aM;replace bW:=bW.t aM;exact⟨Nat.zero_le _,Seen.nil,(SS l ds),hF,hT,hl,hp,hap,bW,hm⟩
 intro⟨i,m,a_⟩ w4 hI bV;obtain⟨hi,hS,hP,hF,hT,hl,hp,hap,bW,hm⟩:=hI;try simp only at hi hS hP hF hT hl hp hap bW hm
 show Run _ _ _ _ [(2,bX),(7,.pointer (some ⟨ew,0,none⟩)),(9,.map (some bm)),(24,bX),(25,.int .i64 ps.length),(26,.int .i64 i)] _ _;have hle:=hp.le;refine aI 5 ?_ [1];refine bF 27 rfl (λj7=>?_) (λj7=>?_)
 ·
  have hil:i<ps.length:=by omega
  have hmem:=List.getElem_mem hil;have mw:=oh _ hmem;refine aG 6 ?_ [27];refine bn hp ?_;intro _ E8 E9 nx;refine iF nx ?_;intro v30 ff;refine ay 5 ?_;refine kJ 57 (!(decide ((ps[i]'hil).Pairwise er)&&nU l ds (ps[i]'hil)&&(if h0:0<i then decide (er ((ps[i-1]'ah).headD ⟨0,0⟩) ((ps[i]'hil).headD ⟨0,0⟩)) else true))) (a_) ?_ ?_
  ·
   intro c5;by_cases oL: (ps[i]'hil).Pairwise er
   ·
    by_cases j6:nU l ds (ps[i]'hil)=true
    ·
     by_cases hI: (i:Int)>0
     ·
      by_cases hH:er ((ps[i-1]'ah).headD ⟨0,0⟩) ((ps[i]'hil).headD ⟨0,0⟩)
      ·
       refine cm [] (a_) [1,2,5,7,9,11,12,15,17,19,21,23,25,27,29,31,33,35,37,39,41,43,45,46,49,51,53] b5 ?_;intro ez aV;have hcs:=aV;have hR:=ax.refl [] ez (a_);replace bW:=bW.t aV;have Aj:=bW;replace hp:=hp.t aV;have kT:=hp;replace ff:=ff.t aV;have DU:=ff;refine aj 1 ?_;replace hF:=hF.st aV;refine dC Tryz.call141 (FI hF ff) ?_;rintro nr fE ⟨rfl,aX⟩;rw[decide_eq_true oL];refine⟨(hR.trans aX aF).ext,?_⟩;refine aj 2 ?_;refine dn 2 [aK,c4] Aj.sz ?_;refine aj 1 ?_;replace hl:=(hl.t aV).t aX;replace hap:=(hap.t aV).t aX;replace hF:=hF.st aX;replace ff:=ff.t aX;refine gn Tryz.call142 rfl (I9 hF hl hap ff ah) ?_;rintro mE w7 ⟨rfl,bp⟩;rw[j6];replace hR:=hR.t aX;refine⟨(hR.trans bp aF).ext,?_⟩;refine aj 4 ?_;refine dT hI ?_;refine aj 4 ?_;refine bn kT ?_;intro _ FF FG uF;refine fU uF ?_;intro DF lz;have DG:=lz;replace hR:=hR.t bp;replace lz:=lz.st hR (by first|decide|(simp<;>omega));have lq: ((i:Int)-1).toNat=i-1:=by omega
       simp only[lq] at lz DG;have adA:=hP.len _ (List.mem_take_iff_getElem.2 ⟨i-1,by omega,rfl⟩: (ps[i-1]'ah)∈ps.take i);have x7:2<=(ps[i]'hil).length:=by unfold nU at j6;rw[Bool.and_eq_true,Bool.and_eq_true,decide_eq_true_eq] at j6;exact j6.1.1
       refine bn DG ?_;intro _ De Df jR;refine ck jR ?_;intro v50 hU;have adB:=hU;replace hU:=hU.st hR (by first|decide|(simp<;>omega));obtain rfl:=bR.1 hU;refine aj 1 ?_;refine bn DU ?_;intro _ adC adD q5;refine ck q5 ?_;intro v53 gW;have BL:=gW;replace gW:=gW.st hR (by first|decide|(simp<;>omega));obtain rfl:=bR.1 gW;replace hF:=hF.st bp;refine dC Tryz.call53 (vT hF) ?_;rintro wF fR ⟨rfl,bt⟩;refine⟨(hR.trans bt aF).ext,?_⟩;refine ey (Int.not_le.2 (t_.2 ((IB ah ah).2 hH))) ?_;refine aj 2 ?_;replace hcs:=((hcs.t aX).t bp).t bt;exact cD.nil (c5 _ _ _ hcs rfl (by rw[decide_eq_true oL,j6,dif_pos (show 0<i by omega),decide_eq_true hH];rfl) (ef 27))
      refine cm [] (a_) [1,2,5,7,9,11,12,15,17,19,21,23,25,27,29,31,33,35,37,39,41,43,45,46,49,51,53] b5 ?_;intro gE bM;have hcs:=bM;have hR:=ax.refl [] gE (a_);replace bW:=bW.t bM;have Aj:=bW;replace hp:=hp.t bM;have kT:=hp;replace ff:=ff.t bM;have DU:=ff;refine aj 1 ?_;replace hF:=hF.st bM;refine dC Tryz.call141 (FI hF ff) ?_;rintro uz iI ⟨rfl,bE⟩;rw[decide_eq_true oL];refine⟨(hR.trans bE aF).ext,?_⟩;refine aj 2 ?_;refine dn 2 [aK,c4] Aj.sz ?_;refine aj 1 ?_;replace hl:=(hl.t bM).t bE;replace hap:=(hap.t bM).t bE;replace hF:=hF.st bE;replace ff:=ff.t bE;refine gn Tryz.call142 rfl (I9 hF hl hap ff ah) ?_;rintro A_ jj ⟨rfl,bP⟩;rw[j6];replace hR:=hR.t bE;refine⟨(hR.trans bP aF).ext,?_⟩;refine aj 4 ?_;refine dT hI ?_;refine aj 4 ?_;refine bn kT ?_;intro _ FF FG uF;refine fU uF ?_;intro DF lz;have DG:=lz;replace hR:=hR.t bP;replace lz:=lz.st hR (by first|decide|(simp<;>omega));have lq: ((i:Int)-1).toNat=i-1:=by omega
      simp only[lq] at lz DG;have adA:=hP.len _ (List.mem_take_iff_getElem.2 ⟨i-1,by omega,rfl⟩: (ps[i-1]'ah)∈ps.take i);have x7:2<=(ps[i]'hil).length:=by unfold nU at j6;rw[Bool.and_eq_true,Bool.and_eq_true,decide_eq_true_eq] at j6;exact j6.1.1
      refine bn DG ?_;intro _ De Df jR;refine ck jR ?_;intro v50 hU;have adB:=hU;replace hU:=hU.st hR (by first|decide|(simp<;>omega));obtain rfl:=bR.1 hU;refine aj 1 ?_;refine bn DU ?_;intro _ adC adD q5;refine ck q5 ?_;intro v53 gW;have BL:=gW;replace gW:=gW.st hR (by first|decide|(simp<;>omega));obtain rfl:=bR.1 gW;replace hF:=hF.st bP;refine dC Tryz.call53 (vT hF) ?_;rintro Aa jQ ⟨rfl,bS⟩;refine⟨(hR.trans bS aF).ext,?_⟩;refine dT (Int.not_lt.1 λe=>hH ((IB ah ah).1 (t_.1 e))) ?_;refine aj 2 ?_;replace hcs:=((hcs.t bE).t bP).t bS;exact cD.nil (c5 _ _ _ hcs rfl (by rw[decide_eq_true oL,j6,dif_pos (show 0<i by omega),decide_eq_false hH];rfl) (ef 27))
     refine cm [] (a_) [1,2,5,7,9,11,12,15,17,19,21,23,25,27,29,31,33,35,37,39,41,43,45,46,49,51,53] b5 ?_;intro ki b7;have hcs:=b7;have hR:=ax.refl [] ki (a_);replace bW:=bW.t b7;have Aj:=bW;replace hp:=hp.t b7;have kT:=hp;replace ff:=ff.t b7;have DU:=ff;refine aj 1 ?_;replace hF:=hF.st b7;refine dC Tryz.call141 (FI hF ff) ?_;rintro UW kA ⟨rfl,cn⟩;rw[decide_eq_true oL];refine⟨(hR.trans cn aF).ext,?_⟩;refine aj 2 ?_;refine dn 2 [aK,c4] Aj.sz ?_;refine aj 1 ?_;replace hl:=(hl.t b7).t cn;replace hap:=(hap.t b7).t cn;replace hF:=hF.st cn;replace ff:=ff.t cn;refine gn Tryz.call142 rfl (I9 hF hl hap ff ah) ?_;rintro OA kR ⟨rfl,bY⟩;rw[j6];replace hR:=hR.t cn;refine⟨(hR.trans bY aF).ext,?_⟩;refine aj 4 ?_;refine ey hI ?_;refine aj 11 ?_;replace hR:=hR.t bY;refine aj 4 ?_;replace hcs:=(hcs.t cn).t bY;exact cD.nil (c5 _ _ _ hcs rfl (by rw[decide_eq_true oL,j6,dif_neg (show¬0<i by omega)];rfl) (ef 27))
    refine cm [] (a_) [1,2,5,7,9,11,12,15,17,19,21,23,25,27,29,31,33,35,37,39,41,43,45,46,49,51,53] b5 ?_;intro kB bT;have hcs:=bT;have hR:=ax.refl [] kB (a_);replace bW:=bW.t bT;have Aj:=bW;replace hp:=hp.t bT;have kT:=hp;replace ff:=ff.t bT;have DU:=ff;refine aj 1 ?_;replace hF:=hF.st bT;refine dC Tryz.call141 (FI hF ff) ?_;rintro Ae mb ⟨rfl,b_⟩;rw[decide_eq_true oL];refine⟨(hR.trans b_ aF).ext,?_⟩;refine aj 2 ?_;refine dn 2 [aK,c4] Aj.sz ?_;refine aj 1 ?_;replace hl:=(hl.t bT).t b_;replace hap:=(hap.t bT).t b_;replace hF:=hF.st b_;replace ff:=ff.t b_;refine gn Tryz.call142 rfl (I9 hF hl hap ff ah) ?_;rintro F4 mc ⟨rfl,cQ⟩;rw[Bool.eq_false_iff.2 j6];replace hR:=hR.t b_;refine⟨(hR.trans cQ aF).ext,?_⟩;refine aj 16 ?_;replace hR:=hR.t cQ;refine aj 4 ?_;replace hcs:=(hcs.t b_).t cQ;exact cD.nil (c5 _ _ _ hcs rfl (by rw[decide_eq_true oL,Bool.eq_false_iff.2 j6];rfl) (ef 27))
   refine cm [] (a_) [1,2,5,7,9,11,12,15,17,19,21,23,25,27,29,31,33,35,37,39,41,43,45,46,49,51,53] b5 ?_;intro mg cB;have hcs:=cB;have hR:=ax.refl [] mg (a_);replace bW:=bW.t cB;have Aj:=bW;replace hp:=hp.t cB;have kT:=hp;replace ff:=ff.t cB;have DU:=ff;refine aj 1 ?_;replace hF:=hF.st cB;refine dC Tryz.call141 (FI hF ff) ?_;rintro Jo mQ ⟨rfl,dP⟩;rw[decide_eq_false oL];refine⟨(hR.trans dP aF).ext,?_⟩;refine aj 4 ?_;replace hR:=hR.t dP;refine aj 21 ?_;replace hcs:=hcs.t dP;exact cD.nil (c5 _ _ _ hcs rfl (by rw[decide_eq_false oL];rfl) (ef 27))
  intro oK dR;refine gJ 57 rfl (λoP=>?_) (λoP=>?_)
  ·
   have adE:¬eG l ds ps:=λhn=>by
     rw[decide_eq_true (hn.kz _ hmem),hn.RR hmem] at oP;by_cases h1:0<i
     · rw[dif_pos h1,decide_eq_true (hn.S5 h1 hil)] at oP;cases oP
     rw[dif_neg h1] at oP;cases oP
   refine aI 4 ?_ [1];refine bI Tryz.func81 ?_;replace hT:=hT.t dR;exact⟨by rw[xO hE (λhn=>adE hn)],hT.bN ai⟩
  rw[Bool.not_eq_false',Bool.and_eq_true,Bool.and_eq_true] at oP;obtain⟨⟨oL,j6⟩,VO⟩:=oP;replace oL:=of_decide_eq_true oL;have hH:∀h1:0<i,er ((ps[i-1]'ah).headD ⟨0,0⟩) ((ps[i]'hil).headD ⟨0,0⟩):=λh1=>by rw[dif_pos h1] at VO;exact of_decide_eq_true VO
  refine aG 4 ?_ [7];replace ff:=ff.t dR;refine dE ff.ln ?_;refine ay 3 ?_;replace hl:=hl.t dR;refine cH (ι:=Nat×(List (ak×Bool))×(Nat->Nat)) (I:=λx w=>x.1<=(ps[i]'hil).length/\(∀q (hq:q<x.1) (hl:q<(ps[i]'hil).length),(ps[i]'hil)[q]∉(ps.take i).flatten)/\Seen x.2.1 ((ps.take i).flatten++(ps[i]'hil).take x.1)/\aL w x.2.2/\ax [2,3,4,5,6,7,8,9] w₀ (bk C) w x.2.2/\av w (au x.2.2) l aK/\av w (au x.2.2) ps bX/\gp w (au x.2.2) ds c4/\cE w x.2.2 4 ew (.cells [aK,c4].toArray 129)/\fZ w x.2.2 5 bm dH KU x.2.1/\av w (au x.2.2) (ps[i]'hil) v30) (e:=λx=>[(2,bX),(7,.pointer (some ⟨ew,0,none⟩)),(9,.map (some bm)),(24,bX),(25,.int .i64 ps.length),(26,.int .i64 i),(58,v30),(59,.int .i64 (ps[i]'hil).length),(60,.int .i64 x.1)]) (m:=λx=>(ps[i]'hil).length-x.1) (cC:=(0,m,a_)) (af 2 (af 7 (af 9 (af 24 (af 25 (af 26 (af 58 (af 59 (af 60 (aR _)))))))))) ?_ ?_
  ·
    replace hF:=hF.st dR;replace hT:=hT.t dR;replace hp:=hp.t dR;replace hap:=hap.t dR;replace bW:=bW.t dR;replace hm:=hm.t dR;exact⟨Nat.zero_le _,λq hq=>by simp only at hq;omega,(by simpa using hS),hF,hT,hl,hp,hap,bW,hm,ff⟩
  intro⟨j,m,de⟩ qV hI ei;obtain⟨hj,h0,hS,hF,hT,hl,hp,hap,bW,hm,ff⟩:=hI;try simp only at hj h0 hS hF hT hl hp hap bW hm ff
  show Run _ _ _ _ [(2,bX),(7,.pointer (some ⟨ew,0,none⟩)),(9,.map (some bm)),(24,bX),(25,.int .i64 ps.length),(26,.int .i64 i),(58,v30),(59,.int .i64 (ps[i]'hil).length),(60,.int .i64 j)] _ _;have hle:=hp.le;refine aI 5 ?_ [1];refine bF 61 rfl (λoe=>?_) (λoe=>?_)
  ·
   have hjl:j<(ps[i]'hil).length:=by omega
   refine aG 5 ?_ [1];refine bn ff ?_;intro _ ahG ahH Gc;refine iq Gc ?_;intro zC sP;obtain rfl:=bR.1 sP;refine bD (fD (cs:=[.int .i64 0,.int .i64 0]) hF 6 aq) ?_;rintro _ tG ⟨Ol,ahI,rfl,eS,hb,hF⟩;refine cq (eO (vs:=bh (((ps[i]'hil)[j]'hjl))) (n:=2) rfl rfl aq rfl rfl (jf rfl) hb rfl) ?_;rintro _ pO ⟨rfl,cL,hb⟩;refine bQ 5 ?_ [1];refine cu 2 (bh ((ps[i]'hil)[j]'hjl)) hb.at_ ?_;replace hm:=(hm.t eS).t cL;refine ov (hm.lookup (z0:=false) (k:=((ps[i]'hil)[j]'hjl)) Tryz.underlying195 (nP Tryz.underlying55 ai ai aq Tryz.underlying3) Tryz.zeroValue4 rfl rfl) ?_;refine ay 1 ?_;refine gJ 66 rfl (λq6=>?_) (λq6=>?_)
   ·
    have OL:=(hS _).1 q6;refine aI 4 ?_ [1];refine bI Tryz.func81 ?_;replace hT:=(hT.t eS).t cL;exact⟨by rw[xO hE (λhn=>hn.fresh hil hjl OL)],hT.bN ai⟩
   have OL: ((ps[i]'hil)[j]'hjl)∉(ps.take i).flatten:=λe=>by
     have:=(hS ((ps[i]'hil)[j]'hjl)).2 (List.mem_append.2 (.inl e));rw[q6] at this;cases this
   refine aG 3 ?_ [1];refine cu 2 (bh ((ps[i]'hil)[j]'hjl)) hb.at_ ?_;refine cq (xo (k:=((ps[i]'hil)[j]'hjl)) (u:=true) hm Tryz.underlying195 (nP Tryz.underlying55 ai ai aq Tryz.underlying3) rfl rfl rfl) ?_;rintro _ wH ⟨rfl,eT,hm⟩;refine ay 6 ?_ [3];have uJ:=(eS.aY cL).aY eT;replace hT:=((hT.t eS).t cL).t eT;replace hl:=hl.t uJ;replace hp:=hp.t uJ;replace hap:=hap.t uJ;replace bW:=bW.t uJ;replace ff:=ff.t uJ;replace hF:=(hF.st cL).st eT;refine kp (aH 2 rfl rfl (aH 7 rfl rfl (aH 9 rfl rfl (aH 24 rfl rfl (aH 25 rfl rfl (aH 26 rfl rfl (aH 58 rfl rfl (aH 59 rfl rfl (aH 60 rfl (eq_int aF) (aR _)))))))))) (ei (j+1,iu m ((ps[i]'hil)[j]'hjl) true,Ol) _ ⟨aJ,(λq hq k9=>by
        simp only at hq;by_cases e:q=j
        ·subst e;exact OL
        ·exact h0 q ah k9),(by simp only;rw[List.take_succ_eq_append_getElem hjl,<-List.append_assoc];exact hS.put _),hF,hT,hl,hp,hap,bW,hm,ff⟩ aJ)
  have hjl:j=(ps[i]'hil).length:=by omega
  rw[hjl,<-Zn hil] at hS;have adF:=hP.next hil oL j6 (λr hr=>by obtain⟨q,hq,rfl⟩:=List.getElem_of_mem hr;exact h0 q ah hq) hH;refine aI 6 ?_ [3];refine kp (af 2 (af 7 (af 9 (af 24 (af 25 (aH 26 rfl (eq_int aF) (aR _))))))) (bV (i+1,m,de) _ ⟨aJ,hS,adF,hF,hT,hl,hp,hap,bW,hm⟩ aJ)
 have hil:i=ps.length:=by omega
 rw[hil,List.take_length] at hP;refine aI 5 ?_ [1];refine bI Tryz.func81 ?_;exact⟨by rw[IC hE hP],hT.bN ai⟩
theorem adG {w₀:World} {C:Nat->Nat} {l:List aD} {ds:List bC} {ps:List (List ak)} {aK cO bX:Value} (hF:aL w₀ C) (hl:av w₀ (au C) l aK) (hz:av w₀ (au C) ds cO) (hp:av w₀ (au C) ps bX) (oh:∀p∈ps,p.length<=8796093021952):Calls Tryz.prog 81 #[aK,cO,bX] w₀ (bH λv w'=>v=.int .i64 (ny l ds ps)/\ax [] w₀ C w' C):=by
 by_cases hE:iO l ds=0
 ·obtain⟨h1,h2⟩:=xP hE;obtain⟨d1,d2,d3⟩:=Lv h2;exact adz hF hl hz hp h1 (Et h1) d1 d2 d3 hE oh
 ·exact(ady hF hl hz hE).mono (bH.mono λv w' ⟨e,h⟩=>⟨by rw[e,Mq hE],h⟩)
end
end Go.Proofs.YtmdhggfehknjjaaGreat
