/- Steps through functions of the program. -/
import Derived.Test.YtmdhggfehknjjaaGreatJC6X0
import Derived.Test.YtmdhggfehknjjaaGreatL2
import Derived.Test.YtmdhggfehknjjaaGreatL3
set_option maxRecDepth 100000
set_option maxHeartbeats 4000000
namespace Go.Proofs.YtmdhggfehknjjaaGreat
open Go.K Go.K.aZ
noncomputable section
namespace X1
def c0:=cw Tryz.f42
end X1
theorem ot {w₀:World} {C:Nat->Nat} {xs:List aD} {px:Value} (hF:aL w₀ C) (hw:av w₀ (au C) xs px) (hne:xs≠[]) (hlen:xs.length<=1000000) (j:Nat) (hj:j≠0):Calls Tryz.prog 42 #[px] w₀ (bH λv w'=>∃aQ,ax [] w₀ C w' aQ/\aL w' aQ/\bg w' aQ j 58 v xs):=by
 have bq:=hF;have hT:=z9 w₀ C;replace hF:=hF.bk;replace hw:=hw.c1;obtain⟨a0,c0,nF,Bx,_,hs0⟩:=ko.1 hw;obtain⟨b0,rfl⟩:∃b,a0=some b:=by
  rcases hs0 with h|⟨b,o,rfl,_⟩
  ·exact absurd h hne
  exact⟨_,rfl⟩
 clear hs0;refine cg Tryz.func42 ?_;refine aG 8 ?_ [1,3];refine bK (λ_=>AU ((show _=some px from rfl).trans (congrArg some nF)) Tryz.underlying23) ?_;refine bQ 5 ?_ [10];refine bD (CS (n:=5) (e:=58) (bytes:=40) hF aq) ?_;rintro _ w1 ⟨⟨a5,rfl⟩,s_1,hF⟩;refine aj 1 ?_;replace hw:=hw.t s_1;refine bD (EE (j:=5) (e:=58) (bytes:=40) (ys:=([]:List aD)) hF ai rfl rfl aq ai CT hw hne yD yD) ?_;rintro z7 w2 ⟨dm,s_2,hn,hF⟩;refine ay 2 ?_;simp only[List.nil_append] at hn;refine bI Tryz.func42 ?_;replace hT:=(hT.t s_1).t s_2;obtain⟨rJ,qi,hFg,Da,uC⟩:=hn.mM hT bq (fu C) (λb _=>jT C ai b) ai j hj;exact⟨rJ,(hT.bN ai).mM qi,hFg,uC⟩
namespace X4
def c0:=cw Tryz.f133
end X4
theorem Jd {w₀:World} {C:Nat->Nat} {x y:aD} (hF:aL w₀ C):Calls Tryz.prog 133 #[.agg (iH x).toArray,.agg (iH y).toArray] w₀ (bH λv w'=>v=.int .i64 (iL x y)/\ax [] w₀ C w' C):=by
 have bq:=hF;have hT:=z9 w₀ C;replace hF:=hF.bk;refine cg Tryz.func133 ?_;refine aG 2 ?_ [4];refine bD (eX (cs:=iH x) hF 3 rfl rfl) ?_;rintro _ w1 ⟨eP,ct,rfl,s_1,hx,hF⟩;refine bD (eX (cs:=iH y) hF 3 rfl rfl) ?_;rintro _ w2 ⟨dm,ew,rfl,s_2,hy,hF⟩;refine bQ 5 ?_ [37,4];refine bU hy.at_ ?_;refine aj 1 ?_ [4];replace hx:=hx.t s_2;refine bU hx.at_ ?_;refine bZ Tryz.call97 (EU _ _ _) ?_;rintro lP w3 ⟨rfl,rfl⟩;refine ay 2 ?_;refine bI Tryz.func133 ?_;replace hT:=(hT.t s_1).t s_2;exact⟨rfl,hT.bN ai⟩
namespace Uq
def c0:=cw Tryz.f219
def C_:=(cl (aC (cl (cl (aC c0)))))
def sB:=(cl (cl (cl (aC (cl C_)))))
def vY:=di (cl sB)
def X5:=(aC (cl (cl (aC (cl C_)))))
def ru:=di (cl (cl X5))
end Uq
theorem Ur {w₀:World} {C:Nat->Nat} {j a b:Nat} {v:Value} {ys:List aD} (hF:aL w₀ C) (hj:j≠0) (ho:bg w₀ C j 58 v ys) (hab:a<=b) (hb:b<=ys.length) (hlen:ys.length<=140737488355328):
    Calls Tryz.prog 219 #[v,.int .i64 a,.int .i64 b,.func (.func 133) #[] #[]] w₀ (bH λu w'=>u=.tuple #[]/\∃zs σ,fT ys σ zs/\f_ σ a b/\jM (fB iL ys) σ a b/\ax [j] w₀ C w' C/\bg w' C j 58 v zs/\aL w' C):=by
 have hT:=ax.refl [j] w₀ C;refine cg Tryz.func219 ?_;refine aI 7 ?_ [7];refine cH (ι:=Nat×(List aD)×(Nat->Nat)) (I:=λx w=>a+1<=x.1/\x.1<=max (a+1) b/\fT ys x.2.2 x.2.1/\f_ x.2.2 a x.1/\jM (fB iL ys) x.2.2 a x.1/\aL w C/\ax [j] w₀ C w C/\bg w C j 58 v x.2.1) (e:=λx=>[(0,v),(1,.int .i64 a),(2,.int .i64 b),(3,.func (.func 133) #[] #[]),(8,.int .i64 x.1)]) (m:=λx=>b-x.1) (cC:=(a+1,ys,λi=>i)) (af 0 (af 1 (af 2 (af 3 (aH 8 rfl (eq_int aF) (aR _)))))) ?_ ?_
 · exact⟨Nat.le_refl _,by omega,fT.id ys,f_.id _ _,λp q h1 h2 h3=>by omega,hF,hT,ho⟩
 intro⟨i,zs,σ⟩ w1 hI bV;obtain⟨hi1,hi2,ga,Je,oL,hF,hT,ho⟩:=hI;try simp only at hi1 hi2 ga Je oL hF hT ho
 show Run _ _ _ _ [(0,v),(1,.int .i64 a),(2,.int .i64 b),(3,.func (.func 133) #[] #[]),(8,.int .i64 i)] _ _;have hzl:=ga.len;refine aI 7 ?_ [7];refine bF 14 rfl (λfJ=>?_) (λfJ=>?_)
 ·
  have hib:i<b:=by omega
  have hil:i<ys.length:=by omega
  refine aI 9 ?_ [3];refine cH (ι:=Nat×(List aD)×(Nat->Nat)) (I:=λx w=>fT ys x.2.2 x.2.1/\r_ iL ys x.2.2 a i x.1/\aL w C/\ax [j] w₀ C w C/\bg w C j 58 v x.2.1) (e:=λx=>[(0,v),(1,.int .i64 a),(2,.int .i64 b),(3,.func (.func 133) #[] #[]),(8,.int .i64 i),(9,.int .i64 x.1)]) (m:=λx=>x.1) (cC:=(i,zs,σ)) (af 0 (af 1 (af 2 (af 3 (af 8 (af 9 (aR _))))))) ?_ ?_
  · exact⟨ga,r_.start Je ah oL,hF,hT,ho⟩
  intro⟨q,zs,σ⟩ w2 hI ei;obtain⟨ga,hI,hF,hT,ho⟩:=hI;try simp only at ga hI hF hT ho
  show Run _ _ _ _ [(0,v),(1,.int .i64 a),(2,.int .i64 b),(3,.func (.func 133) #[] #[]),(8,.int .i64 i),(9,.int .i64 q)] _ _;have hzl:=ga.len;have hle:=hI.le;refine aI 2 ?_;by_cases hA: (a:Int)<q
  ·
   refine cm [] (C) [1,3,5,7,9,11,13,15,17,19,21,23,25,27,28,31,33] b5 ?_;intro w3 s_1;have hR:=ax.refl [] w3 (C);refine aj 2 ?_;refine dT hA ?_;refine aj 4 ?_;replace ho:=ho.t s_1;refine dx ho ?_;intro l8 Nu;refine p5 ho Nu ?_;intro _ v26 uP;obtain rfl:=gY.1 uP;refine aj 3 ?_;refine dx ho ?_;intro ff C7;refine p5 ho C7 ?_;intro _ v31 qT;have lq: ((q:Int)-1).toNat=q-1:=by omega
   simp only[lq] at qT;obtain rfl:=gY.1 qT;replace hF:=hF.st s_1;refine nz ?_;refine vC (Ei 32 (.call {callee:=.value 22,args:=#[26,31],argTypes:=#[58,58]}) 3 true) rfl rfl (xb (λargs w=>Tryz.call133 args w) rfl rfl) (Jd hF) ?_;rintro j4 w4 ⟨rfl,s_2⟩;refine⟨(hR.trans s_2 aF).ext,?_⟩;refine cK ?_;refine ay 3 ?_;refine bF 34 rfl (λmR=>?_) (λmR=>?_)
   ·
    have qo:=(hI.ord uo (λx _=>trivial) ga ah hil ah ah).2 mR;refine aI 3 ?_;refine CO (id:=6) (ops:=Uq.ru) [j] (C) 17 (.fork [0,1,2,3,4,5,6,7,8,10,11,12] 9 (.run [nn 13,eE 14,nn 15,eE 16,nn 17]) 13 (.run [nn 9,eE 14,nn 15,eE 16,nn 17])) b5 aq aq aq ?_;intro ez aB;have hR:=ax.refl [j] ez (C);refine AP ?_;show bO _ _ _ _ _ (jG 9 0 (jG 3 10 [])) _ _;refine cK ?_;refine aj 8 ?_;replace ho:=(ho.t s_2).t aB;refine dx ho ?_;intro L5 Jf;refine aj 2 ?_;refine dx ho ?_;intro uM DK;refine nz ?_;refine AQ ?_ ?_
    ·
     show bO _ _ _ _ _ [nn 9] _ _;refine cK ?_;refine lI ho Jf ?_;intro _ v46 A6;have lq: ((q:Int)-1).toNat=q-1:=by omega
     simp only[lq] at A6;refine nz ?_;refine rB hR.ext ?_;refine sg ?_;show bO _ _ _ _ _ [nn 13,eE 14,nn 15,eE 16,nn 17] _ _;refine cK ?_;refine lI ho DK ?_;intro _ v50 hU;refine dx ho ?_;intro iY pG;refine lH (iU ho pG pU rfl rfl aq A6) ?_;rintro _ fE ⟨rfl,aM,ho⟩;refine⟨(hR.trans aM aF).ext,?_⟩;replace hT:=((hT.t s_1).t s_2).t aB;replace hT:=hT.trans aM (by simp<;>omega);replace hR:=hR.trans aM (by simp<;>omega);refine dx ho ?_;intro oD Nv;refine jU rfl ?_;replace hU:=hU.t aM;refine cq (iU ho Nv pU rfl rfl aq hU) ?_;rintro _ w7 ⟨rfl,aV,ho⟩;replace hT:=hT.trans aV (by simp<;>omega);refine ay 7 ?_ [7];try simp only[show((q:Int)-1).toNat=q-1 from by omega,fP] at ho
     replace hF:=(((hF.st s_2).st aB).st aM).st aV;refine kp (af 0 (af 1 (af 2 (af 3 (af 8 (aH 9 rfl (eq_int rU) (aR _))))))) (ei (q-1,((zs.set q (zs[q-1]'ah)).set (q-1) (zs[q]'ah)),(mN σ q (q-1))) _ ⟨(ga.swap ah ah rfl rfl),(hI.step ah qo),hF,hT,ho⟩ aJ)
    show bO _ _ _ _ _ [nn 13] _ _;refine cK ?_;refine lI ho DK ?_;intro _ v50 hU;refine nz ?_;refine rB hR.ext ?_;refine sg ?_;show bO _ _ _ _ _ [nn 9,eE 14,nn 15,eE 16,nn 17] _ _;refine cK ?_;refine lI ho Jf ?_;intro _ v46 A6;have lq: ((q:Int)-1).toNat=q-1:=by omega
    simp only[lq] at A6;refine dx ho ?_;intro iY pG;refine lH (iU ho pG pU rfl rfl aq A6) ?_;rintro _ fR ⟨rfl,aX,ho⟩;refine⟨(hR.trans aX aF).ext,?_⟩;replace hT:=((hT.t s_1).t s_2).t aB;replace hT:=hT.trans aX (by simp<;>omega);replace hR:=hR.trans aX (by simp<;>omega);refine dx ho ?_;intro oD Nv;refine jU rfl ?_;replace hU:=hU.t aX;refine cq (iU ho Nv pU rfl rfl aq hU) ?_;rintro _ gE ⟨rfl,bp,ho⟩;replace hT:=hT.trans bp (by simp<;>omega);refine ay 7 ?_ [7];try simp only[show((q:Int)-1).toNat=q-1 from by omega,fP] at ho
    replace hF:=(((hF.st s_2).st aB).st aX).st bp;refine kp (af 0 (af 1 (af 2 (af 3 (af 8 (aH 9 rfl (eq_int rU) (aR _))))))) (ei (q-1,((zs.set q (zs[q-1]'ah)).set (q-1) (zs[q]'ah)),(mN σ q (q-1))) _ ⟨(ga.swap ah ah rfl rfl),(hI.step ah qo),hF,hT,ho⟩ aJ)
   have qo:q=a\/¬fB iL ys i (σ (q-1)):=.inr (λe=>mR ((hI.ord uo (λx _=>trivial) ga ah hil ah ah).1 e));refine aG 3 ?_ [7]
   skip
   refine ay 4 ?_;have Nw:q=a\/¬fB iL ys i (σ (q-1)):=qo;obtain⟨mV,ha2⟩:=hI.done uo (λx _=>trivial) hil Nw;replace hT:=(hT.t s_1).t s_2;replace hF:=hF.st s_2;replace ho:=ho.t s_2;refine kp (af 0 (af 1 (af 2 (af 3 (aH 8 rfl (eq_int aF) (aR _)))))) (bV (i+1,zs,σ) _ ⟨aJ,aJ,aJ,mV,ha2,hF,hT,ho⟩ aJ)
  refine cm [] (C) [1,3,5,7,9,11,13,15,17,19,21,23,25,27,28,31,33] b5 ?_;intro iI bt;have hR:=ax.refl [] iI (C);refine aj 2 ?_;refine ey hA ?_;refine bQ 19 ?_ [7]
  skip
  refine ay 4 ?_;have Nw:q=a\/¬fB iL ys i (σ (q-1)):=.inl ah;obtain⟨mV,ha2⟩:=hI.done uo (λx _=>trivial) hil Nw;replace hF:=hF.st bt;replace hT:=hT.t bt;replace ho:=ho.t bt;refine kp (af 0 (af 1 (af 2 (af 3 (aH 8 rfl (eq_int aF) (aR _)))))) (bV (i+1,zs,σ) _ ⟨aJ,aJ,aJ,mV,ha2,hF,hT,ho⟩ aJ)
 have hib:b<=i:=by omega
 refine aI 1 ?_;refine qy Tryz.func219 rfl ?_;refine⟨rfl,zs,σ,ga,?_,?_,hT,ho,hF⟩
 · by_cases e:i=a+1
   · subst e;exact Je.thin hab
   rw[show b=i by omega];exact Je
 exact λp q h1 h2 h3=>oL p q h1 h2 ah
theorem Jg {i j:Nat} (h1: (i:Int)<=4611686018427387904) (h2: (j:Int)<=4611686018427387904):IntKind.i64.wrap ((IntKind.u64.wrap ((i:Int)+j)).fdiv (2^min (1:Int).toNat IntKind.u64.bits))=(((i+j)/2:Nat):Int):=by
 rw[wrap_u64 ah ah,show min (1:Int).toNat IntKind.u64.bits=1 from by decide,show(2:Int)^1=2 from rfl,Int.fdiv_eq_ediv_of_nonneg _ ai,wrap_i64 ah ah];omega
namespace Us
def c0:=cw Tryz.f265
def C_:=(cl (aC (cl (cl (aC c0)))))
def Cx:=di (cl C_)
end Us
theorem Nx {w₀:World} {C:Nat->Nat} {j a b n:Nat} {v:Value} {zs:List aD} (hF:aL w₀ C) (hj:j≠0) (ho:bg w₀ C j 58 v zs) (hlen:zs.length<=140737488355328) (h1:a+n<=b) (h2:b+n<=zs.length):Calls Tryz.prog 265 #[v,.int .i64 a,.int .i64 b,.int .i64 n,.func (.func 133) #[] #[]] w₀ (bH λu w'=>u=.tuple #[]/\∃us,fT zs (n4 a b n) us/\ax [j] w₀ C w' C/\bg w' C j 58 v us/\aL w' C):=by
 have hT:=ax.refl [j] w₀ C;refine cg Tryz.func265 ?_;refine aI 5 ?_ [1];refine cH (ι:=Nat×(List aD)) (I:=λx w=>x.1<=n/\fT zs (n4 a b x.1) x.2/\aL w C/\ax [j] w₀ C w C/\bg w C j 58 v x.2) (e:=λx=>[(0,v),(1,.int .i64 a),(2,.int .i64 b),(3,.int .i64 n),(4,.func (.func 133) #[] #[]),(10,.int .i64 x.1)]) (m:=λx=>n-x.1) (cC:=(0,zs)) (af 0 (af 1 (af 2 (af 3 (af 4 (af 10 (aR _))))))) ?_ ?_
 · exact⟨Nat.zero_le _,(fT.id zs).congr λx=>zv.symm,hF,hT,ho⟩
 intro⟨k,us⟩ w1 hI bV;obtain⟨hk,ga,hF,hT,ho⟩:=hI;try simp only at hk ga hF hT ho
 show Run _ _ _ _ [(0,v),(1,.int .i64 a),(2,.int .i64 b),(3,.int .i64 n),(4,.func (.func 133) #[] #[]),(10,.int .i64 k)] _ _;have wL:=ga.len;refine aI 7 ?_ [7];refine bF 13 rfl (λk5=>?_) (λk5=>?_)
 ·
  have hkn:k<n:=by omega
  refine aI 3 ?_;refine CO (id:=3) (ops:=Us.Cx) [j] (C) 23 (.fork [0,1,2,3,4,5,6,7,8,9,10,11,12,14,15,16,17,18] 13 (.run [nn 19,eE 20,nn 21,eE 22,nn 23]) 19 (.run [nn 13,eE 20,nn 21,eE 22,nn 23])) b5 aq aq aq ?_;intro w2 s_1;have hR:=ax.refl [j] w2 (C);refine AP ?_;show bO _ _ _ _ _ (jG 13 0 (jG 5 14 [])) _ _;refine cK ?_;refine aj 3 ?_;refine jA ((a+k:Nat):Int) ?_;refine aj 3 ?_;refine jA ((b+k:Nat):Int) ?_;refine aj 3 ?_;refine jA ((b+k:Nat):Int) ?_;replace ho:=ho.t s_1;refine dx ho ?_;intro mj Ut;refine aj 3 ?_;refine jA ((a+k:Nat):Int) ?_;refine dx ho ?_;intro Jh Uu;refine nz ?_;refine AQ ?_ ?_
  ·
   show bO _ _ _ _ _ [nn 13] _ _;refine cK ?_;refine lI ho Ut ?_;intro _ qS eZ;refine nz ?_;refine rB hR.ext ?_;refine sg ?_;show bO _ _ _ _ _ [nn 19,eE 20,nn 21,eE 22,nn 23] _ _;refine cK ?_;refine lI ho Uu ?_;intro _ v35 kS;refine dx ho ?_;intro Bh FT;refine lH (iU ho FT pU rfl rfl aq eZ) ?_;rintro _ w3 ⟨rfl,s_2,ho⟩;refine⟨(hR.trans s_2 aF).ext,?_⟩;replace hT:=hT.t s_1;replace hT:=hT.trans s_2 (by simp<;>omega);replace hR:=hR.trans s_2 (by simp<;>omega);refine dx ho ?_;intro oa FU;refine jU rfl ?_;replace kS:=kS.t s_2;refine cq (iU ho FU pU rfl rfl aq kS) ?_;rintro _ w4 ⟨rfl,aB,ho⟩;replace hT:=hT.trans aB (by simp<;>omega);refine ay 7 ?_ [7];replace hF:=((hF.st s_1).st s_2).st aB;refine kp (af 0 (af 1 (af 2 (af 3 (af 4 (aH 10 rfl (eq_int aF) (aR _))))))) (bV (k+1,((us.set (a+k) (us[b+k]'ah)).set (b+k) (us[a+k]'ah))) _ ⟨aJ,((ga.swap ah ah rfl rfl).congr λx=>Tc ah),hF,hT,ho⟩ aJ)
  show bO _ _ _ _ _ [nn 19] _ _;refine cK ?_;refine lI ho Uu ?_;intro _ v35 kS;refine nz ?_;refine rB hR.ext ?_;refine sg ?_;show bO _ _ _ _ _ [nn 13,eE 20,nn 21,eE 22,nn 23] _ _;refine cK ?_;refine lI ho Ut ?_;intro _ qS eZ;refine dx ho ?_;intro Bh FT;refine lH (iU ho FT pU rfl rfl aq eZ) ?_;rintro _ ez ⟨rfl,aM,ho⟩;refine⟨(hR.trans aM aF).ext,?_⟩;replace hT:=hT.t s_1;replace hT:=hT.trans aM (by simp<;>omega);replace hR:=hR.trans aM (by simp<;>omega);refine dx ho ?_;intro oa FU;refine jU rfl ?_;replace kS:=kS.t aM;refine cq (iU ho FU pU rfl rfl aq kS) ?_;rintro _ fE ⟨rfl,aV,ho⟩;replace hT:=hT.trans aV (by simp<;>omega);refine ay 7 ?_ [7];replace hF:=((hF.st s_1).st aM).st aV;refine kp (af 0 (af 1 (af 2 (af 3 (af 4 (aH 10 rfl (eq_int aF) (aR _))))))) (bV (k+1,((us.set (a+k) (us[b+k]'ah)).set (b+k) (us[a+k]'ah))) _ ⟨aJ,((ga.swap ah ah rfl rfl).congr λx=>Tc ah),hF,hT,ho⟩ aJ)
 obtain rfl:n=k:=by omega
 refine aI 1 ?_;refine qy Tryz.func265 rfl ?_;exact⟨rfl,us,ga,hT,ho,hF⟩
namespace gb
def c0:=cw Tryz.f252
end gb
theorem Cd {w₀:World} {C:Nat->Nat} {j a m b:Nat} {v:Value} {zs:List aD} (hF:aL w₀ C) (hj:j≠0) (ho:bg w₀ C j 58 v zs) (hlen:zs.length<=140737488355328) (hab:a<m) (hmb:m<b) (qX:b<=zs.length):Calls Tryz.prog 252 #[v,.int .i64 a,.int .i64 m,.int .i64 b,.func (.func 133) #[] #[]] w₀ (bH λu w'=>u=.tuple #[]/\∃us,fT zs (ro a m b) us/\ax [j] w₀ C w' C/\bg w' C j 58 v us/\aL w' C):=by
 have hT:=ax.refl [j] w₀ C;refine cg Tryz.func252 ?_;refine aI 16 ?_ [15,15];refine cH (ι:=Nat×Nat×(List aD)) (I:=λx w=>tu zs x.2.2 a m b x.1 x.2.1/\aL w C/\ax [j] w₀ C w C/\bg w C j 58 v x.2.2) (e:=λx=>[(0,v),(1,.int .i64 a),(2,.int .i64 m),(3,.int .i64 b),(4,.func (.func 133) #[] #[]),(10,.int .i64 x.1),(11,.int .i64 x.2.1)]) (m:=λx=>x.1+x.2.1) (cC:=(m-a,b-m,zs)) (af 0 (af 1 (af 2 (af 3 (af 4 (aH 10 rfl (eq_int rU) (aH 11 rfl (eq_int rU) (aR _)))))))) ?_ ?_
 · exact⟨tu.start hab hmb,hF,hT,ho⟩
 intro⟨p,q,us⟩ w1 hI bV;obtain⟨hI,hF,hT,ho⟩:=hI;try simp only at hI hF hT ho
 show Run _ _ _ _ [(0,v),(1,.int .i64 a),(2,.int .i64 m),(3,.int .i64 b),(4,.func (.func 133) #[] #[]),(10,.int .i64 p),(11,.int .i64 q)] _ _;have d_:=hI.b1;have fc:=hI.b2;have wL:us.length=zs.length:=let⟨_,h,_⟩:=hI.ex;h.len;refine aI 7 ?_ [7];refine bF 20 rfl (λlg=>?_) (λlg=>?_)
 ·
  refine aI 8 ?_ [7];refine bF 23 rfl (λh23=>?_) (λh23=>?_)
  ·
   have hpq:q<p:=by omega
   refine aG 5 ?_ [127];refine jA ((m-p:Nat):Int) ?_;refine aj 3 ?_;refine dc Tryz.call265 rfl (Nx (a:=m-p) (b:=m) (n:=q) hF hj ho ah ah ah) ?_;rintro kO w2 ⟨rfl,vs,hv,s_1,ho,hF⟩;replace hT:=hT.trans s_1 (by simp<;>omega);refine bQ 4 ?_ [15];refine jA ((p-q:Nat):Int) ?_;refine ay 3 ?_;refine kp (af 0 (af 1 (af 2 (af 3 (af 4 (af 10 (af 11 (aR _)))))))) (bV (p-q,q,vs) _ ⟨(hI.more hpq hv),hF,hT,ho⟩ aJ)
  have hpq:p<q:=by omega
  refine aG 5 ?_ [2047];refine jA ((m-p:Nat):Int) ?_;refine aj 2 ?_;refine jA ((m+q:Nat):Int) ?_;refine aj 1 ?_;refine jA ((m+q-p:Nat):Int) ?_;refine aj 2 ?_;refine dc Tryz.call265 rfl (Nx (a:=m-p) (b:=m+q-p) (n:=p) hF hj ho ah ah ah) ?_;rintro lP w3 ⟨rfl,vs,hv,s_2,ho,hF⟩;replace hT:=hT.trans s_2 (by simp<;>omega);refine bQ 4 ?_ [15];refine jA ((q-p:Nat):Int) ?_;refine ay 3 ?_;refine kp (af 0 (af 1 (af 2 (af 3 (af 4 (af 10 (af 11 (aR _)))))))) (bV (p,q-p,vs) _ ⟨(hI.less hpq hv),hF,hT,ho⟩ aJ)
 have hpq:q=p:=by omega
 subst hpq;refine aG 5 ?_ [127];refine jA ((m-q:Nat):Int) ?_;refine aj 3 ?_;refine dc Tryz.call265 rfl (Nx (a:=m-q) (b:=m) (n:=q) hF hj ho ah ah ah) ?_;rintro j4 w4 ⟨rfl,vs,hv,aB,ho,hF⟩;replace hT:=hT.trans aB (by simp<;>omega);refine ay 1 ?_;refine qy Tryz.func252 rfl ?_;exact⟨rfl,vs,hI.done hv,hT,ho,hF⟩
namespace DM
def c0:=cw Tryz.f220
def qa:=(aC (aC (cl (aC (cl c0)))))
def Db:=(cl (aC (cl (cl (cl qa)))))
def x3:=di (cl (aC Db))
def x4:=(cl (cl (aC (cl (aC qa)))))
def EW:=di (cl (cl (aC x4)))
def Uv:=(aC (cl (aC (cl (aC c0)))))
def FV:=(aC (cl (cl (cl (aC Uv)))))
def Uc:=di (cl (aC (cl FV)))
def Ny:=(cl (aC (cl (aC (aC Uv)))))
def qz:=di (cl (cl (aC (cl Ny))))
def Nz:=(aC (aC (aC (aC (aC c0)))))
def NA:=(cl (cl (cl (aC (aC Nz)))))
def Dc:=di (cl (aC (cl (aC NA))))
def Uw:=(aC (aC (aC (aC (aC Nz)))))
end DM
theorem Ux {j:Nat} {v:Value} {ys:List aD} (hP:∀x∈ys,(λ_=>True) x) (hj:j≠0):∀(N a m b:Nat) (w₀:World) (C:Nat->Nat) (zs:List aD) (σ:Nat->Nat),b-a<=N->n5 iL ys σ a m b->fT ys σ zs->aL w₀ C->bg w₀ C j 58 v zs->zs.length<=140737488355328->
    Calls Tryz.prog 220 #[v,.int .i64 a,.int .i64 m,.int .i64 b,.func (.func 133) #[] #[]] w₀ (bH λu w'=>u=.tuple #[]/\∃us dU,Du iL ys σ a b us dU/\ax [j] w₀ C w' C/\bg w' C j 58 v us/\aL w' C):=by
 intro N
 induction N using Nat.strongRecOn
 rename_i N ih;intro a m b w₀ C zs σ hN mo ga hF ho hlen;replace ih:=λn (hn:n<b-a)=>ih n ah;have htr:=TL uo hP;have hT:=ax.refl [j] w₀ C;have wL:=ga.len;have xH:=mo.lt;refine cg Tryz.func220 ?_;refine aI 8 ?_ [15];refine bF 28 rfl (λiz=>?_) (λiz=>?_)
 ·
  have Ji:m=a+1:=by omega
  refine aI 12 ?_ [3,3];refine cH (ι:=Nat×Nat) (I:=λx w=>tv (fB iL ys) σ a m b x.1 x.2/\aL w C/\ax [j] w₀ C w C/\bg w C j 58 v zs) (e:=λx=>[(0,v),(1,.int .i64 a),(2,.int .i64 m),(3,.int .i64 b),(4,.func (.func 133) #[] #[]),(10,.int .i64 x.1),(11,.int .i64 x.2)]) (m:=λx=>x.2-x.1) (cC:=(m,b)) (af 0 (af 1 (af 2 (af 3 (af 4 (af 10 (af 11 (aR _)))))))) ?_ ?_
  · exact⟨tv.start ah,hF,hT,ho⟩
  intro⟨i,q⟩ w1 hI bV;obtain⟨hB,hF,hT,ho⟩:=hI;try simp only at hB hF hT ho
  show Run _ _ _ _ [(0,v),(1,.int .i64 a),(2,.int .i64 m),(3,.int .i64 b),(4,.func (.func 133) #[] #[]),(10,.int .i64 i),(11,.int .i64 q)] _ _;have qX:=hB.le;refine aI 7 ?_ [7];refine bF 33 rfl (λmT=>?_) (λmT=>?_)
  ·
   have z8:i<q:=by omega
   refine aG 7 ?_ [127];refine bK (λ_=>Ce rfl ⟨_,Tryz.underlying3⟩ Tryz.underlying112) ?_;refine bK (λ_=>w_ rfl rfl ah) ?_;refine bK (λ_=>D8 rfl ⟨_,Tryz.underlying112⟩ Tryz.underlying3 (Jg (i:=i) (j:=q) ah ah)) ?_;refine ay 2 ?_;obtain⟨k,hk⟩:∃k,k=(i+q)/2:=⟨_,rfl⟩
   rw[<-hk];have aA:k<zs.length:=by omega
   refine aI 1 ?_;refine cm [] (C) [1,3,5,7,9,11,13,15,17,18,21] b5 ?_;intro w2 s_1;have hR:=ax.refl [] w2 (C);refine aj 3 ?_;replace ho:=ho.t s_1;refine dx ho ?_;intro vX aac;refine p5 ho aac ?_;intro _ v44 pP;obtain rfl:=gY.1 pP;refine aj 2 ?_;refine dx ho ?_;intro z_ aad;refine p5 ho aad ?_;intro _ DF lz;obtain rfl:=gY.1 lz;replace hF:=hF.st s_1;refine nz ?_;refine vC (iT 49 (.call {callee:=.value 40,args:=#[44,48],argTypes:=#[58,58]})) rfl rfl (xb (λargs w=>Tryz.call133 args w) rfl rfl) (Jd hF) ?_;rintro lP w3 ⟨rfl,s_2⟩;refine⟨(hR.trans s_2 aF).ext,?_⟩;refine cK ?_;refine ay 2 ?_;refine bF 50 rfl (λh50=>?_) (λh50=>?_)
   ·
    have qo:=mo.yes ga (p:=a) (q:=k) ah ah h50;refine aI 6 ?_ [7];replace hT:=(hT.t s_1).t s_2;replace hF:=hF.st s_2;replace ho:=ho.t s_2;refine kp (af 0 (af 1 (af 2 (af 3 (af 4 (aH 10 rfl (eq_int aF) (af 11 (aR _)))))))) (bV (k+1,q) _ ⟨(hB.up htr mo.r ah ah qo),hF,hT,ho⟩ aJ)
   have qo:=mo.no ga (p:=a) (q:=k) ah ah ah ah ah ah h50;refine aI 5 ?_ [3];replace hT:=(hT.t s_1).t s_2;replace hF:=hF.st s_2;replace ho:=ho.t s_2;refine kp (af 0 (af 1 (af 2 (af 3 (af 4 (af 10 (af 11 (aR _)))))))) (bV (i,k) _ ⟨(hB.down htr mo.r ah ah qo),hF,hT,ho⟩ aJ)
  have z8:q=i:=by omega
  subst z8;refine aI 8 ?_ [3];refine cH (ι:=Nat×(List aD)) (I:=λx w=>a<=x.1/\x.1<=q-1/\fT ys (λt=>σ (nA a x.1 t)) x.2/\aL w C/\ax [j] w₀ C w C/\bg w C j 58 v x.2) (e:=λx=>[(0,v),(1,.int .i64 a),(2,.int .i64 m),(3,.int .i64 b),(4,.func (.func 133) #[] #[]),(10,.int .i64 q),(13,.int .i64 x.1)]) (m:=λx=>q-1-x.1) (cC:=(a,zs)) (af 0 (af 1 (af 2 (af 3 (af 4 (af 10 (af 13 (aR _)))))))) ?_ ?_
  · exact⟨Nat.le_refl _,by omega,ga.congr λx=>by rw[Dd],hF,hT,ho⟩
  intro⟨k,us⟩ w4 hI ei;obtain⟨hk,hk2,od,hF,hT,ho⟩:=hI;try simp only at hk hk2 od hF hT ho
  show Run _ _ _ _ [(0,v),(1,.int .i64 a),(2,.int .i64 m),(3,.int .i64 b),(4,.func (.func 133) #[] #[]),(10,.int .i64 q),(13,.int .i64 k)] _ _;have wL:=od.len;refine aI 8 ?_ [15];refine bF 58 rfl (λyb=>?_) (λyb=>?_)
  ·
   have FW:k<q-1:=by omega
   refine aI 3 ?_;refine CO (id:=11) (ops:=DM.EW) [j] (C) 17 (.fork [0,1,2,3,4,5,6,7,8,10,11,12] 9 (.run [nn 13,eE 14,nn 15,eE 16,nn 17]) 13 (.run [nn 9,eE 14,nn 15,eE 16,nn 17])) b5 aq aq aq ?_;intro ez aB;have hR:=ax.refl [j] ez (C);refine AP ?_;show bO _ _ _ _ _ (jG 9 0 (jG 3 10 [])) _ _;refine cK ?_;refine aj 4 ?_;refine jA ((k+1:Nat):Int) ?_;refine aj 2 ?_;refine jA ((k+1:Nat):Int) ?_;replace ho:=ho.t aB;refine dx ho ?_;intro Ja DL;refine aj 2 ?_;refine dx ho ?_;intro wM Jj;refine nz ?_;refine AQ ?_ ?_
   ·
    show bO _ _ _ _ _ [nn 9] _ _;refine cK ?_;refine lI ho DL ?_;intro _ v70 qY;refine nz ?_;refine rB hR.ext ?_;refine sg ?_;show bO _ _ _ _ _ [nn 13,eE 14,nn 15,eE 16,nn 17] _ _;refine cK ?_;refine lI ho Jj ?_;intro _ FX tI;refine dx ho ?_;intro aae NB;refine lH (iU ho NB pU rfl rfl aq qY) ?_;rintro _ fE ⟨rfl,aM,ho⟩;refine⟨(hR.trans aM aF).ext,?_⟩;replace hT:=hT.t aB;replace hT:=hT.trans aM (by simp<;>omega);replace hR:=hR.trans aM (by simp<;>omega);refine dx ho ?_;intro wJ FN;refine jU rfl ?_;replace tI:=tI.t aM;refine cq (iU ho FN pU rfl rfl aq tI) ?_;rintro _ w7 ⟨rfl,aV,ho⟩;replace hT:=hT.trans aV (by simp<;>omega);refine ay 7 ?_ [7];replace hF:=((hF.st aB).st aM).st aV;refine kp (af 0 (af 1 (af 2 (af 3 (af 4 (af 10 (aH 13 rfl (eq_int aF) (aR _)))))))) (ei (k+1,((us.set k (us[k+1]'ah)).set (k+1) (us[k]'ah))) _ ⟨aJ,aJ,((od.swap ah ah rfl rfl).congr λx=>Td ah),hF,hT,ho⟩ aJ)
   show bO _ _ _ _ _ [nn 13] _ _;refine cK ?_;refine lI ho Jj ?_;intro _ FX tI;refine nz ?_;refine rB hR.ext ?_;refine sg ?_;show bO _ _ _ _ _ [nn 9,eE 14,nn 15,eE 16,nn 17] _ _;refine cK ?_;refine lI ho DL ?_;intro _ v70 qY;refine dx ho ?_;intro aae NB;refine lH (iU ho NB pU rfl rfl aq qY) ?_;rintro _ fR ⟨rfl,aX,ho⟩;refine⟨(hR.trans aX aF).ext,?_⟩;replace hT:=hT.t aB;replace hT:=hT.trans aX (by simp<;>omega);replace hR:=hR.trans aX (by simp<;>omega);refine dx ho ?_;intro wJ FN;refine jU rfl ?_;replace tI:=tI.t aX;refine cq (iU ho FN pU rfl rfl aq tI) ?_;rintro _ gE ⟨rfl,bp,ho⟩;replace hT:=hT.trans bp (by simp<;>omega);refine ay 7 ?_ [7];replace hF:=((hF.st aB).st aX).st bp;refine kp (af 0 (af 1 (af 2 (af 3 (af 4 (af 10 (aH 13 rfl (eq_int aF) (aR _)))))))) (ei (k+1,((us.set k (us[k+1]'ah)).set (k+1) (us[k]'ah))) _ ⟨aJ,aJ,((od.swap ah ah rfl rfl).congr λx=>Td ah),hF,hT,ho⟩ aJ)
  have FW:k=q-1:=by omega
  subst FW;refine aI 1 ?_;refine yG aq Tryz.func220 Tryz.results220 ?_;exact⟨rfl,us,_,⟨od,dN ah ah,hB.done Ji mo.r⟩,hT,ho,hF⟩
 have Ji:m≠a+1:=by omega
 refine aI 9 ?_ [15];refine bF 80 rfl (λBF=>?_) (λBF=>?_)
 ·
  have hm2:b=m+1:=by omega
  refine aI 12 ?_ [3,3];refine cH (ι:=Nat×Nat) (I:=λx w=>tw (fB iL ys) σ a m x.1 x.2/\aL w C/\ax [j] w₀ C w C/\bg w C j 58 v zs) (e:=λx=>[(0,v),(1,.int .i64 a),(2,.int .i64 m),(3,.int .i64 b),(4,.func (.func 133) #[] #[]),(14,.int .i64 x.1),(15,.int .i64 x.2)]) (m:=λx=>x.2-x.1) (cC:=(a,m)) (af 0 (af 1 (af 2 (af 3 (af 4 (af 14 (af 15 (aR _)))))))) ?_ ?_
  · exact⟨tw.start ah,hF,hT,ho⟩
  intro⟨i,q⟩ iI hI j5;obtain⟨hB,hF,hT,ho⟩:=hI;try simp only at hB hF hT ho
  show Run _ _ _ _ [(0,v),(1,.int .i64 a),(2,.int .i64 m),(3,.int .i64 b),(4,.func (.func 133) #[] #[]),(14,.int .i64 i),(15,.int .i64 q)] _ _;have qX:=hB.le;refine aI 7 ?_ [7];refine bF 85 rfl (λFY=>?_) (λFY=>?_)
  ·
   have z8:i<q:=by omega
   refine aG 7 ?_ [127];refine bK (λ_=>Ce rfl ⟨_,Tryz.underlying3⟩ Tryz.underlying112) ?_;refine bK (λ_=>w_ rfl rfl ah) ?_;refine bK (λ_=>D8 rfl ⟨_,Tryz.underlying112⟩ Tryz.underlying3 (Jg (i:=i) (j:=q) ah ah)) ?_;refine ay 2 ?_;obtain⟨k,hk⟩:∃k,k=(i+q)/2:=⟨_,rfl⟩
   rw[<-hk];have aA:k<zs.length:=by omega
   refine aI 1 ?_;refine cm [] (C) [1,3,5,7,9,11,13,15,17,18,21,23] b5 ?_;intro jj bt;have hR:=ax.refl [] jj (C);refine aj 3 ?_;replace ho:=ho.t bt;refine dx ho ?_;intro agR aaf;refine p5 ho aaf ?_;intro _ agS aag;obtain rfl:=gY.1 aag;refine aj 2 ?_;refine dx ho ?_;intro wN aah;refine p5 ho aah ?_;intro _ NC aai;obtain rfl:=gY.1 aai;replace hF:=hF.st bt;refine nz ?_;refine vC (iT 101 (.call {callee:=.value 92,args:=#[96,100],argTypes:=#[58,58]})) rfl rfl (xb (λargs w=>Tryz.call133 args w) rfl rfl) (Jd hF) ?_;rintro Aa jQ ⟨rfl,bM⟩;refine⟨(hR.trans bM aF).ext,?_⟩;refine cK ?_;refine aj 1 ?_;refine bK (λ_=>rW rfl) ?_;refine ay 1 ?_;refine bF 103 rfl (λBG=>?_) (λBG=>?_)
   ·
    have qo:=mo.no ga (p:=k) (q:=m) ah ah ah ah ah ah BG;refine aI 6 ?_ [7];replace hT:=(hT.t bt).t bM;replace hF:=hF.st bM;replace ho:=ho.t bM;refine kp (af 0 (af 1 (af 2 (af 3 (af 4 (aH 14 rfl (eq_int aF) (af 15 (aR _)))))))) (j5 (k+1,q) _ ⟨(hB.up htr mo.l ah ah qo),hF,hT,ho⟩ aJ)
   have qo:=mo.yes ga (p:=k) (q:=m) ah ah (Classical.not_not.1 BG);refine aI 5 ?_ [3];replace hT:=(hT.t bt).t bM;replace hF:=hF.st bM;replace ho:=ho.t bM;refine kp (af 0 (af 1 (af 2 (af 3 (af 4 (af 14 (af 15 (aR _)))))))) (j5 (i,k) _ ⟨(hB.down htr mo.l ah ah qo),hF,hT,ho⟩ aJ)
  have z8:q=i:=by omega
  subst z8;refine aI 8 ?_ [3];refine cH (ι:=Nat×(List aD)) (I:=λx w=>q<=x.1/\x.1<=m/\fT ys (λt=>σ (nB m x.1 t)) x.2/\aL w C/\ax [j] w₀ C w C/\bg w C j 58 v x.2) (e:=λx=>[(0,v),(1,.int .i64 a),(2,.int .i64 m),(3,.int .i64 b),(4,.func (.func 133) #[] #[]),(14,.int .i64 q),(17,.int .i64 x.1)]) (m:=λx=>x.1-q) (cC:=(m,zs)) (af 0 (af 1 (af 2 (af 3 (af 4 (af 14 (af 17 (aR _)))))))) ?_ ?_
  · exact⟨by omega,Nat.le_refl _,ga.congr λx=>by rw[Dr],hF,hT,ho⟩
  intro⟨k,us⟩ ki hI mS;obtain⟨hk,hk2,od,hF,hT,ho⟩:=hI;try simp only at hk hk2 od hF hT ho
  show Run _ _ _ _ [(0,v),(1,.int .i64 a),(2,.int .i64 m),(3,.int .i64 b),(4,.func (.func 133) #[] #[]),(14,.int .i64 q),(17,.int .i64 k)] _ _;have wL:=od.len;refine aI 7 ?_ [7];refine bF 110 rfl (λaaj=>?_) (λaaj=>?_)
  ·
   have FW:q<k:=by omega
   refine aI 3 ?_;refine CO (id:=23) (ops:=DM.qz) [j] (C) 17 (.fork [0,1,2,3,4,5,6,7,8,10,11,12] 9 (.run [nn 13,eE 14,nn 15,eE 16,nn 17]) 13 (.run [nn 9,eE 14,nn 15,eE 16,nn 17])) b5 aq aq aq ?_;intro kA bE;have hR:=ax.refl [j] kA (C);refine AP ?_;show bO _ _ _ _ _ (jG 9 0 (jG 3 10 [])) _ _;refine cK ?_;refine aj 4 ?_;refine jA ((k-1:Nat):Int) ?_;refine aj 2 ?_;refine jA ((k-1:Nat):Int) ?_;replace ho:=ho.t bE;refine dx ho ?_;intro agV Uy;refine aj 2 ?_;refine dx ho ?_;intro Uz UA;refine nz ?_;refine AQ ?_ ?_
   ·
    show bO _ _ _ _ _ [nn 9] _ _;refine cK ?_;refine lI ho Uy ?_;intro _ aak ND;refine nz ?_;refine rB hR.ext ?_;refine sg ?_;show bO _ _ _ _ _ [nn 13,eE 14,nn 15,eE 16,nn 17] _ _;refine cK ?_;refine lI ho UA ?_;intro _ aal Ab;refine dx ho ?_;intro Jk NF;refine lH (iU ho NF pU rfl rfl aq ND) ?_;rintro _ kR ⟨rfl,bP,ho⟩;refine⟨(hR.trans bP aF).ext,?_⟩;replace hT:=hT.t bE;replace hT:=hT.trans bP (by simp<;>omega);replace hR:=hR.trans bP (by simp<;>omega);refine dx ho ?_;intro aam NG;refine jU rfl ?_;replace Ab:=Ab.t bP;refine cq (iU ho NG pU rfl rfl aq Ab) ?_;rintro _ kB ⟨rfl,bS,ho⟩;replace hT:=hT.trans bS (by simp<;>omega);refine ay 7 ?_ [7];replace hF:=((hF.st bE).st bP).st bS;refine kp (af 0 (af 1 (af 2 (af 3 (af 4 (af 14 (aH 17 rfl (eq_int rU) (aR _)))))))) (mS (k-1,((us.set k (us[k-1]'ah)).set (k-1) (us[k]'ah))) _ ⟨aJ,aJ,((od.swap ah ah rfl rfl).congr λx=>Te ah ah),hF,hT,ho⟩ aJ)
   show bO _ _ _ _ _ [nn 13] _ _;refine cK ?_;refine lI ho UA ?_;intro _ aal Ab;refine nz ?_;refine rB hR.ext ?_;refine sg ?_;show bO _ _ _ _ _ [nn 9,eE 14,nn 15,eE 16,nn 17] _ _;refine cK ?_;refine lI ho Uy ?_;intro _ aak ND;refine dx ho ?_;intro Jk NF;refine lH (iU ho NF pU rfl rfl aq ND) ?_;rintro _ mb ⟨rfl,b7,ho⟩;refine⟨(hR.trans b7 aF).ext,?_⟩;replace hT:=hT.t bE;replace hT:=hT.trans b7 (by simp<;>omega);replace hR:=hR.trans b7 (by simp<;>omega);refine dx ho ?_;intro aam NG;refine jU rfl ?_;replace Ab:=Ab.t b7;refine cq (iU ho NG pU rfl rfl aq Ab) ?_;rintro _ mc ⟨rfl,cn,ho⟩;replace hT:=hT.trans cn (by simp<;>omega);refine ay 7 ?_ [7];replace hF:=((hF.st bE).st b7).st cn;refine kp (af 0 (af 1 (af 2 (af 3 (af 4 (af 14 (aH 17 rfl (eq_int rU) (aR _)))))))) (mS (k-1,((us.set k (us[k-1]'ah)).set (k-1) (us[k]'ah))) _ ⟨aJ,aJ,((od.swap ah ah rfl rfl).congr λx=>Te ah ah),hF,hT,ho⟩ aJ)
  have FW:k=q:=by omega
  subst FW;refine aI 1 ?_;refine yG aq Tryz.func220 Tryz.results220 ?_;exact⟨rfl,us,_,⟨od,GR ah ah ah,hB.done hm2 mo.l⟩,hT,ho,hF⟩
 have hm2:b≠m+1:=by omega
 refine aG 6 ?_ [127];refine bK (λ_=>Ce rfl ⟨_,Tryz.underlying3⟩ Tryz.underlying112) ?_;refine bK (λ_=>w_ rfl rfl ah) ?_;refine bK (λ_=>D8 rfl ⟨_,Tryz.underlying112⟩ Tryz.underlying3 (Jg (i:=a) (j:=b) ah ah)) ?_;refine ay 2 ?_;obtain⟨d,hd⟩:∃d,d=(a+b)/2:=⟨_,rfl⟩
 rw[<-hd];have UB:a<d/\d<b/\2*d<=a+b/\a+b<=2*d+1/\a<m/\m<b:=by omega
 refine aG 4 ?_ [15];refine jA ((d+m:Nat):Int) ?_;refine ay 14 ?_ [3,7];refine ED (ι:=Nat×Nat) (k:=[.code (K.aC DM.Nz)]) (I:=λx w=>jD (fB iL ys) σ a m b d x.1 x.2/\aL w C/\ax [j] w₀ C w C/\bg w C j 58 v zs) (e:=λx=>[(0,v),(1,.int .i64 a),(2,.int .i64 m),(3,.int .i64 b),(4,.func (.func 133) #[] #[]),(18,.int .i64 d),(19,.int .i64 (d+m:Nat)),(20,.int .i64 x.1),(21,.int .i64 x.2)]) ?_ ?_
 ·
  intro⟨s,r⟩ mg hI;obtain⟨hB,hF,hT,ho⟩:=hI;try simp only at*
  show Run _ _ _ _ [(0,v),(1,.int .i64 a),(2,.int .i64 m),(3,.int .i64 b),(4,.func (.func 133) #[] #[]),(18,.int .i64 d),(19,.int .i64 (d+m:Nat)),(20,.int .i64 s),(21,.int .i64 r)] _ _;refine aG 3 ?_ [7];refine jA ((d+m-1:Nat):Int) ?_;refine ay 4 ?_;refine cH (ι:=Nat×Nat) (I:=λx w=>jD (fB iL ys) σ a m b d x.1 x.2/\aL w C/\ax [j] w₀ C w C/\bg w C j 58 v zs) (e:=λx=>[(0,v),(1,.int .i64 a),(2,.int .i64 m),(3,.int .i64 b),(4,.func (.func 133) #[] #[]),(18,.int .i64 d),(19,.int .i64 (d+m:Nat)),(20,.int .i64 x.1),(21,.int .i64 x.2),(22,.int .i64 (d+m-1:Nat))]) (m:=λx=>x.2-x.1) (cC:=(s,r)) (af 0 (af 1 (af 2 (af 3 (af 4 (af 18 (af 19 (af 20 (af 21 (af 22 (aR _))))))))))) ?_ ?_
  · exact⟨hB,hF,hT,ho⟩
  intro⟨s,r⟩ mQ hI wO;obtain⟨hB,hF,hT,ho⟩:=hI;try simp only at hB hF hT ho
  show Run _ _ _ _ [(0,v),(1,.int .i64 a),(2,.int .i64 m),(3,.int .i64 b),(4,.func (.func 133) #[] #[]),(18,.int .i64 d),(19,.int .i64 (d+m:Nat)),(20,.int .i64 s),(21,.int .i64 r),(22,.int .i64 (d+m-1:Nat))] _ _;have qX:=hB.le;refine aI 7 ?_ [7];refine bF 151 rfl (λaan=>?_) (λaan=>?_)
  ·
   have z8:s<r:=by omega
   refine aG 6 ?_ [127];have agW:=hB.hi;refine aj 1 ?_;refine bK (λ_=>Ce rfl ⟨_,Tryz.underlying3⟩ Tryz.underlying112) ?_;refine bK (λ_=>w_ rfl rfl ah) ?_;refine bK (λ_=>D8 rfl ⟨_,Tryz.underlying112⟩ Tryz.underlying3 (Jg (i:=s) (j:=r) (by have:=hB.hi;omega) (by have:=hB.hi;omega))) ?_;refine ay 2 ?_;obtain⟨k,hk⟩:∃k,k=(s+r)/2:=⟨_,rfl⟩
   rw[<-hk];have agX:=hB.Le (q:=k) ah ah;refine aI 1 ?_;refine cm [] (C) [1,3,5,7,9,11,13,15,17,19,21,22,25,27] b5 ?_;intro oK bY;have hR:=ax.refl [] oK (C);refine aj 4 ?_;refine jA ((d+m-1-k:Nat):Int) ?_;replace ho:=ho.t bY;refine dx ho ?_;intro agY aao;refine p5 ho aao ?_;intro _ v164 aap;obtain rfl:=gY.1 aap;refine aj 2 ?_;refine dx ho ?_;intro wP aaq;refine p5 ho aaq ?_;intro _ v168 aar;obtain rfl:=gY.1 aar;replace hF:=hF.st bY;refine nz ?_;refine vC (iT 169 (.call {callee:=.value 158,args:=#[164,168],argTypes:=#[58,58]})) rfl rfl (xb (λargs w=>Tryz.call133 args w) rfl rfl) (Jd hF) ?_;rintro aas qV ⟨rfl,bT⟩;refine⟨(hR.trans bT aF).ext,?_⟩;refine cK ?_;refine aj 1 ?_;refine bK (λ_=>rW rfl) ?_;refine ay 1 ?_;refine bF 171 rfl (λFZ=>?_) (λFZ=>?_)
   ·
    have qo:=mo.no ga (p:=k) (q:=d+m-1-k) ah ah ah ah ah ah FZ;refine aI 6 ?_ [7];replace hT:=(hT.t bY).t bT;replace hF:=hF.st bT;replace ho:=ho.t bT;refine kp (af 0 (af 1 (af 2 (af 3 (af 4 (af 18 (af 19 (aH 20 rfl (eq_int aF) (af 21 (af 22 (aR _))))))))))) (wO (k+1,r) _ ⟨(hB.up ah ah qo),hF,hT,ho⟩ aJ)
   have qo:=mo.yes ga (p:=k) (q:=d+m-1-k) ah ah (Classical.not_not.1 FZ);refine aI 5 ?_ [3];replace hT:=(hT.t bY).t bT;replace hF:=hF.st bT;replace ho:=ho.t bT;refine kp (af 0 (af 1 (af 2 (af 3 (af 4 (af 18 (af 19 (af 20 (af 21 (af 22 (aR _))))))))))) (wO (s,k) _ ⟨(hB.down ah ah qo),hF,hT,ho⟩ aJ)
  have z8:r=s:=by omega
  subst z8;have hend:=hB.ends;refine aG 5 ?_ [15];refine jA ((d+m-r:Nat):Int) ?_;refine ay 4 ?_;refine kJ 185 (decide (r<m/\m<d+m-r)) (C) ?_ ?_
  ·
   intro c5;by_cases hA: ((r:Nat):Int)<((m:Nat):Int)
   ·
    refine aG 3 ?_ [255];refine dT hA ?_;refine aj 5 ?_;exact cD.nil (c5 _ _ _ (ax.refl _ _ _) rfl (by congr 1;apply decide_eq_decide.2;omega) (ef 8))
   refine aG 3 ?_ [255];refine ey hA ?_;refine aj 5 ?_;exact cD.nil (c5 _ _ _ (ax.refl _ _ _) rfl (by rw[decide_eq_false ah]) (ef 8))
  intro tG b_;refine ED (ι:=(List aD)) (k:=[.code DM.Uw]) (I:=λx w=>fT ys (λt=>σ (ro r m (d+m-r) t)) x/\aL w C/\ax [j] w₀ C w C/\bg w C j 58 v x) (e:=λx=>[(0,v),(1,.int .i64 a),(2,.int .i64 m),(3,.int .i64 b),(4,.func (.func 133) #[] #[]),(18,.int .i64 d),(20,.int .i64 r),(24,.int .i64 (d+m-r:Nat))]) ?_ ?_
  ·
   intro us pO hI;obtain⟨od,hF,hT,ho⟩:=hI;try simp only at*
   show Run _ _ _ _ [(0,v),(1,.int .i64 a),(2,.int .i64 m),(3,.int .i64 b),(4,.func (.func 133) #[] #[]),(18,.int .i64 d),(20,.int .i64 r),(24,.int .i64 (d+m-r:Nat))] _ _;refine aI 2 ?_;refine kJ 199 (decide (a<r/\r<d)) (C) ?_ ?_
   ·
    intro c5;by_cases hA: ((a:Nat):Int)<((r:Nat):Int)
    ·
     refine aG 3 ?_ [255];refine dT hA ?_;refine aj 5 ?_;exact cD.nil (c5 _ _ _ (ax.refl _ _ _) rfl (by congr 1;apply decide_eq_decide.2;omega) (ef 8))
    refine aG 3 ?_ [255];refine ey hA ?_;refine aj 5 ?_;exact cD.nil (c5 _ _ _ (ax.refl _ _ _) rfl (by rw[decide_eq_false ah]) (ef 8))
   intro wH cQ;refine ED (ι:=(List aD)×(Nat->Nat)) (k:=[.code (K.aC DM.Uw)]) (I:=λx w=>fT ys (λt=>σ (ro r m (d+m-r) (x.2 t))) x.1/\f_ x.2 a d/\jM (fB iL ys) (λt=>σ (ro r m (d+m-r) (x.2 t))) a d/\aL w C/\ax [j] w₀ C w C/\bg w C j 58 v x.1) (e:=λx=>[(0,v),(1,.int .i64 a),(2,.int .i64 m),(3,.int .i64 b),(4,.func (.func 133) #[] #[]),(18,.int .i64 d),(20,.int .i64 r),(24,.int .i64 (d+m-r:Nat))]) ?_ ?_
   ·
    intro⟨us,dU⟩ wI hI;obtain⟨od,wz,qn,hF,hT,ho⟩:=hI;try simp only at*
    show Run _ _ _ _ [(0,v),(1,.int .i64 a),(2,.int .i64 m),(3,.int .i64 b),(4,.func (.func 133) #[] #[]),(18,.int .i64 d),(20,.int .i64 r),(24,.int .i64 (d+m-r:Nat))] _ _;refine aI 1 ?_;refine kJ 213 (decide (d<d+m-r/\d+m-r<b)) (C) ?_ ?_
    ·
     intro c5;by_cases hA: ((d:Nat):Int)<((d+m-r:Nat):Int)
     ·
      refine aG 3 ?_ [255];refine dT hA ?_;refine aj 5 ?_;exact cD.nil (c5 _ _ _ (ax.refl _ _ _) rfl (by congr 1;apply decide_eq_decide.2;omega) (ef 8))
     refine aG 3 ?_ [255];refine ey hA ?_;refine aj 5 ?_;exact cD.nil (c5 _ _ _ (ax.refl _ _ _) rfl (by rw[decide_eq_false ah]) (ef 8))
    intro wQ cB;refine bF 213 rfl (λNH=>?_) (λNH=>?_)
    ·
     have xW:=NH;refine aG 6 ?_ [31];replace hF:=hF.st cB;replace ho:=ho.t cB;refine dc Tryz.call220 rfl (ih (b-d) ah d (d+m-r) b _ _ _ _ (Nat.le_refl _) ((hB.right mo xW.1 xW.2).keep λx h1 h2=>by rw[wz.out x ah]) od hF ho (by have:=od.len;omega)) ?_;rintro UC Ac ⟨rfl,vs,ρ,mC,dP,ho,hF⟩;replace hT:=hT.t cB;replace hT:=hT.trans dP (by simp<;>omega);refine ay 1 ?_;refine qy Tryz.func220 rfl ?_;exact⟨rfl,vs,_,hB.merge htr mo wz qn mC.wi mC.kz mC.pl,hT,ho,hF⟩
    have xW:¬(d<d+m-r/\d+m-r<b):=NH;refine aI 1 ?_;refine qy Tryz.func220 rfl ?_;replace hF:=hF.st cB;replace hT:=hT.t cB;replace ho:=ho.t cB;exact⟨rfl,us,_,hB.merge htr mo wz qn (f_.id d b) (λp q h1 h2 h3=>by
       show fB iL ys (σ (ro r m (d+m-r) (dU p))) (σ (ro r m (d+m-r) (dU q)));rw[wz.out p ah,wz.out q ah];exact hB.bl mo xW p q h1 h2 h3) od,hT,ho,hF⟩
   intro UD;refine bF 199 rfl (λNI=>?_) (λNI=>?_)
   ·
    have l6:=NI;refine aG 6 ?_ [31];replace hF:=hF.st cQ;replace ho:=ho.t cQ;refine dc Tryz.call220 rfl (ih (d-a) ah a (r) d _ _ _ _ (Nat.le_refl _) (hB.left mo l6.1 l6.2) od hF ho (by have:=od.len;omega)) ?_;rintro UE yc ⟨rfl,vs,dU,hq1,dR,ho,hF⟩;replace hT:=hT.t cQ;replace hT:=hT.trans dR (by simp<;>omega);refine ay 1 ?_;refine kp (af 0 (af 1 (af 2 (af 3 (af 4 (af 18 (af 20 (af 24 (aR _))))))))) (UD (vs,dU) _ ⟨hq1.pl,hq1.wi,hq1.kz,hF,hT,ho⟩)
   have l6:¬(a<r/\r<d):=NI;refine aI 1 ?_;replace hF:=hF.st cQ;replace hT:=hT.t cQ;replace ho:=ho.t cQ;refine kp (af 0 (af 1 (af 2 (af 3 (af 4 (af 18 (af 20 (af 24 (aR _))))))))) (UD (us,(λx=>x)) _ ⟨od,(f_.id _ _),(hB.c8 mo l6),hF,hT,ho⟩)
  intro UF;refine bF 185 rfl (λNJ=>?_) (λNJ=>?_)
  ·
   have hc1:=NJ;refine aG 6 ?_ [31];replace hF:=hF.st b_;replace ho:=ho.t b_;refine dc Tryz.call252 rfl (Cd (a:=r) (m:=m) (b:=d+m-r) hF hj ho ah ah ah ah) ?_;rintro agZ uQ ⟨rfl,us,hro,eS,ho,hF⟩;replace hT:=hT.t b_;replace hT:=hT.trans eS (by simp<;>omega);refine ay 1 ?_;refine kp (af 0 (af 1 (af 2 (af 3 (af 4 (af 18 (af 20 (af 24 (aR _))))))))) (UF (us) _ ⟨(ga.comp hro),hF,hT,ho⟩)
  have hc1:¬(r<m/\m<d+m-r):=NJ;refine aI 1 ?_;replace hF:=hF.st b_;replace hT:=hT.t b_;replace ho:=ho.t b_;refine kp (af 0 (af 1 (af 2 (af 3 (af 4 (af 18 (af 20 (af 24 (aR _))))))))) (UF (zs) _ ⟨(ga.congr λx=>by rw[dY ah ah ah]),hF,hT,ho⟩)
 intro UG;refine bF 140 rfl (λaat=>?_) (λaat=>?_)
 ·
  have NK:d<m:=by omega
  refine aG 4 ?_ [15];refine jA ((d+m-b:Nat):Int) ?_;refine ay 6 ?_ [3];refine kp (af 0 (af 1 (af 2 (af 3 (af 4 (af 18 (af 19 (af 20 (af 21 (aR _)))))))))) (UG (d+m-b,d) _ ⟨(jD.Dl UB NK),hF,hT,ho⟩)
 have NK:m<=d:=by omega
 refine aI 9 ?_ [3,3];refine kp (af 0 (af 1 (af 2 (af 3 (af 4 (af 18 (af 19 (af 20 (af 21 (aR _)))))))))) (UG (a,m) _ ⟨(jD.TF UB NK),hF,hT,ho⟩)
namespace aau
def c0:=cw Tryz.f189
end aau
theorem aav {w₀:World} {C:Nat->Nat} {j n:Nat} {v:Value} {ys:List aD} (hF:aL w₀ C) (hj:j≠0) (ho:bg w₀ C j 58 v ys) (hP:∀x∈ys,(λ_=>True) x) (hlen:ys.length<=140737488355328) (hn:n=ys.length):Calls Tryz.prog 189 #[v,.int .i64 n,.func (.func 133) #[] #[]] w₀ (bH λu w'=>u=.tuple #[]/\∃us,fH iL ys us/\ax [j] w₀ C w' C/\bg w' C j 58 v us/\aL w' C):=by
 have hT:=ax.refl [j] w₀ C;refine cg Tryz.func189 ?_;refine aI 12 ?_ [1,7];refine cH (ι:=Nat×Nat×(List aD)×(Nat->Nat)) (I:=λx w=>x.2.1=x.1*20/\x.2.1<=n/\fT ys x.2.2.2 x.2.2.1/\f_ x.2.2.2 0 x.2.1/\xV iL ys x.2.2.2 x.1/\aL w C/\ax [j] w₀ C w C/\bg w C j 58 v x.2.2.1) (e:=λx=>[(0,v),(1,.int .i64 n),(2,.func (.func 133) #[] #[]),(6,.int .i64 20),(7,.int .i64 x.2.1),(8,.int .i64 (x.2.1+20:Nat))]) (m:=λx=>n-x.2.1) (cC:=(0,0,ys,λx=>x)) (af 0 (af 1 (af 2 (af 6 (af 7 (af 8 (aR _))))))) ?_ ?_
 · exact⟨rfl,Nat.zero_le _,fT.id ys,f_.id _ _,xV.zero,hF,hT,ho⟩
 intro⟨k,a,us,σ⟩ w1 hI bV;obtain⟨ha,DN,ga,hW,hB,hF,hT,ho⟩:=hI;try simp only at ha DN ga hW hB hF hT ho
 show Run _ _ _ _ [(0,v),(1,.int .i64 n),(2,.func (.func 133) #[] #[]),(6,.int .i64 20),(7,.int .i64 a),(8,.int .i64 (a+20:Nat))] _ _;have wL:=ga.len;refine aI 7 ?_ [7];refine bF 13 rfl (λk5=>?_) (λk5=>?_)
 ·
  have UH:a+20<=n:=by omega
  refine aG 8 ?_ [15];refine dc Tryz.call219 rfl (Ur (a:=a) (b:=a+20) hF hj ho ah ah ah) ?_;rintro kO w2 ⟨rfl,vs,dU,NL,F0,NM,s_1,ho,hF⟩;replace hT:=hT.trans s_1 (by simp<;>omega);refine bQ 9 ?_ [3,15];refine jA ((a+20+20:Nat):Int) ?_;refine ay 3 ?_;refine kp (af 0 (af 1 (af 2 (af 6 (af 7 (af 8 (aR _))))))) (bV (k+1,a+20,vs,(λx=>σ (dU x))) _ ⟨aJ,aJ,(ga.comp NL),(show f_ (λx=>σ (dU x)) 0 (a+20) from(hW.mono (Nat.le_refl _) ah).comp (F0.mono ah ah)),(hB.next ha ga hW F0 NM ah),hF,hT,ho⟩ aJ)
 have UH:n<a+20:=by omega
 refine aG 7 ?_ [15];refine dc Tryz.call219 rfl (Ur (a:=a) (b:=n) hF hj ho ah ah ah) ?_;rintro lP w3 ⟨rfl,vs,dU,NL,F0,NM,s_2,ho,hF⟩;replace hT:=hT.trans s_2 (by simp<;>omega);refine ay 1 ?_;have F1:=hB.all ha ga hW hn F0 NM DN UH;have BH:f_ (λx=>σ (dU x)) 0 n:=(hW.mono (Nat.le_refl _) DN).comp (F0.mono ah (Nat.le_refl _));have aaw:=ga.comp NL;refine aI 1 ?_;refine cH (ι:=Nat×(List aD)×(Nat->Nat)) (I:=λx w=>20<=x.1/\x.1<=2*n+20/\fT ys x.2.2 x.2.1/\f_ x.2.2 0 n/\zP iL ys x.2.2 x.1 n/\aL w C/\ax [j] w₀ C w C/\bg w C j 58 v x.2.1) (e:=λx=>[(0,v),(1,.int .i64 n),(2,.func (.func 133) #[] #[]),(6,.int .i64 x.1)]) (m:=λx=>n-x.1) (cC:=(20,vs,(λx=>σ (dU x)))) (af 0 (af 1 (af 2 (af 6 (aR _))))) ?_ ?_
 · exact⟨Nat.le_refl _,by omega,aaw,BH,F1,hF,hT,ho⟩
 intro⟨d,us,σ⟩ w4 hI ei;obtain⟨hd,hd2,ga,hW,F1,hF,hT,ho⟩:=hI;try simp only at hd hd2 ga hW F1 hF hT ho
 show Run _ _ _ _ [(0,v),(1,.int .i64 n),(2,.func (.func 133) #[] #[]),(6,.int .i64 d)] _ _;have wL:=ga.len;refine aI 7 ?_ [7];refine bF 30 rfl (λuG=>?_) (λuG=>?_)
 ·
  have hdn:d<n:=by omega
  refine aG 5 ?_ [15];refine jA ((2*d:Nat):Int) ?_;refine ay 5 ?_;refine cH (ι:=Nat×Nat×(List aD)×(Nat->Nat)) (I:=λx w=>x.2.1=x.1*(2*d)/\x.2.1<=n/\fT ys x.2.2.2 x.2.2.1/\f_ x.2.2.2 0 n/\qN iL ys x.2.2.2 d n x.1/\aL w C/\ax [j] w₀ C w C/\bg w C j 58 v x.2.2.1) (e:=λx=>[(0,v),(1,.int .i64 n),(2,.func (.func 133) #[] #[]),(6,.int .i64 d),(7,.int .i64 x.2.1),(8,.int .i64 (x.2.1+2*d:Nat))]) (m:=λx=>n-x.2.1) (cC:=(0,0,us,σ)) (af 0 (af 1 (af 2 (af 6 (af 7 (aH 8 rfl (eq_int aF) (aR _))))))) ?_ ?_
  · exact⟨(Nat.zero_mul _).symm,Nat.zero_le _,ga,hW,F1.mix,hF,hT,ho⟩
  intro⟨k,a,us,σ⟩ ez hI j5;obtain⟨ha,DN,ga,hW,iD,hF,hT,ho⟩:=hI;try simp only at ha DN ga hW iD hF hT ho
  show Run _ _ _ _ [(0,v),(1,.int .i64 n),(2,.func (.func 133) #[] #[]),(6,.int .i64 d),(7,.int .i64 a),(8,.int .i64 (a+2*d:Nat))] _ _;have wL:=ga.len;refine aI 7 ?_ [7];refine bF 35 rfl (λk8=>?_) (λk8=>?_)
  ·
   have NN:a+2*d<=n:=by omega
   have hs1:=iD.fst ha ah;have hs2:=iD.snd ha;rw[show min (a+2*d) n=a+2*d by omega] at hs2;have mo:=n5.Tf uo hP ga hs1 hs2 ah ah ah;refine aG 8 ?_ [127];refine jA ((a+d:Nat):Int) ?_;refine aj 2 ?_;refine dc Tryz.call220 rfl (Ux hP hj (a+2*d) (a) (a+d) (a+2*d) _ _ _ _ ah mo ga hF ho ah) ?_;rintro nr fE ⟨rfl,vs,dU,hq,aB,ho,hF⟩;replace hT:=hT.trans aB (by simp<;>omega);refine bQ 9 ?_ [3,31];refine jA ((2*d:Nat):Int) ?_;refine jA ((a+2*d+2*d:Nat):Int) ?_;refine ay 3 ?_;refine kp (af 0 (af 1 (af 2 (af 6 (af 7 (af 8 (aR _))))))) (j5 (k+1,a+2*d,vs,(λx=>σ (dU x))) _ ⟨(by simp only;rw[Nat.succ_mul k,<-ha]),aJ,hq.pl,(hW.comp (hq.wi.mono ah ah)),(iD.next ha NN hq),hF,hT,ho⟩ aJ)
  have NN:n<a+2*d:=by omega
  refine aG 6 ?_ [15];refine jA ((a+d:Nat):Int) ?_;refine ay 8 ?_ [7];refine bF 54 rfl (λqZ=>?_) (λqZ=>?_)
  ·
   have hmn:a+d<n:=by omega
   have hs1:=iD.fst ha ah;have hs2:=iD.snd ha;rw[show min (a+2*d) n=n by omega] at hs2;have mo:=n5.Tf uo hP ga hs1 hs2 ah ah ah;refine aG 6 ?_ [31];refine dc Tryz.call220 rfl (Ux hP hj (n) (a) (a+d) (n) _ _ _ _ ah mo ga hF ho ah) ?_;rintro mE w7 ⟨rfl,vs,dU,hq,aM,ho,hF⟩;replace hT:=hT.trans aM (by simp<;>omega);refine bQ 3 ?_ [7];refine jA ((2*d:Nat):Int) ?_;refine ay 3 ?_;refine kp (af 0 (af 1 (af 2 (af 6 (aR _))))) (ei (2*d,vs,(λx=>σ (dU x))) _ ⟨aJ,aJ,hq.pl,(hW.comp (hq.wi.mono ah (Nat.le_refl _))),(iD.last ha hmn NN hq),hF,hT,ho⟩ aJ)
  have hmn:n<=a+d:=by omega
  refine aG 3 ?_ [7];refine jA ((2*d:Nat):Int) ?_;refine ay 3 ?_;refine kp (af 0 (af 1 (af 2 (af 6 (aR _))))) (ei (2*d,us,σ) _ ⟨aJ,aJ,aJ,aJ,(iD.rest ha hmn DN),hF,hT,ho⟩ aJ)
 have hdn:n<=d:=by omega
 refine aI 1 ?_;refine qy Tryz.func189 rfl ?_;subst hn;exact⟨rfl,us,⟨σ,ga,hW,F1.done hdn⟩,hT,ho,hF⟩
namespace aax
def c0:=cw Tryz.f132
end aax
theorem aay {w₀:World} {C:Nat->Nat} {j:Nat} {v:Value} {ys:List aD} (hF:aL w₀ C) (hj:j≠0) (ho:bg w₀ C j 58 v ys) (hP:∀x∈ys,(λ_=>True) x) (hlen:ys.length<=140737488355328):Calls Tryz.prog 132 #[v,.func (.func 133) #[] #[]] w₀ (bH λu w'=>u=.tuple #[]/\∃us,fH iL ys us/\ax [j] w₀ C w' C/\bg w' C j 58 v us/\aL w' C):=by
 have hT:=ax.refl [j] w₀ C;refine cg Tryz.func132 ?_;refine aG 3 ?_ [15];refine dE ho.ln ?_;refine aj 1 ?_;refine bZ Tryz.call189 (aav (n:=ys.length) hF hj ho hP hlen rfl) ?_;rintro lX w1 ⟨rfl,zs,tJ,s_1,ho,hF⟩;replace hT:=hT.trans s_1 (by simp<;>omega);refine ay 1 ?_;refine qy Tryz.func132 rfl ?_;exact⟨rfl,zs,tJ,hT,ho,hF⟩
end
end Go.Proofs.YtmdhggfehknjjaaGreat
