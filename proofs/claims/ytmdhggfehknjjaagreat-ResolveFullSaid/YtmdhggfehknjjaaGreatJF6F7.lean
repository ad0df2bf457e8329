/- Steps through functions of the program. -/
import Derived.Test.YtmdhggfehknjjaaGreatJC6D4
import Derived.Test.YtmdhggfehknjjaaGreatL2
import Derived.Test.YtmdhggfehknjjaaGreatL3
import Derived.Test.YtmdhggfehknjjaaGreatJM6E2
set_option maxRecDepth 100000
set_option maxHeartbeats 4000000
namespace Go.Proofs.YtmdhggfehknjjaaGreat
open Go.K Go.K.bn
noncomputable section
theorem ae_ {w₀:World} {C:Nat->Nat} {xs:List aH} {px:Value} (hF:aF w₀ C) (hw:aq w₀ (aj C) xs px) (hne:xs≠[]) (hlen:xs.length<=1000000) (j:Nat) (hj:j≠0):Calls Tryz.prog 42 #[px] w₀ (aZ λv w'=>∃aG,av [] w₀ C w' aG/\aF w' aG/\aQ w' aG j 58 v xs):=by
 have aO:=hF;replace hF:=hF.aI;replace hw:=hw.c1;obtain⟨a0,c0,ox,D7,_,hs0⟩:=kT.1 hw;obtain⟨b0,rfl⟩:∃b,a0=some b:=by
  rcases hs0 with h|⟨b,o,rfl,_⟩
  ·exact absurd h hne
  exact⟨_,rfl⟩
 clear hs0;refine bG Tryz.func42 ?_;refine aA 8 ?_ [1,3];refine aP (λ_=>Du ((show _=some px from rfl).trans (congrArg some ox)) Tryz.underlying23) ?_;refine bh 5 ?_ [10];refine aR (E_ (n:=5) (e:=58) (bytes:=40) hF ai) ?_;rintro _ w1 ⟨⟨a5,rfl⟩,s_1,hF⟩;refine ah 1 ?_;refine aR (GU (j:=5) (e:=58) (bytes:=40) (ys:=([]:List aH)) hF ak rfl rfl ai ak Fa hw.mv hne xA xA) ?_;rintro tg w2 ⟨cw,s_2,hn,hF⟩;refine ax 2 ?_;simp only[List.nil_append] at hn;refine bg Tryz.func42 ?_;obtain⟨rH,qe,hFg,FP,ud⟩:=hn.mG (z9 w₀ C).mv aO (er C) (λb _=>gI C ak b) ak j hj;exact⟨rH,((z9 w₀ C).o1).mG qe,hFg,ud⟩
theorem L6 {w₀:World} {C:Nat->Nat} {x y:aH} (hF:aF w₀ C):Calls Tryz.prog 133 #[.agg (jT x).toArray,.agg (jT y).toArray] w₀ (aZ λv w'=>v=.int .i64 (iO x y)/\av [] w₀ C w' C):=by
 have aO:=hF;replace hF:=hF.aI;refine bG Tryz.func133 ?_;refine aA 2 ?_ [4];refine aR (cu (cs:=jT x) hF 3 rfl rfl) ?_;rintro _ w1 ⟨cm,bq,rfl,s_1,hx,hF⟩;refine aR (cu (cs:=jT y) hF 3 rfl rfl) ?_;rintro _ w2 ⟨cw,cM,rfl,s_2,hy,hF⟩;refine bh 5 ?_ [37,4];refine aX hy.at_ ?_;refine ah 1 ?_ [4];refine aX hx.mv.at_ ?_;refine bD Tryz.call97 (Iz _ _ _) ?_;rintro iu w3 ⟨rfl,rfl⟩;refine ax 2 ?_;refine bg Tryz.func133 ?_;exact⟨rfl,(z9 w₀ C).o1⟩
namespace Y9
def c0:=qQ Tryz.f219
def Q_:=(cl (b7 (cl (cl (b7 c0)))))
def afa:=(b7 (cl (cl (b7 (cl Q_)))))
def Ea:=nD (cl (cl afa))
end Y9
theorem Y_ {w₀:World} {C:Nat->Nat} {j a b:Nat} {v:Value} {ys:List aH} (hF:aF w₀ C) (hj:j≠0) (ho:aQ w₀ C j 58 v ys) (hab:a<=b) (hb:b<=ys.length) (hlen:ys.length<=140737488355328):
    Calls Tryz.prog 219 #[v,.int .i64 a,.int .i64 b,.func (.func 133) #[] #[]] w₀ (aZ λu w'=>u=.tuple #[]/\∃zs σ,fO ys σ zs/\fV σ a b/\jV (e9 iO ys) σ a b/\av [j] w₀ C w' C/\aQ w' C j 58 v zs/\aF w' C):=by
 refine bG Tryz.func219 ?_;refine aB 7 ?_ [7];refine cg (ι:=Nat×(List aH)×(Nat->Nat)) (λx w=>a+1<=x.1/\x.1<=max (a+1) b/\fO ys x.2.2 x.2.1/\fV x.2.2 a x.1/\jV (e9 iO ys) x.2.2 a x.1/\aF w C/\av [j] w₀ C w C/\aQ w C j 58 v x.2.1) (λx=>[(0,v),(1,.int .i64 a),(2,.int .i64 b),(3,.func (.func 133) #[] #[]),(8,.int .i64 x.1)]) (λx=>b-x.1) (a+1,ys,λi=>i) ?_ ?_
 · exact⟨Nat.le_refl _,by omega,fO.id ys,fV.id _ _,λp q h1 h2 h3=>by omega,hF,(av.refl [j] w₀ C),ho⟩
 intro⟨i,zs,σ⟩ w1 hI bu;obtain⟨hi1,hi2,fZ,L7,nW,hF,hT,ho⟩:=hI;try simp only at hi1 hi2 fZ L7 nW hF hT ho
 show Run _ _ _ _ [(0,v),(1,.int .i64 a),(2,.int .i64 b),(3,.func (.func 133) #[] #[]),(8,.int .i64 i)] _ _;have hzl:=fZ.len;refine aB 7 ?_ [7];refine a_ 14 rfl (λeR=>?_) (λeR=>?_)
 ·
  have hib:i<b:=by omega
  have hil:i<ys.length:=by omega
  refine aB 9 ?_ [3];refine cg (ι:=Nat×(List aH)×(Nat->Nat)) (λx w=>fO ys x.2.2 x.2.1/\tI iO ys x.2.2 a i x.1/\aF w C/\av [j] w₀ C w C/\aQ w C j 58 v x.2.1) (λx=>[(0,v),(1,.int .i64 a),(2,.int .i64 b),(3,.func (.func 133) #[] #[]),(8,.int .i64 i),(9,.int .i64 x.1)]) (λx=>x.1) (i,zs,σ) ?_ ?_
  · exact⟨fZ,tI.start L7 af nW,hF,hT,ho⟩
  intro⟨q,zs,σ⟩ w2 hI eD;obtain⟨fZ,hI,hF,hT,ho⟩:=hI;try simp only at fZ hI hF hT ho
  show Run _ _ _ _ [(0,v),(1,.int .i64 a),(2,.int .i64 b),(3,.func (.func 133) #[] #[]),(8,.int .i64 i),(9,.int .i64 q)] _ _;have hzl:=fZ.len;have hle:=hI.le;refine aB 2 ?_;by_cases hA: (a:Int)<q
  ·
   refine bX [] (C) [1,3,5,7,9,11,13,15,17,19,21,23,25,27,28,31,33] bP ?_;intro w3 s_1;refine ah 2 ?_;refine dT hA ?_;refine ah 4 ?_;refine c6 ho.mv ?_;intro lY Ra;refine qU ho.mv Ra ?_;intro _ v26 sD;obtain rfl:=jU.1 sD;refine ah 3 ?_;refine c6 ho.mv ?_;intro fK afb;refine qU ho.mv afb ?_;intro _ v31 nj;have nV: ((q:Int)-1).toNat=q-1:=by omega
   simp only[nV] at nj;obtain rfl:=jU.1 nj;refine nz ?_;refine uK (k8 32 (.call {callee:=.value 22,args:=#[26,31],argTypes:=#[58,58]}) 3 true) rfl rfl (rM (λargs w=>Tryz.call133 args w) rfl rfl) (L6 hF.mv) ?_;rintro fS w4 ⟨rfl,s_2⟩;refine⟨aW,?_⟩;refine ck ?_;refine ax 3 ?_;refine a_ 34 rfl (λlX=>?_) (λlX=>?_)
   ·
    have pG:=(hI.ord wJ (λx _=>trivial) fZ af hil af af).2 lX;refine aB 3 ?_;refine EZ (id:=6) (ops:=Y9.Ea) [j] (C) 17 (.fork [0,1,2,3,4,5,6,7,8,10,11,12] 9 (.run [nn 13,eu 14,nn 15,eu 16,nn 17]) 13 (.run [nn 9,eu 14,nn 15,eu 16,nn 17])) bP ai ai ai ?_;intro dc cq;refine C9 ?_;show bN _ _ _ _ _ (jm 9 0 (jm 3 10 [])) _ _;refine ck ?_;refine ah 8 ?_;refine c6 ho.mv ?_;intro yJ L8;refine ah 2 ?_;refine c6 ho.mv ?_;intro wZ LZ;refine nz ?_;refine C_ ?_ ?_
    ·
     show bN _ _ _ _ _ [nn 9] _ _;refine nE (fq 46 (.load 58 45)) rfl rfl aW ho.mv L8 jC ai ai rfl rfl ?_;intro v46 oW;try simp only[fh] at oW
     have nV: ((q:Int)-1).toNat=q-1:=by omega
     simp only[nV] at oW;refine sS aW ?_;refine tJ ?_;show bN _ _ _ _ _ [nn 13,eu 14,nn 15,eu 16,nn 17] _ _;refine nE (fq 50 (.load 58 49)) rfl rfl aW ho.mv LZ jC ai ai rfl rfl ?_;intro v50 ku;try simp only[fh] at ku
     refine ck ?_;refine c6 ho.mv ?_;intro lT mP;refine j7 (gQ ho.mv mP jC rfl rfl ai oW) ?_;rintro _ ei ⟨rfl,cI,ho⟩;refine⟨aW,?_⟩;refine c6 ho ?_;intro k4 Rb;refine gU rfl ?_;refine bM (gQ ho Rb jC rfl rfl ai ku.mv) ?_;rintro _ w7 ⟨rfl,de,ho⟩;refine ax 7 ?_ [7];try simp only[show((q:Int)-1).toNat=q-1 from by omega,fh] at ho
     refine bC (eD (q-1,((zs.set q (zs[q-1]'af)).set (q-1) (zs[q]'af)),(nL σ q (q-1))) _ ⟨(fZ.swap af af rfl rfl),(hI.step af pG),hF.mv,hT.mv,ho⟩ aD)
    show bN _ _ _ _ _ [nn 13] _ _;refine nE (fq 50 (.load 58 49)) rfl rfl aW ho.mv LZ jC ai ai rfl rfl ?_;intro v50 ku;try simp only[fh] at ku
    refine sS aW ?_;refine tJ ?_;show bN _ _ _ _ _ [nn 9,eu 14,nn 15,eu 16,nn 17] _ _;refine nE (fq 46 (.load 58 45)) rfl rfl aW ho.mv L8 jC ai ai rfl rfl ?_;intro v46 oW;try simp only[fh] at oW
    have nV: ((q:Int)-1).toNat=q-1:=by omega
    simp only[nV] at oW;refine ck ?_;refine c6 ho.mv ?_;intro lT mP;refine j7 (gQ ho.mv mP jC rfl rfl ai oW) ?_;rintro _ fk ⟨rfl,ej,ho⟩;refine⟨aW,?_⟩;refine c6 ho ?_;intro k4 Rb;refine gU rfl ?_;refine bM (gQ ho Rb jC rfl rfl ai ku.mv) ?_;rintro _ fJ ⟨rfl,eS,ho⟩;refine ax 7 ?_ [7];try simp only[show((q:Int)-1).toNat=q-1 from by omega,fh] at ho
    refine bC (eD (q-1,((zs.set q (zs[q-1]'af)).set (q-1) (zs[q]'af)),(nL σ q (q-1))) _ ⟨(fZ.swap af af rfl rfl),(hI.step af pG),hF.mv,hT.mv,ho⟩ aD)
   have pG:q=a\/¬e9 iO ys i (σ (q-1)):=.inr (λe=>lX ((hI.ord wJ (λx _=>trivial) fZ af hil af af).1 e));refine aA 3 ?_ [7]
   skip
   refine ax 4 ?_;have Rc:q=a\/¬e9 iO ys i (σ (q-1)):=pG;obtain⟨Ay,ha2⟩:=hI.done wJ (λx _=>trivial) hil Rc;refine bC (bu (i+1,zs,σ) _ ⟨aD,aD,aD,Ay,ha2,hF.mv,hT.mv,ho.mv⟩ aD)
  refine bX [] (C) [1,3,5,7,9,11,13,15,17,19,21,23,25,27,28,31,33] bP ?_;intro gn fA;refine ah 2 ?_;refine cL hA ?_;refine ah 11 ?_;refine nz ?_;refine mb (k8 32 (.call {callee:=.value 22,args:=#[26,31],argTypes:=#[58,58]}) 3 true) rfl rfl aW ?_;refine ck ?_;refine bh 7 ?_ [7]
  skip
  refine ax 4 ?_;have Rc:q=a\/¬e9 iO ys i (σ (q-1)):=.inl af;obtain⟨Ay,ha2⟩:=hI.done wJ (λx _=>trivial) hil Rc;refine bC (bu (i+1,zs,σ) _ ⟨aD,aD,aD,Ay,ha2,hF.mv,hT.mv,ho.mv⟩ aD)
 have hib:b<=i:=by omega
 refine aB 1 ?_;refine rT Tryz.func219 rfl ?_;refine⟨rfl,zs,σ,fZ,?_,?_,hT,ho,hF⟩
 · by_cases e:i=a+1
   · subst e;exact L7.thin hab
   rw[show b=i by omega];exact L7
 exact λp q h1 h2 h3=>nW p q h1 h2 af
theorem L9 {i j:Nat} (h1: (i:Int)<=4611686018427387904) (h2: (j:Int)<=4611686018427387904):IntKind.i64.wrap ((IntKind.u64.wrap ((i:Int)+j)).fdiv (2^min (1:Int).toNat IntKind.u64.bits))=(((i+j)/2:Nat):Int):=by
 rw[wrap_u64 af af,show min (1:Int).toNat IntKind.u64.bits=1 from by decide,show(2:Int)^1=2 from rfl,Int.fdiv_eq_ediv_of_nonneg _ ak,wrap_i64 af af];omega
namespace Za
def c0:=qQ Tryz.f265
def Q_:=(cl (b7 (cl (cl (b7 c0)))))
def Dm:=nD (cl Q_)
end Za
theorem Re {w₀:World} {C:Nat->Nat} {j a b n:Nat} {v:Value} {zs:List aH} (hF:aF w₀ C) (hj:j≠0) (ho:aQ w₀ C j 58 v zs) (hlen:zs.length<=140737488355328) (h1:a+n<=b) (h2:b+n<=zs.length):Calls Tryz.prog 265 #[v,.int .i64 a,.int .i64 b,.int .i64 n,.func (.func 133) #[] #[]] w₀ (aZ λu w'=>u=.tuple #[]/\∃us,fO zs (oM a b n) us/\av [j] w₀ C w' C/\aQ w' C j 58 v us/\aF w' C):=by
 refine bG Tryz.func265 ?_;refine aB 5 ?_ [1];refine cg (ι:=Nat×(List aH)) (λx w=>x.1<=n/\fO zs (oM a b x.1) x.2/\aF w C/\av [j] w₀ C w C/\aQ w C j 58 v x.2) (λx=>[(0,v),(1,.int .i64 a),(2,.int .i64 b),(3,.int .i64 n),(4,.func (.func 133) #[] #[]),(10,.int .i64 x.1)]) (λx=>n-x.1) (0,zs) ?_ ?_
 · exact⟨Nat.zero_le _,(fO.id zs).congr λx=>abO.symm,hF,(av.refl [j] w₀ C),ho⟩
 intro⟨k,us⟩ w1 hI bu;obtain⟨hk,fZ,hF,hT,ho⟩:=hI;try simp only at hk fZ hF hT ho
 show Run _ _ _ _ [(0,v),(1,.int .i64 a),(2,.int .i64 b),(3,.int .i64 n),(4,.func (.func 133) #[] #[]),(10,.int .i64 k)] _ _;have y_:=fZ.len;refine aB 7 ?_ [7];refine a_ 13 rfl (λjc=>?_) (λjc=>?_)
 ·
  have hkn:k<n:=by omega
  refine aB 3 ?_;refine EZ (id:=3) (ops:=Za.Dm) [j] (C) 23 (.fork [0,1,2,3,4,5,6,7,8,9,10,11,12,14,15,16,17,18] 13 (.run [nn 19,eu 20,nn 21,eu 22,nn 23]) 19 (.run [nn 13,eu 20,nn 21,eu 22,nn 23])) bP ai ai ai ?_;intro w2 s_1;refine C9 ?_;show bN _ _ _ _ _ (jm 13 0 (jm 5 14 [])) _ _;refine ck ?_;refine ah 3 ?_;refine jE ((a+k:Nat):Int) ?_;refine ah 3 ?_;refine jE ((b+k:Nat):Int) ?_;refine ah 3 ?_;refine jE ((b+k:Nat):Int) ?_;refine c6 ho.mv ?_;intro qL Zb;refine ah 3 ?_;refine jE ((a+k:Nat):Int) ?_;refine c6 ho.mv ?_;intro td L_;refine nz ?_;refine C_ ?_ ?_
  ·
   show bN _ _ _ _ _ [nn 13] _ _;refine nE (fq 29 (.load 58 28)) rfl rfl aW ho.mv Zb jC ai ai rfl rfl ?_;intro uy kR;try simp only[fh] at kR
   refine sS aW ?_;refine tJ ?_;show bN _ _ _ _ _ [nn 19,eu 20,nn 21,eu 22,nn 23] _ _;refine nE (fq 35 (.load 58 34)) rfl rfl aW ho.mv L_ jC ai ai rfl rfl ?_;intro v35 o7;try simp only[fh] at o7
   refine ck ?_;refine c6 ho.mv ?_;intro rI Je;refine j7 (gQ ho.mv Je jC rfl rfl ai kR) ?_;rintro _ w3 ⟨rfl,s_2,ho⟩;refine⟨aW,?_⟩;refine c6 ho ?_;intro mO Jf;refine gU rfl ?_;refine bM (gQ ho Jf jC rfl rfl ai o7.mv) ?_;rintro _ w4 ⟨rfl,cq,ho⟩;refine ax 7 ?_ [7];refine bC (bu (k+1,((us.set (a+k) (us[b+k]'af)).set (b+k) (us[a+k]'af))) _ ⟨aD,((fZ.swap af af rfl rfl).congr λx=>XK af),hF.mv,hT.mv,ho⟩ aD)
  show bN _ _ _ _ _ [nn 19] _ _;refine nE (fq 35 (.load 58 34)) rfl rfl aW ho.mv L_ jC ai ai rfl rfl ?_;intro v35 o7;try simp only[fh] at o7
  refine sS aW ?_;refine tJ ?_;show bN _ _ _ _ _ [nn 13,eu 20,nn 21,eu 22,nn 23] _ _;refine nE (fq 29 (.load 58 28)) rfl rfl aW ho.mv Zb jC ai ai rfl rfl ?_;intro uy kR;try simp only[fh] at kR
  refine ck ?_;refine c6 ho.mv ?_;intro rI Je;refine j7 (gQ ho.mv Je jC rfl rfl ai kR) ?_;rintro _ dc ⟨rfl,cI,ho⟩;refine⟨aW,?_⟩;refine c6 ho ?_;intro mO Jf;refine gU rfl ?_;refine bM (gQ ho Jf jC rfl rfl ai o7.mv) ?_;rintro _ ei ⟨rfl,de,ho⟩;refine ax 7 ?_ [7];refine bC (bu (k+1,((us.set (a+k) (us[b+k]'af)).set (b+k) (us[a+k]'af))) _ ⟨aD,((fZ.swap af af rfl rfl).congr λx=>XK af),hF.mv,hT.mv,ho⟩ aD)
 obtain rfl:n=k:=by omega
 refine aB 1 ?_;refine rT Tryz.func265 rfl ?_;exact⟨rfl,us,fZ,hT,ho,hF⟩
theorem afc {w₀:World} {C:Nat->Nat} {j a m b:Nat} {v:Value} {zs:List aH} (hF:aF w₀ C) (hj:j≠0) (ho:aQ w₀ C j 58 v zs) (hlen:zs.length<=140737488355328) (hab:a<m) (hmb:m<b) (qK:b<=zs.length):Calls Tryz.prog 252 #[v,.int .i64 a,.int .i64 m,.int .i64 b,.func (.func 133) #[] #[]] w₀ (aZ λu w'=>u=.tuple #[]/\∃us,fO zs (ro a m b) us/\av [j] w₀ C w' C/\aQ w' C j 58 v us/\aF w' C):=by
 refine bG Tryz.func252 ?_;refine aB 16 ?_ [15,15];refine cg (ι:=Nat×Nat×(List aH)) (λx w=>vw zs x.2.2 a m b x.1 x.2.1/\aF w C/\av [j] w₀ C w C/\aQ w C j 58 v x.2.2) (λx=>[(0,v),(1,.int .i64 a),(2,.int .i64 m),(3,.int .i64 b),(4,.func (.func 133) #[] #[]),(10,.int .i64 x.1),(11,.int .i64 x.2.1)]) (λx=>x.1+x.2.1) (m-a,b-m,zs) ?_ ?_
 · exact⟨vw.start hab hmb,hF,(av.refl [j] w₀ C),ho⟩
 intro⟨p,q,us⟩ w1 hI bu;obtain⟨hI,hF,hT,ho⟩:=hI;try simp only at hI hF hT ho
 show Run _ _ _ _ [(0,v),(1,.int .i64 a),(2,.int .i64 m),(3,.int .i64 b),(4,.func (.func 133) #[] #[]),(10,.int .i64 p),(11,.int .i64 q)] _ _;have vQ:=hI.b1;have fu:=hI.b2;have y_:us.length=zs.length:=let⟨_,h,_⟩:=hI.ex;h.len;refine aB 7 ?_ [7];refine a_ 20 rfl (λk6=>?_) (λk6=>?_)
 ·
  refine aB 8 ?_ [7];refine a_ 23 rfl (λh23=>?_) (λh23=>?_)
  ·
   have hpq:q<p:=by omega
   refine aA 5 ?_ [127];refine jE ((m-p:Nat):Int) ?_;refine ah 3 ?_;refine cz Tryz.call265 rfl (Re (a:=m-p) (b:=m) (n:=q) hF hj ho af af af) ?_;rintro fP w2 ⟨rfl,vs,hv,s_1,ho,hF⟩;refine bh 4 ?_ [15];refine jE ((p-q:Nat):Int) ?_;refine ax 3 ?_;refine bC (bu (p-q,q,vs) _ ⟨(hI.more hpq hv),hF,hT.mv,ho⟩ aD)
  have hpq:p<q:=by omega
  refine aA 5 ?_ [2047];refine jE ((m-p:Nat):Int) ?_;refine ah 2 ?_;refine jE ((m+q:Nat):Int) ?_;refine ah 1 ?_;refine jE ((m+q-p:Nat):Int) ?_;refine ah 2 ?_;refine cz Tryz.call265 rfl (Re (a:=m-p) (b:=m+q-p) (n:=p) hF hj ho af af af) ?_;rintro iu w3 ⟨rfl,vs,hv,s_2,ho,hF⟩;refine bh 4 ?_ [15];refine jE ((q-p:Nat):Int) ?_;refine ax 3 ?_;refine bC (bu (p,q-p,vs) _ ⟨(hI.less hpq hv),hF,hT.mv,ho⟩ aD)
 have hpq:q=p:=by omega
 subst hpq;refine aA 5 ?_ [127];refine jE ((m-q:Nat):Int) ?_;refine ah 3 ?_;refine cz Tryz.call265 rfl (Re (a:=m-q) (b:=m) (n:=q) hF hj ho af af af) ?_;rintro fS w4 ⟨rfl,vs,hv,cq,ho,hF⟩;refine ax 1 ?_;refine rT Tryz.func252 rfl ?_;exact⟨rfl,vs,hI.done hv,hT.mv,ho,hF⟩
namespace F3
def c0:=qQ Tryz.f220
def Eb:=(b7 (b7 (cl (b7 (cl c0)))))
def afd:=(cl (cl (b7 (cl (b7 Eb)))))
def afe:=nD (cl (cl (b7 afd)))
def aff:=(b7 (cl (b7 (cl (b7 c0)))))
def afg:=(cl (b7 (cl (b7 (b7 aff)))))
def rq:=nD (cl (cl (b7 (cl afg))))
def Zc:=(b7 (b7 (b7 (b7 (b7 c0)))))
def Zd:=(b7 (b7 (b7 (b7 (b7 Zc)))))
end F3
theorem Ze {j:Nat} {v:Value} {ys:List aH} (hP:∀x∈ys,(λ_=>True) x) (hj:j≠0):∀(N a m b:Nat) (w₀:World) (C:Nat->Nat) (zs:List aH) (σ:Nat->Nat),b-a<=N->oO iO ys σ a m b->fO ys σ zs->aF w₀ C->aQ w₀ C j 58 v zs->zs.length<=140737488355328->
    Calls Tryz.prog 220 #[v,.int .i64 a,.int .i64 m,.int .i64 b,.func (.func 133) #[] #[]] w₀ (aZ λu w'=>u=.tuple #[]/\∃us d_,FC iO ys σ a b us d_/\av [j] w₀ C w' C/\aQ w' C j 58 v us/\aF w' C):=by
 intro N
 induction N using Nat.strongRecOn
 rename_i N ih;intro a m b w₀ C zs σ hN mT fZ hF ho hlen;replace ih:=λn (hn:n<b-a)=>ih n af;have htr:=ab8 wJ hP;have y_:=fZ.len;have yU:=mT.lt;refine bG Tryz.func220 ?_;refine aB 8 ?_ [15];refine a_ 28 rfl (λgG=>?_) (λgG=>?_)
 ·
  have F4:m=a+1:=by omega
  refine aB 12 ?_ [3,3];refine cg (ι:=Nat×Nat) (λx w=>vA (e9 iO ys) σ a m b x.1 x.2/\aF w C/\av [j] w₀ C w C/\aQ w C j 58 v zs) (λx=>[(0,v),(1,.int .i64 a),(2,.int .i64 m),(3,.int .i64 b),(4,.func (.func 133) #[] #[]),(10,.int .i64 x.1),(11,.int .i64 x.2)]) (λx=>x.2-x.1) (m,b) ?_ ?_
  · exact⟨vA.start af,hF,(av.refl [j] w₀ C),ho⟩
  intro⟨i,q⟩ w1 hI bu;obtain⟨hB,hF,hT,ho⟩:=hI;try simp only at hB hF hT ho
  show Run _ _ _ _ [(0,v),(1,.int .i64 a),(2,.int .i64 m),(3,.int .i64 b),(4,.func (.func 133) #[] #[]),(10,.int .i64 i),(11,.int .i64 q)] _ _;have qK:=hB.le;refine aB 7 ?_ [7];refine a_ 33 rfl (λlV=>?_) (λlV=>?_)
  ·
   have Ch:i<q:=by omega
   refine aA 7 ?_ [127];refine aP (λ_=>A4 rfl ⟨_,Tryz.underlying3⟩ Tryz.underlying112) ?_;refine aP (λ_=>qP rfl rfl af) ?_;refine aP (λ_=>Gj rfl ⟨_,Tryz.underlying112⟩ Tryz.underlying3 (L9 (i:=i) (j:=q) af af)) ?_;refine ax 2 ?_;obtain⟨k,hk⟩:∃k,k=(i+q)/2:=⟨_,rfl⟩
   rw[<-hk];have ay:k<zs.length:=by omega
   refine aB 1 ?_;refine bX [] (C) [1,3,5,7,9,11,13,15,17,18,21] bP ?_;intro w2 s_1;refine ah 3 ?_;refine c6 ho.mv ?_;intro yZ afh;refine qU ho.mv afh ?_;intro _ v44 oV;obtain rfl:=jU.1 oV;refine ah 2 ?_;refine c6 ho.mv ?_;intro ni afi;refine qU ho.mv afi ?_;intro _ DP lE;obtain rfl:=jU.1 lE;refine nz ?_;refine uK (fq 49 (.call {callee:=.value 40,args:=#[44,48],argTypes:=#[58,58]})) rfl rfl (rM (λargs w=>Tryz.call133 args w) rfl rfl) (L6 hF.mv) ?_;rintro iu w3 ⟨rfl,s_2⟩;refine⟨aW,?_⟩;refine ck ?_;refine ax 2 ?_;refine a_ 50 rfl (λh50=>?_) (λh50=>?_)
   ·
    have pG:=mT.yes fZ (p:=a) (q:=k) af af h50;refine aB 6 ?_ [7];refine bC (bu (k+1,q) _ ⟨(hB.up htr mT.r af af pG),hF.mv,hT.mv,ho.mv⟩ aD)
   have pG:=mT.no fZ (p:=a) (q:=k) af af af af af af h50;refine aB 5 ?_ [3];refine bC (bu (i,k) _ ⟨(hB.down htr mT.r af af pG),hF.mv,hT.mv,ho.mv⟩ aD)
  have Ch:q=i:=by omega
  subst Ch;refine aB 8 ?_ [3];refine cg (ι:=Nat×(List aH)) (λx w=>a<=x.1/\x.1<=q-1/\fO ys (λt=>σ (ou a x.1 t)) x.2/\aF w C/\av [j] w₀ C w C/\aQ w C j 58 v x.2) (λx=>[(0,v),(1,.int .i64 a),(2,.int .i64 m),(3,.int .i64 b),(4,.func (.func 133) #[] #[]),(10,.int .i64 q),(13,.int .i64 x.1)]) (λx=>q-1-x.1) (a,zs) ?_ ?_
  · exact⟨Nat.le_refl _,by omega,fZ.congr λx=>by rw[abV],hF,hT,ho⟩
  intro⟨k,us⟩ w4 hI eD;obtain⟨hk,hk2,pH,hF,hT,ho⟩:=hI;try simp only at hk hk2 pH hF hT ho
  show Run _ _ _ _ [(0,v),(1,.int .i64 a),(2,.int .i64 m),(3,.int .i64 b),(4,.func (.func 133) #[] #[]),(10,.int .i64 q),(13,.int .i64 k)] _ _;have y_:=pH.len;refine aB 8 ?_ [15];refine a_ 58 rfl (λlD=>?_) (λlD=>?_)
  ·
   have Jg:k<q-1:=by omega
   refine aB 3 ?_;refine EZ (id:=11) (ops:=F3.afe) [j] (C) 17 (.fork [0,1,2,3,4,5,6,7,8,10,11,12] 9 (.run [nn 13,eu 14,nn 15,eu 16,nn 17]) 13 (.run [nn 9,eu 14,nn 15,eu 16,nn 17])) bP ai ai ai ?_;intro dc cq;refine C9 ?_;show bN _ _ _ _ _ (jm 9 0 (jm 3 10 [])) _ _;refine ck ?_;refine ah 4 ?_;refine jE ((k+1:Nat):Int) ?_;refine ah 2 ?_;refine jE ((k+1:Nat):Int) ?_;refine c6 ho.mv ?_;intro DV F2;refine ah 2 ?_;refine c6 ho.mv ?_;intro Ci Ma;refine nz ?_;refine C_ ?_ ?_
   ·
    show bN _ _ _ _ _ [nn 9] _ _;refine nE (fq 70 (.load 58 69)) rfl rfl aW ho.mv F2 jC ai ai rfl rfl ?_;intro v70 pz;try simp only[fh] at pz
    refine sS aW ?_;refine tJ ?_;show bN _ _ _ _ _ [nn 13,eu 14,nn 15,eu 16,nn 17] _ _;refine nE (fq 74 (.load 58 73)) rfl rfl aW ho.mv Ma jC ai ai rfl rfl ?_;intro Rf za;try simp only[fh] at za
    refine ck ?_;refine c6 ho.mv ?_;intro yK Rg;refine j7 (gQ ho.mv Rg jC rfl rfl ai pz) ?_;rintro _ ei ⟨rfl,cI,ho⟩;refine⟨aW,?_⟩;refine c6 ho ?_;intro y9 I_;refine gU rfl ?_;refine bM (gQ ho I_ jC rfl rfl ai za.mv) ?_;rintro _ w7 ⟨rfl,de,ho⟩;refine ax 7 ?_ [7];refine bC (eD (k+1,((us.set k (us[k+1]'af)).set (k+1) (us[k]'af))) _ ⟨aD,aD,((pH.swap af af rfl rfl).congr λx=>XL af),hF.mv,hT.mv,ho⟩ aD)
   show bN _ _ _ _ _ [nn 13] _ _;refine nE (fq 74 (.load 58 73)) rfl rfl aW ho.mv Ma jC ai ai rfl rfl ?_;intro Rf za;try simp only[fh] at za
   refine sS aW ?_;refine tJ ?_;show bN _ _ _ _ _ [nn 9,eu 14,nn 15,eu 16,nn 17] _ _;refine nE (fq 70 (.load 58 69)) rfl rfl aW ho.mv F2 jC ai ai rfl rfl ?_;intro v70 pz;try simp only[fh] at pz
   refine ck ?_;refine c6 ho.mv ?_;intro yK Rg;refine j7 (gQ ho.mv Rg jC rfl rfl ai pz) ?_;rintro _ fk ⟨rfl,ej,ho⟩;refine⟨aW,?_⟩;refine c6 ho ?_;intro y9 I_;refine gU rfl ?_;refine bM (gQ ho I_ jC rfl rfl ai za.mv) ?_;rintro _ fJ ⟨rfl,eS,ho⟩;refine ax 7 ?_ [7];refine bC (eD (k+1,((us.set k (us[k+1]'af)).set (k+1) (us[k]'af))) _ ⟨aD,aD,((pH.swap af af rfl rfl).congr λx=>XL af),hF.mv,hT.mv,ho⟩ aD)
  have Jg:k=q-1:=by omega
  subst Jg;refine aB 1 ?_;refine AZ ai Tryz.func220 Tryz.results220 ?_;exact⟨rfl,us,_,⟨pH,abX af af,hB.done F4 mT.r⟩,hT,ho,hF⟩
 have F4:m≠a+1:=by omega
 refine aB 9 ?_ [15];refine a_ 80 rfl (λxe=>?_) (λxe=>?_)
 ·
  have hm2:b=m+1:=by omega
  refine aB 12 ?_ [3,3];refine cg (ι:=Nat×Nat) (λx w=>vC (e9 iO ys) σ a m x.1 x.2/\aF w C/\av [j] w₀ C w C/\aQ w C j 58 v zs) (λx=>[(0,v),(1,.int .i64 a),(2,.int .i64 m),(3,.int .i64 b),(4,.func (.func 133) #[] #[]),(14,.int .i64 x.1),(15,.int .i64 x.2)]) (λx=>x.2-x.1) (a,m) ?_ ?_
  · exact⟨vC.start af,hF,(av.refl [j] w₀ C),ho⟩
  intro⟨i,q⟩ gn hI kJ;obtain⟨hB,hF,hT,ho⟩:=hI;try simp only at hB hF hT ho
  show Run _ _ _ _ [(0,v),(1,.int .i64 a),(2,.int .i64 m),(3,.int .i64 b),(4,.func (.func 133) #[] #[]),(14,.int .i64 i),(15,.int .i64 q)] _ _;have qK:=hB.le;refine aB 7 ?_ [7];refine a_ 85 rfl (λafj=>?_) (λafj=>?_)
  ·
   have Ch:i<q:=by omega
   refine aA 7 ?_ [127];refine aP (λ_=>A4 rfl ⟨_,Tryz.underlying3⟩ Tryz.underlying112) ?_;refine aP (λ_=>qP rfl rfl af) ?_;refine aP (λ_=>Gj rfl ⟨_,Tryz.underlying112⟩ Tryz.underlying3 (L9 (i:=i) (j:=q) af af)) ?_;refine ax 2 ?_;obtain⟨k,hk⟩:∃k,k=(i+q)/2:=⟨_,rfl⟩
   rw[<-hk];have ay:k<zs.length:=by omega
   refine aB 1 ?_;refine bX [] (C) [1,3,5,7,9,11,13,15,17,18,21,23] bP ?_;intro iK fA;refine ah 3 ?_;refine c6 ho.mv ?_;intro akE afk;refine qU ho.mv afk ?_;intro _ akF afl;obtain rfl:=jU.1 afl;refine ah 2 ?_;refine c6 ho.mv ?_;intro Zf afm;refine qU ho.mv afm ?_;intro _ Zg afn;obtain rfl:=jU.1 afn;refine nz ?_;refine uK (fq 101 (.call {callee:=.value 92,args:=#[96,100],argTypes:=#[58,58]})) rfl rfl (rM (λargs w=>Tryz.call133 args w) rfl rfl) (L6 hF.mv) ?_;rintro yT iV ⟨rfl,fT⟩;refine⟨aW,?_⟩;refine ck ?_;refine ah 1 ?_;refine aP (λ_=>CF rfl) ?_;refine ax 1 ?_;refine a_ 103 rfl (λIr=>?_) (λIr=>?_)
   ·
    have pG:=mT.no fZ (p:=k) (q:=m) af af af af af af Ir;refine aB 6 ?_ [7];refine bC (kJ (k+1,q) _ ⟨(hB.up htr mT.l af af pG),hF.mv,hT.mv,ho.mv⟩ aD)
   have pG:=mT.yes fZ (p:=k) (q:=m) af af (Classical.not_not.1 Ir);refine aB 5 ?_ [3];refine bC (kJ (i,k) _ ⟨(hB.down htr mT.l af af pG),hF.mv,hT.mv,ho.mv⟩ aD)
  have Ch:q=i:=by omega
  subst Ch;refine aB 8 ?_ [3];refine cg (ι:=Nat×(List aH)) (λx w=>q<=x.1/\x.1<=m/\fO ys (λt=>σ (ov m x.1 t)) x.2/\aF w C/\av [j] w₀ C w C/\aQ w C j 58 v x.2) (λx=>[(0,v),(1,.int .i64 a),(2,.int .i64 m),(3,.int .i64 b),(4,.func (.func 133) #[] #[]),(14,.int .i64 q),(17,.int .i64 x.1)]) (λx=>x.1-q) (m,zs) ?_ ?_
  · exact⟨by omega,Nat.le_refl _,fZ.congr λx=>by rw[abW],hF,hT,ho⟩
  intro⟨k,us⟩ ki hI pg;obtain⟨hk,hk2,pH,hF,hT,ho⟩:=hI;try simp only at hk hk2 pH hF hT ho
  show Run _ _ _ _ [(0,v),(1,.int .i64 a),(2,.int .i64 m),(3,.int .i64 b),(4,.func (.func 133) #[] #[]),(14,.int .i64 q),(17,.int .i64 k)] _ _;have y_:=pH.len;refine aB 7 ?_ [7];refine a_ 110 rfl (λafo=>?_) (λafo=>?_)
  ·
   have Jg:q<k:=by omega
   refine aB 3 ?_;refine EZ (id:=23) (ops:=F3.rq) [j] (C) 17 (.fork [0,1,2,3,4,5,6,7,8,10,11,12] 9 (.run [nn 13,eu 14,nn 15,eu 16,nn 17]) 13 (.run [nn 9,eu 14,nn 15,eu 16,nn 17])) bP ai ai ai ?_;intro kH gY;refine C9 ?_;show bN _ _ _ _ _ (jm 9 0 (jm 3 10 [])) _ _;refine ck ?_;refine ah 4 ?_;refine jE ((k-1:Nat):Int) ?_;refine ah 2 ?_;refine jE ((k-1:Nat):Int) ?_;refine c6 ho.mv ?_;intro akG Zh;refine ah 2 ?_;refine c6 ho.mv ?_;intro akH Zi;refine nz ?_;refine C_ ?_ ?_
   ·
    show bN _ _ _ _ _ [nn 9] _ _;refine nE (fq 122 (.load 58 121)) rfl rfl aW ho.mv Zh jC ai ai rfl rfl ?_;intro Qo xk;try simp only[fh] at xk
    refine sS aW ?_;refine tJ ?_;show bN _ _ _ _ _ [nn 13,eu 14,nn 15,eu 16,nn 17] _ _;refine nE (fq 126 (.load 58 125)) rfl rfl aW ho.mv Zi jC ai ai rfl rfl ?_;intro afp F5;try simp only[fh] at F5
    refine ck ?_;refine c6 ho.mv ?_;intro Mb Rh;refine j7 (gQ ho.mv Rh jC rfl rfl ai xk) ?_;rintro _ lR ⟨rfl,eY,ho⟩;refine⟨aW,?_⟩;refine c6 ho ?_;intro afq Ri;refine gU rfl ?_;refine bM (gQ ho Ri jC rfl rfl ai F5.mv) ?_;rintro _ mo ⟨rfl,iW,ho⟩;refine ax 7 ?_ [7];refine bC (pg (k-1,((us.set k (us[k-1]'af)).set (k-1) (us[k]'af))) _ ⟨aD,aD,((pH.swap af af rfl rfl).congr λx=>XM af af),hF.mv,hT.mv,ho⟩ aD)
   show bN _ _ _ _ _ [nn 13] _ _;refine nE (fq 126 (.load 58 125)) rfl rfl aW ho.mv Zi jC ai ai rfl rfl ?_;intro afp F5;try simp only[fh] at F5
   refine sS aW ?_;refine tJ ?_;show bN _ _ _ _ _ [nn 9,eu 14,nn 15,eu 16,nn 17] _ _;refine nE (fq 122 (.load 58 121)) rfl rfl aW ho.mv Zh jC ai ai rfl rfl ?_;intro Qo xk;try simp only[fh] at xk
   refine ck ?_;refine c6 ho.mv ?_;intro Mb Rh;refine j7 (gQ ho.mv Rh jC rfl rfl ai xk) ?_;rintro _ nQ ⟨rfl,jx,ho⟩;refine⟨aW,?_⟩;refine c6 ho ?_;intro afq Ri;refine gU rfl ?_;refine bM (gQ ho Ri jC rfl rfl ai F5.mv) ?_;rintro _ oh ⟨rfl,jX,ho⟩;refine ax 7 ?_ [7];refine bC (pg (k-1,((us.set k (us[k-1]'af)).set (k-1) (us[k]'af))) _ ⟨aD,aD,((pH.swap af af rfl rfl).congr λx=>XM af af),hF.mv,hT.mv,ho⟩ aD)
  have Jg:k=q:=by omega
  subst Jg;refine aB 1 ?_;refine AZ ai Tryz.func220 Tryz.results220 ?_;exact⟨rfl,us,_,⟨pH,abY af af af,hB.done hm2 mT.l⟩,hT,ho,hF⟩
 have hm2:b≠m+1:=by omega
 refine aA 6 ?_ [127];refine aP (λ_=>A4 rfl ⟨_,Tryz.underlying3⟩ Tryz.underlying112) ?_;refine aP (λ_=>qP rfl rfl af) ?_;refine aP (λ_=>Gj rfl ⟨_,Tryz.underlying112⟩ Tryz.underlying3 (L9 (i:=a) (j:=b) af af)) ?_;refine ax 2 ?_;obtain⟨d,hd⟩:∃d,d=(a+b)/2:=⟨_,rfl⟩
 rw[<-hd];have Zj:a<d/\d<b/\2*d<=a+b/\a+b<=2*d+1/\a<m/\m<b:=by omega
 refine aA 4 ?_ [15];refine jE ((d+m:Nat):Int) ?_;refine ax 14 ?_ [3,7];refine GO (ι:=Nat×Nat) (k:=[.code (K.b7 F3.Zc)]) (I:=λx w=>jM (e9 iO ys) σ a m b d x.1 x.2/\aF w C/\av [j] w₀ C w C/\aQ w C j 58 v zs) (e:=λx=>[(0,v),(1,.int .i64 a),(2,.int .i64 m),(3,.int .i64 b),(4,.func (.func 133) #[] #[]),(18,.int .i64 d),(19,.int .i64 (d+m:Nat)),(20,.int .i64 x.1),(21,.int .i64 x.2)]) ?_ ?_
 ·
  intro⟨s,r⟩ mJ hI;obtain⟨hB,hF,hT,ho⟩:=hI;try simp only at*
  show Run _ _ _ _ [(0,v),(1,.int .i64 a),(2,.int .i64 m),(3,.int .i64 b),(4,.func (.func 133) #[] #[]),(18,.int .i64 d),(19,.int .i64 (d+m:Nat)),(20,.int .i64 s),(21,.int .i64 r)] _ _;refine aA 3 ?_ [7];refine jE ((d+m-1:Nat):Int) ?_;refine ax 4 ?_;refine cg (ι:=Nat×Nat) (λx w=>jM (e9 iO ys) σ a m b d x.1 x.2/\aF w C/\av [j] w₀ C w C/\aQ w C j 58 v zs) (λx=>[(0,v),(1,.int .i64 a),(2,.int .i64 m),(3,.int .i64 b),(4,.func (.func 133) #[] #[]),(18,.int .i64 d),(19,.int .i64 (d+m:Nat)),(20,.int .i64 x.1),(21,.int .i64 x.2),(22,.int .i64 (d+m-1:Nat))]) (λx=>x.2-x.1) (s,r) ?_ ?_
  · exact⟨hB,hF,hT,ho⟩
  intro⟨s,r⟩ qC hI yR;obtain⟨hB,hF,hT,ho⟩:=hI;try simp only at hB hF hT ho
  show Run _ _ _ _ [(0,v),(1,.int .i64 a),(2,.int .i64 m),(3,.int .i64 b),(4,.func (.func 133) #[] #[]),(18,.int .i64 d),(19,.int .i64 (d+m:Nat)),(20,.int .i64 s),(21,.int .i64 r),(22,.int .i64 (d+m-1:Nat))] _ _;have qK:=hB.le;refine aB 7 ?_ [7];refine a_ 151 rfl (λafr=>?_) (λafr=>?_)
  ·
   have Ch:s<r:=by omega
   refine aA 6 ?_ [127];have akI:=hB.hi;refine ah 1 ?_;refine aP (λ_=>A4 rfl ⟨_,Tryz.underlying3⟩ Tryz.underlying112) ?_;refine aP (λ_=>qP rfl rfl af) ?_;refine aP (λ_=>Gj rfl ⟨_,Tryz.underlying112⟩ Tryz.underlying3 (L9 (i:=s) (j:=r) (by have:=hB.hi;omega) (by have:=hB.hi;omega))) ?_;refine ax 2 ?_;obtain⟨k,hk⟩:∃k,k=(s+r)/2:=⟨_,rfl⟩
   rw[<-hk];have akJ:=hB.G4 (q:=k) af af;refine aB 1 ?_;refine bX [] (C) [1,3,5,7,9,11,13,15,17,19,21,22,25,27] bP ?_;intro tO mq;refine ah 4 ?_;refine jE ((d+m-1-k:Nat):Int) ?_;refine c6 ho.mv ?_;intro akK afs;refine qU ho.mv afs ?_;intro _ v164 afu;obtain rfl:=jU.1 afu;refine ah 2 ?_;refine c6 ho.mv ?_;intro akL afv;refine qU ho.mv afv ?_;intro _ v168 afw;obtain rfl:=jU.1 afw;refine nz ?_;refine uK (fq 169 (.call {callee:=.value 158,args:=#[164,168],argTypes:=#[58,58]})) rfl rfl (rM (λargs w=>Tryz.call133 args w) rfl rfl) (L6 hF.mv) ?_;rintro afx wN ⟨rfl,lU⟩;refine⟨aW,?_⟩;refine ck ?_;refine ah 1 ?_;refine aP (λ_=>CF rfl) ?_;refine ax 1 ?_;refine a_ 171 rfl (λRj=>?_) (λRj=>?_)
   ·
    have pG:=mT.no fZ (p:=k) (q:=d+m-1-k) af af af af af af Rj;refine aB 6 ?_ [7];refine bC (yR (k+1,r) _ ⟨(hB.up af af pG),hF.mv,hT.mv,ho.mv⟩ aD)
   have pG:=mT.yes fZ (p:=k) (q:=d+m-1-k) af af (Classical.not_not.1 Rj);refine aB 5 ?_ [3];refine bC (yR (s,k) _ ⟨(hB.down af af pG),hF.mv,hT.mv,ho.mv⟩ aD)
  have Ch:r=s:=by omega
  subst Ch;have hend:=hB.ends;refine aA 5 ?_ [15];refine jE ((d+m-r:Nat):Int) ?_;refine ax 4 ?_;refine iL 185 (decide (r<m/\m<d+m-r)) (C) ?_ ?_
  ·
   intro bU;by_cases hA: ((r:Nat):Int)<((m:Nat):Int)
   ·
    refine aA 3 ?_ [255];refine dT hA ?_;refine ah 5 ?_;exact bQ.nil (bU _ _ _ (av.refl _ _ _) rfl (by congr 1;apply decide_eq_decide.2;omega) (cB 8))
   refine aA 3 ?_ [255];refine cL hA ?_;refine ah 5 ?_;exact bQ.nil (bU _ _ _ (av.refl _ _ _) rfl (by rw[decide_eq_false af]) (cB 8))
  intro wO nh;refine GO (ι:=(List aH)) (k:=[.code F3.Zd]) (I:=λx w=>fO ys (λt=>σ (ro r m (d+m-r) t)) x/\aF w C/\av [j] w₀ C w C/\aQ w C j 58 v x) (e:=λx=>[(0,v),(1,.int .i64 a),(2,.int .i64 m),(3,.int .i64 b),(4,.func (.func 133) #[] #[]),(18,.int .i64 d),(20,.int .i64 r),(24,.int .i64 (d+m-r:Nat))]) ?_ ?_
  ·
   intro us wP hI;obtain⟨pH,hF,hT,ho⟩:=hI;try simp only at*
   show Run _ _ _ _ [(0,v),(1,.int .i64 a),(2,.int .i64 m),(3,.int .i64 b),(4,.func (.func 133) #[] #[]),(18,.int .i64 d),(20,.int .i64 r),(24,.int .i64 (d+m-r:Nat))] _ _;refine aB 2 ?_;refine iL 199 (decide (a<r/\r<d)) (C) ?_ ?_
   ·
    intro bU;by_cases hA: ((a:Nat):Int)<((r:Nat):Int)
    ·
     refine aA 3 ?_ [255];refine dT hA ?_;refine ah 5 ?_;exact bQ.nil (bU _ _ _ (av.refl _ _ _) rfl (by congr 1;apply decide_eq_decide.2;omega) (cB 8))
    refine aA 3 ?_ [255];refine cL hA ?_;refine ah 5 ?_;exact bQ.nil (bU _ _ _ (av.refl _ _ _) rfl (by rw[decide_eq_false af]) (cB 8))
   intro zX oJ;refine GO (ι:=(List aH)×(Nat->Nat)) (k:=[.code (K.b7 F3.Zd)]) (I:=λx w=>fO ys (λt=>σ (ro r m (d+m-r) (x.2 t))) x.1/\fV x.2 a d/\jV (e9 iO ys) (λt=>σ (ro r m (d+m-r) (x.2 t))) a d/\aF w C/\av [j] w₀ C w C/\aQ w C j 58 v x.1) (e:=λx=>[(0,v),(1,.int .i64 a),(2,.int .i64 m),(3,.int .i64 b),(4,.func (.func 133) #[] #[]),(18,.int .i64 d),(20,.int .i64 r),(24,.int .i64 (d+m-r:Nat))]) ?_ ?_
   ·
    intro⟨us,d_⟩ Bx hI;obtain⟨pH,yw,kS,hF,hT,ho⟩:=hI;try simp only at*
    show Run _ _ _ _ [(0,v),(1,.int .i64 a),(2,.int .i64 m),(3,.int .i64 b),(4,.func (.func 133) #[] #[]),(18,.int .i64 d),(20,.int .i64 r),(24,.int .i64 (d+m-r:Nat))] _ _;refine aB 1 ?_;refine iL 213 (decide (d<d+m-r/\d+m-r<b)) (C) ?_ ?_
    ·
     intro bU;by_cases hA: ((d:Nat):Int)<((d+m-r:Nat):Int)
     ·
      refine aA 3 ?_ [255];refine dT hA ?_;refine ah 5 ?_;exact bQ.nil (bU _ _ _ (av.refl _ _ _) rfl (by congr 1;apply decide_eq_decide.2;omega) (cB 8))
     refine aA 3 ?_ [255];refine cL hA ?_;refine ah 5 ?_;exact bQ.nil (bU _ _ _ (av.refl _ _ _) rfl (by rw[decide_eq_false af]) (cB 8))
    intro Dp nR;refine a_ 213 rfl (λRk=>?_) (λRk=>?_)
    ·
     have yB:=Rk;refine aA 6 ?_ [31];refine cz Tryz.call220 rfl (ih (b-d) af d (d+m-r) b _ _ _ _ (Nat.le_refl _) ((hB.right mT yB.1 yB.2).keep λx h1 h2=>by rw[yw.out x af]) pH hF.mv ho.mv (by have:=pH.len;omega)) ?_;rintro afy E5 ⟨rfl,vs,ρ,iq,om,ho,hF⟩;refine ax 1 ?_;refine rT Tryz.func220 rfl ?_;exact⟨rfl,vs,_,hB.merge htr mT yw kS iq.wi iq.jw iq.pl,hT.mv,ho,hF⟩
    have yB:¬(d<d+m-r/\d+m-r<b):=Rk;refine aB 1 ?_;refine rT Tryz.func220 rfl ?_;exact⟨rfl,us,_,hB.merge htr mT yw kS (fV.id d b) (λp q h1 h2 h3=>by
       show e9 iO ys (σ (ro r m (d+m-r) (d_ p))) (σ (ro r m (d+m-r) (d_ q)));rw[yw.out p af,yw.out q af];exact hB.ab6 mT yB p q h1 h2 h3) pH,hT.mv,ho.mv,hF.mv⟩
   intro Zk;refine a_ 199 rfl (λRl=>?_) (λRl=>?_)
   ·
    have pn:=Rl;refine aA 6 ?_ [31];refine cz Tryz.call220 rfl (ih (d-a) af a (r) d _ _ _ _ (Nat.le_refl _) (hB.left mT pn.1 pn.2) pH hF.mv ho.mv (by have:=pH.len;omega)) ?_;rintro afz Jh ⟨rfl,vs,d_,hq1,uX,ho,hF⟩;refine ax 1 ?_;refine bC (Zk (vs,d_) _ ⟨hq1.pl,hq1.wi,hq1.jw,hF,hT.mv,ho⟩)
   have pn:¬(a<r/\r<d):=Rl;refine aB 1 ?_;refine bC (Zk (us,(λx=>x)) _ ⟨pH,(fV.id _ _),(hB.ab5 mT pn),hF.mv,hT.mv,ho.mv⟩)
  intro Zl;refine a_ 185 rfl (λRm=>?_) (λRm=>?_)
  ·
   have hc1:=Rm;refine aA 6 ?_ [31];refine cz Tryz.call252 rfl (afc (a:=r) (m:=m) (b:=d+m-r) hF.mv hj ho.mv af af af af) ?_;rintro akM Ji ⟨rfl,us,hro,zY,ho,hF⟩;refine ax 1 ?_;refine bC (Zl (us) _ ⟨(fZ.comp hro),hF,hT.mv,ho⟩)
  have hc1:¬(r<m/\m<d+m-r):=Rm;refine aB 1 ?_;refine bC (Zl (zs) _ ⟨(fZ.congr λx=>by rw[abQ af af af]),hF.mv,hT.mv,ho.mv⟩)
 intro Zm;refine a_ 140 rfl (λafA=>?_) (λafA=>?_)
 ·
  have Rn:d<m:=by omega
  refine aA 4 ?_ [15];refine jE ((d+m-b:Nat):Int) ?_;refine ax 6 ?_ [3];refine bC (Zm (d+m-b,d) _ ⟨(jM.abZ Zj Rn),hF,(av.refl [j] w₀ C),ho⟩)
 have Rn:m<=d:=by omega
 refine aB 9 ?_ [3,3];refine bC (Zm (a,m) _ ⟨(jM.ab0 Zj Rn),hF,(av.refl [j] w₀ C),ho⟩)
theorem afB {w₀:World} {C:Nat->Nat} {j n:Nat} {v:Value} {ys:List aH} (hF:aF w₀ C) (hj:j≠0) (ho:aQ w₀ C j 58 v ys) (hP:∀x∈ys,(λ_=>True) x) (hlen:ys.length<=140737488355328) (hn:n=ys.length):Calls Tryz.prog 189 #[v,.int .i64 n,.func (.func 133) #[] #[]] w₀ (aZ λu w'=>u=.tuple #[]/\∃us,fm iO ys us/\av [j] w₀ C w' C/\aQ w' C j 58 v us/\aF w' C):=by
 refine bG Tryz.func189 ?_;refine aB 12 ?_ [1,7];refine cg (ι:=Nat×Nat×(List aH)×(Nat->Nat)) (λx w=>x.2.1=x.1*20/\x.2.1<=n/\fO ys x.2.2.2 x.2.2.1/\fV x.2.2.2 0 x.2.1/\An iO ys x.2.2.2 x.1/\aF w C/\av [j] w₀ C w C/\aQ w C j 58 v x.2.2.1) (λx=>[(0,v),(1,.int .i64 n),(2,.func (.func 133) #[] #[]),(6,.int .i64 20),(7,.int .i64 x.2.1),(8,.int .i64 (x.2.1+20:Nat))]) (λx=>n-x.2.1) (0,0,ys,λx=>x) ?_ ?_
 · exact⟨rfl,Nat.zero_le _,fO.id ys,fV.id _ _,An.zero,hF,(av.refl [j] w₀ C),ho⟩
 intro⟨k,a,us,σ⟩ w1 hI bu;obtain⟨ha,F6,fZ,hW,hB,hF,hT,ho⟩:=hI;try simp only at ha F6 fZ hW hB hF hT ho
 show Run _ _ _ _ [(0,v),(1,.int .i64 n),(2,.func (.func 133) #[] #[]),(6,.int .i64 20),(7,.int .i64 a),(8,.int .i64 (a+20:Nat))] _ _;have y_:=fZ.len;refine aB 7 ?_ [7];refine a_ 13 rfl (λjc=>?_) (λjc=>?_)
 ·
  have Zn:a+20<=n:=by omega
  refine aA 8 ?_ [15];refine cz Tryz.call219 rfl (Y_ (a:=a) (b:=a+20) hF hj ho af af af) ?_;rintro fP w2 ⟨rfl,vs,d_,Ro,Jj,Rp,s_1,ho,hF⟩;refine bh 9 ?_ [3,15];refine jE ((a+20+20:Nat):Int) ?_;refine ax 3 ?_;refine bC (bu (k+1,a+20,vs,(λx=>σ (d_ x))) _ ⟨aD,aD,(fZ.comp Ro),(show fV (λx=>σ (d_ x)) 0 (a+20) from(hW.mono (Nat.le_refl _) af).comp (Jj.mono af af)),(hB.next ha fZ hW Jj Rp af),hF,hT.mv,ho⟩ aD)
 have Zn:n<a+20:=by omega
 refine aA 7 ?_ [15];refine cz Tryz.call219 rfl (Y_ (a:=a) (b:=n) hF hj ho af af af) ?_;rintro iu w3 ⟨rfl,vs,d_,Ro,Jj,Rp,s_2,ho,hF⟩;refine ax 1 ?_;have Jk:=hB.all ha fZ hW hn Jj Rp F6 Zn;have Ec:fV (λx=>σ (d_ x)) 0 n:=(hW.mono (Nat.le_refl _) F6).comp (Jj.mono af (Nat.le_refl _));have afC:=fZ.comp Ro;refine aB 1 ?_;refine cg (ι:=Nat×(List aH)×(Nat->Nat)) (λx w=>20<=x.1/\x.1<=2*n+20/\fO ys x.2.2 x.2.1/\fV x.2.2 0 n/\BR iO ys x.2.2 x.1 n/\aF w C/\av [j] w₀ C w C/\aQ w C j 58 v x.2.1) (λx=>[(0,v),(1,.int .i64 n),(2,.func (.func 133) #[] #[]),(6,.int .i64 x.1)]) (λx=>n-x.1) (20,vs,(λx=>σ (d_ x))) ?_ ?_
 · exact⟨Nat.le_refl _,by omega,afC,Ec,Jk,hF,hT.mv,ho⟩
 intro⟨d,us,σ⟩ w4 hI eD;obtain⟨hd,hd2,fZ,hW,Jk,hF,hT,ho⟩:=hI;try simp only at hd hd2 fZ hW Jk hF hT ho
 show Run _ _ _ _ [(0,v),(1,.int .i64 n),(2,.func (.func 133) #[] #[]),(6,.int .i64 d)] _ _;have y_:=fZ.len;refine aB 7 ?_ [7];refine a_ 30 rfl (λsF=>?_) (λsF=>?_)
 ·
  have hdn:d<n:=by omega
  refine aA 5 ?_ [15];refine jE ((2*d:Nat):Int) ?_;refine ax 5 ?_;refine cg (ι:=Nat×Nat×(List aH)×(Nat->Nat)) (λx w=>x.2.1=x.1*(2*d)/\x.2.1<=n/\fO ys x.2.2.2 x.2.2.1/\fV x.2.2.2 0 n/\sC iO ys x.2.2.2 d n x.1/\aF w C/\av [j] w₀ C w C/\aQ w C j 58 v x.2.2.1) (λx=>[(0,v),(1,.int .i64 n),(2,.func (.func 133) #[] #[]),(6,.int .i64 d),(7,.int .i64 x.2.1),(8,.int .i64 (x.2.1+2*d:Nat))]) (λx=>n-x.2.1) (0,0,us,σ) ?_ ?_
  · exact⟨(Nat.zero_mul _).symm,Nat.zero_le _,fZ,hW,Jk.mix,hF,hT,ho⟩
  intro⟨k,a,us,σ⟩ dc hI kJ;obtain⟨ha,F6,fZ,hW,h_,hF,hT,ho⟩:=hI;try simp only at ha F6 fZ hW h_ hF hT ho
  show Run _ _ _ _ [(0,v),(1,.int .i64 n),(2,.func (.func 133) #[] #[]),(6,.int .i64 d),(7,.int .i64 a),(8,.int .i64 (a+2*d:Nat))] _ _;have y_:=fZ.len;refine aB 7 ?_ [7];refine a_ 35 rfl (λgj=>?_) (λgj=>?_)
  ·
   have Rq:a+2*d<=n:=by omega
   have hs1:=h_.fst ha af;have hs2:=h_.snd ha;rw[show min (a+2*d) n=a+2*d by omega] at hs2;have mT:=oO.XO wJ hP fZ hs1 hs2 af af af;refine aA 8 ?_ [127];refine jE ((a+d:Nat):Int) ?_;refine ah 2 ?_;refine cz Tryz.call220 rfl (Ze hP hj (a+2*d) (a) (a+d) (a+2*d) _ _ _ _ af mT fZ hF ho af) ?_;rintro lz ei ⟨rfl,vs,d_,hq,cq,ho,hF⟩;refine bh 9 ?_ [3,31];refine jE ((2*d:Nat):Int) ?_;refine jE ((a+2*d+2*d:Nat):Int) ?_;refine ax 3 ?_;refine bC (kJ (k+1,a+2*d,vs,(λx=>σ (d_ x))) _ ⟨(by simp only;rw[Nat.succ_mul k,<-ha]),aD,hq.pl,(hW.comp (hq.wi.mono af af)),(h_.next ha Rq hq),hF,hT.mv,ho⟩ aD)
  have Rq:n<a+2*d:=by omega
  refine aA 6 ?_ [15];refine jE ((a+d:Nat):Int) ?_;refine ax 8 ?_ [7];refine a_ 54 rfl (λAJ=>?_) (λAJ=>?_)
  ·
   have hmn:a+d<n:=by omega
   have hs1:=h_.fst ha af;have hs2:=h_.snd ha;rw[show min (a+2*d) n=n by omega] at hs2;have mT:=oO.XO wJ hP fZ hs1 hs2 af af af;refine aA 6 ?_ [31];refine cz Tryz.call220 rfl (Ze hP hj (n) (a) (a+d) (n) _ _ _ _ af mT fZ hF ho af) ?_;rintro jJ w7 ⟨rfl,vs,d_,hq,cI,ho,hF⟩;refine bh 3 ?_ [7];refine jE ((2*d:Nat):Int) ?_;refine ax 3 ?_;refine bC (eD (2*d,vs,(λx=>σ (d_ x))) _ ⟨aD,aD,hq.pl,(hW.comp (hq.wi.mono af (Nat.le_refl _))),(h_.last ha hmn Rq hq),hF,hT.mv,ho⟩ aD)
  have hmn:n<=a+d:=by omega
  refine aA 3 ?_ [7];refine jE ((2*d:Nat):Int) ?_;refine ax 3 ?_;refine bC (eD (2*d,us,σ) _ ⟨aD,aD,aD,aD,(h_.rest ha hmn F6),hF,hT,ho⟩ aD)
 have hdn:n<=d:=by omega
 refine aB 1 ?_;refine rT Tryz.func189 rfl ?_;subst hn;exact⟨rfl,us,⟨σ,fZ,hW,Jk.done hdn⟩,hT,ho,hF⟩
theorem afD {w₀:World} {C:Nat->Nat} {j:Nat} {v:Value} {ys:List aH} (hF:aF w₀ C) (hj:j≠0) (ho:aQ w₀ C j 58 v ys) (hP:∀x∈ys,(λ_=>True) x) (hlen:ys.length<=140737488355328):Calls Tryz.prog 132 #[v,.func (.func 133) #[] #[]] w₀ (aZ λu w'=>u=.tuple #[]/\∃us,fm iO ys us/\av [j] w₀ C w' C/\aQ w' C j 58 v us/\aF w' C):=by
 refine bG Tryz.func132 ?_;refine aA 3 ?_ [15];refine dE ho.ln ?_;refine ah 1 ?_;refine bD Tryz.call189 (afB (n:=ys.length) hF hj ho hP hlen rfl) ?_;rintro kQ w1 ⟨rfl,zs,vS,s_1,ho,hF⟩;refine ax 1 ?_;refine rT Tryz.func132 rfl ?_;exact⟨rfl,zs,vS,(av.refl [j] w₀ C).mv,ho,hF⟩
theorem afE {w₀:World} {C:Nat->Nat} {ds:List bp} {bH cK:Value} {x a:au} {b1 b2:Nat} (hF:aF w₀ C) (hap:fQ w₀ (aj C) ds cK) (h1:w₀.heap[b1]?=some (.cells [bH,cK].toArray 129)) (h2:w₀.heap[b2]?=some (.cells (aV a).toArray 55)):Calls Tryz.prog 136 #[dx x,.pointer (some ⟨b1,0,none⟩),.pointer (some ⟨b2,0,none⟩)] w₀ (aZ λv w'=>v=.bool (eP ds a x)/\av [] w₀ C w' C):=by
 have aO:=hF;replace hF:=hF.aI;replace hap:fQ w₀ (aj (aI C)) ds cK:=by rw[er];exact hap
 replace h1:=jj.of h1 C;replace h2:=jj.of h2 C;refine bG Tryz.func136 ?_;refine aA 2 ?_ [2];refine aR (cu (cs:=aV x) hF 3 rfl rfl) ?_;rintro _ w1 ⟨cm,bq,rfl,s_1,hb,hF⟩;refine bh 4 ?_ [16];refine bF 2 ([bH,cK]) h1.mv.at_ ?_;refine bF 2 (aV a) h2.mv.at_ ?_;refine bF 2 (aV x) hb.at_ ?_;refine bD Tryz.call137 (QM (a:=a) (b:=x) hF hap.mv) ?_;rintro fP w2 ⟨rfl,s_2⟩;refine ax 2 ?_;refine bg Tryz.func136 ?_;exact⟨rfl,(z9 w₀ C).o1⟩
theorem Zp {w₀:World} {C:Nat->Nat} {ds:List bp} {bH cK j4:Value} {a:au} {q:List au} {b1 b2:Nat} (hF:aF w₀ C) (hap:fQ w₀ (aj C) ds cK) (hq:aq w₀ (aj C) q j4) (h1:w₀.heap[b1]?=some (.cells [bH,cK].toArray 129)) (h2:w₀.heap[b2]?=some (.cells [j4].toArray 52)):Calls Tryz.prog 135 #[dx a,.pointer (some ⟨b2,0,none⟩),.pointer (some ⟨b1,0,none⟩)] w₀ (aZ λv w'=>v=.bool (q.any λx=>eP ds a x)/\av [] w₀ C w' C):=by
 have aO:=hF;replace hF:=hF.aI;replace hap:fQ w₀ (aj (aI C)) ds cK:=by rw[er];exact hap
 replace hq:=hq.c1;replace h1:=jj.of h1 C;replace h2:=jj.of h2 C;refine bG Tryz.func135 ?_;refine aA 2 ?_ [2];refine aR (cu (cs:=aV a) hF 3 rfl rfl) ?_;rintro _ w1 ⟨cm,bq,rfl,s_1,hb,hF⟩;refine bh 4 ?_ [10];refine aX h2.mv.at_ ?_;refine aP (λ_=>Bg rfl rfl) ?_;replace hap:=hap.mv;replace h1:=h1.mv;have dM:∀w1,av [] _ (cm) w1 (cm)->∀x∈q,Calls Tryz.prog 136 ([dx x]++#[Value.pointer (some ⟨b1,0,none⟩),Value.pointer (some ⟨bq,0,none⟩)].toList).toArray w1 (aZ λv w'=>v=.bool (eP ds a x)/\av [] w1 (cm) w' (cm)):=λw1 xF x _=>afE (hF.st xF) (hap.st xF ak) (xF.same h1.at_) (xF.same hb.at_);refine bD Tryz.call134 (I2 (p:=λx=>eP ds a x) (nf:=136) (caps:=#[Value.pointer (some ⟨b1,0,none⟩),Value.pointer (some ⟨bq,0,none⟩)]) (λargs w=>Tryz.call136 args w) dM hF hq.mv) ?_;rintro fP w2 ⟨rfl,s_2⟩;refine ax 2 ?_;refine bg Tryz.func135 ?_;exact⟨rfl,(z9 w₀ C).o1⟩
end
end Go.Proofs.YtmdhggfehknjjaaGreat
