/- Steps through functions of the program. -/
import Derived.Test.YtmdhggfehknjjaaGreatJE3E8
import Derived.Test.YtmdhggfehknjjaaGreatL3
import Derived.Test.YtmdhggfehknjjaaGreatJC1C5
import Derived.Test.YtmdhggfehknjjaaGreatJC6D4
set_option maxRecDepth 100000
set_option maxHeartbeats 4000000
namespace Go.Proofs.YtmdhggfehknjjaaGreat
open Go.K Go.K.bn
noncomputable section
theorem aeI {w₀:World} {C:Nat->Nat} {ds:List bp} {bH cK gZ vs iX:Value} {fd:Bool} {bz:Int} {x a:au} {b b1 b2:Nat} (hF:aF w₀ C) (hap:fQ w₀ (aj C) ds cK) (h0:w₀.heap[b]?=some (.cells [bH,cK,gZ,vs,.bool fd,iX,.int .i64 bz].toArray 184)) (h1:w₀.heap[b1]?=some (.cells [Value.pointer (some ⟨b,0,none⟩)].toArray 182)) (h2:w₀.heap[b2]?=some (.cells (aV a).toArray 55)):Calls Tryz.prog 188 #[dx x,.pointer (some ⟨b1,0,none⟩),.pointer (some ⟨b2,0,none⟩)] w₀ (aZ λv w'=>v=.bool (eP ds x a)/\av [] w₀ C w' C):=by
 have aO:=hF;replace hF:=hF.aI;replace hap:fQ w₀ (aj (aI C)) ds cK:=by rw[er];exact hap
 replace h0:=jj.of h0 C;replace h1:=jj.of h1 C;replace h2:=jj.of h2 C;refine bG Tryz.func188 ?_;refine aA 2 ?_ [2];refine aR (cu (cs:=aV x) hF 3 rfl rfl) ?_;rintro _ w1 ⟨cm,bq,rfl,s_1,hb,hF⟩;refine ax 3 ?_;refine bX [] (cm) [1,3,5,7,9,11,12,15] bP ?_;intro w2 s_2;refine di h1.mv.sz ?_;refine ah 2 ?_ [0];refine c7 2 ([bH,cK]) h0.mv.sz ?_;refine c7 2 (aV x) hb.mv.sz ?_;refine c7 2 (aV a) h2.mv.sz ?_;refine dC Tryz.call137 (QM (a:=x) (b:=a) hF.mv hap.mv) ?_;rintro iu w3 ⟨rfl,cq⟩;refine⟨aW,?_⟩;refine ax 2 ?_;refine bg Tryz.func188 ?_;exact⟨rfl,(z9 w₀ C).o1⟩
theorem aeJ {l:List aH} {ds:List bp} {refs:List au} {bH cK gZ:Value} {b:Nat} (QV:refs.Nodup) (QW:refs.length<=1000) (hw:∀x∈l,1<=x.w/\x.w<=1048576) (lF:l.length<=4096):
    ∀(m i:Nat) (w₀:World) (C:Nat->Nat) (rows:List (List au)) (st:iU),refs.length=i+m->lu ds (refs.take i) rows->aF w₀ C->aq w₀ (aj C) l bH->aq w₀ (aj C) refs gZ->fQ w₀ (aj C) ds cK->KZ 184 52 55 w₀ C b bH cK gZ rows st->
    Calls Tryz.prog 131 #[.pointer (some ⟨b,0,none⟩),.int .i64 (i:Int)] w₀ (aZ λv w'=>∃aG,v=.tuple #[]/\av [3,4,5] w₀ C w' aG/\aF w' aG/\KZ 184 52 55 w' aG b bH cK gZ rows (tM l ds (refs.drop i) rows st)):=by
 intro m
 induction m using Nat.strongRecOn
 rename_i m ih;intro i w₀ C rows st Dt uC hF hl hrf hap hS;obtain⟨vs,us,iX,hx,ho,hr,dz⟩:=hS;have aO:=hF;replace hF:=hF.eL;replace hl:=hl.eL;replace hrf:=hrf.eL;replace hap:=hap.eL;replace hx:=hx.eL (.inl rfl);replace ho:=ho.eL (.inr (.inl rfl));replace hr:=hr.eL (.inr (.inr rfl));replace dz:=dz.eL;have hrl:=hr.len;have aeK:=uC.VW;have jD: (refs.take i).length<=refs.length:=by rw[List.length_take];omega
 have hrows:rows.length<=1000:=by omega
 have gi:∀s∈rows,s.Nodup:=λs hs=>QV.sublist ((uC.sub s hs).trans (List.take_sublist _ _));have pE:∀s∈rows,s.length<=1000:=λs hs=>by have:=(uC.sub s hs).length_le;omega
 refine bG Tryz.func131 ?_;refine aA 2 ?_ [0];refine aR (cu (cs:=[Value.pointer (some ⟨b,0,none⟩)]) hF 6 rfl rfl) ?_;rintro _ w1 ⟨cm,bq,rfl,s_1,lG,hF⟩;refine bh 5 ?_ [109];refine aX lG.at_ ?_;refine ah 2 ?_ [2];refine aX hx.mv.at_ ?_;refine dE hrf.mv.ln ?_;refine ax 2 ?_;refine a_ 12 rfl (λh12=>?_) (λh12=>?_)
 ·
  obtain rfl:m=0:=by omega
  refine aA 2 ?_ [0];refine aX lG.at_ ?_;refine bD Tryz.call187 (aeD hF hl.mv ⟨vs,us,iX,hx.mv,ho.mv,hr.mv,dz.mv⟩ gi pE hrows hw lF) ?_;rintro _ w2 ⟨cw,rfl,s_2,hF,hS⟩;obtain⟨vs,us,iX,hx,ho,hr,dz⟩:=hS;refine ax 1 ?_;refine AZ ai Tryz.func131 Tryz.results131 ?_;rw[show refs.drop i=[] from List.drop_eq_nil_of_le af,KO];exact⟨_,rfl,(av.refl [3,4,5,6,7] w₀ (eL C)).mv.eN,tP (av.refl [3,4,5,6,7] w₀ (eL C)).mv aO hF,⟨_,_,_,hx.eN (av.refl [3,4,5,6,7] w₀ (eL C)).mv (.inl rfl),ho.eN (av.refl [3,4,5,6,7] w₀ (eL C)).mv aO (.inr (.inl rfl)),hr.eN (av.refl [3,4,5,6,7] w₀ (eL C)).mv aO (.inr (.inr rfl)),dz.eN (av.refl [3,4,5,6,7] w₀ (eL C)).mv aO⟩⟩
 have hir:i<refs.length:=by omega
 obtain⟨m,rfl⟩:∃q,m=q+1:=⟨m-1,by omega⟩
 have vL:refs.drop i=refs[i]::refs.drop (i+1):=List.drop_eq_getElem_cons hir;refine aA 3 ?_ [54];refine aX lG.at_ ?_;refine ah 2 ?_ [2];refine aX hx.mv.at_ ?_;refine ah 1 ?_;refine aL hrf.mv ?_;intro _ QG QH k6;refine gJ k6 ?_;intro v21 g21;obtain rfl:=bV.1 g21;refine aR (dn (cs:=[.int .i64 0,.int .i64 0]) hF 7 ai) ?_;rintro _ w3 ⟨jd,je,rfl,cq,hrc,hF⟩;refine bM (cC (vs:=aV ((refs[i]'hir))) (n:=2) rfl rfl ai rfl rfl (fE rfl) hrc rfl) ?_;rintro _ w4 ⟨rfl,cI,hrc⟩;refine bh 4 ?_ [54];refine aX lG.mv.at_ ?_;refine ah 2 ?_ [3];refine aX hx.mv.at_ ?_;refine dE ho.mv.ln ?_;refine ax 3 ?_;refine xE (ι:=Nat×Value×(List Value)×Value×(Nat->Nat)) (I:=λx w=>x.1<=rows.length/\aF w x.2.2.2.2/\av [3,4,5,6,7] w₀ (eL C) w x.2.2.2.2/\aq w (aj x.2.2.2.2) l bH/\aq w (aj x.2.2.2.2) refs gZ/\fQ w (aj x.2.2.2.2) ds cK/\bS w x.2.2.2.2 6 bq (.cells [Value.pointer (some ⟨b,0,none⟩)].toArray 182)/\bS w x.2.2.2.2 7 je (.cells (aV (refs[i]'hir)).toArray 55)/\bS w x.2.2.2.2 3 b (.cells [bH,cK,gZ,x.2.1,.bool (sX l ds (refs[i]'hir) (refs.drop (i+1)) rows st x.1).found,x.2.2.2.1,.int .i64 (sX l ds (refs[i]'hir) (refs.drop (i+1)) rows st x.1).val].toArray 184)/\aQ w x.2.2.2.2 4 52 x.2.1 (x.2.2.1.map gu.mk)/\ff w x.2.2.2.2 5 55 x.2.2.1 rows/\aq w (aj x.2.2.2.2) (sX l ds (refs[i]'hir) (refs.drop (i+1)) rows st x.1).best x.2.2.2.1) (e:=λx=>[(1,.int .i64 (i:Int)),(2,.pointer (some ⟨bq,0,none⟩)),(4,.pointer (some ⟨je,0,none⟩)),(26,.int .i64 rows.length),(27,.int .i64 x.1)]) (m:=λx=>rows.length-x.1) (nB:=(0,vs,us,iX,jd)) (bT 1 (bT 2 (bT 4 (fD 26 rfl (eq_int (by simp only[List.length_map];omega)) (bT 27 (fL _)))))) ?_ ?_
 · exact⟨Nat.zero_le _,hF.mv,(av.refl [3,4,5,6,7] w₀ (eL C)).mv,hl.mv,hrf.mv,hap.mv,lG.mv,hrc,hx.mv,ho.mv,hr.mv,dz.mv⟩
 intro⟨k,vs,us,iX,aK⟩ dc hI bu;obtain⟨hk,hF,hT,hl,hrf,hap,lG,hrc,hx,ho,hr,dz⟩:=hI;try simp only at hk hF hT hl hrf hap lG hrc hx ho hr dz
 show Run _ _ _ _ [(1,.int .i64 (i:Int)),(2,.pointer (some ⟨bq,0,none⟩)),(4,.pointer (some ⟨je,0,none⟩)),(26,.int .i64 rows.length),(27,.int .i64 k)] _ _;have hrl:=hr.len;refine aB 5 ?_ [1];refine a_ 28 rfl (λgG=>?_) (λgG=>?_)
 ·
  have AH:k<us.length:=by omega
  have hkr:k<rows.length:=by omega
  have hlk:=pE _ (List.getElem_mem hkr);refine aA 11 ?_ [3,182];refine aX lG.at_ ?_;refine ah 2 ?_ [3];refine aX hx.at_ ?_;refine ah 1 ?_;refine c6 ho ?_;intro o7 aeL;refine xI ho aeL ?_;intro _ xq rI;obtain rfl:xq=us[k]'AH:=by have:=(mF.1 rI).1;simpa using this
  clear rI;refine aP (λ_=>Bg rfl rfl) ?_;have dM:∀w1,av [] _ ji w1 ji->∀x∈rows[k]'hkr,Calls Tryz.prog 188 ([dx x]++#[Value.pointer (some ⟨bq,0,none⟩),Value.pointer (some ⟨je,0,none⟩)].toList).toArray w1 (aZ λv w'=>v=.bool (eP ds x (refs[i]'hir))/\av [] w1 ji w' ji):=λw1 h1 x _=>aeI (oG _) (hap.c0.st h1 ak) (h1.same hx.at_) (h1.same lG.at_) (h1.same hrc.at_);refine cz Tryz.call134 rfl (I2 (C:=ji) (p:=λx=>eP ds x (refs[i]'hir)) (nf:=188) (caps:=#[Value.pointer (some ⟨bq,0,none⟩),Value.pointer (some ⟨je,0,none⟩)]) (λargs w=>Tryz.call188 args w) dM (oG _) (hr.nc AH hkr af)) ?_;rintro _ ei ⟨rfl,de⟩;replace ej:=de.re (aK);refine ax 1 ?_;refine f_ 38 rfl (λjY=>?_) (λjY=>?_)
  ·
   have hok:pT ds (rows[k]'hkr) (refs[i]'hir)=false:=by rw[VU,jY];rfl
   have hst:=yA (l:=l) (st:=st) hkr hok (refs.drop (i+1));refine aB 5 ?_ [3];refine bC (bu (k+1,vs,us,iX,aK) _ ⟨aD,hF.mv,hT.mv,hl.mv,hrf.mv,hap.mv,lG.mv,hrc.mv,(by simp only;rw[hst];exact hx.mv),ho.mv,hr.mv,(by simp only;rw[hst];exact dz.mv)⟩ aD)
  have hok:pT ds (rows[k]'hkr) (refs[i]'hir)=true:=by rw[VU];simpa using jY
  have hst:=yM (l:=l) (st:=st) hkr hok (refs.drop (i+1));have QX:=uC.VX hir hkr hok;refine aB 2 ?_;refine bX [5] (aK) [1,3,5,7,9,11,13,15,17,19,21,23,25,26,28,31,32] bP ?_;intro w7 eS;refine di lG.mv.sz ?_;refine ah 2 ?_ [3];refine di hx.mv.sz ?_;refine ah 1 ?_;refine di lG.mv.sz ?_;refine ah 2 ?_ [3];refine di hx.mv.sz ?_;refine ah 1 ?_;refine c6 ho.mv ?_;intro wZ LZ;refine qT ho.mv LZ ?_;intro _ v50 ku;obtain rfl:v50=us[k]'AH:=by have:=(mF.1 ku).1;simpa using this
  clear ku;refine c7 2 (aV (refs[i]'hir)) hrc.mv.sz ?_;refine c5 (ez (ys:=([(refs[i]'hir)]:List au)) (e:=55) (bytes:=16) hF.mv ai rfl ak ak ⟨rfl,⟨_,rfl,bV.2 rfl⟩,trivial⟩) ?_;rintro Aq fk ⟨fA,k4,hF⟩;refine⟨aW,?_⟩;refine c5 (hr.mv.append (e:=55) (bytes:=16) hF ak AH hkr rfl rfl ai ak k4 dH dH) ?_;rintro v53 fJ ⟨B9,fT,hF,hr⟩;refine⟨aW,?_⟩;have hone:=hr.one k (by rw[List.length_set];exact AH);rw[List.getElem_set,if_pos rfl] at hone;refine c6 ho.mv ?_;intro ue aeM;refine gU rfl ?_;refine bM (gQ ho.mv aeM MB rfl rfl ai ((mF (x:=⟨v53⟩)).2 ⟨rfl,hone⟩)) ?_;rintro _ gn ⟨rfl,gY,ho⟩;refine ax 1 ?_;rw[<-List.map_set] at ho;refine aA 2 ?_ [6];refine aX lG.mv.at_ ?_;refine ah 1 ?_;refine jE ((i+1:Nat):Int) ?_;refine cz Tryz.call131 rfl (ih m af (i+1) _ B9 _ _ af QX hF.mv hl.mv hrf.mv hap.mv ⟨_,_,_,hx.mv,ho,hr.mv,dz.mv⟩) ?_;rintro _ iK ⟨uz,rfl,eY,hF,hS⟩;clear hx ho hr dz;obtain⟨vs,us,iX,hx,ho,hr,dz⟩:=hS;have hrl:=hr.len;refine ax 1 ?_;refine bX [] (uz) [1,3,5,7,9,11,13,15,17,19,21,23,25,27,29,31,33,35,37,39,41,43,45,46] bP ?_;intro iV iW;simp only[List.length_set] at hrl;have I9:k<us.length:=by omega
  have L1:k<(rows.set k ((rows[k]'hkr)++[(refs[i]'hir)])).length:=by rw[List.length_set];exact hkr
  have akt: ((rows.set k ((rows[k]'hkr)++[(refs[i]'hir)]))[k]'L1).length=(rows[k]'hkr).length+1:=by rw[List.getElem_set,if_pos rfl];simp
  refine di lG.mv.sz ?_;refine ah 2 ?_ [3];refine di hx.mv.sz ?_;refine ah 1 ?_;refine di lG.mv.sz ?_;refine ah 2 ?_ [3];refine di hx.mv.sz ?_;refine ah 1 ?_;refine c6 ho.mv ?_;intro DV F2;refine qT ho.mv F2 ?_;intro _ v70 pz;obtain rfl:v70=us[k]'I9:=by have:=(mF.1 pz).1;simpa using this
  clear pz;refine di lG.mv.sz ?_;refine ah 2 ?_ [3];refine di hx.mv.sz ?_;refine ah 1 ?_;refine c6 ho.mv ?_;intro y9 I_;refine qT ho.mv I_ ?_;intro _ v77 rJ;obtain rfl:v77=us[k]'I9:=by have:=(mF.1 rJ).1;simpa using this
  clear rJ;refine aP (λw'=>((hr.mv.nc I9 L1 af).Ev rfl Tryz.underlying52) w') ?_;refine ah 1 ?_;refine nz ?_;refine hr.mv.yF (e':=55) (fq 80 (.slice 52 70 none (some 79) none)) rfl rfl I9 L1 rfl ai rfl af af af ?_;intro v80 nM;rw[o4 hkr L1 rfl] at nM;clear hr;have hr:=nM;clear nM;have hone:=hr.one k (by rw[List.length_set];exact I9);rw[List.getElem_set,if_pos rfl] at hone;refine ck ?_;refine c6 ho.mv ?_;intro Y4 aeN;refine gU rfl ?_;refine bM (gQ ho.mv aeN MB rfl rfl ai ((mF (x:=⟨v80⟩)).2 ⟨rfl,hone⟩)) ?_;rintro _ ki ⟨rfl,jx,ho⟩;refine ax 1 ?_;rw[<-List.map_set] at ho;replace dz:=dz.mv;replace hx:=hx.mv;rw[<-hst] at hx dz;refine aB 5 ?_ [3];refine bC (bu (k+1,vs,us.set k v80,iX,uz) _ ⟨aD,hF.mv,hT.mv,hl.mv,hrf.mv,hap.mv,lG.mv,hrc.mv,hx,ho,hr.mv,dz⟩ aD)
 obtain rfl:k=rows.length:=by omega
 refine aB 2 ?_;refine bX [4] (aK) [1,3,5,7,9,11,12,14,16,19,21,22] bP ?_;intro kH jX;have hlt:=hr.mv.lt;refine di lG.mv.sz ?_;refine di lG.mv.sz ?_;refine ah 2 ?_ [3];refine di hx.mv.sz ?_;refine c7 2 (aV (refs[i]'hir)) hrc.mv.sz ?_;refine c5 (ql (ys:=([(refs[i]'hir)]:List au)) (e:=55) (bytes:=16) (j:=5) hF.mv ak ai rfl ak ak ⟨rfl,⟨_,rfl,bV.2 rfl⟩,trivial⟩) ?_;rintro L3 lR ⟨QO,mq,QY,hF,hfr⟩;refine⟨aW,?_⟩;have hone:=QY.one.2;replace hr:=hr.mv.snoc ak QY (hr.mv.fresh hfr hlt);clear hlt hfr QY;refine c5 (ez (ys:=([⟨L3⟩]:List gu)) (e:=52) (bytes:=24) hF ai rfl ak ak ⟨rfl,⟨_,rfl,mF.2 ⟨rfl,hone⟩⟩,trivial⟩) ?_;rintro Ja mo ⟨lU,aeO,hF⟩;refine⟨aW,?_⟩;refine c5 (eO (e:=52) (bytes:=24) hF ak rfl rfl ai ak ho.mv aeO JF JF) ?_;rintro v91 nQ ⟨DZ,nh,ho,hF⟩;refine⟨aW,?_⟩;refine ah 2 ?_ [3];refine gU rfl ?_;refine bM (ic rfl rfl ai ho.one.1 ho.one.2 hx.mv b_) ?_;rintro _ oh ⟨rfl,oJ,hx⟩;refine ax 1 ?_;replace ho:=ho.mv;rw[show us.map gu.mk++[⟨L3⟩]=(us++[L3]).map gu.mk from by simp] at ho;refine aA 2 ?_ [6];refine aX lG.mv.at_ ?_;refine ah 1 ?_;refine jE ((i+1:Nat):Int) ?_;refine cz Tryz.call131 rfl (ih m af (i+1) _ DZ _ _ af (uC.new' hir) hF.mv hl.mv hrf.mv hap.mv ⟨_,_,_,hx,ho,hr.mv,dz.mv⟩) ?_;rintro _ mJ ⟨Iy,rfl,nR,hF,hS⟩;clear hx ho hr dz;obtain⟨vs,us,iX,hx,ho,hr,dz⟩:=hS;have hrl:=hr.len;refine ax 1 ?_;refine bX [] (Iy) [1,3,5,7,9,11,13,15,17,19,21,23,25,27,28] bP ?_;intro qC om;simp only[List.length_append,List.length_cons,List.length_nil] at hrl;have hml: (us.map gu.mk).length=us.length:=List.length_map _;refine di lG.mv.sz ?_;refine di lG.mv.sz ?_;refine ah 2 ?_ [3];refine di hx.mv.sz ?_;refine di lG.mv.sz ?_;refine ah 2 ?_ [3];refine di hx.mv.sz ?_;refine dE ho.mv.ln ?_;refine ah 1 ?_;refine nz ?_
 refine Nf (e':=52) (fq 109 (.slice 24 102 none (some 108) none)) rfl rfl ho.mv rfl ai rfl af af af ?_;intro v109 L4;try simp only[fh] at L4
 have aeP: (((us.map gu.mk).length:Int)-1).toNat=rows.length:=by simp only[List.length_map];omega
 rw[aeP,<-List.map_take] at L4;clear ho;have ho:=L4;clear L4;replace hr:=hr.mv.yN rfl;refine ck ?_;refine ah 2 ?_ [3];refine gU rfl ?_;refine bM (ic rfl rfl ai ho.one.1 ho.one.2 hx.mv b_) ?_;rintro _ tO ⟨rfl,uX,hx⟩;refine ax 1 ?_;replace dz:=dz.mv;rw[<-ek,<-vL] at hx dz;refine rT Tryz.func131 rfl ?_;exact⟨_,rfl,hT.mv.eN,tP hT.mv aO hF.mv,⟨_,_,_,hx.eN hT.mv (.inl rfl),ho.mv.eN hT.mv aO (.inr (.inl rfl)),hr.mv.eN hT.mv aO (.inr (.inr rfl)),dz.eN hT.mv aO⟩⟩
theorem aeQ {w₀:World} {C:Nat->Nat} {l:List aH} {aC:Value} (hF:aF w₀ C) (hl:aq w₀ (aj C) l aC) (hlen:l.length<=100000):Calls Tryz.prog 77 #[aC] w₀ (aZ λv w'=>v=.bool (decide (((aM l).length:Int)<=8))/\av [] w₀ C w' C):=by
 have aO:=hF;replace hF:=hF.aI;replace hl:=hl.c1;refine bG Tryz.func77 ?_;refine aA 7 ?_ [1,29];refine cz Tryz.call130 rfl (FM hF hl af) ?_;rintro gZ w1 ⟨s_1,hrf⟩;refine dE hrf.ln ?_;refine ax 3 ?_;refine bg Tryz.func77 ?_;exact⟨rfl,(z9 w₀ C).o1⟩
theorem aeR {w₀:World} {C:Nat->Nat} {l:List aH} {ds:List bp} {bH cK aC:Value} (hF:aF w₀ C) (hl:aq w₀ (aj C) l aC) (hap:fQ w₀ (aj C) ds cK) (hrl: (aM l).length<=1000) (hw:∀x∈l,1<=x.w/\x.w<=1048576) (lF:l.length<=4096):Calls Tryz.prog 78 #[.agg #[bH,cK],aC] w₀ (aZ λv w'=>av [] w₀ C w' C/\aq w' (aj C) (rj l ds) v):=by
 have aO:=hF;replace hF:=hF.aI;replace hl:=hl.c1;replace hap:fQ w₀ (aj (aI C)) ds cK:=by rw[er];exact hap
 refine bG Tryz.func78 ?_;refine aA 2 ?_ [2];refine aR (cu (cs:=[bH,cK]) hF 4 rfl rfl) ?_;rintro _ w1 ⟨cm,bq,rfl,s_1,hx0,hF⟩;refine ax 3 ?_;refine bX [] (cm) [1,3,5,7,9,10,13,14,17] bP ?_;intro w2 s_2;refine ah 2 ?_ [1];refine di hx0.mv.sz ?_;refine aP (λ_=>eW (zs:=[.slice none 0 0,.map none]) (ps:=[(0,1),(1,1)]) (c4:=[(0,[aC]),(1,[cK])]) (cs:=[aC,cK]) ai ai (by exact⟨rfl,⟨_,rfl,(hl.mv.one rfl).1⟩,rfl,⟨_,rfl,hap.mv.one.1⟩,trivial⟩) rfl) ?_;refine ah 1 ?_;refine gl Tryz.call130 rfl (FM hF.mv hl.mv af) ?_;rintro gZ w3 ⟨cq,hrf⟩;refine⟨aW,?_⟩;refine aP (λ_=>eW (zs:=[.slice none 0 0,.map none,.slice none 0 0,.slice none 0 0,.bool false,.slice none 0 0,.int .i64 0]) (ps:=[(0,2),(2,1),(3,1),(4,1),(5,1),(6,1)]) (c4:=[(0,[aC,cK]),(1,[gZ])]) (cs:=[aC,cK,gZ,.slice none 0 0,.bool false,.slice none 0 0,.int .i64 0]) ai ai (by exact⟨rfl,⟨_,rfl,rfl⟩,rfl,⟨_,rfl,(hrf.one rfl).1⟩,trivial⟩) rfl) ?_;refine c5 (cu (cs:=[aC,cK,gZ,.slice none 0 0,.bool false,.slice none 0 0,.int .i64 0]) hF.mv 3 rfl rfl) ?_;rintro _ w4 ⟨fW,nT,rfl,cI,hx,hF⟩;refine⟨aW,?_⟩;refine bh 5 ?_ [1];refine cz Tryz.call131 rfl (aeJ (b:=nT) (xM l) hrl hw lF (aM l).length 0 _ fW [] sW b_ lu.nil hF hl.mv hrf.mv hap.mv ⟨_,[],_,hx,aQ.nil,ff.nil,eT⟩) ?_;rintro _ dc ⟨qG,rfl,de,hF,hS⟩;clear hx hx0;obtain⟨vs,us,iX,hx,_,_,dz⟩:=hS;refine bh 6 ?_ [23,5];refine aX hx.at_ ?_;refine ax 2 ?_;refine bg Tryz.func78 ?_;exact⟨(z9 w₀ C).o1,dz.out (z9 w₀ C).mv aO (er C)⟩
theorem aeS {xs:List au} {px:Value} {b1 l:Nat} {J:List au->World->Prop} {w₀:World} (QZ:∀pre A B,J pre A->Ext No A B->J pre B)
    (hr:∀pre A,J pre A->jj A ji b1 (.cells [px].toArray 52)/\aq A (aj ji) xs px)
    (hY:∀k (hk:k<xs.length) A,J (xs.take k) A->YieldAt Fence.wide 0 Tryz.prog l #[dx xs[k]] A (λe W'=>e=.returned (.bool true)/\J (xs.take (k+1)) W')) (h0:J [] w₀):Calls Tryz.prog 193 #[.func (.yield l) #[] #[],.pointer (some ⟨b1,0,none⟩)] w₀ (aZ λ_ w'=>J xs w'):=by
 obtain⟨h1,hp⟩:=hr _ _ h0;have hF:aF w₀ ji:=oG _;refine bG Tryz.func193 ?_;refine aA 2 ?_ [6];refine aX h1.at_ ?_;refine dE hp.ln ?_;refine ax 3 ?_;refine cg (ι:=Nat) (λx w=>x<=xs.length/\J (xs.take x) w) (λx=>[(0,.func (.yield l) #[] #[]),(1,.pointer (some ⟨b1,0,none⟩)),(5,px),(6,.int .i64 xs.length),(7,.int .i64 (x:Int))]) (λx=>xs.length-x) 0 ?_ ?_
 · exact⟨Nat.zero_le _,(by rw[List.take_zero];exact h0)⟩
 intro k w1 hI bu;obtain⟨hk,hJ⟩:=hI;obtain⟨h1,hp⟩:=hr _ _ hJ;have hle:=hp.le;have hF:aF w1 ji:=oG w1;refine aB 5 ?_ [1];refine a_ 8 rfl (λh8=>?_) (λh8=>?_)
 ·
  have ay:k<xs.length:=by omega
  refine aA 5 ?_ [1];refine aL hp ?_;intro _ Jb D9 fC;refine gJ fC ?_;intro v10 g10;obtain rfl:=bV.1 g10;refine aR (dn (cs:=[.int .i64 0,.int .i64 0]) hF 3 ai) ?_;rintro _ w2 ⟨cw,cM,rfl,s_1,hb,hF⟩;refine bM (cC (vs:=aV (xs[k]'ay)) (n:=2) rfl rfl ai rfl rfl (fE rfl) hb rfl) ?_;rintro _ w3 ⟨rfl,s_2,hb⟩;refine ax 2 ?_;replace hJ:=QZ _ _ _ hJ ((av.refl [3] w1 ji).mv.ext.mono (λb _ hb=>by simp at hb));refine abA 1 ?_;refine Ai (λ_=>trivial) (by kernel_rfl:bY _ 0=some (some 11,.move 0,none)) (λc e=>by cases e) rfl (A0 rfl) ?_;refine Ai (λ_=>trivial) (by kernel_rfl:bY _ 1=some (some 12,.load 55 4,none)) (λc e=>by cases e) rfl (pK (n:=2) (vs:=aV (xs[k]'ay)) hb.at_ ai ai rfl rfl rfl) ?_;refine abx (λ_=>trivial) rfl (by kernel_rfl:bY _ 2=some (some 13,.call {callee:=.value 11,args:=#[.tmp 12],argTypes:=#[55]},none)) rfl rfl rfl (hY k ay _ hJ) ?_;rintro _ fJ ⟨rfl,aeT⟩;refine⟨_,rfl,?_⟩;refine Ai (λ_=>trivial) (by kernel_rfl:bY _ 3=some (some 14,.unOp .not 4 13,none)) (λc e=>by cases e) rfl (oz rfl) ?_;refine abB ?_;refine aB 7 ?_ [3];refine bC (bu (k+1) _ ⟨by omega,aeT⟩ af)
 have ay:k=xs.length:=by omega
 refine aB 1 ?_;refine rT Tryz.func193 rfl ?_;rw[ay,List.take_length] at hJ;exact hJ
end
end Go.Proofs.YtmdhggfehknjjaaGreat
namespace Go.Proofs.YtmdhggfehknjjaaGreat
open Go.K Go.K.bn
noncomputable section
namespace D_
def c0:=qQ Tryz.f221
end D_
theorem aeU {w₀:World} {C:Nat->Nat} {xs:List au} {px:Value} {b1:Nat} (hF:aF w₀ C) (h1:w₀.heap[b1]?=some (.cells [px].toArray 52)) (hx:aq w₀ (aj C) xs px) (hlen:xs.length<=100000) (j:Nat) (hj:j≠0):
   Calls Tryz.prog 221 #[.slice none 0 0,.func (.func 193) #[] #[.pointer (some ⟨b1,0,none⟩)]] w₀ (aZ λv w'=>∃aG,av [] w₀ C w' aG/\aF w' aG/\aQ w' aG j 55 v xs):=by
 refine abN (n:=3) (c:=D_.c0) (N:=13) [.slice none 0 0,.func (.func 193) #[] #[.pointer (some ⟨b1,0,none⟩)]] Tryz.func221 ai ai ai λa ha hD=>?_;have aku:=hD;refine Lx ?_;refine H8 ha hD ?_;refine DG (λ_=>trivial) (by kernel_rfl:bY _ 0=some (some 2,.box 52 0,none)) (λc e=>by cases e) rfl (SZ (cs:=[.slice none 0 0]) rfl rfl) ?_;rintro _ w1 ⟨rfl,hnew⟩;refine Ai (λ_=>trivial) (by kernel_rfl:bY _ 1=some (some 4,.assign (.const (.slice none 0 0)),none)) (λc e=>by cases e) rfl (Gi rfl) ?_;refine HX λa ha hD=>?_;obtain⟨bo,tZ⟩:∃bo,bo=w₀.heap.size:=⟨_,rfl⟩
 rw[<-tZ] at ha;have kY:=hnew.at_;rw[<-tZ] at kY;have hsz:=hnew.size;show(K.b7 D_.c0).wpIn _ _ _ _ _ _;refine Lx ?_;refine Lx ?_;refine H8 ha hD ?_;refine Ai (λ_=>trivial) (by kernel_rfl:bY _ 0=some (some 6,.move 1,none)) (λc e=>by cases e) rfl (A0 rfl) ?_;refine HX λa ha hD=>?_;show(K.b7 (K.cl (K.b7 D_.c0))).wpIn _ _ _ _ _ _;refine XI 0 ?_;have hI0:AS 52 55 w₀ w1.heap.size bo [] w1:=⟨.slice none 0 0,hnew.ext,kY,aQ.nil,λb hb=>by cases hb⟩
 refine abE (t:=6) (gf:=193) (encs:=λx:au=>#[dx x]) (xs:=xs) (I:=AS 52 55 w₀ w1.heap.size bo) ai (ha.ev (x:=.tmp 6) rfl) (λargs w=>Tryz.call193 args w) (λx=>by rw[show DH (K.cl (K.b7 (K.cl (K.b7 D_.c0))))=#[7] from by kernel_rfl];rfl) (λpre X Y h hE=>h.ext hE) (λpre X Y h hT=>h.turn af hT) hI0 ?_ ?_ ?_
 ·intro l k hk X hX;rw[show DH (K.cl (K.b7 (K.cl (K.b7 D_.c0))))=#[7] from by kernel_rfl];have ha1:=oL.yield ha (t:=7) ak (dx xs[k]);refine H8 ha1 rfl ?_;obtain⟨v,g1,g2,g3,g4⟩:=hX;have hL:=AS.lim g2 g3;refine DG (λ_=>trivial) (by kernel_rfl:bY _ 0=some (some 5,.alloc 55,none)) (λc e=>by cases e) rfl (dn (cs:=[.int .i64 0,.int .i64 0]) hL 3 ai) ?_;rintro _ akv ⟨aK,bI,rfl,hs1,vQ,Pz⟩;refine DG (λ_=>trivial) (by kernel_rfl:bY _ 1=some (none,.store 55 5 7,none)) (λc e=>by cases e) rfl (cC (vs:=aV xs[k]) (n:=2) rfl rfl ai rfl rfl (fE rfl) vQ rfl) ?_;rintro _ Q5 ⟨rfl,hs2,fu⟩;have hE:Ext No X Q5:=(hs1.mono (J:=[3]) (λc hc=>by cases hc)).trans hs2 (λc hc=>hc) |>.ext.mono (λb hb hm=>by
    simp only[List.mem_singleton] at hm;unfold s9 at hm;split at hm
    ·cases hm
    ·split at hm<;>cases hm)
  refine HX λa2 ha2 aeV=>?_;refine⟨λb fG hb CU hc=>H6 CU hE,(show AS _ _ _ _ _ _ _ from⟨v,g1,g2,g3,g4⟩:AS 52 55 w₀ w1.heap.size bo (xs.take k) X).ext hE,λL5 aeW Y5=>?_⟩;obtain⟨lt,akw,Y6,hlt,Q6,xl,rfl⟩:=aeW;have rK: (Q5.putObj lt Y6).heap[bI]?=some (.cells (aV xs[k]).toArray 55):=H7 fu.at_ (λe=>by subst e;rw[fu.at_] at Q6;cases Q6;cases xl);generalize Q5.putObj lt Y6=L5 at Y5 rK;clear g1 g2 g3 g4 hL hs1 vQ Pz hs2 fu hE Q6;obtain⟨v,g1,g2,g3,g4⟩:=Y5;have hL:=AS.lim g2 g3;have hA:w1.heap.size<=L5.heap.size:=by have:=DI g2;omega
  have wo:bS L5 (s9 bo v) 2 bo (.cells [v].toArray 52):=⟨by unfold s9;rw[if_pos rfl],g2⟩
  refine XI 1 ?_;refine H8 ha2 aeV ?_;refine Ai (λ_=>trivial) (by kernel_rfl:bY _ 0=some (some 8,.load 52 2,none)) (λc e=>by cases e) rfl (vW g2 ai rfl rfl) ?_;refine Ai (λ_=>trivial) (by kernel_rfl:bY _ 1=some (some 9,.load 55 5,none)) (λc e=>by cases e) rfl (pK (n:=2) (vs:=aV xs[k]) rK ai ai rfl rfl rfl) ?_;refine DG (λ_=>trivial) (by kernel_rfl:bY _ 2=some (some 10,.buildSlice 52 1 #[(0,.tmp 9)],none)) (λc e=>by cases e) rfl (ez (ys:=([xs[k]]:List au)) (e:=55) (bytes:=16) hL ai rfl ak ak ⟨rfl,⟨_,rfl,bV.2 rfl⟩,trivial⟩) ?_;rintro v10 akx ⟨hs4,g10,aeX⟩;have jD: (xs.take k).length=k:=by rw[List.length_take];omega
  refine DG (λ_=>trivial) (by kernel_rfl:bY _ 3=some (some 11,.call {callee:=.builtin .append,args:=#[.tmp 8,.tmp 10],argTypes:=#[52,52]},none)) (λc e=>by cases e) rfl (eO (e:=55) (bytes:=16) aeX ak rfl rfl ai ak (g3.st hs4 ak ak) g10 dH dH) ?_;rintro v11 aky ⟨yQ,hs5,g11,akz⟩;have aeY:=(wo.st hs4 ak).st hs5 ak;refine DG (λ_=>trivial) (by kernel_rfl:bY _ 4=some (none,.store 52 2 11,none)) (λc e=>by cases e) rfl (ic rfl rfl ai g11.one.1 g11.one.2 aeY b_) ?_;rintro _ aeZ ⟨rfl,lG,ae0⟩;refine HX λa3 Ki akA=>?_;have ae1:av [2,5] L5 (s9 bo v) aeZ yQ:=((hs4.mono (J:=[2,5]) (λc hc=>by cases hc)).trans (hs5.mono (J:=[2,5]) (λc hc=>by simp at hc⊢;omega)) (λc hc=>hc)).trans (lG.mono (J:=[2,5]) (λc hc=>by simp at hc⊢;omega)) (λc hc=>hc);have Y7:=g11.st lG ak ak;rw[<-List.take_succ_eq_append_getElem hk] at Y7;obtain⟨r1,r2⟩:=AS.close (n0:=w1.heap.size) g1 g2 g3 g4 af af hA ae1 ae0 Y7;exact⟨rfl,r1,r2⟩
 ·intro l tY J QZ ae2 hY hJ0;refine aeS (px:=px) QZ (λpre X hX=>?_) hY hJ0;obtain⟨v,g1,_⟩:=ae2 _ _ hX;exact⟨⟨show 0<2 from by decide,H6 h1 g1⟩,hx.c0.st (I:=[]) (C:=ji) (aG:=ji) ⟨g1.mono (λ_ _ h=>h.elim),λ_ _=>rfl⟩ ak⟩
 intro D W akB hI hK;obtain⟨v,g1,g2,g3,g4⟩:=hI;show(K.b7 (K.b7 D_.c0)).wpIn _ _ _ _ _ _;refine Lx ?_;refine H8 (a:={a with defers:=_}) (D:={target:=.collected D,args:=#[]}::a.defers) ha rfl ?_;refine Ai (λ_=>trivial) (by kernel_rfl:bY _ 0=some (some 12,.load 52 2,none)) (λc e=>by cases e) rfl (vW g2 ai rfl rfl) ?_;refine Ai (λ_=>trivial) (by kernel_rfl:bY _ 1=some (some 4,.assign 12,none)) (λc e=>by cases e) rfl (Gi rfl) ?_;refine HX λa4 Q7 ae3=>?_;refine abM ?_;show LeavesInM _ _ _ _ _ _ _ _ _;rw[ae3,hD];refine⟨by simp,.inl ⟨_,_,rfl,run_takeDeferred hK,?_⟩⟩;refine⟨_,results_tmp (t:=4) ai _ _ _,_,rfl,?_⟩;have hv:a4.tmps.getD 4 undef=v:=Q7.ev (x:=.tmp 4) rfl;rw[hv];refine⟨λb=>if v.ownBlock=some b then j else C b,⟨?_,λb hb=>?_⟩,λb hb=>?_,?_⟩
 ·exact(XJ g1 af).mono (λ_ _ h=>h.elim)
 ·show(if v.ownBlock=some b then j else C b)=C b;rw[if_neg (λe=>by have:=g4 b e;omega)]
 ·show b<(W.putObj D _).heap.size;have hb: (if v.ownBlock=some b then j else C b)≠0:=hb;rw[World.putObj_size];split at hb
  · rename_i e;exact(g3.own.fG b e).2
  have:=hF b hb;have:=g1.size;omega
 refine g3.any (λb hb=>World.putObj_heap_other (λe=>?_)) (λb hb=>?_) hj
 ·subst e;obtain⟨cs,hcs⟩:=g3.cells hb;rw[hcs] at hK;cases hK
 show(if v.ownBlock=some b then j else C b)=j;rw[if_pos (show v.ownBlock=some b from hb)]
end
end Go.Proofs.YtmdhggfehknjjaaGreat
namespace Go.Proofs.YtmdhggfehknjjaaGreat
open Go.K Go.K.bn
noncomputable section
theorem ae4 {I:List Nat} {w w':World} {C aG:Nat->Nat} {b:Nat} {fG:Obj} (hT:av I w (aI C) w' aG) (hF:aF w C) (hb:bS w' aG 3 b fG):jj w' C b fG:=by
 refine⟨?_,hb.at_⟩;by_cases h:C b=0
 ·omega
 have h1:=hT.col b (hF b h);have h2:=gI C (show 1<3 by decide) b;rw[hb.col] at h1;omega
theorem ae5 {w₀:World} {C:Nat->Nat} {xs:List au} {px:Value} (hF:aF w₀ C) (hx:aq w₀ (aj C) xs px):Calls Tryz.prog 140 #[px] w₀ (aZ λv w'=>∃b1,v=.func (.func 193) #[] #[.pointer (some ⟨b1,0,none⟩)]/\av [] w₀ C w' C/\jj w' C b1 (.cells [px].toArray 52)):=by
 have aO:=hF;replace hF:=hF.aI;replace hx:=hx.c1;refine bG Tryz.func140 ?_;refine aA 2 ?_ [2];refine aR (cu (cs:=[px]) hF 3 rfl (hx.one rfl).1) ?_;rintro _ w1 ⟨cm,bq,rfl,s_1,hb,hF⟩;refine bh 4 ?_ [3];refine aP (λ_=>Bg rfl rfl) ?_;refine ax 2 ?_;refine bg Tryz.func140 ?_;exact⟨_,rfl,(z9 w₀ C).o1,ae4 (z9 w₀ C).mv aO hb⟩
theorem ae6 {w₀:World} {C:Nat->Nat} {xs:List au} {px:Value} {b1:Nat} (hF:aF w₀ C) (h1:w₀.heap[b1]?=some (.cells [px].toArray 52)) (hx:aq w₀ (aj C) xs px) (hlen:xs.length<=100000) (j:Nat) (hj:j≠0):Calls Tryz.prog 192 #[.func (.func 193) #[] #[.pointer (some ⟨b1,0,none⟩)]] w₀ (aZ λv w'=>∃aG,av [] w₀ C w' aG/\aF w' aG/\aQ w' aG j 55 v xs):=by
 refine bG Tryz.func192 ?_;refine aA 7 ?_ [1,5];refine bD Tryz.call221 (aeU hF h1 hx hlen j hj) ?_;rintro v4 w1 ⟨ur,s_1,ae7,ho⟩;refine ax 2 ?_;refine bg Tryz.func192 ?_;exact⟨ur,s_1,ae7,ho⟩
theorem ae8 {w₀:World} {C:Nat->Nat} {xs:List au} {px:Value} {b1:Nat} (hF:aF w₀ C) (h1:w₀.heap[b1]?=some (.cells [px].toArray 52)) (hx:aq w₀ (aj C) xs px) (hlen:xs.length<=100000):Calls Tryz.prog 139 #[.func (.func 193) #[] #[.pointer (some ⟨b1,0,none⟩)],.func (.func 53) #[] #[]] w₀ (aZ λv w'=>av [] w₀ C w' C/\aq w' (aj C) (jS xs) v):=by
 have aO:=hF;replace hF:=hF.aI;replace hx:=hx.c1;replace h1:=jj.of h1 C;refine bG Tryz.func139 ?_;refine aA 7 ?_ [1,5];refine cz Tryz.call192 rfl (ae6 hF h1.at_ hx hlen 3 ak) ?_;rintro tg w1 ⟨akC,s_1,hF,ho⟩;refine bh 6 ?_ [3];refine cz Tryz.call185 rfl (YE hF ho af) ?_;rintro fP w2 ⟨rfl,s_2,ho,_⟩;refine ax 6 ?_ [3];refine bg Tryz.func139 ?_;exact⟨(z9 w₀ C).o1,ho.out (z9 w₀ C).mv aO (er C) (λb _=>gI C ak b) (by rw[(zx _).length_eq];omega)⟩
theorem Y8 {w₀:World} {C:Nat->Nat} {k:Nat} (hF:aF w₀ C) (hk:k<=1000000) (j:Nat) (hj:j≠0):Calls Tryz.prog 191 #[.slice none 0 0,.int .i64 k] w₀ (aZ λv w'=>∃aG,av [] w₀ C w' aG/\aF w' aG/\aQ w' aG j 55 v ([]:List au)):=by
 have aO:=hF;replace hF:=hF.aI;refine bG Tryz.func191 ?_;refine aB 10 ?_ [1,3];refine a_ 6 rfl (λh6=>?_) (λh6=>?_)
 ·
  omega
 refine aA 6 ?_ [251];refine nF (V0 rfl Tryz.underlying52) ?_;refine ah 1 ?_;refine aP (λ_=>A5 rfl Tryz.underlying52) ?_;refine ah 2 ?_;rw[show(k:Int)-(((0:Nat):Int)-((0:Nat):Int))=(k:Int) from by simp];refine ax 7 ?_ [3];refine a_ 16 rfl (λcZ=>?_) (λcZ=>?_)
 ·
  have pF:0<k:=by omega
  refine aA 3 ?_ [987];refine nF (V0 rfl Tryz.underlying52) ?_;refine aP (λ_=>oS rfl rfl Tryz.underlying52 ai) ?_;refine ah 1 ?_;refine aR (cU (α:=au) (e:=55) (bytes:=16) (n:=k) (j:=3) hF ak rfl rfl ai ak ak Tryz.underlying3 pF af) ?_;rintro _ w1 ⟨cm,FH,gc,rfl,s_1,hz,hF⟩;refine ah 1 ?_;refine aP (λ_=>A5 rfl Tryz.underlying52) ?_;refine aP (λ_=>iR rfl rfl Tryz.underlying52 ai) ?_;refine ax 7 ?_ [3];refine bg Tryz.func191 ?_;obtain⟨rH,qe,hFg,FP,ud⟩:=hz.mG (z9 w₀ C).mv aO (er C) (λb _=>gI C ak b) ak j hj;exact⟨rH,((z9 w₀ C).o1).mG qe,hFg,ud⟩
 refine aB 6 ?_ [3];refine bg Tryz.func191 ?_;exact⟨C,(z9 w₀ C).o1,aO.st ((z9 w₀ C).o1),aQ.nil⟩
theorem akD {w₀:World} {C:Nat->Nat} {ll:List (List au)} {cW:Value} (hF:aF w₀ C) (hl:aq w₀ (aj C) ll cW) (hlen:ll.flatten.length<=100000) (j:Nat) (hj:j≠0):Calls Tryz.prog 138 #[cW] w₀ (aZ λv w'=>∃aG,av [] w₀ C w' aG/\aF w' aG/\aQ w' aG j 55 v ll.flatten):=by
 have aO:=hF;replace hF:=hF.aI;replace hl:=hl.c1;refine bG Tryz.func138 ?_;refine aA 12 ?_ [1,1,7];refine dE hl.ln ?_;refine ax 3 ?_;refine cg (ι:=Nat×(Nat->Nat)) (λx w=>x.1<=ll.length/\aF w x.2/\av [2,3,4,5,6,7,8,9] w₀ (aI C) w x.2/\aq w (aj x.2) ll cW) (λx=>[(0,cW),(3,.int .i64 ((ll.take x.1).flatten.length:Nat)),(9,cW),(10,.int .i64 ll.length),(11,.int .i64 x.1)]) (λx=>ll.length-x.1) (0,aI C) ?_ ?_
 · exact⟨Nat.zero_le _,hF,(z9 w₀ C),hl⟩
 intro⟨i,aK⟩ w1 hI bu;obtain⟨hi,hF,hT,hl⟩:=hI;try simp only at hi hF hT hl
 show Run _ _ _ _ [(0,cW),(3,.int .i64 ((ll.take i).flatten.length:Nat)),(9,cW),(10,.int .i64 ll.length),(11,.int .i64 i)] _ _;have hle:=hl.le;have hfl:=BG (ll:=ll) i;refine aB 5 ?_ [1];refine a_ 12 rfl (λh12=>?_) (λh12=>?_)
 ·
  have hil:i<ll.length:=by omega
  have hft:=congrArg List.length (K1 hil);rw[List.length_append] at hft;have Q8:=BG (ll:=ll) (i+1);refine aA 5 ?_ [5];refine aL hl ?_;intro _ Ds zZ jc;refine dW jc ?_;intro z6 g14;refine bh 6 ?_ [31];refine dE g14.ln ?_;refine ax 8 ?_ [3];refine a_ 20 rfl (λk6=>?_) (λk6=>?_)
  ·
   omega
  refine aB 6 ?_ [3];refine bC (bu (i+1,aK) _ ⟨aD,hF,hT,hl⟩ aD)
 have hil:i=ll.length:=by omega
 refine aA 4 ?_ [5];refine cz Tryz.call191 rfl (Y8 hF af 3 ak) ?_;rintro Jc w2 ⟨Jd,s_1,hF,ho⟩;refine bh 6 ?_ [7];refine dE hl.mv.ln ?_;refine ax 3 ?_;refine cg (ι:=Nat×Value×(Nat->Nat)) (λx w=>x.1<=ll.length/\aF w x.2.2/\av [2,3,4,5,6,7,8,9] w₀ (aI C) w x.2.2/\aq w (aj x.2.2) ll cW/\aQ w x.2.2 3 55 x.2.1 ((ll.take x.1).flatten)) (λx=>[(6,x.2.1),(25,cW),(26,.int .i64 ll.length),(27,.int .i64 x.1)]) (λx=>ll.length-x.1) (0,Jc,Jd) ?_ ?_
 · exact⟨Nat.zero_le _,hF,hT.mv,hl.mv,ho⟩
 intro⟨k,ct,dm⟩ w3 hI eD;obtain⟨hk,hF,hT,hl,ho⟩:=hI;try simp only at hk hF hT hl ho
 show Run _ _ _ _ [(6,ct),(25,cW),(26,.int .i64 ll.length),(27,.int .i64 k)] _ _;have hle:=hl.le;have hfl:=BG (ll:=ll) k;refine aB 5 ?_ [1];refine a_ 28 rfl (λgG=>?_) (λgG=>?_)
 ·
  have ay:k<ll.length:=by omega
  have hft:=K1 ay;have Q9:=congrArg List.length hft;rw[List.length_append] at Q9;have Q8:=BG (ll:=ll) (k+1);refine aA 5 ?_ [5];refine aL hl ?_;intro _ vG vH gE;refine dW gE ?_;intro v30 fK;refine bh 5 ?_ [11];refine aR (eO (e:=55) (bytes:=16) hF ak rfl rfl ai ak ho fK af af) ?_;rintro v33 w4 ⟨fW,s_2,ho,hF⟩;refine ax 7 ?_ [3];refine bC (eD (k+1,v33,fW) _ ⟨aD,hF,hT.mv,hl.mv,(by simp only;rw[hft];exact ho)⟩ aD)
 have ay:k=ll.length:=by omega
 rw[ay,List.take_length] at ho;refine aB 6 ?_ [3];refine bg Tryz.func138 ?_;obtain⟨rH,qe,hFg,FP,ud⟩:=ho.mG hT aO (er C) (λb _=>gI C ak b) ak j hj;exact⟨rH,(hT.o1).mG qe,hFg,ud⟩
theorem ae9 {w₀:World} {C:Nat->Nat} {ll:List (List au)} {cW:Value} (hF:aF w₀ C) (hl:aq w₀ (aj C) ll cW) (hlen:ll.flatten.length<=100000):Calls Tryz.prog 138 #[cW] w₀ (aZ λv w'=>av [] w₀ C w' C/\aq w' (aj C) ll.flatten v):=by
 have aO:=hF;replace hF:=hF.aI;replace hl:=hl.c1;refine bG Tryz.func138 ?_;refine aA 12 ?_ [1,1,7];refine dE hl.ln ?_;refine ax 3 ?_;refine cg (ι:=Nat×(Nat->Nat)) (λx w=>x.1<=ll.length/\aF w x.2/\av [2,3,4,5,6,7,8,9] w₀ (aI C) w x.2/\aq w (aj x.2) ll cW) (λx=>[(0,cW),(3,.int .i64 ((ll.take x.1).flatten.length:Nat)),(9,cW),(10,.int .i64 ll.length),(11,.int .i64 x.1)]) (λx=>ll.length-x.1) (0,aI C) ?_ ?_
 · exact⟨Nat.zero_le _,hF,(z9 w₀ C),hl⟩
 intro⟨i,aK⟩ w1 hI bu;obtain⟨hi,hF,hT,hl⟩:=hI;try simp only at hi hF hT hl
 show Run _ _ _ _ [(0,cW),(3,.int .i64 ((ll.take i).flatten.length:Nat)),(9,cW),(10,.int .i64 ll.length),(11,.int .i64 i)] _ _;have hle:=hl.le;have hfl:=BG (ll:=ll) i;refine aB 5 ?_ [1];refine a_ 12 rfl (λh12=>?_) (λh12=>?_)
 ·
  have hil:i<ll.length:=by omega
  have hft:=congrArg List.length (K1 hil);rw[List.length_append] at hft;have Q8:=BG (ll:=ll) (i+1);refine aA 5 ?_ [5];refine aL hl ?_;intro _ Ds zZ jc;refine dW jc ?_;intro z6 g14;refine bh 6 ?_ [31];refine dE g14.ln ?_;refine ax 8 ?_ [3];refine a_ 20 rfl (λk6=>?_) (λk6=>?_)
  ·
   omega
  refine aB 6 ?_ [3];refine bC (bu (i+1,aK) _ ⟨aD,hF,hT,hl⟩ aD)
 have hil:i=ll.length:=by omega
 refine aA 4 ?_ [5];refine cz Tryz.call191 rfl (Y8 hF af 3 ak) ?_;rintro Jc w2 ⟨Jd,s_1,hF,ho⟩;refine bh 6 ?_ [7];refine dE hl.mv.ln ?_;refine ax 3 ?_;refine cg (ι:=Nat×Value×(Nat->Nat)) (λx w=>x.1<=ll.length/\aF w x.2.2/\av [2,3,4,5,6,7,8,9] w₀ (aI C) w x.2.2/\aq w (aj x.2.2) ll cW/\aQ w x.2.2 3 55 x.2.1 ((ll.take x.1).flatten)) (λx=>[(6,x.2.1),(25,cW),(26,.int .i64 ll.length),(27,.int .i64 x.1)]) (λx=>ll.length-x.1) (0,Jc,Jd) ?_ ?_
 · exact⟨Nat.zero_le _,hF,hT.mv,hl.mv,ho⟩
 intro⟨k,ct,dm⟩ w3 hI eD;obtain⟨hk,hF,hT,hl,ho⟩:=hI;try simp only at hk hF hT hl ho
 show Run _ _ _ _ [(6,ct),(25,cW),(26,.int .i64 ll.length),(27,.int .i64 k)] _ _;have hle:=hl.le;have hfl:=BG (ll:=ll) k;refine aB 5 ?_ [1];refine a_ 28 rfl (λgG=>?_) (λgG=>?_)
 ·
  have ay:k<ll.length:=by omega
  have hft:=K1 ay;have Q9:=congrArg List.length hft;rw[List.length_append] at Q9;have Q8:=BG (ll:=ll) (k+1);refine aA 5 ?_ [5];refine aL hl ?_;intro _ vG vH gE;refine dW gE ?_;intro v30 fK;refine bh 5 ?_ [11];refine aR (eO (e:=55) (bytes:=16) hF ak rfl rfl ai ak ho fK af af) ?_;rintro v33 w4 ⟨fW,s_2,ho,hF⟩;refine ax 7 ?_ [3];refine bC (eD (k+1,v33,fW) _ ⟨aD,hF,hT.mv,hl.mv,(by simp only;rw[hft];exact ho)⟩ aD)
 have ay:k=ll.length:=by omega
 rw[ay,List.take_length] at ho;refine aB 6 ?_ [3];refine bg Tryz.func138 ?_;exact⟨hT.o1,ho.out hT aO (er C) (λb _=>gI C ak b) af⟩
end
end Go.Proofs.YtmdhggfehknjjaaGreat
