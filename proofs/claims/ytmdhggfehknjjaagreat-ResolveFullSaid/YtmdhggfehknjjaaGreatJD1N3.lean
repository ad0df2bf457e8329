/- Steps through functions of the program. -/
import Derived.Test.YtmdhggfehknjjaaGreatRows
import Derived.Test.YtmdhggfehknjjaaGreatL1
import Derived.Test.YtmdhggfehknjjaaGreatL2
set_option maxRecDepth 100000
set_option maxHeartbeats 400000
namespace Go.Proofs.YtmdhggfehknjjaaGreat
open Go.K Go.K.bn
noncomputable section
theorem bP:Tryz.prog.follows .mixedOrders=true:=Tryz.checked.mixed
theorem cF (a:Option Addr) (l c:Nat) (w:World):Calls Tryz.prog 10 #[.slice a l c] w (aZ λv w'=>v=.bool (decide ((l:Int)<=400))/\w'=w):=by
 refine bG Tryz.func10 ?_;refine aA 7 ?_ [1,15];refine aP (λ_=>A5 rfl Tryz.underlying22) ?_;refine ax 3 ?_;refine bg Tryz.func10 ?_;exact⟨rfl,rfl⟩
theorem oI {w:World} {C:Nat->Nat} {l:List Int} {aC:Value} (hF:aF w C) (hl:aq w (aj C) l aC):Calls Tryz.prog 11 #[aC] w (aZ λv w'=>∃aG b,v=.pointer (some ⟨b,0,none⟩)/\av [] w C w' aG/\aF w' aG/\n5 87 w' aG 3 b ⟨l,0,11400714819323198485⟩):=by
 refine bG Tryz.func11 ?_;refine aA 7 ?_ [1,11];refine aP (λ_=>eW (zs:=[.slice none 0 0,.int .i64 0,.int .u64 0]) (ps:=[(0,1),(1,1),(2,1)]) (c4:=[(0,[aC]),(2,[.int .u64 11400714819323198485])]) (cs:=[aC,.int .i64 0,.int .u64 11400714819323198485]) ai ai ⟨rfl,⟨_,rfl,(hl.one rfl).1⟩,rfl,⟨_,rfl,rfl⟩,trivial⟩ rfl) ?_;refine aR (cu (cs:=[aC,.int .i64 0,.int .u64 11400714819323198485]) hF 3 rfl rfl) ?_;rintro _ w1 ⟨cm,bq,rfl,s_1,hb,hF⟩;refine ax 2 ?_;refine bg Tryz.func11 ?_;exact⟨_,_,rfl,(av.refl [] w C).mv,hF,Nat.zero_le _,aC,hl.mv,hb⟩
theorem b5 {w:World} {C:Nat->Nat} {i b:Nat} {d:iH} (hF:aF w C) (hi:i≠0) (hd:n5 87 w C i b d) (hlen:d.list.length<=9223372036854775807):Calls Tryz.prog 57 #[.pointer (some ⟨b,0,none⟩)] w (aZ λv w'=>v=.int .u64 d.word/\av [i] w C w' C/\n5 87 w' C i b d.next):=by
 obtain⟨kY,aC,hl,hb⟩:=hd.cv hi;have hbc:C b=i:=by obtain⟨_,_,_,h⟩:=hd;exact h.col
 have aO:=hF;replace hF:=hF.cv i;refine bG Tryz.func57 ?_;refine aB 10 ?_ [1,1];refine bX [] (cv C i) [1,3,5,7,9,11,13,15,17,19] bP ?_;intro w1 s_1;refine ah 3 ?_ [1];refine di hb.mv.sz ?_;refine ah 3 ?_ [0];refine di hb.mv.sz ?_;refine dE hl.mv.ln ?_;refine ax 2 ?_;refine a_ 14 rfl (λeR=>?_) (λeR=>?_)
 ·
  have hx:d.x=IntKind.u64.wrap d.list[d.at_]:=by unfold iH.x;rw[dif_pos af]
  have hn:d.next=⟨d.list,d.at_+1,mix d.state d.x⟩:=by unfold iH.next;rw[if_pos af]
  refine aB 1 ?_;refine bX [] (cv C i) [1,3,5,7,9,11,13,15,17,19,21,23] bP ?_;intro w2 s_2;refine ah 3 ?_ [0];refine di hb.mv.sz ?_;refine ah 3 ?_ [1];refine di hb.mv.sz ?_;refine aL hl.mv ?_;intro _ sZ rq h23;refine ew h23 ?_;intro v24 g24;first|(obtain rfl:=dJ.1 g24)|(obtain rfl:=cO.1 g24)
  refine aP (λ_=>A4 rfl ⟨_,Tryz.underlying3⟩ Tryz.underlying84) ?_;refine bh 6 ?_ [119,1];refine aX hb.mv.at_ ?_;refine ah 3 ?_ [1];refine bM (ic rfl rfl ai rfl rfl hb.mv b_) ?_;rintro _ w3 ⟨rfl,cq,hb⟩;refine bh 7 ?_ [2031,2];refine aX hb.at_ ?_;refine ah 6 ?_ [2];refine bM (ic rfl rfl ai rfl rfl hb b_) ?_;rintro _ w4 ⟨rfl,cI,hb⟩;refine ax 2 ?_;refine bX [] (cv C i) [1,3,5,7,9,11,13,15,17,19,21] bP ?_;intro dc de;refine ah 3 ?_ [2];refine di hb.mv.sz ?_;refine ah 3 ?_ [2];refine di hb.mv.sz ?_;refine aP (λ_=>qP rfl rfl af) ?_;refine bh 13 ?_ [7,31];refine aP (λ_=>qP rfl rfl af) ?_;refine ax 3 ?_;refine bg Tryz.func57 ?_;refine⟨eq_int (by simp only[iH.word,iH.next,M4,M5,mix,hx]),(av.refl [2,3,4,5,6,7,8,9] w (cv C i)).o2,n5.out (d:=d.next) ?_ (av.refl [2,3,4,5,6,7,8,9] w (cv C i)).mv aO hbc⟩;rw[hn];replace hb:=hb.mv;simp only[List.set_cons_succ,List.set_cons_zero] at hb;refine⟨by simp only;omega,aC,hl.mv,?_⟩;simpa[mix,hx] using hb
 have hx:d.x=0:=by unfold iH.x;rw[dif_neg af]
 have hn:d.next=⟨d.list,d.at_,mix d.state d.x⟩:=by unfold iH.next;rw[if_neg af]
 refine aA 7 ?_ [2031,2];refine aX hb.mv.at_ ?_;refine ah 6 ?_ [2];refine bM (ic rfl rfl ai rfl rfl hb.mv b_) ?_;rintro _ ei ⟨rfl,ej,hb⟩;refine ax 2 ?_;refine bX [] (cv C i) [1,3,5,7,9,11,13,15,17,19,21] bP ?_;intro w7 eS;refine ah 3 ?_ [2];refine di hb.mv.sz ?_;refine ah 3 ?_ [2];refine di hb.mv.sz ?_;refine aP (λ_=>qP rfl rfl af) ?_;refine bh 13 ?_ [7,31];refine aP (λ_=>qP rfl rfl af) ?_;refine ax 3 ?_;refine bg Tryz.func57 ?_;refine⟨eq_int (by simp only[iH.word,iH.next,M4,M5,mix,hx]),(av.refl [2,3,4,5,6,7,8,9] w (cv C i)).o2,n5.out (d:=d.next) ?_ (av.refl [2,3,4,5,6,7,8,9] w (cv C i)).mv aO hbc⟩;rw[hn];replace hb:=hb.mv;simp only[List.set_cons_succ,List.set_cons_zero] at hb;refine⟨by simp only;omega,aC,hl.mv,?_⟩;simpa[mix,hx] using hb
theorem HI {w:World} {C:Nat->Nat} {i b:Nat} {d:iH} {n:Int} (hF:aF w C) (hi:i≠0) (hd:n5 87 w C i b d) (hlen:d.list.length<=9223372036854775807) (KV:n<=9223372036854775807):Calls Tryz.prog 26 #[.pointer (some ⟨b,0,none⟩),.int .i64 n] w (aZ λv w'=>v=.int .i64 (d.num n)/\av [i] w C w' C/\n5 87 w' C i b (d.after n)):=by
 have aO:=hF;refine bG Tryz.func26 ?_;refine aB 10 ?_ [1,3];refine a_ 6 rfl (λh6=>?_) (λh6=>?_)
 ·
  have hn:d.num n=0:=by unfold iH.num;rw[if_pos af]
  have ha:d.after n=d:=by unfold iH.after;rw[if_pos af]
  refine aB 4 ?_ [1];refine bg Tryz.func26 ?_;rw[ha,hn];exact⟨rfl,(av.refl [i] w C),hd⟩
 have hn:d.num n=(d.word/2)%n:=by unfold iH.num;rw[if_neg af]
 have ha:d.after n=d.next:=by unfold iH.after;rw[if_neg af]
 refine aA 4 ?_ [125];refine bD Tryz.call57 (b5 aO hi hd hlen) ?_;rintro kQ w1 ⟨rfl,s_1,hd⟩;have hwr:=d.hG;refine aP (λ_=>St (r:=d.word/2) rfl rfl af (by show d.word.fdiv 2=_;exact Int.fdiv_eq_ediv_of_nonneg _ ak)) ?_;refine aP (λ_=>Gj (r:=d.word/2) rfl ⟨_,Tryz.underlying84⟩ Tryz.underlying3 (wrap_i64 af af)) ?_;refine ax 4 ?_;refine bg Tryz.func26 ?_;rw[ha,hn];exact⟨rfl,(av.refl [i] w C).mv,hd⟩
end
end Go.Proofs.YtmdhggfehknjjaaGreat
set_option maxHeartbeats 4000000
namespace Go.Proofs.YtmdhggfehknjjaaGreat
open Go.K Go.K.bn
noncomputable section
def eX (w:World) (C:Nat->Nat) (i b:Nat):Prop:=∃d:iH,n5 87 w C i b d/\d.list.length<=9223372036854775807
section
variable {w w':World} {C aG:Nat->Nat} {i b:Nat} {I:List Nat}
theorem eX.st (h:eX w C i b) (hs:av I w C w' aG) (h0:0∉I) (hi:i∉I):eX w' aG i b:=let⟨d,h1,h2⟩:=h;⟨d,h1.st hs h0 hi,h2⟩
theorem eX.u (h:eX w C i b) (hs:av I w C w' aG) (h0:0∉I:=by first|decide|(simp<;>omega)) (hi:i∉I:=by first|decide|(simp<;>omega)):eX w' aG i b:=h.st hs h0 hi
theorem eX.mv (h:eX w C i b) (hs:av I w C w' aG:=by exact pL) (h0:0∉I:=by first|decide|(simp<;>omega)) (hi:i∉I:=by first|decide|(simp<;>omega)):eX w' aG i b:=h.st hs h0 hi
theorem eX.cv (h:eX w C i b) (hi:i≠0):eX w (cv C i) 2 b:=let⟨d,h1,h2⟩:=h;⟨d,h1.cv hi,h2⟩
theorem eX.bO (h:eX w C i b) {n:Nat} (hi:i<n):eX w (K.bO n C) i b:=let⟨d,h1,h2⟩:=h;⟨d,h1.bO hi,h2⟩
theorem eX.out {w₀:World} {lI:Nat->Nat} (h:eX w' aG 2 b) (hs:av I w₀ (K.cv lI i) w' aG) (hF:aF w₀ lI) (hb:lI b=i):eX w' lI i b:=let⟨d,h1,h2⟩:=h;⟨d,h1.out hs hF hb,h2⟩
theorem eX.uW (h:eX w C i b):C b=i:=by obtain⟨d,⟨_,_,_,h⟩,_⟩:=h;exact h.col
end
theorem gB {w:World} {C:Nat->Nat} {l:List Int} {aC:Value} (hF:aF w C) (hl:aq w (aj C) l aC):Calls Tryz.prog 11 #[aC] w (aZ λv w'=>∃aG b,v=.pointer (some ⟨b,0,none⟩)/\av [] w C w' aG/\aF w' aG/\eX w' aG 3 b):=
 (oI hF hl).mono (aZ.mono λv w' ⟨aG,b,h1,h2,h3,h4⟩=>⟨aG,b,h1,h2,h3,_,h4,hl.le⟩)
theorem lQ {w:World} {C:Nat->Nat} {i b:Nat} {n:Int} (hF:aF w C) (hi:i≠0) (hd:eX w C i b) (h1:1<=n) (KV:n<=9223372036854775807):Calls Tryz.prog 26 #[.pointer (some ⟨b,0,none⟩),.int .i64 n] w (aZ λv w'=>∃k:Nat,v=.int .i64 (k:Int)/\(k:Int)<n/\av [i] w C w' C/\eX w' C i b):=by
 obtain⟨d,hd,hl⟩:=hd;refine(HI hF hi hd hl KV).mono (aZ.mono λv w' ⟨e,h2,h3⟩=>?_);have hr:=d.pW h1;exact⟨(d.num n).toNat,by rw[e,Int.toNat_of_nonneg hr.1],by rw[Int.toNat_of_nonneg hr.1];exact hr.2,h2,_,h3,by rw[iH.GM];exact hl⟩
theorem KW {w:World} {M:Nat->Prop} {l:List Int} {aC:Value} (hl:aq w M l aC):Calls Tryz.prog 10 #[aC] w (aZ λv w'=>v=.bool (decide ((l.length:Int)<=400))/\w'=w):=by
 obtain⟨a,c,rfl⟩:=hl.len;exact cF a l.length c w
theorem Di {w:World} {C:Nat->Nat} {i b:Nat} {n:Int} (hF:aF w C) (hi:i≠0) (hd:eX w C i b) (h1:1<=n) (KV:n<=9223372036854775807):Calls Tryz.prog 15 #[.pointer (some ⟨b,0,none⟩),.int .i64 n] w (aZ λv w'=>∃t:Bool,v=.bool t/\av [i] w C w' C/\eX w' C i b):=by
 have aO:=hF;have hbc:=hd.uW;replace hd:=hd.cv hi;replace hF:=hF.cv i;refine bG Tryz.func15 ?_;refine aA 8 ?_ [1,27];refine cz Tryz.call26 rfl (lQ hF ak hd h1 KV) ?_;rintro kQ w1 ⟨k,rfl,hk,s_1,hd⟩;refine ax 3 ?_;refine bg Tryz.func15 ?_;exact⟨_,rfl,(av.refl [2,3,4,5,6,7,8,9] w (cv C i)).o2,hd.out (av.refl [2,3,4,5,6,7,8,9] w (cv C i)).mv aO hbc⟩
theorem VG {w₀:World} {C:Nat->Nat} (x:Int) (hF:aF w₀ C):Calls Tryz.prog 257 #[.int .i64 x] w₀ (aZ λv w'=>v=.bool (rU x)/\av [] w₀ C w' C):=by
 have aO:=hF;replace hF:=hF.aI;refine bG Tryz.func257 ?_;refine aB 4 ?_ [1];refine kp (bT 0 (fL _)) ?_;refine aB 1 ?_;refine iL 2 (rU x) (aI C) ?_ ?_
 ·
  intro bU;by_cases hA:64<=x
  ·
   by_cases hB:x<=512
   ·
    refine aA 2 ?_ [4095];refine dT hA ?_;refine ah 2 ?_;refine dT hB ?_;refine ah 7 ?_;exact bQ.nil (bU _ _ _ (av.refl _ _ _) rfl (by unfold rU;rw[decide_eq_true hA,decide_eq_true hB];rfl) (cB 12))
   refine aA 2 ?_ [4095];refine dT hA ?_;refine ah 2 ?_;refine cL hB ?_;refine ah 7 ?_;exact bQ.nil (bU _ _ _ (av.refl _ _ _) rfl (by unfold rU;rw[decide_eq_false hB,Bool.and_false];rfl) (cB 12))
  refine aA 2 ?_ [4095];refine cL hA ?_;refine ah 10 ?_;exact bQ.nil (bU _ _ _ (av.refl _ _ _) rfl (by unfold rU;rw[decide_eq_false hA];rfl) (cB 12))
 intro w1 s_1;refine bg Tryz.func257 ?_;exact⟨rfl,(z9 w₀ C).o1⟩
theorem Dj {w₀:World} {C:Nat->Nat} {x:Bits} {u:Value} (hF:aF w₀ C) (hw:aq w₀ (aj C) x.words u):Calls Tryz.prog 234 #[.agg #[.int .i64 x.len,u]] w₀ (aZ λv w'=>v=.bool (ij x)/\av [] w₀ C w' C):=by
 have aO:=hF;replace hF:=hF.aI;replace hw:=hw.c1;refine bG Tryz.func234 ?_;refine aA 2 ?_ [2];refine aR (cu (cs:=[.int .i64 x.len,u]) hF 3 rfl rfl) ?_;rintro _ w1 ⟨cm,bq,rfl,s_1,hx,hF⟩;refine ax 2 ?_;have zV:=hw.mv.le;refine kp (bT 1 (fL _)) ?_;refine aB 1 ?_;refine iL 2 (ij x) (cm) ?_ ?_
 ·
  intro bU;by_cases hA:rU x.len=true
  ·
   have hr:=NF.1 hA;refine aA 2 ?_ [7897,0];refine aX hx.at_ ?_;refine bD Tryz.call257 (VG x.len hF) ?_;rintro fP w2 ⟨rfl,s_2⟩;rw[hA];refine ah 2 ?_ [1];refine aX hx.mv.at_ ?_;refine dE hw.mv.ln ?_;refine ah 1 ?_ [0];refine aX hx.mv.at_ ?_;refine ah 4 ?_;exact bQ.nil (bU _ _ _ (av.refl [] _ _).mv rfl (by unfold ij;rw[hA];rfl) (cB 13))
  refine aA 2 ?_ [7897,0];refine aX hx.at_ ?_;refine bD Tryz.call257 (VG x.len hF) ?_;rintro iu w3 ⟨rfl,cq⟩;rw[Bool.eq_false_iff.2 hA];refine ah 10 ?_;exact bQ.nil (bU _ _ _ (av.refl [] _ _).mv rfl (by unfold ij;rw[Bool.eq_false_iff.2 hA];rfl) (cB 13))
 intro w4 cI;refine bg Tryz.func234 ?_;exact⟨rfl,(z9 w₀ C).o1⟩
theorem Fv (x:Int) (w:World):Calls Tryz.prog 260 #[.int .u64 x] w (aZ λv w'=>v=.int .i64 (xU x)/\w'=w):=by
 refine bG Tryz.func260 ?_;refine aA 7 ?_ [1,127];refine aP (λ_=>qP rfl rfl af) ?_;refine ax 6 ?_;obtain⟨x1,hx1⟩:∃y:Int,y=IntKind.u64.wrap (bitsOf .and .u64 ((x).fdiv (2^min (1:Int).toNat IntKind.u64.bits)) 6148914691236517205+bitsOf .and .u64 x 6148914691236517205):=⟨_,rfl⟩
 rw[<-hx1];refine kp (bT 0 (fL _)) ?_;refine aA 3 ?_ [127];refine aP (λ_=>qP rfl rfl af) ?_;refine ax 6 ?_;obtain⟨uN,hx2⟩:∃y:Int,y=IntKind.u64.wrap (bitsOf .and .u64 ((x1).fdiv (2^min (2:Int).toNat IntKind.u64.bits)) 3689348814741910323+bitsOf .and .u64 x1 3689348814741910323):=⟨_,rfl⟩
 rw[<-hx2];refine kp (bT 0 (fL _)) ?_;refine aA 3 ?_ [63];refine aP (λ_=>qP rfl rfl af) ?_;refine ax 5 ?_;obtain⟨EO,E4⟩:∃y:Int,y=bitsOf .and .u64 (IntKind.u64.wrap ((uN).fdiv (2^min (4:Int).toNat IntKind.u64.bits)+uN)) 1085102592571150095:=⟨_,rfl⟩
 rw[<-E4];refine kp (bT 0 (fL _)) ?_;refine aA 4 ?_ [31];refine aP (λ_=>qP rfl rfl af) ?_;refine ax 3 ?_;obtain⟨GX,VH⟩:∃y:Int,y=IntKind.u64.wrap (EO+(EO).fdiv (2^min (8:Int).toNat IntKind.u64.bits)):=⟨_,rfl⟩
 rw[<-VH];refine kp (bT 0 (fL _)) ?_;refine aA 4 ?_ [31];refine aP (λ_=>qP rfl rfl af) ?_;refine ax 3 ?_;obtain⟨GY,VI⟩:∃y:Int,y=IntKind.u64.wrap (GX+(GX).fdiv (2^min (16:Int).toNat IntKind.u64.bits)):=⟨_,rfl⟩
 rw[<-VI];refine kp (bT 0 (fL _)) ?_;refine aA 4 ?_ [31];refine aP (λ_=>qP rfl rfl af) ?_;refine ax 3 ?_;obtain⟨Up,VJ⟩:∃y:Int,y=IntKind.u64.wrap (GY+(GY).fdiv (2^min (32:Int).toNat IntKind.u64.bits)):=⟨_,rfl⟩
 rw[<-VJ];refine kp (bT 0 (fL _)) ?_;refine aA 3 ?_ [15];refine aP (λ_=>A4 rfl ⟨_,Tryz.underlying84⟩ Tryz.underlying3) ?_;refine ax 3 ?_;refine bg Tryz.func260 ?_;exact⟨by subst VJ;subst VI;subst VH;subst E4;subst hx2;subst hx1;rfl,rfl⟩
theorem Oy {w₀:World} {C:Nat->Nat} {y:Bits} {u:Value} (hF:aF w₀ C) (hw:aq w₀ (aj C) y.words u):Calls Tryz.prog 236 #[.agg #[.int .i64 y.len,u]] w₀ (aZ λv w'=>v=.int .i64 (gX y)/\av [] w₀ C w' C):=by
 have aO:=hF;replace hF:=hF.aI;replace hw:=hw.c1;refine bG Tryz.func236 ?_;refine aA 2 ?_ [2];refine aR (cu (cs:=[.int .i64 y.len,u]) hF 3 rfl rfl) ?_;rintro _ w1 ⟨cm,bq,rfl,s_1,hx,hF⟩;refine bh 5 ?_ [4];refine bF 2 ([.int .i64 y.len,u]) hx.at_ ?_;refine bD Tryz.call234 (Dj hF hw.mv) ?_;rintro fP w2 ⟨rfl,s_2⟩;refine ax 2 ?_;refine f_ 8 rfl (λh8=>?_) (λh8=>?_)
 ·
  have hv:ij y=false:=by simpa using h8
  refine aB 4 ?_ [1];refine bg Tryz.func236 ?_;exact⟨by unfold gX;rw[hv];rfl,(z9 w₀ C).o1⟩
 have hv:ij y=true:=by simpa using h8
 have VK:=Kk hv;refine aA 9 ?_ [1,13,1];refine aX hx.mv.at_ ?_;refine dE hw.mv.ln ?_;refine ax 3 ?_;refine cg (ι:=Nat×(Nat->Nat)) (λx w=>x.1<=y.words.length/\aF w x.2/\av [2,3,4,5,6,7,8,9] w₀ (aI C) w x.2/\aq w (aj x.2) y.words u) (λx=>[(3,.int .i64 (wC y.words x.1)),(10,u),(11,.int .i64 y.words.length),(12,.int .i64 x.1)]) (λx=>y.words.length-x.1) (0,cm) ?_ ?_
 · exact⟨Nat.zero_le _,hF.mv,(z9 w₀ C).mv,hw.mv⟩
 intro⟨k,aK⟩ w3 hI bu;obtain⟨hk,hF,hT,hw⟩:=hI;try simp only at hk hF hT hw
 show Run _ _ _ _ [(3,.int .i64 (wC y.words k)),(10,u),(11,.int .i64 y.words.length),(12,.int .i64 k)] _ _;have Ew:=Kj y.words k;refine aB 5 ?_ [1];refine a_ 13 rfl (λjc=>?_) (λjc=>?_)
 ·
  have ay:k<y.words.length:=by omega
  have CU:=Uq (y.words[k]).n;refine aA 5 ?_ [5];refine aL hw ?_;intro _ qz qA eR;refine dW eR ?_;intro r7 g15;obtain rfl:=l9.1 g15;refine bh 5 ?_ [27];refine bD Tryz.call260 (Fv _ _) ?_;rintro fS w4 ⟨rfl,rfl⟩;refine ax 8 ?_ [3];refine kp (fD 3 rfl (eq_int (by show _=wC y.words k+xU (y.words.getD k default).n;rw[xQ ay])) (bT 10 (bT 11 (fD 12 rfl (eq_int b_) (fL _))))) (bu (k+1,aK) _ ⟨aD,hF,hT,hw⟩ aD)
 have ay:k=y.words.length:=by omega
 rw[ay];refine aB 6 ?_ [3];refine bg Tryz.func236 ?_;exact⟨by unfold gX;rw[hv];rfl,hT.o1⟩
theorem VL (x y:Int) (w:World):Calls Tryz.prog 259 #[.int .u64 x,.int .u64 y] w (aZ λv w'=>v=.int .u64 (bitsOf .and .u64 x y)/\w'=w):=by
 refine bG Tryz.func259 ?_;refine aB 11 ?_ [1,15];refine bg Tryz.func259 ?_;exact⟨rfl,rfl⟩
namespace VM
def c0:=qQ Tryz.f258
def Dm:=nD (cl (b7 (b7 c0)))
end VM
theorem qc {w₀:World} {C:Nat->Nat} {a b:Bits} {u v:Value} (hF:aF w₀ C) (hw:aq w₀ (aj C) a.words u) (hz:aq w₀ (aj C) b.words v):Calls Tryz.prog 258 #[.agg #[.int .i64 a.len,u],.agg #[.int .i64 b.len,v],.func (.func 259) #[] #[]] w₀ (aZ λr w'=>∃(c:Bits) (z:Value) (e:Int),r=.tuple #[.agg #[.int .i64 c.len,z],.int .i64 e]/\av [] w₀ C w' C/\aq w' (aj C) c.words z/\(kW a b->c=lJ a b/\e=0)/\(¬kW a b->e=8)):=by
 have aO:=hF;replace hF:=hF.aI;replace hw:=hw.c1;replace hz:=hz.c1;refine bG Tryz.func258 ?_;refine aA 2 ?_ [8];refine aR (cu (cs:=[.int .i64 a.len,u]) hF 3 rfl rfl) ?_;rintro _ w1 ⟨cm,bq,rfl,s_1,ha,hF⟩;refine aR (cu (cs:=[.int .i64 b.len,v]) hF 4 rfl rfl) ?_;rintro _ w2 ⟨cw,cM,rfl,s_2,hb,hF⟩;refine aR (dn (cs:=[.int .i64 0,.slice none 0 0]) hF 5 ai) ?_;rintro _ w3 ⟨jd,je,rfl,cq,hr,hF⟩;refine ax 2 ?_;refine kp (bT 2 (bT 3 (bT 4 (bT 6 (fL _))))) ?_;refine aB 2 ?_;refine iL 25 (decide (¬kW a b)) (jd) ?_ ?_
 ·
  intro bU;by_cases hA:ij a=true
  ·
   by_cases hB:ij b=true
   ·
    refine aA 1 ?_ [27596];refine bF 2 ([.int .i64 a.len,u]) ha.mv.at_ ?_;refine bD Tryz.call234 (Dj hF hw.mv) ?_;rintro fS w4 ⟨rfl,cI⟩;rw[hA];refine ah 2 ?_;refine bF 2 ([.int .i64 b.len,v]) hb.mv.at_ ?_;refine bD Tryz.call234 (Dj hF.mv hz.mv) ?_;rintro kf dc ⟨rfl,de⟩;rw[hB];refine ah 4 ?_ [0];refine aX ha.mv.at_ ?_;refine ah 1 ?_ [0];refine aX hb.mv.at_ ?_;refine ah 2 ?_;exact bQ.nil (bU _ _ _ (av.refl [] _ _).mv rfl (by congr 1;apply decide_eq_decide.2;exact⟨λe h=>e h.2.2,λe e2=>e ⟨hA,hB,e2⟩⟩) (cB 15))
   refine aA 1 ?_ [27596];refine bF 2 ([.int .i64 a.len,u]) ha.mv.at_ ?_;refine bD Tryz.call234 (Dj hF hw.mv) ?_;rintro lz ei ⟨rfl,ej⟩;rw[hA];refine ah 2 ?_;refine bF 2 ([.int .i64 b.len,v]) hb.mv.at_ ?_;refine bD Tryz.call234 (Dj hF.mv hz.mv) ?_;rintro jJ w7 ⟨rfl,eS⟩;rw[Bool.eq_false_iff.2 hB];refine ah 9 ?_;exact bQ.nil (bU _ _ _ (av.refl [] _ _).mv rfl (by rw[decide_eq_true (show¬kW a b from λh=>hB h.2.1)]) (cB 15))
  refine aA 1 ?_ [27596];refine bF 2 ([.int .i64 a.len,u]) ha.mv.at_ ?_;refine bD Tryz.call234 (Dj hF hw.mv) ?_;rintro qB fk ⟨rfl,fA⟩;rw[Bool.eq_false_iff.2 hA];refine ah 13 ?_;exact bQ.nil (bU _ _ _ (av.refl [] _ _).mv rfl (by rw[decide_eq_true (show¬kW a b from λh=>hA h.1)]) (cB 15))
 intro fJ fT;refine a_ 25 rfl (λgw=>?_) (λgw=>?_)
 ·
  refine aA 2 ?_ [5];refine aP (λ_=>eW (zs:=[.int .i64 0,.slice none 0 0]) (ps:=[(0,1),(1,1)]) (c4:=[]) (cs:=[.int .i64 0,.slice none 0 0]) ai ai (by exact trivial) rfl) ?_;refine bM (cC (vs:=[.int .i64 0,.slice none 0 0]) (n:=2) rfl rfl ai rfl rfl (fE rfl) hr.mv rfl) ?_;rintro _ gn ⟨rfl,gY,hr⟩;refine ax 2 ?_;refine kM ai Tryz.func258 Tryz.results258 rfl rfl hr.at_ ai ai rfl ?_;exact⟨⟨0,[]⟩,_,_,rfl,(z9 w₀ C).o1,eT,λe=>absurd e gw,λ_=>rfl⟩
 have hok:kW a b:=Classical.not_not.1 gw;have zV:=Ur hok;have VK:=Kk hok.1;refine aB 2 ?_;refine Ex (id:=3) (ops:=VM.Dm) [7] (jd) [0,1,2,3,4] 5 [eu 6,nn 7,nn 8] 7 [nn 5,eu 6,nn 8] bP ai ai ai ?_ ?_
 ·
  intro iK eY;show bQ _ _ _ _ _ _ _ (jm 5 0 (nn 5::eu 6::nn 7::nn 8::[])) _ _;refine ck ?_;refine ah 1 ?_ [0];refine di ha.mv.sz ?_;refine ah 1 ?_ [1];refine di ha.mv.sz ?_;refine dE hw.mv.ln ?_;refine c5 (Bc (e:=84) (bytes:=8) (x0:=(⟨0⟩:j5)) (zs:=[.int .u64 0]) hF.mv (j:=6) ak ai ai rfl rfl af af af (λh M=>rfl)) ?_;rintro v32 iV ⟨wK,iW,ho,hF⟩;refine⟨aW,?_⟩;refine aP (λ_=>eW (zs:=[.int .i64 0,.slice none 0 0]) (ps:=[(0,1),(1,1)]) (c4:=[(0,[.int .i64 a.len]),(1,[v32])]) (cs:=[.int .i64 a.len,v32]) ai ai (by exact⟨rfl,⟨_,rfl,rfl⟩,rfl,⟨_,rfl,ho.one.1⟩,trivial⟩) rfl) ?_;refine c5 (dn (cs:=[.int .i64 0,.slice none 0 0]) hF 7 ai) ?_;rintro _ ki ⟨zW,wL,rfl,jx,hc,hF⟩;refine⟨aW,?_⟩;refine gU rfl ?_;refine bM (cC (vs:=[.int .i64 a.len,v32]) (n:=2) rfl rfl ai rfl rfl (by repeat' first|exact gR|refine gT ?_ ?_|rfl|exact ho.mv.one.2) hc rfl) ?_;rintro _ kH ⟨rfl,jX,hc⟩;refine bh 5 ?_ [13,1];refine aX ha.mv.at_ ?_;refine dE hw.mv.ln ?_;refine ax 3 ?_;refine cg (ι:=Nat×(Nat->Nat)) (λx w=>x.1<=a.words.length/\aF w x.2/\av [2,3,4,5,6,7,8,9] w₀ (aI C) w x.2/\bS w x.2 4 cM (.cells [.int .i64 b.len,v].toArray 151)/\bS w x.2 5 je (.cells [.int .i64 0,.slice none 0 0].toArray 151)/\bS w x.2 7 wL (.cells [.int .i64 a.len,v32].toArray 151)/\aq w (aj x.2) a.words u/\aq w (aj x.2) b.words v/\aQ w x.2 6 84 v32 ((List.zipWith jH a.words b.words).take x.1++List.replicate (a.words.length-x.1) (⟨0⟩:j5))) (λx=>[(2,.func (.func 259) #[] #[]),(4,.pointer (some ⟨cM,0,none⟩)),(6,.pointer (some ⟨je,0,none⟩)),(8,.pointer (some ⟨wL,0,none⟩)),(35,u),(36,.int .i64 a.words.length),(37,.int .i64 x.1)]) (λx=>a.words.length-x.1) (0,zW) ?_ ?_
  · exact⟨Nat.zero_le _,hF.mv,(z9 w₀ C).mv,hb.mv,hr.mv,hc,hw.mv,hz.mv,by simpa using ho.mv⟩
  intro⟨k,aK⟩ lR hI bu;obtain⟨hk,hF,hT,hb,hr,hc,hw,hz,ho⟩:=hI;try simp only at hk hF hT hb hr hc hw hz ho
  show Run _ _ _ _ [(2,.func (.func 259) #[] #[]),(4,.pointer (some ⟨cM,0,none⟩)),(6,.pointer (some ⟨je,0,none⟩)),(8,.pointer (some ⟨wL,0,none⟩)),(35,u),(36,.int .i64 a.words.length),(37,.int .i64 k)] _ _;have hzl: ((List.zipWith jH a.words b.words).take k++List.replicate (a.words.length-k) (⟨0⟩:j5)).length=a.words.length:=by rw[List.length_append,List.length_take,List.length_zipWith,List.length_replicate];omega
  refine aB 5 ?_ [1];refine a_ 38 rfl (λjY=>?_) (λjY=>?_)
  ·
   have ay:k<a.words.length:=by omega
   have ng:k<b.words.length:=by omega
   refine aA 6 ?_ [27];refine aL hw ?_;intro _ Bv Bw jZ;refine dW jZ ?_;intro v41 wM;obtain rfl:=l9.1 wM;refine ax 3 ?_;refine bX [6] (aK) [1,3,5,7,9,11,13,15,17,19,20,23,24] bP ?_;intro mo mq;refine ah 1 ?_ [1];refine di hc.mv.sz ?_;refine ah 4 ?_ [1];refine di hb.mv.sz ?_;refine ah 1 ?_;refine aL hz.mv ?_;intro _ VN VO h50;refine ew h50 ?_;intro v51 lT;obtain rfl:=l9.1 lT;refine nz ?_;refine uK (fq 52 (.call {callee:=.value 45,args:=#[46,51],argTypes:=#[84,84]})) rfl rfl (rM Tryz.call259 rfl rfl) (VL _ _ _) ?_;rintro Dn nQ ⟨rfl,rfl⟩;refine⟨aW,?_⟩;refine ck ?_;refine c6 ho.mv ?_;intro j3 Ht;refine gU rfl ?_;refine bM (gQ ho.mv Ht af rfl rfl ai (x0:=jH a.words[k] b.words[k]) (l9.2 rfl)) ?_;rintro _ oh ⟨rfl,lU,ho⟩;refine ax 6 ?_ [3];refine bC (bu (k+1,aK) _ ⟨aD,hF.mv,hT.mv,hb.mv,hr.mv,hc.mv,hw.mv,hz.mv,(by simp only;rw[Us af af] at ho;exact ho)⟩ aD)
  have ay:k=a.words.length:=by omega
  rw[ay,Nat.sub_self,List.replicate_zero,List.append_nil,List.take_of_length_le En] at ho;have CN: (List.zipWith jH a.words b.words).length<=8:=by rw[List.length_zipWith];omega
  refine aA 3 ?_ [4];refine bF 2 ([.int .i64 a.len,v32]) hc.at_ ?_;refine bM (cC (vs:=[.int .i64 a.len,v32]) (n:=2) rfl rfl ai rfl rfl (by repeat' first|exact gR|refine gT ?_ ?_|rfl|exact ho.one.2) hr rfl) ?_;rintro _ mJ ⟨rfl,nh,hr⟩;refine ax 2 ?_;refine kM ai Tryz.func258 Tryz.results258 rfl rfl hr.at_ ai ai rfl ?_;exact⟨lJ a b,_,_,rfl,hT.o1,ho.mv.out hT.mv aO (er C) (λb _=>gI C ak b) af,λ_=>⟨rfl,rfl⟩,λe=>absurd hok e⟩
 intro qC oJ;show bQ _ _ _ _ _ _ _ (jm 5 0 (nn 7::nn 5::eu 6::nn 8::[])) _ _;refine ck ?_;refine ah 1 ?_ [0];refine di ha.mv.sz ?_;refine ah 1 ?_ [1];refine di ha.mv.sz ?_;refine dE hw.mv.ln ?_;refine c5 (dn (cs:=[.int .i64 0,.slice none 0 0]) hF.mv 7 ai) ?_;rintro _ tO ⟨ajO,Oz,rfl,nR,hc,hF⟩;refine⟨aW,?_⟩;refine c5 (Bc (e:=84) (bytes:=8) (x0:=(⟨0⟩:j5)) (zs:=[.int .u64 0]) hF (j:=6) ak ai ai rfl rfl af af af (λh M=>rfl)) ?_;rintro v32 wN ⟨OA,om,ho,hF⟩;refine⟨aW,?_⟩;refine aP (λ_=>eW (zs:=[.int .i64 0,.slice none 0 0]) (ps:=[(0,1),(1,1)]) (c4:=[(0,[.int .i64 a.len]),(1,[v32])]) (cs:=[.int .i64 a.len,v32]) ai ai (by exact⟨rfl,⟨_,rfl,rfl⟩,rfl,⟨_,rfl,ho.one.1⟩,trivial⟩) rfl) ?_;refine gU rfl ?_;refine bM (cC (vs:=[.int .i64 a.len,v32]) (n:=2) rfl rfl ai rfl rfl (by repeat' first|exact gR|refine gT ?_ ?_|rfl|exact ho.one.2) hc.mv rfl) ?_;rintro _ wO ⟨rfl,uX,hc⟩;refine bh 5 ?_ [13,1];refine aX ha.mv.at_ ?_;refine dE hw.mv.ln ?_;refine ax 3 ?_;refine cg (ι:=Nat×(Nat->Nat)) (λx w=>x.1<=a.words.length/\aF w x.2/\av [2,3,4,5,6,7,8,9] w₀ (aI C) w x.2/\bS w x.2 4 cM (.cells [.int .i64 b.len,v].toArray 151)/\bS w x.2 5 je (.cells [.int .i64 0,.slice none 0 0].toArray 151)/\bS w x.2 7 Oz (.cells [.int .i64 a.len,v32].toArray 151)/\aq w (aj x.2) a.words u/\aq w (aj x.2) b.words v/\aQ w x.2 6 84 v32 ((List.zipWith jH a.words b.words).take x.1++List.replicate (a.words.length-x.1) (⟨0⟩:j5))) (λx=>[(2,.func (.func 259) #[] #[]),(4,.pointer (some ⟨cM,0,none⟩)),(6,.pointer (some ⟨je,0,none⟩)),(8,.pointer (some ⟨Oz,0,none⟩)),(35,u),(36,.int .i64 a.words.length),(37,.int .i64 x.1)]) (λx=>a.words.length-x.1) (0,OA) ?_ ?_
 · exact⟨Nat.zero_le _,hF.mv,(z9 w₀ C).mv,hb.mv,hr.mv,hc,hw.mv,hz.mv,by simpa using ho.mv⟩
 intro⟨k,aK⟩ wP hI eD;obtain⟨hk,hF,hT,hb,hr,hc,hw,hz,ho⟩:=hI;try simp only at hk hF hT hb hr hc hw hz ho
 show Run _ _ _ _ [(2,.func (.func 259) #[] #[]),(4,.pointer (some ⟨cM,0,none⟩)),(6,.pointer (some ⟨je,0,none⟩)),(8,.pointer (some ⟨Oz,0,none⟩)),(35,u),(36,.int .i64 a.words.length),(37,.int .i64 k)] _ _;have hzl: ((List.zipWith jH a.words b.words).take k++List.replicate (a.words.length-k) (⟨0⟩:j5)).length=a.words.length:=by rw[List.length_append,List.length_take,List.length_zipWith,List.length_replicate];omega
 refine aB 5 ?_ [1];refine a_ 38 rfl (λjY=>?_) (λjY=>?_)
 ·
  have ay:k<a.words.length:=by omega
  have ng:k<b.words.length:=by omega
  refine aA 6 ?_ [27];refine aL hw ?_;intro _ Bv Bw jZ;refine dW jZ ?_;intro v41 wM;obtain rfl:=l9.1 wM;refine ax 3 ?_;refine bX [6] (aK) [1,3,5,7,9,11,13,15,17,19,20,23,24] bP ?_;intro zX zY;refine ah 1 ?_ [1];refine di hc.mv.sz ?_;refine ah 4 ?_ [1];refine di hb.mv.sz ?_;refine ah 1 ?_;refine aL hz.mv ?_;intro _ VN VO h50;refine ew h50 ?_;intro v51 lT;obtain rfl:=l9.1 lT;refine nz ?_;refine uK (fq 52 (.call {callee:=.value 45,args:=#[46,51],argTypes:=#[84,84]})) rfl rfl (rM Tryz.call259 rfl rfl) (VL _ _ _) ?_;rintro OB Bx ⟨rfl,rfl⟩;refine⟨aW,?_⟩;refine ck ?_;refine c6 ho.mv ?_;intro j3 Ht;refine gU rfl ?_;refine bM (gQ ho.mv Ht af rfl rfl ai (x0:=jH a.words[k] b.words[k]) (l9.2 rfl)) ?_;rintro _ Dp ⟨rfl,Bz,ho⟩;refine ax 6 ?_ [3];refine bC (eD (k+1,aK) _ ⟨aD,hF.mv,hT.mv,hb.mv,hr.mv,hc.mv,hw.mv,hz.mv,(by simp only;rw[Us af af] at ho;exact ho)⟩ aD)
 have ay:k=a.words.length:=by omega
 rw[ay,Nat.sub_self,List.replicate_zero,List.append_nil,List.take_of_length_le En] at ho;have CN: (List.zipWith jH a.words b.words).length<=8:=by rw[List.length_zipWith];omega
 refine aA 3 ?_ [4];refine bF 2 ([.int .i64 a.len,v32]) hc.at_ ?_;refine bM (cC (vs:=[.int .i64 a.len,v32]) (n:=2) rfl rfl ai rfl rfl (by repeat' first|exact gR|refine gT ?_ ?_|rfl|exact ho.one.2) hr rfl) ?_;rintro _ E5 ⟨rfl,Dq,hr⟩;refine ax 2 ?_;refine kM ai Tryz.func258 Tryz.results258 rfl rfl hr.at_ ai ai rfl ?_;exact⟨lJ a b,_,_,rfl,hT.o1,ho.mv.out hT.mv aO (er C) (λb _=>gI C ak b) af,λ_=>⟨rfl,rfl⟩,λe=>absurd hok e⟩
theorem TS {w₀:World} {C:Nat->Nat} {a b:Bits} {u v:Value} (hF:aF w₀ C) (hw:aq w₀ (aj C) a.words u) (hz:aq w₀ (aj C) b.words v):Calls Tryz.prog 235 #[.agg #[.int .i64 a.len,u],.agg #[.int .i64 b.len,v]] w₀ (aZ λr w'=>∃(c:Bits) (z:Value) (e:Int),r=.tuple #[.agg #[.int .i64 c.len,z],.int .i64 e]/\av [] w₀ C w' C/\aq w' (aj C) c.words z/\(kW a b->c=lJ a b/\e=0)/\(¬kW a b->e=8)):=by
 have aO:=hF;replace hF:=hF.aI;replace hw:=hw.c1;replace hz:=hz.c1;refine bG Tryz.func235 ?_;refine aA 2 ?_ [8];refine aR (cu (cs:=[.int .i64 a.len,u]) hF 3 rfl rfl) ?_;rintro _ w1 ⟨cm,bq,rfl,s_1,ha,hF⟩;refine aR (cu (cs:=[.int .i64 b.len,v]) hF 4 rfl rfl) ?_;rintro _ w2 ⟨cw,cM,rfl,s_2,hb,hF⟩;refine aR (dn (cs:=[.int .i64 0,.slice none 0 0]) hF 5 ai) ?_;rintro _ w3 ⟨jd,je,rfl,cq,hr,hF⟩;refine bh 4 ?_ [88];refine bF 2 ([.int .i64 a.len,u]) ha.mv.at_ ?_;refine bF 2 ([.int .i64 b.len,v]) hb.mv.at_ ?_;refine bD Tryz.call258 (qc hF hw.mv hz.mv) ?_;rintro fS w4 ⟨c,z,e,rfl,cI,r8,hy,hn⟩;refine ah 2 ?_;refine bM (cC (vs:=[.int .i64 c.len,z]) (n:=2) rfl rfl ai rfl rfl (by repeat' first|exact gR|refine gT ?_ ?_|rfl|exact(r8.one rfl).2) hr.mv rfl) ?_;rintro _ dc ⟨rfl,de,hr⟩;refine ax 2 ?_;refine kM ai Tryz.func235 Tryz.results235 rfl rfl hr.at_ ai ai rfl ?_;exact⟨c,z,e,rfl,(z9 w₀ C).o1,r8.mv.out (z9 w₀ C).mv aO (er C),hy,hn⟩
theorem VP {w₀:World} {C:Nat->Nat} {x:Bits} {u:Value} (hF:aF w₀ C) (hw:aq w₀ (aj C) x.words u):Calls Tryz.prog 233 #[.agg #[.int .i64 x.len,u]] w₀ (aZ λv w'=>v=.bool (q9 x)/\av [] w₀ C w' C):=by
 have aO:=hF;replace hF:=hF.aI;replace hw:=hw.c1;refine bG Tryz.func233 ?_;refine aA 2 ?_ [2];refine aR (cu (cs:=[.int .i64 x.len,u]) hF 3 rfl rfl) ?_;rintro _ w1 ⟨cm,bq,rfl,s_1,hx,hF⟩;refine ax 3 ?_;by_cases hA:x.len=0
 ·
  by_cases hB: (x.words.length:Int)=0
  ·
   refine aA 2 ?_ [989,0];refine aX hx.at_ ?_;refine dT hA ?_;refine ah 2 ?_ [1];refine aX hx.at_ ?_;refine dE hw.mv.ln ?_;refine dT hB ?_;refine ax 3 ?_;refine bg Tryz.func233 ?_;exact⟨by unfold q9;rw[decide_eq_true hA,decide_eq_true hB];rfl,(z9 w₀ C).o1⟩
  refine aA 2 ?_ [989,0];refine aX hx.at_ ?_;refine dT hA ?_;refine ah 2 ?_ [1];refine aX hx.at_ ?_;refine dE hw.mv.ln ?_;refine cL hB ?_;refine ax 3 ?_;refine bg Tryz.func233 ?_;exact⟨by unfold q9;rw[decide_eq_true hA,decide_eq_false hB];rfl,(z9 w₀ C).o1⟩
 refine aA 2 ?_ [989,0];refine aX hx.at_ ?_;refine cL hA ?_;refine ax 8 ?_;refine bg Tryz.func233 ?_;exact⟨by unfold q9;rw[decide_eq_false hA];rfl,(z9 w₀ C).o1⟩
theorem pe {w₀:World} {C:Nat->Nat} {x:Bits} {u:Value} (hF:aF w₀ C) (hw:aq w₀ (aj C) x.words u) (hg:q9 x=true\/ij x=true):Calls Tryz.prog 232 #[.agg #[.int .i64 x.len,u]] w₀ (aZ λv w'=>v=.bool false/\av [] w₀ C w' C):=by
 have aO:=hF;replace hF:=hF.aI;replace hw:=hw.c1;refine bG Tryz.func232 ?_;refine aA 2 ?_ [2];refine aR (cu (cs:=[.int .i64 x.len,u]) hF 3 rfl rfl) ?_;rintro _ w1 ⟨cm,bq,rfl,s_1,hx,hF⟩;refine ax 3 ?_;by_cases hA:q9 x=true
 ·
  refine aA 1 ?_ [460];refine bF 2 ([.int .i64 x.len,u]) hx.at_ ?_;refine bD Tryz.call233 (VP hF hw.mv) ?_;rintro fP w2 ⟨rfl,s_2⟩;rw[hA];refine ax 8 ?_;refine bg Tryz.func232 ?_;exact⟨rfl,(z9 w₀ C).o1⟩
 refine aA 1 ?_ [460];refine bF 2 ([.int .i64 x.len,u]) hx.at_ ?_;refine bD Tryz.call233 (VP hF hw.mv) ?_;rintro iu w3 ⟨rfl,cq⟩;rw[Bool.eq_false_iff.2 hA];refine ah 2 ?_;refine bF 2 ([.int .i64 x.len,u]) hx.mv.at_ ?_;refine bD Tryz.call234 (Dj hF.mv hw.mv) ?_;rintro fS w4 ⟨rfl,cI⟩;rw[hg.resolve_left hA];refine ax 4 ?_;refine bg Tryz.func232 ?_;exact⟨rfl,(z9 w₀ C).o1⟩
theorem rR {w₀:World} {C:Nat->Nat} {cl:List Bits} {aC:Value} (hF:aF w₀ C) (hl:aq w₀ (aj C) cl aC) (hall:∀x∈cl,q9 x=true\/ij x=true):Calls Tryz.prog 256 #[aC,.func (.func 232) #[] #[]] w₀ (aZ λv w'=>v=.int .i64 (-1)/\av [] w₀ C w' C):=by
 have aO:=hF;replace hF:=hF.aI;replace hl:=hl.c1;refine bG Tryz.func256 ?_;refine aA 8 ?_ [1,7];refine dE hl.ln ?_;refine ax 3 ?_;refine cg (ι:=Nat×(Nat->Nat)) (λx w=>x.1<=cl.length/\aF w x.2/\av [2,3,4,5,6,7,8,9] w₀ (aI C) w x.2/\aq w (aj x.2) cl aC) (λx=>[(0,aC),(1,.func (.func 232) #[] #[]),(7,.int .i64 cl.length),(8,.int .i64 x.1)]) (λx=>cl.length-x.1) (0,aI C) ?_ ?_
 · exact⟨Nat.zero_le _,hF,(z9 w₀ C),hl⟩
 intro⟨k,aK⟩ w1 hI bu;obtain⟨hk,hF,hT,hl⟩:=hI;try simp only at hk hF hT hl
 show Run _ _ _ _ [(0,aC),(1,.func (.func 232) #[] #[]),(7,.int .i64 cl.length),(8,.int .i64 k)] _ _;have hle:=hl.le;refine aB 5 ?_ [1];refine a_ 9 rfl (λfC=>?_) (λfC=>?_)
 ·
  have ay:k<cl.length:=by omega
  have hx0:=hall _ (List.getElem_mem ay);refine aA 13 ?_ [3,15];refine aL hl ?_;intro _ qz qA eR;refine gJ eR ?_;intro r7 g15;obtain⟨u,rfl,hw⟩:=zC.1 g15;refine nz ?_;refine Bb (fq 16 (.call {callee:=.value 11,args:=#[15],argTypes:=#[151]})) rfl rfl (rM Tryz.call232 rfl rfl) (pe hF hw hx0) ?_;rintro fP w2 ⟨rfl,s_1⟩;refine ck ?_;refine ax 8 ?_ [3];refine bC (bu (k+1,aK) _ ⟨aD,hF.mv,hT.mv,hl.mv⟩ aD)
 have ay:k=cl.length:=by omega
 refine aB 5 ?_ [1];refine bg Tryz.func256 ?_;exact⟨rfl,hT.o1⟩
theorem Cd {w₀:World} {C:Nat->Nat} {cl:List Bits} {aC:Value} (hF:aF w₀ C) (hl:aq w₀ (aj C) cl aC) (hall:∀x∈cl,q9 x=true\/ij x=true):Calls Tryz.prog 231 #[aC,.func (.func 232) #[] #[]] w₀ (aZ λv w'=>v=.bool false/\av [] w₀ C w' C):=by
 have aO:=hF;replace hF:=hF.aI;replace hl:=hl.c1;refine bG Tryz.func231 ?_;refine aA 8 ?_ [1,27];refine bD Tryz.call256 (rR hF hl hall) ?_;rintro kQ w1 ⟨rfl,s_1⟩;refine aP (λ_=>dR (lH rfl rfl) ak) ?_;refine ax 2 ?_;refine bg Tryz.func231 ?_;exact⟨rfl,(z9 w₀ C).o1⟩
theorem CJ {w₀:World} {C:Nat->Nat} {x:qv} {u:Value} (hF:aF w₀ C) (hw:aq w₀ (aj C) x.dy u) (hi:De x.id) (hv:De x.ver) (h1:1<=x.dy.length) (h5:x.dy.length<=5) (hall:∀b∈x.dy,q9 b=true\/ij b=true):Calls Tryz.prog 204 #[.agg #[.int .i64 x.id,.int .i64 x.ver,u]] w₀ (aZ λv w'=>v=.bool true/\av [] w₀ C w' C):=by
 have aO:=hF;replace hF:=hF.aI;replace hw:=hw.c1;refine bG Tryz.func204 ?_;refine aA 2 ?_ [2];refine aR (cu (cs:=[.int .i64 x.id,.int .i64 x.ver,u]) hF 3 rfl rfl) ?_;rintro _ w1 ⟨cm,bq,rfl,s_1,hx,hF⟩;refine bh 5 ?_ [124485860317,0];refine aX hx.at_ ?_;refine aP (λ_=>wj (lH rfl rfl) (hi.1)) ?_;refine ah 2 ?_ [0];refine aX hx.at_ ?_;refine aP (λ_=>wj (Es rfl rfl) (hi.2)) ?_;refine ah 3 ?_ [1];refine aX hx.at_ ?_;refine aP (λ_=>wj (lH rfl rfl) (hv.1)) ?_;refine ah 3 ?_ [1];refine aX hx.at_ ?_;refine aP (λ_=>wj (Es rfl rfl) (hv.2)) ?_;refine ah 3 ?_ [2];refine aX hx.at_ ?_;refine dE hw.mv.ln ?_;refine aP (λ_=>wj (lH rfl rfl) af) ?_;refine ah 3 ?_ [2];refine aX hx.at_ ?_;refine dE hw.mv.ln ?_;refine aP (λ_=>wj (Es rfl rfl) af) ?_;refine ah 3 ?_ [2];refine aX hx.at_ ?_;refine bD Tryz.call231 (Cd hF hw.mv hall) ?_;rintro fP w2 ⟨rfl,s_2⟩;refine ax 4 ?_;refine bg Tryz.func204 ?_;exact⟨rfl,(z9 w₀ C).o1⟩
theorem OC (x:Int) (w:World):Calls Tryz.prog 202 #[.int .i64 x] w (aZ λv w'=>v=.bool (decide (rW x))/\w'=w):=by
 refine bG Tryz.func202 ?_;refine aB 5 ?_ [1];by_cases hA:-65536<=x
 ·
  refine aA 2 ?_ [127];refine dT hA ?_;refine ax 6 ?_;refine bg Tryz.func202 ?_;exact⟨by congr 1;apply decide_eq_decide.2;unfold rW;omega,rfl⟩
 refine aA 2 ?_ [127];refine cL hA ?_;refine ax 6 ?_;refine bg Tryz.func202 ?_;exact⟨by rw[decide_eq_false (λe=>hA e.1)],rfl⟩
theorem VQ {w₀:World} {C:Nat->Nat} {pr:Int} {aJ df:List Int} {bz vd:Value} (hF:aF w₀ C) (hW:mg pr aJ df) (ha:aq w₀ (aj C) aJ bz) (hd:aq w₀ (aj C) df vd):Calls Tryz.prog 163 #[.agg #[.int .i64 pr,bz,vd]] w₀ (aZ λv w'=>v=.int .i64 0/\av [] w₀ C w' C):=by
 have aO:=hF;replace hF:=hF.aI;replace ha:=ha.c1;replace hd:=hd.c1;refine bG Tryz.func163 ?_;refine aA 2 ?_ [2];refine aR (cu (cs:=[.int .i64 pr,bz,vd]) hF 3 rfl rfl) ?_;rintro _ w1 ⟨cm,bq,rfl,s_1,hx,hF⟩;refine bh 6 ?_ [27226045,1];refine aX hx.at_ ?_;refine dE ha.mv.ln ?_;refine aP (λ_=>dR (jq rfl rfl) (by have:=hW.l1;have:=hW.qt;have:=hW.ld;omega)) ?_;refine ah 2 ?_ [1];refine aX hx.at_ ?_;refine dE ha.mv.ln ?_;refine aP (λ_=>dR (jr rfl rfl) (by have:=hW.l1;have:=hW.qt;have:=hW.ld;omega)) ?_;refine ah 3 ?_ [2];refine aX hx.at_ ?_;refine dE hd.mv.ln ?_;refine ah 1 ?_ [1];refine aX hx.at_ ?_;refine dE ha.mv.ln ?_;refine aP (λ_=>dR (jQ rfl rfl) (by have:=hW.l1;have:=hW.qt;have:=hW.ld;omega)) ?_;refine ah 3 ?_ [0];refine aX hx.at_ ?_;refine bD Tryz.call202 (OC _ _) ?_;rintro fP w2 ⟨rfl,rfl⟩;rw[decide_eq_true (hW.fp)];refine bh 9 ?_ [13,1];refine aX hx.at_ ?_;refine dE ha.mv.ln ?_;refine ax 3 ?_;refine cg (ι:=Nat×(Nat->Nat)) (λx w=>x.1<=aJ.length/\aF w x.2/\av [2,3,4,5,6,7,8,9] w₀ (aI C) w x.2/\aq w (aj x.2) aJ bz/\aq w (aj x.2) df vd/\bS w x.2 3 bq (.cells [.int .i64 pr,bz,vd].toArray 65)) (λx=>[(1,.pointer (some ⟨bq,0,none⟩)),(31,.int .i64 aJ.length),(32,.int .i64 x.1)]) (λx=>aJ.length-x.1) (0,cm) ?_ ?_
 · exact⟨Nat.zero_le _,hF,(z9 w₀ C).mv,ha.mv,hd.mv,hx⟩
 intro⟨i,aK⟩ w3 hI bu;obtain⟨hi,hF,hT,ha,hd,hx⟩:=hI;try simp only at hi hF hT ha hd hx
 show Run _ _ _ _ [(1,.pointer (some ⟨bq,0,none⟩)),(31,.int .i64 aJ.length),(32,.int .i64 i)] _ _;have hle:=hW.qt;have OD:=hW.ld;refine aB 5 ?_ [1];refine a_ 33 rfl (λlV=>?_) (λlV=>?_)
 ·
  have hil:i<aJ.length:=by omega
  have hid:i<df.length:=by omega
  refine aA 11 ?_ [3,52685,1];refine aX hx.at_ ?_;refine ah 1 ?_;refine aL ha ?_;intro _ E6 E7 jY;refine dW jY ?_;intro v39 uY;first|(obtain rfl:=dJ.1 uY)|(obtain rfl:=cO.1 uY)
  refine bD Tryz.call202 (OC _ _) ?_;rintro fS w4 ⟨rfl,rfl⟩;rw[decide_eq_true (hW.fa i hil)];refine ah 3 ?_ [2];refine aX hx.at_ ?_;refine ah 1 ?_;refine aL hd ?_;intro _ Hu Hv h46;refine dW h46 ?_;intro yc ni;first|(obtain rfl:=dJ.1 ni)|(obtain rfl:=cO.1 ni)
  refine bD Tryz.call202 (OC _ _) ?_;rintro kf dc ⟨rfl,rfl⟩;rw[decide_eq_true (hW.fd i hid)];refine ax 10 ?_ [3];refine bC (bu (i+1,aK) _ ⟨aD,hF,hT,ha,hd,hx⟩ aD)
 have hil:i=aJ.length:=by omega
 refine aB 5 ?_ [1];refine bg Tryz.func163 ?_;exact⟨rfl,hT.o1⟩
theorem KX {n:Nat} (h1:1<=n) (h5:n<=5) (w:World):Calls Tryz.prog 205 #[.int .i64 n] w (aZ λv w'=>v=.bool true/\w'=w):=by
 refine bG Tryz.func205 ?_;refine aA 7 ?_ [1,127];refine aP (λ_=>wj (lH rfl rfl) af) ?_;refine ah 2 ?_;refine aP (λ_=>wj (Es rfl rfl) af) ?_;refine ax 3 ?_;refine bg Tryz.func205 ?_;exact⟨rfl,rfl⟩
theorem OE {w₀:World} {C:Nat->Nat} (hF:aF w₀ C):Calls Tryz.prog 237 #[] w₀ (aZ λv w'=>v=.agg #[.int .i64 1,.int .i64 3,.int .i64 9,.int .i64 27,.int .i64 81,.int .i64 243]/\av [] w₀ C w' C):=by
 have aO:=hF;replace hF:=hF.aI;refine bG Tryz.func237 ?_;refine aA 2 ?_ [0];refine aR (dn (cs:=[.int .i64 0,.int .i64 0,.int .i64 0,.int .i64 0,.int .i64 0,.int .i64 0]) hF 3 ai) ?_;rintro _ w1 ⟨cm,bq,rfl,s_1,hx,hF⟩;refine bh 3 ?_ [1];refine aP (λ_=>UQ (zs:=[.int .i64 0,.int .i64 0,.int .i64 0,.int .i64 0,.int .i64 0,.int .i64 0]) (cs:=[.int .i64 1,.int .i64 3,.int .i64 9,.int .i64 27,.int .i64 81,.int .i64 243]) (c4:=[(0,[.int .i64 1]),(1,[.int .i64 3]),(2,[.int .i64 9]),(3,[.int .i64 27]),(4,[.int .i64 81]),(5,[.int .i64 243])]) (n:=1) Tryz.underlying263 ai ai (by exact⟨rfl,⟨_,rfl,rfl⟩,rfl,⟨_,rfl,rfl⟩,rfl,⟨_,rfl,rfl⟩,rfl,⟨_,rfl,rfl⟩,rfl,⟨_,rfl,rfl⟩,rfl,⟨_,rfl,rfl⟩,trivial⟩) rfl) ?_;refine bM (cC (vs:=[.int .i64 1,.int .i64 3,.int .i64 9,.int .i64 27,.int .i64 81,.int .i64 243]) (n:=6) rfl rfl ai rfl rfl (fE rfl) hx rfl) ?_;rintro _ w2 ⟨rfl,s_2,hx⟩;refine ax 1 ?_;refine rS ai Tryz.func237 Tryz.results237 rfl hx.at_ ai ai rfl ?_;exact⟨rfl,(z9 w₀ C).o1⟩
theorem X6 {w₀:World} {C:Nat->Nat} {p n:Nat} (hF:aF w₀ C) (h1:1<=n) (h5:n<=5) (hp:p<3^n):Calls Tryz.prog 238 #[.int .i64 p,.int .i64 n] w₀ (aZ λv w'=>∃u,v=.tuple #[u,.int .i64 0]/\av [] w₀ C w' C/\aq w' (aj C) (rX p n) u):=by
 have aO:=hF;replace hF:=hF.aI;have hp2:=Ky h5;refine bG Tryz.func238 ?_;refine aA 9 ?_ [3,5];refine bD Tryz.call205 (KX h1 h5 _) ?_;rintro kQ w1 ⟨rfl,e⟩;obtain rfl:=e.symm;refine bh 8 ?_ [495];refine aP (λ_=>dR (jq rfl rfl) af) ?_;refine ah 2 ?_;refine bD Tryz.call237 (OE hF) ?_;rintro fP w2 ⟨rfl,s_1⟩;refine ah 1 ?_;refine aP (λ_=>N0 (cs:=[.int .i64 1,.int .i64 3,.int .i64 9,.int .i64 27,.int .i64 81,.int .i64 243]) Tryz.underlying263 ai ai rfl rfl af af (N3 (n:=n) af)) ?_;refine aP (λ_=>dR (lH rfl rfl) af) ?_;refine ax 15 ?_ [1,3];refine cg (ι:=Nat×Value×(Nat->Nat)) (λx w=>x.1<=n/\aF w x.2.2/\av [2,3,4,5,6,7,8,9] w₀ (aI C) w x.2.2/\aQ w x.2.2 3 3 x.2.1 (rX p x.1)) (λx=>[(0,.int .i64 p),(1,.int .i64 n),(6,x.2.1),(20,.int .i64 n),(21,.int .i64 x.1)]) (λx=>n-x.1) (0,.slice none 0 0,aI C) ?_ ?_
 · exact⟨Nat.zero_le _,hF.mv,(z9 w₀ C).mv,aQ.nil⟩
 intro⟨i,ct,aK⟩ w3 hI bu;obtain⟨hi,hF,hT,ho⟩:=hI;try simp only at hi hF hT ho
 show Run _ _ _ _ [(0,.int .i64 p),(1,.int .i64 n),(6,ct),(20,.int .i64 n),(21,.int .i64 i)] _ _;have E8:=G9 p i;refine aB 5 ?_ [1];refine a_ 22 rfl (λeZ=>?_) (λeZ=>?_)
 ·
  have hil:i<n:=by omega
  have eA: (1:Int)<=((3^i:Nat):Int):=by have:0<3^i:=Nat.pow_pos ak;exact_mod_cast this
  refine aA 11 ?_ [3,635];refine bD Tryz.call237 (OE hF) ?_;rintro fS w4 ⟨rfl,s_2⟩;refine ah 1 ?_;refine aP (λ_=>N0 (cs:=[.int .i64 1,.int .i64 3,.int .i64 9,.int .i64 27,.int .i64 81,.int .i64 243]) Tryz.underlying263 ai ai rfl rfl af af (N3 (n:=i) af)) ?_;refine aP (λ_=>fN (MK rfl rfl af eA af) (show _=Value.int .i64 ((p/3^i:Nat):Int) from by rw[Int.natCast_ediv])) ?_;refine aP (λ_=>fN (ML rfl rfl (Int.natCast_nonneg _) ak) (show _=Value.int .i64 ((qu p i:Nat):Int) from by unfold qu;rw[Int.natCast_emod];rfl)) ?_;refine aR (ez (ys:=([qu p i]:List Nat)) (e:=3) (bytes:=8) hF.mv ai rfl ak ak ⟨rfl,⟨_,rfl,dJ.2 rfl⟩,trivial⟩) ?_;rintro v31 dc ⟨cq,nj,hF⟩;refine aR (eO (e:=3) (bytes:=8) hF ak rfl rfl ai ak ho.mv nj dH dH) ?_;rintro v32 ei ⟨yd,cI,ho,hF⟩;refine ax 7 ?_ [3];refine bC (bu (i+1,v32,yd) _ ⟨aD,hF,hT.mv,(by simp only;rw[UR];exact ho)⟩ aD)
 have hil:i=n:=by omega
 subst hil;refine aB 7 ?_ [7];refine jo ai Tryz.func238 Tryz.results238 rfl rfl ?_;exact⟨_,rfl,hT.o1,ho.out hT aO (er C) (λb _=>gI C ak b) af⟩
theorem eB {w₀:World} {C:Nat->Nat} {pr:Int} {aJ df:List Int} {bz vd:Value} {f:Nat} (hF:aF w₀ C) (hf:f<aJ.length) (pV:f<df.length) (ha:aq w₀ (aj C) aJ bz) (hd:aq w₀ (aj C) df vd):Calls Tryz.prog 239 #[.agg #[.int .i64 pr,bz,vd],.int .i64 f] w₀ (aZ λv w'=>v=.agg [.int .i64 0,.int .i64 (df.getD f 0),.int .i64 (aJ.getD f 0)].toArray/\av [] w₀ C w' C):=by
 have aO:=hF;replace hF:=hF.aI;replace ha:=ha.c1;replace hd:=hd.c1;refine bG Tryz.func239 ?_;refine aA 2 ?_ [0];refine aR (cu (cs:=[.int .i64 pr,bz,vd]) hF 3 rfl rfl) ?_;rintro _ w1 ⟨cm,bq,rfl,s_1,hx,hF⟩;refine aR (dn (cs:=[.int .i64 0,.int .i64 0,.int .i64 0]) hF 4 ai) ?_;rintro _ w2 ⟨cw,cM,rfl,s_2,hy,hF⟩;refine ax 2 ?_;refine bX [4] (cw) [1,3,5,7,9,11,13,15,17,19,21,22] bP ?_;intro w3 cq;refine ah 1 ?_ [2];refine di hx.mv.sz ?_;refine ah 1 ?_;refine aL hd.mv ?_;intro _ ajP ajQ h8;refine ew h8 ?_;intro v9 g9;first|(obtain rfl:=dJ.1 g9)|(obtain rfl:=cO.1 g9)
 refine ah 1 ?_ [1];refine di hx.mv.sz ?_;refine ah 1 ?_;refine aL ha.mv ?_;intro _ Ds zZ jc;refine ew jc ?_;intro z6 g14;first|(obtain rfl:=dJ.1 g14)|(obtain rfl:=cO.1 g14)
 refine aP (λ_=>UQ (zs:=[.int .i64 0,.int .i64 0,.int .i64 0]) (cs:=[.int .i64 0,.int .i64 (df[f]'pV),.int .i64 (aJ[f]'hf)]) (c4:=[(0,[.int .i64 0]),(1,[.int .i64 (df[f]'pV)]),(2,[.int .i64 (aJ[f]'hf)])]) (n:=1) Tryz.underlying241 ai ai (by exact⟨rfl,⟨_,rfl,rfl⟩,rfl,⟨_,rfl,rfl⟩,rfl,⟨_,rfl,rfl⟩,trivial⟩) rfl) ?_;refine gU rfl ?_;refine bM (cC (vs:=[.int .i64 0,.int .i64 (df[f]'pV),.int .i64 (aJ[f]'hf)]) (n:=3) rfl rfl ai rfl rfl (fE rfl) hy.mv rfl) ?_;rintro _ w4 ⟨rfl,cI,hy⟩;refine ax 1 ?_;refine rS ai Tryz.func239 Tryz.results239 rfl hy.at_ ai ai rfl ?_;exact⟨by rw[lK pV,lK hf],(z9 w₀ C).o1⟩
theorem uc {w₀:World} {C:Nat->Nat} {a1 a2:Int} {k:Nat} (hF:aF w₀ C) (hk:k<3):Calls Tryz.prog 209 #[.agg #[.int .i64 0,.int .i64 a1,.int .i64 a2],.int .i64 k] w₀ (aZ λv w'=>v=.int .i64 (([0,a1,a2]:List Int).getD k 0)/\av [] w₀ C w' C):=by
 have aO:=hF;replace hF:=hF.aI;have hv: ([.int .i64 0,.int .i64 a1,.int .i64 a2]:List Value)[k]?=some (.int .i64 (([0,a1,a2]:List Int).getD k 0)):=by
  obtain rfl|rfl|rfl:k=0\/k=1\/k=2:=by omega
  all_goals simp
 refine bG Tryz.func209 ?_;refine aA 2 ?_ [2];refine aR (cu (cs:=[.int .i64 0,.int .i64 a1,.int .i64 a2]) hF 3 rfl rfl) ?_;rintro _ w1 ⟨cm,bq,rfl,s_1,hx,hF⟩;refine bh 5 ?_ [11];refine aP (λ_=>vg (n:=1) (o':=k) Tryz.underlying241 ai rfl rfl af af b_) ?_;refine nF (vW (v:=.int .i64 (([0,a1,a2]:List Int).getD k 0)) hx.at_ ai hv rfl) ?_;refine ax 2 ?_;refine bg Tryz.func209 ?_;exact⟨rfl,(z9 w₀ C).o1⟩
theorem Cn {w₀:World} {C:Nat->Nat} {pr:Int} {aJ df:List Int} {bz vd:Value} {p:Nat} (hF:aF w₀ C) (hW:mg pr aJ df) (ha:aq w₀ (aj C) aJ bz) (hd:aq w₀ (aj C) df vd) (hp:p<3^aJ.length):Calls Tryz.prog 208 #[.agg #[.int .i64 pr,bz,vd],.int .i64 p,.func (.func 209) #[] #[]] w₀ (aZ λv w'=>v=.tuple #[.int .i64 (kX pr aJ df p aJ.length),.int .i64 0]/\av [] w₀ C w' C):=by
 have aO:=hF;replace hF:=hF.aI;replace ha:=ha.c1;replace hd:=hd.c1;refine bG Tryz.func208 ?_;refine aA 2 ?_ [6];refine aR (cu (cs:=[.int .i64 pr,bz,vd]) hF 3 rfl rfl) ?_;rintro _ w1 ⟨cm,bq,rfl,s_1,hx,hF⟩;refine bh 6 ?_ [4];refine bF 3 ([.int .i64 pr,bz,vd]) hx.at_ ?_;refine bD Tryz.call163 (VQ hF hW ha.mv hd.mv) ?_;rintro fP w2 ⟨rfl,s_2⟩;refine bh 5 ?_ [3];refine aP (λ_=>dR (jQ rfl rfl) ak) ?_;refine bh 7 ?_ [1003,1];refine aX hx.mv.at_ ?_;refine dE ha.mv.ln ?_;refine bD Tryz.call238 (X6 hF.mv hW.l1 hW.qt hp) ?_;rintro iu w3 ⟨BA,rfl,cq,hg⟩;refine bh 10 ?_ [3];refine aP (λ_=>dR (jQ rfl rfl) ak) ?_;refine bh 6 ?_ [5,0];refine aX hx.mv.at_ ?_;refine bh 6 ?_ [7];refine dE hg.ln ?_;refine ax 3 ?_;refine xE (ι:=Nat×(Nat->Nat)) (I:=λx w=>x.1<=aJ.length/\aF w x.2/\av [2,3,4,5,6,7,8,9] w₀ (aI C) w x.2/\aq w (aj x.2) aJ bz/\aq w (aj x.2) df vd/\aq w (aj x.2) (rX p aJ.length) BA/\bS w x.2 3 bq (.cells [.int .i64 pr,bz,vd].toArray 65)) (e:=λx=>[(2,.func (.func 209) #[] #[]),(3,.pointer (some ⟨bq,0,none⟩)),(11,.int .i64 (kX pr aJ df p x.1)),(32,BA),(33,.int .i64 aJ.length),(34,.int .i64 x.1)]) (m:=λx=>aJ.length-x.1) (nB:=(0,cm)) (bT 2 (bT 3 (bT 11 (bT 32 (fD 33 rfl (eq_int (by rw[G9])) (bT 34 (fL _))))))) ?_ ?_
 · exact⟨Nat.zero_le _,hF.mv,(z9 w₀ C).mv,ha.mv,hd.mv,hg,hx.mv⟩
 intro⟨i,aK⟩ w4 hI bu;obtain⟨hi,hF,hT,ha,hd,hg,hx⟩:=hI;try simp only at hi hF hT ha hd hg hx
 show Run _ _ _ _ [(2,.func (.func 209) #[] #[]),(3,.pointer (some ⟨bq,0,none⟩)),(11,.int .i64 (kX pr aJ df p i)),(32,BA),(33,.int .i64 aJ.length),(34,.int .i64 i)] _ _;have hle:=hW.qt;have OD:=hW.ld;have E8:=G9 p aJ.length;have Ew:=hW.sc p hi;refine aB 5 ?_ [1];refine a_ 35 rfl (λgj=>?_) (λgj=>?_)
 ·
  have hil:i<aJ.length:=by omega
  have hid:i<df.length:=by omega
  have hab:=hW.N2 hil p;refine aA 6 ?_ [27];refine aL hg ?_;intro _ Hw Hx gK;refine dW gK ?_;intro uZ jK;first|(obtain rfl:=dJ.1 jK)|(obtain rfl:=cO.1 jK)
  rw[Kx];refine bh 6 ?_ [427];refine bF 3 ([.int .i64 pr,bz,vd]) hx.at_ ?_;refine ah 1 ?_;refine bD Tryz.call239 (eB (f:=i) (pr:=pr) hF hil hid ha hd) ?_;rintro kf dc ⟨rfl,cI⟩;refine ah 1 ?_;refine nz ?_;refine Bb (fq 45 (.call {callee:=.value 40,args:=#[43,44],argTypes:=#[241,3]})) rfl rfl (rM (λargs w=>Tryz.call209 args w) rfl rfl) (uc hF.mv (N1 p i)) ?_;rintro lz ei ⟨rfl,de⟩;rw[show([0,df.getD i 0,aJ.getD i 0]:List Int).getD (qu p i) 0=sU aJ df p i from rfl];refine ck ?_;refine ax 8 ?_ [3];refine kp (bT 2 (bT 3 (fD 11 rfl (eq_int (by rw[kX])) (bT 32 (bT 33 (fD 34 rfl (eq_int b_) (fL _))))))) (bu (i+1,aK) _ ⟨aD,hF.mv,hT.mv,ha.mv,hd.mv,hg.mv,hx.mv⟩ aD)
 have hil:i=aJ.length:=by omega
 refine aB 7 ?_ [7];refine jo ai Tryz.func208 Tryz.results208 rfl rfl ?_;exact⟨by subst hil;rfl,hT.o1⟩
theorem o5 {w₀:World} {C:Nat->Nat} {pr:Int} {aJ df:List Int} {bz vd:Value} {p:Nat} (hF:aF w₀ C) (hW:mg pr aJ df) (ha:aq w₀ (aj C) aJ bz) (hd:aq w₀ (aj C) df vd) (hp:p<3^aJ.length):Calls Tryz.prog 169 #[.agg #[.int .i64 pr,bz,vd],.int .i64 p] w₀ (aZ λv w'=>v=.tuple #[.int .i64 (kX pr aJ df p aJ.length),.int .i64 0]/\av [] w₀ C w' C):=by
 have aO:=hF;replace hF:=hF.aI;replace ha:=ha.c1;replace hd:=hd.c1;refine bG Tryz.func169 ?_;refine aA 2 ?_ [6];refine aR (cu (cs:=[.int .i64 pr,bz,vd]) hF 3 rfl rfl) ?_;rintro _ w1 ⟨cm,bq,rfl,s_1,hx,hF⟩;refine bh 5 ?_ [122];refine bF 3 ([.int .i64 pr,bz,vd]) hx.at_ ?_;refine ah 1 ?_;refine bD Tryz.call208 (Cn hF hW ha.mv hd.mv hp) ?_;rintro fP w2 ⟨rfl,s_2⟩;refine ax 5 ?_;refine jo ai Tryz.func169 Tryz.results169 rfl rfl ?_;exact⟨rfl,(z9 w₀ C).o1⟩
end
end Go.Proofs.YtmdhggfehknjjaaGreat
