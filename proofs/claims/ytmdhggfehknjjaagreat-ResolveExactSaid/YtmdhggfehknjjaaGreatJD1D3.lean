/- Steps through functions of the program. -/
import Derived.Test.YtmdhggfehknjjaaGreatRows
import Derived.Test.YtmdhggfehknjjaaGreatL1
set_option maxRecDepth 100000
set_option maxHeartbeats 400000
namespace Go.Proofs.YtmdhggfehknjjaaGreat
open Go.K Go.K.aZ
noncomputable section
theorem b5:Tryz.prog.follows .mixedOrders=true:=Tryz.checked.mixed
namespace XX
def c0:=cw Tryz.f10
end XX
theorem XY (a:Option Addr) (l c:Nat) (w:World):Calls Tryz.prog 10 #[.slice a l c] w (bH λv w'=>v=.bool (decide ((l:Int)<=400))/\w'=w):=by
 refine cg Tryz.func10 ?_;refine aG 7 ?_ [1,15];refine bK (λ_=>yH rfl Tryz.underlying22) ?_;refine ay 3 ?_;refine bI Tryz.func10 ?_;exact⟨rfl,rfl⟩
namespace XZ
def c0:=cw Tryz.f11
end XZ
theorem X0 {w:World} {C:Nat->Nat} {l:List Int} {aK:Value} (hF:aL w C) (hl:av w (au C) l aK):Calls Tryz.prog 11 #[aK] w (bH λv w'=>∃aQ b,v=.pointer (some ⟨b,0,none⟩)/\ax [] w C w' aQ/\aL w' aQ/\ng 87 w' aQ 3 b ⟨l,0,11400714819323198485⟩):=by
 have hT:=ax.refl [] w C;refine cg Tryz.func11 ?_;refine aG 7 ?_ [1,11];refine bK (λ_=>gO (zs:=[.slice none 0 0,.int .i64 0,.int .u64 0]) (ps:=[(0,1),(1,1),(2,1)]) (eo:=[(0,[aK]),(2,[.int .u64 11400714819323198485])]) (cs:=[aK,.int .i64 0,.int .u64 11400714819323198485]) aq aq ⟨rfl,⟨_,rfl,(hl.one rfl).1⟩,rfl,⟨_,rfl,rfl⟩,trivial⟩ rfl) ?_;refine bD (eX (cs:=[aK,.int .i64 0,.int .u64 11400714819323198485]) hF 3 rfl rfl) ?_;rintro _ w1 ⟨eP,ct,rfl,s_1,hb,hF⟩;refine ay 2 ?_;refine bI Tryz.func11 ?_;replace hl:=hl.t s_1;replace hT:=hT.t s_1;exact⟨_,_,rfl,hT,hF,Nat.zero_le _,aK,hl,hb⟩
namespace X7
def c0:=cw Tryz.f57
def o2:=di (cl (cl (aC (aC c0))))
def qa:=(cl (aC (cl (aC (aC c0)))))
def Cx:=di (cl qa)
def tZ:=(cl (aC (aC (aC (aC c0)))))
def ru:=di tZ
end X7
theorem X8 {w:World} {C:Nat->Nat} {i b:Nat} {d:iE} (hF:aL w C) (hi:i≠0) (hd:ng 87 w C i b d) (hlen:d.list.length<=9223372036854775807):Calls Tryz.prog 57 #[.pointer (some ⟨b,0,none⟩)] w (bH λv w'=>v=.int .u64 d.word/\ax [i] w C w' C/\ng 87 w' C i b d.next):=by
 obtain⟨ku,aK,hl,hb⟩:=hd.eM hi;have hbc:C b=i:=by obtain⟨_,_,_,h⟩:=hd;exact h.col
 have bq:=hF;replace hF:=hF.eM i;have hT:=ax.refl [2,3,4,5,6,7,8,9] w (eM C i);refine cg Tryz.func57 ?_;refine aI 10 ?_ [1,1];refine cm [] (eM C i) [1,3,5,7,9,11,13,15,17,19] b5 ?_;intro w1 s_1;refine aj 3 ?_ [1];replace hb:=hb.t s_1;refine fW hb.sz ?_;refine aj 3 ?_ [0];refine fW hb.sz ?_;replace hl:=hl.t s_1;refine dE hl.ln ?_;refine ay 2 ?_;refine bF 14 rfl (λfJ=>?_) (λfJ=>?_)
 ·
  have hx:d.x=IntKind.u64.wrap d.list[d.at_]:=by unfold iE.x;rw[dif_pos ah]
  have hn:d.next=⟨d.list,d.at_+1,mix d.state d.x⟩:=by unfold iE.next;rw[if_pos ah]
  refine aI 1 ?_;refine cm [] (eM C i) [1,3,5,7,9,11,13,15,17,19,21,23] b5 ?_;intro w2 s_2;refine aj 3 ?_ [0];replace hb:=hb.t s_2;refine fW hb.sz ?_;refine aj 3 ?_ [1];refine fW hb.sz ?_;replace hl:=hl.t s_2;refine bn hl ?_;intro _ oW qz h23;refine fU h23 ?_;intro v24 g24;first|(obtain rfl:=kG.1 g24)|(obtain rfl:=jc.1 g24)
  refine bK (λ_=>Ce rfl ⟨_,Tryz.underlying3⟩ Tryz.underlying84) ?_;refine bQ 6 ?_ [119,1];refine bU hb.at_ ?_;refine aj 3 ?_ [1];refine cq (jI rfl rfl aq rfl rfl hb aF) ?_;rintro _ w3 ⟨rfl,aB,hb⟩;refine bQ 7 ?_ [2031,2];refine bU hb.at_ ?_;refine aj 6 ?_ [2];refine cq (jI rfl rfl aq rfl rfl hb aF) ?_;rintro _ w4 ⟨rfl,aM,hb⟩;refine ay 2 ?_;refine cm [] (eM C i) [1,3,5,7,9,11,13,15,17,19,21] b5 ?_;intro ez aV;refine aj 3 ?_ [2];replace hb:=hb.t aV;refine fW hb.sz ?_;refine aj 3 ?_ [2];refine fW hb.sz ?_;refine bK (λ_=>w_ rfl rfl ah) ?_;refine bQ 13 ?_ [7,31];refine bK (λ_=>w_ rfl rfl ah) ?_;refine ay 3 ?_;refine bI Tryz.func57 ?_;replace hT:=((((hT.t s_1).t s_2).t aB).t aM).t aV;refine⟨eq_int (by simp only[iE.word,iE.next,KD,KE,mix,hx]),hT.lV ai,ng.out (d:=d.next) ?_ hT bq hbc⟩;rw[hn];simp only[List.set_cons_succ,List.set_cons_zero] at hb;replace hl:=((hl.t aB).t aM).t aV;refine⟨by simp only;omega,aK,hl,?_⟩;simpa[mix,hx] using hb
 have hx:d.x=0:=by unfold iE.x;rw[dif_neg ah]
 have hn:d.next=⟨d.list,d.at_,mix d.state d.x⟩:=by unfold iE.next;rw[if_neg ah]
 refine aG 7 ?_ [2031,2];refine bU hb.at_ ?_;refine aj 6 ?_ [2];refine cq (jI rfl rfl aq rfl rfl hb aF) ?_;rintro _ fE ⟨rfl,aX,hb⟩;refine ay 2 ?_;refine cm [] (eM C i) [1,3,5,7,9,11,13,15,17,19,21] b5 ?_;intro w7 bp;refine aj 3 ?_ [2];replace hb:=hb.t bp;refine fW hb.sz ?_;refine aj 3 ?_ [2];refine fW hb.sz ?_;refine bK (λ_=>w_ rfl rfl ah) ?_;refine bQ 13 ?_ [7,31];refine bK (λ_=>w_ rfl rfl ah) ?_;refine ay 3 ?_;refine bI Tryz.func57 ?_;replace hT:=((hT.t s_1).t aX).t bp;refine⟨eq_int (by simp only[iE.word,iE.next,KD,KE,mix,hx]),hT.lV ai,ng.out (d:=d.next) ?_ hT bq hbc⟩;rw[hn];simp only[List.set_cons_succ,List.set_cons_zero] at hb;replace hl:=(hl.t aX).t bp;refine⟨by simp only;omega,aK,hl,?_⟩;simpa[mix,hx] using hb
namespace X9
def c0:=cw Tryz.f26
end X9
theorem X_ {w:World} {C:Nat->Nat} {i b:Nat} {d:iE} {n:Int} (hF:aL w C) (hi:i≠0) (hd:ng 87 w C i b d) (hlen:d.list.length<=9223372036854775807) (Hq:n<=9223372036854775807):Calls Tryz.prog 26 #[.pointer (some ⟨b,0,none⟩),.int .i64 n] w (bH λv w'=>v=.int .i64 (d.num n)/\ax [i] w C w' C/\ng 87 w' C i b (d.after n)):=by
 have bq:=hF;have hT:=ax.refl [i] w C;refine cg Tryz.func26 ?_;refine aI 10 ?_ [1,3];refine bF 6 rfl (λh6=>?_) (λh6=>?_)
 ·
  have hn:d.num n=0:=by unfold iE.num;rw[if_pos ah]
  have ha:d.after n=d:=by unfold iE.after;rw[if_pos ah]
  refine aI 4 ?_ [1];refine bI Tryz.func26 ?_;rw[ha,hn];exact⟨rfl,hT,hd⟩
 have hn:d.num n=(d.word/2)%n:=by unfold iE.num;rw[if_neg ah]
 have ha:d.after n=d.next:=by unfold iE.after;rw[if_neg ah]
 refine aG 4 ?_ [125];refine bZ Tryz.call57 (X8 bq hi hd hlen) ?_;rintro lX w1 ⟨rfl,s_1,hd⟩;have hwr:=d.Xt;refine bK (λ_=>W9 (r:=d.word/2) rfl rfl ah (by show d.word.fdiv 2=_;exact Int.fdiv_eq_ediv_of_nonneg _ ai)) ?_;refine bK (λ_=>D8 (r:=d.word/2) rfl ⟨_,Tryz.underlying84⟩ Tryz.underlying3 (wrap_i64 ah ah)) ?_;refine ay 4 ?_;refine bI Tryz.func26 ?_;rw[ha,hn];replace hT:=hT.t s_1;exact⟨rfl,hT,hd⟩
end
end Go.Proofs.YtmdhggfehknjjaaGreat
set_option maxHeartbeats 4000000
namespace Go.Proofs.YtmdhggfehknjjaaGreat
open Go.K Go.K.aZ
noncomputable section
def fK (w:World) (C:Nat->Nat) (i b:Nat):Prop:=∃d:iE,ng 87 w C i b d/\d.list.length<=9223372036854775807
section
variable {w w':World} {C aQ:Nat->Nat} {i b:Nat} {I:List Nat}
theorem fK.st (h:fK w C i b) (hs:ax I w C w' aQ) (h0:0∉I) (hi:i∉I):fK w' aQ i b:=let⟨d,h1,h2⟩:=h;⟨d,h1.st hs h0 hi,h2⟩
theorem fK.u (h:fK w C i b) (hs:ax I w C w' aQ) (h0:0∉I:=by first|decide|(simp<;>omega)) (hi:i∉I:=by first|decide|(simp<;>omega)):fK w' aQ i b:=h.st hs h0 hi
theorem fK.eM (h:fK w C i b) (hi:i≠0):fK w (eM C i) 2 b:=let⟨d,h1,h2⟩:=h;⟨d,h1.eM hi,h2⟩
theorem fK.bu (h:fK w C i b) {n:Nat} (hi:i<n):fK w (K.bu n C) i b:=let⟨d,h1,h2⟩:=h;⟨d,h1.bu hi,h2⟩
theorem fK.out {w₀:World} {kW:Nat->Nat} (h:fK w' aQ 2 b) (hs:ax I w₀ (K.eM kW i) w' aQ) (hF:aL w₀ kW) (hb:kW b=i):fK w' kW i b:=let⟨d,h1,h2⟩:=h;⟨d,h1.out hs hF hb,h2⟩
theorem fK.AE (h:fK w C i b):C b=i:=by obtain⟨d,⟨_,_,_,h⟩,_⟩:=h;exact h.col
end
theorem Ya {w:World} {C:Nat->Nat} {l:List Int} {aK:Value} (hF:aL w C) (hl:av w (au C) l aK):Calls Tryz.prog 11 #[aK] w (bH λv w'=>∃aQ b,v=.pointer (some ⟨b,0,none⟩)/\ax [] w C w' aQ/\aL w' aQ/\fK w' aQ 3 b):=
 (X0 hF hl).mono (bH.mono λv w' ⟨aQ,b,h1,h2,h3,h4⟩=>⟨aQ,b,h1,h2,h3,_,h4,hl.le⟩)
theorem sY {w:World} {C:Nat->Nat} {i b:Nat} {n:Int} (hF:aL w C) (hi:i≠0) (hd:fK w C i b) (h1:1<=n) (Hq:n<=9223372036854775807):Calls Tryz.prog 26 #[.pointer (some ⟨b,0,none⟩),.int .i64 n] w (bH λv w'=>∃k:Nat,v=.int .i64 (k:Int)/\(k:Int)<n/\ax [i] w C w' C/\fK w' C i b):=by
 obtain⟨d,hd,hl⟩:=hd;refine(X_ hF hi hd hl Hq).mono (bH.mono λv w' ⟨e,h2,h3⟩=>?_);have hr:=d.Xu h1;exact⟨(d.num n).toNat,by rw[e,Int.toNat_of_nonneg hr.1],by rw[Int.toNat_of_nonneg hr.1];exact hr.2,h2,_,h3,by rw[iE.Xv];exact hl⟩
theorem Hr {w:World} {M:Nat->Prop} {l:List Int} {aK:Value} (hl:av w M l aK):Calls Tryz.prog 10 #[aK] w (bH λv w'=>v=.bool (decide ((l.length:Int)<=400))/\w'=w):=by
 obtain⟨a,c,rfl⟩:=hl.len;exact XY a l.length c w
namespace Yb
def c0:=cw Tryz.f15
end Yb
theorem vG {w:World} {C:Nat->Nat} {i b:Nat} {n:Int} (hF:aL w C) (hi:i≠0) (hd:fK w C i b) (h1:1<=n) (Hq:n<=9223372036854775807):Calls Tryz.prog 15 #[.pointer (some ⟨b,0,none⟩),.int .i64 n] w (bH λv w'=>∃t:Bool,v=.bool t/\ax [i] w C w' C/\fK w' C i b):=by
 have bq:=hF;have hbc:=hd.AE;replace hd:=hd.eM hi;have hT:=ax.refl [2,3,4,5,6,7,8,9] w (eM C i);replace hF:=hF.eM i;refine cg Tryz.func15 ?_;refine aG 8 ?_ [1,27];refine dc Tryz.call26 rfl (sY hF ai hd h1 Hq) ?_;rintro lX w1 ⟨k,rfl,hk,s_1,hd⟩;refine ay 3 ?_;refine bI Tryz.func15 ?_;replace hT:=hT.t s_1;exact⟨_,rfl,hT.lV ai,hd.out hT bq hbc⟩
end
end Go.Proofs.YtmdhggfehknjjaaGreat
