/- Steps through functions of the program. -/
import Derived.Test.YtionghonhnedgaaGreatRows
import Derived.Test.YtionghonhnedgaaGreatL1
set_option linter.unusedVariables false
set_option linter.unusedSimpArgs false
set_option maxRecDepth 100000
set_option maxHeartbeats 400000
namespace Go.Proofs.YtionghonhnedgaaGreat
open Go.K Go.K.bF
noncomputable section
theorem eD:Tryz.prog.follows .mixedOrders=true:=Tryz.checked.mixed
namespace I8
def c0:=dL Tryz.f9
end I8
theorem PF (a:Option Addr) (l c:Nat) (w:World):Calls Tryz.prog 9 #[.slice a l c] w (bW λv w'=>v=.bool (decide ((l:Int)<=400))/\w'=w):=by
 refine cM I8.c0 6 [.slice a l c] Tryz.func9 ?_;show Run _ _ _ _ [(0,.slice a l c)] _ _;refine aj (aq [af 0] ?_);refine aO 2 (.bool false) (ai.nil (aj (aq [af 0,af 1,af 2,af 3] ?_)));refine ah 3 0 ?_;refine au (kq 4 (.call {callee:=.builtin .len,args:=#[(.tmp 3)],argTypes:=#[22]})) (λ_=>uX rfl Tryz.underlying22) ?_;refine au (kq 5 (.binOp .leq 3 (.tmp 4) (.const (.int .i64 400)) 3)) (λ_=>qE rfl rfl) ?_;refine aJ 2 5 (ai.nil ?_);refine cq Tryz.func9 Tryz.results9 ?_;exact⟨rfl,rfl⟩
namespace I9
def c0:=dL Tryz.f10
end I9
theorem PG {w:World} {C:Nat->Nat} {l:List Int} {dH:Value} (hF:bA w C) (hl:aF w (aA C) l dH):Calls Tryz.prog 10 #[dH] w (bW λv w'=>∃bL b,v=.pointer (some ⟨b,0,none⟩)/\aH [] w C w' bL/\bA w' bL/\nt 79 w' bL 3 b ⟨l,0,11400714819323198485⟩):=by
 have hT:=aH.refl [] w C;refine cM I9.c0 6 [dH] Tryz.func10 ?_;show Run _ _ _ _ [(0,dH)] _ _;refine aj (aq [af 0] ?_);refine aO 2 (.pointer none) (ai.nil (aj (aq [af 0,af 1,nn 2,af 3] ?_)));refine ah 3 0 ?_;refine au (kq 4 (.build 79 #[(0,(.tmp 3)),(2,(.const (.int .u64 11400714819323198485)))])) (λ_=>fO (zs:=[.slice none 0 0,.int .i64 0,.int .u64 0]) (ps:=[(0,1),(1,1),(2,1)]) (ez:=[(0,[dH]),(2,[.int .u64 11400714819323198485])]) (cs:=[dH,.int .i64 0,.int .u64 11400714819323198485]) (by kernel_rfl) (by kernel_rfl) ⟨rfl,⟨_,rfl,(hl.one rfl).1⟩,rfl,⟨_,rfl,rfl⟩,trivial⟩ rfl) ?_;refine bD (kq 5 (.box 79 (.tmp 4))) rfl rfl (cW (cs:=[dH,.int .i64 0,.int .u64 11400714819323198485]) hF 3 rfl rfl) ?_;rintro _ w1 ⟨d_,ct,rfl,s_1,hb,hF⟩;refine aJ 2 5 (ai.nil ?_);refine cq Tryz.func10 Tryz.results10 ?_;replace hl:=hl.t s_1;replace hT:=hT.t s_1;exact⟨_,_,rfl,hT,hF,Nat.zero_le _,dH,hl,hb⟩
namespace y7
def c0:=dL Tryz.f34
def o2:=fG (cl (cl (aZ (aZ c0))))
def pU:=(cl (aZ (cl (aZ (aZ c0)))))
def AY:=fG (cl pU)
def AZ:=(cl (aZ (aZ (aZ (aZ c0)))))
def qp:=fG AZ
end y7
theorem PI {w:World} {C:Nat->Nat} {i b:Nat} {d:iB} (hF:bA w C) (hi:i≠0) (hd:nt 79 w C i b d) (hlen:d.list.length<=9223372036854775807):Calls Tryz.prog 34 #[.pointer (some ⟨b,0,none⟩)] w (bW λv w'=>v=.int .u64 d.word/\aH [i] w C w' C/\nt 79 w' C i b d.next):=by
 obtain⟨I_,dH,hl,hb⟩:=hd.eN hi;have hbc:C b=i:=by obtain⟨_,_,_,h⟩:=hd;exact h.col
 have bR:=hF;replace hF:=hF.eN i;have hT:=aH.refl [2,3,4,5,6,7,8,9] w (eN C i);refine cM y7.c0 60 [.pointer (some ⟨b,0,none⟩)] Tryz.func34 ?_;show Run _ _ _ _ [(0,.pointer (some ⟨b,0,none⟩))] _ _;refine aj (aq [af 0] ?_);refine aO 2 (.int .u64 0) (ai.nil (aj (aq [af 0] ?_)));refine aO 3 (.int .u64 0) (ai.nil (aj (aj ?_)));refine eU (id:=2) (ops:=y7.o2) [] (eN C i) [af 0,af 1,af 2,af 3,af 4,af 5,af 6,af 7,af 8,af 9] eD (by kernel_rfl) (by kernel_rfl) (by kernel_rfl) ?_;intro w1 s_1;refine ah 5 0 (qn 6 5 (aL 7 79 6 1 1 ?_));replace hb:=hb.t s_1;refine eY 8 3 7 (hb.cR ·) ?_;refine ah 9 0 (qn 10 9 (aL 11 79 10 0 0 ?_));refine eY 12 22 11 (hb.cR ·) ?_;replace hl:=hl.t s_1;refine zE 13 12 22 (hl.cz rfl Tryz.underlying22) ?_;refine fM 14 3 8 13 (ai.nil ?_);refine cV 14 rfl (λiu=>?_) (λiu=>?_)
 ·
  have hx:d.x=IntKind.u64.wrap d.list[d.at_]:=by unfold iB.x;rw[dif_pos (by omega)]
  have hn:d.next=⟨d.list,d.at_+1,mix d.state d.x⟩:=by unfold iB.next;rw[if_pos (by omega)]
  refine aj ?_;refine eU (id:=3) (ops:=y7.AY) [] (eN C i) [af 0,af 1,af 2,af 3,af 4,af 5,af 6,af 7,af 8,af 9,af 10,af 11] eD (by kernel_rfl) (by kernel_rfl) (by kernel_rfl) ?_;intro w2 s_2;refine ah 15 0 (qn 16 15 (aL 17 79 16 0 0 ?_));replace hb:=hb.t s_2;refine eY 18 22 17 (hb.cR ·) ?_;refine ah 19 0 (qn 20 19 (aL 21 79 20 1 1 ?_));refine eY 22 3 21 (hb.cR ·) ?_;replace hl:=hl.t s_2;refine eX 3 23 22 18 22 hl rfl (h:=?_);intro E5 E6 h23;try simp only[b_] at h23
  refine mM (kq 24 (.load 3 (.tmp 23))) rfl rfl (λw' hS=>h23.cR hS) h23 (by kernel_rfl) rfl rfl ?_;intro v24 g24;first|(obtain rfl:=fu.1 g24)|(obtain rfl:=eo.1 g24)
  refine au (kq 25 (.convert 3 77 (.tmp 24))) (λ_=>Cf rfl ⟨_,Tryz.underlying3⟩ Tryz.underlying77) ?_;refine aJ 3 25 (ai.nil (aq [af 0,af 1,af 2,nn 3,af 4,af 5,af 6,nn 7] ?_));refine ah 26 0 (qn 27 26 (aL 28 79 27 1 1 ?_));refine cm 29 3 28 hb.at_ rfl rfl ?_;refine eG 30 3 29 1 (qn 31 26 (aL 32 79 31 1 1 ?_));refine dD (k0 (.store 3 (.tmp 32) (.tmp 30))) rfl (jW rfl rfl (by kernel_rfl) rfl rfl hb (by simp)) ?_;rintro _ w3 ⟨rfl,ay,hb⟩;refine ai.nil (aj (aq [af 0,af 1,af 2,af 3,nn 4,af 5,af 6,af 7,af 8,af 9,af 10,nn 11] ?_));refine ah 33 0 (ah 34 0 (qn 35 34 (aL 36 79 35 2 2 ?_)));refine cm 37 77 36 hb.at_ rfl rfl ?_;refine ah 38 3 ?_;refine au (kq 39 (.binOp .add 77 (.tmp 37) (.tmp 38) 77)) (λ_=>val_add rfl rfl) ?_;refine au (kq 40 (.binOp .mul 77 (.tmp 39) (.const (.int .u64 6364136223846793005)) 77)) (λ_=>val_mul rfl rfl) ?_;refine au (kq 41 (.binOp .add 77 (.tmp 40) (.const (.int .u64 1442695040888963407)) 77)) (λ_=>val_add rfl rfl) ?_;refine qn 42 33 (aL 43 79 42 2 2 ?_);refine dD (k0 (.store 77 (.tmp 43) (.tmp 41))) rfl (jW rfl rfl (by kernel_rfl) rfl rfl hb (by simp)) ?_;rintro _ w4 ⟨rfl,aC,hb⟩;refine ai.nil (aj ?_);refine eU (id:=6) (ops:=y7.qp) [] (eN C i) [af 0,af 1,af 2,af 3,af 4,af 5,af 6,af 7,af 8,af 9,af 10] eD (by kernel_rfl) (by kernel_rfl) (by kernel_rfl) ?_;intro fQ aB;refine ah 44 0 (qn 45 44 (aL 46 79 45 2 2 ?_));replace hb:=hb.t aB;refine eY 47 77 46 (hb.cR ·) ?_;refine ah 48 0 (qn 49 48 (aL 50 79 49 2 2 ?_));refine eY 51 77 50 (hb.cR ·) ?_;refine au (kq 52 (.binOp .shr 77 (.tmp 51) (.const (.int .u64 33)) 73)) (λ_=>yj rfl rfl (by omega)) ?_;refine au (kq 53 (.binOp .xor 77 (.tmp 47) (.tmp 52) 77)) (λ_=>Ce rfl rfl) ?_;refine aJ 4 53 (ai.nil (aj (aq [af 0,af 1,af 2] ?_)));refine ah 54 4 ?_;refine au (kq 55 (.binOp .mul 77 (.tmp 54) (.const (.int .u64 18397679294719823053)) 77)) (λ_=>val_mul rfl rfl) ?_
  refine aJ 4 55 (ai.nil (aj (aq [af 0,af 1,af 2,af 3,af 4] ?_)));refine ah 56 4 (ah 57 4 ?_);refine au (kq 58 (.binOp .shr 77 (.tmp 57) (.const (.int .u64 29)) 73)) (λ_=>yj rfl rfl (by omega)) ?_;refine au (kq 59 (.binOp .xor 77 (.tmp 56) (.tmp 58) 77)) (λ_=>Ce rfl rfl) ?_;refine aJ 2 59 (ai.nil ?_);refine cq Tryz.func34 Tryz.results34 ?_;replace hT:=((((hT.t s_1).t s_2).t ay).t aC).t aB;refine⟨eq_int (by simp only[iB.word,iB.next,EJ,EK,mix,hx]),hT.jY (by decide),nt.out (d:=d.next) ?_ hT bR hbc⟩;rw[hn];simp only[List.set_cons_succ,List.set_cons_zero] at hb;replace hl:=((hl.t ay).t aC).t aB;refine⟨by simp only;omega,dH,hl,?_⟩;simpa[mix,hx] using hb
 have hx:d.x=0:=by unfold iB.x;rw[dif_neg (by omega)]
 have hn:d.next=⟨d.list,d.at_,mix d.state d.x⟩:=by unfold iB.next;rw[if_neg (by omega)]
 refine bK (aj (aq [af 0,af 1,af 2,af 3,nn 4,af 5,af 6,af 7,af 8,af 9,af 10,nn 11] ?_));refine ah 33 0 (ah 34 0 (qn 35 34 (aL 36 79 35 2 2 ?_)));refine cm 37 77 36 hb.at_ rfl rfl ?_;refine ah 38 3 ?_;refine au (kq 39 (.binOp .add 77 (.tmp 37) (.tmp 38) 77)) (λ_=>val_add rfl rfl) ?_;refine au (kq 40 (.binOp .mul 77 (.tmp 39) (.const (.int .u64 6364136223846793005)) 77)) (λ_=>val_mul rfl rfl) ?_;refine au (kq 41 (.binOp .add 77 (.tmp 40) (.const (.int .u64 1442695040888963407)) 77)) (λ_=>val_add rfl rfl) ?_;refine qn 42 33 (aL 43 79 42 2 2 ?_);refine dD (k0 (.store 77 (.tmp 43) (.tmp 41))) rfl (jW rfl rfl (by kernel_rfl) rfl rfl hb (by simp)) ?_;rintro _ gx ⟨rfl,aD,hb⟩;refine ai.nil (aj ?_);refine eU (id:=6) (ops:=y7.qp) [] (eN C i) [af 0,af 1,af 2,af 3,af 4,af 5,af 6,af 7,af 8,af 9,af 10] eD (by kernel_rfl) (by kernel_rfl) (by kernel_rfl) ?_;intro w7 bp;refine ah 44 0 (qn 45 44 (aL 46 79 45 2 2 ?_));replace hb:=hb.t bp;refine eY 47 77 46 (hb.cR ·) ?_;refine ah 48 0 (qn 49 48 (aL 50 79 49 2 2 ?_));refine eY 51 77 50 (hb.cR ·) ?_;refine au (kq 52 (.binOp .shr 77 (.tmp 51) (.const (.int .u64 33)) 73)) (λ_=>yj rfl rfl (by omega)) ?_;refine au (kq 53 (.binOp .xor 77 (.tmp 47) (.tmp 52) 77)) (λ_=>Ce rfl rfl) ?_;refine aJ 4 53 (ai.nil (aj (aq [af 0,af 1,af 2] ?_)));refine ah 54 4 ?_;refine au (kq 55 (.binOp .mul 77 (.tmp 54) (.const (.int .u64 18397679294719823053)) 77)) (λ_=>val_mul rfl rfl) ?_;refine aJ 4 55 (ai.nil (aj (aq [af 0,af 1,af 2,af 3,af 4] ?_)));refine ah 56 4 (ah 57 4 ?_);refine au (kq 58 (.binOp .shr 77 (.tmp 57) (.const (.int .u64 29)) 73)) (λ_=>yj rfl rfl (by omega)) ?_;refine au (kq 59 (.binOp .xor 77 (.tmp 56) (.tmp 58) 77)) (λ_=>Ce rfl rfl) ?_;refine aJ 2 59 (ai.nil ?_);refine cq Tryz.func34 Tryz.results34 ?_;replace hT:=((hT.t s_1).t aD).t bp;refine⟨eq_int (by simp only[iB.word,iB.next,EJ,EK,mix,hx]),hT.jY (by decide),nt.out (d:=d.next) ?_ hT bR hbc⟩
 rw[hn];simp only[List.set_cons_succ,List.set_cons_zero] at hb;replace hl:=(hl.t aD).t bp;refine⟨by simp only;omega,dH,hl,?_⟩;simpa[mix,hx] using hb
namespace Ja
def c0:=dL Tryz.f11
end Ja
theorem PJ {w:World} {C:Nat->Nat} {i b:Nat} {d:iB} {n:Int} (hF:bA w C) (hi:i≠0) (hd:nt 79 w C i b d) (hlen:d.list.length<=9223372036854775807) (CQ:n<=9223372036854775807):Calls Tryz.prog 11 #[.pointer (some ⟨b,0,none⟩),.int .i64 n] w (bW λv w'=>v=.int .i64 (d.num n)/\aH [i] w C w' C/\nt 79 w' C i b (d.after n)):=by
 have bR:=hF;have hT:=aH.refl [i] w C;refine cM Ja.c0 13 [.pointer (some ⟨b,0,none⟩),.int .i64 n] Tryz.func11 ?_;show Run _ _ _ _ [(0,.pointer (some ⟨b,0,none⟩)),(1,.int .i64 n)] _ _;refine aj (aq [af 0] ?_);refine aO 4 (.int .i64 0) (ai.nil (aj (aj (aq [af 0,af 1] ?_))));refine ah 5 1 ?_;refine au (kq 6 (.binOp .lss 3 (.tmp 5) (.const (.int .i64 1)) 3)) (λ_=>dV rfl rfl) ?_;refine ai.nil ?_;refine cV 6 rfl (λh6=>?_) (λh6=>?_)
 ·
  have hn:d.num n=0:=by unfold iB.num;rw[if_pos (by omega)]
  have ha:d.after n=d:=by unfold iB.after;rw[if_pos (by omega)]
  refine aj (aq [af 0] ?_);refine aO 4 (.int .i64 0) (ai.nil ?_);refine cq Tryz.func11 Tryz.results11 ?_;rw[ha,hn];exact⟨rfl,hT,hd⟩
 have hn:d.num n=(d.word/2)%n:=by unfold iB.num;rw[if_neg (by omega)]
 have ha:d.after n=d.next:=by unfold iB.after;rw[if_neg (by omega)]
 refine bK (aj (aq [af 0,nn 1,af 2,af 3,af 4,af 5,af 6] ?_));refine ah 7 0 ?_;refine cE 8 34 [7] [40] Tryz.call34 rfl (PI bR hi hd hlen) ?_;rintro nc w1 ⟨rfl,s_1,hd⟩;have hwr:=d.OS;refine au (kq 9 (.binOp .shr 77 (.tmp 8) (.const (.int .u64 1)) 73)) (λ_=>On (r:=d.word/2) rfl rfl (by omega) (by show d.word.fdiv 2=_;exact Int.fdiv_eq_ediv_of_nonneg _ (by decide))) ?_;refine au (kq 10 (.convert 77 3 (.tmp 9))) (λ_=>Ch (r:=d.word/2) rfl ⟨_,Tryz.underlying77⟩ Tryz.underlying3 (wrap_i64 (by omega) (by omega))) ?_;refine ah 11 1 ?_;refine au (kq 12 (.binOp .rem 3 (.tmp 10) (.tmp 11) 3)) (λ_=>Ez rfl rfl (by omega) (by omega)) ?_;refine aJ 4 12 (ai.nil ?_);refine cq Tryz.func11 Tryz.results11 ?_;rw[ha,hn];replace hT:=hT.t s_1;exact⟨rfl,hT,hd⟩
end
end Go.Proofs.YtionghonhnedgaaGreat
set_option linter.unusedVariables false
set_option linter.unusedSimpArgs false
set_option maxRecDepth 100000
set_option maxHeartbeats 4000000
namespace Go.Proofs.YtionghonhnedgaaGreat
open Go.K Go.K.bF
noncomputable section
def eS (w:World) (C:Nat->Nat) (i b:Nat):Prop:=∃d:iB,nt 79 w C i b d/\d.list.length<=9223372036854775807
section
variable {w w':World} {C bL:Nat->Nat} {i b:Nat} {I:List Nat}
theorem eS.st (h:eS w C i b) (hs:aH I w C w' bL) (h0:0∉I) (hi:i∉I):eS w' bL i b:=let⟨d,h1,h2⟩:=h;⟨d,h1.st hs h0 hi,h2⟩
theorem eS.u (h:eS w C i b) (hs:aH I w C w' bL) (h0:0∉I:=by first|decide|(simp<;>omega)) (hi:i∉I:=by first|decide|(simp<;>omega)):eS w' bL i b:=h.st hs h0 hi
theorem eS.eN (h:eS w C i b) (hi:i≠0):eS w (eN C i) 2 b:=let⟨d,h1,h2⟩:=h;⟨d,h1.eN hi,h2⟩
theorem eS.cD (h:eS w C i b) {n:Nat} (hi:i<n):eS w (K.cD n C) i b:=let⟨d,h1,h2⟩:=h;⟨d,h1.cD hi,h2⟩
theorem eS.out {w₀:World} {pQ:Nat->Nat} (h:eS w' bL 2 b) (hs:aH I w₀ (K.eN pQ i) w' bL) (hF:bA w₀ pQ) (hb:pQ b=i):eS w' pQ i b:=let⟨d,h1,h2⟩:=h;⟨d,h1.out hs hF hb,h2⟩
theorem eS.rN (h:eS w C i b):C b=i:=by obtain⟨d,⟨_,_,_,h⟩,_⟩:=h;exact h.col
end
theorem PK {w:World} {C:Nat->Nat} {l:List Int} {dH:Value} (hF:bA w C) (hl:aF w (aA C) l dH):Calls Tryz.prog 10 #[dH] w (bW λv w'=>∃bL b,v=.pointer (some ⟨b,0,none⟩)/\aH [] w C w' bL/\bA w' bL/\eS w' bL 3 b):=
 (PG hF hl).mono (bW.mono λv w' ⟨bL,b,h1,h2,h3,h4⟩=>⟨bL,b,h1,h2,h3,_,h4,hl.le⟩)
theorem iV {w:World} {C:Nat->Nat} {i b:Nat} {n:Int} (hF:bA w C) (hi:i≠0) (hd:eS w C i b) (h1:1<=n) (CQ:n<=9223372036854775807):Calls Tryz.prog 11 #[.pointer (some ⟨b,0,none⟩),.int .i64 n] w (bW λv w'=>∃k:Nat,v=.int .i64 (k:Int)/\(k:Int)<n/\aH [i] w C w' C/\eS w' C i b):=by
 obtain⟨d,hd,hl⟩:=hd;refine(PJ hF hi hd hl CQ).mono (bW.mono λv w' ⟨e,h2,h3⟩=>?_);have hr:=d.OT h1;exact⟨(d.num n).toNat,by rw[e,Int.toNat_of_nonneg hr.1],by rw[Int.toNat_of_nonneg hr.1];exact hr.2,h2,_,h3,by rw[iB.OU];exact hl⟩
theorem A0 {w:World} {M:Nat->Prop} {l:List Int} {dH:Value} (hl:aF w M l dH):Calls Tryz.prog 9 #[dH] w (bW λv w'=>v=.bool (decide ((l.length:Int)<=400))/\w'=w):=by
 obtain⟨a,c,rfl⟩:=hl.len;exact PF a l.length c w
namespace Jb
def c0:=dL Tryz.f14
end Jb
theorem sM {w:World} {C:Nat->Nat} {i b:Nat} {n:Int} (hF:bA w C) (hi:i≠0) (hd:eS w C i b) (h1:1<=n) (CQ:n<=9223372036854775807):Calls Tryz.prog 14 #[.pointer (some ⟨b,0,none⟩),.int .i64 n] w (bW λv w'=>∃t:Bool,v=.bool t/\aH [i] w C w' C/\eS w' C i b):=by
 have bR:=hF;have hbc:=hd.rN;replace hd:=hd.eN hi;have hT:=aH.refl [2,3,4,5,6,7,8,9] w (eN C i);replace hF:=hF.eN i;refine cM Jb.c0 9 [.pointer (some ⟨b,0,none⟩),.int .i64 n] Tryz.func14 ?_;show Run _ _ _ _ [(0,.pointer (some ⟨b,0,none⟩)),(1,.int .i64 n)] _ _;refine aj (aq [af 0] ?_);refine aO 4 (.bool false) (ai.nil (aj (aq [af 0,af 1,nn 2,af 3,af 4] ?_)));refine ah 5 0 (ah 6 1 ?_);refine cE 7 11 [5,6] [40,3] Tryz.call11 rfl (iV hF (by decide) hd h1 CQ) ?_;rintro nc w1 ⟨k,rfl,hk,s_1,hd⟩;refine au (kq 8 (.binOp .eql 3 (.tmp 7) (.const (.int .i64 0)) 3)) (λ_=>gB rfl rfl) ?_;refine aJ 4 8 (ai.nil ?_);refine cq Tryz.func14 Tryz.results14 ?_;replace hT:=hT.t s_1;exact⟨_,rfl,hT.jY (by decide),hd.out hT bR hbc⟩
end
end Go.Proofs.YtionghonhnedgaaGreat
set_option linter.unusedVariables false
set_option linter.unusedSimpArgs false
set_option maxRecDepth 100000
set_option maxHeartbeats 4000000
namespace Go.Proofs.YtionghonhnedgaaGreat
open Go.K Go.K.bF
noncomputable section
namespace Jc
def c0:=dL Tryz.f77
end Jc
theorem CS {w₀:World} {M:Nat->Prop} {l:List Int} {dH:Value} (hl:aF w₀ M l dH):Calls Tryz.prog 77 #[dH] w₀ (bW λv w'=>v=.int .i64 (nu l)/\w'=w₀):=by
 refine cM Jc.c0 18 [dH] Tryz.func77 ?_;show Run _ _ _ _ [(0,dH)] _ _;refine aj (aq [af 0] ?_);refine aO 2 (.int .i64 0) (ai.nil (aj (aq [af 0] ?_)));refine aO 3 (.int .i64 0) (ai.nil (aj (aj (aq [af 0,af 1,af 2] ?_))));refine ah 6 0 ?_;refine zE 7 6 22 (hl.cz rfl Tryz.underlying22) ?_;refine mN 8 (.int .i64 0) ?_;refine ai.nil (dm 0 ?_);refine fD (ι:=Nat) (I:=λx w=>x<=l.length/\w=w₀/\nu (l.drop x)=nu l) (e:=λx=>[(3,.int .i64 0),(6,dH),(7,.int .i64 l.length),(8,.int .i64 x)]) (m:=λx=>l.length-x) (eZ:=0) (ak 3 (ak 6 (ak 7 (ak 8 (b6 _))))) ?_ ?_
 · exact⟨Nat.zero_le _,rfl,rfl⟩
 intro i w1 hI next
 obtain⟨hi,rfl,ho⟩:=hI;have yU:=hl.le;refine aj (aq [af 0] ?_);refine fM 9 3 8 7 (ai.nil (aj ?_));refine cV 9 rfl (λiI=>?_) (λiI=>?_)
 ·
  have hil:i<l.length:=by omega
  rw[O2 hil] at ho;refine bK (aj (dm 1 (aj (aq [af 0,nn 1,af 2] ?_))));refine eX 3 10 22 6 8 hl rfl (h:=?_);intro PN uj ou;try simp only[b_] at ou
  refine gK (kq 11 (.load 3 (.tmp 10))) rfl rfl trivial ou (by kernel_rfl) rfl rfl ?_;intro v11 g11;first|(obtain rfl:=fu.1 g11)|(obtain rfl:=eo.1 g11)
  refine aJ 5 11 (ai.nil (aj (aq [af 0,af 1,af 2] ?_)));refine ah 12 5 (ah 13 3 ?_);refine au (kq 14 (.binOp .neq 3 (.tmp 12) (.tmp 13) 3)) (λ_=>fc rfl rfl) ?_;refine ai.nil ?_;refine cV 14 rfl (λiu=>?_) (λiu=>?_)
  ·
   rw[if_neg iu] at ho;refine aj (aq [af 0,af 1] ?_);refine ah 15 5 (aJ 2 15 (ai.nil ?_));refine cq Tryz.func77 Tryz.results77 ?_;exact⟨by rw[ho],rfl⟩
  have iu:l[i]=0:=by simpa using iu
  rw[if_pos iu] at ho;refine bK (dZ (aq [af 0,af 1] ?_));refine eG 16 3 8 1 (ah 8 16 (ai.nil ?_));refine kp ?_ (next (i+1) _ ⟨by omega,rfl,ho⟩ (by omega));exact ak 3 (ak 6 (ak 7 (cA 8 rfl (eq_int (by simp)) (b6 _))))
 have hil:i=l.length:=by omega
 refine fq 0 ?_;refine aj (aq [af 0,af 1] ?_);refine ah 17 3 (aJ 2 17 (ai.nil ?_));refine cq Tryz.func77 Tryz.results77 ?_;subst hil;rw[List.drop_length] at ho;exact⟨by rw[<-ho];rfl,rfl⟩
namespace Jd
def c0:=dL Tryz.f107
end Jd
theorem E7 (x:Int) (w:World):Calls Tryz.prog 107 #[.int .i64 x] w (bW λv w'=>v=.bool false/\w'=w):=by
 refine cM Jd.c0 6 [.int .i64 x] Tryz.func107 ?_;show Run _ _ _ _ [(0,.int .i64 x)] _ _;refine aj (aq [af 0] ?_);refine aO 2 (.bool false) (ai.nil (aj (aq [af 0,af 1,af 2,af 3] ?_)));refine ah 3 0 (ah 4 0 ?_);refine au (kq 5 (.binOp .neq 3 (.tmp 3) (.tmp 4) 3)) (λ_=>fc rfl rfl) ?_;refine aJ 2 5 (ai.nil ?_);refine cq Tryz.func107 Tryz.results107 ?_;exact⟨by simp,rfl⟩
namespace Je
def c0:=dL Tryz.f79
end Je
theorem wV (x y:Int) (w:World):Calls Tryz.prog 79 #[.int .i64 x,.int .i64 y] w (bW λv w'=>v=.int .i64 (gn x y)/\w'=w):=by
 refine cM Je.c0 20 [.int .i64 x,.int .i64 y] Tryz.func79 ?_;show Run _ _ _ _ [(0,.int .i64 x),(1,.int .i64 y)] _ _;refine aj (aq [af 0] ?_);refine aO 4 (.int .i64 0) (ai.nil (aj (aq [af 0,nn 1,af 2] ?_)));refine ah 7 0 ?_;refine cE 8 107 [7] [3] Tryz.call107 rfl (E7 _ _) ?_;rintro nc w1 ⟨rfl,rfl⟩;refine aJ 5 8 (ai.nil (aj (aq [af 0,nn 1,af 2] ?_)));refine ah 9 1 ?_;refine cE 10 107 [9] [3] Tryz.call107 rfl (E7 _ _) ?_;rintro jc w2 ⟨rfl,rfl⟩;refine aJ 6 10 (ai.nil (aj (aj (aq [af 0] ?_))));refine ah 11 5 ?_;refine ai.nil (fe 11 (bK (aj (aj (aq [af 0] ?_)))));refine ah 13 6 ?_;refine ai.nil (fe 13 (bK (aj (aj (aq [af 0,af 1,af 2] ?_)))));refine ah 14 0 (ah 15 1 ?_);refine fM 16 3 14 15 (ai.nil ?_);refine cV 16 rfl (λjr=>?_) (λjr=>?_)
 ·
  refine aj (aq [af 0] ?_);refine au (kq 4 (.assign (.const (.int .i64 (-1))))) (λ_=>sx rfl) ?_;refine ai.nil ?_;refine cq Tryz.func79 Tryz.results79 ?_;exact⟨eq_int (by unfold gn;split<;>(try split)<;>omega),rfl⟩
 refine bK (aj (aj (aq [af 0,af 1,af 2] ?_)));refine ah 17 0 (ah 18 1 ?_);refine au (kq 19 (.binOp .gtr 3 (.tmp 17) (.tmp 18) 3)) (λ_=>eL rfl rfl) ?_;refine ai.nil ?_;refine cV 19 rfl (λn_=>?_) (λn_=>?_)
 ·
  refine aj (aq [af 0] ?_);refine aO 4 (.int .i64 1) (ai.nil ?_);refine cq Tryz.func79 Tryz.results79 ?_;exact⟨eq_int (by unfold gn;split<;>(try split)<;>omega),rfl⟩
 refine bK (aj (aq [af 0] ?_));refine aO 4 (.int .i64 0) (ai.nil ?_);refine cq Tryz.func79 Tryz.results79 ?_;exact⟨eq_int (by unfold gn;split<;>(try split)<;>omega),rfl⟩
namespace E8
def c0:=dL Tryz.f78
def o1:=fG (cl (aZ c0))
end E8
theorem E9 {w₀:World} {C:Nat->Nat} {x y:dh} (hF:bA w₀ C):Calls Tryz.prog 78 #[.agg #[.int .i64 x.a,.int .i64 x.b],.agg #[.int .i64 y.a,.int .i64 y.b]] w₀ (bW λv w'=>v=.int .i64 (nH x y)/\aH [] w₀ C w' C):=by
 have bR:=hF;have hT:=z9 w₀ C;replace hF:=hF.bX;refine cM E8.c0 17 [.agg #[.int .i64 x.a,.int .i64 x.b],.agg #[.int .i64 y.a,.int .i64 y.b]] Tryz.func78 ?_;show Run _ _ _ _ [(0,.agg #[.int .i64 x.a,.int .i64 x.b]),(1,.agg #[.int .i64 y.a,.int .i64 y.b])] _ _;refine aj (aq [nn 0,nn 1,af 2] ?_);refine bD (kq 2 (.box 32 (.tmp 0))) rfl rfl (cW (cs:=[.int .i64 x.a,.int .i64 x.b]) hF 3 rfl rfl) ?_;rintro _ w1 ⟨d_,ct,rfl,s_1,hx,hF⟩;refine bD (kq 3 (.box 32 (.tmp 1))) rfl rfl (cW (cs:=[.int .i64 y.a,.int .i64 y.b]) hF 3 rfl rfl) ?_;rintro _ w2 ⟨fm,eM,rfl,s_2,hy,hF⟩;refine aO 4 (.int .i64 0) (ai.nil (aj ?_));refine eU (id:=1) (ops:=E8.o1) [] (fm) [af 0,af 1,af 2,af 3,af 5,af 6,af 7,af 8,nn 4,nn 9,nn 10,nn 11,af 12] eD (by kernel_rfl) (by kernel_rfl) (by kernel_rfl) ?_;intro w3 ay;have hR:=aH.refl [] w3 (fm);refine aL 5 32 2 0 0 ?_;replace hx:=(hx.t s_2).t ay;refine eY 6 3 5 (hx.cR ·) ?_;refine aL 7 32 3 0 0 ?_;replace hy:=hy.t ay;refine eY 8 3 7 (hy.cR ·) ?_;refine aL 10 32 2 1 1 ?_;refine eY 11 3 10 (hx.cR ·) ?_;refine aL 12 32 3 1 1 ?_;refine eY 13 3 12 (hy.cR ·) ?_;refine gj 9 79 [6,8] [3,3] Tryz.call79 rfl (wV _ _ _) ?_;rintro ng w4 ⟨rfl,rfl⟩;refine⟨hR.ext,?_⟩;refine gj 14 79 [11,13] [3,3] Tryz.call79 rfl (wV _ _ _) ?_;rintro nJ fQ ⟨rfl,rfl⟩;refine⟨hR.ext,?_⟩;replace hF:=hF.st ay;refine eW (kq 15 (.buildSlice 22 2 #[(0,(.tmp 9)),(1,(.tmp 14))])) rfl rfl (ig (ys:=([gn x.a y.a,gn x.b y.b]:List Int)) (e:=3) (bytes:=8) hF (by kernel_rfl) rfl (by decide) (by decide) ⟨rfl,⟨_,rfl,eo.2 rfl⟩,rfl,⟨_,rfl,eo.2 rfl⟩,trivial⟩) ?_;rintro qq gx ⟨aC,g15,hF⟩;refine⟨(hR.trans aC (by simp)).ext,?_⟩;refine gj 16 77 [15] [22] Tryz.call77 rfl (CS g15) ?_;rintro ox w7 ⟨rfl,rfl⟩;replace hR:=hR.t aC;refine⟨hR.ext,?_⟩;refine aJ 4 16 (ai.nil ?_);refine cq Tryz.func78 Tryz.results78 ?_;replace hT:=(((hT.t s_1).t s_2).t ay).t aC;exact⟨rfl,hT.bV (by decide)⟩
namespace Jf
def c0:=dL Tryz.f121
end Jf
theorem wW (x:Int) (w:World):Calls Tryz.prog 121 #[.int .i64 x] w (bW λv w'=>v=.bool (decide (gY x))/\w'=w):=by
 refine cM Jf.c0 9 [.int .i64 x] Tryz.func121 ?_;show Run _ _ _ _ [(0,.int .i64 x)] _ _;refine aj (aq [af 0] ?_);refine aO 2 (.bool false) (ai.nil (aj ?_));by_cases hA:-65536<=x
 ·
  refine aq [af 0,af 1,af 2,af 3,af 4,af 5,af 6] ?_;refine ah 3 0 ?_;refine au (kq 4 (.binOp .geq 3 (.tmp 3) (.const (.int .i64 (-65536))) 3)) (λ_=>eE (ga rfl rfl) hA) ?_;refine ah 5 4 ?_;refine dI 6 0 2 true ?_;refine au (ax 7 (.binOp .leq 3 (.tmp 6) (.const (.int .i64 65536)) 3) 2 true) (λ_=>qE rfl rfl) ?_;refine eR 8 5 7 ?_;refine aJ 2 8 (ai.nil ?_);refine cq Tryz.func121 Tryz.results121 ?_;exact⟨by congr 1;apply decide_eq_decide.2;unfold gY;omega,rfl⟩
 refine aq [af 0,af 1,af 2,af 3,af 4,af 5,af 6] ?_;refine ah 3 0 ?_;refine au (kq 4 (.binOp .geq 3 (.tmp 3) (.const (.int .i64 (-65536))) 3)) (λ_=>dN (ga rfl rfl) hA) ?_;refine ah 5 4 ?_;refine aG 6 2 true (aG 7 2 true ?_);refine fT 8 5 7 ?_;refine aJ 2 8 (ai.nil ?_);refine cq Tryz.func121 Tryz.results121 ?_;exact⟨by rw[decide_eq_false (λe=>hA e.1)],rfl⟩
namespace Jg
def c0:=dL Tryz.f127
end Jg
theorem wX (x:Int) (w:World):Calls Tryz.prog 127 #[.int .i64 x] w (bW λv w'=>v=.bool (decide (gY x))/\w'=w):=by
 refine cM Jg.c0 9 [.int .i64 x] Tryz.func127 ?_;show Run _ _ _ _ [(0,.int .i64 x)] _ _;refine aj (aq [af 0] ?_);refine aO 2 (.bool false) (ai.nil (aj ?_));by_cases hA:-65536<=x
 ·
  refine aq [af 0,af 1,af 2,af 3,af 4,af 5,af 6] ?_;refine ah 3 0 ?_;refine au (kq 4 (.binOp .geq 3 (.tmp 3) (.const (.int .i64 (-65536))) 3)) (λ_=>eE (ga rfl rfl) hA) ?_;refine ah 5 4 ?_;refine dI 6 0 2 true ?_;refine au (ax 7 (.binOp .leq 3 (.tmp 6) (.const (.int .i64 65536)) 3) 2 true) (λ_=>qE rfl rfl) ?_;refine eR 8 5 7 ?_;refine aJ 2 8 (ai.nil ?_);refine cq Tryz.func127 Tryz.results127 ?_;exact⟨by congr 1;apply decide_eq_decide.2;unfold gY;omega,rfl⟩
 refine aq [af 0,af 1,af 2,af 3,af 4,af 5,af 6] ?_;refine ah 3 0 ?_;refine au (kq 4 (.binOp .geq 3 (.tmp 3) (.const (.int .i64 (-65536))) 3)) (λ_=>dN (ga rfl rfl) hA) ?_;refine ah 5 4 ?_;refine aG 6 2 true (aG 7 2 true ?_);refine fT 8 5 7 ?_;refine aJ 2 8 (ai.nil ?_);refine cq Tryz.func127 Tryz.results127 ?_;exact⟨by rw[decide_eq_false (λe=>hA e.1)],rfl⟩
namespace E_
def c0:=dL Tryz.f94
end E_
theorem Fa {w₀:World} {C:Nat->Nat} {pr:Int} {av df:List Int} {aI vd:Value} (hF:bA w₀ C) (hW:gA pr av df) (ha:aF w₀ (aA C) av aI) (hd:aF w₀ (aA C) df vd):Calls Tryz.prog 94 #[.agg #[.int .i64 pr,aI,vd]] w₀ (bW λv w'=>v=.int .i64 0/\aH [] w₀ C w' C):=by
 have bR:=hF;have hT:=z9 w₀ C;replace hF:=hF.bX;replace ha:=ha.c1;replace hd:=hd.c1;refine cM E_.c0 52 [.agg #[.int .i64 pr,aI,vd]] Tryz.func94 ?_;show Run _ _ _ _ [(0,.agg #[.int .i64 pr,aI,vd])] _ _;refine aj (aq [nn 0,af 1] ?_);refine bD (kq 1 (.box 28 (.tmp 0))) rfl rfl (cW (cs:=[.int .i64 pr,aI,vd]) hF 3 rfl rfl) ?_;rintro _ w1 ⟨d_,ct,rfl,s_1,hx,hF⟩;refine aO 2 (.int .i64 0) (ai.nil (aj (aj (aq [af 0,nn 1,af 2,af 3,af 4,af 5,nn 6,af 7,af 8,af 9,af 10,af 11,nn 12,af 13,af 14,nn 15,af 16,af 17,af 18,af 19,af 20,nn 21,nn 22,af 23,af 24] ?_))));refine aL 4 28 1 1 1 ?_;refine cm 5 22 4 hx.at_ rfl rfl ?_;replace ha:=ha.t s_1;refine zE 6 5 22 (ha.cz rfl Tryz.underlying22) ?_;refine au (kq 7 (.binOp .lss 3 (.tmp 6) (.const (.int .i64 1)) 3)) (λ_=>fU (dV rfl rfl) (by have:=hW.l1;have:=hW.k_;have:=hW.ld;omega)) ?_;refine ah 8 7 ?_;refine bT 9 28 1 1 1 4 false ?_;refine cv 10 22 9 4 false hx.at_ ?_;refine hG 11 10 22 4 false (ha.cz rfl Tryz.underlying22) ?_;refine au (ax 12 (.binOp .gtr 3 (.tmp 11) (.const (.int .i64 5)) 3) 4 false) (λ_=>fU (eL rfl rfl) (by have:=hW.l1;have:=hW.k_;have:=hW.ld;omega)) ?_;refine de 13 8 12 ?_;refine ah 14 13 ?_;refine bT 15 28 1 2 2 10 false ?_;refine cv 16 22 15 10 false hx.at_ ?_;replace hd:=hd.t s_1;refine hG 17 16 22 10 false (hd.cz rfl Tryz.underlying22) ?_;refine bT 18 28 1 1 1 10 false ?_;refine cv 19 22 18 10 false hx.at_ ?_;refine hG 20 19 22 10 false (ha.cz rfl Tryz.underlying22) ?_;refine au (ax 21 (.binOp .neq 3 (.tmp 17) (.tmp 20) 3) 10 false) (λ_=>fU (fc rfl rfl) (by have:=hW.l1;have:=hW.k_;have:=hW.ld;omega)) ?_;refine de 22 14 21 ?_;refine ah 23 22 ?_;refine bT 24 28 1 0 0 19 false ?_;refine cv 25 3 24 19 false hx.at_ ?_;refine dS (ax 26 (.call {callee:=.value (.func 121),args:=#[(.tmp 25)],argTypes:=#[3]}) 19 false) rfl rfl (dn Tryz.call121 rfl) (wW _ _) ?_;rintro jc w2 ⟨rfl,rfl⟩;rw[decide_eq_true (hW.fp)]
 refine au (ax 27 (.unOp .not 4 (.tmp 26)) 19 false) (λ_=>eC rfl) ?_;refine de 28 23 27 ?_;refine ai.nil (fe 28 (bK (aj (aj (aq [af 0,nn 1,af 2,af 3] ?_)))));refine aL 29 28 1 1 1 ?_;refine cm 30 22 29 hx.at_ rfl rfl ?_;refine zE 31 30 22 (ha.cz rfl Tryz.underlying22) ?_;refine mN 32 (.int .i64 0) ?_;refine ai.nil (dm 0 ?_);refine fD (ι:=Nat×(Nat->Nat)) (I:=λx w=>x.1<=av.length/\bA w x.2/\aH [2,3,4,5,6,7,8,9] w₀ (bX C) w x.2/\aF w (aA x.2) av aI/\aF w (aA x.2) df vd/\ck w x.2 3 ct (.cells [.int .i64 pr,aI,vd].toArray 28)) (e:=λx=>[(1,.pointer (some ⟨ct,0,none⟩)),(31,.int .i64 av.length),(32,.int .i64 x.1)]) (m:=λx=>av.length-x.1) (eZ:=(0,d_)) (ak 1 (ak 31 (ak 32 (b6 _)))) ?_ ?_
 ·
   replace hT:=hT.t s_1;exact⟨Nat.zero_le _,hF,hT,ha,hd,hx⟩
 intro⟨i,cO⟩ w3 hI dW;obtain⟨hi,hF,hT,ha,hd,hx⟩:=hI;try simp only at hi hF hT ha hd hx
 show Run _ _ _ _ [(1,.pointer (some ⟨ct,0,none⟩)),(31,.int .i64 av.length),(32,.int .i64 i)] _ _;have hle:=hW.k_;have wY:=hW.ld;refine aj (aq [af 0] ?_);refine fM 33 3 32 31 (ai.nil (aj ?_));refine cV 33 rfl (λjR=>?_) (λjR=>?_)
 ·
  have hil:i<av.length:=by omega
  have hid:i<df.length:=by omega
  refine bK (aj (dm 1 (aj (aq [af 0,af 1] ?_))));refine ah 34 32 (aJ 3 34 (ai.nil (aj (aq [af 0,nn 1,af 2,af 3,nn 4,nn 5,af 6,af 7,af 8,nn 9,af 10,af 11,nn 12,nn 13,af 14,af 15] ?_))));refine aL 35 28 1 1 1 ?_;refine cm 36 22 35 hx.at_ rfl rfl ?_;refine ah 37 3 ?_;refine eX 3 38 22 36 37 ha rfl (h:=?_);intro Jh Ji rO;try simp only[b_] at rO
  refine gK (kq 39 (.load 3 (.tmp 38))) rfl rfl trivial rO (by kernel_rfl) rfl rfl ?_;intro v39 vh;first|(obtain rfl:=fu.1 vh)|(obtain rfl:=eo.1 vh)
  refine cE 40 121 [39] [3] Tryz.call121 rfl (wW _ _) ?_;rintro ng w4 ⟨rfl,rfl⟩;rw[decide_eq_true (hW.fa i hil)];refine au (kq 41 (.unOp .not 4 (.tmp 40))) (λ_=>eC rfl) ?_;refine ah 42 41 ?_;refine bT 43 28 1 2 2 7 false ?_;refine cv 44 22 43 7 false hx.at_ ?_;refine dI 45 3 7 false ?_;refine iS (e:=3) (ax 46 (.indexAddr 22 (.tmp 44) (.tmp 45)) 7 false) rfl rfl hd rfl (by kernel_rfl) rfl (by omega) (by omega) ?_;intro PO PR h46;try simp only[b_] at h46
  refine gK (ax 47 (.load 3 (.tmp 46)) 7 false) rfl rfl trivial h46 (by kernel_rfl) rfl rfl ?_;intro Fb wZ;first|(obtain rfl:=fu.1 wZ)|(obtain rfl:=eo.1 wZ)
  refine dS (ax 48 (.call {callee:=.value (.func 121),args:=#[(.tmp 47)],argTypes:=#[3]}) 7 false) rfl rfl (dn Tryz.call121 rfl) (wW _ _) ?_;rintro nJ fQ ⟨rfl,rfl⟩;rw[decide_eq_true (hW.fd i hid)];refine au (ax 49 (.unOp .not 4 (.tmp 48)) 7 false) (λ_=>eC rfl) ?_;refine de 50 42 49 ?_;refine ai.nil (fe 50 (bK (dZ (aq [af 0,af 1] ?_))));refine eG 51 3 32 1 (ah 32 51 (ai.nil ?_));refine kp (ak 1 (ak 31 (cA 32 rfl (eq_int (by simp)) (b6 _)))) (dW (i+1,cO) _ ⟨(by first|omega|(simp only;omega)),hF,hT,ha,hd,hx⟩ (by first|omega|(simp only;omega)))
 have hil:i=av.length:=by omega
 refine fq 0 ?_;refine aj (aq [af 0] ?_);refine aO 2 (.int .i64 0) (ai.nil ?_);refine cq Tryz.func94 Tryz.results94 ?_;exact⟨rfl,hT.bV (by decide)⟩
namespace Fc
def c0:=dL Tryz.f100
end Fc
theorem Fe {w₀:World} {C:Nat->Nat} {pr:Int} {av df:List Int} {aI vd:Value} (hF:bA w₀ C) (hW:gA pr av df) (ha:aF w₀ (aA C) av aI) (hd:aF w₀ (aA C) df vd):Calls Tryz.prog 100 #[.agg #[.int .i64 pr,aI,vd]] w₀ (bW λv w'=>v=.int .i64 0/\aH [] w₀ C w' C):=by
 have bR:=hF;have hT:=z9 w₀ C;replace hF:=hF.bX;replace ha:=ha.c1;replace hd:=hd.c1;refine cM Fc.c0 52 [.agg #[.int .i64 pr,aI,vd]] Tryz.func100 ?_;show Run _ _ _ _ [(0,.agg #[.int .i64 pr,aI,vd])] _ _;refine aj (aq [nn 0,af 1] ?_);refine bD (kq 1 (.box 28 (.tmp 0))) rfl rfl (cW (cs:=[.int .i64 pr,aI,vd]) hF 3 rfl rfl) ?_;rintro _ w1 ⟨d_,ct,rfl,s_1,hx,hF⟩;refine aO 2 (.int .i64 0) (ai.nil (aj (aj (aq [af 0,nn 1,af 2,af 3,nn 4,af 5,af 6,af 7,af 8,nn 9,af 10,af 11,af 12,af 13,af 14,nn 15,af 16,af 17,af 18,af 19,af 20,nn 21,nn 22,af 23,af 24] ?_))));refine aL 4 28 1 1 1 ?_;refine cm 5 22 4 hx.at_ rfl rfl ?_;replace ha:=ha.t s_1;refine zE 6 5 22 (ha.cz rfl Tryz.underlying22) ?_;refine aL 7 28 1 2 2 ?_;refine cm 8 22 7 hx.at_ rfl rfl ?_;replace hd:=hd.t s_1;refine zE 9 8 22 (hd.cz rfl Tryz.underlying22) ?_;refine au (kq 10 (.binOp .neq 3 (.tmp 6) (.tmp 9) 3)) (λ_=>fU (fc rfl rfl) (by have:=hW.l1;have:=hW.k_;have:=hW.ld;omega)) ?_;refine ah 11 10 ?_;refine bT 12 28 1 1 1 7 false ?_;refine cv 13 22 12 7 false hx.at_ ?_;refine hG 14 13 22 7 false (ha.cz rfl Tryz.underlying22) ?_;refine au (ax 15 (.binOp .lss 3 (.tmp 14) (.const (.int .i64 1)) 3) 7 false) (λ_=>fU (dV rfl rfl) (by have:=hW.l1;have:=hW.k_;have:=hW.ld;omega)) ?_;refine de 16 11 15 ?_;refine ah 17 16 ?_;refine bT 18 28 1 1 1 13 false ?_;refine cv 19 22 18 13 false hx.at_ ?_;refine hG 20 19 22 13 false (ha.cz rfl Tryz.underlying22) ?_;refine au (ax 21 (.binOp .gtr 3 (.tmp 20) (.const (.int .i64 5)) 3) 13 false) (λ_=>fU (eL rfl rfl) (by have:=hW.l1;have:=hW.k_;have:=hW.ld;omega)) ?_;refine de 22 17 21 ?_;refine ah 23 22 ?_;refine bT 24 28 1 0 0 19 false ?_;refine cv 25 3 24 19 false hx.at_ ?_;refine dS (ax 26 (.call {callee:=.value (.func 127),args:=#[(.tmp 25)],argTypes:=#[3]}) 19 false) rfl rfl (dn Tryz.call127 rfl) (wX _ _) ?_;rintro jc w2 ⟨rfl,rfl⟩;rw[decide_eq_true (hW.fp)]
 refine au (ax 27 (.unOp .not 4 (.tmp 26)) 19 false) (λ_=>eC rfl) ?_;refine de 28 23 27 ?_;refine ai.nil (fe 28 (bK (aj (aj (aq [af 0] ?_)))));refine aO 3 (.int .i64 0) ?_;refine ai.nil (dm 0 ?_);refine fD (ι:=Nat×(Nat->Nat)) (I:=λx w=>x.1<=av.length/\bA w x.2/\aH [2,3,4,5,6,7,8,9] w₀ (bX C) w x.2/\aF w (aA x.2) av aI/\aF w (aA x.2) df vd/\ck w x.2 3 ct (.cells [.int .i64 pr,aI,vd].toArray 28)) (e:=λx=>[(1,.pointer (some ⟨ct,0,none⟩)),(3,.int .i64 x.1)]) (m:=λx=>av.length-x.1) (eZ:=(0,d_)) (ak 1 (ak 3 (b6 _))) ?_ ?_
 ·
   replace hT:=hT.t s_1;exact⟨Nat.zero_le _,hF,hT,ha,hd,hx⟩
 intro⟨i,cO⟩ w3 hI dW;obtain⟨hi,hF,hT,ha,hd,hx⟩:=hI;try simp only at hi hF hT ha hd hx
 show Run _ _ _ _ [(1,.pointer (some ⟨ct,0,none⟩)),(3,.int .i64 i)] _ _;have hle:=hW.k_;have wY:=hW.ld;refine aj (aj (aq [af 0,af 1,nn 2,af 3,af 4] ?_));refine ah 29 3 (aL 30 28 1 1 1 ?_);refine cm 31 22 30 hx.at_ rfl rfl ?_;refine zE 32 31 22 (ha.cz rfl Tryz.underlying22) ?_;refine fM 33 3 29 32 (ai.nil ?_);refine cV 33 rfl (λjR=>?_) (λjR=>?_)
 ·
  have hil:i<av.length:=by omega
  have hid:i<df.length:=by omega
  refine bK (aj (dm 1 (aj (aq [af 0,nn 1,af 2,af 3,nn 4,nn 5,af 6,af 7,af 8,nn 9,af 10,af 11,nn 12,nn 13,af 14,af 15] ?_))));refine aL 36 28 1 1 1 ?_;refine cm 37 22 36 hx.at_ rfl rfl ?_;refine ah 38 3 ?_;refine eX 3 39 22 37 38 ha rfl (h:=?_);intro Ff Fg qS;try simp only[b_] at qS
  refine gK (kq 40 (.load 3 (.tmp 39))) rfl rfl trivial qS (by kernel_rfl) rfl rfl ?_;intro v40 vi;first|(obtain rfl:=fu.1 vi)|(obtain rfl:=eo.1 vi)
  refine cE 41 127 [40] [3] Tryz.call127 rfl (wX _ _) ?_;rintro ng w4 ⟨rfl,rfl⟩;rw[decide_eq_true (hW.fa i hil)];refine au (kq 42 (.unOp .not 4 (.tmp 41))) (λ_=>eC rfl) ?_;refine ah 43 42 ?_;refine bT 44 28 1 2 2 7 false ?_;refine cv 45 22 44 7 false hx.at_ ?_;refine dI 46 3 7 false ?_;refine iS (e:=3) (ax 47 (.indexAddr 22 (.tmp 45) (.tmp 46)) 7 false) rfl rfl hd rfl (by kernel_rfl) rfl (by omega) (by omega) ?_;intro Jj Jk sN;try simp only[b_] at sN
  refine gK (ax 48 (.load 3 (.tmp 47)) 7 false) rfl rfl trivial sN (by kernel_rfl) rfl rfl ?_;intro Jl qT;first|(obtain rfl:=fu.1 qT)|(obtain rfl:=eo.1 qT)
  refine dS (ax 49 (.call {callee:=.value (.func 127),args:=#[(.tmp 48)],argTypes:=#[3]}) 7 false) rfl rfl (dn Tryz.call127 rfl) (wX _ _) ?_;rintro nJ fQ ⟨rfl,rfl⟩;rw[decide_eq_true (hW.fd i hid)];refine au (ax 50 (.unOp .not 4 (.tmp 49)) 7 false) (λ_=>eC rfl) ?_;refine de 51 43 50 ?_;refine ai.nil (fe 51 (bK (dZ (aq [af 0,af 1,af 2] ?_))));refine ah 34 3 ?_;refine eG 35 3 34 1 (aJ 3 35 (ai.nil ?_));refine kp (ak 1 (cA 3 rfl (eq_int (by simp)) (b6 _))) (dW (i+1,cO) _ ⟨(by first|omega|(simp only;omega)),hF,hT,ha,hd,hx⟩ (by first|omega|(simp only;omega)))
 have hil:i=av.length:=by omega
 refine fq 0 ?_;refine aj (aq [af 0] ?_);refine aO 2 (.int .i64 0) (ai.nil ?_);refine cq Tryz.func100 Tryz.results100 ?_;exact⟨rfl,hT.bV (by decide)⟩
namespace Jm
def c0:=dL Tryz.f84
end Jm
theorem Jn {n:Nat} (h1:1<=n) (h5:n<=5) (w:World):Calls Tryz.prog 84 #[.int .i64 n] w (bW λv w'=>v=.bool true/\w'=w):=by
 refine cM Jm.c0 9 [.int .i64 n] Tryz.func84 ?_;show Run _ _ _ _ [(0,.int .i64 n)] _ _;refine aj (aq [af 0] ?_);refine aO 2 (.bool false) (ai.nil (aj (aq [af 0,af 1,af 2,af 3,af 4,af 5,af 6] ?_)));refine ah 3 0 ?_;refine au (kq 4 (.binOp .geq 3 (.tmp 3) (.const (.int .i64 1)) 3)) (λ_=>kj (ga rfl rfl) (by omega)) ?_;refine ah 5 4 ?_;refine dI 6 0 2 true ?_;refine au (ax 7 (.binOp .leq 3 (.tmp 6) (.const (.int .i64 5)) 3) 2 true) (λ_=>kj (qE rfl rfl) (by omega)) ?_;refine eR 8 5 7 ?_;refine aJ 2 8 (ai.nil ?_);refine cq Tryz.func84 Tryz.results84 ?_;exact⟨rfl,rfl⟩
namespace Jo
def c0:=dL Tryz.f85
end Jo
theorem Fh {w₀:World} {C:Nat->Nat} (hF:bA w₀ C):Calls Tryz.prog 85 #[] w₀ (bW λv w'=>v=.agg #[.int .i64 1,.int .i64 3,.int .i64 9,.int .i64 27,.int .i64 81,.int .i64 243]/\aH [] w₀ C w' C):=by
 have bR:=hF;have hT:=z9 w₀ C;replace hF:=hF.bX;refine cM Jo.c0 2 [] Tryz.func85 ?_;show Run _ _ _ _ [] _ _;refine aj (aq [nn 0] ?_);refine bD (kq 0 (.alloc 122)) rfl rfl (eO (cs:=[.int .i64 0,.int .i64 0,.int .i64 0,.int .i64 0,.int .i64 0,.int .i64 0]) hF 3 (by kernel_rfl)) ?_;rintro _ w1 ⟨d_,ct,rfl,s_1,hx,hF⟩;refine ai.nil (aj (aq [af 0,nn 1] ?_));refine au (kq 1 (.build 122 #[(0,(.const (.int .i64 1))),(1,(.const (.int .i64 3))),(2,(.const (.int .i64 9))),(3,(.const (.int .i64 27))),(4,(.const (.int .i64 81))),(5,(.const (.int .i64 243)))])) (λ_=>EO (zs:=[.int .i64 0,.int .i64 0,.int .i64 0,.int .i64 0,.int .i64 0,.int .i64 0]) (cs:=[.int .i64 1,.int .i64 3,.int .i64 9,.int .i64 27,.int .i64 81,.int .i64 243]) (ez:=[(0,[.int .i64 1]),(1,[.int .i64 3]),(2,[.int .i64 9]),(3,[.int .i64 27]),(4,[.int .i64 81]),(5,[.int .i64 243])]) (n:=1) Tryz.underlying122 (by kernel_rfl) (by kernel_rfl) (by exact⟨rfl,⟨_,rfl,rfl⟩,rfl,⟨_,rfl,rfl⟩,rfl,⟨_,rfl,rfl⟩,rfl,⟨_,rfl,rfl⟩,rfl,⟨_,rfl,rfl⟩,rfl,⟨_,rfl,rfl⟩,trivial⟩) rfl) ?_;refine dD (k0 (.store 122 (.tmp 0) (.tmp 1))) rfl (dP (vs:=[.int .i64 1,.int .i64 3,.int .i64 9,.int .i64 27,.int .i64 81,.int .i64 243]) (n:=6) rfl rfl (by kernel_rfl) rfl rfl (iq rfl) hx rfl) ?_;rintro _ w2 ⟨rfl,s_2,hx⟩;refine ai.nil ?_;refine tj (by kernel_rfl) Tryz.func85 Tryz.results85 rfl hx.at_ (by kernel_rfl) (by kernel_rfl) rfl ?_;replace hT:=(hT.t s_1).t s_2;exact⟨rfl,hT.bV (by decide)⟩
namespace Fi
def c0:=dL Tryz.f51
end Fi
theorem Jp {w₀:World} {C:Nat->Nat} {p n:Nat} (hF:bA w₀ C) (h1:1<=n) (h5:n<=5) (hp:p<3^n):Calls Tryz.prog 51 #[.int .i64 p,.int .i64 n] w₀ (bW λv w'=>∃u,v=.tuple #[u,.int .i64 0]/\aH [] w₀ C w' C/\aF w' (aA C) (m_ p n) u):=by
 have bR:=hF;have hT:=z9 w₀ C;replace hF:=hF.bX;have hp2:=CF h5;refine cM Fi.c0 35 [.int .i64 p,.int .i64 n] Tryz.func51 ?_;show Run _ _ _ _ [(0,.int .i64 p),(1,.int .i64 n)] _ _;refine aj (aq [af 0,af 1] ?_);refine aO 4 (.slice none 0 0) (aO 5 (.int .i64 0) (ai.nil (aj (aj (aq [af 0,nn 1,af 2] ?_)))));refine ah 8 1 ?_;refine cE 9 84 [8] [3] Tryz.call84 rfl (Jn h1 h5 _) ?_;rintro nc w1 ⟨rfl,e⟩;obtain rfl:=e.symm;refine au (kq 10 (.unOp .not 4 (.tmp 9))) (λ_=>eC rfl) ?_;refine ai.nil (fe 10 (bK (aj (aj (aq [af 0,af 1,af 2,af 3,nn 4,af 5,af 6,af 7,af 8] ?_)))));refine ah 11 0 ?_;refine au (kq 12 (.binOp .lss 3 (.tmp 11) (.const (.int .i64 0)) 3)) (λ_=>fU (dV rfl rfl) (by omega)) ?_;refine ah 13 12 ?_;refine dI 14 0 2 false ?_;refine dS (ax 15 (.call {callee:=.value (.func 85),args:=#[],argTypes:=#[]}) 2 false) rfl rfl (dn Tryz.call85 rfl) (Fh hF) ?_;rintro jc w2 ⟨rfl,s_1⟩;refine dI 16 1 2 false ?_;refine au (ax 17 (.index 122 (.tmp 15) (.tmp 16)) 2 false) (λ_=>CD (cs:=[.int .i64 1,.int .i64 3,.int .i64 9,.int .i64 27,.int .i64 81,.int .i64 243]) Tryz.underlying122 (by kernel_rfl) (by kernel_rfl) rfl rfl (by omega) (by omega) (EP (n:=n) (by omega))) ?_;refine au (ax 18 (.binOp .geq 3 (.tmp 14) (.tmp 17) 3) 2 false) (λ_=>fU (ga rfl rfl) (by omega)) ?_;refine de 19 13 18 ?_;refine ai.nil (fe 19 (bK (aj (aq [af 0] ?_))));refine aO 6 (.slice none 0 0) (ai.nil (aj (aj (aq [af 0,af 1] ?_))));refine ah 20 1 (mN 21 (.int .i64 0) ?_);refine ai.nil (dm 0 ?_);refine fD (ι:=Nat×Value×(Nat->Nat)) (I:=λx w=>x.1<=n/\bA w x.2.2/\aH [2,3,4,5,6,7,8,9] w₀ (bX C) w x.2.2/\cC w x.2.2 3 3 x.2.1 (m_ p x.1)) (e:=λx=>[(0,.int .i64 p),(1,.int .i64 n),(6,x.2.1),(20,.int .i64 n),(21,.int .i64 x.1)]) (m:=λx=>n-x.1) (eZ:=(0,.slice none 0 0,bX C)) (ak 0 (ak 1 (ak 6 (ak 20 (ak 21 (b6 _)))))) ?_ ?_
 ·
   replace hF:=hF.st s_1;replace hT:=hT.t s_1;exact⟨Nat.zero_le _,hF,hT,cC.nil⟩
 intro⟨i,gy,cO⟩ w3 hI dW;obtain⟨hi,hF,hT,ho⟩:=hI;try simp only at hi hF hT ho
 show Run _ _ _ _ [(0,.int .i64 p),(1,.int .i64 n),(6,gy),(20,.int .i64 n),(21,.int .i64 i)] _ _;have qU:=sI p i;refine aj (aq [af 0] ?_);refine fM 22 3 21 20 (ai.nil (aj ?_));refine cV 22 rfl (λfK=>?_) (λfK=>?_)
 ·
  have hil:i<n:=by omega
  have PS: (1:Int)<=((3^i:Nat):Int):=by have:0<3^i:=Nat.pow_pos (by decide);exact_mod_cast this
  refine bK (aj (dm 1 (aj (aq [af 0,af 1] ?_))));refine ah 23 21 (aJ 7 23 (ai.nil (aq [af 0,af 1,nn 2,af 3,af 4,af 5,af 6,nn 7,nn 8,af 9] ?_)));refine ah 24 6 (ah 25 0 ?_);refine cE 26 85 [] [] Tryz.call85 rfl (Fh hF) ?_;rintro ng w4 ⟨rfl,s_2⟩;refine ah 27 7 ?_;refine au (kq 28 (.index 122 (.tmp 26) (.tmp 27))) (λ_=>CD (cs:=[.int .i64 1,.int .i64 3,.int .i64 9,.int .i64 27,.int .i64 81,.int .i64 243]) Tryz.underlying122 (by kernel_rfl) (by kernel_rfl) rfl rfl (by omega) (by omega) (EP (n:=i) (by omega))) ?_;refine au (kq 29 (.binOp .quo 3 (.tmp 25) (.tmp 28) 3)) (λ_=>qH (Ey rfl rfl (by omega) PS (by omega)) (show _=Value.int .i64 ((p/3^i:Nat):Int) from by rw[Int.natCast_ediv])) ?_;refine au (kq 30 (.binOp .rem 3 (.tmp 29) (.const (.int .i64 3)) 3)) (λ_=>qH (Ez rfl rfl (Int.natCast_nonneg _) (by decide)) (show _=Value.int .i64 ((kD p i:Nat):Int) from by unfold kD;rw[Int.natCast_emod];rfl)) ?_;replace hF:=hF.st s_2;refine bD (kq 31 (.buildSlice 22 1 #[(0,(.tmp 30))])) rfl rfl (ig (ys:=([kD p i]:List Nat)) (e:=3) (bytes:=8) hF (by kernel_rfl) rfl (by decide) (by decide) ⟨rfl,⟨_,rfl,fu.2 rfl⟩,trivial⟩) ?_;rintro v31 fQ ⟨ay,qV,hF⟩;replace ho:=(ho.t s_2).t ay;refine bD (kq 32 (.call {callee:=.builtin .append,args:=#[(.tmp 24),(.tmp 31)],argTypes:=#[22,22]})) rfl rfl (gJ (e:=3) (bytes:=8) hF (by decide) rfl rfl (by kernel_rfl) (by decide) ho qV (by simp only[List.length_cons,List.length_nil];omega) (by simp only[List.length_cons,List.length_nil];omega)) ?_;rintro v32 gx ⟨qW,aC,ho,hF⟩;refine aJ 6 32 (ai.nil (dZ (aq [af 0,af 1] ?_)));refine eG 33 3 21 1 (ah 21 33 (ai.nil ?_));replace hT:=((hT.t s_2).t ay).t aC;refine kp (ak 0 (ak 1 (ak 6 (ak 20 (cA 21 rfl (eq_int (by simp)) (b6 _)))))) (dW (i+1,v32,qW) _ ⟨(by first|omega|(simp only;omega)),hF,hT,(by simp only;rw[IZ];exact ho)⟩ (by first|omega|(simp only;omega)))
 have hil:i=n:=by omega
 subst hil;refine fq 0 ?_;refine aj (aq [af 0,af 1,af 2] ?_);refine ah 34 6 (aJ 4 34 (aO 5 (.int .i64 0) (ai.nil ?_)));refine gE (by kernel_rfl) Tryz.func51 Tryz.results51 rfl rfl ?_;exact⟨_,rfl,hT.bV (by decide),ho.out hT bR (fJ C) (λb _=>kf C (by decide) b) (by omega)⟩
end
end Go.Proofs.YtionghonhnedgaaGreat
