/- Steps through functions of the program. -/
import Derived.Test.YtdmgmlmlielfbaaGreatRows
import Derived.Test.YtdmgmlmlielfbaaGreatL1
set_option linter.unusedVariables false
set_option linter.unusedSimpArgs false
set_option maxRecDepth 100000
set_option maxHeartbeats 400000
namespace Go.Proofs.YtdmgmlmlielfbaaGreat
open Go.K Go.K.bg
noncomputable section
theorem cm:Tryz.prog.follows .mixedOrders=true:=Tryz.checked.mixed
namespace KW
def c0:=cz Tryz.f12
end KW
theorem SA (a:Option Addr) (l c:Nat) (w:World):Calls Tryz.prog 12 #[.slice a l c] w (bM λv w'=>v=.bool (decide ((l:Int)<=400))/\w'=w):=by
 refine ct KW.c0 6 [.slice a l c] Tryz.func12 ?_;show Run _ _ _ _ [(0,.slice a l c)] _ _;refine aj (aq [af 0] ?_);refine aR 2 (.bool false) (ai.nil (aj (aq [af 0,af 1,af 2,af 3] ?_)));refine ah 3 0 ?_;refine ax (au 4 (.call {callee:=.builtin .len,args:=#[(.tmp 3)],argTypes:=#[22]})) (λ_=>vX rfl Tryz.underlying22) ?_;refine ax (au 5 (.binOp .leq 3 (.tmp 4) (.const (.int .i64 400)) 3)) (λ_=>pM rfl rfl) ?_;refine aD 2 5 (ai.nil ?_);refine bN Tryz.func12 Tryz.results12 ?_;exact⟨rfl,rfl⟩
namespace KX
def c0:=cz Tryz.f13
end KX
theorem SB {w:World} {C:Nat->Nat} {l:List Int} {aF:Value} (hF:aM w C) (hl:aG w (aB C) l aF):Calls Tryz.prog 13 #[aF] w (bM λv w'=>∃aP b,v=.pointer (some ⟨b,0,none⟩)/\ay [] w C w' aP/\aM w' aP/\lM 68 w' aP 3 b ⟨l,0,11400714819323198485⟩):=by
 have hT:=ay.refl [] w C;refine ct KX.c0 6 [aF] Tryz.func13 ?_;show Run _ _ _ _ [(0,aF)] _ _;refine aj (aq [af 0] ?_);refine aR 2 (.pointer none) (ai.nil (aj (aq [af 0,af 1,nn 2,af 3] ?_)));refine ah 3 0 ?_;refine ax (au 4 (.build 68 #[(0,(.tmp 3)),(2,(.const (.int .u64 11400714819323198485)))])) (λ_=>ji (zs:=[.slice none 0 0,.int .i64 0,.int .u64 0]) (ps:=[(0,1),(1,1),(2,1)]) (eS:=[(0,[aF]),(2,[.int .u64 11400714819323198485])]) (cs:=[aF,.int .i64 0,.int .u64 11400714819323198485]) (by kernel_rfl) (by kernel_rfl) ⟨rfl,⟨_,rfl,(hl.one rfl).1⟩,rfl,⟨_,rfl,rfl⟩,trivial⟩ rfl) ?_;refine bT (au 5 (.box 68 (.tmp 4))) rfl rfl (eU (cs:=[aF,.int .i64 0,.int .u64 11400714819323198485]) hF 3 rfl rfl) ?_;rintro _ w1 ⟨eu,c4,rfl,s_1,hb,hF⟩;refine aD 2 5 (ai.nil ?_);refine bN Tryz.func13 Tryz.results13 ?_;replace hl:=hl.t s_1;replace hT:=hT.t s_1;exact⟨_,_,rfl,hT,hF,Nat.zero_le _,aF,hl,hb⟩
namespace yc
def c0:=cz Tryz.f37
def o2:=dy (cl (cl (aJ (aJ c0))))
def oV:=(cl (aJ (cl (aJ (aJ c0)))))
def As:=dy (cl oV)
def ow:=(cl (aJ (aJ (aJ (aJ c0)))))
def mc:=dy ow
end yc
theorem SC {w:World} {C:Nat->Nat} {i b:Nat} {d:gL} (hF:aM w C) (hi:i≠0) (hd:lM 68 w C i b d) (hlen:d.list.length<=9223372036854775807):Calls Tryz.prog 37 #[.pointer (some ⟨b,0,none⟩)] w (bM λv w'=>v=.int .u64 d.word/\ay [i] w C w' C/\lM 68 w' C i b d.next):=by
 obtain⟨jw,aF,hl,hb⟩:=hd.dS hi;have hbc:C b=i:=by obtain⟨_,_,_,h⟩:=hd;exact h.col
 have bp:=hF;replace hF:=hF.dS i;have hT:=ay.refl [2,3,4,5,6,7,8,9] w (dS C i);refine ct yc.c0 60 [.pointer (some ⟨b,0,none⟩)] Tryz.func37 ?_;show Run _ _ _ _ [(0,.pointer (some ⟨b,0,none⟩))] _ _;refine aj (aq [af 0] ?_);refine aR 2 (.int .u64 0) (ai.nil (aj (aq [af 0] ?_)));refine aR 3 (.int .u64 0) (ai.nil (aj (aj ?_)));refine cw (id:=2) (ops:=yc.o2) [] (dS C i) [af 0,af 1,af 2,af 3,af 4,af 5,af 6,af 7,af 8,af 9] cm (by kernel_rfl) (by kernel_rfl) (by kernel_rfl) ?_;intro w1 s_1;refine ah 5 0 (eV 6 5 (bD 7 68 6 1 1 ?_));replace hb:=hb.t s_1;refine gM 8 3 7 (hb.bu ·) ?_;refine ah 9 0 (eV 10 9 (bD 11 68 10 0 0 ?_));refine gM 12 22 11 (hb.bu ·) ?_;replace hl:=hl.t s_1;refine zE 13 12 22 (hl.b8 rfl Tryz.underlying22) ?_;refine dm 14 3 8 13 (ai.nil ?_);refine bI 14 rfl (λer=>?_) (λer=>?_)
 ·
  have hx:d.x=IntKind.u64.wrap d.list[d.at_]:=by unfold gL.x;rw[dif_pos (by omega)]
  have hn:d.next=⟨d.list,d.at_+1,mix d.state d.x⟩:=by unfold gL.next;rw[if_pos (by omega)]
  refine aj ?_;refine cw (id:=3) (ops:=yc.As) [] (dS C i) [af 0,af 1,af 2,af 3,af 4,af 5,af 6,af 7,af 8,af 9,af 10,af 11] cm (by kernel_rfl) (by kernel_rfl) (by kernel_rfl) ?_;intro w2 s_2;refine ah 15 0 (eV 16 15 (bD 17 68 16 0 0 ?_));replace hb:=hb.t s_2;refine gM 18 22 17 (hb.bu ·) ?_;refine ah 19 0 (eV 20 19 (bD 21 68 20 1 1 ?_));refine gM 22 3 21 (hb.bu ·) ?_;replace hl:=hl.t s_2;refine cq 3 23 22 18 22 hl rfl (h:=?_);intro tD rB h23;try simp only[aI] at h23
  refine gK (au 24 (.load 3 (.tmp 23))) rfl rfl (λw' hS=>h23.bu hS) h23 (by kernel_rfl) rfl rfl ?_;intro v24 g24;first|(obtain rfl:=jr.1 g24)|(obtain rfl:=gN.1 g24)
  refine ax (au 25 (.convert 3 66 (.tmp 24))) (λ_=>xT rfl ⟨_,Tryz.underlying3⟩ Tryz.underlying66) ?_;refine aD 3 25 (ai.nil (aq [af 0,af 1,af 2,nn 3,af 4,af 5,af 6,nn 7] ?_));refine ah 26 0 (eV 27 26 (bD 28 68 27 1 1 ?_));refine dL 29 3 28 hb.at_ rfl rfl ?_;refine bZ 30 3 29 1 (eV 31 26 (bD 32 68 31 1 1 ?_));refine cE (k0 (.store 3 (.tmp 32) (.tmp 30))) rfl (k9 rfl rfl (by kernel_rfl) rfl rfl hb (by simp)) ?_;rintro _ w3 ⟨rfl,aH,hb⟩;refine ai.nil (aj (aq [af 0,af 1,af 2,af 3,nn 4,af 5,af 6,af 7,af 8,af 9,af 10,nn 11] ?_));refine ah 33 0 (ah 34 0 (eV 35 34 (bD 36 68 35 2 2 ?_)));refine dL 37 66 36 hb.at_ rfl rfl ?_;refine ah 38 3 ?_;refine ax (au 39 (.binOp .add 66 (.tmp 37) (.tmp 38) 66)) (λ_=>val_add rfl rfl) ?_;refine ax (au 40 (.binOp .mul 66 (.tmp 39) (.const (.int .u64 6364136223846793005)) 66)) (λ_=>val_mul rfl rfl) ?_;refine ax (au 41 (.binOp .add 66 (.tmp 40) (.const (.int .u64 1442695040888963407)) 66)) (λ_=>val_add rfl rfl) ?_;refine eV 42 33 (bD 43 68 42 2 2 ?_);refine cE (k0 (.store 66 (.tmp 43) (.tmp 41))) rfl (k9 rfl rfl (by kernel_rfl) rfl rfl hb (by simp)) ?_;rintro _ w4 ⟨rfl,aV,hb⟩;refine ai.nil (aj ?_);refine cw (id:=6) (ops:=yc.mc) [] (dS C i) [af 0,af 1,af 2,af 3,af 4,af 5,af 6,af 7,af 8,af 9,af 10] cm (by kernel_rfl) (by kernel_rfl) (by kernel_rfl) ?_;intro ew aQ;refine ah 44 0 (eV 45 44 (bD 46 68 45 2 2 ?_));replace hb:=hb.t aQ;refine gM 47 66 46 (hb.bu ·) ?_;refine ah 48 0 (eV 49 48 (bD 50 68 49 2 2 ?_));refine gM 51 66 50 (hb.bu ·) ?_;refine ax (au 52 (.binOp .shr 66 (.tmp 51) (.const (.int .u64 33)) 70)) (λ_=>td rfl rfl (by omega)) ?_;refine ax (au 53 (.binOp .xor 66 (.tmp 47) (.tmp 52) 66)) (λ_=>Ct rfl rfl) ?_;refine aD 4 53 (ai.nil (aj (aq [af 0,af 1,af 2] ?_)));refine ah 54 4 ?_;refine ax (au 55 (.binOp .mul 66 (.tmp 54) (.const (.int .u64 18397679294719823053)) 66)) (λ_=>val_mul rfl rfl) ?_
  refine aD 4 55 (ai.nil (aj (aq [af 0,af 1,af 2,af 3,af 4] ?_)));refine ah 56 4 (ah 57 4 ?_);refine ax (au 58 (.binOp .shr 66 (.tmp 57) (.const (.int .u64 29)) 70)) (λ_=>td rfl rfl (by omega)) ?_;refine ax (au 59 (.binOp .xor 66 (.tmp 56) (.tmp 58) 66)) (λ_=>Ct rfl rfl) ?_;refine aD 2 59 (ai.nil ?_);refine bN Tryz.func37 Tryz.results37 ?_;replace hT:=((((hT.t s_1).t s_2).t aH).t aV).t aQ;refine⟨eq_int (by simp only[gL.word,gL.next,E2,E3,mix,hx]),hT.iA (by decide),lM.out (d:=d.next) ?_ hT bp hbc⟩;rw[hn];simp only[List.set_cons_succ,List.set_cons_zero] at hb;replace hl:=((hl.t aH).t aV).t aQ;refine⟨by simp only;omega,aF,hl,?_⟩;simpa[mix,hx] using hb
 have hx:d.x=0:=by unfold gL.x;rw[dif_neg (by omega)]
 have hn:d.next=⟨d.list,d.at_,mix d.state d.x⟩:=by unfold gL.next;rw[if_neg (by omega)]
 refine bk (aj (aq [af 0,af 1,af 2,af 3,nn 4,af 5,af 6,af 7,af 8,af 9,af 10,nn 11] ?_));refine ah 33 0 (ah 34 0 (eV 35 34 (bD 36 68 35 2 2 ?_)));refine dL 37 66 36 hb.at_ rfl rfl ?_;refine ah 38 3 ?_;refine ax (au 39 (.binOp .add 66 (.tmp 37) (.tmp 38) 66)) (λ_=>val_add rfl rfl) ?_;refine ax (au 40 (.binOp .mul 66 (.tmp 39) (.const (.int .u64 6364136223846793005)) 66)) (λ_=>val_mul rfl rfl) ?_;refine ax (au 41 (.binOp .add 66 (.tmp 40) (.const (.int .u64 1442695040888963407)) 66)) (λ_=>val_add rfl rfl) ?_;refine eV 42 33 (bD 43 68 42 2 2 ?_);refine cE (k0 (.store 66 (.tmp 43) (.tmp 41))) rfl (k9 rfl rfl (by kernel_rfl) rfl rfl hb (by simp)) ?_;rintro _ fh ⟨rfl,bh,hb⟩;refine ai.nil (aj ?_);refine cw (id:=6) (ops:=yc.mc) [] (dS C i) [af 0,af 1,af 2,af 3,af 4,af 5,af 6,af 7,af 8,af 9,af 10] cm (by kernel_rfl) (by kernel_rfl) (by kernel_rfl) ?_;intro w7 bq;refine ah 44 0 (eV 45 44 (bD 46 68 45 2 2 ?_));replace hb:=hb.t bq;refine gM 47 66 46 (hb.bu ·) ?_;refine ah 48 0 (eV 49 48 (bD 50 68 49 2 2 ?_));refine gM 51 66 50 (hb.bu ·) ?_;refine ax (au 52 (.binOp .shr 66 (.tmp 51) (.const (.int .u64 33)) 70)) (λ_=>td rfl rfl (by omega)) ?_;refine ax (au 53 (.binOp .xor 66 (.tmp 47) (.tmp 52) 66)) (λ_=>Ct rfl rfl) ?_;refine aD 4 53 (ai.nil (aj (aq [af 0,af 1,af 2] ?_)));refine ah 54 4 ?_;refine ax (au 55 (.binOp .mul 66 (.tmp 54) (.const (.int .u64 18397679294719823053)) 66)) (λ_=>val_mul rfl rfl) ?_;refine aD 4 55 (ai.nil (aj (aq [af 0,af 1,af 2,af 3,af 4] ?_)));refine ah 56 4 (ah 57 4 ?_);refine ax (au 58 (.binOp .shr 66 (.tmp 57) (.const (.int .u64 29)) 70)) (λ_=>td rfl rfl (by omega)) ?_;refine ax (au 59 (.binOp .xor 66 (.tmp 56) (.tmp 58) 66)) (λ_=>Ct rfl rfl) ?_;refine aD 2 59 (ai.nil ?_);refine bN Tryz.func37 Tryz.results37 ?_;replace hT:=((hT.t s_1).t bh).t bq;refine⟨eq_int (by simp only[gL.word,gL.next,E2,E3,mix,hx]),hT.iA (by decide),lM.out (d:=d.next) ?_ hT bp hbc⟩
 rw[hn];simp only[List.set_cons_succ,List.set_cons_zero] at hb;replace hl:=(hl.t bh).t bq;refine⟨by simp only;omega,aF,hl,?_⟩;simpa[mix,hx] using hb
namespace KY
def c0:=cz Tryz.f15
end KY
theorem SD {w:World} {C:Nat->Nat} {i b:Nat} {d:gL} {n:Int} (hF:aM w C) (hi:i≠0) (hd:lM 68 w C i b d) (hlen:d.list.length<=9223372036854775807) (CX:n<=9223372036854775807):Calls Tryz.prog 15 #[.pointer (some ⟨b,0,none⟩),.int .i64 n] w (bM λv w'=>v=.int .i64 (d.num n)/\ay [i] w C w' C/\lM 68 w' C i b (d.after n)):=by
 have bp:=hF;have hT:=ay.refl [i] w C;refine ct KY.c0 13 [.pointer (some ⟨b,0,none⟩),.int .i64 n] Tryz.func15 ?_;show Run _ _ _ _ [(0,.pointer (some ⟨b,0,none⟩)),(1,.int .i64 n)] _ _;refine aj (aq [af 0] ?_);refine aR 4 (.int .i64 0) (ai.nil (aj (aj (aq [af 0,af 1] ?_))));refine ah 5 1 ?_;refine ax (au 6 (.binOp .lss 3 (.tmp 5) (.const (.int .i64 1)) 3)) (λ_=>eX rfl rfl) ?_;refine ai.nil ?_;refine bI 6 rfl (λh6=>?_) (λh6=>?_)
 ·
  have hn:d.num n=0:=by unfold gL.num;rw[if_pos (by omega)]
  have ha:d.after n=d:=by unfold gL.after;rw[if_pos (by omega)]
  refine aj (aq [af 0] ?_);refine aR 4 (.int .i64 0) (ai.nil ?_);refine bN Tryz.func15 Tryz.results15 ?_;rw[ha,hn];exact⟨rfl,hT,hd⟩
 have hn:d.num n=(d.word/2)%n:=by unfold gL.num;rw[if_neg (by omega)]
 have ha:d.after n=d.next:=by unfold gL.after;rw[if_neg (by omega)]
 refine bk (aj (aq [af 0,nn 1,af 2,af 3,af 4,af 5,af 6] ?_));refine ah 7 0 ?_;refine bU 8 37 [7] [28] Tryz.call37 rfl (SC bp hi hd hlen) ?_;rintro j3 w1 ⟨rfl,s_1,hd⟩;have hwr:=d.RT;refine ax (au 9 (.binOp .shr 66 (.tmp 8) (.const (.int .u64 1)) 70)) (λ_=>Rx (r:=d.word/2) rfl rfl (by omega) (by show d.word.fdiv 2=_;exact Int.fdiv_eq_ediv_of_nonneg _ (by decide))) ?_;refine ax (au 10 (.convert 66 3 (.tmp 9))) (λ_=>zX (r:=d.word/2) rfl ⟨_,Tryz.underlying66⟩ Tryz.underlying3 (wrap_i64 (by omega) (by omega))) ?_;refine ah 11 1 ?_;refine ax (au 12 (.binOp .rem 3 (.tmp 10) (.tmp 11) 3)) (λ_=>Rw rfl rfl (by omega) (by omega)) ?_;refine aD 4 12 (ai.nil ?_);refine bN Tryz.func15 Tryz.results15 ?_;rw[ha,hn];replace hT:=hT.t s_1;exact⟨rfl,hT,hd⟩
end
end Go.Proofs.YtdmgmlmlielfbaaGreat
set_option linter.unusedVariables false
set_option linter.unusedSimpArgs false
set_option maxRecDepth 100000
set_option maxHeartbeats 4000000
namespace Go.Proofs.YtdmgmlmlielfbaaGreat
open Go.K Go.K.bg
noncomputable section
def fe (w:World) (C:Nat->Nat) (i b:Nat):Prop:=∃d:gL,lM 68 w C i b d/\d.list.length<=9223372036854775807
section
variable {w w':World} {C aP:Nat->Nat} {i b:Nat} {I:List Nat}
theorem fe.st (h:fe w C i b) (hs:ay I w C w' aP) (h0:0∉I) (hi:i∉I):fe w' aP i b:=let⟨d,h1,h2⟩:=h;⟨d,h1.st hs h0 hi,h2⟩
theorem fe.u (h:fe w C i b) (hs:ay I w C w' aP) (h0:0∉I:=by first|decide|(simp<;>omega)) (hi:i∉I:=by first|decide|(simp<;>omega)):fe w' aP i b:=h.st hs h0 hi
theorem fe.dS (h:fe w C i b) (hi:i≠0):fe w (dS C i) 2 b:=let⟨d,h1,h2⟩:=h;⟨d,h1.dS hi,h2⟩
theorem fe.bO (h:fe w C i b) {n:Nat} (hi:i<n):fe w (K.bO n C) i b:=let⟨d,h1,h2⟩:=h;⟨d,h1.bO hi,h2⟩
theorem fe.out {w₀:World} {jY:Nat->Nat} (h:fe w' aP 2 b) (hs:ay I w₀ (K.dS jY i) w' aP) (hF:aM w₀ jY) (hb:jY b=i):fe w' jY i b:=let⟨d,h1,h2⟩:=h;⟨d,h1.out hs hF hb,h2⟩
theorem fe.uP (h:fe w C i b):C b=i:=by obtain⟨d,⟨_,_,_,h⟩,_⟩:=h;exact h.col
end
theorem SE {w:World} {C:Nat->Nat} {l:List Int} {aF:Value} (hF:aM w C) (hl:aG w (aB C) l aF):Calls Tryz.prog 13 #[aF] w (bM λv w'=>∃aP b,v=.pointer (some ⟨b,0,none⟩)/\ay [] w C w' aP/\aM w' aP/\fe w' aP 3 b):=
 (SB hF hl).mono (bM.mono λv w' ⟨aP,b,h1,h2,h3,h4⟩=>⟨aP,b,h1,h2,h3,_,h4,hl.le⟩)
theorem nq {w:World} {C:Nat->Nat} {i b:Nat} {n:Int} (hF:aM w C) (hi:i≠0) (hd:fe w C i b) (h1:1<=n) (CX:n<=9223372036854775807):Calls Tryz.prog 15 #[.pointer (some ⟨b,0,none⟩),.int .i64 n] w (bM λv w'=>∃k:Nat,v=.int .i64 (k:Int)/\(k:Int)<n/\ay [i] w C w' C/\fe w' C i b):=by
 obtain⟨d,hd,hl⟩:=hd;refine(SD hF hi hd hl CX).mono (bM.mono λv w' ⟨e,h2,h3⟩=>?_);have hr:=d.RU h1;exact⟨(d.num n).toNat,by rw[e,Int.toNat_of_nonneg hr.1],by rw[Int.toNat_of_nonneg hr.1];exact hr.2,h2,_,h3,by rw[gL.RW];exact hl⟩
theorem CY {w:World} {M:Nat->Prop} {l:List Int} {aF:Value} (hl:aG w M l aF):Calls Tryz.prog 12 #[aF] w (bM λv w'=>v=.bool (decide ((l.length:Int)<=400))/\w'=w):=by
 obtain⟨a,c,rfl⟩:=hl.len;exact SA a l.length c w
namespace KZ
def c0:=cz Tryz.f31
end KZ
theorem yd {w:World} {C:Nat->Nat} {i b:Nat} {n:Int} (hF:aM w C) (hi:i≠0) (hd:fe w C i b) (h1:1<=n) (CX:n<=9223372036854775807):Calls Tryz.prog 31 #[.pointer (some ⟨b,0,none⟩),.int .i64 n] w (bM λv w'=>∃t:Bool,v=.bool t/\ay [i] w C w' C/\fe w' C i b):=by
 have bp:=hF;have hbc:=hd.uP;replace hd:=hd.dS hi;have hT:=ay.refl [2,3,4,5,6,7,8,9] w (dS C i);replace hF:=hF.dS i;refine ct KZ.c0 9 [.pointer (some ⟨b,0,none⟩),.int .i64 n] Tryz.func31 ?_;show Run _ _ _ _ [(0,.pointer (some ⟨b,0,none⟩)),(1,.int .i64 n)] _ _;refine aj (aq [af 0] ?_);refine aR 4 (.bool false) (ai.nil (aj (aq [af 0,af 1,nn 2,af 3,af 4] ?_)));refine ah 5 0 (ah 6 1 ?_);refine bU 7 15 [5,6] [28,3] Tryz.call15 rfl (nq hF (by decide) hd h1 CX) ?_;rintro j3 w1 ⟨k,rfl,hk,s_1,hd⟩;refine ax (au 8 (.binOp .eql 3 (.tmp 7) (.const (.int .i64 0)) 3)) (λ_=>fO rfl rfl) ?_;refine aD 4 8 (ai.nil ?_);refine bN Tryz.func31 Tryz.results31 ?_;replace hT:=hT.t s_1;exact⟨_,rfl,hT.iA (by decide),hd.out hT bp hbc⟩
end
end Go.Proofs.YtdmgmlmlielfbaaGreat
