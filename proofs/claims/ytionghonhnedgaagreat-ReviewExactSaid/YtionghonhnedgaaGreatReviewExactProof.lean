/- Which reviews are valid, deciding fields, what is missing, what is shown, and decisions, are those of the document. No condition: for every input. -/
import Derived.Test.YtionghonhnedgaaGreatJYO
import Derived.Test.YtionghonhnedgaaGreatL2
import Derived.Test.YtionghonhnedgaaGreatRows
import Derived.WalkKit
import Derived.ProofKit
import Derived.OpenShut
import Derived.JoinedOf
import Derived.JoinedAt
import Derived.ChangeSame
namespace Go.Proofs.YtionghonhnedgaaGreat.reviewExact
open Go.ChangeShapes Go.WideShapes Go.ChangeAt Go.RowKit
set_option linter.unusedVariables false
set_option maxRecDepth 100000
theorem own:ownKnob Tryz.prog.godebug=none:=by kernel_rfl
theorem laidOut:laidOutB Tryz.prog=true:=by kernel_rfl
theorem oT {H:Type} {enc:TypeId×Value->H} {w:World}:K.pF enc Tryz.prog w 0 (λ_=>true) true Int 3:=K.Sg Tryz.underlying3 (by kernel_rfl)
theorem NH {H:Type} {enc:TypeId×Value->H} {w:World}:K.pF enc Tryz.prog w 0 (λ_=>true) true (List Int) 22:=K.Sj Tryz.underlying22 (by kernel_rfl) (by decide) oT
theorem V7 {H:Type} {enc:TypeId×Value->H} {w:World}:K.pF enc Tryz.prog w 0 (λ_=>true) true Bool 4:=K.Sh Tryz.underlying4 (by kernel_rfl)
theorem V8 {H:Type} {enc:TypeId×Value->H} {w:World}:K.pF enc Tryz.prog w 0 (λ_=>true) true ByteArray 9:=K.Si Tryz.underlying9 (by kernel_rfl)
theorem B6 {H:Type} {enc:TypeId×Value->H} {w:World}:K.pF enc Tryz.prog w 0 (λ_=>true) true K.dh 32:=⟨by kernel_rfl,λf cs x h=>by
 obtain⟨a,ha⟩:=K.Sm (α:=Int) (β:=Int) Tryz.underlying32 (by kernel_rfl) rfl rfl oT oT f cs x h;exact⟨⟨a.1,a.2⟩,ha⟩⟩
theorem V9 {H:Type} {enc:TypeId×Value->H} {w:World}:K.ji enc Tryz.prog w 0 (λ_=>true) true K.bZ 50 (λ_=>True):=⟨by kernel_rfl,λf cs x h hn=>by
 obtain⟨a,ha,_⟩:=K.Lt (α:=K.dh) (β:=Int) (γ:=Int) (δ:=Int) Tryz.underlying50 (by kernel_rfl) rfl rfl rfl rfl B6.q oT.q oT.q oT.q f cs x h hn;exact⟨⟨a.1,a.2.1,a.2.2.1,a.2.2.2⟩,ha,trivial⟩⟩
theorem V_ {H:Type} {enc:TypeId×Value->H} {w:World}:K.ji enc Tryz.prog w 0 (λ_=>true) true K.bP 75 (λ_=>True):=⟨by kernel_rfl,λf cs x h hn=>by
 obtain⟨a,ha,_⟩:=K.Sr (α:=K.dh) (β:=K.dh) (γ:=Int) (δ:=Int) (ε:=Bool) Tryz.underlying75 (by kernel_rfl) rfl rfl rfl rfl rfl B6.q B6.q oT.q oT.q V7.q f cs x h hn;exact⟨⟨a.1,a.2.1,a.2.2.1,a.2.2.2.1,a.2.2.2.2⟩,ha,trivial⟩⟩
theorem Wa {H:Type} {enc:TypeId×Value->H} {w:World}:K.ji enc Tryz.prog w 0 (λ_=>true) true (List K.bZ) 23 (λl=>l.length<=4611686018427387903):=(K.Dw Tryz.underlying23 (by kernel_rfl) (by decide) (nb:=40) (by kernel_rfl) V9).mono (λl h=>by have:=h.1;unfold reachBytes at this;omega)
theorem Wb {H:Type} {enc:TypeId×Value->H} {w:World}:K.ji enc Tryz.prog w 0 (λ_=>true) true (List K.bP) 24 (λl=>l.length<=4611686018427387903):=(K.Dw Tryz.underlying24 (by kernel_rfl) (by decide) (nb:=56) (by kernel_rfl) V_).mono (λl h=>by have:=h.1;unfold reachBytes at this;omega)
theorem NI {H:Type} {enc:TypeId×Value->H} {w:World}:K.ji enc Tryz.prog w 0 (λ_=>true) true (List Int) 22 (λl=>l.length<=4611686018427387903):=(K.Dw Tryz.underlying22 (by kernel_rfl) (by decide) (nb:=8) (by kernel_rfl) oT.q).mono (λl h=>by have:=h.1;unfold reachBytes at this;omega)
theorem Wc {H:Type} {enc:TypeId×Value->H} {w:World}:K.ji enc Tryz.prog w 0 (λ_=>true) true (List ByteArray) 35 (λl=>l.length<=4611686018427387903):=(K.Dw Tryz.underlying35 (by kernel_rfl) (by decide) (nb:=16) (by kernel_rfl) V8.q).mono (λl h=>by have:=h.1;unfold reachBytes at this;omega)
theorem Wd {H:Type} {enc:TypeId×Value->H} {w:World}:K.ji enc Tryz.prog w 0 (λ_=>true) true (Int×List K.bZ×List K.bP) 26 (λx=>x.2.1.length<=4611686018427387903/\x.2.2.length<=4611686018427387903):=⟨by kernel_rfl,λf cs x h hn=>by
 obtain⟨a,ha,hQ⟩:=K.Gn (α:=Int) (β:=List K.bZ) (γ:=List K.bP) Tryz.underlying26 (by kernel_rfl) rfl rfl rfl oT.q Wa Wb f cs x h hn;exact⟨a,ha,hQ.2⟩⟩
theorem Wf {H:Type} {enc:TypeId×Value->H} {w:World}:K.ji enc Tryz.prog w 0 (λ_=>true) true (Int×List Int×List Int) 28 (λx=>x.2.1.length<=4611686018427387903/\x.2.2.length<=4611686018427387903):=⟨by kernel_rfl,λf cs x h hn=>by
 obtain⟨a,ha,hQ⟩:=K.Gn (α:=Int) (β:=List Int) (γ:=List Int) Tryz.underlying28 (by kernel_rfl) rfl rfl rfl oT.q NI NI f cs x h hn;exact⟨a,ha,hQ.2⟩⟩
theorem Wg {H:Type} {enc:TypeId×Value->H} {w:World}:K.ji enc Tryz.prog w 0 (λ_=>true) true (Int×Int) 30 (λx=>True):=⟨by kernel_rfl,λf cs x h hn=>by
 obtain⟨a,ha,hQ⟩:=K.Sq (α:=Int) (β:=Int) Tryz.underlying30 (by kernel_rfl) rfl rfl oT.q oT.q f cs x h hn;exact⟨a,ha,trivial⟩⟩
theorem Wh {H:Type} {enc:TypeId×Value->H} {w:World}:K.ji enc Tryz.prog w 0 (λ_=>true) true (K.dh×K.dh×Int×Int) 34 (λx=>True):=⟨by kernel_rfl,λf cs x h hn=>by
 obtain⟨a,ha,hQ⟩:=K.Lt (α:=K.dh) (β:=K.dh) (γ:=Int) (δ:=Int) Tryz.underlying34 (by kernel_rfl) rfl rfl rfl rfl B6.q B6.q oT.q oT.q f cs x h hn;exact⟨a,ha,trivial⟩⟩
theorem NJ {H:Type} {enc:TypeId×Value->H} {w:World}:K.ji enc Tryz.prog w 0 (λ_=>true) true (Int×Int×List ByteArray) 37 (λx=>x.2.2.length<=4611686018427387903):=⟨by kernel_rfl,λf cs x h hn=>by
 obtain⟨a,ha,hQ⟩:=K.Gn (α:=Int) (β:=Int) (γ:=List ByteArray) Tryz.underlying37 (by kernel_rfl) rfl rfl rfl oT.q oT.q Wc f cs x h hn;exact⟨a,ha,hQ.2.2⟩⟩
theorem contract (H:Type) (enc:TypeId×Value->H) (W:World) (base:Nat) (args:Array Value) (ds gs:List (DataW H)) (before:List MemPlace)
  (hval:∀(j:Nat) t v,Tryz.f3.params[j]?=some t->args[j]?=some v->Value.okWide Tryz.prog W .any base t v)
  (hW:DataW.Whole enc Tryz.prog Tryz.f3.params.toList Rows.reviewExactSpec.vars false W args.toList ds gs before)
  (hsz: (DataW.weightsEach Tryz.prog (Tryz.f3.params.toList++Rows.reviewExactSpec.plain.varTypes Tryz.prog) (ds++gs)).all (·<=reachBytes)=true):
  Calls Tryz.prog 3 args W λe W'=>∃v,e=.returned v/\Rows.reviewExactSpec.post enc Tryz.prog Tryz.f3 false true false false W args v W':=by
 have HW:=hW;obtain⟨p,q,Es,hV,rfl,hfz,p8⟩:=hW;have hA:DataW.TrodAll enc Tryz.prog W 0 (λ_=>true) true Tryz.f3.params.toList args.toList ds p:=Es;rw[Tryz.params3] at hA hval hsz;clear Es;obtain⟨v0,vM,d0,e0,rK,q0,ha0,rfl,rfl,h0,Es⟩:=trodAll_cons hA;obtain⟨v1,r1,d1,e1,p1,q1,ha1,rfl,rfl,h1,Wi⟩:=trodAll_cons Es;subst ha1;obtain⟨v2,r2,d2,e2,p2,q2,ha2,rfl,rfl,h2,xH⟩:=trodAll_cons Wi;subst ha2;obtain⟨v3,r3,d3,iA,p3,pG,eu,rfl,rfl,h3,Wj⟩:=trodAll_cons xH;subst eu;obtain⟨v4,Lu,d4,mq,Bu,xE,Wk,rfl,rfl,h4,B1⟩:=trodAll_cons Wj;subst Wk;obtain⟨v5,St,d5,AW,B4,rD,HX,rfl,rfl,h5,D_⟩:=trodAll_cons B1;subst HX;obtain⟨v6,Dr,d6,tM,NK,PL,HY,rfl,rfl,h6,Wm⟩:=trodAll_cons D_;subst HY;obtain⟨vE,Dd,d7,Gg,NL,bl,Wn,rfl,rfl,h7,Wo⟩:=trodAll_cons Wm;subst Wn;obtain⟨rfl,rfl,rfl⟩:=trodAll_nil Wo;obtain rfl:args=#[v0,v1,v2,v3,v4,v5,v6,vE]:=by cases args;simp_all
 obtain⟨rfl,rfl⟩:=trodVars_none hV;simp only[List.append_nil] at HW;obtain⟨a0,NM,NN,rfl⟩:=okWide_slice Tryz.underlying22 (hval 0 22 v0 rfl rfl);have nS:=h1;obtain⟨Wp,rfl,Cg⟩:=okWide_struct Tryz.underlying26 (hval 1 26 v1 rfl rfl);have F3:=h2;obtain⟨lg,rfl,vg⟩:=okWide_struct Tryz.underlying28 (hval 2 28 v2 rfl rfl);have q3:=h3;obtain⟨Wq,rfl,Cz⟩:=okWide_struct Tryz.underlying30 (hval 3 30 v3 rfl rfl);have hM:=h4;obtain⟨Wr,rfl,c8⟩:=okWide_struct Tryz.underlying34 (hval 4 34 v4 rfl rfl);have z1:=h5;obtain⟨Ws,rfl,bk⟩:=okWide_struct Tryz.underlying37 (hval 5 37 v5 rfl rfl);have yN:=h6;obtain⟨Wu,rfl,o6⟩:=okWide_struct Tryz.underlying37 (hval 6 37 v6 rfl rfl);obtain⟨a7,NP,NQ,rfl⟩:=okWide_slice Tryz.underlying22 (hval 7 22 vE rfl rfl);have hlt:∀x∈rK++p1++p2++p3++Bu++B4++NK++NL,x.block<W.heap.size:=λx hx=>by simpa using HW.lt x (by simpa using hx)
 obtain⟨x0,hx0⟩:∃x:List Int,K.aF W (K.aA K.j5) x (.slice a0 NM NN):=by
  obtain⟨fuel,hf⟩:=h0;exact(NH (enc:=enc) (w:=W)).rv rfl hf
 obtain⟨nw,Wv⟩:∃x:List Int,K.aF W (K.aA K.j5) x (.slice a7 NP NQ):=by
  obtain⟨fuel,hf⟩:=h7;exact(NH (enc:=enc) (w:=W)).rv rfl hf
 obtain⟨x1,y1,qc,hc1,ha1,xy,NR⟩:∃(x1:Int×List K.bZ×List K.bP) (y1 qc:Value),Wp=#[.int .i64 x1.1,y1,qc]/\K.aF W (K.aA K.j5) x1.2.1 y1/\K.aF W (K.aA K.j5) x1.2.2 qc/\(x1.2.1.length<=4611686018427387903/\x1.2.2.length<=4611686018427387903):=by
  obtain⟨fuel,hf⟩:=h1;obtain⟨a,ha,hq⟩:=(Wd (enc:=enc) (w:=W)).2 _ _ _ hf (K.zP hsz (j:=1) rfl rfl);obtain⟨p,q,e,h2,h3⟩:=K.Lv ha;exact⟨a,p,q,K.zQ e,K.qk h2 rfl,K.qk h3 rfl,hq⟩
 subst hc1;obtain⟨tE,r_,z2,BR,ha2,wO,NS⟩:∃(tE:Int×List Int×List Int) (r_ z2:Value),lg=#[.int .i64 tE.1,r_,z2]/\K.aF W (K.aA K.j5) tE.2.1 r_/\K.aF W (K.aA K.j5) tE.2.2 z2/\(tE.2.1.length<=4611686018427387903/\tE.2.2.length<=4611686018427387903):=by
  obtain⟨fuel,hf⟩:=h2;obtain⟨a,ha,hq⟩:=(Wf (enc:=enc) (w:=W)).2 _ _ _ hf (K.zP hsz (j:=2) rfl rfl);obtain⟨p,q,e,h2,h3⟩:=K.Lv ha;exact⟨a,p,q,K.zQ e,K.qk h2 rfl,K.qk h3 rfl,hq⟩
 subst BR;obtain⟨B7,zw⟩:∃(B7:Int×Int),Wq=#[.int .i64 B7.1,.int .i64 B7.2]:=by
  obtain⟨fuel,hf⟩:=h3;obtain⟨a,ha,hq⟩:=(Wg (enc:=enc) (w:=W)).2 _ _ _ hf (K.zP hsz (j:=3) rfl rfl);exact⟨a,K.zQ (K.Ss ha)⟩
 subst zw;obtain⟨rH,Ww⟩:∃(rH:K.dh×K.dh×Int×Int),Wr=#[.int .i64 rH.1.a,.int .i64 rH.1.b,.int .i64 rH.2.1.a,.int .i64 rH.2.1.b,.int .i64 rH.2.2.1,.int .i64 rH.2.2.2]:=by
  obtain⟨fuel,hf⟩:=h4;obtain⟨a,ha,hq⟩:=(Wh (enc:=enc) (w:=W)).2 _ _ _ hf (K.zP hsz (j:=4) rfl rfl);exact⟨a,K.zQ (K.Sw ha)⟩
 subst Ww;obtain⟨yc,Et,Wx,HX,Wy⟩:∃(yc:Int×Int×List ByteArray) (Et:Value),Ws=#[.int .i64 yc.1,.int .i64 yc.2.1,Et]/\K.aF W (K.aA K.j5) yc.2.2 Et/\yc.2.2.length<=4611686018427387903:=by
  obtain⟨fuel,hf⟩:=h5;obtain⟨a,ha,hq⟩:=(NJ (enc:=enc) (w:=W)).2 _ _ _ hf (K.zP hsz (j:=5) rfl rfl);obtain⟨p,e,h2⟩:=K.Lw ha;exact⟨a,p,K.zQ e,K.qk h2 rfl,hq⟩
 subst Wx;obtain⟨yd,Eu,Wz,HY,WA⟩:∃(yd:Int×Int×List ByteArray) (Eu:Value),Wu=#[.int .i64 yd.1,.int .i64 yd.2.1,Eu]/\K.aF W (K.aA K.j5) yd.2.2 Eu/\yd.2.2.length<=4611686018427387903:=by
  obtain⟨fuel,hf⟩:=h6;obtain⟨a,ha,hq⟩:=(NJ (enc:=enc) (w:=W)).2 _ _ _ hf (K.zP hsz (j:=6) rfl rfl);obtain⟨p,e,h2⟩:=K.Lw ha;exact⟨a,p,K.zQ e,K.qk h2 rfl,hq⟩
 subst Wz;have walk:Calls Tryz.prog 3 #[.slice a0 NM NN,.agg #[.int .i64 x1.1,y1,qc],.agg #[.int .i64 tE.1,r_,z2],.agg #[.int .i64 B7.1,.int .i64 B7.2],.agg #[.int .i64 rH.1.a,.int .i64 rH.1.b,.int .i64 rH.2.1.a,.int .i64 rH.2.1.b,.int .i64 rH.2.2.1,.int .i64 rH.2.2.2],.agg #[.int .i64 yc.1,.int .i64 yc.2.1,Et],.agg #[.int .i64 yd.1,.int .i64 yd.2.1,Eu],.slice a7 NP NQ] W (K.bW λv w'=>v=.bool true/\K.aH [] W K.j5 w' K.j5):=Vc (K.Sf W) hx0 ha1 xy ha2 wO HX HY Wv NR.1 NR.2 NS.1 NS.2 Wy WA;refine walk.mono ?_;rintro e W' ⟨v,rfl,rfl,hs⟩;have hb:=hs.below;refine⟨_,rfl,[d0,d1,d2,d3,d4,d5,d6,d7],[],_,[],rK++(p1++(p2++(p3++(Bu++(B4++(NK++(NL))))))),[],HW,(trodAll_cons_mk (shut_bool Tryz.underlying4 _) trodAll_mk0),?_,rfl,hb.frame _,λh=>by cases h⟩;have NT:=trodAll_cons_mk (Below.trod laidOut (by kernel_rfl) (of_decide_eq_true (by kernel_rfl)) h0 hb (λx hx=>hlt x (by simp[hx]))) (trodAll_cons_mk (Below.trod laidOut (by kernel_rfl) (of_decide_eq_true (by kernel_rfl)) h1 hb (λx hx=>hlt x (by simp[hx]))) (trodAll_cons_mk (Below.trod laidOut (by kernel_rfl) (of_decide_eq_true (by kernel_rfl)) h2 hb (λx hx=>hlt x (by simp[hx]))) (trodAll_cons_mk (Below.trod laidOut (by kernel_rfl) (of_decide_eq_true (by kernel_rfl)) h3 hb (λx hx=>hlt x (by simp[hx]))) (trodAll_cons_mk (Below.trod laidOut (by kernel_rfl) (of_decide_eq_true (by kernel_rfl)) h4 hb (λx hx=>hlt x (by simp[hx]))) (trodAll_cons_mk (Below.trod laidOut (by kernel_rfl) (of_decide_eq_true (by kernel_rfl)) h5 hb (λx hx=>hlt x (by simp[hx]))) (trodAll_cons_mk (Below.trod laidOut (by kernel_rfl) (of_decide_eq_true (by kernel_rfl)) h6 hb (λx hx=>hlt x (by simp[hx]))) (trodAll_cons_mk (Below.trod laidOut (by kernel_rfl) (of_decide_eq_true (by kernel_rfl)) h7 hb (λx hx=>hlt x (by simp[hx]))) trodAll_mk0)))))));simp only[List.append_nil] at NT;exact NT
set_option maxRecDepth 100000 in
theorem lifted (os:Os) (started:os.Started) (H:Type) (enc:TypeId×Value->H):
  ReturnsInHanded {} Tryz.checked os 3 .any (Rows.reviewExactSpec.pre6 enc Tryz.prog Tryz.f3 Rows.reviewExactRow.domain false) (Rows.reviewExactSpec.post enc Tryz.prog Tryz.f3 false true false false):=by
 refine returnsInHanded_of_change_sized (C:=Tryz.checked) own started (by kernel_rfl) Tryz.func3
  (ChangeSpec.witness6 (enc:=enc) (C:=Tryz.checked) false ⟨#[],#[.slice none 0 0,.agg #[.int .i64 0,.slice none 0 0,.slice none 0 0],.agg #[.int .i64 0,.slice none 0 0,.slice none 0 0],.agg #[.int .i64 0,.int .i64 0],.agg #[.int .i64 0,.int .i64 0,.int .i64 0,.int .i64 0,.int .i64 0,.int .i64 0],.agg #[.int .i64 0,.int .i64 0,.slice none 0 0],.agg #[.int .i64 0,.int .i64 0,.slice none 0 0],.slice none 0 0],[]⟩ 8 (by kernel_rfl) (by kernel_rfl) (by kernel_rfl) (by kernel_rfl)) ?_
 intro W base args ds gs before hval hW _ hsz _;exact contract H enc W base args ds gs before hval hW hsz
theorem over:Rows.reviewExactRow.holds Tryz.pinned (OpenSpec.ofChange Rows.reviewExactSpec):=
 OpenClaim.holds_of_wide 3 Tryz.f3 rfl rfl rfl rfl rfl rfl rfl ⟨rfl,rfl,rfl,rfl,rfl⟩ rfl rfl rfl rfl rfl (by kernel_rfl) Tryz.func3 (by kernel_rfl)
  (of_decide_eq_true (by kernel_rfl)) (by unfold Func.isWrapper;first|(rw[if_pos (by decide+kernel)];kernel_rfl)|(rw[if_neg (by decide+kernel)];exact⟨rfl,rfl⟩))
  (λos started H enc _=>lifted os started H enc)
theorem proved:Rows.ReviewExactSaid:=over
end Go.Proofs.YtionghonhnedgaaGreat.reviewExact
