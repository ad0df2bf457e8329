/- Solutions of bonds, what is touched and what is solved again are those of the document. No condition: for every input. -/
import Derived.Test.YtmdhggfehknjjaaGreatJS9
import Derived.Test.YtmdhggfehknjjaaGreatL3
import Derived.Test.YtmdhggfehknjjaaGreatRows
import Derived.WalkKit
import Derived.ProofKit
import Derived.OpenShut
import Derived.JoinedOf
import Derived.JoinedAt
import Derived.ChangeSame
namespace Go.Proofs.YtmdhggfehknjjaaGreat.resolveExact
open Go.ChangeShapes Go.WideShapes Go.ChangeAt Go.RowKit
set_option linter.unusedVariables false
set_option maxRecDepth 100000
theorem own:ownKnob Tryz.prog.godebug=none:=by kernel_rfl
theorem laidOut:laidOutB Tryz.prog=true:=by kernel_rfl
theorem B8 {H:Type} {enc:TypeId×Value->H} {w:World}:K.oG enc Tryz.prog w 0 (λ_=>true) true Int 3:=K.A2 Tryz.underlying3 (by kernel_rfl)
theorem aeU {H:Type} {enc:TypeId×Value->H} {w:World}:K.oG enc Tryz.prog w 0 (λ_=>true) true (List Int) 22:=K.C6 Tryz.underlying22 (by kernel_rfl) (by decide) B8
theorem aeV {H:Type} {enc:TypeId×Value->H} {w:World}:K.oG enc Tryz.prog w 0 (λ_=>true) true Bool 4:=K.X3 Tryz.underlying4 (by kernel_rfl)
theorem GL {H:Type} {enc:TypeId×Value->H} {w:World}:K.oG enc Tryz.prog w 0 (λ_=>true) true K.ak 55:=⟨by kernel_rfl,λf cs x h=>by
 obtain⟨a,ha⟩:=K.oq (α:=Int) (β:=Int) Tryz.underlying55 (by kernel_rfl) rfl rfl B8 B8 f cs x h;exact⟨⟨a.1,a.2⟩,ha⟩⟩
theorem aeW {H:Type} {enc:TypeId×Value->H} {w:World}:K.oG enc Tryz.prog w 0 (λ_=>true) true K.aD 58:=⟨by kernel_rfl,λf cs x h=>by
 obtain⟨a,ha⟩:=K.j3 (α:=K.ak) (β:=K.ak) (γ:=Int) Tryz.underlying58 (by kernel_rfl) rfl rfl rfl GL GL B8 f cs x h;exact⟨⟨a.1,a.2.1,a.2.2⟩,ha⟩⟩
theorem Ws {H:Type} {enc:TypeId×Value->H} {w:World}:K.mF enc Tryz.prog w 0 (λ_=>true) true (List K.aD) 23 (λl=>l.length<=4611686018427387903):=(K.I5 Tryz.underlying23 (by kernel_rfl) (by decide) (nb:=40) (by kernel_rfl) aeW.q).mono (λl h=>by have:=h.1;unfold reachBytes at this;omega)
theorem aeX {H:Type} {enc:TypeId×Value->H} {w:World}:K.mF enc Tryz.prog w 0 (λ_=>true) true K.bC 89 (λ_=>True):=⟨by kernel_rfl,λf cs x h hn=>by
 obtain⟨a,ha,_⟩:=K.Pt (α:=K.ak) (β:=K.ak) (γ:=Int) (δ:=Int) (ε:=Bool) Tryz.underlying89 (by kernel_rfl) rfl rfl rfl rfl rfl GL.q GL.q B8.q B8.q aeV.q f cs x h hn;exact⟨⟨a.1,a.2.1,a.2.2.1,a.2.2.2.1,a.2.2.2.2⟩,ha,trivial⟩⟩
theorem Wu {H:Type} {enc:TypeId×Value->H} {w:World}:K.mF enc Tryz.prog w 0 (λ_=>true) true (List K.bC) 27 (λl=>l.length<=4611686018427387903):=(K.I5 Tryz.underlying27 (by kernel_rfl) (by decide) (nb:=56) (by kernel_rfl) aeX).mono (λl h=>by have:=h.1;unfold reachBytes at this;omega)
theorem aeY {H:Type} {enc:TypeId×Value->H} {w:World}:K.mF enc Tryz.prog w 0 (λ_=>true) true (List K.ak) 52 (λl=>l.length<=8796093021952):=(K.I5 Tryz.underlying52 (by kernel_rfl) (by decide) (nb:=16) (by kernel_rfl) GL.q).mono (λl h=>by have:=h.1;unfold reachBytes at this;omega)
theorem aeZ {H:Type} {enc:TypeId×Value->H} {w:World}:K.mF enc Tryz.prog w 0 (λ_=>true) true (List (List K.ak)) 24 (λl=>∀p∈l,p.length<=8796093021952):=(K.I5 Tryz.underlying24 (by kernel_rfl) (by decide) (nb:=24) (by kernel_rfl) aeY).mono (λl h=>h.2)
theorem ae0 {H:Type} {enc:TypeId×Value->H} {w:World}:K.mF enc Tryz.prog w 0 (λ_=>true) true (List K.aD×List (List K.ak)×Int) 26 (λx=>x.1.length<=4611686018427387903/\∀p∈x.2.1,p.length<=8796093021952):=⟨by kernel_rfl,λf cs x h hn=>by
 obtain⟨a,ha,h1,h2,_⟩:=K.aN (α:=List K.aD) (β:=List (List K.ak)) (γ:=Int) Tryz.underlying26 (by kernel_rfl) rfl rfl rfl Ws aeZ B8.q f cs x h hn;exact⟨a,ha,h1,h2⟩⟩
theorem contract (H:Type) (enc:TypeId×Value->H) (W:World) (base:Nat) (args:Array Value) (ds gs:List (DataW H)) (before:List MemPlace)
  (hval:∀(j:Nat) t v,Tryz.f3.params[j]?=some t->args[j]?=some v->Value.okWide Tryz.prog W .any base t v)
  (hW:DataW.Whole enc Tryz.prog Tryz.f3.params.toList Rows.resolveExactSpec.vars false W args.toList ds gs before)
  (hsz: (DataW.weightsEach Tryz.prog (Tryz.f3.params.toList++Rows.resolveExactSpec.plain.varTypes Tryz.prog) (ds++gs)).all (·<=reachBytes)=true):
  Calls Tryz.prog 3 args W λe W'=>∃v,e=.returned v/\Rows.resolveExactSpec.post enc Tryz.prog Tryz.f3 false true false false W args v W':=by
 have Pb:=hW;obtain⟨p,q,J5,hV,rfl,hfz,jv⟩:=hW;have hA:DataW.TrodAll enc Tryz.prog W 0 (λ_=>true) true Tryz.f3.params.toList args.toList ds p:=J5;rw[Tryz.params3] at hA hval hsz;clear J5;obtain⟨v0,AJ,d0,e0,nh,q0,ha0,rfl,rfl,h0,J5⟩:=trodAll_cons hA;obtain⟨v1,r1,d1,e1,p1,q1,ha1,rfl,rfl,h1,qn⟩:=trodAll_cons J5;subst ha1;obtain⟨v2,r2,d2,e2,p2,q2,ha2,rfl,rfl,h2,ae1⟩:=trodAll_cons qn;subst ha2;obtain⟨v3,r3,d3,fA,p3,xZ,HN,rfl,rfl,h3,ae2⟩:=trodAll_cons ae1;subst HN;obtain⟨v4,T6,d4,jL,Wv,T7,Nr,rfl,rfl,h4,ae3⟩:=trodAll_cons ae2;subst Nr;obtain⟨rfl,rfl,rfl⟩:=trodAll_nil ae3;obtain rfl:args=#[v0,v1,v2,v3,v4]:=by cases args;simp_all
 obtain⟨rfl,rfl⟩:=trodVars_none hV;simp only[List.append_nil] at Pb;obtain⟨a0,Ww,Wx,rfl⟩:=okWide_slice Tryz.underlying22 (hval 0 22 v0 rfl rfl);have ai3:=h1;obtain⟨ae4,rfl,ai4⟩:=okWide_struct Tryz.underlying26 (hval 1 26 v1 rfl rfl);obtain⟨a2,Wy,Wz,rfl⟩:=okWide_slice Tryz.underlying23 (hval 2 23 v2 rfl rfl);obtain⟨a3,WA,WB,rfl⟩:=okWide_slice Tryz.underlying27 (hval 3 27 v3 rfl rfl);obtain⟨a4,WC,WD,rfl⟩:=okWide_slice Tryz.underlying27 (hval 4 27 v4 rfl rfl);have hlt:∀x∈nh++p1++p2++p3++Wv,x.block<W.heap.size:=λx hx=>by simpa using Pb.lt x (by simpa using hx)
 obtain⟨x0,hx0⟩:∃x:List Int,K.av W (K.au K.k_) x (.slice a0 Ww Wx):=by
  obtain⟨fuel,hf⟩:=h0;exact(aeU (enc:=enc) (w:=W)).rv rfl hf
 obtain⟨Lq,hx2,mC⟩:∃x:List K.aD,K.av W (K.au K.k_) x (.slice a2 Wy Wz)/\(x.length<=4611686018427387903):=by
  obtain⟨fuel,hf⟩:=h2;exact(Ws (enc:=enc) (w:=W)).rv rfl hf (K.I6 hsz (j:=2) rfl rfl)
 obtain⟨ai5,T4,V9⟩:∃x:List K.bC,K.av W (K.au K.k_) x (.slice a3 WA WB)/\(x.length<=4611686018427387903):=by
  obtain⟨fuel,hf⟩:=h3;exact(Wu (enc:=enc) (w:=W)).rv rfl hf (K.I6 hsz (j:=3) rfl rfl)
 obtain⟨ai6,ae5,ae6⟩:∃x:List K.bC,K.av W (K.au K.k_) x (.slice a4 WC WD)/\(x.length<=4611686018427387903):=by
  obtain⟨fuel,hf⟩:=h4;exact(Wu (enc:=enc) (w:=W)).rv rfl hf (K.I6 hsz (j:=4) rfl rfl)
 obtain⟨x1,y1,sq,hc1,ha1,d_,WE⟩:∃(x1:List K.aD×List (List K.ak)×Int) (y1 sq:Value),ae4=#[y1,sq,.int .i64 x1.2.2]/\K.av W (K.au K.k_) x1.1 y1/\K.av W (K.au K.k_) x1.2.1 sq/\(x1.1.length<=4611686018427387903/\∀p∈x1.2.1,p.length<=8796093021952):=by
  obtain⟨fuel,hf⟩:=h1;obtain⟨a,ha,hq⟩:=(ae0 (enc:=enc) (w:=W)).2 _ _ _ hf (K.I6 hsz (j:=1) rfl rfl);obtain⟨p,q,e,h2,h3⟩:=K.Zo ha;exact⟨a,p,q,K.dS e,K.tP h2 rfl,K.tP h3 rfl,hq⟩
 subst hc1;have walk:Calls Tryz.prog 3 #[.slice a0 Ww Wx,.agg #[y1,sq,.int .i64 x1.2.2],.slice a2 Wy Wz,.slice a3 WA WB,.slice a4 WC WD] W (K.bH λv w'=>v=.bool true/\K.ax [] W K.k_ w' K.k_):=aeG (K.WI W) hx0 ha1 d_ hx2 T4 ae5 WE.2 WE.1 mC V9 ae6;refine walk.mono ?_;rintro e W' ⟨v,rfl,rfl,hs⟩;have hb:=hs.below;refine⟨_,rfl,[d0,d1,d2,d3,d4],[],_,[],nh++(p1++(p2++(p3++(Wv)))),[],Pb,(trodAll_cons_mk (shut_bool Tryz.underlying4 _) trodAll_mk0),?_,rfl,hb.frame _,λh=>by cases h⟩;have qD:=trodAll_cons_mk (Below.trod laidOut (by kernel_rfl) (of_decide_eq_true (by kernel_rfl)) h0 hb (λx hx=>hlt x (by simp[hx]))) (trodAll_cons_mk (Below.trod laidOut (by kernel_rfl) (of_decide_eq_true (by kernel_rfl)) h1 hb (λx hx=>hlt x (by simp[hx]))) (trodAll_cons_mk (Below.trod laidOut (by kernel_rfl) (of_decide_eq_true (by kernel_rfl)) h2 hb (λx hx=>hlt x (by simp[hx]))) (trodAll_cons_mk (Below.trod laidOut (by kernel_rfl) (of_decide_eq_true (by kernel_rfl)) h3 hb (λx hx=>hlt x (by simp[hx]))) (trodAll_cons_mk (Below.trod laidOut (by kernel_rfl) (of_decide_eq_true (by kernel_rfl)) h4 hb (λx hx=>hlt x (by simp[hx]))) trodAll_mk0))));simp only[List.append_nil] at qD;exact qD
set_option maxRecDepth 100000 in
theorem lifted (os:Os) (started:os.Started) (H:Type) (enc:TypeId×Value->H):
  ReturnsInHanded {} Tryz.checked os 3 .any (Rows.resolveExactSpec.pre6 enc Tryz.prog Tryz.f3 Rows.resolveExactRow.domain false) (Rows.resolveExactSpec.post enc Tryz.prog Tryz.f3 false true false false):=by
 refine returnsInHanded_of_change_sized (C:=Tryz.checked) own started (by kernel_rfl) Tryz.func3
  (ChangeSpec.witness6 (enc:=enc) (C:=Tryz.checked) false ⟨#[],#[.slice none 0 0,.agg #[.slice none 0 0,.slice none 0 0,.int .i64 0],.slice none 0 0,.slice none 0 0,.slice none 0 0],[]⟩ 8 (by kernel_rfl) (by kernel_rfl) (by kernel_rfl) (by kernel_rfl)) ?_
 intro W base args ds gs before hval hW _ hsz _;exact contract H enc W base args ds gs before hval hW hsz
theorem over:Rows.resolveExactRow.holds Tryz.pinned (OpenSpec.ofChange Rows.resolveExactSpec):=
 OpenClaim.holds_of_wide 3 Tryz.f3 rfl rfl rfl rfl rfl rfl rfl ⟨rfl,rfl,rfl,rfl,rfl⟩ rfl rfl rfl rfl rfl (by kernel_rfl) Tryz.func3 (by kernel_rfl)
  (of_decide_eq_true (by kernel_rfl)) (by unfold Func.isWrapper;first|(rw[if_pos (by decide+kernel)];kernel_rfl)|(rw[if_neg (by decide+kernel)];exact⟨rfl,rfl⟩))
  (λos started H enc _=>lifted os started H enc)
theorem proved:Rows.ResolveExactSaid:=over
end Go.Proofs.YtmdhggfehknjjaaGreat.resolveExact
