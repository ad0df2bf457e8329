/- Candidates, standing decisions, bonds and solutions, with every error, are those of the document. No condition: for every input. -/
import Derived.Test.YtmdhggfehknjjaaGreatJMBME
import Derived.Test.YtmdhggfehknjjaaGreatL4
import Derived.Test.YtmdhggfehknjjaaGreatRows
import Derived.WalkKit
import Derived.ProofKit
import Derived.OpenShut
import Derived.JoinedOf
import Derived.JoinedAt
import Derived.ChangeSame
namespace Go.Proofs.YtmdhggfehknjjaaGreat.resolveFull
open Go.ChangeShapes Go.WideShapes Go.ChangeAt Go.RowKit
set_option linter.unusedVariables false
set_option maxRecDepth 100000
theorem own:ownKnob Tryz.prog.godebug=none:=by kernel_rfl
theorem laidOut:laidOutB Tryz.prog=true:=by kernel_rfl
theorem Em {H:Type} {enc:TypeId×Value->H} {w:World}:K.sJ enc Tryz.prog w 0 (λ_=>true) true Int 3:=K.ah7 Tryz.underlying3 (by kernel_rfl)
theorem w6 {H:Type} {enc:TypeId×Value->H} {w:World}:K.sJ enc Tryz.prog w 0 (λ_=>true) true (List Int) 22:=K.ah9 Tryz.underlying22 (by kernel_rfl) (by decide) Em
theorem aiH {H:Type} {enc:TypeId×Value->H} {w:World}:K.sJ enc Tryz.prog w 0 (λ_=>true) true Bool 4:=K.ah8 Tryz.underlying4 (by kernel_rfl)
theorem yy {H:Type} {enc:TypeId×Value->H} {w:World}:K.sJ enc Tryz.prog w 0 (λ_=>true) true K.au 55:=⟨by kernel_rfl,λf cs x h=>by
 obtain⟨a,ha⟩:=K.cr (α:=Int) (β:=Int) Tryz.underlying55 (by kernel_rfl) rfl rfl Em Em f cs x h;exact⟨⟨a.1,a.2⟩,ha⟩⟩
theorem aiI {H:Type} {enc:TypeId×Value->H} {w:World}:K.sJ enc Tryz.prog w 0 (λ_=>true) true K.au 63:=⟨by kernel_rfl,λf cs x h=>by
 obtain⟨a,ha⟩:=K.cr (α:=Int) (β:=Int) Tryz.underlying63 (by kernel_rfl) rfl rfl Em Em f cs x h;exact⟨⟨a.1,a.2⟩,ha⟩⟩
theorem aiJ {H:Type} {enc:TypeId×Value->H} {w:World}:K.sK enc Tryz.prog w 0 (λ_=>true) true K.bp 89 (λ_=>True):=⟨by kernel_rfl,λf cs x h hn=>by
 obtain⟨a,ha,_⟩:=K.aid (α:=K.au) (β:=K.au) (γ:=Int) (δ:=Int) (ε:=Bool) Tryz.underlying89 (by kernel_rfl) rfl rfl rfl rfl rfl yy.q yy.q Em.q Em.q aiH.q f cs x h hn;exact⟨⟨a.1,a.2.1,a.2.2.1,a.2.2.2.1,a.2.2.2.2⟩,ha,trivial⟩⟩
theorem aiK {H:Type} {enc:TypeId×Value->H} {w:World}:K.sK enc Tryz.prog w 0 (λ_=>true) true (List K.bp) 27 (λl=>l.length<=4611686018427387903):=(K.aia Tryz.underlying27 (by kernel_rfl) (by decide) (nb:=56) (by kernel_rfl) aiJ).mono (λl h=>by have:=h.1;unfold reachBytes at this;omega)
theorem contract (H:Type) (enc:TypeId×Value->H) (W:World) (base:Nat) (args:Array Value) (ds gs:List (DataW H)) (before:List MemPlace)
  (hval:∀(j:Nat) t v,Tryz.f6.params[j]?=some t->args[j]?=some v->Value.okWide Tryz.prog W .any base t v)
  (hW:DataW.Whole enc Tryz.prog Tryz.f6.params.toList Rows.resolveFullSpec.vars false W args.toList ds gs before)
  (hsz: (DataW.weightsEach Tryz.prog (Tryz.f6.params.toList++Rows.resolveFullSpec.plain.varTypes Tryz.prog) (ds++gs)).all (·<=reachBytes)=true):
  Calls Tryz.prog 6 args W λe W'=>∃v,e=.returned v/\Rows.resolveFullSpec.post enc Tryz.prog Tryz.f6 false true false false W args v W':=by
 have Sy:=hW;obtain⟨p,q,MA,hV,rfl,hfz,gi⟩:=hW;have hA:DataW.TrodAll enc Tryz.prog W 0 (λ_=>true) true Tryz.f6.params.toList args.toList ds p:=MA;rw[Tryz.params6] at hA hval hsz;clear MA;obtain⟨v0,G7,d0,e0,jF,q0,ha0,rfl,rfl,h0,MA⟩:=trodAll_cons hA;obtain⟨v1,r1,d1,e1,p1,q1,ha1,rfl,rfl,h1,kS⟩:=trodAll_cons MA;subst ha1;obtain⟨v2,r2,d2,e2,p2,q2,ha2,rfl,rfl,h2,aiL⟩:=trodAll_cons kS;subst ha2;obtain⟨v3,r3,d3,eH,p3,uP,Ki,rfl,rfl,h3,aiM⟩:=trodAll_cons aiL;subst Ki;obtain⟨v4,vo,d4,iM,wD,G1,Q7,rfl,rfl,h4,aiN⟩:=trodAll_cons aiM;subst Q7;obtain⟨rfl,rfl,rfl⟩:=trodAll_nil aiN;obtain rfl:args=#[v0,v1,v2,v3,v4]:=by cases args;simp_all
 obtain⟨rfl,rfl⟩:=trodVars_none hV;simp only[List.append_nil] at Sy;obtain⟨a0,dL,sy,rfl⟩:=okWide_slice Tryz.underlying22 (hval 0 22 v0 rfl rfl);obtain⟨a1,e3,PV,rfl⟩:=okWide_slice Tryz.underlying22 (hval 1 22 v1 rfl rfl);have amk:=h2;obtain⟨aiO,rfl,aml⟩:=okWide_struct Tryz.underlying63 (hval 2 63 v2 rfl rfl);obtain⟨a3,fz,vt,rfl⟩:=okWide_slice Tryz.underlying27 (hval 3 27 v3 rfl rfl);have amm:=h4;obtain⟨JE,rfl⟩:∃n:Int,v4=.int .i64 n:=okWide_int Tryz.underlying3 (hval 4 3 v4 rfl rfl);have hlt:∀x∈jF++p1++p2++p3++wD,x.block<W.heap.size:=λx hx=>by simpa using Sy.lt x (by simpa using hx)
 obtain⟨x0,hx0⟩:∃x:List Int,K.aq W (K.aj K.oy) x (.slice a0 dL sy):=by
  obtain⟨fuel,hf⟩:=h0;exact(w6 (enc:=enc) (w:=W)).rv rfl hf
 obtain⟨x1,hx1⟩:∃x:List Int,K.aq W (K.aj K.oy) x (.slice a1 e3 PV):=by
  obtain⟨fuel,hf⟩:=h1;exact(w6 (enc:=enc) (w:=W)).rv rfl hf
 obtain⟨EO,E4,air⟩:∃x:List K.bp,K.aq W (K.aj K.oy) x (.slice a3 fz vt)/\(x.length<=4611686018427387903):=by
  obtain⟨fuel,hf⟩:=h3;exact(aiK (enc:=enc) (w:=W)).rv rfl hf (K.aic hsz (j:=3) rfl rfl)
 obtain⟨uN,hx2⟩:∃x:K.au,aiO=(K.aV x).toArray:=by
  obtain⟨fuel,hf⟩:=h2;obtain⟨a,ha⟩:=(aiI (enc:=enc) (w:=W)).2 _ _ _ hf;exact⟨a,by have:=K.nH.1 ha;rw[<-this];rfl⟩
 subst hx2;have walk:Calls Tryz.prog 6 #[.slice a0 dL sy,.slice a1 e3 PV,.agg (K.aV uN).toArray,.slice a3 fz vt,.int .i64 JE] W (K.aZ λv w'=>v=.bool true/\K.av [] W K.oy w' K.oy):=aiz (Cu:=uN.a) (hh0:=uN.b) (K.ah6 W) hx0 hx1 E4;refine walk.mono ?_;rintro e W' ⟨v,rfl,rfl,hs⟩;have hb:=hs.below;refine⟨_,rfl,[d0,d1,d2,d3,d4],[],_,[],jF++(p1++(p2++(p3++(wD)))),[],Sy,(trodAll_cons_mk (shut_bool Tryz.underlying4 _) trodAll_mk0),?_,rfl,hb.frame _,λh=>by cases h⟩;have qx:=trodAll_cons_mk (Below.trod laidOut (by kernel_rfl) (of_decide_eq_true (by kernel_rfl)) h0 hb (λx hx=>hlt x (by simp[hx]))) (trodAll_cons_mk (Below.trod laidOut (by kernel_rfl) (of_decide_eq_true (by kernel_rfl)) h1 hb (λx hx=>hlt x (by simp[hx]))) (trodAll_cons_mk (Below.trod laidOut (by kernel_rfl) (of_decide_eq_true (by kernel_rfl)) h2 hb (λx hx=>hlt x (by simp[hx]))) (trodAll_cons_mk (Below.trod laidOut (by kernel_rfl) (of_decide_eq_true (by kernel_rfl)) h3 hb (λx hx=>hlt x (by simp[hx]))) (trodAll_cons_mk (Below.trod laidOut (by kernel_rfl) (of_decide_eq_true (by kernel_rfl)) h4 hb (λx hx=>hlt x (by simp[hx]))) trodAll_mk0))));simp only[List.append_nil] at qx;exact qx
set_option maxRecDepth 100000 in
theorem lifted (os:Os) (started:os.Started) (H:Type) (enc:TypeId×Value->H):
  ReturnsInHanded {} Tryz.checked os 6 .any (Rows.resolveFullSpec.pre6 enc Tryz.prog Tryz.f6 Rows.resolveFullRow.domain false) (Rows.resolveFullSpec.post enc Tryz.prog Tryz.f6 false true false false):=by
 refine returnsInHanded_of_change_sized (C:=Tryz.checked) own started (by kernel_rfl) Tryz.func6
  (ChangeSpec.witness6 (enc:=enc) (C:=Tryz.checked) false ⟨#[],#[.slice none 0 0,.slice none 0 0,.agg #[.int .i64 0,.int .i64 0],.slice none 0 0,.int .i64 0],[]⟩ 8 (by kernel_rfl) (by kernel_rfl) (by kernel_rfl) (by kernel_rfl)) ?_
 intro W base args ds gs before hval hW _ hsz _;exact contract H enc W base args ds gs before hval hW hsz
theorem over:Rows.resolveFullRow.holds Tryz.pinned (OpenSpec.ofChange Rows.resolveFullSpec):=
 OpenClaim.holds_of_wide 6 Tryz.f6 rfl rfl rfl rfl rfl rfl rfl ⟨rfl,rfl,rfl,rfl,rfl⟩ rfl rfl rfl rfl rfl (by kernel_rfl) Tryz.func6 (by kernel_rfl)
  (of_decide_eq_true (by kernel_rfl)) (by unfold Func.isWrapper;first|(rw[if_pos (by decide+kernel)];kernel_rfl)|(rw[if_neg (by decide+kernel)];exact⟨rfl,rfl⟩))
  (λos started H enc _=>lifted os started H enc)
theorem proved:Rows.ResolveFullSaid:=over
end Go.Proofs.YtmdhggfehknjjaaGreat.resolveFull
