/- A record that leaves its sheet leaves every person, and persons without it, in components that it was not in, stay as they are. No condition: for every input. -/
import Derived.Test.YtmdhggfehknjjaaGreatJNC
import Derived.Test.YtmdhggfehknjjaaGreatRows
import Derived.Test.YtmdhggfehknjjaaGreatL3
import Derived.WalkKit
import Derived.ProofKit
import Derived.OpenShut
import Derived.JoinedOf
import Derived.JoinedAt
import Derived.ChangeSame
namespace Go.Proofs.YtmdhggfehknjjaaGreat.resolveWithdrawn
open Go.ChangeShapes Go.WideShapes Go.ChangeAt Go.RowKit
set_option linter.unusedVariables false
set_option maxRecDepth 100000
theorem own:ownKnob Tryz.prog.godebug=none:=by kernel_rfl
theorem laidOut:laidOutB Tryz.prog=true:=by kernel_rfl
theorem aaZ {H:Type} {enc:TypeId×Value->H} {w:World}:K.yH enc Tryz.prog w 0 (λ_=>true) true Int 3:=K.oR Tryz.underlying3 (by kernel_rfl)
theorem aa0 {H:Type} {enc:TypeId×Value->H} {w:World}:K.yH enc Tryz.prog w 0 (λ_=>true) true (List Int) 22:=K.vp Tryz.underlying22 (by kernel_rfl) (by decide) aaZ
theorem contract (H:Type) (enc:TypeId×Value->H) (W:World) (base:Nat) (args:Array Value) (ds gs:List (DataW H)) (before:List MemPlace)
  (hval:∀(j:Nat) t v,Tryz.f8.params[j]?=some t->args[j]?=some v->Value.okWide Tryz.prog W .any base t v)
  (hW:DataW.Whole enc Tryz.prog Tryz.f8.params.toList Rows.resolveWithdrawnSpec.vars false W args.toList ds gs before):
  Calls Tryz.prog 8 args W λe W'=>∃v,e=.returned v/\Rows.resolveWithdrawnSpec.post enc Tryz.prog Tryz.f8 false true false false W args v W':=by
 have La:=hW;obtain⟨p,q,F4,hV,rfl,hfz,iz⟩:=hW;have hA:DataW.TrodAll enc Tryz.prog W 0 (λ_=>true) true Tryz.f8.params.toList args.toList ds p:=F4;rw[Tryz.params8] at hA hval;clear F4;obtain⟨v0,N2,d0,e0,iu,q0,ha0,rfl,rfl,h0,F4⟩:=trodAll_cons hA;obtain⟨rfl,rfl,rfl⟩:=trodAll_nil F4;obtain rfl:args=#[v0]:=by cases args;simp_all
 obtain⟨rfl,rfl⟩:=trodVars_none hV;simp only[List.append_nil] at La;obtain⟨a0,TK,TM,rfl⟩:=okWide_slice Tryz.underlying22 (hval 0 22 v0 rfl rfl);have hlt:∀x∈iu,x.block<W.heap.size:=λx hx=>by simpa using La.lt x (by simpa using hx)
 obtain⟨x0,hx0⟩:∃x:List Int,K.aB W (K.aA K.sj) x (.slice a0 TK TM):=by
  obtain⟨fuel,hf⟩:=h0;exact(aa0 (enc:=enc) (w:=W)).rv rfl hf
 have walk:Calls Tryz.prog 8 #[.slice a0 TK TM] W (K.bI λv w'=>v=.bool true/\K.ay [] W K.sj w' K.sj):=aar (K.RA W) hx0;refine walk.mono ?_;rintro e W' ⟨v,rfl,rfl,hs⟩;have hb:=hs.below;refine⟨_,rfl,[d0],[],_,[],iu,[],La,(trodAll_cons_mk (shut_bool Tryz.underlying4 _) trodAll_mk0),?_,rfl,hb.frame _,λh=>by cases h⟩;have tT:=trodAll_cons_mk (Below.trod laidOut (by kernel_rfl) (of_decide_eq_true (by kernel_rfl)) h0 hb (λx hx=>hlt x (by simp[hx]))) trodAll_mk0;simp only[List.append_nil] at tT;exact tT
set_option maxRecDepth 100000 in
theorem lifted (os:Os) (started:os.Started) (H:Type) (enc:TypeId×Value->H):
  ReturnsInHanded {} Tryz.checked os 8 .any (Rows.resolveWithdrawnSpec.pre6 enc Tryz.prog Tryz.f8 Rows.resolveWithdrawnRow.domain false) (Rows.resolveWithdrawnSpec.post enc Tryz.prog Tryz.f8 false true false false):=by
 refine returnsInHanded_of_change (C:=Tryz.checked) own started (by kernel_rfl) Tryz.func8
  (ChangeSpec.witness6 (enc:=enc) (C:=Tryz.checked) false ⟨#[],#[.slice none 0 0],[]⟩ 8 (by kernel_rfl) (by kernel_rfl) (by kernel_rfl) (by kernel_rfl)) ?_
 intro W base args ds gs before hval hW _ _;exact contract H enc W base args ds gs before hval hW
theorem over:Rows.resolveWithdrawnRow.holds Tryz.pinned (OpenSpec.ofChange Rows.resolveWithdrawnSpec):=
 OpenClaim.holds_of_wide 8 Tryz.f8 rfl rfl rfl rfl rfl rfl rfl ⟨rfl,rfl,rfl,rfl,rfl⟩ rfl rfl rfl rfl rfl (by kernel_rfl) Tryz.func8 (by kernel_rfl)
  (of_decide_eq_true (by kernel_rfl)) (by unfold Func.isWrapper;first|(rw[if_pos (by decide+kernel)];kernel_rfl)|(rw[if_neg (by decide+kernel)];exact⟨rfl,rfl⟩))
  (λos started H enc _=>lifted os started H enc)
theorem proved:Rows.ResolveWithdrawnSaid:=over
end Go.Proofs.YtmdhggfehknjjaaGreat.resolveWithdrawn
