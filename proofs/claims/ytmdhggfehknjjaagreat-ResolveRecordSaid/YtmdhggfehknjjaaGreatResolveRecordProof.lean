/- A solution depends on what is sent alone: a record that is gone, or has no hash in common any more, is in no person. No condition: for every input. -/
import Derived.Test.YtmdhggfehknjjaaGreatJNE
import Derived.Test.YtmdhggfehknjjaaGreatRows
import Derived.Test.YtmdhggfehknjjaaGreatL3
import Derived.WalkKit
import Derived.ProofKit
import Derived.OpenShut
import Derived.JoinedOf
import Derived.JoinedAt
import Derived.ChangeSame
namespace Go.Proofs.YtmdhggfehknjjaaGreat.resolveRecord
open Go.ChangeShapes Go.WideShapes Go.ChangeAt Go.RowKit
set_option linter.unusedVariables false
set_option maxRecDepth 100000
theorem own:ownKnob Tryz.prog.godebug=none:=by kernel_rfl
theorem laidOut:laidOutB Tryz.prog=true:=by kernel_rfl
theorem ql {H:Type} {enc:TypeId×Value->H} {w:World}:K.xV enc Tryz.prog w 0 (λ_=>true) true Int 3:=K.Zo Tryz.underlying3 (by kernel_rfl)
theorem qh {H:Type} {enc:TypeId×Value->H} {w:World}:K.xV enc Tryz.prog w 0 (λ_=>true) true (List Int) 22:=K.Zp Tryz.underlying22 (by kernel_rfl) (by decide) ql
theorem contract (H:Type) (enc:TypeId×Value->H) (W:World) (base:Nat) (args:Array Value) (ds gs:List (DataW H)) (before:List MemPlace)
  (hval:∀(j:Nat) t v,Tryz.f7.params[j]?=some t->args[j]?=some v->Value.okWide Tryz.prog W .any base t v)
  (hW:DataW.Whole enc Tryz.prog Tryz.f7.params.toList Rows.resolveRecordSpec.vars false W args.toList ds gs before):
  Calls Tryz.prog 7 args W λe W'=>∃v,e=.returned v/\Rows.resolveRecordSpec.post enc Tryz.prog Tryz.f7 false true false false W args v W':=by
 have KD:=hW;obtain⟨p,q,FL,hV,rfl,hfz,gW⟩:=hW;have hA:DataW.TrodAll enc Tryz.prog W 0 (λ_=>true) true Tryz.f7.params.toList args.toList ds p:=FL;rw[Tryz.params7] at hA hval;clear FL;obtain⟨v0,M7,d0,e0,iA,q0,ha0,rfl,rfl,h0,FL⟩:=trodAll_cons hA;obtain⟨rfl,rfl,rfl⟩:=trodAll_nil FL;obtain rfl:args=#[v0]:=by cases args;simp_all
 obtain⟨rfl,rfl⟩:=trodVars_none hV;simp only[List.append_nil] at KD;obtain⟨a0,SB,SC,rfl⟩:=okWide_slice Tryz.underlying22 (hval 0 22 v0 rfl rfl);have hlt:∀x∈iA,x.block<W.heap.size:=λx hx=>by simpa using KD.lt x (by simpa using hx)
 obtain⟨x0,hx0⟩:∃x:List Int,K.aB W (K.ax K.r4) x (.slice a0 SB SC):=by
  obtain⟨fuel,hf⟩:=h0;exact(qh (enc:=enc) (w:=W)).rv rfl hf
 have walk:Calls Tryz.prog 7 #[.slice a0 SB SC] W (K.bI λv w'=>v=.bool true/\K.aA [] W K.r4 w' K.r4):=X2 (K.Zn W) hx0;refine walk.mono ?_;rintro e W' ⟨v,rfl,rfl,hs⟩;have hb:=hs.below;refine⟨_,rfl,[d0],[],_,[],iA,[],KD,(trodAll_cons_mk (shut_bool Tryz.underlying4 _) trodAll_mk0),?_,rfl,hb.frame _,λh=>by cases h⟩;have tQ:=trodAll_cons_mk (Below.trod laidOut (by kernel_rfl) (of_decide_eq_true (by kernel_rfl)) h0 hb (λx hx=>hlt x (by simp[hx]))) trodAll_mk0;simp only[List.append_nil] at tQ;exact tQ
set_option maxRecDepth 100000 in
theorem lifted (os:Os) (started:os.Started) (H:Type) (enc:TypeId×Value->H):
  ReturnsInHanded {} Tryz.checked os 7 .any (Rows.resolveRecordSpec.pre6 enc Tryz.prog Tryz.f7 Rows.resolveRecordRow.domain false) (Rows.resolveRecordSpec.post enc Tryz.prog Tryz.f7 false true false false):=by
 refine returnsInHanded_of_change (C:=Tryz.checked) own started (by kernel_rfl) Tryz.func7
  (ChangeSpec.witness6 (enc:=enc) (C:=Tryz.checked) false ⟨#[],#[.slice none 0 0],[]⟩ 8 (by kernel_rfl) (by kernel_rfl) (by kernel_rfl) (by kernel_rfl)) ?_
 intro W base args ds gs before hval hW _ _;exact contract H enc W base args ds gs before hval hW
theorem over:Rows.resolveRecordRow.holds Tryz.pinned (OpenSpec.ofChange Rows.resolveRecordSpec):=
 OpenClaim.holds_of_wide 7 Tryz.f7 rfl rfl rfl rfl rfl rfl rfl ⟨rfl,rfl,rfl,rfl,rfl⟩ rfl rfl rfl rfl rfl (by kernel_rfl) Tryz.func7 (by kernel_rfl)
  (of_decide_eq_true (by kernel_rfl)) (by unfold Func.isWrapper;first|(rw[if_pos (by decide+kernel)];kernel_rfl)|(rw[if_neg (by decide+kernel)];exact⟨rfl,rfl⟩))
  (λos started H enc _=>lifted os started H enc)
theorem proved:Rows.ResolveRecordSaid:=over
end Go.Proofs.YtmdhggfehknjjaaGreat.resolveRecord
