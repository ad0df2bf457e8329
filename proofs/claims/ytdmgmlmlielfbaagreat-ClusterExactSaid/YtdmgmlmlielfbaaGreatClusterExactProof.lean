/- Which partitions are valid, their values, and the persons found exactly, greedily and for all components, are those of the document. No condition: for every input. -/
import Derived.Test.YtdmgmlmlielfbaaGreatJH5
import Derived.Test.YtdmgmlmlielfbaaGreatL3
import Derived.Test.YtdmgmlmlielfbaaGreatRows
import Derived.WalkKit
import Derived.ProofKit
import Derived.OpenShut
import Derived.JoinedOf
import Derived.JoinedAt
import Derived.ChangeSame
namespace Go.Proofs.YtdmgmlmlielfbaaGreat.clusterExact
open Go.ChangeShapes Go.WideShapes Go.ChangeAt Go.RowKit
set_option linter.unusedVariables false
set_option maxRecDepth 100000
theorem own:ownKnob Tryz.prog.godebug=none:=by kernel_rfl
theorem laidOut:laidOutB Tryz.prog=true:=by kernel_rfl
theorem zP {H:Type} {enc:TypeId×Value->H} {w:World}:K.mE enc Tryz.prog w 0 (λ_=>true) true Int 3:=K.Xt Tryz.underlying3 (by kernel_rfl)
theorem ZS {H:Type} {enc:TypeId×Value->H} {w:World}:K.mE enc Tryz.prog w 0 (λ_=>true) true (List Int) 22:=K.OE Tryz.underlying22 (by kernel_rfl) (by decide) zP
theorem ZT {H:Type} {enc:TypeId×Value->H} {w:World}:K.mE enc Tryz.prog w 0 (λ_=>true) true Bool 4:=K.Xu Tryz.underlying4 (by kernel_rfl)
theorem Co {H:Type} {enc:TypeId×Value->H} {w:World}:K.mE enc Tryz.prog w 0 (λ_=>true) true K.av 47:=⟨by kernel_rfl,λf cs x h=>by
 obtain⟨a,ha⟩:=K.Xw (α:=Int) (β:=Int) Tryz.underlying47 (by kernel_rfl) rfl rfl zP zP f cs x h;exact⟨⟨a.1,a.2⟩,ha⟩⟩
theorem ZU {H:Type} {enc:TypeId×Value->H} {w:World}:K.mE enc Tryz.prog w 0 (λ_=>true) true K.aO 49:=⟨by kernel_rfl,λf cs x h=>by
 obtain⟨a,ha⟩:=K.Xx (α:=K.av) (β:=K.av) (γ:=Int) Tryz.underlying49 (by kernel_rfl) rfl rfl rfl Co Co zP f cs x h;exact⟨⟨a.1,a.2.1,a.2.2⟩,ha⟩⟩
theorem ZV {H:Type} {enc:TypeId×Value->H} {w:World}:K.mE enc Tryz.prog w 0 (λ_=>true) true (List K.aO) 23:=K.OE Tryz.underlying23 (by kernel_rfl) (by decide) ZU
theorem ZW {H:Type} {enc:TypeId×Value->H} {w:World}:K.nH enc Tryz.prog w 0 (λ_=>true) true K.bG 52 (λ_=>True):=⟨by kernel_rfl,λf cs x h hn=>by
 obtain⟨a,ha,_⟩:=K.Xz (α:=K.av) (β:=K.av) (γ:=Int) (δ:=Int) (ε:=Bool) Tryz.underlying52 (by kernel_rfl) rfl rfl rfl rfl rfl Co.q Co.q zP.q zP.q ZT.q f cs x h hn;exact⟨⟨a.1,a.2.1,a.2.2.1,a.2.2.2.1,a.2.2.2.2⟩,ha,trivial⟩⟩
theorem ZX {H:Type} {enc:TypeId×Value->H} {w:World}:K.nH enc Tryz.prog w 0 (λ_=>true) true (List K.bG) 24 (λ_=>True):=(K.H8 Tryz.underlying24 (by kernel_rfl) (by decide) (nb:=56) (by kernel_rfl) ZW).mono (λ_ _=>trivial)
theorem ZY {H:Type} {enc:TypeId×Value->H} {w:World}:K.nH enc Tryz.prog w 0 (λ_=>true) true (List K.av) 53 (λl=>l.length<=8796093021952):=(K.H8 Tryz.underlying53 (by kernel_rfl) (by decide) (nb:=16) (by kernel_rfl) Co.q).mono (λl h=>by have:=h.1;unfold reachBytes at this;omega)
theorem ZZ {H:Type} {enc:TypeId×Value->H} {w:World}:K.nH enc Tryz.prog w 0 (λ_=>true) true (List (List K.av)) 25 (λl=>∀p∈l,p.length<=8796093021952):=(K.H8 Tryz.underlying25 (by kernel_rfl) (by decide) (nb:=24) (by kernel_rfl) ZY).mono (λl h=>h.2)
theorem contract (H:Type) (enc:TypeId×Value->H) (W:World) (base:Nat) (args:Array Value) (ds gs:List (DataW H)) (before:List MemPlace)
  (hval:∀(j:Nat) t v,Tryz.f3.params[j]?=some t->args[j]?=some v->Value.okWide Tryz.prog W .any base t v)
  (hW:DataW.Whole enc Tryz.prog Tryz.f3.params.toList Rows.clusterExactSpec.vars false W args.toList ds gs before)
  (hsz: (DataW.weightsEach Tryz.prog (Tryz.f3.params.toList++Rows.clusterExactSpec.plain.varTypes Tryz.prog) (ds++gs)).all (·<=reachBytes)=true):
  Calls Tryz.prog 3 args W λe W'=>∃v,e=.returned v/\Rows.clusterExactSpec.post enc Tryz.prog Tryz.f3 false true false false W args v W':=by
 have JG:=hW;obtain⟨p,q,EG,hV,rfl,hfz,iB⟩:=hW;have hA:DataW.TrodAll enc Tryz.prog W 0 (λ_=>true) true Tryz.f3.params.toList args.toList ds p:=EG;rw[Tryz.params3] at hA hval hsz;clear EG;obtain⟨v0,Dt,d0,e0,oQ,q0,ha0,rfl,rfl,h0,EG⟩:=trodAll_cons hA;obtain⟨v1,r1,d1,e1,p1,q1,ha1,rfl,rfl,h1,lV⟩:=trodAll_cons EG;subst ha1;obtain⟨v2,r2,d2,e2,p2,q2,ha2,rfl,rfl,h2,Z0⟩:=trodAll_cons lV;subst ha2;obtain⟨v3,r3,d3,fV,p3,tY,yx,rfl,rfl,h3,Z1⟩:=trodAll_cons Z0;subst yx;obtain⟨rfl,rfl,rfl⟩:=trodAll_nil Z1;obtain rfl:args=#[v0,v1,v2,v3]:=by cases args;simp_all
 obtain⟨rfl,rfl⟩:=trodVars_none hV;simp only[List.append_nil] at JG;obtain⟨a0,QV,QW,rfl⟩:=okWide_slice Tryz.underlying22 (hval 0 22 v0 rfl rfl);obtain⟨a1,QX,QY,rfl⟩:=okWide_slice Tryz.underlying23 (hval 1 23 v1 rfl rfl);obtain⟨a2,QZ,Q5,rfl⟩:=okWide_slice Tryz.underlying24 (hval 2 24 v2 rfl rfl);obtain⟨a3,Q6,Q7,rfl⟩:=okWide_slice Tryz.underlying25 (hval 3 25 v3 rfl rfl);have hlt:∀x∈oQ++p1++p2++p3,x.block<W.heap.size:=λx hx=>by simpa using JG.lt x (by simpa using hx)
 obtain⟨x0,hx0⟩:∃x:List Int,K.aG W (K.aB K.k7) x (.slice a0 QV QW):=by
  obtain⟨fuel,hf⟩:=h0;exact(ZS (enc:=enc) (w:=W)).rv rfl hf
 obtain⟨x1,hx1⟩:∃x:List K.aO,K.aG W (K.aB K.k7) x (.slice a1 QX QY):=by
  obtain⟨fuel,hf⟩:=h1;exact(ZV (enc:=enc) (w:=W)).rv rfl hf
 obtain⟨e5,hx2,j8⟩:∃x:List K.bG,K.aG W (K.aB K.k7) x (.slice a2 QZ Q5)/\True:=by
  obtain⟨fuel,hf⟩:=h2;exact(ZX (enc:=enc) (w:=W)).rv rfl hf (K.OI hsz (j:=2) rfl rfl)
 obtain⟨qc,OG,D1⟩:∃x:List (List K.av),K.aG W (K.aB K.k7) x (.slice a3 Q6 Q7)/\(∀p∈x,p.length<=8796093021952):=by
  obtain⟨fuel,hf⟩:=h3;exact(ZZ (enc:=enc) (w:=W)).rv rfl hf (K.OI hsz (j:=3) rfl rfl)
 have walk:Calls Tryz.prog 3 #[.slice a0 QV QW,.slice a1 QX QY,.slice a2 QZ Q5,.slice a3 Q6 Q7] W (K.bM λv w'=>v=.bool true/\K.ay [] W K.k7 w' K.k7):=ZI (K.Xs W) hx0 hx1 hx2 OG D1;refine walk.mono ?_;rintro e W' ⟨v,rfl,rfl,hs⟩;have hb:=hs.below;refine⟨_,rfl,[d0,d1,d2,d3],[],_,[],oQ++(p1++(p2++(p3))),[],JG,(trodAll_cons_mk (shut_bool Tryz.underlying4 _) trodAll_mk0),?_,rfl,hb.frame _,λh=>by cases h⟩;have oz:=trodAll_cons_mk (Below.trod laidOut (by kernel_rfl) (of_decide_eq_true (by kernel_rfl)) h0 hb (λx hx=>hlt x (by simp[hx]))) (trodAll_cons_mk (Below.trod laidOut (by kernel_rfl) (of_decide_eq_true (by kernel_rfl)) h1 hb (λx hx=>hlt x (by simp[hx]))) (trodAll_cons_mk (Below.trod laidOut (by kernel_rfl) (of_decide_eq_true (by kernel_rfl)) h2 hb (λx hx=>hlt x (by simp[hx]))) (trodAll_cons_mk (Below.trod laidOut (by kernel_rfl) (of_decide_eq_true (by kernel_rfl)) h3 hb (λx hx=>hlt x (by simp[hx]))) trodAll_mk0)));simp only[List.append_nil] at oz;exact oz
set_option maxRecDepth 100000 in
theorem lifted (os:Os) (started:os.Started) (H:Type) (enc:TypeId×Value->H):
  ReturnsInHanded {} Tryz.checked os 3 .any (Rows.clusterExactSpec.pre6 enc Tryz.prog Tryz.f3 Rows.clusterExactRow.domain false) (Rows.clusterExactSpec.post enc Tryz.prog Tryz.f3 false true false false):=by
 refine returnsInHanded_of_change_sized (C:=Tryz.checked) own started (by kernel_rfl) Tryz.func3
  (ChangeSpec.witness6 (enc:=enc) (C:=Tryz.checked) false ⟨#[],#[.slice none 0 0,.slice none 0 0,.slice none 0 0,.slice none 0 0],[]⟩ 8 (by kernel_rfl) (by kernel_rfl) (by kernel_rfl) (by kernel_rfl)) ?_
 intro W base args ds gs before hval hW _ hsz _;exact contract H enc W base args ds gs before hval hW hsz
theorem over:Rows.clusterExactRow.holds Tryz.pinned (OpenSpec.ofChange Rows.clusterExactSpec):=
 OpenClaim.holds_of_wide 3 Tryz.f3 rfl rfl rfl rfl rfl rfl rfl ⟨rfl,rfl,rfl,rfl,rfl⟩ rfl rfl rfl rfl rfl (by kernel_rfl) Tryz.func3 (by kernel_rfl)
  (of_decide_eq_true (by kernel_rfl)) (by unfold Func.isWrapper;first|(rw[if_pos (by decide+kernel)];kernel_rfl)|(rw[if_neg (by decide+kernel)];exact⟨rfl,rfl⟩))
  (λos started H enc _=>lifted os started H enc)
theorem proved:Rows.ClusterExactSaid:=over
end Go.Proofs.YtdmgmlmlielfbaaGreat.clusterExact
