/- A pseudonym is a function of the key, the number, the ref and the turn of its own project. Condition: package-level variables of the library (tables of digits) start as the program's text lays them, which the card ties to that text. -/
import Derived.Test.YtfkggfmibpigpaaGreatDoorJPBPQ
import Derived.Test.YtfkggfmibpigpaaGreatDoorRows
import Derived.Test.YtfkggfmibpigpaaGreatDoorL2
import Derived.WalkKit
import Derived.ProofKit
import Derived.OpenShut
import Derived.JoinedOf
import Derived.JoinedAt
import Derived.ChangeSame
import Derived.LaidMore
import Derived.Stop.Joined
import Derived.SevenTiedAt
import Derived.Lib.LaidTab
import Derived.Test.YtfkggfmibpigpaaGreatDoorCards
import Derived.Test.YtfkggfmibpigpaaGreatDoorTie
namespace Go.Proofs.YtfkggfmibpigpaaGreatDoor.projectKeys
open Go.ChangeShapes Go.WideShapes Go.ChangeAt Go.RowKit
set_option linter.unusedVariables false
set_option maxRecDepth 100000
theorem own : ownKnob Tryz.prog.godebug = none := by kernel_rfl
theorem laidOut : laidOutB Tryz.prog = true := by kernel_rfl
theorem op_int {H : Type} {enc : TypeId × Value → H} {w : World} : K.Opens enc Tryz.prog w 0 (fun _ => true) true  Int 3 := K.opens_int Tryz.underlying3 (by kernel_rfl)
theorem op_ints {H : Type} {enc : TypeId × Value → H} {w : World} : K.Opens enc Tryz.prog w 0 (fun _ => true) true  (List Int) 22 := K.opens_slice Tryz.underlying22 (by kernel_rfl) (by decide) op_int
abbrev laid3 : List (String × DataW Unit) := [("math/bits.deBruijn32tab", Rows.laid_math_bits_deBruijn32tab), ("math/bits.deBruijn64tab", Rows.laid_math_bits_deBruijn64tab), ("internal/strconv.uint64pow10", Rows.laid_internal_strconv_uint64pow10)]
theorem datum : (Rows.laid_internal_strconv_uint64pow10 : DataW Unit) = Lib.tabData .u64 Lib.pow10Tab := by kernel_rfl
theorem door_met (os : Os) (args : Array Value) : laidMetH Tryz.prog laid3 ((World.doorLaid Tryz.prog 24 os).forCall (fun _ _ => 0) ⟨#[], args, []⟩).memory :=
  laidMetH_of_parts3 (fuel := 8) (laidMet_of_run' 8 (by kernel_rfl) (by kernel_rfl)) (by kernel_rfl) (by kernel_rfl)
/-- What the row says of the table of powers of ten. -/
theorem tab_of_laid {W : World} (h : laidMetH Tryz.prog laid3 W) : Lib.TabIs Tryz.prog W "internal/strconv.uint64pow10" .u64 Lib.pow10Tab := by
  rw [MakeChecks.laidMetH_plain _ _ _ (by kernel_rfl)] at h
  obtain ⟨ps, ⟨g0, t0, cs0, f0, p0, q0, hg0, ht0, hv0, hd0, ⟨g1, t1, cs1, f1, p1, q1, hg1, ht1, hv1, hd1, ⟨g2, t2, cs2, f2, p2, q2, hg2, ht2, hv2, hd2, _, _⟩, _⟩, _⟩, _, _⟩ := h
  obtain rfl := Option.some.inj ((by kernel_rfl : Tryz.prog.globalNamed "internal/strconv.uint64pow10" = some 0).symm.trans hg2)
  obtain rfl := Option.some.inj ((by kernel_rfl : (Tryz.prog.globals[0]?).map (·.type) = some 148).symm.trans ht2)
  unfold Lib.TabIs
  rw [datum] at hd2
  rw [hv2, ← Lib.cells_of_tab (k := .u64) (zs := Lib.pow10Tab) (n := 20) Tryz.underlying148 Tryz.underlying27 (by kernel_rfl) (by kernel_rfl) hd2]
/-- What the steps give, for every argument. -/
theorem contract (H : Type) (enc : TypeId × Value → H) (W : World) (base : Nat) (args : Array Value) (ds gs : List (DataW H)) (before : List MemPlace)
    (hval : ∀ (j : Nat) t v, Tryz.f3.params[j]? = some t → args[j]? = some v → Value.okWide Tryz.prog W .any base t v)
    (hW : DataW.Whole enc Tryz.prog Tryz.f3.params.toList Rows.projectKeysSpec.vars false W args.toList ds gs before) (hL : laidMetH Tryz.prog laid3 W) :
    Calls Tryz.prog 3 args W fun e W' => ∃ v, e = .returned v ∧ Rows.projectKeysSpec.post enc Tryz.prog Tryz.f3 false true false false W args v W' := by
  have hW' := hW
  obtain ⟨p, q, hA0, hV, rfl, hfz, hnd⟩ := hW
  have hA : DataW.TrodAll enc Tryz.prog W 0 (fun _ => true) true Tryz.f3.params.toList args.toList ds p := hA0
  rw [Tryz.params3] at hA hval
  clear hA0
  obtain ⟨v0, r0, d0, e0, p0, q0, ha0, rfl, rfl, h0, hA0⟩ := trodAll_cons hA
  obtain ⟨v1, r1, d1, e1, p1, q1, ha1, rfl, rfl, h1, hA1⟩ := trodAll_cons hA0
  subst ha1
  obtain ⟨rfl, rfl, rfl⟩ := trodAll_nil hA1
  obtain rfl : args = #[v0, v1] := by cases args; simp_all
  obtain ⟨rfl, rfl⟩ := trodVars_none hV
  simp only [List.append_nil] at hW'
  obtain ⟨a0, len0, cap0, rfl⟩ := okWide_slice Tryz.underlying22 (hval 0 22 v0 rfl rfl)
  have h1k := h1
  obtain ⟨m1, rfl, hm1⟩ := K.okWide_u8 Tryz.underlying5 (hval 1 5 v1 rfl rfl)
  have hlt : ∀ x ∈ p0 ++ p1, x.block < W.heap.size := fun x hx => by simpa using hW'.lt x (by simpa using hx)
  obtain ⟨x0, hx0⟩ : ∃ x : List Int, K.RV W (K.Mc K.Cn0) x (.slice a0 len0 cap0) := by
    obtain ⟨fuel, hf⟩ := h0
    exact (op_ints (enc := enc) (w := W)).rv rfl hf
  have htb : K.Tb Tryz.prog W K.Cn0 := ⟨tab_of_laid hL, fun g hg => rfl⟩
  have walk : Calls Tryz.prog 3 #[.slice a0 len0 cap0, .int .u8 (m1 : Int)] W (K.Ret fun v w' => v = .bool true ∧ K.Stp [] W K.Cn0 w' K.Cn0) := keys_ok (K.lim0 W) htb hx0 hm1
  refine walk.mono ?_
  rintro e W' ⟨v, rfl, rfl, hs⟩
  have hb := hs.below
  refine ⟨_, rfl, [d0, d1], [], _, [], p0 ++ (p1), [], hW', (trodAll_cons_mk (shut_bool Tryz.underlying4 _) trodAll_mk0), ?_, rfl, hb.frame _, fun h => by cases h⟩
  have hfin := trodAll_cons_mk (Below.trod laidOut (by kernel_rfl) (of_decide_eq_true (by kernel_rfl)) h0 hb (fun x hx => hlt x (by simp [hx]))) (trodAll_cons_mk (Below.trod laidOut (by kernel_rfl) (of_decide_eq_true (by kernel_rfl)) h1 hb (fun x hx => hlt x (by simp [hx]))) trodAll_mk0)
  simp only [List.append_nil] at hfin
  exact hfin
set_option maxRecDepth 100000 in
theorem lifted (os : Os) (started : os.Started) (H : Type) (enc : TypeId × Value → H) :
    ReturnsInHanded {} Tryz.checked os 3 .any (fun w args => (Rows.projectKeysSpec.pre enc Tryz.prog Tryz.f3 [] false w args ∧ laidMetH Tryz.prog laid3 w) ∧ sizedMet enc Tryz.prog Tryz.f3 (OpenSpec.ofChange Rows.projectKeysSpec) false w args)
      (Rows.projectKeysSpec.post enc Tryz.prog Tryz.f3 false true false false) := by
  refine returnsInHanded_of_change_and (C := Tryz.checked) (X := fun w _ => laidMetH Tryz.prog laid3 w) (fun _ _ _ hh h => h.of_heap hh) own started (by kernel_rfl) Tryz.func3
    (ChangeSpec.witness_shaped (enc := enc) (C := Tryz.checked) (os := os) (X := fun w _ => laidMetH Tryz.prog laid3 w) false (World.doorLaid Tryz.prog 24 os) #[.slice none 0 0, .int .u8 0] 8 rfl (World.shaped_of_RefB (by kernel_rfl) (by kernel_rfl)) (by kernel_rfl) (by kernel_rfl) (by kernel_rfl) (door_met os _)) ?_
  intro W base args ds gs before hval hW _ _ hL _
  exact contract H enc W base args ds gs before hval hW hL
theorem over : Rows.ProjectKeysSaid :=
  OpenClaim.holds_of_wide 3 Tryz.f3 rfl rfl rfl rfl rfl rfl rfl ⟨rfl, rfl, rfl, rfl, rfl⟩ rfl rfl rfl rfl rfl (by kernel_rfl) Tryz.func3 (by kernel_rfl)
    (of_decide_eq_true (by kernel_rfl)) (by unfold Func.isWrapper; first | (rw [if_pos (by decide +kernel)]; kernel_rfl) | (rw [if_neg (by decide +kernel)]; exact ⟨rfl, rfl⟩))
    (fun os started H enc _ => lifted os started H enc)
theorem proved : Rows.ProjectKeysCardSaid :=
  Claim7.holds_tied_plain_at .later [] [.data, .data, .data] true (true, "d1e0324f08906befe6338d8b0cc728d84da1ca8e8d16f4949f1c967f9d79318c") false
    over (fun _ h => by cases h) (by kernel_rfl) (fun _ h => by cases h) projectKeys_row_tie rfl ⟨rfl, rfl⟩ (by kernel_rfl) rfl
    (fun f fn hf hfn => by
      obtain rfl : f = 3 := Option.some.inj ((show Tryz.prog.funcNamed "recordlink/recordlinklaw34.ProjectKeys" = some 3 by kernel_rfl).symm.trans hf) |>.symm
      obtain rfl : fn = Tryz.f3 := (Option.some.inj (Tryz.func3.symm.trans hfn)).symm
      exact ⟨by kernel_rfl, fun j t ht => by
        rw [Tryz.params3] at ht
        have hm : t ∈ ([22, 5] : List Nat) := by simpa using Array.mem_of_getElem? ht
        have hall : (([22, 5] : List Nat).all fun u => !Tryz.prog.wantsStandIn u) = true := by kernel_rfl
        exact (show Tryz.prog.wantsStandIn t = false by simpa using List.all_eq_true.1 hall t hm)⟩)
    (by kernel_rfl)
end Go.Proofs.YtfkggfmibpigpaaGreatDoor.projectKeys
