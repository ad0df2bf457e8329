/- The sanity check of chapter 29. Plain Lean. -/
import Derived.Test.YtognfmeffnjijaaL2
import Derived.Test.YtognfmeffnjijaaL1
import Derived.Sort.Walk0
import Derived.Laws.BytesArg
import Derived.WalkKit
import Derived.ProofKit
import Derived.OpenShut
import Derived.ChangeSlices
import Derived.Below
import Derived.Carry
import Derived.Deep.Slices
import Derived.WideShapes
import Derived.ChangeArms
set_option linter.unusedVariables false
set_option linter.unusedSimpArgs false
namespace Go.K
open Rep
section
variable {T : Nat → Nat → Int}
theorem gnL_zero (h : ∀ p q, 0 < T p q → p = 0) : ∀ k, gnL T (k + 1) = gnR T 0 64
  | 0 => by rw [gnL_succ]; rfl
  | k + 1 => by
    rw [gnL_succ, gnL_zero h k]
    have : gnR T (k + 1) 64 = [] := List.eq_nil_iff_forall_not_mem.2 fun x hx => by
      obtain ⟨q, _, hw, _⟩ := gnR_mem.1 hx
      have := h _ _ hw; omega
    rw [this, List.append_nil]
theorem gnR_filter (p : Nat) : ∀ k, gnR T p k = ((List.range k).filter fun q => decide (0 < T p q)).map fun q : Nat => (⟨p, q, T p q⟩ : Edge)
  | 0 => rfl
  | k + 1 => by
    rw [gnR_succ, gnR_filter p k, List.range_succ, List.filter_append, List.map_append]
    congr 1
    by_cases e : 0 < T p k
    · rw [if_pos e, List.filter_cons, if_pos (decide_eq_true e)]; rfl
    · rw [if_neg e, List.filter_cons, if_neg (by rw [decide_eq_false e]; decide)]; rfl
end
def ahL : List Edge := [⟨0, 0, 5⟩, ⟨0, 2, 4⟩, ⟨1, 1, 5⟩, ⟨1, 3, 4⟩]
abbrev ahA : List Nat := [0, 0]
abbrev ahB : List Nat := [1, 2, 3, 3]
theorem ah_chk : chkE 2 4 ahL = 0 := by decide
theorem ah_ve : VE ((2 : Nat) : Int) ((4 : Nat) : Int) ahL := chkE_zero ah_chk
theorem ah_hh : HH 2 4 ahA ahB := ⟨rfl, rfl, by decide, by decide⟩
theorem ah_w : pos (edW ahL) 0 0 = 5 ∧ pos (edW ahL) 0 1 = 0 ∧ pos (edW ahL) 0 2 = 4 ∧ pos (edW ahL) 0 3 = 0 ∧ pos (edW ahL) 1 0 = 0 ∧ pos (edW ahL) 1 1 = 5 ∧ pos (edW ahL) 1 2 = 0 ∧ pos (edW ahL) 1 3 = 4 := by decide
theorem ah_tot (h : Nat → Nat) : totC 2 4 (pos (edW ahL)) h = (0 + if h 0 < 4 then pos (edW ahL) 0 (h 0) else 0) + if h 1 < 4 then pos (edW ahL) 1 (h 1) else 0 := rfl
theorem ah_b : gN ahB 0 = 1 ∧ gN ahB 1 = 2 ∧ gN ahB 2 = 3 ∧ gN ahB 3 = 3 ∧ gN ahA 0 = 0 ∧ gN ahA 1 = 0 := by decide
theorem ah_cch : CCh 2 4 (pos (edW ahL)) (gN ahA) (gN ahB) (fun q => q + 2) := by
  obtain ⟨w00, w01, w02, w03, w10, w11, w12, w13⟩ := ah_w
  obtain ⟨b0, b1, b2, b3, a0, a1⟩ := ah_b
  have two : ∀ i, i < 2 → i = 0 ∨ i = 1 := fun i hi => by omega
  refine ⟨⟨fun i hi => by show i + 2 ≤ 4; omega, fun i hi _ => ?_, fun i i' _ _ _ e => ?_⟩, fun i i' hi hi' _ _ => ?_⟩
  · rcases two i hi with rfl | rfl
    · show 0 < pos (edW ahL) 0 2; omega
    · show 0 < pos (edW ahL) 1 3; omega
  · have : i + 2 = i' + 2 := e; omega
  · show gN ahA i = gN ahA i' ↔ gN ahB (i + 2) = gN ahB (i' + 2)
    rcases two i hi with rfl | rfl <;> rcases two i' hi' with rfl | rfl <;> decide
theorem ah_bst : bstC 2 4 (pos (edW ahL)) (gN ahA) (gN ahB) 0 = 2 ∧ bstC 2 4 (pos (edW ahL)) (gN ahA) (gN ahB) 1 = 3 := by
  obtain ⟨w00, w01, w02, w03, w10, w11, w12, w13⟩ := ah_w
  obtain ⟨b0, b1, b2, b3, a0, a1⟩ := ah_b
  obtain ⟨hb, _⟩ := bstC_is (N := 2) (M := 4) (w := pos (edW ahL)) (fun i hi => ah_hh.ga hi) (fun j hj => ah_hh.gb hj)
  obtain ⟨f, hf⟩ : ∃ f, f = bstC 2 4 (pos (edW ahL)) (gN ahA) (gN ahB) := ⟨_, rfl⟩
  rw [← hf] at hb ⊢
  have hm := hb.most _ ah_cch
  rw [ah_tot, ah_tot] at hm
  simp only [show (0 : Nat) + 2 < 4 from by decide, show (1 : Nat) + 2 < 4 from by decide, if_true, show (0 : Nat) + 2 = 2 from rfl, show (1 : Nat) + 2 = 3 from rfl, w02, w13] at hm
  have i0 := hb.ch.ch.le 0 (by decide); have i1 := hb.ch.ch.le 1 (by decide)
  have hh := hb.ch.hou 0 1 (by decide) (by decide)
  rw [a0, a1] at hh
  have c0 : f 0 = 0 ∨ f 0 = 1 ∨ f 0 = 2 ∨ f 0 = 3 ∨ f 0 = 4 := by omega
  have c1 : f 1 = 0 ∨ f 1 = 1 ∨ f 1 = 2 ∨ f 1 = 3 ∨ f 1 = 4 := by omega
  rcases c0 with e0 | e0 | e0 | e0 | e0 <;> rcases c1 with e1 | e1 | e1 | e1 | e1 <;> rw [e0, e1] at hm hh <;> simp only [w00, w01, w02, w03, w10, w11, w12, w13, b0, b1, b2, b3] at hm hh <;> first | exact ⟨e0, e1⟩ | (exfalso; revert hm; decide) | (exfalso; revert hh; decide)
theorem ah_solT : solHT 2 4 ahL ahA ahB = 8 := by
  obtain ⟨w00, w01, w02, w03, w10, w11, w12, w13⟩ := ah_w
  obtain ⟨e0, e1⟩ := ah_bst
  unfold solHT
  rw [ah_tot, e0, e1, w02, w13]; decide
theorem ah_solL : solHL 2 4 ahL ahA ahB = [⟨0, 2⟩, ⟨1, 3⟩] := by
  obtain ⟨e0, e1⟩ := ah_bst
  unfold solHL
  rw [outS_congr (g := fun q => q + 2) fun q hq => ?_]
  · rfl
  · rcases (show q = 0 ∨ q = 1 by omega) with rfl | rfl
    · exact e0
    · exact e1
theorem ah_tb {p q : Nat} : 0 < Tb 2 4 (pos (edW ahL)) (gN ahA) (gN ahB) p q ↔ p = 0 ∧ (q = 1 ∨ q = 2 ∨ q = 3) := by
  obtain ⟨w00, w01, w02, w03, w10, w11, w12, w13⟩ := ah_w
  obtain ⟨b0, b1, b2, b3, a0, a1⟩ := ah_b
  rw [tb_pos]
  constructor
  · rintro ⟨i, j, hi, hj, rfl, rfl, hw⟩
    rcases (show i = 0 ∨ i = 1 by omega) with rfl | rfl <;> rcases (show j = 0 ∨ j = 1 ∨ j = 2 ∨ j = 3 by omega) with rfl | rfl | rfl | rfl <;> first | decide | (exfalso; omega)
  · rintro ⟨rfl, rfl | rfl | rfl⟩
    · exact ⟨0, 0, by decide, by decide, rfl, rfl, by omega⟩
    · exact ⟨1, 1, by decide, by decide, rfl, rfl, by omega⟩
    · exact ⟨0, 2, by decide, by decide, rfl, rfl, by omega⟩
theorem ah_tb3 : Tb 2 4 (pos (edW ahL)) (gN ahA) (gN ahB) 0 3 = 8 := by
  obtain ⟨w00, w01, w02, w03, w10, w11, w12, w13⟩ := ah_w
  obtain ⟨b0, b1, b2, b3, a0, a1⟩ := ah_b
  have tot : ∀ h : Nat → Nat, bT 2 4 (pos (edW ahL)) (gN ahA) 0 h = (0 + if h 0 < 4 then pos (edW ahL) 0 (h 0) else 0) + if h 1 < 4 then pos (edW ahL) 1 (h 1) else 0 := fun h => rfl
  apply Int.le_antisymm
  · obtain ⟨f, h1, h2⟩ := blk_ex 2 4 (pos (edW ahL)) (gN ahA) (gN ahB) 0 3
    rw [← h2, tot]
    have i0 := h1.le 0 (by decide) rfl; have i1 := h1.le 1 (by decide) rfl
    have u0 := h1.hou 0 (by decide) rfl; have u1 := h1.hou 1 (by decide) rfl
    have c0 : f 0 = 0 ∨ f 0 = 1 ∨ f 0 = 2 ∨ f 0 = 3 ∨ f 0 = 4 := by omega
    have c1 : f 1 = 0 ∨ f 1 = 1 ∨ f 1 = 2 ∨ f 1 = 3 ∨ f 1 = 4 := by omega
    rcases c0 with e0 | e0 | e0 | e0 | e0 <;> rw [e0] at u0 ⊢ <;> first | (exfalso; have := u0 (by decide); revert this; decide) | skip
    all_goals (rcases c1 with e1 | e1 | e1 | e1 | e1 <;> rw [e1] at u1 ⊢ <;> first | (exfalso; have := u1 (by decide); revert this; decide) | skip)
    all_goals first | decide | (simp only [w02, w03, w12, w13]; decide)
  · have hB : BCh 2 4 (pos (edW ahL)) (gN ahA) (gN ahB) 0 3 (fun q => q + 2) := ⟨fun i hi _ => ah_cch.ch.le i hi, fun i hi _ => ah_cch.ch.pos i hi, fun i hi _ _ => by
      rcases (show i = 0 ∨ i = 1 by omega) with rfl | rfl <;> decide, fun i i' hi hi' _ _ => ah_cch.ch.inj i i' hi hi'⟩
    refine Int.le_trans ?_ (blk_le hB)
    rw [tot]
    simp only [show (0 : Nat) + 2 < 4 from by decide, show (1 : Nat) + 2 < 4 from by decide, if_true, show (0 : Nat) + 2 = 2 from rfl, show (1 : Nat) + 2 = 3 from rfl, w02, w13]; decide
theorem ah_gains : gnL (Tb 2 4 (pos (edW ahL)) (gN ahA) (gN ahB)) 64 = [⟨0, 1, Tb 2 4 (pos (edW ahL)) (gN ahA) (gN ahB) 0 1⟩, ⟨0, 2, Tb 2 4 (pos (edW ahL)) (gN ahA) (gN ahB) 0 2⟩, ⟨0, 3, 8⟩] := by
  obtain ⟨T, hT⟩ : ∃ T, T = Tb 2 4 (pos (edW ahL)) (gN ahA) (gN ahB) := ⟨_, rfl⟩
  have h0 : ∀ {p q : Nat}, 0 < T p q ↔ p = 0 ∧ (q = 1 ∨ q = 2 ∨ q = 3) := by rw [hT]; exact ah_tb
  have h3 : T 0 3 = 8 := by rw [hT]; exact ah_tb3
  rw [← hT]
  rw [gnL_zero (fun p q h => (h0.1 h).1) 63, gnR_filter]
  have e : ((List.range 64).filter fun q => decide (0 < T 0 q)) = [1, 2, 3] := by
    rw [List.filter_congr (q := fun q => decide (q = 1 ∨ q = 2 ∨ q = 3)) fun q _ => decide_eq_decide.2 ((h0 (p := 0) (q := q)).trans ⟨fun h => h.2, fun h => ⟨rfl, h⟩⟩)]
    decide
  rw [e]
  simp [h3]
theorem hh_small {n m : Nat} {al bl : List Nat} (ha : al.length = n) (hb : bl.length = m) (h3 : ∀ x ∈ al, x < 3) (h4 : ∀ x ∈ bl, x < 3) : HH n m al bl ∧ (∀ i, i < n → gN al i < 3) ∧ ∀ j, j < m → gN bl j < 3 :=
  ⟨⟨ha, hb, fun x hx => by have := h3 x hx; omega, fun x hx => by have := h4 x hx; omega⟩, fun i hi => by
    have e : gN al i = al[i]'(by omega) := getD_in _
    rw [e]; exact h3 _ (List.getElem_mem _), fun j hj => by
    have e : gN bl j = bl[j]'(by omega) := getD_in _
    rw [e]; exact h4 _ (List.getElem_mem _)⟩
end Go.K

/- Structs of three ints compared. -/
set_option linter.unusedVariables false
set_option linter.unusedSimpArgs false
namespace Go.K
open Rep
abbrev kvE : Edge → Value := fun x => .agg #[.int .i64 x.a, .int .i64 x.b, .int .i64 x.w]
instance : DecidableEq Edge := fun x y =>
  if h : x.a = y.a ∧ x.b = y.b ∧ x.w = y.w then isTrue (by cases x; cases y; simp at h; simp [h]) else isFalse (fun e => h (by rw [e]; exact ⟨rfl, rfl, rfl⟩))
section
variable {P : Program} {t ti : TypeId} {n0 n1 n2 tg0 tg1 tg2 pk0 pk1 pk2 : String} {e0 e1 e2 : Bool} {y0 y1 y2 : Nat}
theorem part_edge (hi : P.underlying ti = some (.int .i64)) (a b c : Int) (i : Nat) (v : Value) (w : World) (hv : (#[Value.int .i64 a, Value.int .i64 b, Value.int .i64 c])[i]? = some v) : (part ti #[.int .i64 a, .int .i64 b, .int .i64 c] i).run P w = .ok v w :=
  run_part_plain w (by simp [Program.plainKey, hi]) hv
theorem eqOK_edge (h : P.underlying t = some (.struct #[⟨n0, ti, 0, e0, tg0, pk0, y0⟩, ⟨n1, ti, 1, e1, tg1, pk1, y1⟩, ⟨n2, ti, 2, e2, tg2, pk2, y2⟩])) (h0 : n0 ≠ "_") (h1 : n1 ≠ "_") (h2 : n2 ≠ "_") (hS : P.stoodInHeld t = false)
    (hi : P.underlying ti = some (.int .i64)) : EqOK P t kvE := fun d a b w => by
  have hf : P.fieldsOf t = #[⟨n0, ti, 0, e0, tg0, pk0, y0⟩, ⟨n1, ti, 1, e1, tg1, pk1, y1⟩, ⟨n2, ti, 2, e2, tg2, pk2, y2⟩] := by simp [Program.fieldsOf, h]
  have he := fun (x y : Int) => run_equalIn_int (P := P) w (d + 6) ti .i64 .i64 x y hi
  rw [show d + 8 = (d + 7) + 1 from rfl, run_equalIn_struct w (d + 7) t _ _ (by rw [hf]; exact h) hS, hf]
  have p0 : ∀ c : Edge, (part ti #[.int .i64 c.a, .int .i64 c.b, .int .i64 c.w] 0).run P w = .ok (.int .i64 c.a) w := fun c => part_edge hi _ _ _ 0 _ w rfl
  have p1 : ∀ c : Edge, (part ti #[.int .i64 c.a, .int .i64 c.b, .int .i64 c.w] 1).run P w = .ok (.int .i64 c.b) w := fun c => part_edge hi _ _ _ 1 _ w rfl
  have p2 : ∀ c : Edge, (part ti #[.int .i64 c.a, .int .i64 c.b, .int .i64 c.w] 2).run P w = .ok (.int .i64 c.w) w := fun c => part_edge hi _ _ _ 2 _ w rfl
  have hd : (decide (a = b)) = ((a.a == b.a) && ((a.b == b.b) && (a.w == b.w))) := by
    cases a; cases b; simp only [Edge.mk.injEq, Bool.decide_and]; rfl
  simp only [Op.eqFields, Sem.run_bind, Sem.run_ite, h0, h1, h2, ne_eq, not_false_eq_true, if_true, p0, p1, p2, Result.andThen_ok, he, hd]
  cases (a.a == b.a) <;> cases (a.b == b.b) <;> cases (a.w == b.w) <;> simp
theorem eqGuard_edge (h : P.underlying t = some (.struct #[⟨n0, ti, 0, e0, tg0, pk0, y0⟩, ⟨n1, ti, 1, e1, tg1, pk1, y1⟩, ⟨n2, ti, 2, e2, tg2, pk2, y2⟩])) (h0 : n0 ≠ "_") (h1 : n1 ≠ "_") (h2 : n2 ≠ "_")
    (hi : P.underlying ti = some (.int .i64)) (d : Nat) (a b : Edge) (w : World) : (Op.eqGuardIn (d + 2) t (kvE a) (kvE b)).run P w = .ok false w := by
  have p0 : ∀ c : Edge, (part ti #[.int .i64 c.a, .int .i64 c.b, .int .i64 c.w] 0).run P w = .ok (.int .i64 c.a) w := fun c => part_edge hi _ _ _ 0 _ w rfl
  have p1 : ∀ c : Edge, (part ti #[.int .i64 c.a, .int .i64 c.b, .int .i64 c.w] 1).run P w = .ok (.int .i64 c.b) w := fun c => part_edge hi _ _ _ 1 _ w rfl
  have p2 : ∀ c : Edge, (part ti #[.int .i64 c.a, .int .i64 c.b, .int .i64 c.w] 2).run P w = .ok (.int .i64 c.w) w := fun c => part_edge hi _ _ _ 2 _ w rfl
  have q : ∀ (x y : Int), (Op.eqGuardIn (d + 1) ti (.int .i64 x) (.int .i64 y)).run P w = .ok false w := fun x y => by unfold Op.eqGuardIn; simp [run_underlying hi]
  rw [show d + 2 = (d + 1) + 1 from rfl, Op.eqGuardIn]
  simp only [Sem.run_bind, run_underlying h, Result.andThen_ok]
  rw [← Array.forIn_toList]
  simp only [List.forIn_cons, List.forIn_nil, Sem.run_bind, Sem.run_ite, h0, h1, h2, ne_eq, not_false_eq_true, if_true, p0, p1, p2, q, Result.andThen_ok, Sem.run_pure, Bool.false_eq_true, if_false]
variable {N : Nat} {env : Env} {x y : Operand} {u : TypeId} {a b : Edge} {w : World}
theorem val_eqE (h : P.underlying t = some (.struct #[⟨n0, ti, 0, e0, tg0, pk0, y0⟩, ⟨n1, ti, 1, e1, tg1, pk1, y1⟩, ⟨n2, ti, 2, e2, tg2, pk2, y2⟩])) (h0 : n0 ≠ "_") (h1 : n1 ≠ "_") (h2 : n2 ≠ "_") (hS : P.stoodInHeld t = false)
    (hi : P.underlying ti = some (.int .i64)) (hx : ev env x = some (kvE a)) (hy : ev env y = some (kvE b)) : Val P N env (.binOp .eql t x y u) w (.bool (decide (a = b))) := mk' fun ρ hρ o ho => by
  have h5 := eqOK_edge h h0 h1 h2 hS hi (Op.maxDepth - 8) a b w
  have h6 := eqGuard_edge h h0 h1 h2 hi (Op.maxDepth - 2) a b w
  have h7 : (Op.equal t (kvE a) (kvE b)).run P w = .ok (decide (a = b)) w := h5
  have h8 : (Op.eqGuardIn Op.maxDepth t (kvE a) (kvE b)).run P w = .ok false w := h6
  have h9 : (eqGuard .eql t x y (kvE a) (kvE b)).run P w = .ok () w := by
    unfold eqGuard
    simp only [Sem.run_bind, Sem.run_pure, Sem.run_ite, run_program, Result.andThen_ok, h8, Bool.not_true, Bool.false_eq_true, if_false]
    cases P.eqGuardType P.depth t <;> simp [h8]
  have h10 : (binOp .eql t (kvE a) (kvE b)).run P w = .ok (.bool (decide (a = b))) w := by
    show (Op.equal t (kvE a) (kvE b) >>= fun z => pure (Value.bool z)).run P w = _
    rw [Sem.run_bind, h7]; rfl
  unfold execOp; rw [ho]
  simp only [hρ _ _ hx, hρ _ _ hy]
  simp [Sem.run_bind, h9, h10]
end
end Go.K

/- All consistent choices are gone through, and the best one is kept. Plain Lean. -/
set_option linter.unusedVariables false
set_option linter.unusedSimpArgs false
namespace Go.K
open Rep
/-- A choice that keeps households together may take the edge. -/
def mayH (al bl : List Nat) (x : Edge) (cs : List Couple) : Prop := 0 < x.w ∧ ∀ c ∈ cs, c.a ≠ x.a ∧ c.b ≠ x.b ∧ (gN al c.a.toNat = gN al x.a.toNat ↔ gN bl c.b.toNat = gN bl x.b.toNat)
open Classical in
noncomputable instance (al bl : List Nat) (x : Edge) (cs : List Couple) : Decidable (mayH al bl x cs) := propDecidable _
/-- 'every'. -/
noncomputable def evH (al bl : List Nat) : List Edge → List Couple → Int → List Couple × Int → List Couple × Int
  | [], cs, t, b => if b.2 < t then (cs, t) else b
  | x :: s, cs, t, b => evH al bl s cs t (if mayH al bl x cs then evH al bl s (cs ++ [x.k]) (t + x.w) b else b)
section
variable {N M : Nat} {l p s : List Edge} {ha hb f f0 f1 g : Nat → Nat} {x : Edge}
/-- Households stay together. -/
def HouC (N M : Nat) (ha hb f : Nat → Nat) : Prop := ∀ i i', i < N → i' < N → f i < M → f i' < M → (ha i = ha i' ↔ hb (f i) = hb (f i'))
structure CmpH (N M : Nat) (l p : List Edge) (ha hb f0 f : Nat → Nat) : Prop where
  cmp : Cmp N M l p f0 f
  hou : HouC N M ha hb f
structure EvH (N M : Nat) (l p : List Edge) (ha hb f0 : Nat → Nat) (b b' : List Couple × Int) : Prop where
  mono : b.2 ≤ b'.2
  most : ∀ f, CmpH N M l p ha hb f0 f → totW N M l f ≤ b'.2
  is_ : b' = b ∨ b.2 < b'.2 ∧ ∃ f, CmpH N M l p ha hb f0 f ∧ b'.1 = outS N M f ∧ totW N M l f = b'.2 ∧ ∀ g, CmpH N M l p ha hb f0 g → totW N M l g = b'.2 → LexLe N f g
theorem evh_end (hV : VE N M l) (h : StE N M l f0) (hh : HouC N M ha hb f0) (b : List Couple × Int) : EvH N M l l ha hb f0 b (if b.2 < totW N M l f0 then (outS N M f0, totW N M l f0) else b) := by
  have hch := h.ch hV (fun _ h => h)
  have self : CmpH N M l l ha hb f0 f0 := ⟨⟨hch, fun _ _ => Iff.rfl⟩, hh⟩
  split
  · rename_i hlt
    exact ⟨Int.le_of_lt hlt, fun f hf => Int.le_of_eq (totC_congr (cmp_all hV h hf.cmp)), .inr ⟨hlt, f0, self, rfl, rfl, fun g hg _ => .inl fun q hq => (cmp_all hV h hg.cmp q hq).symm⟩⟩
  · rename_i hlt
    exact ⟨Int.le_refl _, fun f hf => by rw [show totW N M l f = totW N M l f0 from totC_congr (cmp_all hV h hf.cmp)]; omega, .inl rfl⟩
/-- The edge may be taken beside what is taken. -/
def MayF (N M : Nat) (ha hb f0 : Nat → Nat) (x : Edge) : Prop :=
  (0 < x.w ∧ ¬ f0 x.a.toNat < M ∧ ¬ ∃ i, i < N ∧ f0 i = x.b.toNat) ∧ ∀ i, i < N → f0 i < M → (ha i = ha x.a.toNat ↔ hb (f0 i) = hb x.b.toNat)
theorem cmph_cannot (h : SpE N M l p x s) (hst : StE N M p f0) (hf : CmpH N M l p ha hb f0 f) (hno : ¬ MayF N M ha hb f0 x) : ¬ f x.a.toNat = x.b.toNat := fun e => by
  have ho := h.ok; unfold okE at ho
  refine hno ⟨Classical.byContradiction fun hn => cmp_cannot h hst hf.cmp hn e, fun i hi hlt => ?_⟩
  obtain ⟨y, hy, h1, h2, _⟩ := hst.from_ i hi hlt
  have := (hf.cmp.same y hy).2 (by rw [h1, h2, Int.toNat_natCast, Int.toNat_natCast])
  rw [h1, h2] at this; simp only [Int.toNat_natCast] at this
  have := hf.hou i x.a.toNat hi (by omega) (by omega) (by omega)
  rw [e] at this
  rename_i e2
  rwa [e2] at this
theorem hou_with (h : SpE N M l p x s) (hh : HouC N M ha hb f0) (hm : MayF N M ha hb f0 x) : HouC N M ha hb (updF f0 x.a.toNat x.b.toNat) := fun i i' hi hi' => by
  unfold updF
  by_cases e : i = x.a.toNat
  · by_cases e' : i' = x.a.toNat
    · rw [if_pos e, if_pos e', e, e']; intro _ _; exact ⟨fun _ => rfl, fun _ => rfl⟩
    · rw [if_pos e, if_neg e', e]; intro _ hlt
      have := hm.2 i' hi' hlt
      exact ⟨fun h => (this.1 h.symm).symm, fun h => (this.2 h.symm).symm⟩
  · by_cases e' : i' = x.a.toNat
    · rw [if_neg e, if_pos e', e']; intro hlt _; exact hm.2 i hi hlt
    · rw [if_neg e, if_neg e']; exact hh i i' hi hi'
theorem evh_step (h : SpE N M l p x s) (hst : StE N M p f0) {b b1 b2 : List Couple × Int}
    (h1 : MayF N M ha hb f0 x ∧ EvH N M l (p ++ [x]) ha hb (updF f0 x.a.toNat x.b.toNat) b b1 ∨ ¬ MayF N M ha hb f0 x ∧ b1 = b)
    (h2 : EvH N M l (p ++ [x]) ha hb f0 b1 b2) : EvH N M l p ha hb f0 b b2 := by
  rcases h1 with ⟨hm, h1⟩ | ⟨hm, rfl⟩
  · refine ⟨Int.le_trans h1.mono h2.mono, fun f hf => ?_, ?_⟩
    · by_cases e : f x.a.toNat = x.b.toNat
      · exact Int.le_trans (h1.most f ⟨cmp_with h hf.cmp e, hf.hou⟩) h2.mono
      · exact h2.most f ⟨cmp_without hst h hf.cmp e, hf.hou⟩
    · rcases h2.is_ with e2 | ⟨hlt2, f, hf, hb, ht, hleast⟩
      · rcases h1.is_ with e1 | ⟨hlt1, f, hf, hb, ht, hleast⟩
        · exact .inl (e2.trans e1)
        · rw [e2]
          obtain ⟨hf1, hf2⟩ := cmp_with_back h hm.1.2.1 hf.cmp
          refine .inr ⟨hlt1, f, ⟨hf1, hf.hou⟩, hb, ht, fun g hg htg => ?_⟩
          by_cases e : g x.a.toNat = x.b.toNat
          · exact hleast g ⟨cmp_with h hg.cmp e, hg.hou⟩ htg
          · exact cmp_lex h hf1 hf2 hg.cmp e
      · refine .inr ⟨Int.lt_of_le_of_lt h1.mono hlt2, f, ⟨cmp_back hf.cmp, hf.hou⟩, hb, ht, fun g hg htg => ?_⟩
        by_cases e : g x.a.toNat = x.b.toNat
        · have := h1.most g ⟨cmp_with h hg.cmp e, hg.hou⟩; omega
        · exact hleast g ⟨cmp_without hst h hg.cmp e, hg.hou⟩ htg
  · refine ⟨h2.mono, fun f hf => h2.most f ⟨cmp_without hst h hf.cmp (cmph_cannot h hst hf hm), hf.hou⟩, ?_⟩
    rcases h2.is_ with e2 | ⟨hlt2, f, hf, hb, ht, hleast⟩
    · exact .inl e2
    · exact .inr ⟨hlt2, f, ⟨cmp_back hf.cmp, hf.hou⟩, hb, ht, fun g hg htg => hleast g ⟨cmp_without hst h hg.cmp (cmph_cannot h hst hg hm), hg.hou⟩ htg⟩
end
theorem mayH_iff {N M : Nat} {l p s : List Edge} {f0 : Nat → Nat} {x : Edge} {al bl : List Nat} (h : SpE N M l p x s) : mayH al bl x (outS N M f0) ↔ MayF N M (gN al) (gN bl) f0 x := by
  have ho := h.ok; unfold okE at ho
  unfold mayH MayF
  constructor
  · rintro ⟨hw, hc⟩
    have key : ∀ i, i < N → f0 i < M → i ≠ x.a.toNat ∧ f0 i ≠ x.b.toNat ∧ (gN al i = gN al x.a.toNat ↔ gN bl (f0 i) = gN bl x.b.toNat) := fun i hi hlt => by
      obtain ⟨h1, h2, h3⟩ := hc ⟨i, f0 i⟩ (outS_mem.2 ⟨i, hi, hlt, rfl⟩)
      simp only at h1 h2 h3
      exact ⟨by omega, by omega, by simpa only [Int.toNat_natCast] using h3⟩
    exact ⟨⟨hw, fun hlt => (key _ (by omega) hlt).1 rfl, fun ⟨i, hi, e⟩ => (key i hi (by omega)).2.1 e⟩, fun i hi hlt => (key i hi hlt).2.2⟩
  · rintro ⟨⟨hw, h1, h2⟩, h3⟩
    refine ⟨hw, fun c hc => ?_⟩
    obtain ⟨q, hq, hlt, rfl⟩ := outS_mem.1 hc
    refine ⟨fun e => h1 ?_, fun e => h2 ⟨q, hq, ?_⟩, ?_⟩
    · have : q = x.a.toNat := by simp only at e; omega
      rw [← this]; exact hlt
    · simp only at e; omega
    · simp only [Int.toNat_natCast]; exact h3 q hq hlt
theorem evH_law {N M : Nat} {l : List Edge} {al bl : List Nat} (hV : VE N M l) : ∀ (s p : List Edge) (f0 : Nat → Nat) (b : List Couple × Int), l = p ++ s → StE N M p f0 → HouC N M (gN al) (gN bl) f0 → EvH N M l p (gN al) (gN bl) f0 b (evH al bl s (outS N M f0) (totW N M l f0) b)
  | [], p, f0, b, e, hst, hh => by
    rw [List.append_nil] at e; subst e; exact evh_end hV hst hh b
  | x :: s, p, f0, b, e, hst, hh => by
    have h : SpE N M l p x s := ⟨hV, e⟩
    have ho := h.ok; unfold okE at ho
    have e' : l = (p ++ [x]) ++ s := by rw [e]; simp
    refine evh_step h hst (b1 := if mayH al bl x (outS N M f0) then evH al bl s (outS N M f0 ++ [x.k]) (totW N M l f0 + x.w) b else b) ?_ (evH_law hV s (p ++ [x]) f0 _ e' (st_without hst) hh)
    by_cases hmay : mayH al bl x (outS N M f0)
    · rw [if_pos hmay]
      have hmm := (mayH_iff h).1 hmay
      refine .inl ⟨hmm, ?_⟩
      have hn : ∀ q, x.a.toNat ≤ q → q < N → ¬ f0 q < M := fun q h1 h2 h3 => by
        obtain ⟨y, hy, ha, hb, _⟩ := hst.from_ q h2 h3
        have hbf := h.bef hy
        unfold ltE ltP Edge.k at hbf; simp only at hbf
        have : q = x.a.toNat := by omega
        rw [this] at h3; exact hmm.1.2.1 h3
      have e1 : outS N M (updF f0 x.a.toNat x.b.toNat) = outS N M f0 ++ [x.k] := by
        rw [outS_upd (by omega) (by omega) hn]; unfold Edge.k
        rw [show ((x.a.toNat : Nat) : Int) = x.a from by omega, show ((x.b.toNat : Nat) : Int) = x.b from by omega]
      have e2 : totW N M l (updF f0 x.a.toNat x.b.toNat) = totW N M l f0 + x.w := by
        have := sumN_upd (g := fun i => if updF f0 x.a.toNat x.b.toNat i < M then pos (edW l) i (updF f0 x.a.toNat x.b.toNat i) else 0) (h := fun i => if f0 i < M then pos (edW l) i (f0 i) else 0) (k := x.a.toNat) (n := N) (by omega) (fun i hi hne => by
          show (if updF f0 x.a.toNat x.b.toNat i < M then pos (edW l) i (updF f0 x.a.toNat x.b.toNat i) else 0) = _
          rw [show updF f0 x.a.toNat x.b.toNat i = f0 i from if_neg hne])
        unfold totW totC
        rw [show updF f0 x.a.toNat x.b.toNat x.a.toNat = x.b.toNat from if_pos rfl, if_neg hmm.1.2.1, if_pos (by omega), edge_pos hV h.mem hmm.1.1] at this
        omega
      rw [← e1, ← e2]
      exact evH_law hV s (p ++ [x]) _ b e' (st_with h hst hmm.1.1 hmm.1.2.1 hmm.1.2.2) (hou_with h hh hmm)
    · rw [if_neg hmay]
      exact .inr ⟨fun hh => hmay ((mayH_iff h).2 hh), rfl⟩
/-- What is found by going through all consistent choices is what 'Solve' answers. -/
theorem evH_sol {N M : Nat} {l : List Edge} {al bl : List Nat} (hV : VE N M l) (hH : HH N M al bl) : evH al bl l [] 0 ([], -1) = (solHL N M l al bl, solHT N M l al bl) := by
  have hst : StE N M [] (fun _ => M) := ⟨fun _ _ => Nat.le_refl _, fun i _ h => absurd h (Nat.lt_irrefl _), fun i _ _ _ h => absurd h (Nat.lt_irrefl _)⟩
  have hh : HouC N M (gN al) (gN bl) (fun _ => M) := fun i _ _ _ h => absurd h (Nat.lt_irrefl _)
  have h := evH_law (al := al) (bl := bl) hV l [] (fun _ => M) ([], -1) rfl hst hh
  have e1 : outS N M (fun _ => M) = [] := by
    rw [outS_stop (a := 0) (Nat.zero_le _) (fun _ _ _ => Nat.lt_irrefl _)]; rfl
  have e2 : totW N M l (fun _ => M) = 0 := by
    unfold totW totC
    rw [sumN_congr (h := fun _ => 0) fun i _ => if_neg (Nat.lt_irrefl _), sumN_zero]
  rw [e1, e2] at h
  obtain ⟨r, hr⟩ : ∃ r, r = evH al bl l [] 0 ([], -1) := ⟨_, rfl⟩
  rw [← hr] at h ⊢
  have all : ∀ f, CCh N M (pos (edW l)) (gN al) (gN bl) f → CmpH N M l [] (gN al) (gN bl) (fun _ => M) f := fun f hf => ⟨⟨hf.ch, fun y hy => by simp at hy⟩, hf.hou⟩
  have h0 := h.most _ (all _ ⟨hst.ch hV (fun y hy => by simp at hy), hh⟩)
  rw [e2] at h0
  rcases h.is_ with e | ⟨_, f, hf, hb, ht, hleast⟩
  · rw [e] at h0; exact absurd h0 (by decide)
  · have hB : BstC N M (pos (edW l)) (gN al) (gN bl) f := ⟨⟨hf.cmp.ch, hf.hou⟩, fun g hg => by rw [show totC N M (pos (edW l)) f = r.2 from ht]; exact h.most g (all g hg), fun g hg e => hleast g (all g hg) (e.trans ht)⟩
    have e := hB.uniq hB.the
    unfold solHL solHT
    rw [← outS_congr e, ← totC_congr e]
    exact Prod.ext hb ht.symm
/-- What is found is consistent. -/
theorem sol_cons {n m : Nat} {l : List Edge} {al bl : List Nat} (hH : HH n m al bl) : (∀ c ∈ solHL n m l al bl, 0 ≤ c.a ∧ c.a < al.length ∧ 0 ≤ c.b ∧ c.b < bl.length) ∧
    ∀ d ∈ solHL n m l al bl, ∀ c ∈ solHL n m l al bl, (gN al d.a.toNat = gN al c.a.toNat ↔ gN bl d.b.toNat = gN bl c.b.toNat) := by
  obtain ⟨h1, _⟩ := bstC_is (N := n) (M := m) (w := pos (edW l)) (fun i hi => hH.ga hi) (fun j hj => hH.gb hj)
  have ha := hH.la; have hb := hH.lb
  refine ⟨fun c hc => ?_, fun d hd c hc => ?_⟩
  · obtain ⟨q, hq, hlt, rfl⟩ := outS_mem.1 hc
    exact ⟨by show (0 : Int) ≤ (q : Int); omega, by show (q : Int) < al.length; omega, by show (0 : Int) ≤ ((_ : Nat) : Int); omega, by show ((bstC n m (pos (edW l)) (gN al) (gN bl) q : Nat) : Int) < bl.length; omega⟩
  · obtain ⟨q, hq, hlt, rfl⟩ := outS_mem.1 hd
    obtain ⟨q', hq', hlt', rfl⟩ := outS_mem.1 hc
    simp only [Int.toNat_natCast]
    exact h1.ch.hou q q' hq hq' hlt hlt'
theorem mayH_nil {al bl : List Nat} {x : Edge} : mayH al bl x [] ↔ 0 < x.w := ⟨fun h => h.1, fun h => ⟨h, fun c hc => by cases hc⟩⟩
theorem mayH_take {al bl : List Nat} {x : Edge} {cs : List Couple} {k : Nat} (hk : k < cs.length) : mayH al bl x (cs.take (k + 1)) ↔ mayH al bl x (cs.take k) ∧ cs[k].a ≠ x.a ∧ cs[k].b ≠ x.b ∧ (gN al cs[k].a.toNat = gN al x.a.toNat ↔ gN bl cs[k].b.toNat = gN bl x.b.toNat) := by
  unfold mayH
  rw [List.take_succ_eq_append_getElem hk]
  constructor
  · rintro ⟨hw, h⟩
    exact ⟨⟨hw, fun c hc => h c (List.mem_append_left _ hc)⟩, h _ (List.mem_append_right _ (List.mem_singleton.2 rfl))⟩
  · rintro ⟨⟨hw, h⟩, h2⟩
    refine ⟨hw, fun c hc => ?_⟩
    rcases List.mem_append.1 hc with hc | hc
    · exact h c hc
    · rw [List.mem_singleton] at hc; subst hc; exact h2
end Go.K

/- Texts: how they read, and the operations on them. -/
set_option linter.unusedVariables false
set_option linter.unusedSimpArgs false
set_option linter.unusedSectionVars false
namespace Go.K
open Rep

/-- A text, by its bytes. -/
structure Tx where
  l : List UInt8
deriving DecidableEq, Inhabited
abbrev bs (l : List UInt8) : Value := .string ⟨l.toArray⟩
abbrev sv (x : Tx) : Value := bs x.l
instance : Rep Tx where
  sz := 1
  agg := false
  flat _ := rfl
  rep _ _ x vs := vs = [sv x] ∧ x.l.length ≤ 9223372036854775807
  len h := by obtain ⟨rfl, _⟩ := h; rfl
  one h := by obtain ⟨rfl, _⟩ := h; intro v hv; simp at hv; subst hv; rfl
  keep h _ := h
  sub h _ := h
section
variable {P : Program} {N : Nat} {env : Env} {w : World} {x y z q : Operand} {t u : TypeId} {a b : List UInt8} {M : Nat → Prop} {v : Value} {m n : Int}
theorem val_eqBl {p r : Bool} (hx : ev env x = some (.bool p)) (hy : ev env y = some (.bool r)) (ht : P.underlying t = some .bool) : Val P N env (.binOp .eql t x y u) w (.bool (decide (p = r))) := mk' fun ρ hρ o ho => by
  have h5 : ∀ d, (Op.equalIn (d + 1) t (.bool p) (.bool r)).run P w = .ok (decide (p = r)) w := fun d => by
    unfold Op.equalIn
    cases p <;> cases r <;> simp [run_underlying ht, go_sem]
  have h7 : (Op.equal t (.bool p) (.bool r)).run P w = .ok (decide (p = r)) w := h5 (Op.maxDepth - 1)
  have h10 : (binOp .eql t (.bool p) (.bool r)).run P w = .ok (.bool (decide (p = r))) w := by
    show (Op.equal t (.bool p) (.bool r) >>= fun z => pure (Value.bool z)).run P w = _
    rw [Sem.run_bind, h7]; rfl
  unfold execOp; rw [ho]
  simp [hρ _ _ hx, hρ _ _ hy, go_sem, eqGuard, h10]
end
end Go.K

/- From the row's reading of an argument to what the steps ask. -/
set_option linter.unusedVariables false
namespace Go.K
open Rep
/-- Nobody writes anything that stood at the start. -/
def C0 : Nat → Nat := fun _ => 0
theorem lim0 (w : World) : Lim w C0 := fun b h => absurd rfl h
theorem Stp.below {w w' : World} (h : Stp [] w C0 w' C0) : Go.RowKit.Below w.heap.size w w' := h.ext.below (Nat.le_refl _) (fun b hb => by simp at hb)

end Go.K

/- From the row's reading of an argument, of whatever make, to what the steps ask. -/
set_option linter.unusedVariables false
set_option linter.unusedSimpArgs false
namespace Go.K
open Rep

/-- Whatever the row reads at this type reads as a Lean value. -/
def Opens {H : Type} (enc : TypeId × Value → H) (P : Program) (w : World) (base : Nat) (spare : Nat → Bool) (held : Bool) (α : Type) [Rep α] (t : TypeId) : Prop :=
  P.cellsOf t = sz α ∧ ∀ (fuel : Nat) (cs : List Value) (x : DataW H × List MemPlace), DataW.trod enc P w base spare held fuel t cs = some x → ∃ a : α, rep w.heap (Mc C0) a cs

section
variable {H : Type} {enc : TypeId × Value → H} {P : Program} {w : World} {base : Nat} {spare : Nat → Bool} {held : Bool} {α β γ : Type} [Rep α] [Rep β] [Rep γ] {t e : TypeId}

theorem opens_int (ht : P.underlying t = some (.int .i64)) (hc : P.cellsOf t = 1) : Opens enc P w base spare held Int t := ⟨hc, fun fuel cs x h => by
  obtain ⟨n, rfl, _⟩ := DataW.trod_int ht h
  exact ⟨n, rfl⟩⟩
theorem opens_slice (ht : P.underlying t = some (.slice e)) (hc : P.cellsOf t = 1) (hsz : 0 < sz α) (he : Opens enc P w base spare held α e) : Opens enc P w base spare held (List α) t := ⟨hc, fun fuel cs x h => by
  rcases Go.Deep.open_slice ht h with ⟨rfl, _⟩ | ⟨a, len, cap, m, n, D, Pl, rfl, hb, hl, hm, hmm, hx, hcell⟩
  · exact ⟨[], none, 0, rfl, Nat.le_refl _, by simp, .inl rfl⟩
  · have hlm : len ≤ m := by rw [hmm]; split <;> omega
    have key : ∀ k, k ≤ len → ∃ xs : List α, xs.length = k ∧ ∀ i (hi : i < xs.length), ∃ cs', w.cells? base (a.add (i * sz α)) (sz α) = some cs' ∧ rep w.heap (Mc C0) xs[i] cs' := by
      intro k
      induction k with
      | zero => exact fun _ => ⟨[], rfl, fun i hi => by simp at hi⟩
      | succ k ih =>
        intro hk
        obtain ⟨xs, hxl, hxs⟩ := ih (by omega)
        obtain ⟨cs', h1, h2⟩ := hcell k (by omega)
        obtain ⟨y, hy⟩ := he.2 _ _ _ h2
        rw [he.1] at h1
        refine ⟨xs ++ [y], by simp [hxl], fun i hi => ?_⟩
        by_cases hik : i < xs.length
        · rw [List.getElem_append_left hik]; exact hxs i hik
        · have hik2 : i = k := by simp at hi; omega
          subst hik2
          rw [List.getElem_append_right (by omega)]
          exact ⟨cs', h1, by simpa [hxl] using hy⟩
    obtain ⟨xs, hxl, hxs⟩ := key len (Nat.le_refl _)
    refine ⟨xs, some a, cap, by rw [hxl], by omega, by unfold maxLen at hm; omega, ?_⟩
    by_cases h0 : len = 0
    · left; exact List.length_eq_zero_iff.1 (by omega)
    · right
      have hall : ∀ i (hi : i < xs.length), ∃ cs', cs'.length = sz α ∧ (∀ j (hj : j < cs'.length), w.cell? (a.add (i * sz α + j)) = some cs'[j]) ∧ rep w.heap (Mc C0) xs[i] cs' := fun i hi => by
        obtain ⟨cs', h1, h2⟩ := hxs i hi
        obtain ⟨_, h3, h4⟩ := World.cells?_some h1
        refine ⟨cs', h3, fun j hj => ?_, h2⟩
        have h5 := h4 j (by omega)
        rw [Addr.add_add] at h5
        rw [h5]; exact List.getElem?_eq_getElem hj
      obtain ⟨c0, hc0l, hc0, _⟩ := hall 0 (by omega)
      have hfirst := hc0 0 (by omega)
      obtain ⟨b, off, spot⟩ := a
      have hspot : spot = none := by simpa [Addr.add] using World.cell?_spot hfirst
      subst hspot
      refine ⟨b, off, rfl, ?_⟩
      simp only [addr_add] at hall hfirst
      unfold World.cell? at hfirst
      simp only at hfirst
      cases hbk : w.heap[b]? with
      | none => rw [hbk] at hfirst; cases hfirst
      | some ob =>
        cases ob with
        | cells c ty fz =>
          have hget : ∀ i (hi : i < xs.length), ∃ cs', cs'.length = sz α ∧ (∀ j (hj : j < cs'.length), c[off + (i * sz α + j)]? = some cs'[j]) ∧ rep w.heap (Mc C0) xs[i] cs' := fun i hi => by
            obtain ⟨cs', h1, h2, h3⟩ := hall i hi
            refine ⟨cs', h1, fun j hj => ?_, h3⟩
            have h4 := h2 j hj
            unfold World.cell? at h4
            simp only [hbk] at h4
            simpa using h4
          refine ⟨fun h => h rfl, c, ty, fz, hbk, ?_, fun i hi => ?_⟩
          · obtain ⟨cs', h1, h2, _⟩ := hget (len - 1) (by omega)
            have h3 := (Array.getElem?_eq_some_iff.1 (h2 (sz α - 1) (by omega))).1
            have h4 : len * sz α = (len - 1) * sz α + sz α := by
              have : len = (len - 1) + 1 := by omega
              rw [this, Nat.succ_mul]; simp
            rw [hxl, h4]; omega
          · obtain ⟨cs', h1, h2, h3⟩ := hget i hi
            have : cellsAt c (off + i * sz α) (sz α) = cs' := by
              apply List.ext_getElem?
              intro r
              simp only [cellsAt, List.getElem?_take, List.getElem?_drop, Array.getElem?_toList]
              by_cases hr : r < sz α
              · rw [if_pos hr, List.getElem?_eq_getElem (by omega), Nat.add_assoc]; exact h2 r (by omega)
              · rw [if_neg hr, List.getElem?_eq_none (by omega)]
            rw [this]; exact h3
        | _ => rw [hbk] at hfirst; cases hfirst⟩

theorem Opens.rv (h : Opens enc P w base spare held α t) (hx : Rep.agg α = false) {fuel : Nat} {v : Value} {x : DataW H × List MemPlace} (ht : DataW.trod enc P w base spare held fuel t [v] = some x) : ∃ a : α, RV w (Mc C0) a v := by
  obtain ⟨a, ha⟩ := h.2 _ _ _ ht
  exact ⟨a, rep1_rv ha hx⟩
end
end Go.K
