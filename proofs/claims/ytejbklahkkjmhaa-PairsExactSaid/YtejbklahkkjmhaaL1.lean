/- A calculus of steps over the model: a frame is known by a list of slots, code is walked with what is left to do as a list. -/
import Derived.WalkKit
import Derived.OrdersHeld
import Derived.KernelRfl
import Derived.Laws.MakeOwn
import Derived.WideKeyRuns
import Derived.MapKept
import Derived.Laws.StructEq
import Derived.ChangeKeysEq
set_option linter.unusedVariables false
set_option linter.unusedSimpArgs false
namespace Go.K

/-- The frame of a normal call of function `f`. -/
def fr0 (f : FuncId) : Frame := { (default : Frame) with fn := f, kind := .normal }

/-- It returned, and R holds of the value and the world. -/
def Ret (R : Value → World → Prop) : Ending → World → Prop := fun e w => ∃ v, e = .returned v ∧ R v w

theorem Ret.mono {R R' : Value → World → Prop} (h : ∀ v w, R v w → R' v w) (e : Ending) (w : World) (hr : Ret R e w) : Ret R' e w :=
  let ⟨v, he, hv⟩ := hr; ⟨v, he, h v w hv⟩

/-- From this list of things to do, in this frame and world, function `f` returns, and R holds. -/
def Runs (P : Program) (f : FuncId) (k : List Item) (a : Act) (w : World) (R : Value → World → Prop) : Prop :=
  ∀ cs, ∃ v w' fr, R v w' ∧ Steps P (lone ((fr0 f).at a k) cs w) (lone fr cs w') ∧ fr.fn = f ∧ fr.leaving P w' (.returned v)

theorem calls_of_runs {P : Program} {f : FuncId} {fn : Func} {c : Code} {args : Array Value} {w : World} {R : Value → World → Prop}
    (hf : P.funcs[f]? = some fn) (hb : fn.body = some c)
    (h : Runs P f [.code c] { tmps := args ++ Array.replicate (fn.ntmps - args.size) undef, defers := [] } w R) : Calls P f args w (Ret R) := by
  intro cs
  have henter : Frame.enter P f args .normal = (fr0 f).at { tmps := args ++ Array.replicate (fn.ntmps - args.size) undef, defers := [] } [.code c] := by
    simp [Frame.enter, Frame.at, hf, hb, fr0]
  obtain ⟨v, w', fr, hR, hs, hfn, hl⟩ := h cs
  exact ⟨.returned v, w', fr, ⟨v, rfl, hR⟩, by rw [henter]; exact hs, hfn, hl⟩

theorem Runs.mono {P : Program} {f : FuncId} {k : List Item} {a : Act} {w : World} {R R' : Value → World → Prop}
    (h : Runs P f k a w R) (hr : ∀ v w, R v w → R' v w) : Runs P f k a w R' := fun cs =>
  let ⟨v, w', fr, hR, rest⟩ := h cs; ⟨v, w', fr, hr _ _ hR, rest⟩

section
variable {P : Program} {f : FuncId} {k : List Item} {a : Act} {w : World} {R : Value → World → Prop}

theorem Runs.step {a' : Act} {k' : List Item} {w' : World}
    (hs : ∀ cs, step P (lone ((fr0 f).at a k) cs w) = .next (lone ((fr0 f).at a' k') cs w')) (h : Runs P f k' a' w' R) : Runs P f k a w R := fun cs =>
  let ⟨v, w'', fr, hR, hst, hfn, hl⟩ := h cs
  ⟨v, w'', fr, hR, .head (hs cs) hst, hfn, hl⟩

/-- What a piece of code must come to: its end, and then what is left. -/
def QK (P : Program) (f : FuncId) (k : List Item) (R : Value → World → Prop) : Exit → Act → World → Prop
  | .normal, a, w => Runs P f k a w R
  | _, _, _ => False

theorem runs_of_wp {c : Code} (h : c.wp P (QK P f k R) a w) : Runs P f (.code c :: k) a w R := by
  intro cs
  obtain ⟨e, a', w', hq, harr⟩ := h (fr0 f) k cs
  cases e with
  | normal =>
    obtain ⟨v, w'', fr, hR, hst, hfn, hl⟩ := hq cs
    exact ⟨v, w'', fr, hR, Steps.trans harr hst, hfn, hl⟩
  | _ => exact hq.elim

theorem runs_ret {fn : Func} {v : Value} (hf : P.funcs[f]? = some fn) (hd : a.defers = []) (hr : (results fn a.tmps).run P w = .ok v w) (hR : R v w) :
    Runs P f (.code .ret :: k) a w R := fun cs =>
  ⟨v, w, _, hR, .one step_ret, rfl, rfl, hd, rfl, fn, hf, hr⟩
end

/-! ### The order of a region's operations -/

/-- Is an operation left? -/
def stab : List (Nat × Bool) → Bool
  | [] => false
  | _ :: _ => true
/-- At most one operation is left, and it is carried out as it comes. -/
def lastB : List (Nat × Bool) → Bool
  | [] => true
  | [(_, b)] => !b
  | _ :: _ :: _ => false
/-- The operations of a region in the order `L`; an operation that bears `true` yields its value in every world that meets `S`; `S` is asked for as long as such operations are left. -/
def GoL (P : Program) (ops : Array Oper) (S : World → Prop) (Q : Exit → Act → World → Prop) : List (Nat × Bool) → Act → World → Prop
  | [], a, w => Q .normal a w
  | (i, true) :: L, a, w => ∃ o v, ops[i]? = some o ∧ YieldsIf P ops S o v a ∧ GoL P ops S Q L (a.put o.dst v) w
  | (i, false) :: L, a, w => wpOp P ops Q i (fun a' w' => (stab L = true → S w') ∧ GoL P ops S Q L a' w') a w

section
variable {P : Program} {ops : Array Oper} {S : World → Prop} {Q : Exit → Act → World → Prop}

theorem gol_plain : ∀ (L : List (Nat × Bool)) (a : Act) (w : World), GoL P ops (fun _ => True) Q L a w → wpOps P ops Q (L.map (·.1)) a w
  | [], a, w, h => h
  | (i, true) :: L, a, w, h => by
    obtain ⟨o, v, hi, hy, h⟩ := h
    rw [List.map_cons, wpOps_cons]
    exact hy.wpOp hi trivial (gol_plain L _ _ h)
  | (i, false) :: L, a, w, h => by
    rw [List.map_cons, wpOps_cons]
    exact wpOp_mono (fun a' w' h' => gol_plain L a' w' h'.2) h
theorem gol_free : ∀ (L : List (Nat × Bool)) (a : Act) (w : World), lastB L = true → GoL P ops (fun _ => True) Q L a w → GoL P ops S Q L a w
  | [], a, w, _, h => h
  | [(i, true)], a, w, hs, h => by cases hs
  | [(i, false)], a, w, hs, h => wpOp_mono (fun a' w' h' => ⟨fun e => (by cases e), h'.2⟩) h
  | _ :: _ :: _, a, w, hs, h => by cases hs

/-! #### Whatever order is drawn: the condition is asked for until one operation, the bar, has come up, which waits for all that were taken first. -/

def wpAnyB (P : Program) (ops : Array Oper) (Q : Exit → Act → World → Prop) (S : World → Prop) (jb : Nat) : Nat → Array Bool → Act → World → Prop
  | 0, listed, a, w => Region.ready .any ops listed = [] ∧ Q .normal a w
  | fuel + 1, listed, a, w =>
    (Region.ready .any ops listed = [] → Q .normal a w) ∧
    ∀ i ∈ Region.ready .any ops listed, wpOp P ops Q i (fun a' w' => ((listed.setIfInBounds i true).getD jb false = false → S w') ∧ wpAnyB P ops Q S jb fuel (listed.setIfInBounds i true) a' w') a w
theorem wpAny_of_bar {jb : Nat} : ∀ (fuel : Nat) (listed : Array Bool) (a : Act) (w : World), wpAnyB P ops Q S jb fuel listed a w → wpAny P .any ops Q fuel listed a w
  | 0, _, _, _, h => h
  | fuel + 1, _, _, _, h => ⟨h.1, fun i hi => wpOp_mono (fun a' w' h' => wpAny_of_bar fuel _ a' w' h'.2) (h.2 i hi)⟩

/-- What has come up, came up behind all that it waits for. -/
def Closed (ops : Array Oper) (listed : Array Bool) : Prop :=
  listed.size = ops.size ∧ ∀ k ok, ops[k]? = some ok → listed.getD k false = true → ∀ e ∈ ok.after, Region.binds .any e = true → listed.getD e.on false = true
theorem closed_set {j : Nat} {listed : Array Bool} (hc : Closed ops listed) (hj : j ∈ Region.ready .any ops listed) : Closed ops (listed.setIfInBounds j true) := by
  refine ⟨by simp [hc.1], fun k ok hk hl e he hb => ?_⟩
  by_cases hkj : k = j
  · subst hkj
    obtain ⟨_, o, ho, hall⟩ := mem_ready.1 hj
    rw [hk] at ho; cases ho
    exact getD_set_true (hall e he hb)
  · rw [getD_set_ne false (Ne.symm hkj)] at hl
    exact getD_set_true (hc.2 k ok hk hl e he hb)
/-- Operation `j` waits for `i`. -/
def needs (ops : Array Oper) : Nat → Nat → Nat → Bool
  | 0, j, i => Nat.beq j i
  | n + 1, j, i => Nat.beq j i || (match ops[j]? with | some o => o.after.any (fun e => Region.binds .any e && Nat.beq e.on i) || o.after.any (fun e => Region.binds .any e && needs ops n e.on i) | none => false)
theorem needs_spec {i : Nat} {listed : Array Bool} (hc : Closed ops listed) : ∀ (n j : Nat), needs ops n j i = true → listed.getD j false = true → listed.getD i false = true
  | 0, j, h, hj => by rw [← Nat.eq_of_beq_eq_true h]; exact hj
  | n + 1, j, h, hj => by
    unfold needs at h
    rw [Bool.or_eq_true] at h
    rcases h with h | h
    · rw [← Nat.eq_of_beq_eq_true h]; exact hj
    · cases ho : ops[j]? with
      | none => rw [ho] at h; cases h
      | some o =>
        rw [ho] at h
        simp only [Bool.or_eq_true] at h
        rcases h with h | h
        · obtain ⟨e, he, hb⟩ := Array.any_eq_true'.1 h
          rw [Bool.and_eq_true] at hb
          rw [← Nat.eq_of_beq_eq_true hb.2]
          exact hc.2 j o ho hj e he hb.1
        · obtain ⟨e, he, hb⟩ := Array.any_eq_true'.1 h
          rw [Bool.and_eq_true] at hb
          exact needs_spec hc n e.on hb.2 (hc.2 j o ho hj e he hb.1)

theorem wpAnyB_first {jb i : Nat} {oi : Oper} {v : Value} (hi : ops[i]? = some oi) (hsel : ∀ (j : Nat) (o : Oper) cs b, ops[j]? = some o → o.op ≠ .select cs b)
    (hQ : ∀ c a w, Q (.panic c) (a.put oi.dst v) w → Q (.panic c) a w) (hne : i ≠ jb) (hneed : ∀ listed, Closed ops listed → listed.getD jb false = true → listed.getD i false = true) :
    ∀ (fuel : Nat) (listed : Array Bool) (a : Act) (w : World), Closed ops listed →
      (∀ j oj, ops[j]? = some oj → j ≠ i → listed.getD j true = false → (∀ e ∈ oj.after, Region.binds .any e = true → e.on ≠ i) → oi.apart ops oj = true) →
      i ∈ Region.ready .any ops listed → YieldsIf P ops S oi v a → S w →
      wpAnyB P ops Q S jb fuel (listed.setIfInBounds i true) (a.put oi.dst v) w → wpAnyB P ops Q S jb (fuel + 1) listed a w := by
  intro fuel
  induction fuel with
  | zero =>
    intro listed a w hcl _ hr hy hS H
    refine ⟨fun h => (by rw [h] at hr; cases hr), fun j hj => ?_⟩
    by_cases hji : j = i
    · subst hji; exact hy.wpOp hi hS ⟨fun _ => hS, H⟩
    · have := ready_mono hj hji
      rw [H.1] at this
      cases this
  | succ fuel ih =>
    intro listed a w hcl hfree hr hy hS H
    refine ⟨fun h => (by rw [h] at hr; cases hr), fun j hj => ?_⟩
    by_cases hji : j = i
    · subst hji; exact hy.wpOp hi hS ⟨fun _ => hS, H⟩
    · have h1 := H.2 j (ready_mono hj hji)
      obtain ⟨hjun, oj, hoj, hall⟩ := mem_ready.1 hj
      have hiun := (mem_ready.1 hr).1
      have hif : ∀ l : Array Bool, l.getD i true = false → l.getD i false = false := fun l h => by
        rcases Nat.lt_or_ge i l.size with h' | h'
        · simp [h'] at h ⊢; exact h
        · simp [Array.getElem?_eq_none h']
      have hnot : ∀ e ∈ oj.after, Region.binds .any e = true → e.on ≠ i := fun e he hb heq => by
        have h1 := hall e he hb
        rw [heq, hif _ hiun] at h1; cases h1
      have hcl' := closed_set hcl hj
      have hiun' : (listed.setIfInBounds j true).getD i true = false := by rw [getD_set_ne true hji]; exact hiun
      have hjbun : (listed.setIfInBounds j true).getD jb false = false := by
        cases hb : (listed.setIfInBounds j true).getD jb false with
        | false => rfl
        | true => have := hneed _ hcl' hb; rw [hif _ hiun'] at this; cases this
      have hjbun2 : ((listed.setIfInBounds i true).setIfInBounds j true).getD jb false = false := by
        rw [Array.setIfInBounds_comm _ _ (Ne.symm hji), getD_set_ne false hne]; exact hjbun
      have h2 := wpOp_putIf hoj (hfree j oj hoj hji hjun hnot) (fun cs b => hsel i oi cs b hi) (fun cs b => hsel j oj cs b hoj) hQ hy h1
      have hfree' : ∀ k ok, ops[k]? = some ok → k ≠ i → (listed.setIfInBounds j true).getD k true = false →
          (∀ e ∈ ok.after, Region.binds .any e = true → e.on ≠ i) → oi.apart ops ok = true := fun k ok hk hki hun hno => by
        refine hfree k ok hk hki ?_ hno
        by_cases hjk : j = k
        · subst hjk; exact hjun
        · rw [getD_set_ne true hjk] at hun; exact hun
      refine wpOp_mono (fun a' w' h3 => ⟨fun _ => h3.2.1 hjbun2, ih (listed.setIfInBounds j true) a' w' hcl' hfree' (ready_mono hr (Ne.symm hji)) h3.1 (h3.2.1 hjbun2) ?_⟩) h2
      rw [Array.setIfInBounds_comm _ _ hji]
      exact h3.2.2

/-- The last operation, if it is carried out as it comes. -/
def barOf (n : Nat) : List (Nat × Bool) → Nat
  | [] => n
  | [(i, b)] => if b then n else i
  | _ :: x :: L => barOf n (x :: L)
/-- May the operations come in the order `L`, whatever order is drawn? -/
def chkB (ops : Array Oper) (jb : Nat) : Nat → Array Bool → List (Nat × Bool) → Bool
  | _, listed, [] => (Region.ready .any ops listed).isEmpty
  | 0, _, _ :: _ => false
  | n + 1, listed, (i, true) :: L => !Nat.beq i jb && (Nat.ble ops.size jb || needs ops 8 jb i) && Region.free .any ops listed i && (Region.ready .any ops listed).contains i && chkB ops jb n (listed.setIfInBounds i true) L
  | n + 1, listed, (i, false) :: L => (Region.ready .any ops listed == [i]) && ((listed.setIfInBounds i true).getD jb false || stab L) && chkB ops jb n (listed.setIfInBounds i true) L
def chk (ops : Array Oper) (n : Nat) (listed : Array Bool) (L : List (Nat × Bool)) : Bool := chkB ops (barOf ops.size L) n listed L

theorem hneed_of {jb i : Nat} (h : (Nat.ble ops.size jb || needs ops 8 jb i) = true) : ∀ listed, Closed ops listed → listed.getD jb false = true → listed.getD i false = true := fun listed hc hj => by
  rw [Bool.or_eq_true] at h
  rcases h with h | h
  · have := Nat.le_of_ble_eq_true h
    rw [Array.getD_eq_getD_getElem?, Array.getElem?_eq_none (by rw [hc.1]; exact this)] at hj
    cases hj
  · exact needs_spec hc _ _ h hj
theorem gol_drawn (hs : Region.noSelect ops = true) (hQ : ∀ c a d v w, Q (.panic c) (Act.put a d v) w → Q (.panic c) a w) {jb : Nat} :
    ∀ (n : Nat) (listed : Array Bool) (L : List (Nat × Bool)) (a : Act) (w : World), chkB ops jb n listed L = true → Closed ops listed → (stab L = true → S w) → GoL P ops S Q L a w →
      wpAnyB P ops Q S jb n listed a w
  | n, listed, [], a, w, hc, _, _, h => by
    have hr : Region.ready .any ops listed = [] := by simpa [chkB] using hc
    cases n with
    | zero => exact ⟨hr, h⟩
    | succ n => exact ⟨fun _ => h, by rw [hr]; simp⟩
  | 0, _, x :: L, a, w, hc, _, _, _ => by cases hc
  | n + 1, listed, (i, true) :: L, a, w, hc, hcl, hS, h => by
    simp only [chkB, Bool.and_eq_true] at hc
    obtain ⟨⟨⟨⟨h1, h2⟩, h3⟩, h4⟩, h5⟩ := hc
    obtain ⟨o, v, hi, hy, h⟩ := h
    have hr : i ∈ Region.ready .any ops listed := by simpa using h4
    have hSw := hS rfl
    refine wpAnyB_first hi (Region.noSelect_spec hs) (fun c a w hq => hQ c a _ _ w hq) (fun e => by subst e; simp at h1) (hneed_of h2) n listed a w hcl (Region.free_spec hi h3) hr hy hSw (gol_drawn hs hQ n _ L _ w h5 (closed_set hcl hr) (fun _ => hSw) h)
  | n + 1, listed, (i, false) :: L, a, w, hc, hcl, hS, h => by
    simp only [chkB, Bool.and_eq_true, beq_iff_eq] at hc
    obtain ⟨⟨h1, h2⟩, h3⟩ := hc
    have hr : i ∈ Region.ready .any ops listed := by rw [h1]; simp
    refine ⟨fun h0 => (by rw [h0] at h1; cases h1), fun j hj => ?_⟩
    rw [h1, List.mem_singleton] at hj
    subst hj
    refine wpOp_mono (fun a' w' h' => ⟨fun hb => h'.1 ?_, gol_drawn hs hQ n _ L a' w' h3 (closed_set hcl hr) h'.1 h'.2⟩) h
    rw [hb] at h2
    simpa using h2

theorem yieldsIf_det {o : Oper} {v v' : Value} {a : Act} {w : World} (h : YieldsIf P ops S o v a) (h' : YieldsIf P ops S o v' a) (hS : S w) : v = v' := by
  rcases h with ⟨h1, h2⟩ | ⟨h1, rfl⟩ <;> rcases h' with ⟨h3, h4⟩ | ⟨h3, rfl⟩
  · have := (h2 w hS).symm.trans (h4 w hS)
    simpa using this
  · rw [h1] at h3; cases h3
  · rw [h1] at h3; cases h3
  · rfl

/-- As 'chk', where behind `A` one of two may come up. -/
def chk2B (ops : Array Oper) (jb i : Nat) (L : List (Nat × Bool)) (i' : Nat) (L' : List (Nat × Bool)) : Nat → Array Bool → List Nat → Bool
  | 0, _, _ => false
  | n + 1, listed, [] => (Region.ready .any ops listed == [i, i']) && ((listed.setIfInBounds i true).getD jb false || stab L) && chkB ops jb n (listed.setIfInBounds i true) L && ((listed.setIfInBounds i' true).getD jb false || stab L') && chkB ops jb n (listed.setIfInBounds i' true) L'
  | n + 1, listed, j :: A => !Nat.beq j jb && (Nat.ble ops.size jb || needs ops 8 jb j) && Region.free .any ops listed j && (Region.ready .any ops listed).contains j && chk2B ops jb i L i' L' n (listed.setIfInBounds j true) A
def chk2 (ops : Array Oper) (i : Nat) (L : List (Nat × Bool)) (i' : Nat) (L' : List (Nat × Bool)) (n : Nat) (listed : Array Bool) (A : List Nat) : Bool := chk2B ops (barOf ops.size ((i, false) :: L)) i L i' L' n listed A

theorem gol_fork (hs : Region.noSelect ops = true) (hQ : ∀ c a d v w, Q (.panic c) (Act.put a d v) w → Q (.panic c) a w) {jb i i' : Nat} {L L' : List (Nat × Bool)} :
    ∀ (n : Nat) (listed : Array Bool) (A : List Nat) (a : Act) (w : World), chk2B ops jb i L i' L' n listed A = true → Closed ops listed → S w →
      GoL P ops S Q (A.map (fun j => (j, true)) ++ (i, false) :: L) a w → GoL P ops S Q (A.map (fun j => (j, true)) ++ (i', false) :: L') a w → wpAnyB P ops Q S jb n listed a w
  | 0, _, _, _, _, hc, _, _, _, _ => by cases hc
  | n + 1, listed, [], a, w, hc, hcl, hS, h, h' => by
    simp only [chk2B, Bool.and_eq_true, beq_iff_eq] at hc
    obtain ⟨⟨⟨⟨h0, h1⟩, h2⟩, h3⟩, h4⟩ := hc
    have hr : i ∈ Region.ready .any ops listed := by rw [h0]; simp
    have hr' : i' ∈ Region.ready .any ops listed := by rw [h0]; simp
    refine ⟨fun h0' => (by rw [h0'] at h0; cases h0), fun j hj => ?_⟩
    rw [h0] at hj
    simp only [List.mem_cons, List.not_mem_nil, or_false] at hj
    rcases hj with rfl | rfl
    · exact wpOp_mono (fun a' w' g => ⟨fun hb => g.1 (by rw [hb] at h1; simpa using h1), gol_drawn hs hQ n _ L a' w' h2 (closed_set hcl hr) g.1 g.2⟩) h
    · exact wpOp_mono (fun a' w' g => ⟨fun hb => g.1 (by rw [hb] at h3; simpa using h3), gol_drawn hs hQ n _ L' a' w' h4 (closed_set hcl hr') g.1 g.2⟩) h'
  | n + 1, listed, j :: A, a, w, hc, hcl, hS, h, h' => by
    simp only [chk2B, Bool.and_eq_true] at hc
    obtain ⟨⟨⟨⟨h1, h2⟩, h3⟩, h4⟩, h5⟩ := hc
    obtain ⟨o, v, hi, hy, h⟩ := h
    obtain ⟨o', v', hi', hy', h'⟩ := h'
    rw [hi] at hi'
    cases hi'
    obtain rfl := yieldsIf_det hy hy' hS
    have hr : j ∈ Region.ready .any ops listed := by simpa using h4
    exact wpAnyB_first hi (Region.noSelect_spec hs) (fun c a w hq => hQ c a _ _ w hq) (fun e => by subst e; simp at h1) (hneed_of h2) n listed a w hcl (Region.free_spec hi h3) hr hy hS (gol_fork hs hQ n _ A _ w h5 (closed_set hcl hr) hS h h')
theorem closed_none (ops : Array Oper) : Closed ops (Array.replicate ops.size false) := ⟨by simp, fun k ok _ hl => by
  rcases Nat.lt_or_ge k ops.size with h | h
  · simp [h] at hl
  · simp [Array.getElem?_eq_none, h] at hl⟩
end

/-! ### Frames as lists of slots -/

abbrev Env := List (Nat × Value)

def look : Env → Nat → Option Value
  | [], _ => none
  | (t, v) :: e, u => bif Nat.beq t u then some v else look e u

structure St (N : Nat) (env : Env) (a : Act) : Prop where
  size : a.tmps.size = N
  defers : a.defers = []
  slot : ∀ t v, look env t = some v → a.tmps[t]? = some v

def putE (d : Option Nat) (v : Value) (env : Env) : Env := match d with | some t => (t, v) :: env | none => env
def dOk (N : Nat) (d : Option Nat) : Bool := match d with | some t => Nat.blt t N | none => true

theorem St.put {N : Nat} {env : Env} {a : Act} (h : St N env a) {d : Option Nat} (hd : dOk N d = true) (v : Value) : St N (putE d v env) (a.put d v) := by
  cases d with
  | none => exact ⟨h.size, h.defers, h.slot⟩
  | some t =>
    have ht : t < N := by have h : t + 1 ≤ N := by simpa [dOk, Nat.blt] using hd
                          omega
    refine ⟨by simp [Act.put, h.size], h.defers, fun u x hx => ?_⟩
    simp only [putE, look] at hx
    simp only [Act.put, Array.getElem?_setIfInBounds]
    by_cases e : t = u
    · subst e
      simp at hx
      simp [h.size, ht, hx]
    · have e' : Nat.beq t u = false := by
        cases hb : Nat.beq t u with
        | false => rfl
        | true => exact absurd (Nat.eq_of_beq_eq_true hb) e
      rw [e'] at hx
      simp only [cond_false] at hx
      simp [e, h.slot u x hx]

/-- What an operand is. -/
def ev (env : Env) : Operand → Option Value
  | .tmp t => look env t
  | .const v => some v
  | .func g => some (.func (.func g) #[] #[])
  | .global g => some (.pointer (some ⟨g, 0, none⟩))

theorem St.ev {N : Nat} {env : Env} {a : Act} (h : St N env a) {x : Operand} {v : Value} (hx : ev env x = some v) : a.eval x = v := by
  cases x with
  | tmp t =>
    have := h.slot t v hx
    simp only [Act.eval]
    rw [Array.getD_eq_getD_getElem?, this]; rfl
  | const u => simpa [K.ev, Act.eval] using hx
  | func g => simpa [K.ev, Act.eval] using hx
  | global g => simpa [K.ev, Act.eval] using hx

def evs (env : Env) : List Operand → Option (List Value)
  | [] => some []
  | x :: l => match ev env x, evs env l with | some v, some r => some (v :: r) | _, _ => none

theorem St.evs {N : Nat} {env : Env} {a : Act} (h : St N env a) : ∀ {l : List Operand} {vs : List Value}, evs env l = some vs → l.map a.eval = vs
  | [], vs, hl => by simpa [K.evs] using hl
  | x :: l, vs, hl => by
    simp only [K.evs] at hl
    cases hx : K.ev env x with
    | none => rw [hx] at hl; cases hl
    | some v =>
      cases hr : K.evs env l with
      | none => rw [hx, hr] at hl; cases hl
      | some r =>
        rw [hx, hr] at hl
        simp only [Option.some.injEq] at hl
        subst hl
        simp [h.ev hx, h.evs hr]

/-- Every slot that the first list names holds in the second what it says. -/
def Sub (env' env : Env) : Prop := ∀ t v, look env' t = some v → look env t = some v
theorem sub_nil (env : Env) : Sub [] env := fun t v h => by cases h
theorem sub_cons (t : Nat) {u v : Value} {env' env : Env} (hl : look env t = some u) (hv : u = v) (h : Sub env' env) : Sub ((t, v) :: env') env := by
  subst hv
  intro s x hx
  simp only [look] at hx
  cases hb : Nat.beq t s with
  | true =>
    rw [hb] at hx
    simp only [cond_true, Option.some.injEq] at hx
    rw [← Nat.eq_of_beq_eq_true hb, hl, hx]
  | false => rw [hb] at hx; exact h s x hx
theorem Sub.refl (env : Env) : Sub env env := fun _ _ h => h
theorem St.sub {N : Nat} {env env' : Env} {a : Act} (h : St N env a) (hs : Sub env' env) : St N env' a := ⟨h.size, h.defers, fun t v ht => h.slot t v (hs t v ht)⟩

/-- From this list of things to do, in every frame that shows these slots. -/
def Run (P : Program) (f : FuncId) (N : Nat) (k : List Item) (env : Env) (w : World) (R : Value → World → Prop) : Prop :=
  ∀ a, St N env a → Runs P f k a w R

/-- The same in the middle of a region. -/
def Sch (P : Program) (f : FuncId) (N : Nat) (k : List Item) (R : Value → World → Prop) (ops : Array Oper) (S : World → Prop) (L : List (Nat × Bool)) (env : Env) (w : World) : Prop :=
  ∀ a, St N env a → GoL P ops S (QK P f k R) L a w

section
variable {P : Program} {f : FuncId} {N : Nat} {k : List Item} {env : Env} {w : World} {R : Value → World → Prop}

theorem Run.sub {env' : Env} (hs : Sub env' env) (h : Run P f N k env' w R) : Run P f N k env w R := fun a ha => h a (ha.sub hs)

theorem run_seq {c x y : Code} (hc : c = .seq x y) (h : Run P f N (.code x :: .code y :: k) env w R) : Run P f N (.code c :: k) env w R := fun a ha => by
  subst hc; exact Runs.step (fun _ => step_seq) (h a ha)
theorem run_block {c x : Code} {id : Nat} (hc : c = .block id x) (h : Run P f N (.code x :: .inBlock id :: k) env w R) : Run P f N (.code c :: k) env w R := fun a ha => by
  subst hc; exact Runs.step (fun _ => step_block) (h a ha)
theorem run_inBlock {id : Nat} (h : Run P f N k env w R) : Run P f N (.inBlock id :: k) env w R := fun a ha =>
  Runs.step (fun _ => step_inBlock) (h a ha)
theorem run_skip {c : Code} (hc : c = .skip) (h : Run P f N k env w R) : Run P f N (.code c :: k) env w R := fun a ha => by
  subst hc; exact Runs.step (fun _ => step_skip) (h a ha)
theorem run_exit {c : Code} {id : Nat} {k' : List Item} (hc : c = .exit id) (hk : exitTo id k = some k') (h : Run P f N k' env w R) : Run P f N (.code c :: k) env w R := fun a ha => by
  subst hc; exact Runs.step (fun _ => step_exit hk) (h a ha)
theorem run_cond {c x y : Code} {o : Operand} {b : Bool} (hc : c = .cond o x y) (hv : ev env o = some (.bool b))
    (ht : b = true → Run P f N (.code x :: k) env w R) (hf : b = false → Run P f N (.code y :: k) env w R) : Run P f N (.code c :: k) env w R := fun a ha => by
  subst hc
  have := ha.ev hv
  cases b with
  | true => exact Runs.step (fun _ => step_cond this) (ht rfl a ha)
  | false => exact Runs.step (fun _ => step_cond this) (hf rfl a ha)
theorem run_if {c x y : Code} {o : Operand} {p : Prop} [Decidable p] (hc : c = .cond o x y) (hv : ev env o = some (.bool (decide p)))
    (ht : p → Run P f N (.code x :: k) env w R) (hf : ¬ p → Run P f N (.code y :: k) env w R) : Run P f N (.code c :: k) env w R :=
  run_cond hc hv (fun h => ht (of_decide_eq_true h)) (fun h => hf (of_decide_eq_false h))

/-- A loop: what its head keeps is a list of slots and a fact, both over some `x`; a round lowers `m x`. -/
theorem run_loop {c body : Code} {ι : Type} (I : ι → World → Prop) (e : ι → Env) (m : ι → Nat) (x₀ : ι) (hc : c = .loop body)
    (hs : Sub (e x₀) env) (h0 : I x₀ w)
    (hr : ∀ x w, I x w → (∀ y w', I y w' → m y < m x → Run P f N (.inLoop body :: k) (e y) w' R) → Run P f N (.code body :: .inLoop body :: k) (e x) w R) :
    Run P f N (.code c :: k) env w R := by
  subst hc
  have main : ∀ n x w, m x ≤ n → I x w → Run P f N (.inLoop body :: k) (e x) w R := by
    intro n
    induction n with
    | zero =>
      intro x w hm hI a ha
      exact Runs.step (fun _ => step_inLoop) (hr x w hI (fun y w' hy hlt => by omega) a ha)
    | succ n ih =>
      intro x w hm hI a ha
      exact Runs.step (fun _ => step_inLoop) (hr x w hI (fun y w' hy hlt => ih y w' (by omega) hy) a ha)
  intro a ha
  exact Runs.step (fun _ => step_loop) (hr x₀ w h0 (fun y w' hy hlt => main (m y) y w' (Nat.le_refl _) hy) a (ha.sub hs))

theorem run_ret1 {c : Code} {fn : Func} {t : Nat} {v : Value} (hc : c = .ret) (hf : P.funcs[f]? = some fn) (hres : fn.results = #[.tmp t]) (hv : look env t = some v)
    (hR : R v w) : Run P f N (.code c :: k) env w R := fun a ha => by
  subst hc
  refine runs_ret hf ha.defers ?_ hR
  have := ha.slot t v hv
  simp only [results, hres]
  simp [this, Sem.run, pure, Array.getD_eq_getD_getElem?]
theorem run_ret2 {c : Code} {fn : Func} {t u : Nat} {v x : Value} (hc : c = .ret) (hf : P.funcs[f]? = some fn) (hres : fn.results = #[.tmp t, .tmp u]) (hv : look env t = some v) (hx : look env u = some x)
    (hR : R (.tuple #[v, x]) w) : Run P f N (.code c :: k) env w R := fun a ha => by
  subst hc
  refine runs_ret hf ha.defers ?_ hR
  rw [results_tmp2 hres]
  have h1 := ha.slot t v hv
  have h2 := ha.slot u x hx
  simp [h1, h2, Array.getD_eq_getD_getElem?]

/-! ### Regions -/

theorem run_plain {c : Code} {id : Nat} {ops : Array Oper} (L : List (Nat × Bool)) (hc : c = .region id ops false)
    (hL : L.map (·.1) = List.range ops.size) (h : Sch P f N k R ops (fun _ => True) L env w) : Run P f N (.code c :: k) env w R := fun a ha => by
  subst hc
  exact runs_of_wp (wp_region (by rw [← hL]; exact gol_plain L a w (h a ha)))

theorem run_drawn {c : Code} {id : Nat} {ops : Array Oper} (S : World → Prop) (L : List (Nat × Bool)) (hm : P.follows .mixedOrders = true) (hc : c = .region id ops true)
    (hn : Region.noSelect ops = true) (hk : chk ops ops.size (Array.replicate ops.size false) L = true) (hS : S { w with drawn := w.drawn + 1 })
    (h : Sch P f N k R ops S L env { w with drawn := w.drawn + 1 }) : Run P f N (.code c :: k) env w R := fun a ha => by
  subst hc
  exact runs_of_wp (wp_region_any hm (wpAny_of_bar _ _ _ _ (gol_drawn hn (fun c a d v w h => h.elim) _ _ L a _ hk (closed_none ops) (fun _ => hS) (h a ha))))

theorem run_drawn2 {c : Code} {id : Nat} {ops : Array Oper} (S : World → Prop) (A : List Nat) (i : Nat) (L : List (Nat × Bool)) (i' : Nat) (L' : List (Nat × Bool)) (hm : P.follows .mixedOrders = true) (hc : c = .region id ops true)
    (hn : Region.noSelect ops = true) (hk : chk2 ops i L i' L' ops.size (Array.replicate ops.size false) A = true) (hS : S { w with drawn := w.drawn + 1 })
    (h : Sch P f N k R ops S (A.map (fun j => (j, true)) ++ (i, false) :: L) env { w with drawn := w.drawn + 1 }) (h' : Sch P f N k R ops S (A.map (fun j => (j, true)) ++ (i', false) :: L') env { w with drawn := w.drawn + 1 }) : Run P f N (.code c :: k) env w R := fun a ha => by
  subst hc
  exact runs_of_wp (wp_region_any hm (wpAny_of_bar _ _ _ _ (gol_fork hn (fun c a d v w h => h.elim) _ _ A a _ hk (closed_none ops) hS (h a ha) (h' a ha))))

/-- What an operation is, without its place in the text and its edges. -/
def opAt (ops : Array Oper) (i : Nat) : Option (Option Tmp × Op × Option (Nat × Bool)) := (ops[i]?).map fun o => (o.dst, o.op, o.guard)
def dstAt (ops : Array Oper) (i : Nat) : Option Tmp := (ops[i]?).bind (·.dst)

/-- In this world, in every frame that shows these slots, the operation yields `v`. -/
def Val (P : Program) (N : Nat) (env : Env) (op : Op) (w : World) (v : Value) : Prop :=
  ∀ a, St N env a → ∀ o : Oper, o.op = op → (execOp a.eval o).run P w = .ok (.value v) w

variable {ops : Array Oper} {S : World → Prop} {i : Nat} {L : List (Nat × Bool)} {d : Option Nat} {op : Op} {v : Value}

/-- No operation is left that asks for the condition. -/
theorem Sch.free (hs : lastB L = true) (h : Sch P f N k R ops (fun _ => True) L env w) : Sch P f N k R ops S L env w := fun a ha => gol_free L a w hs (h a ha)

theorem Sch.nil (h : Run P f N k env w R) : Sch P f N k R ops S [] env w := fun a ha => h a ha

theorem Sch.sub {env' : Env} (hs : Sub env' env) (h : Sch P f N k R ops S L env' w) : Sch P f N k R ops S L env w := fun a ha => h a (ha.sub hs)

theorem opAt_spec {g : Option (Nat × Bool)} (h : opAt ops i = some (d, op, g)) : ∃ o, ops[i]? = some o ∧ o.dst = d ∧ o.op = op ∧ o.guard = g := by
  unfold opAt at h
  cases ho : ops[i]? with
  | none => rw [ho] at h; cases h
  | some o =>
    rw [ho] at h
    simp only [Option.map_some, Option.some.injEq, Prod.mk.injEq] at h
    exact ⟨o, rfl, h⟩

/-- Is the operation carried out? -/
def wantedE (ops : Array Oper) (env : Env) : Option (Nat × Bool) → Option Bool
  | none => some true
  | some (j, want) => match dstAt ops j with
    | none => some false
    | some t => match look env t with
      | none => none
      | some (.bool b) => some (b == want)
      | some _ => some false

theorem St.wanted {a : Act} (ha : St N env a) {o : Oper} {b : Bool} (h : wantedE ops env o.guard = some b) : Region.wanted o (yielded ops a.tmps) = b := by
  unfold Region.wanted
  cases hg : o.guard with
  | none => rw [hg] at h; simpa [wantedE] using h
  | some p =>
    obtain ⟨j, want⟩ := p
    rw [hg] at h
    simp only [wantedE, dstAt] at h
    simp only [yielded]
    cases hj : (ops[j]?).bind (·.dst) with
    | none => rw [hj] at h; simp only [Option.some.injEq] at h; subst h; rfl
    | some t =>
      rw [hj] at h
      simp only at h
      cases hl : look env t with
      | none => rw [hl] at h; cases h
      | some u =>
        rw [hl] at h
        have := ha.slot t u hl
        simp only [Option.bind_some, this]
        cases u <;> simp only [Option.some.injEq] at h <;> subst h <;> first | rfl | (rename_i x; cases x <;> cases want <;> rfl)

/-- It yields a value, whatever world that meets S stands. -/
theorem Sch.yield {g : Option (Nat × Bool)} (hop : opAt ops i = some (d, op, g)) (hw : wantedE ops env g = some true) (hd : dOk N d = true)
    (hy : ∀ w', S w' → Val P N env op w' v) (h : Sch P f N k R ops S L (putE d v env) w) : Sch P f N k R ops S ((i, true) :: L) env w := fun a ha => by
  obtain ⟨o, ho, rfl, rfl, rfl⟩ := opAt_spec hop
  exact ⟨o, v, ho, .inl ⟨ha.wanted hw, fun w' hS => hy w' hS a ha o rfl⟩, h _ (ha.put hd v)⟩

/-- It is passed over. -/
theorem Sch.pass {g : Option (Nat × Bool)} (hop : opAt ops i = some (d, op, g)) (hw : wantedE ops env g = some false) (hd : dOk N d = true)
    (h : Sch P f N k R ops S L (putE d undef env) w) : Sch P f N k R ops S ((i, true) :: L) env w := fun a ha => by
  obtain ⟨o, ho, rfl, rfl, rfl⟩ := opAt_spec hop
  exact ⟨o, undef, ho, .inr ⟨ha.wanted hw, rfl⟩, h _ (ha.put hd undef)⟩
theorem Sch.passW {g : Option (Nat × Bool)} (hop : opAt ops i = some (d, op, g)) (hw : wantedE ops env g = some false) (hd : dOk N d = true) (hS : S w)
    (h : Sch P f N k R ops S L (putE d undef env) w) : Sch P f N k R ops S ((i, false) :: L) env w := fun a ha => by
  obtain ⟨o, ho, rfl, rfl, rfl⟩ := opAt_spec hop
  simp only [GoL, wpOp, ho, ha.wanted hw, Bool.false_eq_true, if_false]
  exact ⟨fun _ => hS, h _ (ha.put hd undef)⟩

/-- It is carried out in the world at hand, and may turn it. -/
def Acts (P : Program) (N : Nat) (env : Env) (op : Op) (w : World) (T : Value → World → Prop) : Prop :=
  ∀ a, St N env a → ∀ o : Oper, o.op = op → ∃ v w', ((execOp a.eval o).run P w = .ok (.value v) w' ∨ ((execOp a.eval o).run P w = .ok .skip w' ∧ v = undef)) ∧ T v w'

theorem Sch.act {g : Option (Nat × Bool)} {T : Value → World → Prop} (hop : opAt ops i = some (d, op, g)) (hw : wantedE ops env g = some true) (hd : dOk N d = true)
    (hy : Acts P N env op w T) (h : ∀ v w', T v w' → S w' ∧ Sch P f N k R ops S L (putE d v env) w') : Sch P f N k R ops S ((i, false) :: L) env w := fun a ha => by
  obtain ⟨o, ho, rfl, rfl, rfl⟩ := opAt_spec hop
  simp only [GoL, wpOp, ho, ha.wanted hw, if_true]
  obtain ⟨v, w', hrun, hT⟩ := hy a ha o rfl
  left
  unfold Oper.wp
  obtain ⟨h1, h2⟩ := h v w' hT
  rcases hrun with hrun | ⟨hrun, rfl⟩
  · rw [hrun]; exact ⟨fun _ => h1, h2 _ (ha.put hd v)⟩
  · rw [hrun]; exact ⟨fun _ => h1, h2 _ (ha.put hd undef)⟩

theorem Val.acts (h : Val P N env op w v) : Acts P N env op w (fun x w' => x = v ∧ w' = w) := fun a ha o ho => ⟨v, w, .inl (h a ha o ho), rfl, rfl⟩

/-- It yields a value in the world at hand. -/
theorem Sch.now {g : Option (Nat × Bool)} (hop : opAt ops i = some (d, op, g)) (hw : wantedE ops env g = some true) (hd : dOk N d = true) (hS : S w)
    (hy : Val P N env op w v) (h : Sch P f N k R ops S L (putE d v env) w) : Sch P f N k R ops S ((i, false) :: L) env w :=
  Sch.act hop hw hd hy.acts (by rintro _ _ ⟨rfl, rfl⟩; exact ⟨hS, h⟩)

/-- It calls a Go function. -/
def Enters (P : Program) (N : Nat) (env : Env) (op : Op) (w : World) (g : FuncId) (args : Array Value) : Prop :=
  ∀ a, St N env a → ∀ o : Oper, o.op = op → (execOp a.eval o).run P w = .ok (.enter g args) w

theorem Sch.call {gd : Option (Nat × Bool)} {g : FuncId} {args : Array Value} {T : Value → World → Prop} (hop : opAt ops i = some (d, op, gd)) (hw : wantedE ops env gd = some true) (hd : dOk N d = true)
    (hy : Enters P N env op w g args) (hc : Calls P g args w (Ret T))
    (h : ∀ v w', T v w' → S w' ∧ Sch P f N k R ops S L (putE d v env) w') : Sch P f N k R ops S ((i, false) :: L) env w := fun a ha => by
  obtain ⟨o, ho, rfl, rfl, rfl⟩ := opAt_spec hop
  simp only [GoL, wpOp, ho, ha.wanted hw, if_true]
  left
  unfold Oper.wp
  rw [hy a ha o rfl]
  simp only [Oper.upon]
  refine hc.mono fun e w' he => ?_
  obtain ⟨v, rfl, hT⟩ := he
  obtain ⟨h1, h2⟩ := h v w' hT
  exact ⟨fun _ => h1, h2 _ (ha.put hd v)⟩

end

/-- A call from its body. -/
theorem calls_body {P : Program} {f : FuncId} {fn : Func} {c : Code} {args : List Value} {N : Nat} {env : Env} {w : World} {R : Value → World → Prop}
    (hf : P.funcs[f]? = some fn) (hb : fn.body = some c) (hN : fn.ntmps = N) (hsz : Nat.ble args.length N = true) (he : ∀ t v, look env t = some v → args[t]? = some v)
    (h : Run P f N [.code c] env w R) : Calls P f args.toArray w (Ret R) := by
  refine calls_of_runs hf hb (h _ ?_)
  have : args.length ≤ N := Nat.le_of_ble_eq_true hsz
  refine ⟨by simp [hN]; omega, rfl, fun t v ht => ?_⟩
  have h1 := he t v ht
  have h2 : t < args.length := by
    rcases Nat.lt_or_ge t args.length with h | h
    · exact h
    · rw [List.getElem?_eq_none h] at h1; cases h1
  simp only
  rw [Array.getElem?_append_left (by simpa using h2)]
  simpa using h1

/-- The slots of a call's arguments. -/
def argEnv : Nat → List Value → Env
  | _, [] => []
  | n, v :: l => (n, v) :: argEnv (n + 1) l
theorem look_argEnv : ∀ (l : List Value) (n t : Nat) (v : Value), look (argEnv n l) t = some v → n ≤ t ∧ l[t - n]? = some v
  | [], _, _, _, h => by cases h
  | x :: l, n, t, v, h => by
    simp only [argEnv, look] at h
    cases hb : Nat.beq n t with
    | true =>
      rw [hb] at h
      have e := Nat.eq_of_beq_eq_true hb
      subst e
      simp at h
      simp [h]
    | false =>
      rw [hb] at h
      have hne : n ≠ t := fun e => by subst e; simp at hb
      obtain ⟨h1, h2⟩ := look_argEnv l (n + 1) t v h
      refine ⟨by omega, ?_⟩
      have : t - n = (t - (n + 1)) + 1 := by omega
      rw [this]; simpa using h2
theorem calls_start {P : Program} {f : FuncId} {fn : Func} {c : Code} (args : List Value) {N : Nat} {w : World} {R : Value → World → Prop}
    (hf : P.funcs[f]? = some fn) (hb : fn.body = some c) (hN : fn.ntmps = N) (hsz : Nat.ble args.length N = true)
    (h : Run P f N [.code c] (argEnv 0 args) w R) : Calls P f args.toArray w (Ret R) :=
  calls_body hf hb hN hsz (fun t v ht => by simpa using (look_argEnv args 0 t v ht).2) h

end Go.K

/- What each operation yields: the ones that only compute. -/
set_option linter.unusedVariables false
set_option linter.unusedSimpArgs false
namespace Go.K

section
variable {P : Program} {N : Nat} {env : Env} {w : World} {x y z : Operand} {t u : TypeId} {k : IntKind} {m n : Int} {v : Value}

theorem mk' {op : Op} (h : ∀ ρ : Operand → Value, (∀ x v, ev env x = some v → ρ x = v) → ∀ o : Oper, o.op = op → (execOp ρ o).run P w = .ok (.value v) w) : Val P N env op w v :=
  fun a ha o ho => h a.eval (fun x v hx => ha.ev hx) o ho

theorem val_move (hx : ev env x = some v) : Val P N env (.move x) w v := mk' fun ρ hρ o ho => by
  unfold execOp; rw [ho]; simp [hρ _ _ hx, go_sem]
theorem val_assign (hx : ev env x = some v) : Val P N env (.assign x) w v := mk' fun ρ hρ o ho => by
  unfold execOp; rw [ho]; simp [hρ _ _ hx, go_sem]
/-- 'a && b', 'a || b': where the guarded part was not reached its slot holds what it held: it is not looked at. -/
theorem val_pick_t {v₁ : Value} (hx : ev env x = some (.bool true)) (hy : ev env y = some v₁) :
    Val P N env (.pick x y z) w v₁ := mk' fun ρ hρ o ho => by
  unfold execOp; rw [ho]; simp [hρ _ _ hx, hρ _ _ hy, go_sem, asBool]
theorem val_pick_f {v₂ : Value} (hx : ev env x = some (.bool false)) (hz : ev env z = some v₂) :
    Val P N env (.pick x y z) w v₂ := mk' fun ρ hρ o ho => by
  unfold execOp; rw [ho]; simp [hρ _ _ hx, hρ _ _ hz, go_sem, asBool]
theorem val_nilCheck {a : Addr} (hx : ev env x = some (.pointer (some a))) : Val P N env (.nilCheck x) w (.pointer (some a)) := mk' fun ρ hρ o ho => by
  unfold execOp; rw [ho]; simp [hρ _ _ hx, go_sem]
theorem val_extract {vs : Array Value} {i : Nat} (hx : ev env x = some (.tuple vs)) (hv : vs[i]? = some v) : Val P N env (.extract x i) w v := mk' fun ρ hρ o ho => by
  unfold execOp; rw [ho]; simp [hρ _ _ hx, go_sem, Instr.extract, hv]

theorem run_eqGuard_int (op : BinOp) (t : TypeId) (x y : Operand) (k j : IntKind) (m n : Int) (w : World) :
    (eqGuard op t x y (.int k m) (.int j n)).run P w = .ok () w := by
  unfold eqGuard; simp [go_sem]

theorem val_add (hx : ev env x = some (.int k m)) (hy : ev env y = some (.int k n)) : Val P N env (.binOp .add t x y u) w (.int k (k.wrap (m + n))) := mk' fun ρ hρ o ho => by
  unfold execOp; rw [ho]; simp [hρ _ _ hx, hρ _ _ hy, go_sem, run_eqGuard_int, binOp, Op.intArith]
theorem val_sub (hx : ev env x = some (.int k m)) (hy : ev env y = some (.int k n)) : Val P N env (.binOp .sub t x y u) w (.int k (k.wrap (m - n))) := mk' fun ρ hρ o ho => by
  unfold execOp; rw [ho]; simp [hρ _ _ hx, hρ _ _ hy, go_sem, run_eqGuard_int, binOp, Op.intArith]
theorem val_mul (hx : ev env x = some (.int k m)) (hy : ev env y = some (.int k n)) : Val P N env (.binOp .mul t x y u) w (.int k (k.wrap (m * n))) := mk' fun ρ hρ o ho => by
  unfold execOp; rw [ho]; simp [hρ _ _ hx, hρ _ _ hy, go_sem, run_eqGuard_int, binOp, Op.intArith]
theorem val_rem (hx : ev env x = some (.int k m)) (hy : ev env y = some (.int k n)) (hn : n ≠ 0) : Val P N env (.binOp .rem t x y u) w (.int k (m.tmod n)) := mk' fun ρ hρ o ho => by
  unfold execOp; rw [ho]; simp [hρ _ _ hx, hρ _ _ hy, go_sem, run_eqGuard_int, binOp, Op.intDiv, hn]
theorem val_lss (hx : ev env x = some (.int k m)) (hy : ev env y = some (.int k n)) : Val P N env (.binOp .lss t x y u) w (.bool (decide (m < n))) := mk' fun ρ hρ o ho => by
  unfold execOp; rw [ho]; simp [hρ _ _ hx, hρ _ _ hy, go_sem, run_eqGuard_int, binOp, Op.intCmp]
theorem val_leq (hx : ev env x = some (.int k m)) (hy : ev env y = some (.int k n)) : Val P N env (.binOp .leq t x y u) w (.bool (decide (m ≤ n))) := mk' fun ρ hρ o ho => by
  unfold execOp; rw [ho]; simp [hρ _ _ hx, hρ _ _ hy, go_sem, run_eqGuard_int, binOp, Op.intCmp]
theorem val_gtr (hx : ev env x = some (.int k m)) (hy : ev env y = some (.int k n)) : Val P N env (.binOp .gtr t x y u) w (.bool (decide (n < m))) := mk' fun ρ hρ o ho => by
  unfold execOp; rw [ho]; simp [hρ _ _ hx, hρ _ _ hy, go_sem, run_eqGuard_int, binOp, Op.intCmp]
theorem val_geq (hx : ev env x = some (.int k m)) (hy : ev env y = some (.int k n)) : Val P N env (.binOp .geq t x y u) w (.bool (decide (n ≤ m))) := mk' fun ρ hρ o ho => by
  unfold execOp; rw [ho]; simp [hρ _ _ hx, hρ _ _ hy, go_sem, run_eqGuard_int, binOp, Op.intCmp]
theorem val_eql (hx : ev env x = some (.int k m)) (hy : ev env y = some (.int k n)) : Val P N env (.binOp .eql t x y u) w (.bool (decide (m = n))) := mk' fun ρ hρ o ho => by
  unfold execOp; rw [ho]; simp [hρ _ _ hx, hρ _ _ hy, go_sem, run_eqGuard_int, binOp, Op.intCmp]; rfl
theorem val_neq (hx : ev env x = some (.int k m)) (hy : ev env y = some (.int k n)) : Val P N env (.binOp .neq t x y u) w (.bool (decide (m ≠ n))) := mk' fun ρ hρ o ho => by
  unfold execOp; rw [ho]; simp [hρ _ _ hx, hρ _ _ hy, go_sem, run_eqGuard_int, binOp, Op.intCmp]
  by_cases h : m = n <;> simp [h]
def bitsOf (op : BinOp) (k : IntKind) (m n : Int) : Int :=
  k.wrap ((match op with
    | .and => BitVec.ofInt k.bits m &&& BitVec.ofInt k.bits n
    | .or => BitVec.ofInt k.bits m ||| BitVec.ofInt k.bits n
    | .xor => BitVec.ofInt k.bits m ^^^ BitVec.ofInt k.bits n
    | _ => BitVec.ofInt k.bits m &&& ~~~(BitVec.ofInt k.bits n) : BitVec k.bits).toNat)
theorem val_and (hx : ev env x = some (.int k m)) (hy : ev env y = some (.int k n)) : Val P N env (.binOp .and t x y u) w (.int k (bitsOf .and k m n)) := mk' fun ρ hρ o ho => by
  unfold execOp; rw [ho]; simp [hρ _ _ hx, hρ _ _ hy, Sem.run_bind, Sem.run_pure, run_eqGuard_int, binOp, Op.intBits, bitsOf]
theorem val_or (hx : ev env x = some (.int k m)) (hy : ev env y = some (.int k n)) : Val P N env (.binOp .or t x y u) w (.int k (bitsOf .or k m n)) := mk' fun ρ hρ o ho => by
  unfold execOp; rw [ho]; simp [hρ _ _ hx, hρ _ _ hy, Sem.run_bind, Sem.run_pure, run_eqGuard_int, binOp, Op.intBits, bitsOf]
theorem val_xor (hx : ev env x = some (.int k m)) (hy : ev env y = some (.int k n)) : Val P N env (.binOp .xor t x y u) w (.int k (bitsOf .xor k m n)) := mk' fun ρ hρ o ho => by
  unfold execOp; rw [ho]; simp [hρ _ _ hx, hρ _ _ hy, Sem.run_bind, Sem.run_pure, run_eqGuard_int, binOp, Op.intBits, bitsOf]
theorem val_shl {j : IntKind} (hx : ev env x = some (.int k m)) (hy : ev env y = some (.int j n)) (hn : 0 ≤ n) :
    Val P N env (.binOp .shl t x y u) w (.int k (k.wrap (m * 2 ^ min n.toNat k.bits))) := mk' fun ρ hρ o ho => by
  have : ¬ n < 0 := by omega
  unfold execOp; rw [ho]; simp [hρ _ _ hx, hρ _ _ hy, Sem.run_bind, Sem.run_pure, run_eqGuard_int, binOp, Op.shift, this]
theorem val_shr {j : IntKind} (hx : ev env x = some (.int k m)) (hy : ev env y = some (.int j n)) (hn : 0 ≤ n) :
    Val P N env (.binOp .shr t x y u) w (.int k (m.fdiv (2 ^ min n.toNat k.bits))) := mk' fun ρ hρ o ho => by
  have : ¬ n < 0 := by omega
  unfold execOp; rw [ho]; simp [hρ _ _ hx, hρ _ _ hy, Sem.run_bind, Sem.run_pure, run_eqGuard_int, binOp, Op.shift, this]
theorem val_not {b : Bool} (hx : ev env x = some (.bool b)) : Val P N env (.unOp .not t x) w (.bool (!b)) := mk' fun ρ hρ o ho => by
  unfold execOp; rw [ho]; simp [hρ _ _ hx, go_sem, Op.unary]
theorem val_conv_int {j : IntKind} (hx : ev env x = some (.int j m)) (ht : ∃ d, P.underlying t = some d) (hu : P.underlying u = some (.int k)) : Val P N env (.convert t u x) w (.int k (k.wrap m)) := mk' fun ρ hρ o ho => by
  obtain ⟨d, hd⟩ := ht
  unfold execOp; rw [ho]; simp [hρ _ _ hx, go_sem, convert, run_underlying hd, run_underlying hu, Conv.intToInt]

theorem val_len_slice {b : Option Addr} {c l : Nat} {e : TypeId} (hx : ev env x = some (.slice b l c)) (ht : P.underlying t = some (.slice e)) :
    Val P N env (.call { callee := .builtin .len, args := #[x], argTypes := #[t] }) w (.int .i64 l) := mk' fun ρ hρ o ho => by
  unfold execOp; rw [ho]; simp [hρ _ _ hx, go_sem, resolve, invoke, builtin, Builtin.len_, run_underlying ht, goInt]
theorem enters_func {g : FuncId} {xs : Array Operand} {ts : Array TypeId} {vs : List Value} {cap : Array Value} {w : World}
    (hcall : ∀ args w, (callFunc g args).run P w = .ok (.enter g args) w) (hx : ev env x = some (.func (.func g) #[] cap)) (hargs : evs env xs.toList = some vs) :
    Enters P N env (.call { callee := .value x, args := xs, argTypes := ts }) w g (vs ++ cap.toList).toArray := fun a ha o ho => by
  have h1 : xs.map a.eval = vs.toArray := by
    rw [← ha.evs hargs, ← List.map_toArray]
  unfold execOp; rw [ho]
  simp only [resolve, Deferred.ofValue, ha.ev hx, h1, Sem.run_bind, Sem.run_pure, Result.andThen_ok, invoke]
  rw [hcall]
  simp
end

/-- An int that fits is what it is. -/
theorem wrap_i64 {n : Int} (h1 : -9223372036854775808 ≤ n) (h2 : n ≤ 9223372036854775807) : IntKind.i64.wrap n = n := IntWalk.i64_in n ⟨h1, h2⟩
theorem eq_int {k : IntKind} {a b : Int} (h : a = b) : Value.int k a = Value.int k b := by rw [h]
theorem eq_bool {a b : Bool} (h : a = b) : Value.bool a = Value.bool b := by rw [h]

section
variable {P : Program} {N : Nat} {env : Env} {w : World} {x y : Operand} {t u : TypeId} {m n : Int}
theorem val_addi (hx : ev env x = some (.int .i64 m)) (hy : ev env y = some (.int .i64 n)) (h1 : -9223372036854775808 ≤ m + n) (h2 : m + n ≤ 9223372036854775807) :
    Val P N env (.binOp .add t x y u) w (.int .i64 (m + n)) := by
  have := val_add (P := P) (N := N) (w := w) (t := t) (u := u) hx hy; rwa [wrap_i64 h1 h2] at this
theorem val_subi (hx : ev env x = some (.int .i64 m)) (hy : ev env y = some (.int .i64 n)) (h1 : -9223372036854775808 ≤ m - n) (h2 : m - n ≤ 9223372036854775807) :
    Val P N env (.binOp .sub t x y u) w (.int .i64 (m - n)) := by
  have := val_sub (P := P) (N := N) (w := w) (t := t) (u := u) hx hy; rwa [wrap_i64 h1 h2] at this
theorem val_muli (hx : ev env x = some (.int .i64 m)) (hy : ev env y = some (.int .i64 n)) (h1 : -9223372036854775808 ≤ m * n) (h2 : m * n ≤ 9223372036854775807) :
    Val P N env (.binOp .mul t x y u) w (.int .i64 (m * n)) := by
  have := val_mul (P := P) (N := N) (w := w) (t := t) (u := u) hx hy; rwa [wrap_i64 h1 h2] at this
theorem val_modi (hx : ev env x = some (.int .i64 m)) (hy : ev env y = some (.int .i64 n)) (h0 : 0 ≤ m) (h1 : 1 ≤ n) :
    Val P N env (.binOp .rem t x y u) w (.int .i64 (m % n)) := by
  have := val_rem (P := P) (N := N) (w := w) (t := t) (u := u) hx hy (by omega)
  rwa [Int.tmod_eq_emod_of_nonneg h0] at this
end


section
variable {P : Program} {N : Nat} {env : Env} {w : World} {x y : Operand} {t u : TypeId} {m n r : Int} {k j : IntKind}
theorem val_shrE (hx : ev env x = some (.int k m)) (hy : ev env y = some (.int j n)) (hn : 0 ≤ n) (h : m.fdiv (2 ^ min n.toNat k.bits) = r) : Val P N env (.binOp .shr t x y u) w (.int k r) := by
  subst h; exact val_shr hx hy hn
theorem val_shlE (hx : ev env x = some (.int k m)) (hy : ev env y = some (.int j n)) (hn : 0 ≤ n) (h : k.wrap (m * 2 ^ min n.toNat k.bits) = r) : Val P N env (.binOp .shl t x y u) w (.int k r) := by
  subst h; exact val_shl hx hy hn
theorem val_convE (hx : ev env x = some (.int j m)) (ht : ∃ d, P.underlying t = some d) (hu : P.underlying u = some (.int k)) (h : k.wrap m = r) : Val P N env (.convert t u x) w (.int k r) := by
  subst h; exact val_conv_int hx ht hu
theorem val_andE (hx : ev env x = some (.int k m)) (hy : ev env y = some (.int k n)) (h : bitsOf .and k m n = r) : Val P N env (.binOp .and t x y u) w (.int k r) := by
  subst h; exact val_and hx hy
theorem val_orE (hx : ev env x = some (.int k m)) (hy : ev env y = some (.int k n)) (h : bitsOf .or k m n = r) : Val P N env (.binOp .or t x y u) w (.int k r) := by
  subst h; exact val_or hx hy
end

end Go.K

/- Memory: what may turn between two worlds, how data read, and the operations that touch memory. -/
set_option linter.unusedVariables false
set_option linter.unusedSimpArgs false
namespace Go.K

/-- Draws only go forth. -/
def Dr (w w' : World) : Prop := w.drawn ≤ w'.drawn
theorem Dr.refl {w w' : World} (h : w'.drawn = w.drawn) : Dr w w' := Nat.le_of_eq h.symm
theorem Dr.succ {w w' : World} (h : w'.drawn = w.drawn + 1) : Dr w w' := by unfold Dr; omega
theorem Dr.trans {w w' w'' : World} (h : Dr w w') (h' : Dr w' w'') : Dr w w'' := Nat.le_trans h h'
/-- From `w` to `w'` no block of `w` has turned but for those in `A`. -/
structure Ext (A : Nat → Prop) (w w' : World) : Prop where
  os : w'.os = w.os
  tape : w'.tape = w.tape
  output : w'.output = w.output
  size : w.heap.size ≤ w'.heap.size
  block : ∀ b, b < w.heap.size → ¬ A b → w'.heap[b]? = w.heap[b]?
  drawn : Dr w w'

def No : Nat → Prop := fun _ => False
def One (b : Nat) : Nat → Prop := fun x => x = b
/-- The block of an owned slice. -/
def Ob (v : Value) : Nat → Prop := fun x => v.ownBlock = some x

section
variable {A A' M M' : Nat → Prop} {w w' w'' : World}
theorem Ext.refl (A : Nat → Prop) (w : World) : Ext A w w := ⟨rfl, rfl, rfl, Nat.le_refl _, fun _ _ _ => rfl, Dr.refl rfl⟩
theorem Ext.trans (h : Ext A w w') (h' : Ext A' w' w'') (hA : ∀ b, b < w.heap.size → A' b → A b) : Ext A w w'' :=
  ⟨h'.os.trans h.os, h'.tape.trans h.tape, h'.output.trans h.output, Nat.le_trans h.size h'.size, fun b hb hn =>
    (h'.block b (Nat.lt_of_lt_of_le hb h.size) (fun ha => hn (hA b hb ha))).trans (h.block b hb hn), Dr.trans h.drawn h'.drawn⟩
theorem Ext.mono (h : Ext A w w') (hA : ∀ b, b < w.heap.size → A b → A' b) : Ext A' w w' :=
  ⟨h.os, h.tape, h.output, h.size, fun b hb hn => h.block b hb (fun ha => hn (hA b hb ha)), h.drawn⟩
theorem Ext.drew (A : Nat → Prop) (w : World) : Ext A w { w with drawn := w.drawn + 1 } := ⟨rfl, rfl, rfl, Nat.le_refl _, fun _ _ _ => rfl, Dr.succ rfl⟩
theorem Ext.below (h : Ext A w w') {B : Nat} (hB : B ≤ w.heap.size) (hA : ∀ b, A b → B ≤ b) : Go.RowKit.Below B w w' :=
  ⟨h.os, h.tape, h.output, h.size, fun k hk => h.block k (Nat.lt_of_lt_of_le hk hB) (fun ha => by have := hA k ha; omega)⟩
theorem Ext.at' (h : Ext A w w') {b : Nat} {o : Obj} (hb : w.heap[b]? = some o) (hn : ¬ A b) : w'.heap[b]? = some o :=
  (h.block b (Array.getElem?_eq_some_iff.1 hb).1 hn).trans hb
theorem lt_of_at {b : Nat} {o : Obj} (hb : w.heap[b]? = some o) : b < w.heap.size := (Array.getElem?_eq_some_iff.1 hb).1
end

/-- Data that lie in so many cells, read outside the blocks `M` (those may still be written). -/
class Rep (α : Type) where
  sz : Nat
  /-- Is it a struct or an array? -/
  agg : Bool
  flat : agg = false → sz = 1
  rep : Array Obj → (Nat → Prop) → α → List Value → Prop
  len : ∀ {h M x vs}, rep h M x vs → vs.length = sz
  one : ∀ {h M x vs}, rep h M x vs → ∀ v ∈ vs, v.oneCell' = true
  keep : ∀ {h h' M x vs}, rep h M x vs → (∀ b, b < h.size → ¬ M b → h'[b]? = h[b]?) → rep h' M x vs
  sub : ∀ {h M M' x vs}, rep h M x vs → (∀ b, b < h.size → M' b → M b) → rep h M' x vs

open Rep

instance : Rep Int where
  sz := 1
  agg := false
  flat _ := rfl
  rep _ _ x vs := vs = [.int .i64 x]
  len h := by subst h; rfl
  one h := by subst h; intro v hv; simp at hv; subst hv; rfl
  keep h _ := h
  sub h _ := h

instance : Rep Nat where
  sz := 1
  agg := false
  flat _ := rfl
  rep _ _ x vs := vs = [.int .i64 (x : Int)]
  len h := by subst h; rfl
  one h := by subst h; intro v hv; simp at hv; subst hv; rfl
  keep h _ := h
  sub h _ := h

/-- A number of another kind than int's. -/
structure Num (k : IntKind) where
  n : Int
abbrev U64 := Num .u64
instance {k : IntKind} : Rep (Num k) where
  sz := 1
  agg := false
  flat _ := rfl
  rep _ _ x vs := vs = [.int k x.n]
  len h := by subst h; rfl
  one h := by subst h; intro v hv; simp at hv; subst hv; rfl
  keep h _ := h
  sub h _ := h
instance : Rep Bool where
  sz := 1
  agg := false
  flat _ := rfl
  rep _ _ x vs := vs = [.bool x]
  len h := by subst h; rfl
  one h := by subst h; intro v hv; simp at hv; subst hv; rfl
  keep h _ := h
  sub h _ := h
instance : Rep ByteArray where
  sz := 1
  agg := false
  flat _ := rfl
  rep _ _ x vs := vs = [.string x] ∧ x.size ≤ 9223372036854775807
  len h := by obtain ⟨rfl, _⟩ := h; rfl
  one h := by obtain ⟨rfl, _⟩ := h; intro v hv; simp at hv; subst hv; rfl
  keep h _ := h
  sub h _ := h
instance {α β : Type} [Rep α] [Rep β] : Rep (α × β) where
  sz := sz α + sz β
  agg := true
  flat h := by cases h
  rep h M x vs := ∃ us ws, vs = us ++ ws ∧ rep h M x.1 us ∧ rep h M x.2 ws
  len h := by obtain ⟨us, ws, rfl, h1, h2⟩ := h; rw [List.length_append, len h1, len h2]
  one h := by
    obtain ⟨us, ws, rfl, h1, h2⟩ := h
    intro v hv
    rcases List.mem_append.1 hv with hv | hv
    · exact one h1 v hv
    · exact one h2 v hv
  keep h hk := by obtain ⟨us, ws, e, h1, h2⟩ := h; exact ⟨us, ws, e, keep h1 hk, keep h2 hk⟩
  sub h hk := by obtain ⟨us, ws, e, h1, h2⟩ := h; exact ⟨us, ws, e, sub h1 hk, sub h2 hk⟩

/-- Data that are made of other data. -/
@[reducible] def Rep.via {α β : Type} [Rep β] (f : α → β) : Rep α where
  sz := sz β
  agg := true
  flat h := by cases h
  rep h M x vs := rep h M (f x) vs
  len h := len h
  one h := one h
  keep h hk := keep h hk
  sub h hk := sub h hk

def cellsAt (cs : Array Value) (o n : Nat) : List Value := (cs.toList.drop o).take n

/-- At this place lies this. -/
def At {α : Type} [Rep α] (h : Array Obj) (M : Nat → Prop) (b o : Nat) (x : α) : Prop :=
  ¬ M b ∧ ∃ cs ty fz, h[b]? = some (.cells cs ty fz) ∧ rep h M x (cellsAt cs o (sz α))

/-- From this place on lie these. -/
def Seg {α : Type} [Rep α] (h : Array Obj) (M : Nat → Prop) (b o : Nat) (xs : List α) : Prop :=
  ¬ M b ∧ ∃ cs ty fz, h[b]? = some (.cells cs ty fz) ∧ o + xs.length * sz α ≤ cs.size ∧ ∀ i (hi : i < xs.length), rep h M xs[i] (cellsAt cs (o + i * sz α) (sz α))

section
variable {α : Type} [Rep α] {h h' : Array Obj} {M M' : Nat → Prop} {b o : Nat} {x : α} {xs : List α}
theorem At.keep (ha : At h M b o x) (hk : ∀ b, b < h.size → ¬ M b → h'[b]? = h[b]?) : At h' M b o x := by
  obtain ⟨hb, cs, ty, fz, hc, hr⟩ := ha
  exact ⟨hb, cs, ty, fz, (hk b (Array.getElem?_eq_some_iff.1 hc).1 hb).trans hc, Rep.keep hr hk⟩
theorem At.sub (ha : At h M b o x) (hk : ∀ b, b < h.size → M' b → M b) : At h M' b o x := by
  obtain ⟨hb, cs, ty, fz, hc, hr⟩ := ha
  exact ⟨fun h' => hb (hk b (Array.getElem?_eq_some_iff.1 hc).1 h'), cs, ty, fz, hc, Rep.sub hr hk⟩
theorem Seg.keep (ha : Seg h M b o xs) (hk : ∀ b, b < h.size → ¬ M b → h'[b]? = h[b]?) : Seg h' M b o xs := by
  obtain ⟨hb, cs, ty, fz, hc, hl, hr⟩ := ha
  exact ⟨hb, cs, ty, fz, (hk b (Array.getElem?_eq_some_iff.1 hc).1 hb).trans hc, hl, fun i hi => Rep.keep (hr i hi) hk⟩
theorem Seg.sub (ha : Seg h M b o xs) (hk : ∀ b, b < h.size → M' b → M b) : Seg h M' b o xs := by
  obtain ⟨hb, cs, ty, fz, hc, hl, hr⟩ := ha
  exact ⟨fun h' => hb (hk b (Array.getElem?_eq_some_iff.1 hc).1 h'), cs, ty, fz, hc, hl, fun i hi => Rep.sub (hr i hi) hk⟩
theorem Seg.at' (ha : Seg h M b o xs) (i : Nat) (hi : i < xs.length) : At h M b (o + i * sz α) xs[i] := by
  obtain ⟨hb, cs, ty, fz, hc, hl, hr⟩ := ha
  exact ⟨hb, cs, ty, fz, hc, hr i hi⟩
end

instance {α : Type} [Rep α] : Rep (List α) where
  sz := 1
  agg := false
  flat _ := rfl
  rep h M xs vs := ∃ a c, vs = [.slice a xs.length c] ∧ xs.length ≤ c ∧ xs.length ≤ 9223372036854775807 ∧ (xs = [] ∨ ∃ b o, a = some ⟨b, o, none⟩ ∧ Seg h M b o xs)
  len h := by obtain ⟨a, c, rfl, _⟩ := h; rfl
  one h := by obtain ⟨a, c, rfl, _⟩ := h; intro v hv; simp at hv; subst hv; rfl
  keep h hk := by
    obtain ⟨a, c, e, h1, h2, h3⟩ := h
    exact ⟨a, c, e, h1, h2, h3.imp id (fun ⟨b, o, ha, hs⟩ => ⟨b, o, ha, hs.keep hk⟩)⟩
  sub h hk := by
    obtain ⟨a, c, e, h1, h2, h3⟩ := h
    exact ⟨a, c, e, h1, h2, h3.imp id (fun ⟨b, o, ha, hs⟩ => ⟨b, o, ha, hs.sub hk⟩)⟩

/-- A value reads as this. -/
def RV {α : Type} [Rep α] (w : World) (M : Nat → Prop) (x : α) (v : Value) : Prop := ∃ vs, rep w.heap M x vs ∧ v = if agg α then .agg vs.toArray else vs.headD undef
/-- A place reads as this. -/
def RA {α : Type} [Rep α] (w : World) (M : Nat → Prop) (x : α) (b o : Nat) : Prop := At w.heap M b o x

section
variable {α β : Type} [Rep α] [Rep β] {w w' : World} {A M M' : Nat → Prop} {x : α} {xs : List α} {v : Value} {b o : Nat}
theorem RV.ext (hr : RV w M x v) (he : Ext A w w') (hA : ∀ b, b < w.heap.size → A b → M b) : RV w' M x v :=
  let ⟨vs, h1, h2⟩ := hr; ⟨vs, Rep.keep h1 (fun b hb hn => he.block b hb (fun ha => hn (hA b hb ha))), h2⟩
theorem RV.sub (hr : RV w M x v) (hA : ∀ b, b < w.heap.size → M' b → M b) : RV w M' x v := let ⟨vs, h1, h2⟩ := hr; ⟨vs, Rep.sub h1 hA, h2⟩
theorem RA.ext (hr : RA w M x b o) (he : Ext A w w') (hA : ∀ b, b < w.heap.size → A b → M b) : RA w' M x b o :=
  At.keep hr (fun b hb hn => he.block b hb (fun ha => hn (hA b hb ha)))
theorem RA.sub (hr : RA w M x b o) (hA : ∀ b, b < w.heap.size → M' b → M b) : RA w M' x b o := At.sub hr hA

theorem rv_int {n : Int} : RV w M n v ↔ v = .int .i64 n := ⟨fun ⟨vs, h, e⟩ => by subst h; exact e, fun h => ⟨_, rfl, h⟩⟩
theorem rv_nat {n : Nat} : RV w M n v ↔ v = .int .i64 (n : Int) := ⟨fun ⟨vs, h, e⟩ => by subst h; exact e, fun h => ⟨_, rfl, h⟩⟩
theorem rv_num {k : IntKind} {n : Num k} : RV w M n v ↔ v = .int k n.n := ⟨fun ⟨vs, h, e⟩ => by subst h; exact e, fun h => ⟨_, rfl, h⟩⟩
theorem rv_list : RV w M xs v ↔ ∃ a c, v = .slice a xs.length c ∧ xs.length ≤ c ∧ xs.length ≤ 9223372036854775807 ∧ (xs = [] ∨ ∃ b o, a = some ⟨b, o, none⟩ ∧ Seg w.heap M b o xs) :=
  ⟨fun ⟨vs, h, e⟩ => by obtain ⟨a, c, rfl, h⟩ := h; exact ⟨a, c, e, h⟩, fun ⟨a, c, h⟩ => ⟨_, ⟨a, c, rfl, h.2⟩, h.1⟩⟩
theorem rv_nil : RV w M ([] : List α) (.slice none 0 0) := rv_list.2 ⟨none, 0, rfl, Nat.le_refl _, by simp, .inl rfl⟩

theorem RA.fst {p : α × β} (h : RA w M p b o) : RA w M p.1 b o := by
  obtain ⟨hb, cs, ty, fz, hc, us, ws, he, h1, h2⟩ := h
  refine ⟨hb, cs, ty, fz, hc, ?_⟩
  have : cellsAt cs o (sz α) = us := by
    have e : cellsAt cs o (sz (α × β)) = us ++ ws := he
    have hl := Rep.len h1
    have : cellsAt cs o (sz α) = (cellsAt cs o (sz (α × β))).take (sz α) := by
      simp only [cellsAt, List.take_take]
      congr 1
      exact (Nat.min_eq_left (Nat.le_add_right _ _)).symm
    rw [this, e, ← hl, List.take_left]
  rw [this]; exact h1
theorem RA.snd {p : α × β} (h : RA w M p b o) : RA w M p.2 b (o + sz α) := by
  obtain ⟨hb, cs, ty, fz, hc, us, ws, he, h1, h2⟩ := h
  refine ⟨hb, cs, ty, fz, hc, ?_⟩
  have : cellsAt cs (o + sz α) (sz β) = ws := by
    have e : cellsAt cs o (sz (α × β)) = us ++ ws := he
    have hl := Rep.len h1
    have : cellsAt cs (o + sz α) (sz β) = (cellsAt cs o (sz (α × β))).drop (sz α) := by
      simp only [cellsAt, List.drop_take, List.drop_drop]
      congr 1
      exact (Nat.add_sub_cancel_left _ _).symm
    rw [this, e, ← hl, List.drop_left]
  rw [this]; exact h2
theorem rv_pair {p : α × β} {us ws : List Value} (h1 : rep w.heap M p.1 us) (h2 : rep w.heap M p.2 ws) : rep w.heap M p (us ++ ws) := ⟨us, ws, rfl, h1, h2⟩
/-- A scalar that reads, as its one cell. -/
theorem RV.rep1 (h : RV w M x v) (hx : Rep.agg α = false) : rep w.heap M x [v] := by
  obtain ⟨vs, hr, hv⟩ := h
  have hl := Rep.len hr
  rw [Rep.flat hx] at hl
  obtain ⟨u, rfl⟩ := List.length_eq_one_iff.1 hl
  simp only [hx, Bool.false_eq_true, if_false, List.headD_cons] at hv
  subst hv
  exact hr
theorem rep1_rv (h : rep w.heap M x [v]) (hx : Rep.agg α = false) : RV w M x v := ⟨[v], h, by simp [hx]⟩

/-! ### Loads and addresses -/

def aggB (P : Program) (t : TypeId) : Option Bool := match P.underlying t with | some (.struct _) => some true | some (.array _ _) => some true | some _ => some false | none => none
def szB (P : Program) (t : TypeId) : Option Nat := (P.info? t).map (·.size)

variable {P : Program} {N : Nat} {env : Env} {t u : TypeId} {y z : Operand}

theorem run_isAggB {b : Bool} (h : aggB P t = some b) (w : World) : (isAgg t).run P w = .ok b w := by
  unfold aggB at h
  split at h <;> rename_i hu <;> first | (simp only [Option.some.injEq] at h; subst h) | cases h
  all_goals simp [isAgg, run_underlying hu]

theorem run_sizeOfB {n : Nat} (h : szB P t = some n) (w : World) : (sizeOf t).run P w = .ok n w := by
  unfold szB at h
  cases hi : P.info? t with
  | none => rw [hi] at h; cases h
  | some i => rw [hi] at h; simp only [Option.map_some, Option.some.injEq] at h; subst h; simp [sizeOf, typeInfo, hi]

theorem cellsAt_get {cs : Array Value} {o n : Nat} {vs : List Value} (h : cellsAt cs o n = vs) (hl : vs.length = n) {j : Nat} (hj : j < n) : cs[o + j]? = vs[j]? := by
  subst h
  simp only [cellsAt, List.getElem?_take, List.getElem?_drop, if_pos hj]
  simp

theorem addr_add (b o n : Nat) : (⟨b, o, none⟩ : Addr).add n = ⟨b, o + n, none⟩ := by unfold Addr.add; split <;> simp_all

/-- A load of a scalar. -/
theorem RA.load (h : RA w M x b o) (ha : aggB P t = some false) (hx : Rep.agg α = false) (hy : ev env y = some (.pointer (some ⟨b, o, none⟩))) :
    ∃ v, RV w M x v ∧ ∀ w', w'.heap[b]? = w.heap[b]? → Val P N env (.load t y) w' v := by
  obtain ⟨hb, cs, ty, fz, hc, hr⟩ := h
  have h1 : sz α = 1 := Rep.flat hx
  obtain ⟨v, hv⟩ : ∃ v, cellsAt cs o (sz α) = [v] := List.length_eq_one_iff.1 (by rw [len hr, h1])
  rw [hv] at hr
  refine ⟨v, ⟨[v], hr, by simp [hx]⟩, fun w' hw => mk' fun ρ hρ oo ho => ?_⟩
  rw [← hw] at hc
  have h2 : cs[o]? = some v := by have := cellsAt_get (j := 0) hv (by simp [h1]) (by omega); simpa using this
  unfold execOp; rw [ho]
  simp [hρ _ _ hy, go_sem, Instr.loadAt, Instr.sureAddr, loadVar, run_isAggB ha, World.cell?, hc, h2]

/-- A load of a struct. -/
theorem RA.loadAgg (h : RA w M x b o) (ha : aggB P t = some true) (hs : szB P t = some (sz α)) (hx : Rep.agg α = true) (hy : ev env y = some (.pointer (some ⟨b, o, none⟩))) :
    ∃ v, RV w M x v ∧ ∀ w', w'.heap[b]? = w.heap[b]? → Val P N env (.load t y) w' v := by
  obtain ⟨hb, cs, ty, fz, hc, hr⟩ := h
  refine ⟨.agg (cellsAt cs o (sz α)).toArray, ⟨_, hr, by simp only [hx, if_true]⟩, fun w' hw => mk' fun ρ hρ oo ho => ?_⟩
  rw [← hw] at hc
  have hl := len hr
  have hcells : (loadCells ⟨b, o, none⟩ (sz α)).run P w' = .ok (cellsAt cs o (sz α)).toArray w' := by
    have := run_loadCells_list (P := P) w' ⟨b, o, none⟩ (cellsAt cs o (sz α)) (fun j v hv => by
      have hj : j < sz α := by rw [← hl]; exact (List.getElem?_eq_some_iff.1 hv).1
      rw [addr_add, cell_of_row w' b (o + j) cs ty fz hc, cellsAt_get rfl hl hj, hv])
    rwa [hl] at this
  simp only [loadCells] at hcells
  unfold execOp; rw [ho]
  simp [hρ _ _ hy, go_sem, Instr.loadAt, Instr.sureAddr, loadVar, run_isAggB ha, run_sizeOfB hs, loadCells, hcells]

/-- A load out of a block that is known. -/
theorem val_loadOwn {cs : List Value} {ty : TypeId} {fz : Nat × Nat} (hc : w.heap[b]? = some (.cells cs.toArray ty fz)) (ha : aggB P t = some false) (hv : cs[o]? = some v)
    (hy : ev env y = some (.pointer (some ⟨b, o, none⟩))) : Val P N env (.load t y) w v := mk' fun ρ hρ oo ho => by
  have h2 : cs.toArray[o]? = some v := by simpa using hv
  unfold execOp; rw [ho]
  simp [hρ _ _ hy, go_sem, Instr.loadAt, Instr.sureAddr, loadVar, run_isAggB ha, World.cell?, hc, h2]
theorem val_loadOwnAgg {cs : List Value} {ty : TypeId} {fz : Nat × Nat} {n : Nat} {vs : List Value} (hc : w.heap[b]? = some (.cells cs.toArray ty fz)) (ha : aggB P t = some true) (hs : szB P t = some n)
    (hv : (cs.drop o).take n = vs) (hl : vs.length = n) (hy : ev env y = some (.pointer (some ⟨b, o, none⟩))) : Val P N env (.load t y) w (.agg vs.toArray) := mk' fun ρ hρ oo ho => by
  have hcells : (loadCells ⟨b, o, none⟩ n).run P w = .ok vs.toArray w := by
    have := run_loadCells_list (P := P) w ⟨b, o, none⟩ vs (fun j u hu => by
      have hj : j < n := by rw [← hl]; exact (List.getElem?_eq_some_iff.1 hu).1
      rw [addr_add, cell_of_row w b (o + j) cs.toArray ty fz hc]
      rw [← hu, ← hv, List.getElem?_take, if_pos hj, List.getElem?_drop]; simp)
    rwa [hl] at this
  simp only [loadCells] at hcells
  unfold execOp; rw [ho]
  simp [hρ _ _ hy, go_sem, Instr.loadAt, Instr.sureAddr, loadVar, run_isAggB ha, run_sizeOfB hs, loadCells, hcells]

/-- The type's field: its place and that it takes memory. -/
def fieldB (P : Program) (t : TypeId) (f : Nat) : Option Nat := match P.underlying t with
  | some (.struct fs) => match fs[f]? with
    | some fl => match szB P fl.type with | some (_ + 1) => some fl.offset | _ => none
    | none => none
  | _ => none

theorem val_fieldAddr {f off : Nat} (hf : fieldB P t f = some off) (hy : ev env y = some (.pointer (some ⟨b, o, none⟩))) :
    Val P N env (.fieldAddr t y f) w (.pointer (some ⟨b, o + off, none⟩)) := mk' fun ρ hρ oo ho => by
  unfold fieldB at hf
  split at hf
  · rename_i fs hu
    split at hf
    · rename_i fl hfl
      split at hf
      · rename_i n hn
        simp only [Option.some.injEq] at hf
        subst hf
        unfold execOp; rw [ho]
        simp [hρ _ _ hy, go_sem, Instr.fieldAt, run_underlying hu, hfl, Instr.sureAddr, fieldPlace, run_sizeOfB hn, addr_add]
      · cases hf
    · cases hf
  · cases hf

def elemB (P : Program) (t : TypeId) : Option (TypeId × Nat) := match P.underlying t with
  | some (.slice e) => match szB P e with | some n => some (e, n) | none => none
  | _ => none

theorem val_indexAddr {e n l c : Nat} {k : IntKind} {i : Int} (hf : elemB P t = some (e, n)) (hy : ev env y = some (.slice (some ⟨b, o, none⟩) l c)) (hz : ev env z = some (.int k i))
    (h0 : 0 ≤ i) (h1 : i < l) : Val P N env (.indexAddr t y z) w (.pointer (some ⟨b, o + i.toNat * n, none⟩)) := mk' fun ρ hρ oo ho => by
  unfold elemB at hf
  split at hf
  · rename_i e' hu
    split at hf
    · rename_i n' hn
      simp only [Option.some.injEq, Prod.mk.injEq] at hf
      obtain ⟨rfl, rfl⟩ := hf
      unfold execOp; rw [ho]
      simp only [hρ _ _ hy, hρ _ _ hz]
      simp [go_sem, Instr.indexAt, run_underlying hu, asIntOf, run_sizeOfB hn, h0, h1, addr_add]
    · cases hf
  · cases hf

/-- The address of an element of a list. -/
theorem RV.index (h : RV w M xs v) (hy : ev env y = some v) {e : Nat} {k : IntKind} {i : Int} (hf : elemB P t = some (e, sz α)) (hz : ev env z = some (.int k i))
    (h0 : 0 ≤ i) (h1 : i < xs.length) : ∃ b o, RA w M (xs[i.toNat]'(by omega)) b o ∧ ∀ w', Val P N env (.indexAddr t y z) w' (.pointer (some ⟨b, o, none⟩)) := by
  obtain ⟨a, c, rfl, hc, hm, hs⟩ := rv_list.1 h
  rcases hs with rfl | ⟨b, o, rfl, hs⟩
  · simp at h1; omega
  · exact ⟨b, o + i.toNat * sz α, hs.at' _ _, fun w' => val_indexAddr hf hy hz h0 h1⟩
theorem RV.len (h : RV w M xs v) : ∃ a c, v = .slice a xs.length c := let ⟨a, c, e, _⟩ := rv_list.1 h; ⟨a, c, e⟩
theorem RV.le (h : RV w M xs v) : xs.length ≤ 9223372036854775807 := let ⟨a, c, _, _, e, _⟩ := rv_list.1 h; e
theorem RV.lenV (h : RV w M xs v) (hy : ev env y = some v) {e : TypeId} (ht : P.underlying t = some (.slice e)) :
    ∀ w', Val P N env (.call { callee := .builtin .len, args := #[y], argTypes := #[t] }) w' (.int .i64 xs.length) := fun w' => by
  obtain ⟨a, c, rfl⟩ := h.len
  exact val_len_slice hy ht
/-- A scalar's value is one cell. -/
theorem RV.one (h : RV w M x v) (hx : Rep.agg α = false) : v.cells = #[v] ∧ v.oneCell' = true := by
  obtain ⟨vs, h1, h2⟩ := h
  have hl := Rep.len h1
  rw [Rep.flat hx] at hl
  obtain ⟨u, rfl⟩ := List.length_eq_one_iff.1 hl
  simp only [hx, Bool.false_eq_true, if_false, List.headD_cons] at h2
  subst h2
  have h3 := Rep.one h1 v (by simp)
  refine ⟨?_, h3⟩
  cases v <;> first | rfl | simp [Value.oneCell'] at h3
/-- A struct's value is its cells. -/
theorem RV.many (h : RV w M x v) (hx : Rep.agg α = true) : ∃ vs, v = .agg vs.toArray ∧ vs.length = sz α ∧ (∀ u ∈ vs, u.oneCell' = true) ∧ rep w.heap M x vs := by
  obtain ⟨vs, h1, h2⟩ := h
  simp only [hx, if_true] at h2
  exact ⟨vs, h2, Rep.len h1, Rep.one h1, h1⟩
end
end Go.K

/- The operations that make memory or write it. -/
set_option linter.unusedVariables false
set_option linter.unusedSimpArgs false
namespace Go.K
open Rep

structure New (w w' : World) (o : Obj) : Prop where
  ext : Ext No w w'
  at_ : w'.heap[w.heap.size]? = some o
  size : w'.heap.size = w.heap.size + 1

structure Upd (w w' : World) (b : Nat) (o : Obj) : Prop where
  ext : Ext (One b) w w'
  at_ : w'.heap[b]? = some o
  size : w'.heap.size = w.heap.size

theorem new_alloc (w : World) (o : Obj) : New w (w.alloc o) o :=
  ⟨⟨rfl, rfl, rfl, by simp, fun b hb _ => heap_alloc_old w o hb, Dr.refl rfl⟩, heap_alloc_new w o, by simp⟩
theorem new_alloc_drew (w : World) (o : Obj) : New w (w.drew.alloc o) o :=
  ⟨⟨rfl, rfl, rfl, by simp, fun b hb _ => heap_alloc_old w.drew o hb, Dr.succ rfl⟩, heap_alloc_new w.drew o, by simp⟩
theorem upd_setRow {w : World} {b : Nat} {old cs : Array Value} {t : TypeId} {fr : Nat × Nat} (h : w.heap[b]? = some (.cells old t fr)) : Upd w (w.setRow b cs) b (.cells cs t fr) :=
  ⟨⟨rfl, rfl, rfl, by simp [World.setRow], fun k _ hk => setRow_other w b k cs (fun e => hk e), Dr.refl rfl⟩, setRow_heap w b old cs t fr h, by simp [World.setRow]⟩

def zeroB (P : Program) (t : TypeId) : Option (List Value) := ((P.info? t).bind (·.zero)).map (·.cells.toList)

section
variable {P : Program} {N : Nat} {env : Env} {w : World} {x y z : Operand} {t u e : TypeId} {v : Value}

theorem run_zeroB {l : List Value} (h : zeroB P t = some l) (w : World) : ∃ z, (zeroValue t).run P w = .ok z w ∧ z.cells = l.toArray := by
  unfold zeroB at h
  cases hi : P.info? t with
  | none => rw [hi] at h; cases h
  | some i =>
    rw [hi] at h
    cases hz : i.zero with
    | none => simp [hz] at h
    | some z => simp [hz] at h; subst h; exact ⟨z, by simp [zeroValue, typeInfo, hi, hz], by simp⟩

theorem acts' {op : Op} {T : Value → World → Prop} (h : ∀ ρ : Operand → Value, (∀ x v, ev env x = some v → ρ x = v) → ∀ o : Oper, o.op = op →
    ∃ v w', ((execOp ρ o).run P w = .ok (.value v) w' ∨ ((execOp ρ o).run P w = .ok .skip w' ∧ v = undef)) ∧ T v w') : Acts P N env op w T :=
  fun a ha o ho => h a.eval (fun x v hx => ha.ev hx) o ho

theorem acts_alloc {l : List Value} (hz : zeroB P t = some l) :
    Acts P N env (.alloc t) w (fun v w' => v = .pointer (some ⟨w.heap.size, 0, none⟩) ∧ New w w' (.cells l.toArray t)) := acts' fun ρ hρ o ho => by
  obtain ⟨zv, h1, h2⟩ := run_zeroB hz w
  refine ⟨_, _, .inl ?_, rfl, new_alloc w _⟩
  unfold execOp; rw [ho]
  simp [go_sem, Instr.alloc, h1, newVar, newRow]
  exact congrArg (fun c => w.alloc (.cells c t)) h2

theorem acts_box {cs : List Value} (hx : ev env x = some v) (hc : v.cells = cs.toArray) :
    Acts P N env (.box t x) w (fun u w' => u = .pointer (some ⟨w.heap.size, 0, none⟩) ∧ New w w' (.cells cs.toArray t)) := acts' fun ρ hρ o ho => by
  refine ⟨_, _, .inl ?_, rfl, new_alloc w _⟩
  unfold execOp; rw [ho]
  simp [hρ _ _ hx, go_sem, Instr.box, newVar, newRow]
  exact congrArg (fun c => w.alloc (.cells c t)) hc

theorem run_storeVarL {b o n : Nat} {cs vs : List Value} {ty : TypeId} (hs : szB P t = some n) (hv : v.cells = vs.toArray) (hl : vs.length = n) (h1 : ∀ u ∈ vs, u.oneCell' = true)
    (hb : w.heap[b]? = some (.cells cs.toArray ty (0, 0))) (ho : o + n ≤ cs.length) :
    (storeVar t ⟨b, o, none⟩ v).run P w = .ok () (w.setRow b (cs.take o ++ vs ++ cs.drop (o + n)).toArray) := by
  have hst := run_storeCells_at P b o ty vs 0 cs.toArray w hb (by simpa [hl] using ho) h1
  simp only [Nat.add_zero, hl] at hst
  unfold storeVar
  simp [run_sizeOfB hs, hv, hl, hst]

theorem acts_store {b o n : Nat} {cs vs : List Value} {ty : TypeId} (hx : ev env x = some (.pointer (some ⟨b, o, none⟩))) (hy : ev env y = some v) (hs : szB P t = some n)
    (hv : v.cells = vs.toArray) (hl : vs.length = n) (h1 : ∀ u ∈ vs, u.oneCell' = true) (hb : w.heap[b]? = some (.cells cs.toArray ty (0, 0))) (ho : o + n ≤ cs.length) :
    Acts P N env (.store t x y) w (fun u w' => u = undef ∧ Upd w w' b (.cells (cs.take o ++ vs ++ cs.drop (o + n)).toArray ty (0, 0))) := acts' fun ρ hρ oo hoo => by
  refine ⟨undef, _, .inr ⟨?_, rfl⟩, rfl, upd_setRow hb⟩
  unfold execOp; rw [hoo]
  simp only [hρ _ _ hx, hρ _ _ hy, Instr.storeAt, Instr.sureAddr, Sem.run_bind, Sem.run_pure, Result.andThen_ok]
  rw [run_storeVarL hs hv hl h1 hb ho]
  rfl

theorem acts_store1 {b o : Nat} {cs : List Value} {ty : TypeId} (hx : ev env x = some (.pointer (some ⟨b, o, none⟩))) (hy : ev env y = some v) (hs : szB P t = some 1)
    (hv : v.cells = #[v]) (h1 : v.oneCell' = true) (hb : w.heap[b]? = some (.cells cs.toArray ty (0, 0))) (ho : o < cs.length) :
    Acts P N env (.store t x y) w (fun u w' => u = undef ∧ Upd w w' b (.cells (cs.set o v).toArray ty (0, 0))) := by
  have h := acts_store (P := P) (N := N) (w := w) (vs := [v]) (n := 1) hx hy hs (by simpa using hv) rfl (by simpa using h1) hb ho
  have e : cs.take o ++ [v] ++ cs.drop (o + 1) = cs.set o v := by
    rw [List.set_eq_take_append_cons_drop, if_pos ho]; simp
  rwa [e] at h
end

/-! ### Lists of the call's own -/

/-- A slice of the call's own: nil, or at the head of a block of its own, which is among `M`. -/
def OwnS {α : Type} [Rep α] (w : World) (M : Nat → Prop) (e : TypeId) (v : Value) (ys : List α) : Prop :=
  (v = .slice none 0 0 ∧ ys = []) ∨
  ∃ g cap cs, v = .slice (some ⟨g, 0, none⟩) ys.length cap ∧ M g ∧ w.heap[g]? = some (.cells cs e (0, 0)) ∧ ys.length ≤ cap ∧ cs.size = cap * sz α ∧
    ∀ i (hi : i < ys.length), rep w.heap M ys[i] (cellsAt cs (i * sz α) (sz α))

section
variable {α : Type} [Rep α] {w w' : World} {A M M' : Nat → Prop} {e : TypeId} {v : Value} {ys zs : List α}

theorem OwnS.nil : OwnS w M e (.slice none 0 0) ([] : List α) := .inl ⟨rfl, rfl⟩

theorem OwnS.ext (h : OwnS w M e v ys) (he : Ext A w w') (hA : ∀ b, b < w.heap.size → A b → M b) (hv : ∀ b, Ob v b → ¬ A b) : OwnS w' M e v ys := by
  rcases h with h | ⟨g, cap, cs, hv', hg, hc, h1, h2, h3⟩
  · exact .inl h
  · refine .inr ⟨g, cap, cs, hv', hg, he.at' hc (hv g (by subst hv'; rfl)), h1, h2, fun i hi => Rep.keep (h3 i hi) (fun b hb hn => he.block b hb (fun ha => hn (hA b hb ha)))⟩

theorem OwnS.sub (h : OwnS w M e v ys) (hM : ∀ b, b < w.heap.size → M' b → M b) (hv : ∀ b, Ob v b → M' b) : OwnS w M' e v ys := by
  rcases h with h | ⟨g, cap, cs, hv', hg, hc, h1, h2, h3⟩
  · exact .inl h
  · exact .inr ⟨g, cap, cs, hv', hv g (by subst hv'; rfl), hc, h1, h2, fun i hi => Rep.sub (h3 i hi) hM⟩

theorem OwnS.ob (h : OwnS w M e v ys) : ∀ b, Ob v b → M b ∧ b < w.heap.size := by
  intro b hb
  rcases h with ⟨rfl, _⟩ | ⟨g, cap, cs, rfl, hg, hc, _⟩
  · cases hb
  · simp only [Ob, Value.ownBlock, Option.some.injEq] at hb
    subst hb
    exact ⟨hg, lt_of_at hc⟩

theorem OwnS.len (h : OwnS w M e v ys) : ∃ a c, v = .slice a ys.length c := by
  rcases h with ⟨rfl, rfl⟩ | ⟨g, cap, cs, rfl, _⟩
  · exact ⟨none, 0, rfl⟩
  · exact ⟨_, _, rfl⟩

/-- It is not written any more: it reads as a list. -/
theorem OwnS.read (h : OwnS w M e v ys) (hM : ∀ b, b < w.heap.size → M' b → M b ∧ ¬ Ob v b) (hl : ys.length ≤ 9223372036854775807) : RV w M' ys v := by
  rcases h with ⟨rfl, rfl⟩ | ⟨g, cap, cs, rfl, hg, hc, h1, h2, h3⟩
  · exact rv_nil
  · refine rv_list.2 ⟨_, cap, rfl, h1, hl, .inr ⟨g, 0, rfl, ?_⟩⟩
    refine ⟨fun hm => (hM g (lt_of_at hc) hm).2 rfl, cs, e, _, hc, ?_, fun i hi => ?_⟩
    · rw [Nat.zero_add, h2]; exact Nat.mul_le_mul_right _ h1
    · rw [Nat.zero_add]; exact Rep.sub (h3 i hi) (fun b hb hm => (hM b hb hm).1)

theorem cellsAt_ext {cs cs' : Array Value} {o o' n : Nat} (h : ∀ j, j < n → cs[o + j]? = cs'[o' + j]?) : cellsAt cs o n = cellsAt cs' o' n := by
  apply List.ext_getElem?
  intro j
  simp only [cellsAt, List.getElem?_take, List.getElem?_drop]
  split
  · rename_i hj; simpa using h j hj
  · rfl

variable {P : Program} {N : Nat} {env : Env} {x y : Operand} {t u : TypeId} {s : Value}

/-- What is asked of a slice type: its element, the element's cells and bytes, and that its zero value has as many cells. -/
def rowB (P : Program) (t e n bytes : Nat) : Bool := match P.underlying t, P.info? e with
  | some (.slice e'), some i => e' == e && i.size == n && i.bytes == bytes && (match i.zero with | some z => z.cells.size == n | none => false)
  | _, _ => false
theorem rowB_spec {n bytes : Nat} (h : rowB P t e n bytes = true) : ∃ i z, P.underlying t = some (.slice e) ∧ P.info? e = some i ∧ i.size = n ∧ i.bytes = bytes ∧ i.zero = some z ∧ z.cells.size = n := by
  unfold rowB at h
  split at h
  · rename_i e' i hu hi
    simp only [Bool.and_eq_true, beq_iff_eq] at h
    obtain ⟨⟨⟨rfl, h1⟩, h2⟩, h3⟩ := h
    cases hz : i.zero with
    | none => rw [hz] at h3; cases h3
    | some z => rw [hz] at h3; exact ⟨i, z, hu, hi, h1, h2, hz, by simpa using h3⟩
  · cases h

/-- 'append(own, list...)'. -/
theorem acts_append {bytes : Nat} (hx : ev env x = some v) (hy : ev env y = some s) (hrow : rowB P t e (sz α) bytes = true) (hsz : 0 < sz α)
    (hown : OwnS w M e v ys) (hsrc : RV w M zs s) (hlen : (ys.length + zs.length) * bytes ≤ 140737488355328) (h63 : ys.length + zs.length ≤ 140737488355328) :
    Acts P N env (.call { callee := .builtin .append, args := #[x, y], argTypes := #[t, t] }) w (fun v' w' =>
      OwnS w' (fun b => Ob v' b ∨ M b) e v' (ys ++ zs) ∧ Ext (Ob v) w w' ∧ (∀ b, Ob v' b → Ob v b ∨ w.heap.size ≤ b)) := acts' fun ρ hρ oo hoo => by
  obtain ⟨i, z, hu, hi, rfl0, hby, hz, hzs⟩ := rowB_spec hrow
  obtain ⟨a, c, rfl, hcap, hl0, hseg⟩ := rv_list.1 hsrc
  have key : ∃ v' w', (Builtin.append_ #[t, t] oo.type #[v, .slice a zs.length c]).run P w = .ok v' w' ∧
      OwnS w' (fun b => Ob v' b ∨ M b) e v' (ys ++ zs) ∧ Ext (Ob v) w w' ∧ (∀ b, Ob v' b → Ob v b ∨ w.heap.size ≤ b) := by
    by_cases hzs0 : zs = []
    · subst hzs0
      refine ⟨v, w, ?_, ?_, Ext.refl _ _, fun b hb => .inl hb⟩
      · have hf : (Builtin.firstCells i.size 0 (.slice a 0 c)).run P w = .ok #[] w := by cases a <;> simp [Builtin.firstCells, loadCells, loadCellsFrom]
        rcases hown with ⟨rfl, _⟩ | ⟨g, cap, cs, rfl, hg, hc, h1, h2, h3⟩
        · simp [Builtin.append_, run_underlying hu, sizeOf, typeInfo, hi, Builtin.lenOf, hf]
        · simp [Builtin.append_, run_underlying hu, sizeOf, typeInfo, hi, Builtin.lenOf, hf, h1, storeCells]
      · rw [List.append_nil]
        exact hown.sub (fun b hb h => h.elim (fun ho => (hown.ob b ho).1) id) (fun b hb => .inl hb)
    · rcases hseg with h | ⟨sb, so, rfl, hsb, scs, sty, sfz, hsc, hsl, hsr⟩
      · exact absurd h hzs0
      · have hm0 : 0 < zs.length := List.length_pos_iff.2 hzs0
        obtain ⟨news, hnews_def⟩ : ∃ news, news = cellsAt scs so (zs.length * sz α) := ⟨_, rfl⟩
        have hnl : news.length = zs.length * i.size := by
          rw [hnews_def, rfl0]; simp only [cellsAt, List.length_take, List.length_drop, Array.length_toList]; omega
        have hnl' : news.length = zs.length * sz α := by rw [hnl, rfl0]
        have hget : ∀ j, j < zs.length * sz α → news[j]? = scs[so + j]? := fun j hj => by
          rw [hnews_def]; simp only [cellsAt, List.getElem?_take, if_pos hj, List.getElem?_drop]; simp
        have hnews : ∀ j v, news[j]? = some v → w.cell? ((⟨sb, so, none⟩ : Addr).add j) = some v := fun j v hv => by
          have hj : j < zs.length * sz α := by rw [← hnl']; exact (List.getElem?_eq_some_iff.1 hv).1
          rw [addr_add, cell_of_row w sb (so + j) scs sty sfz hsc, ← hget j hj, hv]
        have hrepn : ∀ k (hk : k < zs.length), rep w.heap M zs[k] (cellsAt news.toArray (k * sz α) (sz α)) := fun k hk => by
          have := hsr k hk
          rwa [show cellsAt scs (so + k * sz α) (sz α) = cellsAt news.toArray (k * sz α) (sz α) from cellsAt_ext (fun j hj => by
            have hb : k * sz α + j < zs.length * sz α := by
              have := Nat.mul_le_mul_right (sz α) (show k + 1 ≤ zs.length from hk); rw [Nat.succ_mul] at this; omega
            rw [show ∀ m, news.toArray[m]? = news[m]? from fun m => by simp, hget _ hb, Nat.add_assoc])] at this
        have h1c : ∀ u ∈ news, u.oneCell' = true := fun u hu' => by
          obtain ⟨j, hj, rfl⟩ := List.mem_iff_getElem.1 hu'
          have hjl : j < zs.length * sz α := by rw [← hnl']; exact hj
          have hk : j / sz α < zs.length := (Nat.div_lt_iff_lt_mul hsz).2 hjl
          refine Rep.one (hrepn (j / sz α) hk) _ ?_
          apply List.mem_iff_getElem?.2
          refine ⟨j % sz α, ?_⟩
          have hmod := Nat.mod_lt j hsz
          simp only [cellsAt, List.getElem?_take, if_pos hmod, List.getElem?_drop]
          rw [Nat.mul_comm, Nat.div_add_mod]
          simp [hj]
        -- a block made anew
        have fresh : ∀ (olds : List Value) (cap : Nat) (o : Obj), olds.length = ys.length * sz α → (∀ k (hk : k < ys.length), rep w.heap M ys[k] (cellsAt olds.toArray (k * sz α) (sz α))) →
            o = .cells (olds.toArray ++ news.toArray ++ Builtin.zeroCells z.cells (cap - (ys.length + zs.length))) e (0, 0) → ys.length + zs.length ≤ cap →
            OwnS (w.drew.alloc o) (fun b => Ob (.slice (some ⟨w.heap.size, 0, none⟩) (ys.length + zs.length) cap) b ∨ M b) e (.slice (some ⟨w.heap.size, 0, none⟩) (ys.length + zs.length) cap) (ys ++ zs) := by
          intro olds cap o holds hrepo ho hcap'
          subst ho
          have hnew := new_alloc_drew w (.cells (olds.toArray ++ news.toArray ++ Builtin.zeroCells z.cells (cap - (ys.length + zs.length))) e (0, 0))
          refine .inr ⟨w.heap.size, cap, _, by rw [List.length_append], .inl rfl, hnew.at_, by rw [List.length_append]; exact hcap', ?_, ?_⟩
          · simp only [Array.size_append, List.size_toArray, size_zeroCells, hzs, holds, hnl', ← Nat.add_mul]
            congr 1; omega
          · intro k hk
            rw [List.length_append] at hk
            have hkeep : ∀ (x : α) (vs : List Value), rep w.heap M x vs → rep (w.drew.alloc (.cells (olds.toArray ++ news.toArray ++ Builtin.zeroCells z.cells (cap - (ys.length + zs.length))) e (0, 0))).heap
                (fun b => Ob (.slice (some ⟨w.heap.size, 0, none⟩) (ys.length + zs.length) cap) b ∨ M b) x vs := fun x vs hr =>
              Rep.keep (Rep.sub hr (fun b hb h => h.elim (fun e => by simp only [Ob, Value.ownBlock, Option.some.injEq] at e; omega) id)) (fun b hb _ => hnew.ext.block b hb (fun h => h))
            by_cases hky : k < ys.length
            · rw [List.getElem_append_left hky]
              have := hrepo k hky
              rw [show cellsAt olds.toArray (k * sz α) (sz α) = cellsAt (olds.toArray ++ news.toArray ++ Builtin.zeroCells z.cells (cap - (ys.length + zs.length))) (k * sz α) (sz α) from cellsAt_ext (fun j hj => by
                have hb : k * sz α + j < ys.length * sz α := by
                  have := Nat.mul_le_mul_right (sz α) (show k + 1 ≤ ys.length from hky); rw [Nat.succ_mul] at this; omega
                rw [Array.append_assoc, Array.getElem?_append_left (by simpa [holds] using hb)])] at this
              exact hkeep _ _ this
            · rw [List.getElem_append_right (by omega)]
              have hkz : k - ys.length < zs.length := by omega
              have := hrepn (k - ys.length) hkz
              rw [show cellsAt news.toArray ((k - ys.length) * sz α) (sz α) = cellsAt (olds.toArray ++ news.toArray ++ Builtin.zeroCells z.cells (cap - (ys.length + zs.length))) (k * sz α) (sz α) from cellsAt_ext (fun j hj => by
                have hb : (k - ys.length) * sz α + j < zs.length * sz α := by
                  have := Nat.mul_le_mul_right (sz α) (show k - ys.length + 1 ≤ zs.length from hkz); rw [Nat.succ_mul] at this; omega
                have he : k * sz α = ys.length * sz α + (k - ys.length) * sz α := by rw [← Nat.add_mul]; congr 1; omega
                rw [Array.getElem?_append_left (by simp only [Array.size_append, List.size_toArray, holds, hnl']; omega), Array.getElem?_append_right (by simp only [List.size_toArray, holds]; omega)]
                congr 1
                simp only [List.size_toArray, holds]; omega)] at this
              exact hkeep _ _ this
        rcases hown with ⟨rfl, rfl⟩ | ⟨g, cap, cs, rfl, hg, hc, h1, h2, h3⟩
        · have hr := run_append_nil (P := P) w t oo.type e i z hu hi hz ⟨sb, so, none⟩ zs.length c news hnl hnews hm0 (by omega)
            (by rw [hby]; simp only [List.length_nil, Nat.zero_add] at hlen; omega)
          have hfr := fresh [] (grownCap w zs.length 0 e) _ (by simp) (fun k hk => by simp at hk) rfl (by simpa using grownCap_ge w zs.length 0 e)
          simp only [List.length_nil, Nat.zero_add, List.nil_append] at hfr
          refine ⟨_, _, hr, ?_, ?_, ?_⟩
          · simpa using hfr
          · exact (new_alloc_drew w _).ext.mono (fun b hb h => h.elim)
          · intro b hb; simp only [Ob, Value.ownBlock, Option.some.injEq] at hb; exact .inr (by omega)
        · have hcsl : (cellsAt cs 0 (ys.length * sz α)).length = ys.length * sz α := by
            have := Nat.mul_le_mul_right (sz α) h1
            simp only [cellsAt, List.length_take, List.length_drop, Array.length_toList]; omega
          have hcsg : ∀ j, j < ys.length * sz α → (cellsAt cs 0 (ys.length * sz α))[j]? = cs[j]? := fun j hj => by
            simp only [cellsAt, List.getElem?_take, if_pos hj, List.getElem?_drop]; simp
          have hrepo : ∀ k (hk : k < ys.length), rep w.heap M ys[k] (cellsAt (cellsAt cs 0 (ys.length * sz α)).toArray (k * sz α) (sz α)) := fun k hk => by
            have := h3 k hk
            rwa [show cellsAt cs (k * sz α) (sz α) = cellsAt (cellsAt cs 0 (ys.length * sz α)).toArray (k * sz α) (sz α) from cellsAt_ext (fun j hj => by
              have hb : k * sz α + j < ys.length * sz α := by
                have := Nat.mul_le_mul_right (sz α) (show k + 1 ≤ ys.length from hk); rw [Nat.succ_mul] at this; omega
              rw [show ∀ m, (cellsAt cs 0 (ys.length * sz α)).toArray[m]? = (cellsAt cs 0 (ys.length * sz α))[m]? from fun m => by simp, hcsg _ hb])] at this
          by_cases hroom : ys.length + zs.length ≤ cap
          · have hbound : ys.length * i.size + news.length ≤ cs.size := by
              rw [hnl, rfl0, h2, ← Nat.add_mul]; exact Nat.mul_le_mul_right _ hroom
            have hr := run_append_room (P := P) w t oo.type e i hu hi g ys.length cap cs hc ⟨sb, so, none⟩ zs.length c news hnl hnews h1c hroom hbound
            have hupd := upd_setRow (w := w) (cs := (cs.toList.take (ys.length * i.size) ++ news ++ cs.toList.drop (ys.length * i.size + news.length)).toArray) hc
            refine ⟨_, _, hr, .inr ⟨g, cap, _, by rw [List.length_append], .inr hg, hupd.at_, by rw [List.length_append]; exact hroom, ?_, ?_⟩, ?_, ?_⟩
            · simp only [List.size_toArray, List.length_append, List.length_take, List.length_drop, Array.length_toList, hnl, rfl0] at hbound ⊢
              omega
            · intro k hk
              rw [List.length_append] at hk
              have hkeep : ∀ (x : α) (vs : List Value), rep w.heap M x vs → rep (w.setRow g (cs.toList.take (ys.length * i.size) ++ news ++ cs.toList.drop (ys.length * i.size + news.length)).toArray).heap
                  (fun b => Ob (.slice (some ⟨g, 0, none⟩) (ys.length + zs.length) cap) b ∨ M b) x vs := fun x vs hr' =>
                Rep.keep (Rep.sub hr' (fun b hb h => h.elim (fun e => by simp only [Ob, Value.ownBlock, Option.some.injEq] at e; subst e; exact hg) id))
                  (fun b hb hn => hupd.ext.block b hb (fun h => hn (.inr (by rw [show b = g from h]; exact hg))))
              rw [rfl0] at hbound
              by_cases hky : k < ys.length
              · rw [List.getElem_append_left hky]
                have := h3 k hky
                rw [show cellsAt cs (k * sz α) (sz α) = cellsAt (cs.toList.take (ys.length * i.size) ++ news ++ cs.toList.drop (ys.length * i.size + news.length)).toArray (k * sz α) (sz α) from cellsAt_ext (fun j hj => by
                  have hb : k * sz α + j < ys.length * sz α := by
                    have := Nat.mul_le_mul_right (sz α) (show k + 1 ≤ ys.length from hky); rw [Nat.succ_mul] at this; omega
                  conv => rhs; rw [List.getElem?_toArray, List.append_assoc, List.getElem?_append_left (by simp only [List.length_take, Array.length_toList, rfl0]; omega), List.getElem?_take, if_pos (by rw [rfl0]; exact hb)]
                  simp)] at this
                exact hkeep _ _ this
              · rw [List.getElem_append_right (by omega)]
                have hkz : k - ys.length < zs.length := by omega
                have := hrepn (k - ys.length) hkz
                rw [show cellsAt news.toArray ((k - ys.length) * sz α) (sz α) = cellsAt (cs.toList.take (ys.length * i.size) ++ news ++ cs.toList.drop (ys.length * i.size + news.length)).toArray (k * sz α) (sz α) from cellsAt_ext (fun j hj => by
                  have hb : (k - ys.length) * sz α + j < zs.length * sz α := by
                    have := Nat.mul_le_mul_right (sz α) (show k - ys.length + 1 ≤ zs.length from hkz); rw [Nat.succ_mul] at this; omega
                  have he : k * sz α = ys.length * sz α + (k - ys.length) * sz α := by rw [← Nat.add_mul]; congr 1; omega
                  have htl : (cs.toList.take (ys.length * i.size)).length = ys.length * sz α := by simp only [List.length_take, Array.length_toList, rfl0]; omega
                  rw [show ∀ m, news.toArray[m]? = news[m]? from fun m => by simp, show ∀ (l : List Value) m, l.toArray[m]? = l[m]? from fun l m => by simp, List.getElem?_append_left (by rw [List.length_append, htl]; omega), List.getElem?_append_right (by rw [htl]; omega), htl]
                  congr 1; omega)] at this
                exact hkeep _ _ this
            · exact hupd.ext.mono (fun b hb h => by rw [show b = g from h]; rfl)
            · intro b hb; exact .inl hb
          · have holds : ∀ j v, (cellsAt cs 0 (ys.length * sz α))[j]? = some v → w.cell? ((⟨g, 0, none⟩ : Addr).add j) = some v := fun j v hv => by
              have hj : j < ys.length * sz α := by rw [← hcsl]; exact (List.getElem?_eq_some_iff.1 hv).1
              rw [addr_add, cell_of_row w g (0 + j) cs e (0, 0) hc, Nat.zero_add, ← hcsg j hj, hv]
            have hr := run_append_grow (P := P) w t oo.type e i z hu hi hz ⟨g, 0, none⟩ ys.length cap (cellsAt cs 0 (ys.length * sz α)) (by rw [rfl0]; exact hcsl) holds ⟨sb, so, none⟩ zs.length c news hnl hnews (by omega) (by omega)
              (growslice_fits (by omega) (by rw [hby]; exact hlen))
            have hfr := fresh _ (grownCap w (ys.length + zs.length) cap e) _ hcsl hrepo rfl (grownCap_ge w _ _ e)
            refine ⟨_, _, hr, hfr, ?_, ?_⟩
            · exact (new_alloc_drew w _).ext.mono (fun b hb h => h.elim)
            · intro b hb; simp only [Ob, Value.ownBlock, Option.some.injEq] at hb; exact .inr (by omega)
  obtain ⟨v', w', hrun, hpost⟩ := key
  refine ⟨v', w', .inl ?_, hpost⟩
  unfold execOp; rw [hoo]
  simp [hρ _ _ hx, hρ _ _ hy, resolve, invoke, builtin, hrun]
end
end Go.K

/- The rules as the scripts use them. -/
set_option linter.unusedVariables false
set_option linter.unusedSimpArgs false
namespace Go.K
open Rep

/-! ### Parts of code, by where they stand -/
def cl : Code → Code | .seq a _ => a | .cond _ a _ => a | .block _ b => b | .loop b => b | .scope b => b | c => c
def cr : Code → Code | .seq _ b => b | .cond _ _ b => b | c => c
def rops : Code → Array Oper | .region _ ops _ => ops | _ => #[]
def bodyOf (fn : Func) : Code := match fn.body with | some c => c | none => .skip

section
variable {P : Program} {f : FuncId} {N : Nat} {k : List Item} {env : Env} {w w' : World} {R : Value → World → Prop}
variable {ops : Array Oper} {S : World → Prop} {i t : Nat} {L : List (Nat × Bool)} {op : Op} {v : Value} {x y z : Operand} {g : Option (Nat × Bool)}

theorem yS (hop : opAt ops i = some (some t, op, g)) (hw : wantedE ops env g = some true) (ht : Nat.blt t N = true)
    (hy : ∀ w', S w' → Val P N env op w' v) (h : Sch P f N k R ops S L ((t, v) :: env) w) : Sch P f N k R ops S ((i, true) :: L) env w := Sch.yield hop hw ht hy h
theorem pS (hop : opAt ops i = some (some t, op, g)) (hw : wantedE ops env g = some false) (ht : Nat.blt t N = true)
    (h : Sch P f N k R ops S L ((t, undef) :: env) w) : Sch P f N k R ops S ((i, true) :: L) env w := Sch.pass hop hw ht h
theorem pW (hop : opAt ops i = some (some t, op, g)) (hw : wantedE ops env g = some false) (ht : Nat.blt t N = true) (hS : S w)
    (h : Sch P f N k R ops S L ((t, undef) :: env) w) : Sch P f N k R ops S ((i, false) :: L) env w := Sch.passW hop hw ht hS h
theorem nS (hop : opAt ops i = some (some t, op, g)) (hw : wantedE ops env g = some true) (ht : Nat.blt t N = true) (hS : S w)
    (hy : Val P N env op w v) (h : Sch P f N k R ops S L ((t, v) :: env) w) : Sch P f N k R ops S ((i, false) :: L) env w := Sch.now hop hw ht hS hy h
theorem aS {T : Value → World → Prop} (hop : opAt ops i = some (some t, op, g)) (hw : wantedE ops env g = some true) (ht : Nat.blt t N = true)
    (hy : Acts P N env op w T) (h : ∀ v w', T v w' → S w' ∧ Sch P f N k R ops S L ((t, v) :: env) w') : Sch P f N k R ops S ((i, false) :: L) env w := Sch.act hop hw ht hy h
theorem aN {T : Value → World → Prop} (hop : opAt ops i = some (none, op, g)) (hw : wantedE ops env g = some true)
    (hy : Acts P N env op w T) (h : ∀ v w', T v w' → S w' ∧ Sch P f N k R ops S L env w') : Sch P f N k R ops S ((i, false) :: L) env w := Sch.act hop hw rfl hy h
theorem cS {gf : FuncId} {args : Array Value} {T : Value → World → Prop} (hop : opAt ops i = some (some t, op, g)) (hw : wantedE ops env g = some true) (ht : Nat.blt t N = true)
    (hy : Enters P N env op w gf args) (hc : Calls P gf args w (Ret T))
    (h : ∀ v w', T v w' → S w' ∧ Sch P f N k R ops S L ((t, v) :: env) w') : Sch P f N k R ops S ((i, false) :: L) env w := Sch.call hop hw ht hy hc h
theorem ent {gf : FuncId} {xs : Array Operand} {ts : Array TypeId} {vs : List Value}
    (hcall : ∀ args w, (callFunc gf args).run P w = .ok (.enter gf args) w) (hargs : evs env xs.toList = some vs) :
    Enters P N env (.call { callee := .value (.func gf), args := xs, argTypes := ts }) w gf vs.toArray := by
  have := enters_func (P := P) (N := N) (env := env) (w := w) (ts := ts) (x := .func gf) (cap := #[]) hcall rfl hargs
  simpa using this

/-- Slots are forgotten; what is left is spelt anew. -/
theorem kp {env' : Env} (hs : Sub env' env) (h : Run P f N k env' w R) : Run P f N k env w R := h.sub hs
end

/-! ### Who may write what: blocks bear colours; 0: nobody writes it any more -/

def Mc (C : Nat → Nat) : Nat → Prop := fun b => C b ≠ 0
/-- Only blocks that exist bear a colour. -/
def Lim (w : World) (C : Nat → Nat) : Prop := ∀ b, C b ≠ 0 → b < w.heap.size
/-- From `w` to `w'` only blocks of the colours `I` have turned; no block of `w` has another colour. -/
structure Stp (I : List Nat) (w : World) (C : Nat → Nat) (w' : World) (C' : Nat → Nat) : Prop where
  ext : Ext (fun b => C b ∈ I) w w'
  col : ∀ b, b < w.heap.size → C' b = C b
structure OwnB (w : World) (C : Nat → Nat) (j b : Nat) (o : Obj) : Prop where
  col : C b = j
  at_ : w.heap[b]? = some o
structure OwnL {α : Type} [Rep α] (w : World) (C : Nat → Nat) (j : Nat) (e : TypeId) (v : Value) (ys : List α) : Prop where
  own : OwnS w (Mc C) e v ys
  col : ∀ b, Ob v b → C b = j

section
variable {α β : Type} [Rep α] [Rep β] {w w' w'' : World} {I J : List Nat} {C C' C'' D : Nat → Nat} {x : α} {xs ys zs : List α} {v u : Value} {b o j n : Nat} {ob ob' : Obj} {e : TypeId}

theorem Stp.refl (I : List Nat) (w : World) (C : Nat → Nat) : Stp I w C w C := ⟨Ext.refl _ _, fun _ _ => rfl⟩
theorem Stp.reflF (h : Lim w C) : Stp [] w C w C := Stp.refl [] w C
theorem Stp.trans (h : Stp I w C w' C') (h' : Stp J w' C' w'' C'') (hJ : ∀ c ∈ J, c ∈ I) : Stp I w C w'' C'' :=
  ⟨h.ext.trans h'.ext (fun b hb hc => by rw [h.col b hb] at hc; exact hJ _ hc), fun b hb => (h'.col b (Nat.lt_of_lt_of_le hb h.ext.size)).trans (h.col b hb)⟩
theorem Stp.mono (h : Stp I w C w' C') (hI : ∀ c ∈ I, c ∈ J) : Stp J w C w' C' := ⟨h.ext.mono (fun b _ hc => hI _ hc), h.col⟩
theorem Stp.drew (I : List Nat) (w : World) (C : Nat → Nat) : Stp I w C { w with drawn := w.drawn + 1 } C := ⟨Ext.drew _ _, fun _ _ => rfl⟩
theorem Stp.size (h : Stp I w C w' C') : w.heap.size ≤ w'.heap.size := h.ext.size

theorem Lim.st (h : Lim w C) (hs : Stp I w C w' C) : Lim w' C := fun b hb => Nat.lt_of_lt_of_le (h b hb) hs.size
theorem RV.st (h : RV w (Mc C) x v) (hs : Stp I w C w' C') (h0 : 0 ∉ I) : RV w' (Mc C') x v :=
  RV.ext (h.sub (M' := Mc C') (fun b hb hc => by unfold Mc at *; rwa [hs.col b hb] at hc)) hs.ext (fun b hb hc => by unfold Mc; rw [hs.col b hb]; intro e; rw [e] at hc; exact h0 hc)
theorem RA.st (h : RA w (Mc C) x b o) (hs : Stp I w C w' C') (h0 : 0 ∉ I) : RA w' (Mc C') x b o :=
  RA.ext (h.sub (M' := Mc C') (fun b hb hc => by unfold Mc at *; rwa [hs.col b hb] at hc)) hs.ext (fun b hb hc => by unfold Mc; rw [hs.col b hb]; intro e; rw [e] at hc; exact h0 hc)
theorem OwnB.st (h : OwnB w C j b ob) (hs : Stp I w C w' C') (hj : j ∉ I) : OwnB w' C' j b ob :=
  ⟨(hs.col b (lt_of_at h.at_)).trans h.col, hs.ext.at' h.at_ (by rw [h.col]; exact hj)⟩
theorem OwnL.st (h : OwnL w C j e v ys) (hs : Stp I w C w' C') (h0 : 0 ∉ I) (hj : j ∉ I) : OwnL w' C' j e v ys :=
  ⟨OwnS.ext (h.own.sub (M' := Mc C') (fun b hb hc => by unfold Mc at *; rwa [hs.col b hb] at hc) (fun b hb => by have := h.own.ob b hb; unfold Mc at *; rw [hs.col b this.2]; exact this.1))
      hs.ext (fun b hb hc => by unfold Mc; rw [hs.col b hb]; intro e; rw [e] at hc; exact h0 hc) (fun b hb hc => by rw [h.col b hb] at hc; exact hj hc),
    fun b hb => (hs.col b (h.own.ob b hb).2).trans (h.col b hb)⟩
theorem OwnL.nil : OwnL w C j e (.slice none 0 0) ([] : List α) := ⟨OwnS.nil, fun b hb => by cases hb⟩

/-! New blocks -/
def setC (C : Nat → Nat) (b j : Nat) : Nat → Nat := fun x => if x = b then j else C x
def setB (C : Nat → Nat) (v : Value) (j : Nat) : Nat → Nat := fun x => if v.ownBlock = some x then j else C x

theorem New.st (h : New w w' ob) (C : Nat → Nat) : Stp [] w C w' C := ⟨h.ext.mono (fun b _ h => h.elim), fun _ _ => rfl⟩
theorem New.own (h : New w w' ob) (hF : Lim w C) (j : Nat) : ∃ C', Stp [] w C w' C' ∧ OwnB w' C' j w.heap.size ob ∧ Lim w' C' :=
  ⟨setC C w.heap.size j, ⟨h.ext.mono (fun b _ h => h.elim), fun b hb => by unfold setC; rw [if_neg (by omega)]⟩, ⟨by simp [setC], h.at_⟩, fun b hb => by
    unfold setC at hb
    rw [h.size]
    split at hb
    · omega
    · have := hF b hb; omega⟩
theorem Upd.own (h : Upd w w' b ob') (ho : OwnB w C j b ob) : Stp [j] w C w' C ∧ OwnB w' C j b ob' :=
  ⟨⟨h.ext.mono (fun c _ hc => by rw [show c = b from hc, ho.col]; simp), fun _ _ => rfl⟩, ⟨ho.col, h.at_⟩⟩

variable {P : Program} {N : Nat} {env : Env} {y z q : Operand} {t : TypeId}

theorem a_box {cs : List Value} (hF : Lim w C) (j : Nat) (hx : ev env y = some v) (hc : v.cells = cs.toArray) :
    Acts P N env (.box t y) w (fun u w' => ∃ C' b, u = .pointer (some ⟨b, 0, none⟩) ∧ Stp [] w C w' C' ∧ OwnB w' C' j b (.cells cs.toArray t) ∧ Lim w' C') := fun a ha o ho => by
  obtain ⟨u, w', h1, rfl, h2⟩ := acts_box (P := P) (N := N) (t := t) (w := w) hx hc a ha o ho
  obtain ⟨C', h3, h4, h5⟩ := h2.own hF j
  exact ⟨_, w', h1, C', _, rfl, h3, h4, h5⟩
theorem a_alloc {cs : List Value} (hF : Lim w C) (j : Nat) (hz : zeroB P t = some cs) :
    Acts P N env (.alloc t) w (fun u w' => ∃ C' b, u = .pointer (some ⟨b, 0, none⟩) ∧ Stp [] w C w' C' ∧ OwnB w' C' j b (.cells cs.toArray t) ∧ Lim w' C') := fun a ha o ho => by
  obtain ⟨u, w', h1, rfl, h2⟩ := acts_alloc (P := P) (N := N) (env := env) (t := t) (w := w) hz a ha o ho
  obtain ⟨C', h3, h4, h5⟩ := h2.own hF j
  exact ⟨_, w', h1, C', _, rfl, h3, h4, h5⟩
theorem a_store1 {cs : List Value} {ty : TypeId} (hx : ev env y = some (.pointer (some ⟨b, o, none⟩))) (hy : ev env z = some v) (hs : szB P t = some 1)
    (hv : v.cells = #[v]) (h1 : v.oneCell' = true) (hb : OwnB w C j b (.cells cs.toArray ty)) (ho : o < cs.length) :
    Acts P N env (.store t y z) w (fun u w' => u = undef ∧ Stp [j] w C w' C ∧ OwnB w' C j b (.cells (cs.set o v).toArray ty)) := fun a ha oo hoo => by
  obtain ⟨u, w', h2, h3, h4⟩ := acts_store1 (P := P) (N := N) (w := w) hx hy hs hv h1 hb.at_ ho a ha oo hoo
  exact ⟨u, w', h2, h3, h4.own hb⟩
theorem a_store {cs vs : List Value} {ty : TypeId} (hx : ev env y = some (.pointer (some ⟨b, o, none⟩))) (hy : ev env z = some v) (hs : szB P t = some n)
    (hv : v.cells = vs.toArray) (hl : vs.length = n) (h1 : ∀ u ∈ vs, u.oneCell' = true) (hb : OwnB w C j b (.cells cs.toArray ty)) (ho : o + n ≤ cs.length) :
    Acts P N env (.store t y z) w (fun u w' => u = undef ∧ Stp [j] w C w' C ∧ OwnB w' C j b (.cells (cs.take o ++ vs ++ cs.drop (o + n)).toArray ty)) := fun a ha oo hoo => by
  obtain ⟨u, w', h2, h3, h4⟩ := acts_store (P := P) (N := N) (w := w) hx hy hs hv hl h1 hb.at_ ho a ha oo hoo
  exact ⟨u, w', h2, h3, h4.own hb⟩
theorem a_append {bytes : Nat} {s : Value} (hF : Lim w C) (hj : j ≠ 0) (hx : ev env y = some v) (hy : ev env z = some s) (hrow : rowB P t e (sz α) bytes = true) (hsz : 0 < sz α)
    (hown : OwnL w C j e v ys) (hsrc : RV w (Mc C) zs s) (hlen : (ys.length + zs.length) * bytes ≤ 140737488355328) (h63 : ys.length + zs.length ≤ 140737488355328) :
    Acts P N env (.call { callee := .builtin .append, args := #[y, z], argTypes := #[t, t] }) w (fun v' w' => ∃ C', Stp [j] w C w' C' ∧ OwnL w' C' j e v' (ys ++ zs) ∧ Lim w' C') := fun a ha oo hoo => by
  obtain ⟨v', w', h1, h2, h3, h4⟩ := acts_append (P := P) (N := N) hx hy hrow hsz hown.own hsrc hlen h63 a ha oo hoo
  have hcol : ∀ b, b < w.heap.size → setB C v' j b = C b := fun b hb => by
    unfold setB
    split
    · rename_i e
      rcases h4 b e with h | h
      · exact (hown.col b h).symm
      · omega
    · rfl
  refine ⟨v', w', h1, setB C v' j, ⟨h3.mono (fun b _ hb => by rw [hown.col b hb]; simp), hcol⟩, ⟨h2.sub (fun b hb hc => ?_) (fun b hb => ?_), fun b hb => ?_⟩, fun b hb => ?_⟩
  · by_cases ho : Ob v' b
    · exact .inl ho
    · right
      unfold Mc setB at hc
      rw [if_neg (show ¬ v'.ownBlock = some b from ho)] at hc
      exact hc
  · unfold Mc setB; rw [if_pos (show v'.ownBlock = some b from hb)]; exact hj
  · unfold setB; rw [if_pos (show v'.ownBlock = some b from hb)]
  · by_cases ho : Ob v' b
    · exact (h2.ob b ho).2
    · unfold setB at hb
      rw [if_neg (show ¬ v'.ownBlock = some b from ho)] at hb
      exact Nat.lt_of_lt_of_le (hF b hb) h3.size

/-! ### Entering and leaving a function -/

/-- The colours inside a function: 1: whatever else may be written; 2: what the function may write. -/
def col1 (C : Nat → Nat) : Nat → Nat := fun b => if C b = 0 then 0 else 1
def col2 (C : Nat → Nat) (i : Nat) : Nat → Nat := fun b => if C b = 0 then 0 else if C b = i then 2 else 1
theorem col1_ne (C : Nat → Nat) (b : Nat) : col1 C b ≠ 0 ↔ C b ≠ 0 := by unfold col1; split <;> simp_all
theorem col2_ne (C : Nat → Nat) (i b : Nat) : col2 C i b ≠ 0 ↔ C b ≠ 0 := by unfold col2; split <;> (try split) <;> simp_all
theorem Mc_col1 (C : Nat → Nat) : Mc (col1 C) = Mc C := by funext b; exact propext (col1_ne C b)
theorem Mc_col2 (C : Nat → Nat) (i : Nat) : Mc (col2 C i) = Mc C := by funext b; exact propext (col2_ne C i b)
theorem Lim.col1 (h : Lim w C) : Lim w (col1 C) := fun b hb => h b ((col1_ne C b).1 hb)
theorem Lim.col2 (h : Lim w C) (i : Nat) : Lim w (col2 C i) := fun b hb => h b ((col2_ne C i b).1 hb)
theorem OwnB.col2 {i : Nat} (h : OwnB w C i b ob) (hi : i ≠ 0) : OwnB w (col2 C i) 2 b ob := ⟨by unfold K.col2; rw [if_neg (by rw [h.col]; exact hi), if_pos h.col], h.at_⟩
/-- What the whole function did, in its caller's colours. -/
theorem Stp.out1 (h : Stp I w (col1 C) w' C') (hI : ∀ c ∈ I, 2 ≤ c) : Stp [] w C w' C := ⟨h.ext.mono (fun b _ hc => by
  have := hI _ hc
  unfold K.col1 at this
  split at this <;> omega), fun _ _ => rfl⟩
theorem Stp.out2 {i : Nat} (h : Stp I w (col2 C i) w' C') (hI : ∀ c ∈ I, 2 ≤ c) : Stp [i] w C w' C := ⟨h.ext.mono (fun b _ hc => by
  have := hI _ hc
  simp only [List.mem_singleton]
  unfold K.col2 at this
  split at this
  · omega
  · split at this
    · assumption
    · omega), fun _ _ => rfl⟩
theorem Stp.fin_sub (hs : Stp I w D w' C') (hF : Lim w C) (hD : Mc D = Mc C) : ∀ b, C b ≠ 0 → b < w.heap.size ∧ C' b = D b ∧ D b ≠ 0 := fun b hb => by
  have h1 := hF b hb
  refine ⟨h1, hs.col b h1, ?_⟩
  have : Mc D b := by rw [hD]; exact hb
  exact this
theorem RV.out (h : RV w' (Mc C') x v) (hs : Stp I w D w' C') (hF : Lim w C) (hD : Mc D = Mc C) : RV w' (Mc C) x v :=
  h.sub (fun b _ hb => by obtain ⟨h1, h2, h3⟩ := hs.fin_sub hF hD b hb; unfold Mc; rw [h2]; exact h3)
/-- A list of the function's own, handed out to be read. -/
theorem OwnL.out (h : OwnL w' C' j e v ys) (hs : Stp I w D w' C') (hF : Lim w C) (hD : Mc D = Mc C) (hj : ∀ b, b < w.heap.size → D b ≠ j) (hl : ys.length ≤ 9223372036854775807) : RV w' (Mc C) ys v :=
  h.own.read (fun b _ hb => by
    obtain ⟨h1, h2, h3⟩ := hs.fin_sub hF hD b hb
    exact ⟨by unfold Mc; rw [h2]; exact h3, fun ho => hj b h1 (by rw [← h2]; exact h.col b ho)⟩) hl
theorem col1_lt (C : Nat → Nat) {j : Nat} (hj : 2 ≤ j) (b : Nat) : col1 C b ≠ j := by unfold col1; split <;> omega
theorem col2_lt (C : Nat → Nat) (i : Nat) {j : Nat} (hj : 3 ≤ j) (b : Nat) : col2 C i b ≠ j := by unfold col2; split <;> (try split) <;> omega

theorem RA.stay (h : RA w (Mc C) x b o) (hS : Ext (fun b => C b ∈ I) w w') (h0 : 0 ∉ I) : w'.heap[b]? = w.heap[b]? := by
  obtain ⟨hb, cs, ty, fz, hc, _⟩ := h
  exact hS.block b (lt_of_at hc) (fun hm => hb (fun e => h0 (by rw [e] at hm; exact hm)))
theorem OwnB.stay (h : OwnB w C j b ob) (hS : Ext (fun b => C b ∈ I) w w') (hj : j ∉ I) : w'.heap[b]? = some ob :=
  hS.at' h.at_ (by rw [h.col]; exact hj)
theorem OwnL.lenV (h : OwnL w C j e v ys) (hy : ev env y = some v) {d : TypeId} (ht : P.underlying t = some (.slice d)) :
    ∀ w', Val P N env (.call { callee := .builtin .len, args := #[y], argTypes := #[t] }) w' (.int .i64 ys.length) := fun w' => by
  obtain ⟨a, c, rfl⟩ := h.own.len
  exact val_len_slice hy ht
end

section
variable {P : Program} {f : FuncId} {N : Nat} {k : List Item} {env : Env} {w : World} {R : Value → World → Prop}
/-- A region that draws its order: `I`: the colours that its operations may write. -/
theorem run_draw {c : Code} {id : Nat} {ops : Array Oper} (I : List Nat) (C : Nat → Nat) (L : List (Nat × Bool)) (hm : P.follows .mixedOrders = true) (hc : c = .region id ops true)
    (hn : Region.noSelect ops = true) (hk : chk ops ops.size (Array.replicate ops.size false) L = true)
    (h : ∀ w₁, Stp [] w C w₁ C → Sch P f N k R ops (fun w' => Ext (fun b => C b ∈ I) w₁ w') L env w₁) : Run P f N (.code c :: k) env w R :=
  run_drawn _ L hm hc hn hk (Ext.refl _ _) (h _ (Stp.drew [] w C))
/-- The same where, behind `A`, one of two operations may come up. -/
theorem run_draw2 {c : Code} {id : Nat} {ops : Array Oper} (I : List Nat) (C : Nat → Nat) (A : List Nat) (i : Nat) (L : List (Nat × Bool)) (i' : Nat) (L' : List (Nat × Bool)) (hm : P.follows .mixedOrders = true) (hc : c = .region id ops true)
    (hn : Region.noSelect ops = true) (hk : chk2 ops i L i' L' ops.size (Array.replicate ops.size false) A = true)
    (h : ∀ w₁, Stp [] w C w₁ C → Sch P f N k R ops (fun w' => Ext (fun b => C b ∈ I) w₁ w') (A.map (fun j => (j, true)) ++ (i, false) :: L) env w₁)
    (h' : ∀ w₁, Stp [] w C w₁ C → Sch P f N k R ops (fun w' => Ext (fun b => C b ∈ I) w₁ w') (A.map (fun j => (j, true)) ++ (i', false) :: L') env w₁) : Run P f N (.code c :: k) env w R :=
  run_drawn2 _ A i L i' L' hm hc hn hk (Ext.refl _ _) (h _ (Stp.drew [] w C)) (h' _ (Stp.drew [] w C))
end

section
variable {α : Type} [Rep α] {P : Program} {f : FuncId} {N : Nat} {k : List Item} {env : Env} {w : World} {R : Value → World → Prop}
variable {ops : Array Oper} {S : World → Prop} {i t : Nat} {L : List (Nat × Bool)} {v : Value} {y z : Operand} {g : Option (Nat × Bool)} {ty e : TypeId} {M : Nat → Prop} {x : α} {xs : List α} {b o : Nat} {kd : IntKind} {n : Int}

/-- The address of an element. -/
theorem iS {w1 : World} (hop : opAt ops i = some (some t, .indexAddr ty y z, g)) (hw : wantedE ops env g = some true) (ht : Nat.blt t N = true) (hl : RV w1 M xs v) (hy : ev env y = some v)
    (hf : elemB P ty = some (e, sz α)) (hz : ev env z = some (.int kd n)) (h0 : 0 ≤ n) (h1 : n < xs.length)
    (h : ∀ b o, RA w1 M (xs[n.toNat]'(by omega)) b o → Sch P f N k R ops S L ((t, .pointer (some ⟨b, o, none⟩)) :: env) w) : Sch P f N k R ops S ((i, true) :: L) env w := by
  obtain ⟨b, o, h2, h3⟩ := hl.index (P := P) (N := N) hy hf hz h0 h1
  exact yS hop hw ht (fun w' _ => h3 w') (h b o h2)
/-- A load of a scalar. -/
theorem lN (hop : opAt ops i = some (some t, .load ty y, g)) (hw : wantedE ops env g = some true) (ht : Nat.blt t N = true) (hS : S w) (hr : RA w M x b o) (ha : aggB P ty = some false) (hx : Rep.agg α = false)
    (hy : ev env y = some (.pointer (some ⟨b, o, none⟩))) (h : ∀ v, RV w M x v → Sch P f N k R ops S L ((t, v) :: env) w) : Sch P f N k R ops S ((i, false) :: L) env w := by
  obtain ⟨v, h2, h3⟩ := hr.load (P := P) (N := N) ha hx hy
  exact nS hop hw ht hS (h3 w rfl) (h v h2)
theorem lS {w1 : World} (hop : opAt ops i = some (some t, .load ty y, g)) (hw : wantedE ops env g = some true) (ht : Nat.blt t N = true) (hst : ∀ w', S w' → w'.heap[b]? = w1.heap[b]?) (hr : RA w1 M x b o) (ha : aggB P ty = some false) (hx : Rep.agg α = false)
    (hy : ev env y = some (.pointer (some ⟨b, o, none⟩))) (h : ∀ v, RV w1 M x v → Sch P f N k R ops S L ((t, v) :: env) w) : Sch P f N k R ops S ((i, true) :: L) env w := by
  obtain ⟨v, h2, h3⟩ := hr.load (P := P) (N := N) ha hx hy
  exact yS hop hw ht (fun w' hS => h3 w' (hst w' hS)) (h v h2)
/-- A load of a struct. -/
theorem lNA (hop : opAt ops i = some (some t, .load ty y, g)) (hw : wantedE ops env g = some true) (ht : Nat.blt t N = true) (hS : S w) (hr : RA w M x b o) (ha : aggB P ty = some true) (hs : szB P ty = some (sz α)) (hx : Rep.agg α = true)
    (hy : ev env y = some (.pointer (some ⟨b, o, none⟩))) (h : ∀ v, RV w M x v → Sch P f N k R ops S L ((t, v) :: env) w) : Sch P f N k R ops S ((i, false) :: L) env w := by
  obtain ⟨v, h2, h3⟩ := hr.loadAgg (P := P) (N := N) ha hs hx hy
  exact nS hop hw ht hS (h3 w rfl) (h v h2)
theorem lSA {w1 : World} (hop : opAt ops i = some (some t, .load ty y, g)) (hw : wantedE ops env g = some true) (ht : Nat.blt t N = true) (hst : ∀ w', S w' → w'.heap[b]? = w1.heap[b]?) (hr : RA w1 M x b o) (ha : aggB P ty = some true) (hs : szB P ty = some (sz α)) (hx : Rep.agg α = true)
    (hy : ev env y = some (.pointer (some ⟨b, o, none⟩))) (h : ∀ v, RV w1 M x v → Sch P f N k R ops S L ((t, v) :: env) w) : Sch P f N k R ops S ((i, true) :: L) env w := by
  obtain ⟨v, h2, h3⟩ := hr.loadAgg (P := P) (N := N) ha hs hx hy
  exact yS hop hw ht (fun w' hS => h3 w' (hst w' hS)) (h v h2)
end

/-! ### What was written is from now on only read -/
/-- Blocks of the colours from `n` on are written no more. -/
def frz (n : Nat) (C : Nat → Nat) : Nat → Nat := fun b => if n ≤ C b then 0 else C b
section
variable {α : Type} [Rep α] {w w' w₀ : World} {I : List Nat} {C C' C₀ : Nat → Nat} {x : α} {ys : List α} {v : Value} {b o j n : Nat} {ob : Obj} {e : TypeId}
theorem Mc_frz (h : Mc (frz n C) b) : Mc C b ∧ C b < n := by
  unfold Mc frz at *
  split at h
  · exact absurd rfl h
  · exact ⟨h, by omega⟩
theorem Lim.frz (h : Lim w C) (n : Nat) : Lim w (frz n C) := fun b hb => h b (Mc_frz hb).1
theorem RV.frz (h : RV w (Mc C) x v) (n : Nat) : RV w (Mc (K.frz n C)) x v := h.sub (fun b _ hb => (Mc_frz hb).1)
theorem RA.frz (h : RA w (Mc C) x b o) (n : Nat) : RA w (Mc (K.frz n C)) x b o := h.sub (fun b _ hb => (Mc_frz hb).1)
theorem OwnL.frz (h : OwnL w C j e v ys) (hj : n ≤ j) (hl : ys.length ≤ 9223372036854775807) : RV w (Mc (K.frz n C)) ys v :=
  h.own.read (fun b _ hb => ⟨(Mc_frz hb).1, fun ho => by have := (Mc_frz hb).2; rw [h.col b ho] at this; omega⟩) hl
theorem OwnB.frz (h : OwnB w C j b ob) (hj : j < n) : OwnB w (K.frz n C) j b ob := ⟨by unfold K.frz; rw [h.col, if_neg (by omega)], h.at_⟩
theorem OwnB.frzM (h : OwnB w C j b ob) (hj : n ≤ j) : ¬ Mc (K.frz n C) b := fun hm => by have := (Mc_frz hm).2; rw [h.col] at this; omega
theorem Stp.frz (h : Stp I w₀ C₀ w C) (h0 : ∀ b, C₀ b < n) : Stp I w₀ C₀ w (K.frz n C) :=
  ⟨h.ext, fun b hb => by unfold K.frz; rw [h.col b hb, if_neg (by have := h0 b; omega)]⟩
theorem col2_lt3 (C : Nat → Nat) (i b : Nat) : col2 C i b < 3 := by unfold col2; split <;> (try split) <;> omega
theorem col1_lt2 (C : Nat → Nat) (b : Nat) : col1 C b < 2 := by unfold col1; split <;> omega
theorem OwnL.one (h : OwnL w C j e v ys) : v.cells = #[v] ∧ v.oneCell' = true := by
  obtain ⟨a, c, rfl⟩ := h.own.len; exact ⟨rfl, rfl⟩
theorem cells2 {cs : Array Value} {o : Nat} {a c : Value} (h1 : cs[o]? = some a) (h2 : cs[o + 1]? = some c) : cellsAt cs o 2 = [a, c] := by
  apply List.ext_getElem?
  intro j
  simp only [cellsAt, List.getElem?_take, List.getElem?_drop]
  match j with
  | 0 => simpa using h1
  | 1 => simpa using h2
  | j + 2 => simp; omega
end

/-! ### A test in a region of its own: the ways meet again behind it -/
theorem sub_skip {env env' : Env} {t : Nat} {v : Value} (h : look env t = none) (hs : Sub env env') : Sub env ((t, v) :: env') := fun s x hx => by
  simp only [look]
  cases hb : Nat.beq t s with
  | true => rw [Nat.eq_of_beq_eq_true hb, hx] at h; cases h
  | false => exact hs s x hx
section
variable {P : Program} {f : FuncId} {N : Nat} {k : List Item} {env : Env} {w : World} {R : Value → World → Prop} {p : Prop} [Decidable p] {op : Op}
theorem run_cut (t : Nat) (b : Bool) (C : Nat → Nat) {c : Code}
    (hreg : (∀ w' env' v, Stp [] w C w' C → look env' t = some v → v = .bool b → Sub env env' → Run P f N k env' w' R) → Run P f N (.code c :: k) env w R)
    (hcont : ∀ w', Stp [] w C w' C → Run P f N k ((t, .bool b) :: env) w' R) : Run P f N (.code c :: k) env w R :=
  hreg fun w' env' v hs hl hv hsub => (hcont w' hs).sub fun s x hx => by
    simp only [look] at hx
    cases hb : Nat.beq t s with
    | true =>
      rw [hb] at hx
      simp only [cond_true, Option.some.injEq] at hx
      rw [← Nat.eq_of_beq_eq_true hb, hl, hv, hx]
    | false => rw [hb] at hx; exact hsub s x hx
theorem val_is {v v' : Value} (h : Val P N env op w v) (e : v = v') : Val P N env op w v' := e ▸ h
theorem val_T (h : Val P N env op w (.bool (decide p))) (hp : p) : Val P N env op w (.bool true) := by rwa [decide_eq_true hp] at h
theorem val_F (h : Val P N env op w (.bool (decide p))) (hp : ¬ p) : Val P N env op w (.bool false) := by rwa [decide_eq_false hp] at h
end
end Go.K

/- Building structs and slices. -/
set_option linter.unusedVariables false
set_option linter.unusedSimpArgs false
namespace Go.K
open Rep

/-- Parts laid over cells. -/
def fillL (place : Nat → Option (Nat × Nat)) : List Value → List (Nat × List Value) → Option (List Value)
  | cells, [] => some cells
  | cells, (i, vs) :: rest => match place i with
    | none => none
    | some (off, size) => if vs.length = size ∧ off + vs.length ≤ cells.length then fillL place (cells.take off ++ vs ++ cells.drop (off + vs.length)) rest else none

theorem foldl_set : ∀ (vs : List Value) (k off : Nat) (cs : List Value), off + k + vs.length ≤ cs.length →
    ((vs.zipIdx k).foldl (fun (acc : Array Value) (p : Value × Nat) => acc.setIfInBounds (off + p.2) p.1) cs.toArray) = (cs.take (off + k) ++ vs ++ cs.drop (off + k + vs.length)).toArray
  | [], k, off, cs, h => by simp
  | v :: vs, k, off, cs, h => by
    rw [List.length_cons] at h
    rw [List.zipIdx_cons, List.foldl_cons]
    have e1 : cs.toArray.setIfInBounds (off + k) v = (cs.set (off + k) v).toArray := by simp
    rw [e1, foldl_set vs (k + 1) off (cs.set (off + k) v) (by simp; omega)]
    congr 1
    have hlt : off + k < cs.length := by omega
    rw [List.set_eq_take_append_cons_drop, if_pos hlt]
    have e2 : off + (k + 1) = (cs.take (off + k)).length + 1 := by simp; omega
    have e3 : off + (k + 1) + vs.length = (cs.take (off + k)).length + (1 + vs.length) := by simp; omega
    rw [show List.take (off + (k + 1)) (cs.take (off + k) ++ v :: cs.drop (off + k + 1)) = cs.take (off + k) ++ [v] from by
      rw [e2, List.take_append]; simp [Nat.min_eq_left (Nat.le_of_lt hlt), List.take_take, Nat.min_eq_right (Nat.le_succ (off + k))]]
    rw [show List.drop (off + (k + 1) + vs.length) (cs.take (off + k) ++ v :: cs.drop (off + k + 1)) = cs.drop (off + k + (vs.length + 1)) from by
      rw [e3, List.drop_append]
      simp only [Nat.add_sub_cancel_left]
      rw [List.drop_eq_nil_of_le (by omega), List.nil_append, Nat.add_comm 1, List.drop_succ_cons, List.drop_drop]
      congr 1; omega]
    simp

theorem fill_eq (place : Nat → Option (Nat × Nat)) : ∀ (ps : List (Nat × Value)) (qs : List (Nat × List Value)) (cs cs' : List Value),
    ps.map (fun p => (p.1, p.2.cells)) = qs.map (fun q => (q.1, q.2.toArray)) → fillL place cs qs = some cs' → Instr.fill place cs.toArray ps = some cs'.toArray
  | [], [], cs, cs', _, h => by simp only [fillL, Option.some.injEq] at h; subst h; rfl
  | [], q :: qs, _, _, h, _ => by simp at h
  | p :: ps, [], _, _, h, _ => by simp at h
  | (i, v) :: ps, (j, vs) :: qs, cs, cs', h, hf => by
    simp only [List.map_cons, List.cons.injEq, Prod.mk.injEq] at h
    obtain ⟨⟨rfl, hv⟩, hr⟩ := h
    simp only [fillL] at hf
    unfold Instr.fill
    cases hp : place i with
    | none => rw [hp] at hf; cases hf
    | some os =>
      obtain ⟨off, size⟩ := os
      rw [hp] at hf
      simp only at hf ⊢
      split at hf
      · rename_i hc
        rw [hv]
        have hn : ¬ (vs.toArray.size ≠ size ∨ off + vs.toArray.size > cs.toArray.size) := by simp; omega
        simp only [List.size_toArray] at hn ⊢
        rw [if_neg (by simpa using hn)]
        have e : (vs.toArray.zipIdx.foldl (fun (acc : Array Value) (p : Value × Nat) => acc.setIfInBounds (off + p.2) p.1) cs.toArray) = (cs.take off ++ vs ++ cs.drop (off + vs.length)).toArray := by
          have := foldl_set vs 0 off cs (by simpa using hc.2)
          simpa using this
        rw [show (vs.toArray.zipIdx.foldl (fun cs (x : Value × Nat) => match x with | (c, j) => cs.setIfInBounds (off + j) c) cs.toArray) = _ from e]
        exact fill_eq place ps qs _ cs' hr hf
      · cases hf

/-- The parts of a composite, with their cells. -/
def Parts (env : Env) : List (Nat × Operand) → List (Nat × List Value) → Prop
  | [], [] => True
  | (i, x) :: ps, (j, vs) :: qs => i = j ∧ (∃ v, ev env x = some v ∧ v.cells = vs.toArray) ∧ Parts env ps qs
  | _, _ => False

def placesB (P : Program) (t : TypeId) : Option (List (Nat × Nat)) := match P.underlying t with
  | some (.struct fs) => fs.toList.mapM fun f => (szB P f.type).map fun n => (f.offset, n)
  | _ => none

section
variable {P : Program} {N : Nat} {env : Env} {w : World} {t : TypeId} {ρ : Operand → Value}

theorem Parts.map (hρ : ∀ x v, ev env x = some v → ρ x = v) : ∀ {ps : List (Nat × Operand)} {qs : List (Nat × List Value)}, Parts env ps qs →
    (ps.map fun p => (p.1, ρ p.2)).map (fun p => (p.1, p.2.cells)) = qs.map (fun q => (q.1, q.2.toArray))
  | [], [], _ => rfl
  | [], _ :: _, h => h.elim
  | _ :: _, [], h => h.elim
  | (i, x) :: ps, (j, vs) :: qs, h => by
    obtain ⟨rfl, ⟨v, hv, hc⟩, hr⟩ := h
    simp only [List.map_cons, hρ x v hv, hc]
    rw [Parts.map hρ hr]

theorem run_map {α β : Type} (g : α → β) (s : Sem α) (w : World) : (g <$> s).run P w = (s.run P w).andThen fun a w' => .ok (g a) w' := by
  show (Sem.run P (Sem.bind s (fun a => Sem.pure (g a))) w) = _
  exact Sem.run_bind _ _ _ _

theorem run_places {ps : List (Nat × Nat)} {fs : Array Field} (h : fs.toList.mapM (fun f => (szB P f.type).map fun n => (f.offset, n)) = some ps) (w : World) :
    (fs.mapM fun f => do pure (f.offset, ← sizeOf f.type) : Sem (Array (Nat × Nat))).run P w = .ok ps.toArray w := by
  rw [Array.mapM_eq_mapM_toList]
  have main : ∀ (l : List Field) (ps : List (Nat × Nat)), l.mapM (fun f => (szB P f.type).map fun n => (f.offset, n)) = some ps →
      (l.mapM fun f => do pure (f.offset, ← sizeOf f.type) : Sem (List (Nat × Nat))).run P w = .ok ps w := by
    intro l
    induction l with
    | nil => intro ps h; simp at h; subst h; rfl
    | cons f l ih =>
      intro ps h
      rw [List.mapM_cons] at h
      simp only [Option.bind_eq_bind, Option.bind_eq_some_iff, Option.map_eq_some_iff, Option.pure_def, Option.some.injEq] at h
      obtain ⟨p, ⟨n, hn, rfl⟩, qs, hq, rfl⟩ := h
      rw [List.mapM_cons]
      rw [Sem.run_bind, Sem.run_bind, run_sizeOfB hn, Result.andThen_ok, Sem.run_pure, Result.andThen_ok, Sem.run_bind, ih qs hq, Result.andThen_ok, Sem.run_pure]
  rw [run_map, main _ _ h]
  rfl

theorem val_build {parts : Array (Nat × Operand)} {zs cs : List Value} {ps : List (Nat × Nat)} {qs : List (Nat × List Value)} (hz : zeroB P t = some zs) (hp : placesB P t = some ps)
    (hq : Parts env parts.toList qs) (hf : fillL (ps[·]?) zs qs = some cs) : Val P N env (.build t parts) w (.agg cs.toArray) := mk' fun ρ hρ o ho => by
  obtain ⟨z, h1, h2⟩ := run_zeroB hz w
  unfold placesB at hp
  split at hp
  · rename_i fs hu
    have hpl := run_places hp w
    have hmap := Parts.map hρ hq
    have hfill := fill_eq (ps[·]?) (parts.toList.map fun p => (p.1, ρ p.2)) qs zs cs (by rw [← hmap]) hf
    have hfill' : Instr.fill (fun x => ps.toArray[x]?) z.cells (parts.map fun x => (x.1, ρ x.2)).toList = some cs.toArray := by
      rw [h2]
      have : (parts.map fun x => (x.1, ρ x.2)).toList = parts.toList.map fun p => (p.1, ρ p.2) := by simp
      rw [this, ← hfill]
      congr 1
      funext x
      simp
    unfold execOp; rw [ho]
    simp only [Instr.build, Sem.run_bind, h1, Result.andThen_ok, run_underlying hu, hpl]
    rw [show (parts.map fun x => match x with | (i, x) => (i, ρ x)).toList = (parts.map fun x => (x.1, ρ x.2)).toList from rfl, hfill']
    rfl
  · cases hp
end

section
variable {α : Type} [Rep α] {P : Program} {N : Nat} {env : Env} {w : World} {M : Nat → Prop} {C : Nat → Nat} {t e : TypeId}

/-- The elements of a slice that is written out. -/
def Elems (env : Env) (w : World) (M : Nat → Prop) : Nat → List (Nat × Operand) → List α → Prop
  | _, [], [] => True
  | k, (i, x) :: ps, y :: ys => i = k ∧ (∃ v, ev env x = some v ∧ RV w M y v) ∧ Elems env w M (k + 1) ps ys
  | _, _, _ => False

theorem Elems.len : ∀ {k : Nat} {ps : List (Nat × Operand)} {ys : List α}, Elems env w M k ps ys → ps.length = ys.length
  | _, [], [], _ => rfl
  | _, [], _ :: _, h => h.elim
  | _, _ :: _, [], h => h.elim
  | k, (i, x) :: ps, y :: ys, h => by simp only [List.length_cons]; rw [Elems.len h.2.2]

/-- The cells of a value that reads. -/
theorem RV.cells {x : α} {v : Value} (h : RV w M x v) : ∃ vs, v.cells = vs.toArray ∧ Rep.rep w.heap M x vs := by
  cases hx : Rep.agg α with
  | true => obtain ⟨vs, rfl, _, _, hr⟩ := h.many hx; exact ⟨vs, rfl, hr⟩
  | false =>
    have h1 := (h.one hx).1
    obtain ⟨vs, hr, hv⟩ := h
    have hl := Rep.len hr
    rw [Rep.flat hx] at hl
    obtain ⟨u, rfl⟩ := List.length_eq_one_iff.1 hl
    simp only [hx, Bool.false_eq_true, if_false, List.headD_cons] at hv
    subst hv
    exact ⟨[v], h1, hr⟩

theorem elems_fill : ∀ {ps : List (Nat × Operand)} {ys : List α} {k : Nat} (pre post : List Value), Elems env w M k ps ys → pre.length = k * sz α → post.length = ys.length * sz α →
    ∃ qs news, Parts env ps qs ∧ fillL (fun i => some (i * sz α, sz α)) (pre ++ post) qs = some (pre ++ news) ∧ news.length = ys.length * sz α ∧
      ∀ i (hi : i < ys.length), Rep.rep w.heap M ys[i] ((news.drop (i * sz α)).take (sz α))
  | [], [], k, pre, post, _, _, hpost => by
    have : post = [] := List.eq_nil_of_length_eq_zero (by simpa using hpost)
    subst this
    exact ⟨[], [], trivial, by simp [fillL], by simp, fun i hi => by simp at hi⟩
  | [], _ :: _, _, _, _, h, _, _ => h.elim
  | _ :: _, [], _, _, _, h, _, _ => h.elim
  | (i, x) :: ps, y :: ys, k, pre, post, h, hpre, hpost => by
    obtain ⟨rfl, ⟨v, hv, hr⟩, hrest⟩ := h
    obtain ⟨vs, hc, hrep⟩ := hr.cells
    have hl := Rep.len hrep
    rw [List.length_cons, Nat.succ_mul] at hpost
    obtain ⟨qs, news, h1, h2, h3, h4⟩ := elems_fill (k := i + 1) (pre ++ vs) (post.drop (sz α)) hrest (by rw [List.length_append, hpre, hl, Nat.succ_mul]) (by rw [List.length_drop, hpost]; omega)
    refine ⟨(i, vs) :: qs, vs ++ news, ⟨rfl, ⟨v, hv, hc⟩, h1⟩, ?_, ?_, ?_⟩
    · simp only [fillL]
      rw [if_pos ⟨hl, by rw [List.length_append, hpre, hl, hpost]; omega⟩]
      rw [show List.take (i * sz α) (pre ++ post) = pre from by rw [← hpre]; exact List.take_left, show List.drop (i * sz α + vs.length) (pre ++ post) = post.drop (sz α) from by rw [← hpre, hl, List.drop_append]; simp]
      rw [h2, List.append_assoc]
    · rw [List.length_append, hl, h3, List.length_cons, Nat.succ_mul]; omega
    · intro j hj
      cases j with
      | zero => simpa [← hl] using hrep
      | succ j =>
        have := h4 j (by simpa using hj)
        rw [show (j + 1) * sz α = vs.length + j * sz α from by rw [hl, Nat.succ_mul]; omega, List.drop_append, List.drop_eq_nil_of_le (Nat.le_add_right vs.length (j * sz α))]
        simpa using this

theorem a_buildSlice {n bytes : Nat} {parts : Array (Nat × Operand)} {ys : List α} (hF : Lim w C) (hrow : rowB P t e (sz α) bytes = true) (hn : n = ys.length) (hsm : n * sz α ≤ 16777216) (hsz : 0 < sz α)
    (hp : Elems env w (Mc C) 0 parts.toList ys) :
    Acts P N env (.buildSlice t n parts) w (fun v w' => Stp [] w C w' C ∧ RV w' (Mc C) ys v ∧ Lim w' C) := acts' fun ρ hρ oo hoo => by
  subst hn
  obtain ⟨i, z, hu, hi, hsi, hby, hz, hzs⟩ := rowB_spec hrow
  let zs : List Value := ((Array.range (ys.length * sz α)).map fun j => (if ys.length * sz α = 0 then (#[] : Array Value) else z.cells)[j % (if ys.length * sz α = 0 then (#[] : Array Value) else z.cells).size]!).toList
  obtain ⟨qs, news, h1, h2, h3, h4⟩ := elems_fill (k := 0) [] zs hp (by simp) (by simp [zs])
  simp only [List.nil_append] at h2
  have hmap := Parts.map hρ h1
  have hfill := fill_eq _ (parts.toList.map fun p => (p.1, ρ p.2)) qs zs news (by rw [← hmap]) h2
  have hnew := new_alloc w (.cells news.toArray e)
  have hrun : (Instr.buildSlice t ys.length (parts.map fun x => (x.1, ρ x.2))).run P w = .ok (.slice (some ⟨w.heap.size, 0, none⟩) ys.length ys.length) (w.alloc (.cells news.toArray e)) := by
    have hle : ¬ (ys.length * sz α > 2 ^ 24) := by omega
    have hpl : (parts.map fun x => (x.1, ρ x.2)).toList = parts.toList.map fun p => (p.1, ρ p.2) := by simp
    have hsz' : (sizeOf e).run P w = .ok (sz α) w := by simp [sizeOf, typeInfo, hi, hsi]
    unfold Instr.buildSlice
    simp only [Sem.run_bind, run_underlying hu, Result.andThen_ok, hsz', if_neg hle, Sem.run_pure, hpl]
    by_cases h0 : ys.length * sz α = 0
    · have hzs0 : zs = ((Array.range (ys.length * sz α)).map fun j => (#[] : Array Value)[j % (#[] : Array Value).size]!).toList := by simp only [zs, h0, if_true]
      rw [hzs0] at hfill
      simp only [h0, if_true, Sem.run_bind, Sem.run_pure, Result.andThen_ok] at hfill ⊢
      simp only [Array.toArray_toList] at hfill
      rw [hfill]
      simp [newRow]
    · have hzs0 : zs = ((Array.range (ys.length * sz α)).map fun j => z.cells[j % z.cells.size]!).toList := by simp only [zs, h0, if_false]
      rw [hzs0] at hfill
      have hzv : (zeroValue e).run P w = .ok z w := by simp [zeroValue, typeInfo, hi, hz]
      simp only [h0, if_false, Sem.run_bind, hzv, Sem.run_pure, Result.andThen_ok]
      simp only [Array.toArray_toList] at hfill
      rw [hfill]
      simp [newRow]
  refine ⟨.slice (some ⟨w.heap.size, 0, none⟩) ys.length ys.length, w.alloc (.cells news.toArray e), .inl ?_, hnew.st C, ?_, hF.st (hnew.st C)⟩
  · unfold execOp; rw [hoo]
    simp only [Sem.run_bind]
    rw [show (parts.map fun x => match x with | (i, x) => (i, ρ x)) = (parts.map fun x => (x.1, ρ x.2)) from rfl, hrun]
    rfl
  · refine rv_list.2 ⟨_, _, rfl, Nat.le_refl _, ?_, .inr ⟨w.heap.size, 0, rfl, fun hm => ?_, news.toArray, e, (0, 0), hnew.at_, ?_, fun i hi => ?_⟩⟩
    · have : ys.length ≤ ys.length * sz α := Nat.le_mul_of_pos_right _ hsz
      omega
    · have := hF _ hm; omega
    · simp only [Nat.zero_add, List.size_toArray, h3]; exact Nat.le_refl _
    · have := h4 i hi
      rw [Nat.zero_add]
      exact Rep.keep this (fun b hb hm => hnew.ext.block b hb (fun h => h))
end

section
variable {P : Program} {N : Nat} {env : Env} {w : World} {C : Nat → Nat} {y z : Operand} {t ty : TypeId} {v : Value} {b j n : Nat}
/-- A whole box is written. -/
theorem a_storeAll {cs vs : List Value} (hx : ev env y = some (.pointer (some ⟨b, 0, none⟩))) (hy : ev env z = some v) (hs : szB P t = some n)
    (hv : v.cells = vs.toArray) (hl : vs.length = n) (h1 : ∀ u ∈ vs, u.oneCell' = true) (hb : OwnB w C j b (.cells cs.toArray ty)) (ho : cs.length = n) :
    Acts P N env (.store t y z) w (fun u w' => u = undef ∧ Stp [j] w C w' C ∧ OwnB w' C j b (.cells vs.toArray ty)) := fun a ha oo hoo => by
  obtain ⟨u, w', h2, h3, h4, h5⟩ := a_store (P := P) (N := N) (w := w) (o := 0) hx hy hs hv hl h1 hb (by omega) a ha oo hoo
  have e : List.take 0 cs ++ vs ++ List.drop (0 + n) cs = vs := by
    rw [List.drop_eq_nil_of_le (by omega)]; simp
  rw [e] at h5
  exact ⟨u, w', h2, h3, h4, h5⟩
end
/-- '1 << n' is '2 ^ n'. -/
theorem shl1 {n : Nat} (h : n ≤ 62) : IntKind.i64.wrap (1 * 2 ^ min (n : Int).toNat IntKind.i64.bits) = 2 ^ n := by
  have h1 : min (n : Int).toNat IntKind.i64.bits = n := by
    show min (n : Int).toNat 64 = n
    omega
  have h2 : (2 : Int) ^ n = ((2 ^ n : Nat) : Int) := by simp
  have h3 : 2 ^ n ≤ 2 ^ 62 := Nat.pow_le_pow_right (by decide) h
  rw [h1, Int.one_mul, h2]
  generalize 2 ^ n = q at h3 ⊢
  apply wrap_i64 <;> omega
theorem shl1N {n : Nat} (h : n ≤ 62) : IntKind.i64.wrap (1 * 2 ^ min (n : Int).toNat IntKind.i64.bits) = ((2 ^ n : Nat) : Int) := by rw [shl1 h]; simp
/-- 'm | n' on 64 bits. -/
theorem bits_or {m n : Nat} (hm : m < 2 ^ 63) (hn : n < 2 ^ 63) : bitsOf .or .i64 m n = ((m ||| n : Nat) : Int) := by
  have h : m ||| n < 2 ^ 63 := Nat.or_lt_two_pow hm hn
  show IntKind.i64.wrap (((BitVec.ofInt 64 m ||| BitVec.ofInt 64 n : BitVec 64)).toNat : Int) = _
  rw [BitVec.toNat_or, BitVec.ofInt_natCast, BitVec.ofInt_natCast, BitVec.toNat_ofNat, BitVec.toNat_ofNat, Nat.mod_eq_of_lt (by omega), Nat.mod_eq_of_lt (by omega)]
  apply wrap_i64 <;> omega
theorem bits_and {m n : Nat} (hm : m < 2 ^ 63) (hn : n < 2 ^ 63) : bitsOf .and .i64 m n = ((m &&& n : Nat) : Int) := by
  have h : m &&& n < 2 ^ 63 := Nat.lt_of_le_of_lt Nat.and_le_left hm
  show IntKind.i64.wrap (((BitVec.ofInt 64 m &&& BitVec.ofInt 64 n : BitVec 64)).toNat : Int) = _
  rw [BitVec.toNat_and, BitVec.ofInt_natCast, BitVec.ofInt_natCast, BitVec.toNat_ofNat, BitVec.toNat_ofNat, Nat.mod_eq_of_lt (by omega), Nat.mod_eq_of_lt (by omega)]
  apply wrap_i64 <;> omega
end Go.K

/- The program's types as Lean types. -/
set_option linter.unusedVariables false
set_option linter.unusedSimpArgs false
namespace Go.K
open Rep

/-- Cells as they are. -/
structure Raw (n : Nat) where
  vals : List Value
  len : vals.length = n
  one : ∀ v ∈ vals, v.oneCell' = true
instance {n : Nat} : Rep (Raw n) where
  sz := n
  agg := true
  flat h := by cases h
  rep _ _ x vs := vs = x.vals
  len h := by subst h; rename_i x; exact x.len
  one h := by subst h; rename_i x; exact x.one
  keep h _ := h
  sub h _ := h
theorem rv_raw {n : Nat} {w : World} {M : Nat → Prop} {x : Raw n} : RV w M x (.agg x.vals.toArray) := ⟨x.vals, rfl, rfl⟩

structure Block where
  hash : Int
  ids : List Int
instance : Rep Block := Rep.via (fun b : Block => ((⟨b.hash⟩ : U64), b.ids))
structure Couple where
  a : Int
  b : Int
  deriving DecidableEq
instance : Rep Couple := Rep.via (fun c : Couple => (c.a, c.b))

section
variable {w : World} {M : Nat → Prop} {b o : Nat} {v : Value}
theorem RA.hash {x : Block} (h : RA w M x b o) : RA w M (⟨x.hash⟩ : U64) b o := RA.fst (p := ((⟨x.hash⟩ : U64), x.ids)) h
theorem RA.ids {x : Block} (h : RA w M x b o) : RA w M x.ids b (o + 1) := RA.snd (p := ((⟨x.hash⟩ : U64), x.ids)) h
theorem rv_block {h : Int} {ids : List Int} (hv : RV w M ids v) : RV w M (⟨h, ids⟩ : Block) (.agg #[.int .u64 h, v]) :=
  ⟨[.int .u64 h, v], rv_pair (p := ((⟨h⟩ : U64), ids)) (us := [.int .u64 h]) (ws := [v]) rfl (hv.rep1 rfl), rfl⟩
theorem rv_block' {x : Block} (h : RV w M x v) : ∃ u, v = .agg #[.int .u64 x.hash, u] ∧ RV w M x.ids u := by
  obtain ⟨vs, ⟨us, ws, rfl, h1, h2⟩, hv⟩ := h
  have hl := Rep.len h2
  obtain ⟨u, rfl⟩ := List.length_eq_one_iff.1 hl
  have h1' : us = [.int .u64 x.hash] := h1
  subst h1'
  exact ⟨u, hv, rep1_rv h2 rfl⟩
theorem rv_couple {x : Couple} : RV w M x v ↔ v = .agg #[.int .i64 x.a, .int .i64 x.b] :=
  ⟨fun h => by
    obtain ⟨vs, ⟨us, ws, rfl, h1, h2⟩, hv⟩ := h
    have h1' : us = [.int .i64 x.a] := h1
    have h2' : ws = [.int .i64 x.b] := h2
    subst h1'; subst h2'; exact hv,
   fun h => ⟨[.int .i64 x.a, .int .i64 x.b], ⟨_, _, rfl, rfl, rfl⟩, h⟩⟩
end
end Go.K

/- The deck: plain. -/
set_option linter.unusedVariables false
set_option linter.unusedSimpArgs false
namespace Go.K
open Rep

/-- A deck of numbers: what is left is dealt, then it goes on by itself. -/
structure Dk where
  list : List Int
  at_ : Nat
  state : Int

/-- The number that goes into the next word. -/
def Dk.x (d : Dk) : Int := if h : d.at_ < d.list.length then IntKind.u64.wrap d.list[d.at_] else 0
def mix (s x : Int) : Int := IntKind.u64.wrap (IntKind.u64.wrap (IntKind.u64.wrap (s + x) * 6364136223846793005) + 1442695040888963407)
def stir1 (s : Int) : Int := bitsOf .xor .u64 s (s.fdiv (2 ^ min (33 : Int).toNat IntKind.u64.bits))
def stir2 (y : Int) : Int := bitsOf .xor .u64 y (y.fdiv (2 ^ min (29 : Int).toNat IntKind.u64.bits))
/-- The deck behind a word. -/
def Dk.next (d : Dk) : Dk := { list := d.list, at_ := if d.at_ < d.list.length then d.at_ + 1 else d.at_, state := mix d.state d.x }
def Dk.word (d : Dk) : Int := stir2 (IntKind.u64.wrap (stir1 d.next.state * 18397679294719823053))

theorem wrap_u64_range (n : Int) : 0 ≤ IntKind.u64.wrap n ∧ IntKind.u64.wrap n < 18446744073709551616 := by
  have h : IntKind.u64.wrap n = n % 18446744073709551616 := by simp [IntKind.wrap, IntKind.signed, IntKind.bits]
  rw [h]; exact ⟨Int.emod_nonneg _ (by decide), Int.emod_lt_of_pos _ (by decide)⟩
theorem Dk.word_range (d : Dk) : 0 ≤ d.word ∧ d.word < 18446744073709551616 := wrap_u64_range _

/-- What 'Next(n)' deals: from 0 to n - 1. -/
def Dk.num (d : Dk) (n : Int) : Int := if n < 1 then 0 else (d.word / 2) % n
def Dk.after (d : Dk) (n : Int) : Dk := if n < 1 then d else d.next
theorem Dk.num_range (d : Dk) {n : Int} (h : 1 ≤ n) : 0 ≤ d.num n ∧ d.num n < n := by
  unfold Dk.num; rw [if_neg (by omega)]
  exact ⟨Int.emod_nonneg _ (by omega), Int.emod_lt_of_pos _ (by omega)⟩

theorem Dk.after_list (d : Dk) (n : Int) : (d.after n).list = d.list := by unfold Dk.after; split <;> rfl
/-- A deck lies at block `b`, which bears the colour `i`; `t` is its type. -/
def DeckAt (t : TypeId) (w : World) (C : Nat → Nat) (i b : Nat) (d : Dk) : Prop :=
  d.at_ ≤ d.list.length ∧ ∃ v, RV w (Mc C) d.list v ∧ OwnB w C i b (.cells [v, .int .i64 d.at_, .int .u64 d.state].toArray t)

section
variable {t : TypeId} {w w' : World} {C C' : Nat → Nat} {i b : Nat} {d : Dk} {I : List Nat}
theorem DeckAt.st (h : DeckAt t w C i b d) (hs : Stp I w C w' C') (h0 : 0 ∉ I) (hi : i ∉ I) : DeckAt t w' C' i b d := by
  obtain ⟨h1, v, h2, h3⟩ := h
  exact ⟨h1, v, h2.st hs h0, h3.st hs hi⟩
theorem DeckAt.col2 (h : DeckAt t w C i b d) (hi : i ≠ 0) : DeckAt t w (col2 C i) 2 b d := by
  obtain ⟨h1, v, h2, h3⟩ := h
  exact ⟨h1, v, by rw [Mc_col2]; exact h2, h3.col2 hi⟩
theorem DeckAt.frz (h : DeckAt t w C i b d) {n : Nat} (hi : i < n) : DeckAt t w (K.frz n C) i b d := by
  obtain ⟨h1, v, h2, h3⟩ := h
  exact ⟨h1, v, h2.frz n, h3.frz hi⟩
/-- Back into the caller's colours. -/
theorem DeckAt.out {w₀ : World} {C₀ : Nat → Nat} (h : DeckAt t w' C' 2 b d) (hs : Stp I w₀ (K.col2 C₀ i) w' C') (hF : Lim w₀ C₀) (hb : C₀ b = i) : DeckAt t w' C₀ i b d := by
  obtain ⟨h1, v, h2, h3⟩ := h
  exact ⟨h1, v, h2.out hs hF (Mc_col2 C₀ i), ⟨hb, h3.at_⟩⟩
end
end Go.K

/- Own lists that are made with their length, and read and written in place. -/
set_option linter.unusedVariables false
set_option linter.unusedSimpArgs false
namespace Go.K
open Rep

section
variable {α : Type} [Rep α] {w w' : World} {C C' : Nat → Nat} {P : Program} {N : Nat} {env : Env} {x y z q : Operand} {t ty e : TypeId} {v u : Value} {xs : List α} {j b g n : Nat}

theorem cellsAt_made {zs : List Value} {s : Nat} (hz : zs.length = s) {c i : Nat} (h : i < c) : cellsAt (madeCells zs.toArray (c * s)) (i * s) s = zs := by
  apply List.ext_getElem?
  intro k
  have hb : (i + 1) * s ≤ c * s := Nat.mul_le_mul_right s h
  rw [Nat.succ_mul] at hb
  simp only [cellsAt, List.getElem?_take, List.getElem?_drop]
  split
  · rename_i hk
    have h1 : i * s + k < c * s := by omega
    have h2 : (i * s + k) % s = k := by rw [Nat.mul_comm, Nat.mul_add_mod]; exact Nat.mod_eq_of_lt hk
    simp [madeCells, h1, hz, h2, List.getElem?_eq_getElem (show k < zs.length by omega)]
  · rename_i hk
    rw [List.getElem?_eq_none (by omega)]

/-- 'make([]T, l, c)'. -/
theorem a_make {bytes l c : Nat} {kl kc : IntKind} {x0 : α} {zs : List Value} (hF : Lim w C) (hj : j ≠ 0) (hrow : rowB P t e (sz α) bytes = true) (hzz : zeroB P e = some zs)
    (hy : ev env y = some (.int kl l)) (hz : ev env z = some (.int kc c)) (hlc : l ≤ c) (hlen : bytes * c ≤ 140737488355328) (h63 : c ≤ 140737488355328) (h0 : ∀ h M, rep h M x0 zs) :
    Acts P N env (.makeSlice t y z) w (fun v w' => ∃ C', Stp [] w C w' C' ∧ OwnL w' C' j e v (List.replicate l x0) ∧ Lim w' C') := acts' fun ρ hρ oo hoo => by
  obtain ⟨i, zv, hu, hi, hsi, hby, hzi, hzs⟩ := rowB_spec hrow
  have hzc : zv.cells = zs.toArray := by
    unfold zeroB at hzz; rw [hi] at hzz; simp [hzi] at hzz; rw [← hzz]
  have hzl : zs.length = sz α := by rw [← hzs, hzc]; simp
  have hbc : (i.bytes : Int) * c ≤ 281474976710656 := by
    have : ((bytes * c : Nat) : Int) ≤ 140737488355328 := by omega
    rw [Int.natCast_mul] at this; rw [hby]; omega
  have hr := run_make (P := P) w t e i zv hu hi hzi kl kc l c (by omega) (by omega) hbc (by omega)
  simp only [Int.toNat_natCast, hsi, hzc] at hr
  have hn := new_alloc w (.cells (madeCells zs.toArray (c * sz α)) e (0, 0))
  obtain ⟨C', h1, h2, h3⟩ := hn.own hF j
  refine ⟨_, _, .inl ?_, C', h1, ⟨.inr ⟨w.heap.size, c, madeCells zs.toArray (c * sz α), by rw [List.length_replicate], ?_, h2.at_, by rw [List.length_replicate]; exact hlc, by simp [madeCells], fun k hk => ?_⟩, fun b hb => ?_⟩, h3⟩
  · unfold execOp; rw [hoo]
    simp only [hρ _ _ hy, hρ _ _ hz, Sem.run_bind]
    rw [hr]; rfl
  · unfold Mc; rw [h2.col]; exact hj
  · rw [List.length_replicate] at hk
    rw [cellsAt_made hzl (show k < c by omega), List.getElem_replicate]; exact h0 _ _
  · simp only [Ob, Value.ownBlock, Option.some.injEq] at hb
    subst hb; exact h2.col

theorem OwnL.at_own (h : OwnL w C j e v xs) (hne : 0 < xs.length) : ∃ g cap cs, v = .slice (some ⟨g, 0, none⟩) xs.length cap ∧ C g = j ∧ Mc C g ∧ w.heap[g]? = some (.cells cs e (0, 0)) ∧ xs.length ≤ cap ∧ cs.size = cap * sz α ∧
    ∀ i (hi : i < xs.length), rep w.heap (Mc C) xs[i] (cellsAt cs (i * sz α) (sz α)) := by
  rcases h.own with ⟨_, rfl⟩ | ⟨g, cap, cs, hv, hg, hc, h1, h2, h3⟩
  · simp at hne
  · exact ⟨g, cap, cs, hv, h.col g (by subst hv; rfl), hg, hc, h1, h2, h3⟩

/-- The address of an element. -/
theorem OwnL.index (h : OwnL w C j e v xs) (hy : ev env y = some v) {e' : Nat} {kd : IntKind} {i : Int} (hf : elemB P t = some (e', sz α)) (hz : ev env z = some (.int kd i)) (h0 : 0 ≤ i) (h1 : i < xs.length) :
    ∃ g, Ob v g ∧ ∀ w', Val P N env (.indexAddr t y z) w' (.pointer (some ⟨g, i.toNat * sz α, none⟩)) := by
  obtain ⟨g, cap, cs, rfl, _, _, hc, _⟩ := h.at_own (by omega)
  refine ⟨g, rfl, fun w' => ?_⟩
  have := val_indexAddr (P := P) (N := N) (w := w') hf hy hz h0 h1
  rwa [Nat.zero_add] at this

/-- An element is read. -/
theorem OwnL.load (h : OwnL w C j e v xs) (hg : Ob v g) {i : Nat} (hi : i < xs.length) (ha : aggB P t = some false) (hx : Rep.agg α = false) (hy : ev env y = some (.pointer (some ⟨g, i * sz α, none⟩))) :
    ∃ u, RV w (Mc C) xs[i] u ∧ ∀ w', w'.heap[g]? = w.heap[g]? → Val P N env (.load t y) w' u := by
  obtain ⟨g', cap, cs, rfl, _, _, hc, h1, h2, h3⟩ := h.at_own (by omega)
  simp only [Ob, Value.ownBlock, Option.some.injEq] at hg
  subst hg
  have hr := h3 i hi
  have hl := Rep.len hr
  rw [Rep.flat hx] at hr hl
  obtain ⟨u, hu⟩ := List.length_eq_one_iff.1 hl
  rw [hu] at hr
  refine ⟨u, rep1_rv hr hx, fun w' hw => ?_⟩
  have hcu : cs[i * 1]? = some u := by
    have := congrArg (fun l => l[0]?) hu
    simpa [cellsAt] using this
  refine val_loadOwn (cs := cs.toList) (by rw [hw]; simpa using hc) ha ?_ hy
  rw [Rep.flat hx]; simpa using hcu
theorem OwnL.loadAgg (h : OwnL w C j e v xs) (hg : Ob v g) {i : Nat} (hi : i < xs.length) (ha : aggB P t = some true) (hs : szB P t = some (sz α)) (hx : Rep.agg α = true) (hy : ev env y = some (.pointer (some ⟨g, i * sz α, none⟩))) :
    ∃ u, RV w (Mc C) xs[i] u ∧ ∀ w', w'.heap[g]? = w.heap[g]? → Val P N env (.load t y) w' u := by
  obtain ⟨g', cap, cs, rfl, _, _, hc, h1, h2, h3⟩ := h.at_own (by omega)
  simp only [Ob, Value.ownBlock, Option.some.injEq] at hg
  subst hg
  have hr := h3 i hi
  refine ⟨.agg (cellsAt cs (i * sz α) (sz α)).toArray, ⟨_, hr, by simp [hx]⟩, fun w' hw => ?_⟩
  exact val_loadOwnAgg (cs := cs.toList) (by rw [hw]; simpa using hc) ha hs rfl (Rep.len hr) hy

/-- An element is written. -/
theorem a_storeO {x0 : α} {i : Nat} (h : OwnL w C j e v xs) (hg : Ob v g) (hi : i < xs.length) (hy : ev env y = some (.pointer (some ⟨g, i * sz α, none⟩))) (hz : ev env z = some u) (hs : szB P t = some (sz α)) (hr : RV w (Mc C) x0 u) :
    Acts P N env (.store t y z) w (fun u' w' => u' = undef ∧ Stp [j] w C w' C ∧ OwnL w' C j e v (xs.set i x0)) := fun a ha oo hoo => by
  obtain ⟨g', cap, cs, rfl, hcol, hM, hc, h1, h2, h3⟩ := h.at_own (by omega)
  simp only [Ob, Value.ownBlock, Option.some.injEq] at hg
  subst hg
  obtain ⟨vs, hv, hrep⟩ := hr.cells
  have hb : (i + 1) * sz α ≤ cap * sz α := Nat.mul_le_mul_right _ (by omega)
  rw [Nat.succ_mul] at hb
  have hvl := Rep.len hrep
  obtain ⟨u', w', k1, k2, k3⟩ := acts_store (P := P) (N := N) (cs := cs.toList) (n := sz α) (vs := vs) hy hz hs hv hvl (Rep.one hrep) (by simpa using hc) (by simp only [Array.length_toList]; omega) a ha oo hoo
  have hst : Stp [j] w C w' C := ⟨k3.ext.mono (fun b _ hb => by rw [show b = g' from hb, hcol]; simp), fun _ _ => rfl⟩
  have keep : ∀ {x : α} {vs : List Value}, rep w.heap (Mc C) x vs → rep w'.heap (Mc C) x vs := fun hr => Rep.keep hr (fun b hb hn => k3.ext.block b hb (fun e => hn (by rw [show b = g' from e]; exact hM)))
  refine ⟨u', w', k1, k2, hst, ⟨.inr ⟨g', cap, _, by rw [List.length_set], hM, k3.at_, by rw [List.length_set]; exact h1, ?_, fun k hk => ?_⟩, h.col⟩⟩
  · simp only [List.size_toArray, List.length_append, List.length_take, List.length_drop, Array.length_toList, hvl]; omega
  · rw [List.length_set] at hk
    rw [List.getElem_set]
    split
    · rename_i hik
      subst hik
      have : cellsAt (cs.toList.take (i * sz α) ++ vs ++ cs.toList.drop (i * sz α + sz α)).toArray (i * sz α) (sz α) = vs := by
        unfold cellsAt
        simp only [List.append_assoc]
        rw [List.drop_append_of_le_length (by simp only [List.length_take, Array.length_toList]; omega), List.drop_eq_nil_of_le (by simp only [List.length_take]; omega), List.nil_append, ← hvl, List.take_left]
      rw [this]; exact keep hrep
    · rename_i hik
      have : cellsAt (cs.toList.take (i * sz α) ++ vs ++ cs.toList.drop (i * sz α + sz α)).toArray (k * sz α) (sz α) = cellsAt cs (k * sz α) (sz α) := cellsAt_ext (fun m hm => by
        rw [show ∀ (l : List Value) (p : Nat), l.toArray[p]? = l[p]? from fun l p => by simp, ← Array.getElem?_toList]
        rcases Nat.lt_or_ge k i with hlt | hge
        · have := Nat.mul_le_mul_right (sz α) (show k + 1 ≤ i from hlt)
          rw [Nat.succ_mul] at this
          rw [List.append_assoc, List.getElem?_append_left (by simp only [List.length_take, Array.length_toList]; omega), List.getElem?_take, if_pos (by omega)]
        · have := Nat.mul_le_mul_right (sz α) (show i + 1 ≤ k by omega)
          rw [Nat.succ_mul] at this
          rw [List.getElem?_append_right (by simp only [List.length_append, List.length_take, Array.length_toList, hvl]; omega), List.getElem?_drop]
          congr 1
          simp only [List.length_append, List.length_take, Array.length_toList, hvl]; omega)
      rw [this]; exact keep (h3 k hk)
end

section
variable {α : Type} [Rep α] {w : World} {C : Nat → Nat} {P : Program} {f : FuncId} {N : Nat} {k : List Item} {R : Value → World → Prop} {env : Env} {ops : Array Oper} {S : World → Prop} {i t : Nat} {L : List (Nat × Bool)} {v : Value} {y z : Operand} {gd : Option (Nat × Bool)} {ty e e' : TypeId} {xs : List α} {j g : Nat} {kd : IntKind} {n : Int}
theorem oI (hop : opAt ops i = some (some t, .indexAddr ty y z, gd)) (hw : wantedE ops env gd = some true) (ht : Nat.blt t N = true) (hl : OwnL w C j e v xs) (hy : ev env y = some v)
    (hf : elemB P ty = some (e', sz α)) (hz : ev env z = some (.int kd n)) (h0 : 0 ≤ n) (h1 : n < xs.length)
    (h : ∀ g, Ob v g → Sch P f N k R ops S L ((t, .pointer (some ⟨g, n.toNat * sz α, none⟩)) :: env) w) : Sch P f N k R ops S ((i, true) :: L) env w := by
  obtain ⟨g, h2, h3⟩ := hl.index (P := P) (N := N) hy hf hz h0 h1
  exact yS hop hw ht (fun w' _ => h3 w') (h g h2)
theorem oN {i' : Nat} (hop : opAt ops i = some (some t, .load ty y, gd)) (hw : wantedE ops env gd = some true) (ht : Nat.blt t N = true) (hS : S w) (hl : OwnL w C j e v xs) (hg : Ob v g) (hi : i' < xs.length) (ha : aggB P ty = some false) (hx : Rep.agg α = false)
    (hy : ev env y = some (.pointer (some ⟨g, i' * sz α, none⟩))) (h : ∀ v, RV w (Mc C) xs[i'] v → Sch P f N k R ops S L ((t, v) :: env) w) : Sch P f N k R ops S ((i, false) :: L) env w := by
  obtain ⟨v, h2, h3⟩ := hl.load (P := P) (N := N) hg hi ha hx hy
  exact nS hop hw ht hS (h3 w rfl) (h v h2)
theorem OwnL.stay {w' : World} {I : List Nat} (h : OwnL w C j e v xs) (hg : Ob v g) (hS : Ext (fun b => C b ∈ I) w w') (hj : j ∉ I) : w'.heap[g]? = w.heap[g]? :=
  hS.block g (h.own.ob g hg).2 (by rw [h.col g hg]; exact hj)
end
theorem zero_int {h : Array Obj} {M : Nat → Prop} : rep h M (0 : Int) [.int .i64 0] := rfl
end Go.K

/- Maps. -/
set_option linter.unusedVariables false
set_option linter.unusedSimpArgs false
set_option linter.unusedSectionVars false
namespace Go.K
open Rep

/-- '==' at a type decides equality of the data. -/
def EqOK (P : Program) (t : TypeId) {κ : Type} [DecidableEq κ] (kv : κ → Value) : Prop :=
  ∀ d a b w, (Op.equalIn (d + 8) t (kv a) (kv b)).run P w = .ok (decide (a = b)) w

structure KeyOK (P : Program) (t : TypeId) {κ : Type} [DecidableEq κ] (kv : κ → Value) : Prop where
  check : ∀ e k w, (Instr.checkKey e 10000 t (kv k)).run P w = .ok () w
  find : ∀ k (es : List MapEntry) (ks : List κ) w, es.map (·.key) = ks.map kv →
    (Instr.findKey t (kv k) es).run P w = .ok ((ks.findIdx? (fun x => decide (x = k))).bind fun i => (es[i]?).map fun e => (i, e.val)) w
  bits : ∀ k, Instr.sameBits 10000 (kv k) (kv k) = true
  inj : ∀ a b, kv a = kv b → a = b

theorem find_now {kind : TypeDesc} {κ : Type} [DecidableEq κ] {kv : κ → Value} (hs : ∀ a b, Instr.sameNow kind (kv a) (kv b) = some (decide (a = b))) (k : κ) :
    ∀ (es : List MapEntry) (ks : List κ) (n : Nat), es.map (·.key) = ks.map kv →
      Instr.findNow kind (kv k) es n = some ((ks.findIdx? (fun x => decide (x = k))).bind fun i => (es[i]?).map fun e => (n + i, e.val))
  | [], [], n, _ => by simp [Instr.findNow]
  | [], _ :: _, n, h => by simp at h
  | _ :: _, [], n, h => by simp at h
  | e :: es, x :: ks, n, h => by
    simp only [List.map_cons, List.cons.injEq] at h
    obtain ⟨h1, h2⟩ := h
    unfold Instr.findNow
    rw [h1, hs]
    by_cases hx : k = x
    · subst hx; simp [List.findIdx?_cons]
    · simp only [hx, decide_false]
      rw [find_now hs k es ks (n + 1) h2, List.findIdx?_cons]
      have : ¬ x = k := fun e => hx e.symm
      simp only [this, decide_false, Bool.false_eq_true, if_false]
      cases ks.findIdx? (fun x => decide (x = k)) with
      | none => rfl
      | some i => simp [Nat.add_assoc, Nat.add_comm 1]

theorem keyOK_int {P : Program} {t : TypeId} {k : IntKind} (h : P.underlying t = some (.int k)) : KeyOK P t (fun n : Int => .int k n) where
  check e n w := by unfold Instr.checkKey; simp [run_underlying h]
  find n es ks w hk := by
    unfold Instr.findKey
    rw [Sem.run_bind, run_underlying h]
    simp only [Result.andThen_ok]
    rw [find_now (kv := fun n : Int => .int k n) (fun a b => by simp [Instr.sameNow]; rfl) n es ks 0 hk]
    simp
  bits n := by simp [Instr.sameBits]
  inj a b hab := by simpa using hab

theorem find_asking {P : Program} {t : TypeId} {κ : Type} [DecidableEq κ] {kv : κ → Value} (heq : EqOK P t kv) (k : κ) (w : World) :
    ∀ (es : List MapEntry) (ks : List κ) (n : Nat), es.map (·.key) = ks.map kv →
      (Instr.findAsking t (kv k) es n).run P w = .ok ((ks.findIdx? (fun x => decide (x = k))).bind fun i => (es[i]?).map fun e => (n + i, e.val)) w
  | [], [], n, _ => by simp [Instr.findAsking]
  | [], _ :: _, n, h => by simp at h
  | _ :: _, [], n, h => by simp at h
  | e :: es, x :: ks, n, h => by
    simp only [List.map_cons, List.cons.injEq] at h
    obtain ⟨h1, h2⟩ := h
    unfold Instr.findAsking Op.equal
    rw [h1, Sem.run_bind, show Op.maxDepth = 9992 + 8 from rfl, heq]
    simp only [Result.andThen_ok]
    by_cases hx : k = x
    · subst hx; simp [List.findIdx?_cons]
    · simp only [hx, decide_false, Bool.false_eq_true, if_false]
      rw [find_asking heq k w es ks (n + 1) h2, List.findIdx?_cons]
      have : ¬ x = k := fun e => hx e.symm
      simp only [this, decide_false, Bool.false_eq_true, if_false]
      cases ks.findIdx? (fun x => decide (x = k)) with
      | none => rfl
      | some i => simp [Nat.add_assoc, Nat.add_comm 1]

theorem keyOK_struct {P : Program} {t : TypeId} {fs : Array Field} {κ : Type} [DecidableEq κ] {kv : κ → Value} (h : P.underlying t = some (.struct fs)) (heq : EqOK P t kv)
    (hc : ∀ e k w, (Instr.checkKey e 10000 t (kv k)).run P w = .ok () w) (hb : ∀ k, Instr.sameBits 10000 (kv k) (kv k) = true) (hi : ∀ a b, kv a = kv b → a = b) : KeyOK P t kv where
  check := hc
  find k es ks w hk := by
    rw [run_findKey_eq w (by rw [h]) (kv k) es]
    simpa using find_asking heq k w es ks 0 hk
  bits := hb
  inj := hi

/-! ### Plain maps: lists of entries in the order of their making -/
section
variable {κ β : Type} [DecidableEq κ]
def mget : List (κ × β) → κ → Option β
  | [], _ => none
  | (x, v) :: m, k => if x = k then some v else mget m k
def mput : List (κ × β) → κ → β → List (κ × β)
  | [], k, v => [(k, v)]
  | (x, u) :: m, k, v => if x = k then (k, v) :: m else (x, u) :: mput m k v
def keys (m : List (κ × β)) : List κ := m.map (·.1)
theorem mget_mput (m : List (κ × β)) (k : κ) (v : β) (j : κ) : mget (mput m k v) j = if k = j then some v else mget m j := by
  induction m with
  | nil => simp [mput, mget]
  | cons p m ih =>
    obtain ⟨x, u⟩ := p
    unfold mput
    split
    · rename_i h; subst h
      simp only [mget]; split <;> rfl
    · rename_i h
      simp only [mget, ih]
      by_cases h1 : x = j
      · subst h1; rw [if_pos rfl, if_neg (fun e => h e.symm), if_pos rfl]
      · rw [if_neg h1, if_neg h1]
theorem mem_keys_mput (m : List (κ × β)) (k : κ) (v : β) (j : κ) : j ∈ keys (mput m k v) ↔ j = k ∨ j ∈ keys m := by
  induction m with
  | nil => simp [mput, keys]
  | cons p m ih =>
    obtain ⟨x, u⟩ := p
    unfold mput
    split
    · rename_i h; subst h; simp [keys]
    · simp only [keys, List.map_cons, List.mem_cons] at ih ⊢
      rw [ih]
      constructor
      · rintro (h | h | h)
        · exact .inr (.inl h)
        · exact .inl h
        · exact .inr (.inr h)
      · rintro (h | h | h)
        · exact .inr (.inl h)
        · exact .inl h
        · exact .inr (.inr h)
theorem nodup_mput {m : List (κ × β)} (h : (keys m).Nodup) (k : κ) (v : β) : (keys (mput m k v)).Nodup := by
  induction m with
  | nil => simp [mput, keys]
  | cons p m ih =>
    obtain ⟨x, u⟩ := p
    unfold mput
    simp only [keys, List.map_cons, List.nodup_cons] at h
    split
    · rename_i hx; subst hx; simpa [keys] using h
    · rename_i hx
      simp only [keys, List.map_cons, List.nodup_cons]
      refine ⟨fun hm => ?_, ih h.2⟩
      rcases (mem_keys_mput m k v x).1 hm with e | e
      · exact hx e
      · exact h.1 e
theorem mget_isSome (m : List (κ × β)) (k : κ) : (mget m k).isSome = true ↔ k ∈ keys m := by
  induction m with
  | nil => simp [mget, keys]
  | cons p m ih =>
    obtain ⟨x, u⟩ := p
    simp only [mget, keys, List.map_cons, List.mem_cons]
    split
    · rename_i h; subst h; simp
    · rename_i h; rw [ih]; simp [keys]; intro e; exact absurd e.symm h
theorem findIdx_mget (m : List (κ × β)) (k : κ) : ((keys m).findIdx? (fun x => decide (x = k))).bind (fun i => (m[i]?).map (·.2)) = mget m k := by
  induction m with
  | nil => simp [mget, keys]
  | cons p m ih =>
    obtain ⟨x, u⟩ := p
    simp only [mget, keys, List.map_cons, List.findIdx?_cons] at ih ⊢
    split
    · rename_i h; rw [if_pos (by simpa using h)]; simp
    · rename_i h
      rw [if_neg (by simpa using h), ← ih]
      cases (m.map (·.1)).findIdx? (fun x => decide (x = k)) <;> simp
theorem mput_none {m : List (κ × β)} {k : κ} (h : (keys m).findIdx? (fun x => decide (x = k)) = none) (v : β) : mput m k v = m ++ [(k, v)] := by
  induction m with
  | nil => rfl
  | cons p m ih =>
    obtain ⟨x, u⟩ := p
    simp only [keys, List.map_cons, List.findIdx?_cons] at h
    split at h
    · cases h
    · rename_i hx
      simp only [Option.map_eq_none_iff] at h
      unfold mput
      rw [if_neg (by simpa using hx), ih h]; rfl
theorem findIdx_at {m : List (κ × β)} {k : κ} {i : Nat} (h : (keys m).findIdx? (fun x => decide (x = k)) = some i) : ∃ u, m[i]? = some (k, u) := by
  obtain ⟨hlt, h1, _⟩ := List.findIdx?_eq_some_iff_getElem.1 h
  simp only [keys, List.getElem_map, decide_eq_true_eq] at h1
  simp only [keys, List.length_map] at hlt
  exact ⟨m[i].2, by rw [List.getElem?_eq_getElem hlt, ← h1]⟩
theorem mput_some {m : List (κ × β)} {k : κ} {i : Nat} (h : (keys m).findIdx? (fun x => decide (x = k)) = some i) (v : β) : mput m k v = m.set i (k, v) ∧ ∃ u, m[i]? = some (k, u) := by
  induction m generalizing i with
  | nil => simp [keys] at h
  | cons p m ih =>
    obtain ⟨x, u⟩ := p
    simp only [keys, List.map_cons, List.findIdx?_cons] at h
    unfold mput
    split at h
    · rename_i hx
      simp only [Option.some.injEq] at h
      subst h
      have hx' : x = k := by simpa using hx
      subst hx'
      rw [if_pos rfl]
      exact ⟨rfl, u, rfl⟩
    · rename_i hx
      simp only [Option.map_eq_some_iff] at h
      obtain ⟨j, hj, rfl⟩ := h
      obtain ⟨h1, u', h2⟩ := ih hj
      rw [if_neg (by simpa using hx), h1]
      exact ⟨rfl, u', by simpa using h2⟩
end

/-! ### Maps in memory -/
section
variable {κ β : Type} [DecidableEq κ] {kv : κ → Value} {vv : β → Value} {m : List (κ × β)}

/-- The block's entries are `m`. -/
structure MapIs (kv : κ → Value) (vv : β → Value) (m : List (κ × β)) (es : Array MapEntry) (clock : Nat) : Prop where
  key : es.toList.map (·.key) = (keys m).map kv
  val : es.toList.map (·.val) = m.map (fun p => vv p.2)
  nodup : (keys m).Nodup
  born : ∀ e ∈ es.toList, e.born < clock
  rise : es.toList.Pairwise (fun a b => a.born < b.born)

/-- A map of one's own, at block `b`. -/
def OwnM (w : World) (C : Nat → Nat) (j b : Nat) (kv : κ → Value) (vv : β → Value) (m : List (κ × β)) : Prop :=
  C b = j ∧ ∃ es clock, w.heap[b]? = some (.map es clock) ∧ MapIs kv vv m es clock
/-- A map that is only read. -/
def RM (w : World) (M : Nat → Prop) (kv : κ → Value) (vv : β → Value) (m : List (κ × β)) (v : Value) : Prop :=
  ∃ b, v = .map (some b) ∧ ¬ M b ∧ ∃ es clock, w.heap[b]? = some (.map es clock) ∧ MapIs kv vv m es clock

variable {w w' : World} {I : List Nat} {C C' : Nat → Nat} {j b n : Nat} {v : Value}
theorem OwnM.st (h : OwnM w C j b kv vv m) (hs : Stp I w C w' C') (hj : j ∉ I) : OwnM w' C' j b kv vv m := by
  obtain ⟨hc, es, clock, hb, hm⟩ := h
  exact ⟨(hs.col b (lt_of_at hb)).trans hc, es, clock, hs.ext.at' hb (by rw [hc]; exact hj), hm⟩
theorem RM.st (h : RM w (Mc C) kv vv m v) (hs : Stp I w C w' C') (h0 : 0 ∉ I) : RM w' (Mc C') kv vv m v := by
  obtain ⟨b, e, hn, es, clock, hb, hm⟩ := h
  have hc : C b = 0 := by by_cases hz : C b = 0; exact hz; exact absurd hz hn
  refine ⟨b, e, ?_, es, clock, hs.ext.at' hb (by rw [hc]; exact h0), hm⟩
  unfold Mc; rw [hs.col b (lt_of_at hb)]; exact hn
theorem RM.frz (h : RM w (Mc C) kv vv m v) (n : Nat) : RM w (Mc (K.frz n C)) kv vv m v := by
  obtain ⟨b, e, hn, r⟩ := h
  exact ⟨b, e, fun hm => hn (Mc_frz hm).1, r⟩
theorem OwnM.frz (h : OwnM w C j b kv vv m) (hj : n ≤ j) : RM w (Mc (K.frz n C)) kv vv m (.map (some b)) := by
  obtain ⟨hc, r⟩ := h
  exact ⟨b, rfl, fun hm => by have := (Mc_frz hm).2; omega, r⟩
/-- A map of the function's own, handed out to be read. -/
theorem OwnM.out {w₀ : World} {C₀ D : Nat → Nat} (h : OwnM w' C' j b kv vv m) (hs : Stp I w₀ D w' C') (hF : Lim w₀ C₀) (hD : Mc D = Mc C₀) (hj : ∀ b, b < w₀.heap.size → D b ≠ j) : RM w' (Mc C₀) kv vv m (.map (some b)) := by
  obtain ⟨hc, r⟩ := h
  refine ⟨b, rfl, fun hm => ?_, r⟩
  obtain ⟨h1, h2, h3⟩ := hs.fin_sub hF hD b hm
  exact hj b h1 (by rw [← h2]; exact hc)
theorem RM.out {w₀ : World} {C₀ D : Nat → Nat} (h : RM w' (Mc C') kv vv m v) (hs : Stp I w₀ D w' C') (hF : Lim w₀ C₀) (hD : Mc D = Mc C₀) : RM w' (Mc C₀) kv vv m v := by
  obtain ⟨b, e, hn, r⟩ := h
  refine ⟨b, e, fun hm => hn ?_, r⟩
  obtain ⟨h1, h2, h3⟩ := hs.fin_sub hF hD b hm
  unfold Mc; rw [h2]; exact h3

variable {P : Program} {N : Nat} {env : Env} {x y z q : Operand} {t kt et : TypeId}

theorem find_get {es : Array MapEntry} {clock : Nat} (hm : MapIs kv vv m es clock) (k : κ) :
    ((keys m).findIdx? (fun x => decide (x = k))).bind (fun i => (es.toList[i]?).map fun e => (i, e.val)) =
      ((keys m).findIdx? (fun x => decide (x = k))).bind (fun i => (m[i]?).map fun p => (i, vv p.2)) := by
  cases (keys m).findIdx? (fun x => decide (x = k)) with
  | none => rfl
  | some i =>
    simp only [Option.bind_some]
    have h1 : (es.toList.map (·.val))[i]? = (m.map (fun p => vv p.2))[i]? := by rw [hm.val]
    simp only [List.getElem?_map] at h1
    cases h2 : es.toList[i]? with
    | none => rw [h2] at h1; cases h3 : m[i]? with
      | none => rfl
      | some p => rw [h3] at h1; cases h1
    | some e => rw [h2] at h1; cases h3 : m[i]? with
      | none => rw [h3] at h1; cases h1
      | some p => rw [h3] at h1; simp only [Option.map_some, Option.some.injEq] at h1 ⊢; rw [h1]

end

section
variable {κ β : Type} [DecidableEq κ] {kv : κ → Value} {vv : β → Value} {m : List (κ × β)} {es : Array MapEntry} {clock : Nat}

theorem MapIs.push (h : MapIs kv vv m es clock) {k : κ} (hk : (keys m).findIdx? (fun x => decide (x = k)) = none) (x : β) :
    MapIs kv vv (mput m k x) (es.push { key := kv k, val := vv x, born := clock }) (clock + 1) where
  key := by rw [mput_none hk]; simp [keys, h.key]
  val := by rw [mput_none hk]; simp [h.val]
  nodup := nodup_mput h.nodup k x
  born e he := by
    simp only [Array.toList_push, List.mem_append, List.mem_singleton] at he
    rcases he with he | rfl
    · have := h.born e he; omega
    · exact Nat.lt_succ_self _
  rise := by
    rw [Array.toList_push, List.pairwise_append]
    refine ⟨h.rise, List.pairwise_singleton _ _, fun a ha b hb => ?_⟩
    simp only [List.mem_singleton] at hb
    subst hb
    exact h.born a ha

theorem map_modify {γ : Type} (f : MapEntry → γ) (g : MapEntry → MapEntry) (i : Nat) (l : List MapEntry) (hg : ∀ e, l[i]? = some e → f (g e) = f e) : (l.modify i g).map f = l.map f := by
  apply List.ext_getElem?
  intro j
  simp only [List.getElem?_map, List.getElem?_modify]
  cases hj : l[j]? with
  | none => rfl
  | some e =>
    simp only [Option.map_some]
    split
    · rename_i h; subst h; simp [hg e hj]
    · simp

theorem MapIs.modify (h : MapIs kv vv m es clock) {k : κ} {i : Nat} (hk : (keys m).findIdx? (fun x => decide (x = k)) = some i) (x : β) :
    MapIs kv vv (mput m k x) (es.modify i fun e => { e with key := kv k, val := vv x }) clock := by
  obtain ⟨h1, u, h2⟩ := mput_some hk x
  have hkeys : keys (mput m k x) = keys m := by
    rw [h1]
    apply List.ext_getElem?
    intro j
    simp only [keys, List.getElem?_map, List.getElem?_set]
    split
    · rename_i e; subst e
      split
      · rw [h2]; rfl
      · rename_i hlt; rw [List.getElem?_eq_none (by omega)]
    · rfl
  have hmem : ∀ e, e ∈ (es.modify i fun e => { e with key := kv k, val := vv x }).toList → ∃ e' ∈ es.toList, e'.born = e.born := fun e he => by
    rw [Array.toList_modify] at he
    obtain ⟨j, hj⟩ := List.mem_iff_getElem?.1 he
    rw [List.getElem?_modify] at hj
    cases hjj : es.toList[j]? with
    | none => rw [hjj] at hj; cases hj
    | some e' =>
      rw [hjj] at hj
      refine ⟨e', List.mem_of_getElem? hjj, ?_⟩
      simp only [Option.map_eq_map, Option.map_some, Option.some.injEq] at hj
      split at hj <;> subst hj <;> rfl
  refine ⟨?_, ?_, by rw [hkeys]; exact h.nodup, fun e he => ?_, ?_⟩
  · rw [Array.toList_modify, hkeys, ← h.key]
    refine map_modify _ _ _ _ (fun e he => ?_)
    have : (es.toList.map (·.key))[i]? = ((keys m).map kv)[i]? := by rw [h.key]
    simp only [List.getElem?_map, he, Option.map_some, keys, h2] at this
    simpa using this.symm
  · rw [Array.toList_modify, h1]
    apply List.ext_getElem?
    intro j
    have hval : (es.toList.map (·.val))[j]? = (m.map (fun p => vv p.2))[j]? := by rw [h.val]
    simp only [List.getElem?_map] at hval
    simp only [List.getElem?_map, List.getElem?_modify, List.getElem?_set]
    by_cases hij : i = j
    · subst hij
      have hlt : i < m.length := (List.getElem?_eq_some_iff.1 h2).1
      rw [h2] at hval
      cases he : es.toList[i]? with
      | none => rw [he] at hval; cases hval
      | some e => simp [hlt]
    · simp only [if_neg hij, Option.map_id', id_eq]
      simpa using hval
  · obtain ⟨e', he', hb⟩ := hmem e he
    rw [← hb]; exact h.born e' he'
  · rw [Array.toList_modify]
    have hp : (es.toList.map (·.born)).Pairwise (· < ·) := by rw [List.pairwise_map]; exact h.rise
    have hq : ((es.toList.modify i fun e => { e with key := kv k, val := vv x }).map (·.born)).Pairwise (· < ·) := by
      rw [map_modify (fun e => e.born) (fun e => { e with key := kv k, val := vv x }) i es.toList (fun e _ => rfl)]; exact hp
    rw [List.pairwise_map] at hq
    exact hq

variable {w w' : World} {I : List Nat} {C C' : Nat → Nat} {M : Nat → Prop} {j b n : Nat} {v : Value} {P : Program} {N : Nat} {env : Env} {x y z q : Operand} {t kt et : TypeId}

theorem setObj_run {o o' : Obj} (hb : w.heap[b]? = some o) (hno : ∀ c e f, o ≠ .cells c e f) : (setObj b o').run P w = .ok () { w with heap := w.heap.setIfInBounds b o' } := by
  unfold setObj Sem.run
  rw [hb]
  cases o with
  | cells c e f => exact absurd rfl (hno c e f)
  | _ => rfl
theorem upd_setObj {o : Obj} (o' : Obj) (hb : w.heap[b]? = some o) : Upd w { w with heap := w.heap.setIfInBounds b o' } b o' := by
  have hlt := lt_of_at hb
  refine ⟨⟨rfl, rfl, rfl, by simp, fun c _ hc => ?_, Dr.refl rfl⟩, ?_, by simp⟩
  · simp only [Array.getElem?_setIfInBounds]
    rw [if_neg (fun e => hc e.symm)]
  · simp [Array.getElem?_setIfInBounds, hlt]
theorem upd_step {o o' : Obj} (h : Upd w w' b o') (hc : C b = j) : Stp [j] w C w' C := ⟨h.ext.mono (fun c _ hcb => by rw [show c = b from hcb, hc]; simp), fun _ _ => rfl⟩

theorem key_at (h : MapIs kv vv m es clock) {k : κ} {i : Nat} (hk : (keys m).findIdx? (fun x => decide (x = k)) = some i) : (es[i]?).map (·.key) = some (kv k) := by
  obtain ⟨u, h2⟩ := findIdx_at hk
  have : (es.toList.map (·.key))[i]? = ((keys m).map kv)[i]? := by rw [h.key]
  simp only [List.getElem?_map, keys, h2, Option.map_some] at this
  rw [← this]
  simp

theorem a_makeMap (hF : Lim w C) (j : Nat) (kv : κ → Value) (vv : β → Value) : Acts P N env (.makeMap t none) w (fun v w' => ∃ C' b, v = .map (some b) ∧ Stp [] w C w' C' ∧ OwnM w' C' j b kv vv [] ∧ Lim w' C') := acts' fun ρ hρ o ho => by
  have hn := new_alloc w (.map #[] 0)
  obtain ⟨C', h1, h2, h3⟩ := hn.own hF j
  refine ⟨.map (some w.heap.size), w.alloc (.map #[] 0), .inl ?_, C', _, rfl, h1, ⟨h2.col, #[], 0, h2.at_, ⟨rfl, rfl, by simp [keys], fun e he => by simp at he, by simp⟩⟩, h3⟩
  unfold execOp; rw [ho]
  simp [go_sem, Instr.makeMap]

variable {z0 : β}
/-- The element type's zero value is that of `z0`, in one cell. -/
def ZeroIs (P : Program) (et : TypeId) (v : Value) : Prop := ∀ w, (zeroValue et).run P w = .ok v w

theorem val_lookup (ht : P.underlying t = some (.map kt et)) (hk : KeyOK P kt kv) (hz : ZeroIs P et (vv z0)) (hb : w.heap[b]? = some (.map es clock)) (hm : MapIs kv vv m es clock) {k : κ} {ok : Bool}
    (hx : ev env x = some (.map (some b))) (hy : ev env y = some (kv k)) :
    Val P N env (.lookup t x y ok) w (if ok then .tuple #[vv ((mget m k).getD z0), .bool (mget m k).isSome] else vv ((mget m k).getD z0)) := mk' fun ρ hρ o ho => by
  have hf := hk.find k es.toList (keys m) w hm.key
  rw [find_get hm] at hf
  have hg := findIdx_mget m k
  have hget : (getObj b).run P w = .ok (.map es clock) w := by simp [getObj, Sem.run, hb]
  unfold execOp; rw [ho]
  simp only [hρ _ _ hx, hρ _ _ hy]
  unfold Instr.lookup
  simp only [Sem.run_bind, run_underlying ht, Result.andThen_ok, hget, Sem.run_pure, hk.check, hf]
  cases hi : (keys m).findIdx? (fun x => decide (x = k)) with
  | none =>
    rw [hi] at hg
    simp only [Option.bind_none] at hg ⊢
    simp only [Sem.run_bind, hz w, Result.andThen_ok, Sem.run_pure, ← hg]
    cases ok <;> rfl
  | some i =>
    rw [hi] at hg
    simp only [Option.bind_some] at hg ⊢
    cases hp : m[i]? with
    | none =>
      have := (List.findIdx?_eq_some_iff_getElem.1 hi).1
      simp only [keys, List.length_map] at this
      rw [List.getElem?_eq_none_iff] at hp; omega
    | some p =>
      rw [hp] at hg
      simp only [Option.map_some] at hg ⊢
      simp only [Sem.run_pure, Result.andThen_ok, ← hg]
      cases ok <;> rfl
theorem OwnM.lookup (h : OwnM w C j b kv vv m) (ht : P.underlying t = some (.map kt et)) (hk : KeyOK P kt kv) (hz : ZeroIs P et (vv z0)) {k : κ}
    (hx : ev env x = some (.map (some b))) (hy : ev env y = some (kv k)) : Val P N env (.lookup t x y false) w (vv ((mget m k).getD z0)) := by
  obtain ⟨_, es, clock, hb, hm⟩ := h
  exact val_lookup (ok := false) ht hk hz hb hm hx hy
theorem RM.lookup (h : RM w M kv vv m v) (ht : P.underlying t = some (.map kt et)) (hk : KeyOK P kt kv) (hz : ZeroIs P et (vv z0)) {k : κ}
    (hx : ev env x = some v) (hy : ev env y = some (kv k)) : Val P N env (.lookup t x y false) w (vv ((mget m k).getD z0)) := by
  obtain ⟨b, rfl, _, es, clock, hb, hm⟩ := h
  exact val_lookup (ok := false) ht hk hz hb hm hx hy
/-- 'm[k] = x'. -/
theorem a_mapUpdate (h : OwnM w C j b kv vv m) (ht : P.underlying t = some (.map kt et)) (hk : KeyOK P kt kv) {k : κ} {u : β}
    (hx : ev env x = some (.map (some b))) (hy : ev env y = some (kv k)) (hz : ev env z = some (vv u)) :
    Acts P N env (.mapUpdate t x y z) w (fun v w' => v = undef ∧ Stp [j] w C w' C ∧ OwnM w' C j b kv vv (mput m k u)) := acts' fun ρ hρ o ho => by
  obtain ⟨hc, es, clock, hb, hm⟩ := h
  have hf := hk.find k es.toList (keys m) w hm.key
  have hget : (getObj b).run P w = .ok (.map es clock) w := by simp [getObj, Sem.run, hb]
  cases hi : (keys m).findIdx? (fun x => decide (x = k)) with
  | none =>
    rw [hi] at hf
    have hu := upd_setObj (.map (es.push { key := kv k, val := vv u, born := clock }) (clock + 1)) hb
    refine ⟨undef, _, .inr ⟨?_, rfl⟩, rfl, upd_step (o := .map #[] 0) hu hc, hc, _, _, hu.at_, hm.push hi u⟩
    unfold execOp; rw [ho]
    simp only [hρ _ _ hx, hρ _ _ hy, hρ _ _ hz]
    unfold Instr.mapUpdate
    simp only [Sem.run_bind, run_underlying ht, Result.andThen_ok, hget, hk.check, hf, Option.bind_none]
    rw [setObj_run hb (fun _ _ _ h => by cases h)]
    rfl
  | some i =>
    rw [hi] at hf
    have hu := upd_setObj (.map (es.modify i fun e => { e with key := kv k, val := vv u }) clock) hb
    have hke := key_at hm hi
    have hlt : i < es.size := by
      have := (List.findIdx?_eq_some_iff_getElem.1 hi).1
      have h2 := congrArg List.length hm.key
      simp only [List.length_map, Array.length_toList] at h2
      omega
    have hke' : ((es[i]?).map (·.key)).getD (kv k) = kv k := by rw [hke]; rfl
    refine ⟨undef, _, .inr ⟨?_, rfl⟩, rfl, upd_step (o := .map #[] 0) hu hc, hc, _, _, hu.at_, hm.modify hi u⟩
    unfold execOp; rw [ho]
    simp only [hρ _ _ hx, hρ _ _ hy, hρ _ _ hz]
    unfold Instr.mapUpdate
    have hel : es.toList[i]? = some es[i] := by simp [hlt]
    simp only [Sem.run_bind, run_underlying ht, Result.andThen_ok, hget, hk.check, hf, Option.bind_some, hel, Option.map_some]
    simp only [Sem.run_bind, Instr.keyThatStays, hke', hk.bits, if_true, Sem.run_pure, Result.andThen_ok]
    rw [setObj_run hb (fun _ _ _ h => by cases h)]
    rfl
end
end Go.K

/- Maps: an entry that is written in two steps, and ranging. -/
set_option linter.unusedVariables false
set_option linter.unusedSimpArgs false
set_option linter.unusedSectionVars false
namespace Go.K
open Rep

section
variable {κ β : Type} [DecidableEq κ] {kv : κ → Value} {vv : β → Value} {m : List (κ × β)} {es : Array MapEntry} {clock : Nat}
variable {w w' : World} {I : List Nat} {C C' : Nat → Nat} {M : Nat → Prop} {j b n : Nat} {v : Value} {P : Program} {N : Nat} {env : Env} {x y z q : Operand} {t kt et : TypeId} {z0 : β}

/-- The entry of key `k` was made at `n`. -/
def BornIs (w : World) (b : Nat) (kv : κ → Value) (k : κ) (n : Nat) : Prop :=
  ∃ (es : Array MapEntry) (clock i : Nat) (e : MapEntry), w.heap[b]? = some (.map es clock) ∧ es.toList[i]? = some e ∧ e.key = kv k ∧ e.born = n

theorem modify_same {es : Array MapEntry} {i : Nat} {f g : MapEntry → MapEntry} (h : ∀ e, es.toList[i]? = some e → f e = g e) : es.modify i f = es.modify i g := by
  apply Array.ext'
  rw [Array.toList_modify, Array.toList_modify]
  apply List.ext_getElem?
  intro k
  simp only [List.getElem?_modify]
  cases hk : es.toList[k]? with
  | none => rfl
  | some e =>
    by_cases hik : i = k
    · subst hik; simp [h e hk]
    · simp [hik]

theorem entry_at (hm : MapIs kv vv m es clock) {i : Nat} {k : κ} {u : β} (h : m[i]? = some (k, u)) : ∃ e, es.toList[i]? = some e ∧ e.key = kv k ∧ e.val = vv u := by
  have h1 : (es.toList.map (·.key))[i]? = ((keys m).map kv)[i]? := by rw [hm.key]
  have h2 : (es.toList.map (·.val))[i]? = (m.map (fun p => vv p.2))[i]? := by rw [hm.val]
  simp only [List.getElem?_map, keys, h, Option.map_some] at h1 h2
  cases he : es.toList[i]? with
  | none => rw [he] at h1; cases h1
  | some e => rw [he] at h1 h2; simp only [Option.map_some, Option.some.injEq] at h1 h2; exact ⟨e, rfl, h1, h2⟩

theorem a_mapEntry (h : OwnM w C j b kv vv m) (ht : P.underlying t = some (.map kt et)) (hk : KeyOK P kt kv) (hz : ZeroIs P et (vv z0)) {k : κ}
    (hx : ev env x = some (.map (some b))) (hy : ev env y = some (kv k)) :
    Acts P N env (.mapEntry t x y) w (fun v w' => ∃ n : Nat, v = .tuple #[vv ((mget m k).getD z0), .int .i64 n] ∧ Stp [j] w C w' C ∧ OwnM w' C j b kv vv (mput m k ((mget m k).getD z0)) ∧ BornIs w' b kv k n) := acts' fun ρ hρ o ho => by
  obtain ⟨hc, es, clock, hb, hm⟩ := h
  have hf := hk.find k es.toList (keys m) w hm.key
  have hg := findIdx_mget m k
  have hget : (getObj b).run P w = .ok (.map es clock) w := by simp [getObj, Sem.run, hb]
  cases hi : (keys m).findIdx? (fun x => decide (x = k)) with
  | none =>
    rw [hi] at hf hg
    simp only [Option.bind_none] at hg
    have hu := upd_setObj (.map (es.push { key := kv k, val := vv z0, born := clock }) (clock + 1)) hb
    rw [← hg]
    refine ⟨.tuple #[vv z0, .int .i64 clock], _, .inl ?_, clock, rfl, upd_step (o := .map #[] 0) hu hc, ⟨hc, _, _, hu.at_, hm.push hi z0⟩, _, _, es.size, { key := kv k, val := vv z0, born := clock }, hu.at_, by simp, rfl, rfl⟩
    unfold execOp; rw [ho]
    simp only [hρ _ _ hx, hρ _ _ hy]
    unfold Instr.mapEntry
    simp only [Sem.run_bind, run_underlying ht, Result.andThen_ok, hget, hk.check, hf, Option.bind_none, hz w]
    rw [setObj_run hb (fun _ _ _ h => by cases h)]
    rfl
  | some i =>
    obtain ⟨u, hmu⟩ := findIdx_at hi
    rw [hi] at hf hg
    simp only [Option.bind_some, hmu, Option.map_some] at hg
    obtain ⟨e, he, hek, hev⟩ := entry_at hm hmu
    rw [← hg]
    have hsame : (es.modify i fun e => { e with key := kv k }) = es.modify i fun e => { e with key := kv k, val := vv u } := modify_same (fun e' he' => by
      rw [he] at he'; cases he'; rw [hev])
    have hu := upd_setObj (.map (es.modify i fun e => { e with key := kv k }) clock) hb
    have hke : ((es[i]?).map (·.key)).getD (kv k) = kv k := by rw [key_at hm hi]; rfl
    have heq : es[i]? = some e := by simpa using he
    refine ⟨.tuple #[vv u, .int .i64 e.born], _, .inl ?_, e.born, rfl, upd_step (o := .map #[] 0) hu hc, ⟨hc, _, _, hu.at_, by rw [hsame]; exact hm.modify hi u⟩, _, _, i, { e with key := kv k }, hu.at_, ?_, rfl, rfl⟩
    · unfold execOp; rw [ho]
      simp only [hρ _ _ hx, hρ _ _ hy]
      unfold Instr.mapEntry
      simp only [Sem.run_bind, run_underlying ht, Result.andThen_ok, hget, hk.check, hf, Option.bind_some, he, Option.map_some]
      simp only [Sem.run_bind, Instr.keyThatStays, hke, hk.bits, if_true, Sem.run_pure, Result.andThen_ok]
      rw [setObj_run hb (fun _ _ _ h => by cases h)]
      simp only [Result.andThen_ok, heq, Option.map_some, Option.getD_some, hev]
      rfl
    · rw [Array.toList_modify, List.getElem?_modify]; simp [he]

theorem born_unique {l : List MapEntry} (h : l.Pairwise (fun a b => a.born < b.born)) {i j : Nat} {a c : MapEntry} (hi : l[i]? = some a) (hj : l[j]? = some c) (he : a.born = c.born) : i = j := by
  obtain ⟨h1, rfl⟩ := List.getElem?_eq_some_iff.1 hi
  obtain ⟨h2, rfl⟩ := List.getElem?_eq_some_iff.1 hj
  rw [List.pairwise_iff_getElem] at h
  rcases Nat.lt_trichotomy i j with hlt | e | hlt
  · have := h i j h1 h2 hlt; omega
  · exact e
  · have := h j i h2 h1 hlt; omega

theorem a_entryStore (h : OwnM w C j b kv vv m) (hk : KeyOK P kt kv) {k : κ} {n : Nat} {u : β} (hbn : BornIs w b kv k n)
    (hx : ev env x = some (.map (some b))) (hy : ev env y = some (.int .i64 n)) (hz : ev env z = some (vv u)) :
    Acts P N env (.entryStore t x y z) w (fun v w' => v = undef ∧ Stp [j] w C w' C ∧ OwnM w' C j b kv vv (mput m k u)) := acts' fun ρ hρ o ho => by
  obtain ⟨hc, es, clock, hb, hm⟩ := h
  obtain ⟨es', clock', i, e, hb', he, hek, hen⟩ := hbn
  rw [hb] at hb'
  simp only [Option.some.injEq, Obj.map.injEq] at hb'
  obtain ⟨rfl, rfl⟩ := hb'
  have hget : (getObj b).run P w = .ok (.map es clock) w := by simp [getObj, Sem.run, hb]
  have hlt : i < es.toList.length := (List.getElem?_eq_some_iff.1 he).1
  have hfind : es.findIdx? (fun e => (e.born : Int) == (n : Int)) = some i := by
    rw [show es.findIdx? (fun e => (e.born : Int) == (n : Int)) = es.toList.findIdx? (fun e => (e.born : Int) == (n : Int)) from by cases es; simp, List.findIdx?_eq_some_iff_getElem]
    obtain ⟨h1, h2⟩ := List.getElem?_eq_some_iff.1 he
    refine ⟨h1, by rw [h2, hen]; simp, fun j hji => ?_⟩
    simp only [beq_iff_eq]
    intro hbj
    have hj : j < es.toList.length := by omega
    have : i = j := born_unique hm.rise he (List.getElem?_eq_getElem hj) (by rw [hen]; omega)
    omega
  have hmk : ∃ u0, m[i]? = some (k, u0) := by
    have h1 : (es.toList.map (·.key))[i]? = ((keys m).map kv)[i]? := by rw [hm.key]
    simp only [List.getElem?_map, he, Option.map_some, keys] at h1
    cases hmi : m[i]? with
    | none => rw [hmi] at h1; cases h1
    | some p =>
      rw [hmi] at h1
      simp only [Option.map_some, Option.some.injEq] at h1
      exact ⟨p.2, by rw [show p = (k, p.2) from by rw [← hk.inj _ _ (h1.symm.trans hek)]]⟩
  obtain ⟨u0, hmk⟩ := hmk
  have hidx : (keys m).findIdx? (fun x => decide (x = k)) = some i := by
    rw [List.findIdx?_eq_some_iff_getElem]
    obtain ⟨h1, h2⟩ := List.getElem?_eq_some_iff.1 hmk
    refine ⟨by simpa [keys] using h1, by simp [keys, h2], fun j hji => ?_⟩
    simp only [decide_eq_true_eq]
    intro hjk
    have hnd := hm.nodup
    unfold List.Nodup at hnd
    rw [List.pairwise_iff_getElem] at hnd
    exact hnd j i _ (by simpa [keys] using h1) hji (by rw [hjk]; simp [keys, h2])
  have hsame : (es.modify i fun e => { e with val := vv u }) = es.modify i fun e => { e with key := kv k, val := vv u } := modify_same (fun e' he' => by
    rw [he] at he'; cases he'; rw [hek])
  have hu := upd_setObj (.map (es.modify i fun e => { e with val := vv u }) clock) hb
  refine ⟨undef, _, .inr ⟨?_, rfl⟩, rfl, upd_step (o := .map #[] 0) hu hc, hc, _, _, hu.at_, by rw [hsame]; exact hm.modify hidx u⟩
  unfold execOp; rw [ho]
  simp only [hρ _ _ hx, hρ _ _ hy, hρ _ _ hz]
  unfold Instr.entryStore
  simp only [Sem.run_bind, Result.andThen_ok, hget, asInt, asIntOf, Sem.run_pure, hfind]
  rw [setObj_run hb (fun _ _ _ h => by cases h)]
  rfl

theorem OwnM.lenV (h : OwnM w C j b kv vv m) (hx : ev env x = some (.map (some b))) (ht : P.underlying t = some (.map kt et)) :
    Val P N env (.call { callee := .builtin .len, args := #[x], argTypes := #[t] }) w (.int .i64 m.length) := mk' fun ρ hρ o ho => by
  obtain ⟨_, es, clock, hb, hm⟩ := h
  have hl : es.size = m.length := by have := congrArg List.length hm.key; simpa [keys] using this
  have hget : (getObj b).run P w = .ok (.map es clock) w := by simp [getObj, Sem.run, hb]
  unfold execOp; rw [ho]
  simp [hρ _ _ hx, resolve, invoke, builtin, Builtin.len_, run_underlying ht, goInt, hget, hl]
theorem RM.lenV (h : RM w M kv vv m v) (hx : ev env x = some v) (ht : P.underlying t = some (.map kt et)) :
    Val P N env (.call { callee := .builtin .len, args := #[x], argTypes := #[t] }) w (.int .i64 m.length) := mk' fun ρ hρ o ho => by
  obtain ⟨b, rfl, _, es, clock, hb, hm⟩ := h
  have hl : es.size = m.length := by have := congrArg List.length hm.key; simpa [keys] using this
  have hget : (getObj b).run P w = .ok (.map es clock) w := by simp [getObj, Sem.run, hb]
  unfold execOp; rw [ho]
  simp [hρ _ _ hx, resolve, invoke, builtin, Builtin.len_, run_underlying ht, goInt, hget, hl]

/-! ### Ranging over a map -/

/-- What an iterator has not yet come to. -/
def leftOf (m : List (κ × β)) (es : List MapEntry) (seen : List Nat) : List (κ × β) := ((m.zip es).filter fun p => !seen.contains p.2.born).map (·.1)

/-- An iterator over a map at block `b` that does not turn meanwhile. -/
structure OwnIt (w : World) (C : Nat → Nat) (j it jb b : Nat) (kv : κ → Value) (vv : β → Value) (m : List (κ × β)) (left : List (κ × β)) (cur : Option (κ × β)) : Prop where
  col : C it = j
  colb : C b = jb
  is : ∃ (es : Array MapEntry) (clock : Nat) (seen : Array Nat), w.heap[it]? = some (.mapIter (some b) clock seen clock) ∧ w.heap[b]? = some (.map es clock) ∧ MapIs kv vv m es clock ∧ left = leftOf m es.toList seen.toList ∧
    ∀ c, cur = some c → ∃ (i : Nat) (e : MapEntry), m[i]? = some c ∧ es.toList[i]? = some e ∧ seen.back? = some e.born

variable {it jb : Nat} {left : List (κ × β)} {cur : Option (κ × β)}
theorem OwnIt.st (h : OwnIt w C j it jb b kv vv m left cur) (hs : Stp I w C w' C') (hj : j ∉ I) (hjb : jb ∉ I) : OwnIt w' C' j it jb b kv vv m left cur := by
  obtain ⟨h1, h2, es, clock, seen, h3, h4, r⟩ := h
  exact ⟨(hs.col it (lt_of_at h3)).trans h1, (hs.col b (lt_of_at h4)).trans h2, es, clock, seen, hs.ext.at' h3 (by rw [h1]; exact hj), hs.ext.at' h4 (by rw [h2]; exact hjb), r⟩

theorem leftOf_nil (m : List (κ × β)) (es : List MapEntry) (h : es.length = m.length) : leftOf m es [] = m := by
  unfold leftOf
  rw [List.filter_eq_self.2 (fun p _ => by simp)]
  exact List.map_fst_zip (by omega)

/-- 'for k, v := range m' begins. -/
theorem a_range (hF : Lim w C) (j : Nat) (ht : P.underlying t = some (.map kt et)) (hb : w.heap[b]? = some (.map es clock)) (hm : MapIs kv vv m es clock) (hx : ev env x = some (.map (some b))) :
    Acts P N env (.range t x) w (fun v w' => ∃ C' it, v = .pointer (some ⟨it, 0, none⟩) ∧ Stp [] w C w' C' ∧ OwnIt w' C' j it (C b) b kv vv m m none ∧ Lim w' C') := acts' fun ρ hρ o ho => by
  have hn := new_alloc w (.mapIter (some b) clock #[] clock)
  obtain ⟨C', h1, h2, h3⟩ := hn.own hF j
  have hget : (getObj b).run P w = .ok (.map es clock) w := by simp [getObj, Sem.run, hb]
  have hlen : es.toList.length = m.length := by have := congrArg List.length hm.key; simpa [keys] using this
  refine ⟨.pointer (some ⟨w.heap.size, 0, none⟩), _, .inl ?_, C', _, rfl, h1, ⟨h2.col, h1.col b (lt_of_at hb), es, clock, #[], h2.at_, h1.ext.at' hb (by simp), hm, (leftOf_nil m _ hlen).symm, fun c hc => by cases hc⟩, h3⟩
  unfold execOp; rw [ho]
  simp [hρ _ _ hx, Instr.range, run_underlying ht, hget]

theorem eraseIdx_map' {γ δ : Type} (f : γ → δ) : ∀ (l : List γ) (i : Nat), (l.map f).eraseIdx i = (l.eraseIdx i).map f
  | [], _ => by simp
  | a :: l, 0 => by simp
  | a :: l, i + 1 => by simp [eraseIdx_map' f l i]
theorem filter_erase {γ : Type} (f : γ → Nat) : ∀ (l : List γ) (c : Nat) (hc : c < l.length), l.Pairwise (fun a b => f a ≠ f b) → l.filter (fun a => f a != f l[c]) = l.eraseIdx c
  | [], c, hc, _ => by simp at hc
  | a :: l, 0, _, hp => by
    rw [List.pairwise_cons] at hp
    simp only [List.getElem_cons_zero, List.eraseIdx_zero, List.tail_cons]
    rw [List.filter_cons_of_neg (by simp), List.filter_eq_self.2 (fun b hb => by simpa using fun e => hp.1 b hb e.symm)]
  | a :: l, c + 1, hc, hp => by
    rw [List.pairwise_cons] at hp
    simp only [List.length_cons] at hc
    simp only [List.getElem_cons_succ, List.eraseIdx_cons_succ]
    rw [List.filter_cons_of_pos (by simpa using hp.1 _ (List.getElem_mem (by omega))), filter_erase f l c (by omega) hp.2]

theorem zip_pairwise {m : List (κ × β)} {es : List MapEntry} (h : es.Pairwise (fun a b => a.born < b.born)) : (m.zip es).Pairwise (fun a b => a.2.born ≠ b.2.born) := by
  rw [List.pairwise_iff_getElem] at h ⊢
  intro i j hi hj hij
  simp only [List.length_zip] at hi hj
  simp only [List.getElem_zip]
  have := h i j (by omega) (by omega) hij
  omega

theorem filter_zip_snd {m : List (κ × β)} {es : List MapEntry} (hl : es.length = m.length) (p : MapEntry → Bool) : ((m.zip es).filter fun q => p q.2).map (·.2) = es.filter p := by
  induction es generalizing m with
  | nil => simp
  | cons e es ih =>
    cases m with
    | nil => simp at hl
    | cons q m =>
      simp only [List.zip_cons_cons, List.filter_cons]
      have := ih (m := m) (by simpa using hl)
      split <;> simp [this]

/-- The next step of a range over a map: whichever entry is left, or the end. -/
theorem a_next (hF : Lim w C) (hI : OwnIt w C j it jb b kv vv m left cur) (hx : ev env x = some (.pointer (some ⟨it, 0, none⟩))) :
    Acts P N env (.next x false) w (fun v w' => Stp [j] w C w' C ∧ Lim w' C ∧ ((left = [] ∧ v = .tuple #[.bool false]) ∨
      ∃ (c : Nat) (hc : c < left.length), v = .tuple #[.bool true, kv left[c].1, vv left[c].2] ∧ OwnIt w' C j it jb b kv vv m (left.eraseIdx c) (some left[c]))) := acts' fun ρ hρ o ho => by
  obtain ⟨hcol, hcolb, es, clock, seen, hit, hb, hm, hleft, hcur⟩ := hI
  have hlen : es.toList.length = m.length := by have := congrArg List.length hm.key; simpa [keys] using this
  have hgi : (getObj it).run P w = .ok (.mapIter (some b) clock seen clock) w := by simp [getObj, Sem.run, hit]
  have hgb : (getObj b).run P w = .ok (.map es clock) w := by simp [getObj, Sem.run, hb]
  have hne : b ≠ it := fun e => by rw [e, hit] at hb; cases hb
  -- the entries that are left
  let L := (m.zip es.toList).filter fun p => !seen.toList.contains p.2.born
  have hL : left = L.map (·.1) := hleft
  have hE : (es.filter fun e => !seen.contains e.born).toList = L.map (·.2) := by
    rw [Array.toList_filter, ← filter_zip_snd hlen (fun e => !seen.contains e.born)]
    congr 1
    apply List.filter_congr
    intro p _
    simp
  have hborn : ∀ e ∈ es.toList, e.born < clock := hm.born
  have hold : (es.filter fun e => !seen.contains e.born).filter (·.born < clock) = es.filter fun e => !seen.contains e.born := by
    apply Array.ext'
    rw [Array.toList_filter]
    apply List.filter_eq_self.2
    intro e he
    rw [Array.toList_filter] at he
    simpa using hborn e (List.mem_filter.1 he).1
  have hnew : (es.filter fun e => !seen.contains e.born).filter (·.born ≥ clock) = #[] := by
    apply Array.ext'
    rw [Array.toList_filter]
    apply List.filter_eq_nil_iff.2
    intro e he
    rw [Array.toList_filter] at he
    have := hborn e (List.mem_filter.1 he).1
    simpa using this
  have hguard : (!seen.isEmpty && !es.isEmpty && es.all (·.born ≥ clock)) = false := by
    by_cases h0 : es.isEmpty = true
    · simp [h0]
    · have hpos : 0 < es.size := by simp only [Array.isEmpty_iff] at h0; exact Array.size_pos_iff.2 h0
      have : es.all (·.born ≥ clock) = false := by
        rw [← Array.all_toList]
        apply Bool.eq_false_iff.2
        intro hall
        rw [List.all_eq_true] at hall
        have hmem : es[0] ∈ es.toList := by simp
        have h1 := hall _ hmem
        have h2 := hborn _ hmem
        simp at h1
        omega
      simp [this]
  by_cases hemp : L = []
  · have hemp' : (es.filter fun e => !seen.contains e.born) = #[] := Array.ext' (by rw [hE, hemp]; rfl)
    refine ⟨.tuple #[.bool false], w, .inl ?_, Stp.refl _ _ _, hF, .inl ⟨by rw [hL, hemp]; rfl, rfl⟩⟩
    unfold execOp; rw [ho]
    simp only [hρ _ _ hx]
    unfold Instr.next
    simp only [Sem.run_bind, hgi, Result.andThen_ok, hgb, hguard, hold, hnew, hemp']
    simp [choose, Sem.run, Question.forced]
  · have hLlen : (es.filter fun e => !seen.contains e.born).size = L.length := by rw [← Array.length_toList, hE, List.length_map]
    have hpos : 0 < L.length := List.length_pos_iff.2 hemp
    have hnonempty : (es.filter fun e => !seen.contains e.born).isEmpty = false := by
      rw [Array.isEmpty_eq_false_iff, ← Array.size_pos_iff]; omega
    -- the choice
    obtain ⟨c, w1, hc, hw1, hchoose⟩ : ∃ c w1, c < L.length ∧ (Ext No w w1 ∧ w1.heap = w.heap) ∧ (choose (.mapNext L.length)).run P w = .ok c w1 := by
      by_cases h1 : L.length ≤ 1
      · exact ⟨0, w, hpos, ⟨Ext.refl _ _, rfl⟩, by simp [choose, Sem.run, Question.forced, h1]⟩
      · refine ⟨w.tape w.drawn (.mapNext L.length) % L.length, { w with drawn := w.drawn + 1 }, Nat.mod_lt _ hpos, ⟨Ext.drew _ _, rfl⟩, ?_⟩
        simp [choose, Sem.run, Question.forced, h1, Question.cut]
    obtain ⟨p, hp⟩ : ∃ p, L[c]? = some p := ⟨L[c], List.getElem?_eq_getElem hc⟩
    have hpm : p ∈ L := List.mem_of_getElem? hp
    have hpL : L[c] = p := by have := List.getElem?_eq_getElem hc; rw [this] at hp; exact Option.some.inj hp
    obtain ⟨i, hi, hpi⟩ := List.mem_iff_getElem.1 (List.mem_filter.1 hpm).1
    simp only [List.length_zip] at hi
    have hmi : m[i]? = some p.1 := by rw [← hpi]; simp only [List.getElem_zip]; exact List.getElem?_eq_getElem (by omega)
    have hei : es.toList[i]? = some p.2 := by rw [← hpi]; simp only [List.getElem_zip]; exact List.getElem?_eq_getElem (by omega)
    obtain ⟨e', he', hk', hv'⟩ := entry_at hm (k := p.1.1) (u := p.1.2) hmi
    rw [hei] at he'; cases he'
    have hcand : ∀ E : Array MapEntry, E.isEmpty = false → E.toList = L.map (·.2) → ((if E.isEmpty then #[none] else #[]) ++ (E ++ #[]).map some : Array (Option MapEntry))[c]? = some (some p.2) := by
      intro E hEe hEl
      rw [hEe]
      simp only [Bool.false_eq_true, if_false, Array.append_empty, Array.empty_append, Array.getElem?_map]
      rw [← Array.getElem?_toList, hEl, List.getElem?_map, hp]; rfl
    have hcand' := hcand _ hnonempty hE
    have hcsz : ∀ E : Array MapEntry, E.isEmpty = false → E.size = L.length → ((if E.isEmpty then #[none] else #[]) ++ (E ++ #[]).map some : Array (Option MapEntry)).size = L.length := by
      intro E hEe hEl
      rw [hEe]; simp [hEl]
    have hcsz' := hcsz _ hnonempty hLlen
    have hit1 : w1.heap[it]? = some (.mapIter (some b) clock seen clock) := by rw [hw1.2]; exact hit
    have hu := upd_setObj (.mapIter (some b) clock (seen.push p.2.born) clock) hit1
    have hst : Stp [j] w C _ C := ⟨(hw1.1.mono (A' := fun b => C b ∈ [j]) (fun _ _ h => h.elim)).trans (upd_step (o := .map #[] 0) hu hcol).ext (fun _ _ h => h), fun _ _ => rfl⟩
    have hcl : c < left.length := by rw [hL, List.length_map]; exact hc
    have hlc : left[c] = p.1 := by simp only [hL, List.getElem_map, hpL]
    refine ⟨.tuple #[.bool true, p.2.key, p.2.val], _, .inl ?_, hst, hF.st hst, .inr ⟨c, hcl, by rw [hlc, hk', hv'], hcol, hcolb, es, clock, seen.push p.2.born, hu.at_, ?_, hm, ?_, fun d hd => ?_⟩⟩
    · unfold execOp; rw [ho]
      simp only [hρ _ _ hx]
      unfold Instr.next
      simp only [Sem.run_bind, hgi, Result.andThen_ok, hgb, hguard, Bool.false_eq_true, if_false, hold, hnew, hcsz', hchoose, hcand', Sem.run_pure]
      rw [setObj_run hit1 (fun _ _ _ h => by cases h)]
      rfl
    · have := hu.ext.block b (by rw [hw1.2]; exact lt_of_at hb) (fun e => hne e)
      rw [this, hw1.2]; exact hb
    · have hpw : L.Pairwise (fun a b => a.2.born ≠ b.2.born) := (zip_pairwise hm.rise).filter _
      have h1 := filter_erase (fun q : (κ × β) × MapEntry => q.2.born) L c hc hpw
      rw [hpL] at h1
      rw [hL, eraseIdx_map', ← h1]
      unfold leftOf
      rw [List.filter_filter]
      congr 1
      apply List.filter_congr
      intro q _
      rw [Bool.eq_iff_iff]
      simp [and_comm]
    · simp only [Option.some.injEq] at hd
      subst hd
      rw [hlc]
      exact ⟨i, p.2, hmi, hei, by simp⟩

theorem OwnIt.entry {c : κ × β} (hI : OwnIt w C j it jb b kv vv m left (some c)) (hx : ev env x = some (.pointer (some ⟨it, 0, none⟩))) :
    Val P N env (.entry x) w (.tuple #[kv c.1, vv c.2]) := mk' fun ρ hρ o ho => by
  obtain ⟨hcol, hcolb, es, clock, seen, hit, hb, hm, hleft, hcur⟩ := hI
  obtain ⟨i, e, hmi, hei, hback⟩ := hcur c rfl
  obtain ⟨e', he', hk', hv'⟩ := entry_at hm (k := c.1) (u := c.2) hmi
  rw [hei] at he'; cases he'
  have hgi : (getObj it).run P w = .ok (.mapIter (some b) clock seen clock) w := by simp [getObj, Sem.run, hit]
  have hgb : (getObj b).run P w = .ok (.map es clock) w := by simp [getObj, Sem.run, hb]
  have hfind : es.find? (fun x => x.born == e.born) = some e := by
    rw [← Array.find?_toList]
    obtain ⟨h1, h2⟩ := List.getElem?_eq_some_iff.1 hei
    rw [List.find?_eq_some_iff_getElem]
    refine ⟨by simp, i, h1, h2, fun k hk => ?_⟩
    simp only [Bool.not_eq_true', beq_eq_false_iff_ne]
    intro hbk
    have := born_unique hm.rise (List.getElem?_eq_getElem (show k < es.toList.length by omega)) hei hbk
    omega
  unfold execOp; rw [ho]
  simp only [hρ _ _ hx]
  unfold Instr.entry
  simp [hgi, hgb, hback, hfind, hk', hv']
/-- The same over a map that is only read. -/
theorem a_rangeR (hF : Lim w C) (j : Nat) (ht : P.underlying t = some (.map kt et)) (hr : RM w (Mc C) kv vv m v) (hx : ev env x = some v) :
    Acts P N env (.range t x) w (fun v w' => ∃ C' it b, v = .pointer (some ⟨it, 0, none⟩) ∧ Stp [] w C w' C' ∧ OwnIt w' C' j it 0 b kv vv m m none ∧ Lim w' C') := fun a ha o ho => by
  obtain ⟨b, rfl, hn, es, clock, hb, hm⟩ := hr
  obtain ⟨u, w', h1, C', it, h2, h3, h4, h5⟩ := a_range (P := P) (N := N) hF j ht hb hm hx a ha o ho
  have hc : C b = 0 := by by_cases hz : C b = 0; exact hz; exact absurd hz hn
  rw [hc] at h4
  exact ⟨u, w', h1, C', it, b, h2, h3, h4, h5⟩
theorem RM.nodup {M : Nat → Prop} (hr : RM w M kv vv m v) : (keys m).Nodup := by
  obtain ⟨b, rfl, hn, es, clock, hb, hm⟩ := hr
  exact hm.nodup
theorem mget_mem {κ β : Type} [DecidableEq κ] {m : List (κ × β)} (h : (keys m).Nodup) {p : κ × β} (hp : p ∈ m) : mget m p.1 = some p.2 := by
  induction m with
  | nil => cases hp
  | cons a m ih =>
    obtain ⟨x, u⟩ := a
    simp only [keys, List.map_cons, List.nodup_cons] at h
    rcases List.mem_cons.1 hp with rfl | hp
    · simp [mget]
    · have : x ≠ p.1 := fun e => h.1 (by rw [e]; exact List.mem_map_of_mem hp)
      rw [mget, if_neg this]; exact ih h.2 hp
theorem perm_next {γ : Type} {l tk m : List γ} {c : Nat} (hc : c < l.length) (h : (tk ++ l).Perm m) : ((tk ++ [l[c]]) ++ l.eraseIdx c).Perm m := by
  rw [List.append_assoc]
  refine List.Perm.trans (List.Perm.append_left tk ?_) h
  have h2 : l = l.take c ++ l[c] :: l.drop (c + 1) := by rw [← List.drop_eq_getElem_cons hc, List.take_append_drop]
  rw [List.eraseIdx_eq_take_drop_succ]
  exact (List.perm_middle (a := l[c]) (l₁ := l.take c) (l₂ := l.drop (c + 1))).symm.trans (List.Perm.of_eq h2.symm)
end
end Go.K

/- The blocks that a deck deals: plain. -/
set_option linter.unusedVariables false
set_option linter.unusedSimpArgs false
namespace Go.K
open Rep

def hashN : Nat → Int | 0 => 3 | 1 => 5 | 2 => 8 | _ => 9223372036854775808
def hashL : List U64 := [⟨3⟩, ⟨5⟩, ⟨8⟩, ⟨9223372036854775808⟩]

/-- The deck and the lists of numbers behind so many. -/
def blkSt (d : Dk) : Nat → Dk × (Nat → List Int)
  | 0 => (d, fun _ => [])
  | j + 1 => ((blkSt d j).1.after 6, fun x => if (blkSt d j).1.num 6 = x ∧ x < 4 then (blkSt d j).2 x ++ [(j : Int) + 1] else (blkSt d j).2 x)

theorem blkSt_list (d : Dk) : ∀ j, (blkSt d j).1.list = d.list
  | 0 => rfl
  | j + 1 => by
    show ((blkSt d j).1.after 6).list = _
    unfold Dk.after; rw [if_neg (by omega)]; exact blkSt_list d j
theorem after_list (d : Dk) (n : Int) : (d.after n).list = d.list := by unfold Dk.after; split <;> rfl
theorem blkSt_len (d : Dk) (x : Nat) : ∀ j, ((blkSt d j).2 x).length ≤ j
  | 0 => Nat.le_refl _
  | j + 1 => by
    have := blkSt_len d x j
    simp only [blkSt]
    split
    · simp; omega
    · omega

def blocksAll (f : Nat → List Int) : List Block := (List.range 4).map fun k => ⟨hashN k, f k⟩
def full (b : Block) : Bool := decide (0 < (b.ids.length : Int))
def blocksOf (d : Dk) (most : Nat) : List Block := (blocksAll (blkSt d most).2).filter full
def dkBlocks (d : Dk) (most : Nat) : Dk := (blkSt d most).1
theorem blocksAll_len (f : Nat → List Int) : (blocksAll f).length = 4 := by simp [blocksAll]
theorem blocksAll_get (f : Nat → List Int) {k : Nat} (h : k < (blocksAll f).length) : (blocksAll f)[k] = ⟨hashN k, f k⟩ := by simp [blocksAll]
theorem hashL_get {k : Nat} (h : k < hashL.length) : hashL[k] = ⟨hashN k⟩ := by
  have : k < 4 := h
  match k, this with
  | 0, _ => rfl | 1, _ => rfl | 2, _ => rfl | 3, _ => rfl
def updF {β : Type} (f : Nat → β) (k : Nat) (y : β) : Nat → β := fun x => if x = k then y else f x

/-- Blocks without numbers. -/
def raw0 (k : Nat) : Raw 2 := ⟨[.int .u64 (hashN k), .slice none 0 0], rfl, by simp [Value.oneCell']⟩
def blocks0 (j : Nat) : List (Raw 2) := (List.range j).map raw0
theorem blocks0_succ {j : Nat} (_h : j < 4) : blocks0 (j + 1) = blocks0 j ++ [raw0 j] := by simp [blocks0, List.range_succ]
@[simp] theorem blocks0_len (j : Nat) : (blocks0 j).length = j := by simp [blocks0]
theorem blocks0_own {w : World} {C : Nat → Nat} {v : Value} {ty : TypeId} (h : OwnL w C 3 ty v (blocks0 4)) :
    ∃ g cap cs, v = .slice (some ⟨g, 0, none⟩) 4 cap ∧ OwnB w C 3 g (.cells (List.toArray cs) ty) ∧ 4 ≤ cap ∧ cs.length = cap * 2 ∧ (∀ k, k < 4 → cs[k * 2]? = some (.int .u64 (hashN k))) ∧ (∀ k, k < 4 → cs[k * 2 + 1]? = some (.slice none 0 0)) := by
  rcases h.own with ⟨_, h0⟩ | ⟨g, cap, cs, rfl, hg, hc, hcap, hsz, hrep⟩
  · simp [blocks0] at h0
  · have hcell : ∀ k, k < 4 → cellsAt cs (k * 2) 2 = [.int .u64 (hashN k), .slice none 0 0] := fun k hk => by
      have : cellsAt cs (k * 2) 2 = ((blocks0 4)[k]'(by simp; omega)).vals := hrep k (by simp; omega)
      rw [this]; simp [blocks0, raw0]
    rw [blocks0_len] at hcap
    refine ⟨g, cap, cs.toList, by rw [blocks0_len], ⟨h.col g rfl, by simpa using hc⟩, hcap, by rw [Array.length_toList]; exact hsz, fun k hk => ?_, fun k hk => ?_⟩
    · have := cellsAt_get (j := 0) (hcell k hk) rfl (by omega); simpa using this
    · have := cellsAt_get (j := 1) (hcell k hk) rfl (by omega); simpa using this

theorem take_full {l : List Block} {m : Nat} (h : m < l.length) : (l.take (m + 1)).filter full = (l.take m).filter full ++ if full l[m] then [l[m]] else [] := by
  rw [List.take_succ_eq_append_getElem h, List.filter_append]; congr 1
  cases hf : full l[m] <;> simp [hf]
theorem take_full_len (f : Nat → List Int) (m : Nat) : (((blocksAll f).take m).filter full).length ≤ 4 := by
  refine Nat.le_trans (List.length_filter_le _ _) ?_
  rw [List.length_take, blocksAll_len]; omega

/-- The own blocks of 'out', before they are only read. -/
theorem rv_blocksAll {w : World} {C : Nat → Nat} {g cap : Nat} {cs : List Value} {ty : TypeId} {v : Nat → Value} {f : Nat → List Int} {n e : Nat} (hb : OwnB w C 3 g (.cells cs.toArray ty)) (hcap : 4 ≤ cap) (hsz : cs.length = cap * 2)
    (hn : n ≤ 3) (h1 : ∀ k, k < 4 → cs[k * 2]? = some (.int .u64 (hashN k))) (h2 : ∀ k, k < 4 → cs[k * 2 + 1]? = some (v k)) (hin : ∀ k, k < 4 → OwnL w C (4 + k) e (v k) (f k)) (hl : ∀ k, (f k).length ≤ 140737488355328) :
    RV w (Mc (frz n C)) (blocksAll f) (.slice (some ⟨g, 0, none⟩) 4 cap) := by
  refine rv_list.2 ⟨_, cap, by rw [blocksAll_len], by rw [blocksAll_len]; exact hcap, by rw [blocksAll_len]; decide, .inr ⟨g, 0, rfl, hb.frzM hn, cs.toArray, ty, (0, 0), hb.at_, ?_, fun i hi => ?_⟩⟩
  · rw [blocksAll_len]; show 0 + 4 * 2 ≤ _; simp; omega
  · rw [blocksAll_get]
    have hi4 : i < 4 := by simpa [blocksAll_len] using hi
    have e1 : cellsAt cs.toArray (0 + i * 2) 2 = [.int .u64 (hashN i), v i] := by
      rw [Nat.zero_add]
      exact cells2 (by simpa using h1 i hi4) (by simpa using h2 i hi4)
    show rep w.heap _ (⟨hashN i, f i⟩ : Block) (cellsAt cs.toArray (0 + i * 2) 2)
    rw [e1]
    exact rv_pair (p := ((⟨hashN i⟩ : U64), f i)) (us := [.int .u64 (hashN i)]) (ws := [v i]) rfl ((hin i hi4).frz (by omega) (Nat.le_trans (hl i) (by decide)) |>.rep1 rfl)

/-- Lists of blocks, as many as asked for. -/
def listsSt (d : Dk) (most : Nat) : Nat → Dk × List (List Block)
  | 0 => (d, [])
  | j + 1 => (dkBlocks (listsSt d most j).1 most, (listsSt d most j).2 ++ [blocksOf (listsSt d most j).1 most])
theorem dkBlocks_list (d : Dk) (most : Nat) : (dkBlocks d most).list = d.list := blkSt_list d most
theorem listsSt_list (d : Dk) (most : Nat) : ∀ j, (listsSt d most j).1.list = d.list
  | 0 => rfl
  | j + 1 => by show (dkBlocks _ most).list = _; rw [dkBlocks_list, listsSt_list d most j]
theorem listsSt_len (d : Dk) (most : Nat) : ∀ j, (listsSt d most j).2.length = j
  | 0 => rfl
  | j + 1 => by simp [listsSt, listsSt_len d most j]
end Go.K

/- Blocks and couples: plain. -/
set_option linter.unusedVariables false
set_option linter.unusedSimpArgs false
namespace Go.K
open Rep

abbrev kvI : Int → Value := fun n => .int .i64 n
abbrev vvB : Bool → Value := fun b => .bool b
abbrev Used := List (Int × Bool)

def total (l : List Block) : Int := (l.map fun b => (b.ids.length : Int)).sum
def overB (p : Option Int) (x : Int) : Bool := match p with | some p => decide (x ≤ p) | none => false
def badI (p : Option Int) (u : Used) (id : Int) : Bool := decide (id < 1) || decide (1048576 < id) || (mget u id).getD false || overB p id
def badB (p : Option Int) (x : Block) : Bool := decide ((x.ids.length : Int) = 0) || overB p x.hash
def idStep (s : Option (Option Int × Used)) (id : Int) : Option (Option Int × Used) :=
  match s with | none => none | some (p, u) => if badI p u id then none else some (some id, mput u id true)
def bStep (s : Option (Option Int × Used)) (x : Block) : Option (Option Int × Used) :=
  match s with | none => none | some (p, u) => if badB p x then none else match x.ids.foldl idStep (some (none, u)) with | none => none | some (_, u') => some (some x.hash, u')
/-- 'Check'. -/
def checkS (l : List Block) : Int := if 64 < total l then 1 else if (l.foldl bStep (some (none, []))).isSome then 0 else 12

theorem foldl_none {γ δ : Type} (f : Option γ → δ → Option γ) (hf : ∀ d, f none d = none) : ∀ l : List δ, l.foldl f none = none
  | [] => rfl
  | d :: l => by rw [List.foldl_cons, hf]; exact foldl_none f hf l
theorem foldl_take {γ δ : Type} (f : γ → δ → γ) (a : γ) (l : List δ) (i : Nat) (h : i < l.length) : (l.take (i + 1)).foldl f a = f ((l.take i).foldl f a) l[i] := by
  rw [List.take_succ_eq_append_getElem h, List.foldl_append]; rfl
theorem foldl_split {γ δ : Type} (f : γ → δ → γ) (a : γ) (l : List δ) (i : Nat) : l.foldl f a = (l.drop i).foldl f ((l.take i).foldl f a) := by
  rw [← List.foldl_append, List.take_append_drop]
/-- An error at element `i` is the error of the whole. -/
theorem foldl_fails {γ δ : Type} (f : Option γ → δ → Option γ) (hf : ∀ d, f none d = none) (a : Option γ) (l : List δ) (i : Nat) (h : i < l.length) (he : f ((l.take i).foldl f a) l[i] = none) : l.foldl f a = none := by
  rw [foldl_split f a l (i + 1), foldl_take f a l i h, he, foldl_none f hf]
theorem idStep_none (d : Int) : idStep none d = none := rfl
theorem bStep_none (d : Block) : bStep none d = none := rfl

def lastI (l : List Int) (k : Nat) : Option Int := if k = 0 then none else l[k - 1]?
theorem lastI_succ (l : List Int) {k : Nat} (h : k < l.length) : lastI l (k + 1) = some l[k] := by
  unfold lastI; rw [if_neg (by omega)]; simp [h]
def lastH (l : List Block) (k : Nat) : Option Int := if k = 0 then none else (l[k - 1]?).map (·.hash)
theorem lastH_succ (l : List Block) {k : Nat} (h : k < l.length) : lastH l (k + 1) = some l[k].hash := by
  unfold lastH; rw [if_neg (by omega)]; simp [h]
theorem lastI_pos (l : List Int) {k : Nat} (h : 0 < k) (hk : k ≤ l.length) : lastI l k = some (l[k - 1]'(by omega)) := by
  unfold lastI; rw [if_neg (by omega), List.getElem?_eq_getElem (by omega)]
theorem lastH_pos (l : List Block) {k : Nat} (h : 0 < k) (hk : k ≤ l.length) : lastH l k = some (l[k - 1]'(by omega)).hash := by
  unfold lastH; rw [if_neg (by omega), List.getElem?_eq_getElem (by omega)]; rfl
theorem total_append (l l' : List Block) : total (l ++ l') = total l + total l' := by unfold total; rw [List.map_append, List.sum_append]
theorem total_one (b : Block) : total [b] = b.ids.length := by simp [total]
theorem total_nonneg (l : List Block) : 0 ≤ total l := by
  induction l with
  | nil => simp [total]
  | cons a l ih => rw [show a :: l = [a] ++ l from rfl, total_append, total_one]; omega
theorem total_take (l : List Block) {i : Nat} (h : i < l.length) : total (l.take (i + 1)) = total (l.take i) + l[i].ids.length := by
  rw [List.take_succ_eq_append_getElem h, total_append, total_one]
theorem total_le (l : List Block) (i : Nat) : total (l.take i) ≤ total l := by
  have h := total_append (l.take i) (l.drop i)
  rw [List.take_append_drop] at h
  have := total_nonneg (l.drop i)
  omega

/-! ### 'cmp' -/
/-- 'cmp.Or'. -/
def orL : List Int → Int
  | [] => 0
  | a :: l => if a = 0 then orL l else a
/-- 'cmp.Compare'. -/
def cmpI (x y : Int) : Int := if x < y then -1 else if y < x then 1 else 0
def cmpC (x y : Couple) : Int := orL [cmpI x.a y.a, cmpI x.b y.b]
theorem orL_drop {l : List Int} {i : Nat} (h : i < l.length) : orL (l.drop i) = if l[i] = 0 then orL (l.drop (i + 1)) else l[i] := by
  rw [List.drop_eq_getElem_cons h]; rfl

/-- The inner 'check'. -/
def checkF : List (List Block) → List (List Block) → Int
  | x :: a, y :: b => let e := orL [checkS x, checkS y]; if e = 0 then checkF a b else e
  | _, _ => 0
def checkM (a b : List (List Block)) (mask : Int) : Int :=
  if a.length ≠ b.length ∨ 8 < a.length then 8 else let e := checkF a b; if e ≠ 0 then e else if mask < 0 ∨ (2 : Int) ^ a.length ≤ mask then 2 else 0
theorem checkF_drop {a b : List (List Block)} {i : Nat} (h : i < a.length) (h' : i < b.length) : checkF (a.drop i) (b.drop i) = if orL [checkS a[i], checkS b[i]] = 0 then checkF (a.drop (i + 1)) (b.drop (i + 1)) else orL [checkS a[i], checkS b[i]] := by
  rw [List.drop_eq_getElem_cons h, List.drop_eq_getElem_cons h']; rfl

/-! ### 'agreements' -/
abbrev Agr := List (Couple × Nat)
abbrev kvC : Couple → Value := fun c => .agg #[.int .i64 c.a, .int .i64 c.b]
abbrev vvN : Nat → Value := fun n => .int .i64 (n : Int)
def put1 (bit : Nat) (m : Agr) (c : Couple) : Agr := mput m c ((mget m c).getD 0 ||| bit)
def agr5 (bit : Nat) (ys : List Int) (m : Agr) (s : Int) : Agr := ys.foldl (fun m t => put1 bit m ⟨s, t⟩) m
def agr3 (bit : Nat) (x : Block) (m : Agr) (y : Block) : Agr := if x.hash = y.hash then x.ids.foldl (agr5 bit y.ids) m else m
def agr2 (bit : Nat) (lb : List Block) (m : Agr) (x : Block) : Agr := lb.foldl (agr3 bit x) m
def agrI (a b : List (List Block)) : Nat → Agr
  | 0 => []
  | n + 1 => (a.getD n []).foldl (agr2 (2 ^ n) (b.getD n [])) (agrI a b n)
theorem agrI_succ {a b : List (List Block)} {n : Nat} (h : n < a.length) (h' : n < b.length) : agrI a b (n + 1) = a[n].foldl (agr2 (2 ^ n) b[n]) (agrI a b n) := by
  show (a.getD n []).foldl (agr2 (2 ^ n) (b.getD n [])) (agrI a b n) = _
  simp only [List.getD_eq_getElem?_getD, List.getElem?_eq_getElem h, List.getElem?_eq_getElem h', Option.getD_some]
def Sm (m : Agr) : Prop := ∀ c, (mget m c).getD 0 < 256
theorem Sm.put1 {m : Agr} (h : Sm m) {n : Nat} (hn : n < 8) (c : Couple) : Sm (put1 (2 ^ n) m c) := fun d => by
  unfold K.put1
  rw [mget_mput]
  split
  · exact Nat.or_lt_two_pow (n := 8) (h c) (Nat.pow_lt_pow_right (by decide) hn)
  · exact h d
theorem Sm.nil : Sm [] := fun c => by show (0 : Nat) < 256; decide
/-- An entry that is made for the time being makes no difference. -/
theorem mget_mput_self (m : Agr) (c : Couple) : (mget (mput m c ((mget m c).getD 0)) c).getD 0 = (mget m c).getD 0 := by rw [mget_mput, if_pos rfl]; rfl
theorem mput_mput {κ β : Type} [DecidableEq κ] (m : List (κ × β)) (k : κ) (u v : β) : mput (mput m k u) k v = mput m k v := by
  induction m with
  | nil => simp [mput]
  | cons a m ih =>
    obtain ⟨x, y⟩ := a
    by_cases h : x = k
    · simp only [mput, if_pos h, if_true]
    · simp only [mput, if_neg h, ih]

/-! ### Couples as keys -/
section
variable {P : Program} {t ti : TypeId} {n0 n1 tg0 tg1 pk0 pk1 : String} {e0 e1 : Bool} {y0 y1 : Nat}
theorem part_couple (hi : P.underlying ti = some (.int .i64)) (a b : Int) (i : Nat) (v : Value) (w : World) (hv : (#[Value.int .i64 a, Value.int .i64 b])[i]? = some v) : (part ti #[.int .i64 a, .int .i64 b] i).run P w = .ok v w :=
  run_part_plain w (by simp [Program.plainKey, hi]) hv
theorem eqOK_couple (h : P.underlying t = some (.struct #[⟨n0, ti, 0, e0, tg0, pk0, y0⟩, ⟨n1, ti, 1, e1, tg1, pk1, y1⟩])) (h0 : n0 ≠ "_") (h1 : n1 ≠ "_") (hS : P.stoodInHeld t = false)
    (hi : P.underlying ti = some (.int .i64)) : EqOK P t kvC := fun d a b w => by
  have hpt := fun a b i v w => part_couple (P := P) hi a b i v w
  have hf : P.fieldsOf t = #[⟨n0, ti, 0, e0, tg0, pk0, y0⟩, ⟨n1, ti, 1, e1, tg1, pk1, y1⟩] := by simp [Program.fieldsOf, h]
  have he := fun (x y : Int) => run_equalIn_int (P := P) w (d + 6) ti .i64 .i64 x y hi
  rw [show d + 8 = (d + 7) + 1 from rfl, run_equalIn_struct w (d + 7) t _ _ (by rw [hf]; exact h) hS, hf]
  have p0 : ∀ c : Couple, (part ti #[.int .i64 c.a, .int .i64 c.b] 0).run P w = .ok (.int .i64 c.a) w := fun c => hpt _ _ 0 _ w rfl
  have p1 : ∀ c : Couple, (part ti #[.int .i64 c.a, .int .i64 c.b] 1).run P w = .ok (.int .i64 c.b) w := fun c => hpt _ _ 1 _ w rfl
  have hd : (decide (a = b)) = ((a.a == b.a) && (a.b == b.b)) := by
    cases a; cases b; simp only [Couple.mk.injEq, Bool.decide_and]; rfl
  simp only [Op.eqFields, Sem.run_bind, Sem.run_ite, h0, h1, ne_eq, not_false_eq_true, if_true, p0, p1, Result.andThen_ok, he, hd]
  cases (a.a == b.a) <;> cases (a.b == b.b) <;> simp
theorem keyOK_couple (h : P.underlying t = some (.struct #[⟨n0, ti, 0, e0, tg0, pk0, y0⟩, ⟨n1, ti, 1, e1, tg1, pk1, y1⟩])) (h0 : n0 ≠ "_") (h1 : n1 ≠ "_") (hS : P.stoodInHeld t = false)
    (hi : P.underlying ti = some (.int .i64)) : KeyOK P t kvC := by
  have hpt := fun a b i v w => part_couple (P := P) hi a b i v w
  refine keyOK_struct h (eqOK_couple h h0 h1 hS hi) (fun e k w => ?_) (fun k => by simp [Instr.sameBits]) (fun a b hab => ?_)
  · have p0 : (part ti #[.int .i64 k.a, .int .i64 k.b] 0).run P w = .ok (.int .i64 k.a) w := hpt _ _ 0 _ w rfl
    have p1 : (part ti #[.int .i64 k.a, .int .i64 k.b] 1).run P w = .ok (.int .i64 k.b) w := hpt _ _ 1 _ w rfl
    have q : ∀ (x : Int), (Instr.checkKey e 9999 ti (.int .i64 x)).run P w = .ok () w := fun x => by unfold Instr.checkKey; simp [run_underlying hi]
    rw [show (10000 : Nat) = 9999 + 1 from rfl, Instr.checkKey]
    simp only [Sem.run_bind, run_underlying h, Result.andThen_ok]
    rw [← Array.forIn_toList]
    simp only [List.forIn_cons, List.forIn_nil, Sem.run_bind, Sem.run_ite, h0, h1, ne_eq, not_false_eq_true, if_true, p0, p1, q, Result.andThen_ok, Sem.run_pure]
  · cases a; cases b; simp at hab; simp [hab]
theorem eqGuard_couple (h : P.underlying t = some (.struct #[⟨n0, ti, 0, e0, tg0, pk0, y0⟩, ⟨n1, ti, 1, e1, tg1, pk1, y1⟩])) (h0 : n0 ≠ "_") (h1 : n1 ≠ "_")
    (hi : P.underlying ti = some (.int .i64)) (d : Nat) (a b : Couple) (w : World) : (Op.eqGuardIn (d + 2) t (kvC a) (kvC b)).run P w = .ok false w := by
  have hpt := fun a b i v w => part_couple (P := P) hi a b i v w
  have p0 : ∀ c : Couple, (part ti #[.int .i64 c.a, .int .i64 c.b] 0).run P w = .ok (.int .i64 c.a) w := fun c => hpt _ _ 0 _ w rfl
  have p1 : ∀ c : Couple, (part ti #[.int .i64 c.a, .int .i64 c.b] 1).run P w = .ok (.int .i64 c.b) w := fun c => hpt _ _ 1 _ w rfl
  have q : ∀ (x y : Int), (Op.eqGuardIn (d + 1) ti (.int .i64 x) (.int .i64 y)).run P w = .ok false w := fun x y => by unfold Op.eqGuardIn; simp [run_underlying hi]
  rw [show d + 2 = (d + 1) + 1 from rfl, Op.eqGuardIn]
  simp only [Sem.run_bind, run_underlying h, Result.andThen_ok]
  rw [← Array.forIn_toList]
  simp only [List.forIn_cons, List.forIn_nil, Sem.run_bind, Sem.run_ite, h0, h1, ne_eq, not_false_eq_true, if_true, p0, p1, q, Result.andThen_ok, Sem.run_pure, Bool.false_eq_true, if_false]
variable {N : Nat} {env : Env} {x y : Operand} {u : TypeId} {a b : Couple} {w : World}
theorem val_eqC (h : P.underlying t = some (.struct #[⟨n0, ti, 0, e0, tg0, pk0, y0⟩, ⟨n1, ti, 1, e1, tg1, pk1, y1⟩])) (h0 : n0 ≠ "_") (h1 : n1 ≠ "_") (hS : P.stoodInHeld t = false)
    (hi : P.underlying ti = some (.int .i64)) (hx : ev env x = some (kvC a)) (hy : ev env y = some (kvC b)) : Val P N env (.binOp .eql t x y u) w (.bool (decide (a = b))) := mk' fun ρ hρ o ho => by
  have h5 := eqOK_couple h h0 h1 hS hi (Op.maxDepth - 8) a b w
  have h6 := eqGuard_couple h h0 h1 hi (Op.maxDepth - 2) a b w
  have h7 : (Op.equal t (kvC a) (kvC b)).run P w = .ok (decide (a = b)) w := h5
  have h8 : (Op.eqGuardIn Op.maxDepth t (kvC a) (kvC b)).run P w = .ok false w := h6
  have h9 : (eqGuard .eql t x y (kvC a) (kvC b)).run P w = .ok () w := by
    unfold eqGuard
    simp only [Sem.run_bind, Sem.run_pure, Sem.run_ite, run_program, Result.andThen_ok, h8, Bool.not_true, Bool.false_eq_true, if_false]
    cases P.eqGuardType P.depth t <;> simp [h8]
  have h10 : (binOp .eql t (kvC a) (kvC b)).run P w = .ok (.bool (decide (a = b))) w := by
    show (Op.equal t (kvC a) (kvC b) >>= fun z => pure (Value.bool z)).run P w = _
    rw [Sem.run_bind, h7]; rfl
  unfold execOp; rw [ho]
  simp only [hρ _ _ hx, hρ _ _ hy]
  simp [Sem.run_bind, h9, h10]
end

/-! ### Lists of couples -/
def hits (mask : Nat) (p : Couple × Nat) : Bool := decide ((p.2 &&& mask : Nat) ≠ 0)
def leC (x y : Couple) : Bool := !decide (cmpC y x < 0)
def sortC (l : List Couple) : List Couple := l.mergeSort leC
def listS (a b : List (List Block)) (mask : Nat) : List Couple := sortC (((agrI a b a.length).filter (hits mask)).map (·.1))
theorem cmpC_val (x y : Couple) : cmpC x y = if x.a < y.a then -1 else if y.a < x.a then 1 else if x.b < y.b then -1 else if y.b < x.b then 1 else 0 := by
  unfold cmpC orL orL orL cmpI
  by_cases h1 : x.a < y.a <;> by_cases h2 : y.a < x.a <;> by_cases h3 : x.b < y.b <;> by_cases h4 : y.b < x.b <;> simp [h1, h2, h3, h4]
theorem leC_iff (x y : Couple) : leC x y = true ↔ x.a < y.a ∨ x.a = y.a ∧ x.b ≤ y.b := by
  unfold leC; rw [cmpC_val]
  simp only [Bool.not_eq_true', decide_eq_false_iff_not]
  split
  · omega
  · split
    · omega
    · split
      · omega
      · split <;> omega
theorem leC_trans (x y z : Couple) (h : leC x y = true) (h' : leC y z = true) : leC x z = true := by rw [leC_iff] at *; omega
theorem leC_total (x y : Couple) : (leC x y || leC y x) = true := by rw [Bool.or_eq_true, leC_iff, leC_iff]; omega
theorem leC_anti (x y : Couple) (h : leC x y = true) (h' : leC y x = true) : x = y := by
  rw [leC_iff] at *
  have h1 : x.a = y.a := by omega
  have h2 : x.b = y.b := by omega
  cases x; cases y; simp only at h1 h2; rw [h1, h2]
theorem sortC_sorted (l : List Couple) : (sortC l).Pairwise (fun x y => leC x y = true) := List.pairwise_mergeSort leC_trans leC_total l
theorem sortC_perm (l : List Couple) : (sortC l).Perm l := List.mergeSort_perm l leC
theorem sorted_unique {γ : Type} {le : γ → γ → Bool} (ha : ∀ x y, le x y = true → le y x = true → x = y) : ∀ {l l' : List γ}, l.Perm l' → l.Pairwise (fun x y => le x y = true) → l'.Pairwise (fun x y => le x y = true) → l = l'
  | [], l', hp, _, _ => by simpa using hp.symm.eq_nil.symm
  | a :: l, [], hp, _, _ => by simpa using hp.eq_nil
  | a :: l, b :: l', hp, h1, h2 => by
    have hab : a = b := by
      by_cases e : a = b
      · exact e
      · have hb : b ∈ a :: l := hp.symm.subset (by simp)
        have ha' : a ∈ b :: l' := hp.subset (by simp)
        rcases List.mem_cons.1 hb with hb | hb
        · exact hb.symm
        · rcases List.mem_cons.1 ha' with ha' | ha'
          · exact ha'
          · exact ha _ _ ((List.pairwise_cons.1 h1).1 b hb) ((List.pairwise_cons.1 h2).1 a ha')
    subst hab
    rw [sorted_unique ha hp.cons_inv (List.pairwise_cons.1 h1).2 (List.pairwise_cons.1 h2).2]
theorem sortC_of_perm {l l' : List Couple} (h : l.Perm l') : sortC l = sortC l' :=
  sorted_unique leC_anti ((sortC_perm l).trans (h.trans (sortC_perm l').symm)) (sortC_sorted l) (sortC_sorted l')
theorem listS_of {a b : List (List Block)} {mask : Nat} {tk : Agr} (h : (tk ++ []).Perm (agrI a b a.length)) : sortC ((tk.filter (hits mask)).map (·.1)) = listS a b mask := by
  rw [List.append_nil] at h
  exact sortC_of_perm ((h.filter _).map _)
theorem checkM_zero {a b : List (List Block)} {mask : Int} (h : checkM a b mask = 0) : a.length = b.length ∧ a.length ≤ 8 ∧ ∃ mk : Nat, mask = mk ∧ mk < 256 := by
  unfold checkM at h
  by_cases h1 : a.length ≠ b.length ∨ 8 < a.length
  · rw [if_pos h1] at h; omega
  · rw [if_neg h1] at h
    simp only at h
    by_cases h2 : checkF a b ≠ 0
    · rw [if_pos h2] at h; exact absurd h h2
    · rw [if_neg h2] at h
      by_cases h3 : mask < 0 ∨ (2 : Int) ^ a.length ≤ mask
      · rw [if_pos h3] at h; omega
      · have hp : (2 : Int) ^ a.length = ((2 ^ a.length : Nat) : Int) := by simp
        have hp8 : 2 ^ a.length ≤ 2 ^ 8 := Nat.pow_le_pow_right (by decide) (by omega)
        rw [hp] at h3
        generalize 2 ^ a.length = z at h3 hp8
        exact ⟨by omega, by omega, mask.toNat, by omega, by omega⟩

/-! ### How many couples -/
theorem len_mput {κ β : Type} [DecidableEq κ] (m : List (κ × β)) (k : κ) (v : β) : (mput m k v).length ≤ m.length + 1 := by
  induction m with
  | nil => simp [mput]
  | cons a m ih =>
    obtain ⟨x, u⟩ := a
    unfold mput
    split
    · simp
    · simp only [List.length_cons]; omega
theorem len_agr5 (bit : Nat) (s : Int) : ∀ (ys : List Int) (m : Agr), (agr5 bit ys m s).length ≤ m.length + ys.length
  | [], m => by simp [agr5]
  | y :: ys, m => by
    have h := len_agr5 bit s ys (put1 bit m ⟨s, y⟩)
    have h2 := len_mput m ⟨s, y⟩ ((mget m ⟨s, y⟩).getD 0 ||| bit)
    show (agr5 bit ys (put1 bit m ⟨s, y⟩) s).length ≤ _
    have h3 : (put1 bit m ⟨s, y⟩).length ≤ m.length + 1 := h2
    simp only [List.length_cons]; omega
theorem len_agr4 (bit : Nat) (ys : List Int) : ∀ (xs : List Int) (m : Agr), (xs.foldl (agr5 bit ys) m).length ≤ m.length + xs.length * ys.length
  | [], m => by simp
  | x :: xs, m => by
    have h := len_agr4 bit ys xs (agr5 bit ys m x)
    have h2 := len_agr5 bit x ys m
    simp only [List.foldl_cons, List.length_cons, Nat.succ_mul]; omega
def totalN (l : List Block) : Nat := (l.map fun b => b.ids.length).sum
theorem total_nat (l : List Block) : total l = totalN l := by
  induction l with
  | nil => rfl
  | cons a l ih =>
    rw [show a :: l = [a] ++ l from rfl, total_append, total_one, ih]
    simp [totalN]
theorem len_agr3 (bit : Nat) (x y : Block) (m : Agr) : (agr3 bit x m y).length ≤ m.length + x.ids.length * y.ids.length := by
  unfold agr3
  split
  · exact len_agr4 _ _ _ _
  · omega
theorem len_agr2 (bit : Nat) (x : Block) : ∀ (lb : List Block) (m : Agr), (agr2 bit lb m x).length ≤ m.length + x.ids.length * totalN lb
  | [], m => by simp [agr2]
  | y :: lb, m => by
    have h := len_agr2 bit x lb (agr3 bit x m y)
    have h2 := len_agr3 bit x y m
    show (agr2 bit lb (agr3 bit x m y) x).length ≤ _
    have h3 : totalN (y :: lb) = y.ids.length + totalN lb := by simp [totalN]
    rw [h3, Nat.mul_add]; omega
theorem len_agr1 (bit : Nat) (lb : List Block) : ∀ (la : List Block) (m : Agr), (la.foldl (agr2 bit lb) m).length ≤ m.length + totalN la * totalN lb
  | [], m => by simp [totalN]
  | x :: la, m => by
    have h := len_agr1 bit lb la (agr2 bit lb m x)
    have h2 := len_agr2 bit x lb m
    have h3 : totalN (x :: la) = x.ids.length + totalN la := by simp [totalN]
    rw [List.foldl_cons, h3, Nat.add_mul]; omega
theorem checkS_total {l : List Block} (h : checkS l = 0) : totalN l ≤ 64 := by
  unfold checkS at h
  by_cases h1 : 64 < total l
  · rw [if_pos h1] at h; omega
  · rw [total_nat] at h1; omega
theorem checkF_zero : ∀ {a b : List (List Block)}, checkF a b = 0 → ∀ i (h : i < a.length) (h' : i < b.length), checkS a[i] = 0 ∧ checkS b[i] = 0
  | [], _, _, i, h, _ => by cases h
  | _ :: _, [], _, i, _, h => by cases h
  | x :: a, y :: b, hc, i, h, h' => by
    simp only [checkF] at hc
    by_cases h0 : orL [checkS x, checkS y] = 0
    · rw [if_pos h0] at hc
      have hxy : checkS x = 0 ∧ checkS y = 0 := by
        by_cases hx : checkS x = 0
        · refine ⟨hx, ?_⟩
          by_cases hy : checkS y = 0
          · exact hy
          · simp only [orL, hx, if_true, if_neg hy] at h0; exact absurd h0 hy
        · simp only [orL, if_neg hx] at h0; exact absurd h0 hx
      cases i with
      | zero => exact hxy
      | succ i => exact checkF_zero hc i (by simpa using h) (by simpa using h')
    · rw [if_neg h0] at hc; exact absurd hc h0
theorem checkM_valid {a b : List (List Block)} {mask : Int} (h : checkM a b mask = 0) : checkF a b = 0 := by
  unfold checkM at h
  by_cases h1 : a.length ≠ b.length ∨ 8 < a.length
  · rw [if_pos h1] at h; omega
  · rw [if_neg h1] at h
    simp only at h
    by_cases h2 : checkF a b ≠ 0
    · rw [if_pos h2] at h; exact absurd h h2
    · simpa using h2
theorem agrI_len {a b : List (List Block)} (hc : checkF a b = 0) (hl : a.length = b.length) : ∀ n, n ≤ a.length → (agrI a b n).length ≤ n * 4096
  | 0, _ => by simp [agrI]
  | n + 1, h => by
    have ih := agrI_len hc hl n (by omega)
    rw [agrI_succ (show n < a.length by omega) (show n < b.length by omega)]
    have h1 := len_agr1 (2 ^ n) b[n] a[n] (agrI a b n)
    obtain ⟨h2, h3⟩ := checkF_zero hc n (by omega) (by omega)
    have h4 := Nat.mul_le_mul (checkS_total h2) (checkS_total h3)
    omega
theorem agr_len {a b : List (List Block)} {mask : Int} (hz : checkM a b mask = 0) {tk lf : Agr} (h : (tk ++ lf).Perm (agrI a b a.length)) : tk.length ≤ 32768 := by
  obtain ⟨h1, h2, _⟩ := checkM_zero hz
  have h3 := agrI_len (checkM_valid hz) h1 a.length (Nat.le_refl _)
  have h4 := h.length_eq
  rw [List.length_append] at h4
  omega

/-! ### 'Count', 'together' -/
def cnt3 (x : Block) (n : Nat) (y : Block) : Nat := if x.hash = y.hash then n + x.ids.length * y.ids.length else n
def cnt2 (lb : List Block) (n : Nat) (x : Block) : Nat := lb.foldl (cnt3 x) n
def countS (la lb : List Block) : Nat := la.foldl (cnt2 lb) 0
def countE (la lb : List Block) : Int := if checkS la ≠ 0 then checkS la else checkS lb
theorem cnt2_le (x : Block) : ∀ (lb : List Block) (n : Nat), cnt2 lb n x ≤ n + x.ids.length * totalN lb
  | [], n => by simp [cnt2]
  | y :: lb, n => by
    have h := cnt2_le x lb (cnt3 x n y)
    show cnt2 lb (cnt3 x n y) x ≤ _
    have h2 : cnt3 x n y ≤ n + x.ids.length * y.ids.length := by unfold cnt3; split <;> omega
    have h3 : totalN (y :: lb) = y.ids.length + totalN lb := by simp [totalN]
    rw [h3, Nat.mul_add]; omega
theorem cnt1_le (lb : List Block) : ∀ (la : List Block) (n : Nat), la.foldl (cnt2 lb) n ≤ n + totalN la * totalN lb
  | [], n => by simp
  | x :: la, n => by
    have h := cnt1_le lb la (cnt2 lb n x)
    have h2 := cnt2_le x lb n
    have h3 : totalN (x :: la) = x.ids.length + totalN la := by simp [totalN]
    rw [List.foldl_cons, h3, Nat.add_mul]; omega
theorem totalN_take (l : List Block) (i : Nat) : totalN (l.take i) ≤ totalN l := by
  have := total_le l i
  rw [total_nat, total_nat] at this
  omega
theorem ids_le {l : List Block} {i : Nat} (h : i < l.length) : l[i].ids.length ≤ totalN l := by
  have h1 := total_take l h
  have h2 := total_le l (i + 1)
  have h3 := total_nonneg (l.take i)
  rw [total_nat l] at h2
  omega
def tog (la lb : List Block) (c : Couple) : Bool := la.any fun x => lb.any fun y => decide (x.hash = y.hash) && x.ids.any fun p => y.ids.any fun q => decide (p = c.a) && decide (q = c.b)
/-! ### The sanity check's blocks -/
def awA : List Block := [⟨5, [1, 2]⟩, ⟨7, [3]⟩]
def awB : List Block := [⟨5, [1, 2, 9]⟩, ⟨8, [4]⟩]
theorem awA_check : checkS awA = 0 := by decide
theorem aw_count : countS awA awB = 6 := by decide
theorem aw_countE : countE awA awB = 0 := by decide
theorem aw_checkM : checkM [awA] [awB] 1 = 0 := by decide
theorem aw_agr : (((agrI [awA] [awB] 1).filter (hits 1)).map (·.1)) = [⟨1, 1⟩, ⟨1, 2⟩, ⟨1, 9⟩, ⟨2, 1⟩, ⟨2, 2⟩, ⟨2, 9⟩] := by decide
theorem aw_list : listS [awA] [awB] 1 = [⟨1, 1⟩, ⟨1, 2⟩, ⟨1, 9⟩, ⟨2, 1⟩, ⟨2, 2⟩, ⟨2, 9⟩] := by
  have h : listS [awA] [awB] 1 = sortC (((agrI [awA] [awB] 1).filter (hits 1)).map (·.1)) := rfl
  rw [h, aw_agr]
  exact sorted_unique leC_anti (sortC_perm _) (sortC_sorted _) (by
    simp only [List.pairwise_cons, leC_iff, List.mem_cons, List.not_mem_nil, or_false, forall_eq_or_imp, forall_eq]
    simp)
end Go.K

/- Blocks that are dealt are valid; what agreements say: plain. -/
set_option linter.unusedVariables false
set_option linter.unusedSimpArgs false
namespace Go.K
open Rep

/-! ### Valid blocks -/
/-! ### What the deck deals -/
theorem blkSt_succ (d : Dk) (j k : Nat) : (blkSt d (j + 1)).2 k = if (blkSt d j).1.num 6 = k ∧ k < 4 then (blkSt d j).2 k ++ [(j : Int) + 1] else (blkSt d j).2 k := rfl
theorem blkSt_good (d : Dk) : ∀ j, (∀ k, ((blkSt d j).2 k).Pairwise (· < ·)) ∧ (∀ k, ∀ x ∈ (blkSt d j).2 k, 1 ≤ x ∧ x ≤ j) ∧ (∀ k k', k ≠ k' → ∀ x ∈ (blkSt d j).2 k, x ∉ (blkSt d j).2 k') ∧
    ((blkSt d j).2 0).length + ((blkSt d j).2 1).length + ((blkSt d j).2 2).length + ((blkSt d j).2 3).length ≤ j
  | 0 => ⟨fun k => List.Pairwise.nil, fun k x hx => by simp [blkSt] at hx, fun k k' _ x hx => by simp [blkSt] at hx, by simp [blkSt]⟩
  | j + 1 => by
    obtain ⟨h1, h2, h3, h4⟩ := blkSt_good d j
    refine ⟨fun k => ?_, fun k x hx => ?_, fun k k' hk x hx hx' => ?_, ?_⟩
    · rw [blkSt_succ]
      split
      · rw [List.pairwise_append]
        exact ⟨h1 k, by simp, fun x hx y hy => by
          have := h2 k x hx
          simp only [List.mem_singleton] at hy
          omega⟩
      · exact h1 k
    · rw [blkSt_succ] at hx
      split at hx
      · rcases List.mem_append.1 hx with hx | hx
        · have := h2 k x hx; omega
        · simp only [List.mem_singleton] at hx; omega
      · have := h2 k x hx; omega
    · rw [blkSt_succ] at hx hx'
      by_cases c : (blkSt d j).1.num 6 = k ∧ k < 4 <;> by_cases c' : (blkSt d j).1.num 6 = k' ∧ k' < 4
      · omega
      · rw [if_pos c] at hx; rw [if_neg c'] at hx'
        rcases List.mem_append.1 hx with hx | hx
        · exact h3 k k' hk x hx hx'
        · simp only [List.mem_singleton] at hx; have := h2 k' x hx'; omega
      · rw [if_neg c] at hx; rw [if_pos c'] at hx'
        rcases List.mem_append.1 hx' with hx' | hx'
        · exact h3 k k' hk x hx hx'
        · simp only [List.mem_singleton] at hx'; have := h2 k x hx; omega
      · rw [if_neg c] at hx; rw [if_neg c'] at hx'
        exact h3 k k' hk x hx hx'
    · simp only [blkSt_succ]
      by_cases c0 : (blkSt d j).1.num 6 = (0 : Nat) ∧ 0 < 4
      · rw [if_pos c0, if_neg (by omega), if_neg (by omega), if_neg (by omega)]; simp only [List.length_append, List.length_singleton]; omega
      · rw [if_neg c0]
        by_cases c1 : (blkSt d j).1.num 6 = (1 : Nat) ∧ 1 < 4
        · rw [if_pos c1, if_neg (by omega), if_neg (by omega)]; simp only [List.length_append, List.length_singleton]; omega
        · rw [if_neg c1]
          by_cases c2 : (blkSt d j).1.num 6 = (2 : Nat) ∧ 2 < 4
          · rw [if_pos c2, if_neg (by omega)]; simp only [List.length_append, List.length_singleton]; omega
          · rw [if_neg c2]
            split
            · simp only [List.length_append, List.length_singleton]; omega
            · omega
theorem blocksAll_four (f : Nat → List Int) : blocksAll f = [⟨3, f 0⟩, ⟨5, f 1⟩, ⟨8, f 2⟩, ⟨9223372036854775808, f 3⟩] := rfl
theorem totalN_filter (l : List Block) : totalN (l.filter full) = totalN l := by
  induction l with
  | nil => rfl
  | cons b l ih =>
    have h2 : totalN (b :: l) = b.ids.length + totalN l := by simp [totalN]
    rw [List.filter_cons]
    split
    · have h3 : totalN (b :: l.filter full) = b.ids.length + totalN (l.filter full) := by simp [totalN]
      omega
    · rename_i h
      have : b.ids.length = 0 := by simp [full] at h; simpa using h
      omega
theorem blocksOf_total (d : Dk) (most : Nat) : totalN (blocksOf d most) ≤ most := by
  obtain ⟨_, _, _, h⟩ := blkSt_good d most
  unfold blocksOf
  rw [totalN_filter, blocksAll_four]
  simp only [totalN, List.map_cons, List.map_nil, List.sum_cons, List.sum_nil]
  omega
theorem listsSt_all (d : Dk) (most : Nat) : ∀ j, ∀ x ∈ (listsSt d most j).2, ∃ d', x = blocksOf d' most
  | 0 => fun x hx => by simp [listsSt] at hx
  | j + 1 => fun x hx => by
    simp only [listsSt] at hx
    rcases List.mem_append.1 hx with hx | hx
    · exact listsSt_all d most j x hx
    · simp only [List.mem_singleton] at hx; exact ⟨_, hx⟩
theorem listsSt_total (d : Dk) {most : Nat} (j : Nat) (x : List Block) (hx : x ∈ (listsSt d most j).2) : total x ≤ most := by
  obtain ⟨d', rfl⟩ := listsSt_all d most j x hx
  rw [total_nat]; have := blocksOf_total d' most; omega
/-! ### What the masks say -/
def bit (m : Agr) (c : Couple) (k : Nat) : Bool := ((mget m c).getD 0).testBit k
theorem fold_bit {γ : Type} {F : Agr → γ → Agr} {q : γ → Bool} {c : Couple} {k : Nat} (h : ∀ m x, bit (F m x) c k = (bit m c k || q x)) : ∀ (l : List γ) (m : Agr), bit (l.foldl F m) c k = (bit m c k || l.any q)
  | [], m => by simp
  | x :: l, m => by rw [List.foldl_cons, fold_bit h l, h, List.any_cons, Bool.or_assoc]
theorem bit_put1 (i : Nat) (m : Agr) (e c : Couple) (k : Nat) : bit (put1 (2 ^ i) m e) c k = (bit m c k || (decide (e = c) && decide (i = k))) := by
  unfold bit put1
  rw [mget_mput]
  by_cases h : e = c
  · subst h
    rw [if_pos rfl, Option.getD_some, Nat.testBit_or, Nat.testBit_two_pow]; simp
  · rw [if_neg h]; simp [h]
theorem any_and {γ : Type} (l : List γ) (q : γ → Bool) (b : Bool) : (l.any fun x => q x && b) = (l.any q && b) := by
  induction l with
  | nil => rfl
  | cons a l ih => rw [List.any_cons, List.any_cons, ih]; cases q a <;> cases b <;> simp
theorem bit_agr3 (i : Nat) (x : Block) (m : Agr) (y : Block) (c : Couple) (k : Nat) :
    bit (agr3 (2 ^ i) x m y) c k = (bit m c k || ((decide (x.hash = y.hash) && x.ids.any fun p => y.ids.any fun q => decide (p = c.a) && decide (q = c.b)) && decide (i = k))) := by
  unfold agr3
  by_cases h : x.hash = y.hash
  · rw [if_pos h, decide_eq_true h, Bool.true_and, ← any_and]
    refine fold_bit (fun m s => ?_) _ _
    rw [← any_and]
    refine fold_bit (F := fun m t => put1 (2 ^ i) m ⟨s, t⟩) (fun m t => ?_) _ _
    rw [bit_put1]
    congr 2
    cases c
    simp
  · rw [if_neg h, decide_eq_false h]; simp
theorem bit_agr1 (i : Nat) (lb : List Block) (la : List Block) (m : Agr) (c : Couple) (k : Nat) :
    bit (la.foldl (agr2 (2 ^ i) lb) m) c k = (bit m c k || (tog la lb c && decide (i = k))) := by
  unfold tog
  rw [← any_and]
  refine fold_bit (fun m x => ?_) _ _
  rw [← any_and]
  exact fold_bit (fun m y => bit_agr3 i x m y c k) _ _
theorem bit_agrI (a b : List (List Block)) (c : Couple) (k : Nat) : ∀ n, bit (agrI a b n) c k = (decide (k < n) && tog (a.getD k []) (b.getD k []) c)
  | 0 => by simp [bit, agrI, mget]
  | n + 1 => by
    show bit ((a.getD n []).foldl (agr2 (2 ^ n) (b.getD n [])) (agrI a b n)) c k = _
    rw [bit_agr1, bit_agrI a b c k n]
    by_cases h : n = k
    · subst h; simp
    · rw [decide_eq_false h]
      have : (k < n + 1) ↔ k < n := by omega
      simp [this]
theorem nodup_agr1 (i : Nat) (lb : List Block) : ∀ (la : List Block) (m : Agr), (keys m).Nodup → (keys (la.foldl (agr2 i lb) m)).Nodup := by
  have fold : ∀ {γ : Type} (F : Agr → γ → Agr), (∀ m x, (keys m).Nodup → (keys (F m x)).Nodup) → ∀ (l : List γ) (m : Agr), (keys m).Nodup → (keys (l.foldl F m)).Nodup := by
    intro γ F h l
    induction l with
    | nil => intro m hm; exact hm
    | cons x l ih => intro m hm; exact ih _ (h m x hm)
  refine fold _ (fun m x hm => fold _ (fun m y hm => ?_) _ _ hm)
  unfold agr3
  split
  · exact fold _ (fun m s hm => fold _ (fun m t hm => nodup_mput hm _ _) _ _ hm) _ _ hm
  · exact hm
theorem agrI_nodup (a b : List (List Block)) : ∀ n, (keys (agrI a b n)).Nodup
  | 0 => List.nodup_nil
  | n + 1 => nodup_agr1 _ _ _ _ (agrI_nodup a b n)

/-! ### The list -/
/-! ### 'Agreeing' -/
def alls (mask : Nat) (p : Couple × Nat) : Bool := decide ((p.2 &&& mask : Nat) = mask)
def agreeS (a b : List (List Block)) (mask : Nat) : Nat := ((agrI a b a.length).filter (alls mask)).length
theorem agreeS_of {a b : List (List Block)} {mask : Nat} {tk : Agr} (h : (tk ++ []).Perm (agrI a b a.length)) : (tk.filter (alls mask)).length = agreeS a b mask := by
  rw [List.append_nil] at h
  exact (h.filter _).length_eq
end Go.K

/- Inclusion and exclusion: plain. -/
set_option linter.unusedVariables false
set_option linter.unusedSimpArgs false
namespace Go.K
open Rep

end Go.K

/- What every mask leads to. -/
set_option linter.unusedVariables false
set_option linter.unusedSimpArgs false
namespace Go.K

/-- The counters. -/
def evO (z : Nat) (tk : Agr) : List Int := (List.range z).map fun m => ((tk.filter (hits m)).length : Int)
def evI (z : Nat) (tk : Agr) (q : Couple × Nat) (j : Nat) : List Int := (List.range z).map fun m => ((tk.filter (hits m)).length : Int) + if m < j ∧ hits m q = true then 1 else 0
theorem evO_nil (z : Nat) : evO z [] = List.replicate z 0 := by
  apply List.ext_getElem
  · simp [evO]
  · intro i h1 h2; simp [evO]
theorem evO_len (z : Nat) (tk : Agr) : (evO z tk).length = z := by simp [evO]
theorem evI_len (z : Nat) (tk : Agr) (q : Couple × Nat) (j : Nat) : (evI z tk q j).length = z := by simp [evI]
theorem evI_zero (z : Nat) (tk : Agr) (q : Couple × Nat) : evI z tk q 0 = evO z tk := by
  unfold evI evO; apply List.map_congr_left; intro m _; simp
theorem evI_all (z : Nat) (tk : Agr) (q : Couple × Nat) : evI z tk q z = evO z (tk ++ [q]) := by
  unfold evI evO; apply List.map_congr_left; intro m hm
  have hm' : m < z := List.mem_range.1 hm
  rw [List.filter_append, List.length_append]
  by_cases h : hits m q = true
  · simp [h, hm']
  · simp [h]
theorem evI_get (z : Nat) (tk : Agr) (q : Couple × Nat) (j i : Nat) (h : i < (evI z tk q j).length) : (evI z tk q j)[i] = ((tk.filter (hits i)).length : Int) + if i < j ∧ hits i q = true then 1 else 0 := by
  simp [evI]
theorem evI_no {z : Nat} {tk : Agr} {q : Couple × Nat} {j : Nat} (h : hits j q = false) : evI z tk q (j + 1) = evI z tk q j := by
  unfold evI; apply List.map_congr_left; intro m _
  by_cases hm : m = j
  · subst hm; simp [h]
  · have : m < j + 1 ↔ m < j := by omega
    simp [this]
theorem evI_yes {z : Nat} {tk : Agr} {q : Couple × Nat} {j : Nat} (hj : j < z) (h : hits j q = true) : evI z tk q (j + 1) = (evI z tk q j).set j ((evI z tk q j)[j]'(by rw [evI_len]; exact hj) + 1) := by
  apply List.ext_getElem
  · simp [evI_len]
  · intro i h1 h2
    rw [List.getElem_set, evI_get]
    by_cases e : j = i
    · subst e
      rw [if_pos rfl, evI_get]; simp [h]
    · rw [if_neg e, evI_get]
      have : i < j + 1 ↔ i < j := by omega
      simp [this]
theorem evO_perm {z : Nat} {tk m : Agr} (h : (tk ++ []).Perm m) : evO z tk = evO z m := by
  rw [List.append_nil] at h
  unfold evO; apply List.map_congr_left; intro k _
  rw [(h.filter _).length_eq]
/-! ### The law -/
end Go.K

/- One block key: all ways of counting say the same: plain. -/
set_option linter.unusedVariables false
set_option linter.unusedSimpArgs false
namespace Go.K
open Rep

def w2 (x y : Block) : Nat := if x.hash = y.hash then x.ids.length * y.ids.length else 0
/-! The couples, one by one -/
end Go.K

/- The specification of chapter 21. Plain Lean. -/
set_option linter.unusedVariables false
set_option linter.unusedSimpArgs false
namespace Go.K
open Rep

/-! ### Check -/
def flatI (l : List Block) : List Int := l.flatMap (·.ids)
def okId (all : List Int) (p : Option Int) (id : Int) : Bool := !(decide (id < 1) || decide (1048576 < id) || decide (id ∈ all) || overB p id)
def okIds (all : List Int) : Option Int → List Int → Bool
  | _, [] => true
  | p, id :: r => okId all p id && okIds all (some id) r
def okBs : List Int → Option Int → List Block → Bool
  | _, _, [] => true
  | all, ph, b :: r => !badB ph b && okIds all none b.ids && okBs (all ++ b.ids) (some b.hash) r
theorem ids_same {all : List Int} : ∀ (ids : List Int) (p : Option Int) (u : Used) (cur : List Int), (∀ x, (mget u x).getD false = decide (x ∈ all ++ cur)) → (∀ x ∈ cur, overB p x = true) →
    (okIds all p ids = true → ∃ p' u', ids.foldl idStep (some (p, u)) = some (p', u') ∧ ∀ x, (mget u' x).getD false = decide (x ∈ all ++ (cur ++ ids))) ∧ (okIds all p ids = false → ids.foldl idStep (some (p, u)) = none)
  | [], p, u, cur, hu, hc => ⟨fun _ => ⟨p, u, rfl, by simpa using hu⟩, fun h => by cases h⟩
  | id :: r, p, u, cur, hu, hc => by
    have hbad : badI p u id = !okId all p id := by
      unfold badI okId
      rw [hu id, Bool.not_not]
      by_cases h1 : id ∈ all
      · simp [h1]
      · by_cases h2 : id ∈ cur
        · simp [h2, hc id h2]
        · simp [h1, h2]
    have hstep : idStep (some (p, u)) id = if badI p u id then none else some (some id, mput u id true) := rfl
    rw [List.foldl_cons, hstep, hbad]
    cases hk : okId all p id with
    | false =>
      simp only [Bool.not_false, if_true]
      exact ⟨fun h => by simp [okIds, hk] at h, fun _ => foldl_none idStep idStep_none r⟩
    | true =>
      simp only [Bool.not_true, Bool.false_eq_true, if_false]
      have hid : overB p id = false := by
        unfold okId at hk
        cases ho : overB p id with
        | false => rfl
        | true => simp [ho] at hk
      have ih := ids_same r (some id) (mput u id true) (cur ++ [id]) (fun x => by
          rw [mget_mput]
          by_cases e : id = x
          · subst e; simp
          · rw [if_neg e, hu x, ← List.append_assoc]
            simp only [List.mem_append, List.mem_singleton, decide_eq_decide]
            constructor
            · intro h; exact .inl h
            · rintro (h | h)
              · exact h
              · exact absurd h.symm e) (fun x hx => by
          rcases List.mem_append.1 hx with hx | hx
          · have := hc x hx
            unfold overB at this hid ⊢
            cases p with
            | none => cases this
            | some p => simp only [decide_eq_true_eq, decide_eq_false_iff_not] at this hid ⊢; omega
          · rw [List.mem_singleton.1 hx]; simp [overB])
      have e : okIds all p (id :: r) = okIds all (some id) r := by simp [okIds, hk]
      rw [e]
      have e2 : cur ++ [id] ++ r = cur ++ id :: r := by simp
      rw [e2] at ih
      exact ih
theorem blocks_same : ∀ (bs : List Block) (ph : Option Int) (u : Used) (all : List Int), (∀ x, (mget u x).getD false = decide (x ∈ all)) → (bs.foldl bStep (some (ph, u))).isSome = okBs all ph bs
  | [], _, _, _, _ => rfl
  | b :: r, ph, u, all, hu => by
    have hstep : bStep (some (ph, u)) b = if badB ph b then none else match b.ids.foldl idStep (some (none, u)) with | none => none | some (_, u') => some (some b.hash, u') := rfl
    rw [List.foldl_cons, hstep, okBs]
    cases hb : badB ph b with
    | true => simp only [if_true, Bool.not_true, Bool.false_and]; rw [foldl_none bStep bStep_none r]; rfl
    | false =>
      simp only [Bool.false_eq_true, if_false, Bool.not_false, Bool.true_and]
      have hs := ids_same (all := all) b.ids none u [] (fun x => by rw [hu x, List.append_nil]) (fun x hx => by cases hx)
      cases hk : okIds all none b.ids with
      | true =>
        obtain ⟨p', u', e, hu'⟩ := hs.1 hk
        rw [e]
        simp only [Bool.true_and]
        exact blocks_same r (some b.hash) u' (all ++ b.ids) (fun x => by rw [hu' x, List.nil_append])
      | false =>
        rw [hs.2 hk]
        simp only [Bool.false_and]
        rw [foldl_none bStep bStep_none r]; rfl
theorem check_okBs (l : List Block) : checkS l = if 64 < total l then 1 else if okBs [] none l then 0 else 12 := by
  unfold checkS
  rw [blocks_same l none [] [] (fun x => rfl)]
theorem okIds_prop {all : List Int} : ∀ {ids : List Int} {p : Option Int}, okIds all p ids = true → ids.Pairwise (· < ·) ∧ (∀ x ∈ ids, x ∉ all ∧ overB p x = false)
  | [], _, _ => ⟨List.Pairwise.nil, fun x hx => by cases hx⟩
  | id :: r, p, h => by
    simp only [okIds, Bool.and_eq_true] at h
    obtain ⟨h1, h2⟩ := h
    obtain ⟨h3, h4⟩ := okIds_prop h2
    have h5 : id ∉ all ∧ overB p id = false := by
      unfold okId at h1
      simp only [Bool.not_eq_true', Bool.or_eq_false_iff, decide_eq_false_iff_not] at h1
      exact ⟨h1.1.2, h1.2⟩
    have h6 : ∀ x ∈ r, id < x := fun x hx => by
      have := (h4 x hx).2
      simp only [overB, decide_eq_false_iff_not] at this; omega
    refine ⟨List.pairwise_cons.2 ⟨h6, h3⟩, fun x hx => ?_⟩
    rcases List.mem_cons.1 hx with rfl | hx
    · exact h5
    · refine ⟨(h4 x hx).1, ?_⟩
      have := h6 x hx
      have h7 := h5.2
      unfold overB at h7 ⊢
      cases p with
      | none => rfl
      | some p => simp only [decide_eq_false_iff_not] at h7 ⊢; omega
theorem okBs_once : ∀ {bs : List Block} {ph : Option Int} {all : List Int}, okBs all ph bs = true → all.Nodup → (all ++ flatI bs).Nodup
  | [], _, all, _, hn => by simpa [flatI] using hn
  | b :: r, ph, all, h, hn => by
    simp only [okBs, Bool.and_eq_true] at h
    obtain ⟨⟨_, h2⟩, h3⟩ := h
    obtain ⟨h4, h5⟩ := okIds_prop h2
    have h6 : (all ++ b.ids).Nodup := by
      rw [List.nodup_append]
      exact ⟨hn, h4.imp (fun h e => by omega), fun x hx y hy e => (h5 y hy).1 (e ▸ hx)⟩
    have := okBs_once h3 h6
    simpa [flatI, List.append_assoc] using this
theorem check_once {l : List Block} (h : checkS l = 0) : (flatI l).Nodup := by
  rw [check_okBs] at h
  by_cases h1 : 64 < total l
  · rw [if_pos h1] at h; omega
  · rw [if_neg h1] at h
    by_cases h2 : okBs [] none l = true
    · have := okBs_once h2 List.nodup_nil; simpa using this
    · rw [if_neg h2] at h; omega

/-! ### The hash of a number -/
def inS (l : List Block) (id : Int) : Option Int := (l.find? fun b => decide (id ∈ b.ids)).map (·.hash)
def agB (la lb : List Block) (x y : Int) : Bool := match inS la x, inS lb y with | some p, some q => decide (p = q) | _, _ => false
theorem find_block : ∀ {l : List Block} {b : Block} {x : Int}, (flatI l).Nodup → b ∈ l → x ∈ b.ids → l.find? (fun b => decide (x ∈ b.ids)) = some b
  | [], _, _, _, h, _ => by cases h
  | a :: l, b, x, hn, hb, hx => by
    have hn2 : (a.ids ++ flatI l).Nodup := by simpa [flatI] using hn
    rw [List.nodup_append] at hn2
    rw [List.find?_cons]
    rcases List.mem_cons.1 hb with rfl | hb
    · simp [hx]
    · have hno : x ∉ a.ids := fun h => hn2.2.2 x h x (List.mem_flatMap.2 ⟨b, hb, hx⟩) rfl
      simp only [hno, decide_false]
      exact find_block hn2.2.1 hb hx
theorem inS_some {l : List Block} {x p : Int} : inS l x = some p → ∃ b ∈ l, x ∈ b.ids ∧ b.hash = p := fun h => by
  unfold inS at h
  cases hf : l.find? (fun b => decide (x ∈ b.ids)) with
  | none => rw [hf] at h; cases h
  | some b =>
    rw [hf] at h
    have h1 := List.mem_of_find?_eq_some hf
    have h2 := List.find?_some hf
    exact ⟨b, h1, by simpa using h2, by simpa using h⟩
theorem tog_iff {la lb : List Block} {c : Couple} : tog la lb c = true ↔ ∃ x ∈ la, ∃ y ∈ lb, x.hash = y.hash ∧ c.a ∈ x.ids ∧ c.b ∈ y.ids := by
  unfold tog
  simp only [List.any_eq_true, Bool.and_eq_true, decide_eq_true_eq]
  constructor
  · rintro ⟨x, hx, y, hy, h, p, hp, q, hq, rfl, rfl⟩; exact ⟨x, hx, y, hy, h, hp, hq⟩
  · rintro ⟨x, hx, y, hy, h, hp, hq⟩; exact ⟨x, hx, y, hy, h, _, hp, _, hq, rfl, rfl⟩
theorem agB_tog {la lb : List Block} (ha : checkS la = 0) (hb : checkS lb = 0) (x y : Int) : agB la lb x y = tog la lb ⟨x, y⟩ := by
  rw [Bool.eq_iff_iff, tog_iff]
  constructor
  · intro h
    unfold agB at h
    split at h
    · rename_i p q hp hq
      obtain ⟨bx, h1, h2, h3⟩ := inS_some hp
      obtain ⟨by', h4, h5, h6⟩ := inS_some hq
      simp only [decide_eq_true_eq] at h
      exact ⟨bx, h1, by', h4, by omega, h2, h5⟩
    · cases h
  · rintro ⟨bx, h1, by', h2, h3, h4, h5⟩
    unfold agB inS
    rw [find_block (check_once ha) h1 h4, find_block (check_once hb) h2 h5]
    simpa using h3
/-- The mask of a couple. -/
def agN (a b : List (List Block)) (x y : Int) : Nat → Nat
  | 0 => 0
  | n + 1 => agN a b x y n + if agB (a.getD n []) (b.getD n []) x y = true then 2 ^ n else 0
theorem agN_lt (a b : List (List Block)) (x y : Int) : ∀ n, agN a b x y n < 2 ^ n
  | 0 => by simp [agN]
  | n + 1 => by
    have := agN_lt a b x y n
    rw [agN, Nat.pow_succ]
    split <;> omega
theorem agN_bit (a b : List (List Block)) (x y : Int) (k : Nat) : ∀ n, (agN a b x y n).testBit k = (decide (k < n) && agB (a.getD k []) (b.getD k []) x y)
  | 0 => by simp [agN]
  | n + 1 => by
    have ih := agN_bit a b x y k n
    have hlt := agN_lt a b x y n
    rw [agN]
    by_cases hc : agB (a.getD n []) (b.getD n []) x y = true
    · have ho := Nat.two_pow_add_eq_or_of_lt hlt 1
      rw [Nat.mul_one] at ho
      rw [if_pos hc, Nat.add_comm, ho, Nat.testBit_or, ih, Nat.testBit_two_pow]
      by_cases e : n = k
      · subst e; rw [hc]; simp
      · by_cases h : k < n
        · simp [e, h, show k < n + 1 by omega]
        · simp [e, h, show ¬ k < n + 1 by omega]
    · rw [if_neg hc, Nat.add_zero, ih]
      by_cases e : n = k
      · subst e; rw [Bool.eq_false_iff.2 hc]; simp
      · by_cases h : k < n
        · simp [h, show k < n + 1 by omega]
        · simp [h, show ¬ k < n + 1 by omega]
theorem agN_agr {a b : List (List Block)} (ha : ∀ l ∈ a, checkS l = 0) (hb : ∀ l ∈ b, checkS l = 0) (hl : a.length = b.length) (x y : Int) : agN a b x y a.length = (mget (agrI a b a.length) ⟨x, y⟩).getD 0 := by
  refine Nat.eq_of_testBit_eq (fun k => ?_)
  rw [agN_bit]
  have := bit_agrI a b ⟨x, y⟩ k a.length
  unfold bit at this
  rw [this]
  by_cases hk : k < a.length
  · have h1 : a.getD k [] = a[k] := by simp [List.getD, hk]
    have h2 : b.getD k [] = b[k] := by simp [List.getD, show k < b.length by omega]
    rw [h1, h2, agB_tog (ha _ (List.getElem_mem hk)) (hb _ (List.getElem_mem (by omega)))]
  · simp [hk]

/-! ### All numbers, ascending -/
def insI (x : Int) : List Int → List Int
  | [] => [x]
  | y :: ys => if y < x then y :: insI x ys else if y = x then y :: ys else x :: y :: ys
theorem mem_insI {x y : Int} : ∀ {l : List Int}, y ∈ insI x l ↔ y = x ∨ y ∈ l
  | [] => by simp [insI]
  | z :: l => by
    unfold insI
    split
    · rw [List.mem_cons, mem_insI (l := l), List.mem_cons]
      constructor
      · rintro (h | h | h)
        · exact .inr (.inl h)
        · exact .inl h
        · exact .inr (.inr h)
      · rintro (h | h | h)
        · exact .inr (.inl h)
        · exact .inl h
        · exact .inr (.inr h)
    · split
      · rename_i h; subst h; simp
      · simp
theorem asc_insI {x : Int} : ∀ {l : List Int}, l.Pairwise (· < ·) → (insI x l).Pairwise (· < ·)
  | [], _ => by simp [insI]
  | z :: l, h => by
    obtain ⟨h1, h2⟩ := List.pairwise_cons.1 h
    unfold insI
    split
    · rename_i hz
      refine List.pairwise_cons.2 ⟨fun a ha => ?_, asc_insI h2⟩
      rcases mem_insI.1 ha with rfl | ha
      · exact hz
      · exact h1 a ha
    · split
      · exact h
      · refine List.pairwise_cons.2 ⟨fun a ha => ?_, h⟩
        rcases List.mem_cons.1 ha with rfl | ha
        · omega
        · have := h1 a ha; omega
theorem insI_at {x : Int} : ∀ {l : List Int} {k : Nat} (hk : k ≤ l.length) (h0 : ∀ i (hi : i < l.length), i < k → l[i] < x) (h1 : ∀ (h : k < l.length), ¬ l[k] < x),
    insI x l = if k < l.length ∧ l.getD k 0 = x then l else l.take k ++ [x] ++ l.drop k
  | [], k, hk, _, _ => by
    obtain rfl : k = 0 := by simpa using hk
    simp [insI]
  | y :: l, 0, hk, h0, h1 => by
    have hy : ¬ y < x := h1 (by simp)
    unfold insI
    rw [if_neg hy]
    by_cases e : y = x
    · simp [e]
    · simp [e]
  | y :: l, k + 1, hk, h0, h1 => by
    have hy : y < x := h0 0 (by simp) (by omega)
    have ih := insI_at (x := x) (l := l) (k := k) (by simpa using hk) (fun i hi hik => h0 (i + 1) (by simpa using hi) (by omega)) (fun h => h1 (by simpa using h))
    unfold insI
    rw [if_pos hy, ih]
    simp only [List.length_cons, List.getD_cons_succ, Nat.add_lt_add_iff_right]
    split <;> simp
theorem insI_len (x : Int) : ∀ l : List Int, (insI x l).length ≤ l.length + 1
  | [] => by simp [insI]
  | y :: l => by
    have := insI_len x l
    unfold insI
    split
    · simp; omega
    · split <;> simp
def ids1 (o : List Int) (ids : List Int) : List Int := ids.foldl (fun o x => insI x o) o
def ids2 (o : List Int) (l : List Block) : List Int := l.foldl (fun o b => ids1 o b.ids) o
def idsS (a : List (List Block)) : List Int := a.foldl ids2 []
theorem ids1_len : ∀ (ids o : List Int), (ids1 o ids).length ≤ o.length + ids.length
  | [], o => by simp [ids1]
  | x :: ids, o => by
    have h1 := ids1_len ids (insI x o)
    have h2 := insI_len x o
    have e : ids1 o (x :: ids) = ids1 (insI x o) ids := rfl
    rw [e, List.length_cons]; omega
theorem ids2_len : ∀ (l : List Block) (o : List Int), (ids2 o l).length ≤ o.length + totalN l
  | [], o => by simp [ids2]
  | b :: l, o => by
    have h1 := ids2_len l (ids1 o b.ids)
    have h2 := ids1_len b.ids o
    have e : ids2 o (b :: l) = ids2 (ids1 o b.ids) l := rfl
    have e2 : totalN (b :: l) = b.ids.length + totalN l := by simp [totalN]
    rw [e, e2]; omega
theorem idsS_len : ∀ (a : List (List Block)) (o : List Int) (B : Nat), (∀ l ∈ a, totalN l ≤ B) → (a.foldl ids2 o).length ≤ o.length + a.length * B
  | [], o, _, _ => by simp
  | l :: a, o, B, h => by
    have h1 := idsS_len a (ids2 o l) B (fun x hx => h x (by simp [hx]))
    have h2 := ids2_len l o
    have h3 := h l (by simp)
    rw [List.foldl_cons, List.length_cons, Nat.succ_mul]; omega
theorem mem_ids1 {y : Int} : ∀ {ids o : List Int}, y ∈ ids1 o ids ↔ y ∈ o ∨ y ∈ ids
  | [], o => by simp [ids1]
  | x :: ids, o => by
    have e : ids1 o (x :: ids) = ids1 (insI x o) ids := rfl
    rw [e, mem_ids1, mem_insI, List.mem_cons]
    constructor
    · rintro ((h | h) | h)
      · exact .inr (.inl h)
      · exact .inl h
      · exact .inr (.inr h)
    · rintro (h | h | h)
      · exact .inl (.inr h)
      · exact .inl (.inl h)
      · exact .inr h
theorem mem_ids2 {y : Int} : ∀ {l : List Block} {o : List Int}, y ∈ ids2 o l ↔ y ∈ o ∨ y ∈ flatI l
  | [], o => by simp [ids2, flatI]
  | b :: l, o => by
    have e : ids2 o (b :: l) = ids2 (ids1 o b.ids) l := rfl
    have e2 : flatI (b :: l) = b.ids ++ flatI l := by simp [flatI]
    rw [e, mem_ids2, mem_ids1, e2, List.mem_append, or_assoc]
theorem mem_idsF {y : Int} : ∀ {a : List (List Block)} {o : List Int}, y ∈ a.foldl ids2 o ↔ y ∈ o ∨ ∃ l ∈ a, y ∈ flatI l
  | [], o => by simp
  | l :: a, o => by
    rw [List.foldl_cons, mem_idsF, mem_ids2]
    simp only [List.mem_cons, exists_eq_or_imp, or_assoc]
theorem asc_foldl {γ : Type} {f : List Int → γ → List Int} (hf : ∀ o x, o.Pairwise (· < ·) → (f o x).Pairwise (· < ·)) : ∀ (l : List γ) (o : List Int), o.Pairwise (· < ·) → (l.foldl f o).Pairwise (· < ·)
  | [], _, h => h
  | x :: l, o, h => asc_foldl hf l (f o x) (hf o x h)
theorem idsS_asc (a : List (List Block)) : (idsS a).Pairwise (· < ·) :=
  asc_foldl (fun o l h => asc_foldl (fun o b h => asc_foldl (fun o x h => asc_insI h) _ _ h) _ _ h) a [] List.Pairwise.nil

/-! ### All couples with their masks -/
def row1 (a b : List (List Block)) (x : Int) (ys : List Int) : List (Couple × Nat) := ys.filterMap fun y => if 0 < agN a b x y a.length then some (⟨x, y⟩, agN a b x y a.length) else none
def cplS (a b : List (List Block)) : List (Couple × Nat) := (idsS a).flatMap fun x => row1 a b x (idsS b)
theorem mem_row1 {a b : List (List Block)} {x : Int} {ys : List Int} {p : Couple × Nat} : p ∈ row1 a b x ys ↔ p.1.a = x ∧ p.1.b ∈ ys ∧ p.2 = agN a b x p.1.b a.length ∧ 0 < p.2 := by
  simp only [row1, List.mem_filterMap]
  constructor
  · rintro ⟨y, hy, h⟩
    split at h
    · rename_i h0
      obtain rfl := Option.some.inj h
      exact ⟨rfl, hy, rfl, h0⟩
    · cases h
  · rintro ⟨h1, h2, h3, h4⟩
    refine ⟨p.1.b, h2, ?_⟩
    rw [if_pos (by rw [← h3]; exact h4)]
    obtain ⟨⟨c1, c2⟩, m⟩ := p
    simp only at h1 h2 h3 h4 ⊢
    subst h1 h3; rfl
theorem mem_cplS {a b : List (List Block)} {p : Couple × Nat} : p ∈ cplS a b ↔ p.1.a ∈ idsS a ∧ p.1.b ∈ idsS b ∧ p.2 = agN a b p.1.a p.1.b a.length ∧ 0 < p.2 := by
  simp only [cplS, List.mem_flatMap, mem_row1]
  constructor
  · rintro ⟨x, hx, rfl, h⟩; exact ⟨hx, h⟩
  · rintro ⟨h1, h⟩; exact ⟨_, h1, rfl, h⟩
theorem row1_asc (a b : List (List Block)) (x : Int) : ∀ {ys : List Int}, ys.Pairwise (· < ·) → ((row1 a b x ys).map (·.1)).Pairwise (fun c d => c.a < d.a ∨ c.a = d.a ∧ c.b < d.b)
  | [], _ => List.Pairwise.nil
  | y :: ys, h => by
    obtain ⟨h1, h2⟩ := List.pairwise_cons.1 h
    have ih := row1_asc a b x h2
    unfold row1
    rw [List.filterMap_cons]
    by_cases h0 : 0 < agN a b x y a.length
    · rw [if_pos h0]
      simp only [List.map_cons]
      refine List.pairwise_cons.2 ⟨fun d hd => ?_, ih⟩
      obtain ⟨p, hp, rfl⟩ := List.mem_map.1 hd
      obtain ⟨q1, q2, _⟩ := mem_row1.1 hp
      exact .inr ⟨q1.symm, h1 _ q2⟩
    · rw [if_neg h0]; exact ih
theorem cplS_asc (a b : List (List Block)) : ((cplS a b).map (·.1)).Pairwise (fun c d => c.a < d.a ∨ c.a = d.a ∧ c.b < d.b) := by
  unfold cplS
  have key : ∀ xs : List Int, xs.Pairwise (· < ·) → ((xs.flatMap fun x => row1 a b x (idsS b)).map (·.1)).Pairwise (fun c d => c.a < d.a ∨ c.a = d.a ∧ c.b < d.b) := by
    intro xs
    induction xs with
    | nil => intro _; exact List.Pairwise.nil
    | cons x xs ih =>
      intro h
      obtain ⟨h1, h2⟩ := List.pairwise_cons.1 h
      rw [List.flatMap_cons, List.map_append, List.pairwise_append]
      refine ⟨row1_asc a b x (idsS_asc b), ih h2, fun c hc d hd => ?_⟩
      obtain ⟨p, hp, rfl⟩ := List.mem_map.1 hc
      obtain ⟨q, hq, rfl⟩ := List.mem_map.1 hd
      obtain ⟨x', hx', hq⟩ := List.mem_flatMap.1 hq
      have e1 := (mem_row1.1 hp).1
      have e2 := (mem_row1.1 hq).1
      have := h1 x' hx'
      left; omega
  exact key _ (idsS_asc a)
theorem pos_put {m : Agr} (h : ∀ c ∈ keys m, (mget m c).getD 0 ≠ 0) (n : Nat) (e : Couple) : ∀ c ∈ keys (put1 (2 ^ n) m e), (mget (put1 (2 ^ n) m e) c).getD 0 ≠ 0 := fun c hc => by
  unfold put1 at hc ⊢
  rw [mget_mput]
  split
  · rw [Option.getD_some]
    intro h0
    have := congrArg (fun z => z.testBit n) h0
    simp [Nat.testBit_or, Nat.testBit_two_pow] at this
  · rename_i hne
    rcases (mem_keys_mput m e _ c).1 hc with rfl | hc
    · exact absurd rfl hne
    · exact h c hc
theorem pos_foldl {γ : Type} {f : Agr → γ → Agr} (hf : ∀ m x, (∀ c ∈ keys m, (mget m c).getD 0 ≠ 0) → ∀ c ∈ keys (f m x), (mget (f m x) c).getD 0 ≠ 0) : ∀ (l : List γ) (m : Agr), (∀ c ∈ keys m, (mget m c).getD 0 ≠ 0) → ∀ c ∈ keys (l.foldl f m), (mget (l.foldl f m) c).getD 0 ≠ 0
  | [], _, h => h
  | x :: l, m, h => pos_foldl hf l (f m x) (hf m x h)
theorem agr_pos (a b : List (List Block)) : ∀ n, ∀ c ∈ keys (agrI a b n), (mget (agrI a b n) c).getD 0 ≠ 0
  | 0 => fun c hc => by cases hc
  | n + 1 => pos_foldl (fun m x h => pos_foldl (fun m y h => by
      unfold agr3
      split
      · exact pos_foldl (fun m s h => pos_foldl (fun m t h => pos_put h n _) _ m h) _ m h
      · exact h) _ m h) _ _ (agr_pos a b n)
theorem cplS_perm {a b : List (List Block)} (ha : ∀ l ∈ a, checkS l = 0) (hb : ∀ l ∈ b, checkS l = 0) (hl : a.length = b.length) : (cplS a b).Perm (agrI a b a.length) := by
  have hn1 : (cplS a b).Nodup := by
    have h := (cplS_asc a b).imp (S := fun c d => c ≠ d) (fun h e => by subst e; omega)
    exact (List.pairwise_map.1 h).imp (fun h e => h (by rw [e]))
  have hk := agrI_nodup a b a.length
  have hn2 : (agrI a b a.length).Nodup := (List.pairwise_map.1 hk).imp (fun h e => h (by rw [e]))
  refine (List.perm_ext_iff_of_nodup hn1 hn2).2 (fun p => ?_)
  rw [mem_cplS, agN_agr ha hb hl]
  constructor
  · rintro ⟨h1, h2, h3, h4⟩
    have hs : ∃ v, mget (agrI a b a.length) p.1 = some v := by
      cases hm : mget (agrI a b a.length) p.1 with
      | none => rw [show (⟨p.1.a, p.1.b⟩ : Couple) = p.1 from rfl, hm] at h3; simp at h3; omega
      | some v => exact ⟨v, rfl⟩
    obtain ⟨v, hv⟩ := hs
    rw [show (⟨p.1.a, p.1.b⟩ : Couple) = p.1 from rfl, hv, Option.getD_some] at h3
    have hmem : p.1 ∈ keys (agrI a b a.length) := (mget_isSome _ _).1 (by rw [hv]; rfl)
    obtain ⟨q, hq, e⟩ := List.mem_map.1 hmem
    have hq2 := mget_mem hk hq
    rw [e, hv] at hq2
    have : q = p := Prod.ext e (by rw [h3]; exact (Option.some.inj hq2).symm)
    rw [← this]; exact hq
  · intro hp
    have hv := mget_mem hk hp
    have hmem : p.1 ∈ keys (agrI a b a.length) := (mget_isSome _ _).1 (by rw [hv]; rfl)
    have h0 := agr_pos a b a.length p.1 hmem
    rw [hv, Option.getD_some] at h0
    have hval : (mget (agrI a b a.length) (⟨p.1.a, p.1.b⟩ : Couple)).getD 0 = p.2 := by rw [show (⟨p.1.a, p.1.b⟩ : Couple) = p.1 from rfl, hv]; rfl
    obtain ⟨k, hkb⟩ : ∃ k, p.2.testBit k = true := Classical.byContradiction fun hno => h0 (Nat.eq_of_testBit_eq fun k => by
      rw [Nat.zero_testBit]; exact Bool.eq_false_iff.2 (fun e => hno ⟨k, e⟩))
    have hb1 := bit_agrI a b p.1 k a.length
    unfold bit at hb1
    rw [hv, Option.getD_some, hkb] at hb1
    have hb2 := hb1.symm
    simp only [Bool.and_eq_true, decide_eq_true_eq] at hb2
    obtain ⟨hka, ht⟩ := hb2
    obtain ⟨x, hx, y, hy, _, h5, h6⟩ := tog_iff.1 ht
    have e1 : a.getD k [] = a[k] := by simp [List.getD, hka]
    have e2 : b.getD k [] = b[k]'(by omega) := by simp [List.getD, show k < b.length by omega]
    rw [e1] at hx
    rw [e2] at hy
    refine ⟨mem_idsF.2 (.inr ⟨_, List.getElem_mem hka, List.mem_flatMap.2 ⟨x, hx, h5⟩⟩), mem_idsF.2 (.inr ⟨_, List.getElem_mem (show k < b.length by omega), List.mem_flatMap.2 ⟨y, hy, h6⟩⟩), hval.symm, Nat.pos_of_ne_zero h0⟩
theorem cplS_list {a b : List (List Block)} (ha : ∀ l ∈ a, checkS l = 0) (hb : ∀ l ∈ b, checkS l = 0) (hl : a.length = b.length) (mk : Nat) : ((cplS a b).filter (hits mk)).map (·.1) = listS a b mk := by
  unfold listS
  refine sorted_unique leC_anti ((((cplS_perm ha hb hl).filter _).map _).trans (sortC_perm _).symm) ?_ (sortC_sorted _)
  have h := (cplS_asc a b).sublist ((List.filter_sublist (p := hits mk) (l := cplS a b)).map (·.1))
  exact h.imp (fun h => by rw [leC_iff]; omega)
theorem cplS_agree {a b : List (List Block)} (ha : ∀ l ∈ a, checkS l = 0) (hb : ∀ l ∈ b, checkS l = 0) (hl : a.length = b.length) (mk : Nat) : ((cplS a b).filter (alls mk)).length = agreeS a b mk :=
  ((cplS_perm ha hb hl).filter _).length_eq
theorem cplS_evO {a b : List (List Block)} (ha : ∀ l ∈ a, checkS l = 0) (hb : ∀ l ∈ b, checkS l = 0) (hl : a.length = b.length) (z : Nat) : evO z (cplS a b) = evO z (agrI a b a.length) :=
  evO_perm (by rw [List.append_nil]; exact cplS_perm ha hb hl)
theorem cplS_len {a b : List (List Block)} {mask : Int} (hz : checkM a b mask = 0) : (cplS a b).length ≤ 32768 := by
  obtain ⟨h1, h2, _⟩ := checkM_zero hz
  have hF := checkM_valid hz
  have ha : ∀ l ∈ a, checkS l = 0 := fun l h => by obtain ⟨i, hi, rfl⟩ := List.getElem_of_mem h; exact (checkF_zero hF i hi (by omega)).1
  have hb : ∀ l ∈ b, checkS l = 0 := fun l h => by obtain ⟨i, hi, rfl⟩ := List.getElem_of_mem h; exact (checkF_zero hF i (by omega) hi).2
  have hp := cplS_perm ha hb h1
  have := agr_len hz (tk := cplS a b) (lf := []) (by rw [List.append_nil]; exact hp)
  exact this
end Go.K

/- Parts of lists; clearing; results that lie in memory. -/
set_option linter.unusedVariables false
set_option linter.unusedSimpArgs false
namespace Go.K
open Rep

/-- `v2` is the part of the own list `v` from `k` on, `m` elements. -/
def SubS (n : Nat) (v v2 : Value) (k m : Nat) : Prop := ∃ g l c c', v = .slice (some ⟨g, 0, none⟩) l c ∧ v2 = .slice (some ⟨g, k * n, none⟩) m c'

section
variable {α : Type} [Rep α] {w w' : World} {C C' : Nat → Nat} {P : Program} {N : Nat} {env : Env} {x y z q : Operand} {t ty e : TypeId} {v v2 u : Value} {xs : List α} {j b g n k m e' : Nat}

theorem run_sliceBound_ok {kd : IntKind} {i : Int} {y : Nat} {code : BoundsCode} {w : World} (h0 : 0 ≤ i) (h1 : i ≤ y) : (Instr.sliceBound (.int kd i) y code).run P w = .ok i.toNat w := by
  simp [Instr.sliceBound, asIntOf, h0, h1]

/-- 's[k:]' of an own list. -/
theorem OwnL.from_ (h : OwnL w C j e v xs) (hy : ev env y = some v) {kd : IntKind} {i : Int} (hf : elemB P t = some (e', sz α)) (hz : ev env z = some (.int kd i)) (h0 : 0 ≤ i) (h1 : i < xs.length) :
    ∃ v2, SubS (sz α) v v2 i.toNat (xs.length - i.toNat) ∧ ∀ w', Val P N env (.slice t y (some z) none none) w' v2 := by
  obtain ⟨g, cap, cs, rfl, _, _, hc, hle, _⟩ := h.at_own (by omega)
  refine ⟨.slice (some ⟨g, i.toNat * sz α, none⟩) (xs.length - i.toNat) (cap - i.toNat), ⟨g, _, _, _, rfl, rfl⟩, fun w' => mk' fun ρ hρ oo ho => ?_⟩
  unfold elemB at hf
  split at hf
  · rename_i e1 hu
    split at hf
    · rename_i n' hn
      simp only [Option.some.injEq, Prod.mk.injEq] at hf
      obtain ⟨rfl, rfl⟩ := hf
      have hb := run_sliceBound_ok (P := P) (kd := kd) (y := xs.length) (code := .sliceB) (w := w') h0 (by omega)
      have hne : ¬ cap = i.toNat := by omega
      unfold execOp; rw [ho]
      simp [hρ _ _ hy, hρ _ _ hz, Instr.sliceAt, Instr.slice, Instr.sliceBounds, run_underlying hu, run_sizeOfB hn, hb, hne, addr_add]
    · cases hf
  · cases hf
/-- 's[:k]' of an own list. -/
theorem OwnL.to_ (h : OwnL w C j e v xs) (hy : ev env y = some v) {kd : IntKind} {i : Int} (hf : elemB P t = some (e', sz α)) (hz : ev env z = some (.int kd i)) (h0 : 0 ≤ i) (h1 : i ≤ xs.length) (hne : 0 < xs.length) :
    ∃ v2, OwnL w C j e v2 (xs.take i.toNat) ∧ ∀ w', Val P N env (.slice t y none (some z) none) w' v2 := by
  obtain ⟨g, cap, cs, rfl, hcol, hM, hc, hle, hsz, hr⟩ := h.at_own hne
  have hl : (xs.take i.toNat).length = i.toNat := by rw [List.length_take]; omega
  refine ⟨.slice (some ⟨g, 0, none⟩) (xs.take i.toNat).length cap, ⟨.inr ⟨g, cap, cs, rfl, hM, hc, by omega, hsz, fun k hk => ?_⟩, h.col⟩, fun w' => mk' fun ρ hρ oo ho => ?_⟩
  · rw [List.getElem_take]; exact hr k (by omega)
  · unfold elemB at hf
    split at hf
    · rename_i e1 hu
      split at hf
      · rename_i n' hn
        simp only [Option.some.injEq, Prod.mk.injEq] at hf
        obtain ⟨rfl, rfl⟩ := hf
        have hb := run_sliceBound_ok (P := P) (kd := kd) (y := cap) (code := .sliceAcap) (w := w') h0 (by omega)
        unfold execOp; rw [ho]
        rw [hl]
        simp [hρ _ _ hy, hρ _ _ hz, Instr.sliceAt, Instr.slice, Instr.sliceBounds, run_underlying hu, run_sizeOfB hn, hb, addr_add]
      · cases hf
    · cases hf
/-- 's[k:]' of a list. -/
theorem RV.from_ {M : Nat → Prop} (h : RV w M xs v) (hy : ev env y = some v) {kd : IntKind} {i : Int} (hf : elemB P t = some (e', sz α)) (hz : ev env z = some (.int kd i)) (h0 : 0 ≤ i) (h1 : i ≤ xs.length) :
    ∃ v2, RV w M (xs.drop i.toNat) v2 ∧ ∀ w', Val P N env (.slice t y (some z) none none) w' v2 := by
  obtain ⟨a, c, rfl, hc, hm, hs⟩ := rv_list.1 h
  have hval : ∀ w', Val P N env (.slice t y (some z) none none) w' (.slice (if c = i.toNat then a else a.map (·.add (i.toNat * sz α))) (xs.length - i.toNat) (c - i.toNat)) := fun w' => mk' fun ρ hρ oo ho => by
    unfold elemB at hf
    split at hf
    · rename_i e1 hu
      split at hf
      · rename_i n' hn
        simp only [Option.some.injEq, Prod.mk.injEq] at hf
        obtain ⟨rfl, rfl⟩ := hf
        have hb := run_sliceBound_ok (P := P) (kd := kd) (y := xs.length) (code := .sliceB) (w := w') h0 (by omega)
        unfold execOp; rw [ho]
        simp [hρ _ _ hy, hρ _ _ hz, Instr.sliceAt, Instr.slice, Instr.sliceBounds, run_underlying hu, run_sizeOfB hn, hb]
      · cases hf
    · cases hf
  refine ⟨_, ?_, hval⟩
  rw [← List.length_drop]
  refine rv_list.2 ⟨_, _, rfl, by rw [List.length_drop]; omega, by rw [List.length_drop]; omega, ?_⟩
  by_cases hd : xs.drop i.toNat = []
  · exact .inl hd
  · have hlt : i.toNat < xs.length := by
      rcases Nat.lt_or_ge i.toNat xs.length with h | h
      · exact h
      · exact absurd (List.drop_eq_nil_of_le h) hd
    rcases hs with rfl | ⟨b, o, rfl, hs⟩
    · simp at hlt
    · refine .inr ⟨b, o + i.toNat * sz α, ?_, ?_⟩
      · rw [if_neg (by omega)]; simp [addr_add]
      · obtain ⟨hb, cs, ty, fz, hc', hl, hr⟩ := hs
        refine ⟨hb, cs, ty, fz, hc', ?_, fun k hk => ?_⟩
        · rw [List.length_drop]
          have : i.toNat * sz α + (xs.length - i.toNat) * sz α = xs.length * sz α := by rw [← Nat.add_mul]; congr 1; omega
          omega
        · rw [List.length_drop] at hk
          have := hr (i.toNat + k) (by omega)
          rw [List.getElem_drop, show o + i.toNat * sz α + k * sz α = o + (i.toNat + k) * sz α from by rw [Nat.add_mul]; omega]
          exact this
/-- 's[:k]' of a list. -/
theorem RV.to_ {M : Nat → Prop} (h : RV w M xs v) (hy : ev env y = some v) {kd : IntKind} {i : Int} (hf : elemB P t = some (e', sz α)) (hz : ev env z = some (.int kd i)) (h0 : 0 ≤ i) (h1 : i ≤ xs.length) :
    ∃ v2, RV w M (xs.take i.toNat) v2 ∧ ∀ w', Val P N env (.slice t y none (some z) none) w' v2 := by
  obtain ⟨a, c, rfl, hc, hm, hs⟩ := rv_list.1 h
  have hl : (xs.take i.toNat).length = i.toNat := by rw [List.length_take]; omega
  have hval : ∀ w', Val P N env (.slice t y none (some z) none) w' (.slice a (xs.take i.toNat).length c) := fun w' => mk' fun ρ hρ oo ho => by
    unfold elemB at hf
    split at hf
    · rename_i e1 hu
      split at hf
      · rename_i n' hn
        simp only [Option.some.injEq, Prod.mk.injEq] at hf
        obtain ⟨rfl, rfl⟩ := hf
        have hb := run_sliceBound_ok (P := P) (kd := kd) (y := c) (code := .sliceAcap) (w := w') h0 (by omega)
        have ha' : (if c = 0 then a else a.map (·.add 0)) = a := by
          cases a with
          | none => simp
          | some a => simp [Addr.add]
        unfold execOp; rw [ho, hl]
        simp [hρ _ _ hy, hρ _ _ hz, Instr.sliceAt, Instr.slice, Instr.sliceBounds, run_underlying hu, run_sizeOfB hn, hb, ha']
      · cases hf
    · cases hf
  refine ⟨_, ?_, hval⟩
  refine rv_list.2 ⟨_, _, rfl, by omega, by omega, ?_⟩
  rcases hs with rfl | ⟨b, o, rfl, hb, cs, ty, fz, hc', hl', hr⟩
  · left; simp
  · refine .inr ⟨b, o, rfl, hb, cs, ty, fz, hc', ?_, fun k hk => ?_⟩
    · rw [hl]
      have := Nat.mul_le_mul_right (sz α) (show i.toNat ≤ xs.length by omega)
      omega
    · rw [List.getElem_take]; exact hr k (by omega)

theorem SubS.lenV (hs : SubS n v v2 k m) (hy : ev env y = some v2) {d : TypeId} (ht : P.underlying t = some (.slice d)) :
    ∀ w', Val P N env (.call { callee := .builtin .len, args := #[y], argTypes := #[t] }) w' (.int .i64 m) := fun w' => by
  obtain ⟨g', l, c, c', rfl, rfl⟩ := hs
  exact val_len_slice hy ht
end

section
variable {α : Type} [Rep α] {w : World} {C : Nat → Nat} {P : Program} {f : FuncId} {N : Nat} {k : List Item} {R : Value → World → Prop} {env : Env} {ops : Array Oper} {S : World → Prop} {i t : Nat} {L : List (Nat × Bool)} {v v2 : Value} {y z : Operand} {gd : Option (Nat × Bool)} {ty e e' : TypeId} {xs : List α} {j g : Nat} {kd : IntKind} {n : Int}
theorem sFR {M : Nat → Prop} (hop : opAt ops i = some (some t, .slice ty y (some z) none none, gd)) (hw : wantedE ops env gd = some true) (ht : Nat.blt t N = true) (hl : RV w M xs v) (hy : ev env y = some v)
    (hf : elemB P ty = some (e', sz α)) (hz : ev env z = some (.int kd n)) (h0 : 0 ≤ n) (h1 : n ≤ xs.length)
    (h : ∀ v2, RV w M (xs.drop n.toNat) v2 → Sch P f N k R ops S L ((t, v2) :: env) w) : Sch P f N k R ops S ((i, true) :: L) env w := by
  obtain ⟨v2, h2, h3⟩ := hl.from_ (P := P) (N := N) hy hf hz h0 h1
  exact yS hop hw ht (fun w' _ => h3 w') (h v2 h2)
theorem sTR {M : Nat → Prop} (hop : opAt ops i = some (some t, .slice ty y none (some z) none, gd)) (hw : wantedE ops env gd = some true) (ht : Nat.blt t N = true) (hl : RV w M xs v) (hy : ev env y = some v)
    (hf : elemB P ty = some (e', sz α)) (hz : ev env z = some (.int kd n)) (h0 : 0 ≤ n) (h1 : n ≤ xs.length)
    (h : ∀ v2, RV w M (xs.take n.toNat) v2 → Sch P f N k R ops S L ((t, v2) :: env) w) : Sch P f N k R ops S ((i, true) :: L) env w := by
  obtain ⟨v2, h2, h3⟩ := hl.to_ (P := P) (N := N) hy hf hz h0 h1
  exact yS hop hw ht (fun w' _ => h3 w') (h v2 h2)
end

/-! ### Results that lie in memory -/
section
variable {P : Program} {f : FuncId} {N : Nat} {k : List Item} {env : Env} {w : World} {R : Value → World → Prop}
end

/-! ### Small -/
section
variable {P : Program} {N : Nat} {env : Env} {w : World} {x y : Operand} {t u : TypeId} {m n r : Int}
theorem val_min (hx : ev env x = some (.int .i64 m)) (hy : ev env y = some (.int .i64 n)) (ht : P.underlying t = some (.int .i64)) :
    Val P N env (.call { callee := .builtin .min, args := #[x, y], argTypes := #[t, t] }) w (.int .i64 (min m n)) := mk' fun ρ hρ o ho => by
  unfold execOp; rw [ho]
  simp [hρ _ _ hx, hρ _ _ hy, go_sem, resolve, invoke, builtin, Builtin.min_, Builtin.min2]
  by_cases h : n < m
  · rw [if_pos h]; exact (Int.min_eq_right (by omega)).symm
  · rw [if_neg h]; exact (Int.min_eq_left (by omega)).symm
end
/-! ### Closures; a function that ends without 'return' -/
section
variable {P : Program} {f : FuncId} {N : Nat} {k : List Item} {env : Env} {w : World} {R : Value → World → Prop}
end
end Go.K
