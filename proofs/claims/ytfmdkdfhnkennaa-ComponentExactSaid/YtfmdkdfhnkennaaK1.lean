/- A calculus of steps over the model: a frame is known by a list of slots, code is walked with what is left to do as a list. -/
import Derived.WalkKit
import Derived.OrdersHeld
import Derived.KernelRfl
set_option linter.unusedVariables false
set_option linter.unusedSimpArgs false
namespace Go.K

/-- The frame of a normal call of function `f`. -/
def fr0 (f : FuncId) : Frame := { (default : Frame) with fn := f, kind := .normal }

/-- It returned, and R holds of the value and the world. -/
def Ret (R : Value → World → Prop) : Ending → World → Prop := fun e w => ∃ v, e = .returned v ∧ R v w

theorem Ret.mono {R R' : Value → World → Prop} (h : ∀ v w, R v w → R' v w) (e : Ending) (w : World) (hr : Ret R e w) : Ret R' e w :=
  let ⟨v, he, hv⟩ := hr; ⟨v, he, h v w hv⟩

/-- From this list of things to do, in this frame and world, function `f` returns, and R holds. -/
def Runs (P : Program) (f : FuncId) (k : List Item) (a : Act) (w : World) (R : Value → World → Prop) : Prop :=
  ∀ cs, ∃ v w' fr, R v w' ∧ Steps P (lone ((fr0 f).at a k) cs w) (lone fr cs w') ∧ fr.fn = f ∧ fr.leaving P w' (.returned v)

theorem calls_of_runs {P : Program} {f : FuncId} {fn : Func} {c : Code} {args : Array Value} {w : World} {R : Value → World → Prop}
    (hf : P.funcs[f]? = some fn) (hb : fn.body = some c)
    (h : Runs P f [.code c] { tmps := args ++ Array.replicate (fn.ntmps - args.size) undef, defers := [] } w R) : Calls P f args w (Ret R) := by
  intro cs
  have henter : Frame.enter P f args .normal = (fr0 f).at { tmps := args ++ Array.replicate (fn.ntmps - args.size) undef, defers := [] } [.code c] := by
    simp [Frame.enter, Frame.at, hf, hb, fr0]
  obtain ⟨v, w', fr, hR, hs, hfn, hl⟩ := h cs
  exact ⟨.returned v, w', fr, ⟨v, rfl, hR⟩, by rw [henter]; exact hs, hfn, hl⟩

theorem Runs.mono {P : Program} {f : FuncId} {k : List Item} {a : Act} {w : World} {R R' : Value → World → Prop}
    (h : Runs P f k a w R) (hr : ∀ v w, R v w → R' v w) : Runs P f k a w R' := fun cs =>
  let ⟨v, w', fr, hR, rest⟩ := h cs; ⟨v, w', fr, hr _ _ hR, rest⟩

section
variable {P : Program} {f : FuncId} {k : List Item} {a : Act} {w : World} {R : Value → World → Prop}

theorem Runs.step {a' : Act} {k' : List Item} {w' : World}
    (hs : ∀ cs, step P (lone ((fr0 f).at a k) cs w) = .next (lone ((fr0 f).at a' k') cs w')) (h : Runs P f k' a' w' R) : Runs P f k a w R := fun cs =>
  let ⟨v, w'', fr, hR, hst, hfn, hl⟩ := h cs
  ⟨v, w'', fr, hR, .head (hs cs) hst, hfn, hl⟩

/-- What a piece of code must come to: its end, and then what is left. -/
def QK (P : Program) (f : FuncId) (k : List Item) (R : Value → World → Prop) : Exit → Act → World → Prop
  | .normal, a, w => Runs P f k a w R
  | _, _, _ => False

theorem runs_of_wp {c : Code} (h : c.wp P (QK P f k R) a w) : Runs P f (.code c :: k) a w R := by
  intro cs
  obtain ⟨e, a', w', hq, harr⟩ := h (fr0 f) k cs
  cases e with
  | normal =>
    obtain ⟨v, w'', fr, hR, hst, hfn, hl⟩ := hq cs
    exact ⟨v, w'', fr, hR, Steps.trans harr hst, hfn, hl⟩
  | _ => exact hq.elim

theorem runs_ret {fn : Func} {v : Value} (hf : P.funcs[f]? = some fn) (hd : a.defers = []) (hr : (results fn a.tmps).run P w = .ok v w) (hR : R v w) :
    Runs P f (.code .ret :: k) a w R := fun cs =>
  ⟨v, w, _, hR, .one step_ret, rfl, rfl, hd, rfl, fn, hf, hr⟩
end

/-! ### The order of a region's operations -/

/-- Is an operation left? -/
def stab : List (Nat × Bool) → Bool
  | [] => false
  | _ :: _ => true
/-- At most one operation is left, and it is carried out as it comes. -/
def lastB : List (Nat × Bool) → Bool
  | [] => true
  | [(_, b)] => !b
  | _ :: _ :: _ => false
/-- The operations of a region in the order `L`; an operation that bears `true` yields its value in every world that meets `S`; `S` is asked for as long as such operations are left. -/
def GoL (P : Program) (ops : Array Oper) (S : World → Prop) (Q : Exit → Act → World → Prop) : List (Nat × Bool) → Act → World → Prop
  | [], a, w => Q .normal a w
  | (i, true) :: L, a, w => ∃ o v, ops[i]? = some o ∧ YieldsIf P ops S o v a ∧ GoL P ops S Q L (a.put o.dst v) w
  | (i, false) :: L, a, w => wpOp P ops Q i (fun a' w' => (stab L = true → S w') ∧ GoL P ops S Q L a' w') a w

section
variable {P : Program} {ops : Array Oper} {S : World → Prop} {Q : Exit → Act → World → Prop}

theorem gol_plain : ∀ (L : List (Nat × Bool)) (a : Act) (w : World), GoL P ops (fun _ => True) Q L a w → wpOps P ops Q (L.map (·.1)) a w
  | [], a, w, h => h
  | (i, true) :: L, a, w, h => by
    obtain ⟨o, v, hi, hy, h⟩ := h
    rw [List.map_cons, wpOps_cons]
    exact hy.wpOp hi trivial (gol_plain L _ _ h)
  | (i, false) :: L, a, w, h => by
    rw [List.map_cons, wpOps_cons]
    exact wpOp_mono (fun a' w' h' => gol_plain L a' w' h'.2) h
theorem gol_free : ∀ (L : List (Nat × Bool)) (a : Act) (w : World), lastB L = true → GoL P ops (fun _ => True) Q L a w → GoL P ops S Q L a w
  | [], a, w, _, h => h
  | [(i, true)], a, w, hs, h => by cases hs
  | [(i, false)], a, w, hs, h => wpOp_mono (fun a' w' h' => ⟨fun e => (by cases e), h'.2⟩) h
  | _ :: _ :: _, a, w, hs, h => by cases hs

/-! #### Whatever order is drawn: the condition is asked for until one operation, the bar, has come up, which waits for all that were taken first. -/

def wpAnyB (P : Program) (ops : Array Oper) (Q : Exit → Act → World → Prop) (S : World → Prop) (jb : Nat) : Nat → Array Bool → Act → World → Prop
  | 0, listed, a, w => Region.ready .any ops listed = [] ∧ Q .normal a w
  | fuel + 1, listed, a, w =>
    (Region.ready .any ops listed = [] → Q .normal a w) ∧
    ∀ i ∈ Region.ready .any ops listed, wpOp P ops Q i (fun a' w' => ((listed.setIfInBounds i true).getD jb false = false → S w') ∧ wpAnyB P ops Q S jb fuel (listed.setIfInBounds i true) a' w') a w
theorem wpAny_of_bar {jb : Nat} : ∀ (fuel : Nat) (listed : Array Bool) (a : Act) (w : World), wpAnyB P ops Q S jb fuel listed a w → wpAny P .any ops Q fuel listed a w
  | 0, _, _, _, h => h
  | fuel + 1, _, _, _, h => ⟨h.1, fun i hi => wpOp_mono (fun a' w' h' => wpAny_of_bar fuel _ a' w' h'.2) (h.2 i hi)⟩

/-- What has come up, came up behind all that it waits for. -/
def Closed (ops : Array Oper) (listed : Array Bool) : Prop :=
  listed.size = ops.size ∧ ∀ k ok, ops[k]? = some ok → listed.getD k false = true → ∀ e ∈ ok.after, Region.binds .any e = true → listed.getD e.on false = true
theorem closed_set {j : Nat} {listed : Array Bool} (hc : Closed ops listed) (hj : j ∈ Region.ready .any ops listed) : Closed ops (listed.setIfInBounds j true) := by
  refine ⟨by simp [hc.1], fun k ok hk hl e he hb => ?_⟩
  by_cases hkj : k = j
  · subst hkj
    obtain ⟨_, o, ho, hall⟩ := mem_ready.1 hj
    rw [hk] at ho; cases ho
    exact getD_set_true (hall e he hb)
  · rw [getD_set_ne false (Ne.symm hkj)] at hl
    exact getD_set_true (hc.2 k ok hk hl e he hb)
/-- Operation `j` waits for `i`. -/
def needs (ops : Array Oper) : Nat → Nat → Nat → Bool
  | 0, j, i => Nat.beq j i
  | n + 1, j, i => Nat.beq j i || (match ops[j]? with | some o => o.after.any (fun e => Region.binds .any e && Nat.beq e.on i) || o.after.any (fun e => Region.binds .any e && needs ops n e.on i) | none => false)
theorem needs_spec {i : Nat} {listed : Array Bool} (hc : Closed ops listed) : ∀ (n j : Nat), needs ops n j i = true → listed.getD j false = true → listed.getD i false = true
  | 0, j, h, hj => by rw [← Nat.eq_of_beq_eq_true h]; exact hj
  | n + 1, j, h, hj => by
    unfold needs at h
    rw [Bool.or_eq_true] at h
    rcases h with h | h
    · rw [← Nat.eq_of_beq_eq_true h]; exact hj
    · cases ho : ops[j]? with
      | none => rw [ho] at h; cases h
      | some o =>
        rw [ho] at h
        simp only [Bool.or_eq_true] at h
        rcases h with h | h
        · obtain ⟨e, he, hb⟩ := Array.any_eq_true'.1 h
          rw [Bool.and_eq_true] at hb
          rw [← Nat.eq_of_beq_eq_true hb.2]
          exact hc.2 j o ho hj e he hb.1
        · obtain ⟨e, he, hb⟩ := Array.any_eq_true'.1 h
          rw [Bool.and_eq_true] at hb
          exact needs_spec hc n e.on hb.2 (hc.2 j o ho hj e he hb.1)

theorem wpAnyB_first {jb i : Nat} {oi : Oper} {v : Value} (hi : ops[i]? = some oi) (hsel : ∀ (j : Nat) (o : Oper) cs b, ops[j]? = some o → o.op ≠ .select cs b)
    (hQ : ∀ c a w, Q (.panic c) (a.put oi.dst v) w → Q (.panic c) a w) (hne : i ≠ jb) (hneed : ∀ listed, Closed ops listed → listed.getD jb false = true → listed.getD i false = true) :
    ∀ (fuel : Nat) (listed : Array Bool) (a : Act) (w : World), Closed ops listed →
      (∀ j oj, ops[j]? = some oj → j ≠ i → listed.getD j true = false → (∀ e ∈ oj.after, Region.binds .any e = true → e.on ≠ i) → oi.apart ops oj = true) →
      i ∈ Region.ready .any ops listed → YieldsIf P ops S oi v a → S w →
      wpAnyB P ops Q S jb fuel (listed.setIfInBounds i true) (a.put oi.dst v) w → wpAnyB P ops Q S jb (fuel + 1) listed a w := by
  intro fuel
  induction fuel with
  | zero =>
    intro listed a w hcl _ hr hy hS H
    refine ⟨fun h => (by rw [h] at hr; cases hr), fun j hj => ?_⟩
    by_cases hji : j = i
    · subst hji; exact hy.wpOp hi hS ⟨fun _ => hS, H⟩
    · have := ready_mono hj hji
      rw [H.1] at this
      cases this
  | succ fuel ih =>
    intro listed a w hcl hfree hr hy hS H
    refine ⟨fun h => (by rw [h] at hr; cases hr), fun j hj => ?_⟩
    by_cases hji : j = i
    · subst hji; exact hy.wpOp hi hS ⟨fun _ => hS, H⟩
    · have h1 := H.2 j (ready_mono hj hji)
      obtain ⟨hjun, oj, hoj, hall⟩ := mem_ready.1 hj
      have hiun := (mem_ready.1 hr).1
      have hif : ∀ l : Array Bool, l.getD i true = false → l.getD i false = false := fun l h => by
        rcases Nat.lt_or_ge i l.size with h' | h'
        · simp [h'] at h ⊢; exact h
        · simp [Array.getElem?_eq_none h']
      have hnot : ∀ e ∈ oj.after, Region.binds .any e = true → e.on ≠ i := fun e he hb heq => by
        have h1 := hall e he hb
        rw [heq, hif _ hiun] at h1; cases h1
      have hcl' := closed_set hcl hj
      have hiun' : (listed.setIfInBounds j true).getD i true = false := by rw [getD_set_ne true hji]; exact hiun
      have hjbun : (listed.setIfInBounds j true).getD jb false = false := by
        cases hb : (listed.setIfInBounds j true).getD jb false with
        | false => rfl
        | true => have := hneed _ hcl' hb; rw [hif _ hiun'] at this; cases this
      have hjbun2 : ((listed.setIfInBounds i true).setIfInBounds j true).getD jb false = false := by
        rw [Array.setIfInBounds_comm _ _ (Ne.symm hji), getD_set_ne false hne]; exact hjbun
      have h2 := wpOp_putIf hoj (hfree j oj hoj hji hjun hnot) (fun cs b => hsel i oi cs b hi) (fun cs b => hsel j oj cs b hoj) hQ hy h1
      have hfree' : ∀ k ok, ops[k]? = some ok → k ≠ i → (listed.setIfInBounds j true).getD k true = false →
          (∀ e ∈ ok.after, Region.binds .any e = true → e.on ≠ i) → oi.apart ops ok = true := fun k ok hk hki hun hno => by
        refine hfree k ok hk hki ?_ hno
        by_cases hjk : j = k
        · subst hjk; exact hjun
        · rw [getD_set_ne true hjk] at hun; exact hun
      refine wpOp_mono (fun a' w' h3 => ⟨fun _ => h3.2.1 hjbun2, ih (listed.setIfInBounds j true) a' w' hcl' hfree' (ready_mono hr (Ne.symm hji)) h3.1 (h3.2.1 hjbun2) ?_⟩) h2
      rw [Array.setIfInBounds_comm _ _ hji]
      exact h3.2.2

/-- The last operation, if it is carried out as it comes. -/
def barOf (n : Nat) : List (Nat × Bool) → Nat
  | [] => n
  | [(i, b)] => if b then n else i
  | _ :: x :: L => barOf n (x :: L)
/-- May the operations come in the order `L`, whatever order is drawn? -/
def chkB (ops : Array Oper) (jb : Nat) : Nat → Array Bool → List (Nat × Bool) → Bool
  | _, listed, [] => (Region.ready .any ops listed).isEmpty
  | 0, _, _ :: _ => false
  | n + 1, listed, (i, true) :: L => !Nat.beq i jb && (Nat.ble ops.size jb || needs ops 8 jb i) && Region.free .any ops listed i && (Region.ready .any ops listed).contains i && chkB ops jb n (listed.setIfInBounds i true) L
  | n + 1, listed, (i, false) :: L => (Region.ready .any ops listed == [i]) && ((listed.setIfInBounds i true).getD jb false || stab L) && chkB ops jb n (listed.setIfInBounds i true) L
def chk (ops : Array Oper) (n : Nat) (listed : Array Bool) (L : List (Nat × Bool)) : Bool := chkB ops (barOf ops.size L) n listed L

theorem hneed_of {jb i : Nat} (h : (Nat.ble ops.size jb || needs ops 8 jb i) = true) : ∀ listed, Closed ops listed → listed.getD jb false = true → listed.getD i false = true := fun listed hc hj => by
  rw [Bool.or_eq_true] at h
  rcases h with h | h
  · have := Nat.le_of_ble_eq_true h
    rw [Array.getD_eq_getD_getElem?, Array.getElem?_eq_none (by rw [hc.1]; exact this)] at hj
    cases hj
  · exact needs_spec hc _ _ h hj
theorem gol_drawn (hs : Region.noSelect ops = true) (hQ : ∀ c a d v w, Q (.panic c) (Act.put a d v) w → Q (.panic c) a w) {jb : Nat} :
    ∀ (n : Nat) (listed : Array Bool) (L : List (Nat × Bool)) (a : Act) (w : World), chkB ops jb n listed L = true → Closed ops listed → (stab L = true → S w) → GoL P ops S Q L a w →
      wpAnyB P ops Q S jb n listed a w
  | n, listed, [], a, w, hc, _, _, h => by
    have hr : Region.ready .any ops listed = [] := by simpa [chkB] using hc
    cases n with
    | zero => exact ⟨hr, h⟩
    | succ n => exact ⟨fun _ => h, by rw [hr]; simp⟩
  | 0, _, x :: L, a, w, hc, _, _, _ => by cases hc
  | n + 1, listed, (i, true) :: L, a, w, hc, hcl, hS, h => by
    simp only [chkB, Bool.and_eq_true] at hc
    obtain ⟨⟨⟨⟨h1, h2⟩, h3⟩, h4⟩, h5⟩ := hc
    obtain ⟨o, v, hi, hy, h⟩ := h
    have hr : i ∈ Region.ready .any ops listed := by simpa using h4
    have hSw := hS rfl
    refine wpAnyB_first hi (Region.noSelect_spec hs) (fun c a w hq => hQ c a _ _ w hq) (fun e => by subst e; simp at h1) (hneed_of h2) n listed a w hcl (Region.free_spec hi h3) hr hy hSw (gol_drawn hs hQ n _ L _ w h5 (closed_set hcl hr) (fun _ => hSw) h)
  | n + 1, listed, (i, false) :: L, a, w, hc, hcl, hS, h => by
    simp only [chkB, Bool.and_eq_true, beq_iff_eq] at hc
    obtain ⟨⟨h1, h2⟩, h3⟩ := hc
    have hr : i ∈ Region.ready .any ops listed := by rw [h1]; simp
    refine ⟨fun h0 => (by rw [h0] at h1; cases h1), fun j hj => ?_⟩
    rw [h1, List.mem_singleton] at hj
    subst hj
    refine wpOp_mono (fun a' w' h' => ⟨fun hb => h'.1 ?_, gol_drawn hs hQ n _ L a' w' h3 (closed_set hcl hr) h'.1 h'.2⟩) h
    rw [hb] at h2
    simpa using h2

theorem yieldsIf_det {o : Oper} {v v' : Value} {a : Act} {w : World} (h : YieldsIf P ops S o v a) (h' : YieldsIf P ops S o v' a) (hS : S w) : v = v' := by
  rcases h with ⟨h1, h2⟩ | ⟨h1, rfl⟩ <;> rcases h' with ⟨h3, h4⟩ | ⟨h3, rfl⟩
  · have := (h2 w hS).symm.trans (h4 w hS)
    simpa using this
  · rw [h1] at h3; cases h3
  · rw [h1] at h3; cases h3
  · rfl

/-- As 'chk', where behind `A` one of two may come up. -/
def chk2B (ops : Array Oper) (jb i : Nat) (L : List (Nat × Bool)) (i' : Nat) (L' : List (Nat × Bool)) : Nat → Array Bool → List Nat → Bool
  | 0, _, _ => false
  | n + 1, listed, [] => (Region.ready .any ops listed == [i, i']) && ((listed.setIfInBounds i true).getD jb false || stab L) && chkB ops jb n (listed.setIfInBounds i true) L && ((listed.setIfInBounds i' true).getD jb false || stab L') && chkB ops jb n (listed.setIfInBounds i' true) L'
  | n + 1, listed, j :: A => !Nat.beq j jb && (Nat.ble ops.size jb || needs ops 8 jb j) && Region.free .any ops listed j && (Region.ready .any ops listed).contains j && chk2B ops jb i L i' L' n (listed.setIfInBounds j true) A
def chk2 (ops : Array Oper) (i : Nat) (L : List (Nat × Bool)) (i' : Nat) (L' : List (Nat × Bool)) (n : Nat) (listed : Array Bool) (A : List Nat) : Bool := chk2B ops (barOf ops.size ((i, false) :: L)) i L i' L' n listed A

theorem gol_fork (hs : Region.noSelect ops = true) (hQ : ∀ c a d v w, Q (.panic c) (Act.put a d v) w → Q (.panic c) a w) {jb i i' : Nat} {L L' : List (Nat × Bool)} :
    ∀ (n : Nat) (listed : Array Bool) (A : List Nat) (a : Act) (w : World), chk2B ops jb i L i' L' n listed A = true → Closed ops listed → S w →
      GoL P ops S Q (A.map (fun j => (j, true)) ++ (i, false) :: L) a w → GoL P ops S Q (A.map (fun j => (j, true)) ++ (i', false) :: L') a w → wpAnyB P ops Q S jb n listed a w
  | 0, _, _, _, _, hc, _, _, _, _ => by cases hc
  | n + 1, listed, [], a, w, hc, hcl, hS, h, h' => by
    simp only [chk2B, Bool.and_eq_true, beq_iff_eq] at hc
    obtain ⟨⟨⟨⟨h0, h1⟩, h2⟩, h3⟩, h4⟩ := hc
    have hr : i ∈ Region.ready .any ops listed := by rw [h0]; simp
    have hr' : i' ∈ Region.ready .any ops listed := by rw [h0]; simp
    refine ⟨fun h0' => (by rw [h0'] at h0; cases h0), fun j hj => ?_⟩
    rw [h0] at hj
    simp only [List.mem_cons, List.not_mem_nil, or_false] at hj
    rcases hj with rfl | rfl
    · exact wpOp_mono (fun a' w' g => ⟨fun hb => g.1 (by rw [hb] at h1; simpa using h1), gol_drawn hs hQ n _ L a' w' h2 (closed_set hcl hr) g.1 g.2⟩) h
    · exact wpOp_mono (fun a' w' g => ⟨fun hb => g.1 (by rw [hb] at h3; simpa using h3), gol_drawn hs hQ n _ L' a' w' h4 (closed_set hcl hr') g.1 g.2⟩) h'
  | n + 1, listed, j :: A, a, w, hc, hcl, hS, h, h' => by
    simp only [chk2B, Bool.and_eq_true] at hc
    obtain ⟨⟨⟨⟨h1, h2⟩, h3⟩, h4⟩, h5⟩ := hc
    obtain ⟨o, v, hi, hy, h⟩ := h
    obtain ⟨o', v', hi', hy', h'⟩ := h'
    rw [hi] at hi'
    cases hi'
    obtain rfl := yieldsIf_det hy hy' hS
    have hr : j ∈ Region.ready .any ops listed := by simpa using h4
    exact wpAnyB_first hi (Region.noSelect_spec hs) (fun c a w hq => hQ c a _ _ w hq) (fun e => by subst e; simp at h1) (hneed_of h2) n listed a w hcl (Region.free_spec hi h3) hr hy hS (gol_fork hs hQ n _ A _ w h5 (closed_set hcl hr) hS h h')
theorem closed_none (ops : Array Oper) : Closed ops (Array.replicate ops.size false) := ⟨by simp, fun k ok _ hl => by
  rcases Nat.lt_or_ge k ops.size with h | h
  · simp [h] at hl
  · simp [Array.getElem?_eq_none, h] at hl⟩
end

/-! ### Frames as lists of slots -/

abbrev Env := List (Nat × Value)

def look : Env → Nat → Option Value
  | [], _ => none
  | (t, v) :: e, u => bif Nat.beq t u then some v else look e u

structure St (N : Nat) (env : Env) (a : Act) : Prop where
  size : a.tmps.size = N
  defers : a.defers = []
  slot : ∀ t v, look env t = some v → a.tmps[t]? = some v

def putE (d : Option Nat) (v : Value) (env : Env) : Env := match d with | some t => (t, v) :: env | none => env
def dOk (N : Nat) (d : Option Nat) : Bool := match d with | some t => Nat.blt t N | none => true

theorem St.put {N : Nat} {env : Env} {a : Act} (h : St N env a) {d : Option Nat} (hd : dOk N d = true) (v : Value) : St N (putE d v env) (a.put d v) := by
  cases d with
  | none => exact ⟨h.size, h.defers, h.slot⟩
  | some t =>
    have ht : t < N := by have h : t + 1 ≤ N := by simpa [dOk, Nat.blt] using hd
                          omega
    refine ⟨by simp [Act.put, h.size], h.defers, fun u x hx => ?_⟩
    simp only [putE, look] at hx
    simp only [Act.put, Array.getElem?_setIfInBounds]
    by_cases e : t = u
    · subst e
      simp at hx
      simp [h.size, ht, hx]
    · have e' : Nat.beq t u = false := by
        cases hb : Nat.beq t u with
        | false => rfl
        | true => exact absurd (Nat.eq_of_beq_eq_true hb) e
      rw [e'] at hx
      simp only [cond_false] at hx
      simp [e, h.slot u x hx]

/-- What an operand is. -/
def ev (env : Env) : Operand → Option Value
  | .tmp t => look env t
  | .const v => some v
  | .func g => some (.func (.func g) #[] #[])
  | .global g => some (.pointer (some ⟨g, 0, none⟩))

theorem St.ev {N : Nat} {env : Env} {a : Act} (h : St N env a) {x : Operand} {v : Value} (hx : ev env x = some v) : a.eval x = v := by
  cases x with
  | tmp t =>
    have := h.slot t v hx
    simp only [Act.eval]
    rw [Array.getD_eq_getD_getElem?, this]; rfl
  | const u => simpa [K.ev, Act.eval] using hx
  | func g => simpa [K.ev, Act.eval] using hx
  | global g => simpa [K.ev, Act.eval] using hx

def evs (env : Env) : List Operand → Option (List Value)
  | [] => some []
  | x :: l => match ev env x, evs env l with | some v, some r => some (v :: r) | _, _ => none

theorem St.evs {N : Nat} {env : Env} {a : Act} (h : St N env a) : ∀ {l : List Operand} {vs : List Value}, evs env l = some vs → l.map a.eval = vs
  | [], vs, hl => by simpa [K.evs] using hl
  | x :: l, vs, hl => by
    simp only [K.evs] at hl
    cases hx : K.ev env x with
    | none => rw [hx] at hl; cases hl
    | some v =>
      cases hr : K.evs env l with
      | none => rw [hx, hr] at hl; cases hl
      | some r =>
        rw [hx, hr] at hl
        simp only [Option.some.injEq] at hl
        subst hl
        simp [h.ev hx, h.evs hr]

/-- Every slot that the first list names holds in the second what it says. -/
def Sub (env' env : Env) : Prop := ∀ t v, look env' t = some v → look env t = some v
theorem sub_nil (env : Env) : Sub [] env := fun t v h => by cases h
theorem sub_cons (t : Nat) {u v : Value} {env' env : Env} (hl : look env t = some u) (hv : u = v) (h : Sub env' env) : Sub ((t, v) :: env') env := by
  subst hv
  intro s x hx
  simp only [look] at hx
  cases hb : Nat.beq t s with
  | true =>
    rw [hb] at hx
    simp only [cond_true, Option.some.injEq] at hx
    rw [← Nat.eq_of_beq_eq_true hb, hl, hx]
  | false => rw [hb] at hx; exact h s x hx
theorem Sub.refl (env : Env) : Sub env env := fun _ _ h => h
theorem St.sub {N : Nat} {env env' : Env} {a : Act} (h : St N env a) (hs : Sub env' env) : St N env' a := ⟨h.size, h.defers, fun t v ht => h.slot t v (hs t v ht)⟩

/-- From this list of things to do, in every frame that shows these slots. -/
def Run (P : Program) (f : FuncId) (N : Nat) (k : List Item) (env : Env) (w : World) (R : Value → World → Prop) : Prop :=
  ∀ a, St N env a → Runs P f k a w R

/-- The same in the middle of a region. -/
def Sch (P : Program) (f : FuncId) (N : Nat) (k : List Item) (R : Value → World → Prop) (ops : Array Oper) (S : World → Prop) (L : List (Nat × Bool)) (env : Env) (w : World) : Prop :=
  ∀ a, St N env a → GoL P ops S (QK P f k R) L a w

section
variable {P : Program} {f : FuncId} {N : Nat} {k : List Item} {env : Env} {w : World} {R : Value → World → Prop}

theorem Run.sub {env' : Env} (hs : Sub env' env) (h : Run P f N k env' w R) : Run P f N k env w R := fun a ha => h a (ha.sub hs)

theorem run_seq {c x y : Code} (hc : c = .seq x y) (h : Run P f N (.code x :: .code y :: k) env w R) : Run P f N (.code c :: k) env w R := fun a ha => by
  subst hc; exact Runs.step (fun _ => step_seq) (h a ha)
theorem run_block {c x : Code} {id : Nat} (hc : c = .block id x) (h : Run P f N (.code x :: .inBlock id :: k) env w R) : Run P f N (.code c :: k) env w R := fun a ha => by
  subst hc; exact Runs.step (fun _ => step_block) (h a ha)
theorem run_inBlock {id : Nat} (h : Run P f N k env w R) : Run P f N (.inBlock id :: k) env w R := fun a ha =>
  Runs.step (fun _ => step_inBlock) (h a ha)
theorem run_skip {c : Code} (hc : c = .skip) (h : Run P f N k env w R) : Run P f N (.code c :: k) env w R := fun a ha => by
  subst hc; exact Runs.step (fun _ => step_skip) (h a ha)
theorem run_exit {c : Code} {id : Nat} {k' : List Item} (hc : c = .exit id) (hk : exitTo id k = some k') (h : Run P f N k' env w R) : Run P f N (.code c :: k) env w R := fun a ha => by
  subst hc; exact Runs.step (fun _ => step_exit hk) (h a ha)
theorem run_cond {c x y : Code} {o : Operand} {b : Bool} (hc : c = .cond o x y) (hv : ev env o = some (.bool b))
    (ht : b = true → Run P f N (.code x :: k) env w R) (hf : b = false → Run P f N (.code y :: k) env w R) : Run P f N (.code c :: k) env w R := fun a ha => by
  subst hc
  have := ha.ev hv
  cases b with
  | true => exact Runs.step (fun _ => step_cond this) (ht rfl a ha)
  | false => exact Runs.step (fun _ => step_cond this) (hf rfl a ha)
theorem run_if {c x y : Code} {o : Operand} {p : Prop} [Decidable p] (hc : c = .cond o x y) (hv : ev env o = some (.bool (decide p)))
    (ht : p → Run P f N (.code x :: k) env w R) (hf : ¬ p → Run P f N (.code y :: k) env w R) : Run P f N (.code c :: k) env w R :=
  run_cond hc hv (fun h => ht (of_decide_eq_true h)) (fun h => hf (of_decide_eq_false h))

/-- A loop: what its head keeps is a list of slots and a fact, both over some `x`; a round lowers `m x`. -/
theorem run_loop {c body : Code} {ι : Type} (I : ι → World → Prop) (e : ι → Env) (m : ι → Nat) (x₀ : ι) (hc : c = .loop body)
    (hs : Sub (e x₀) env) (h0 : I x₀ w)
    (hr : ∀ x w, I x w → (∀ y w', I y w' → m y < m x → Run P f N (.inLoop body :: k) (e y) w' R) → Run P f N (.code body :: .inLoop body :: k) (e x) w R) :
    Run P f N (.code c :: k) env w R := by
  subst hc
  have main : ∀ n x w, m x ≤ n → I x w → Run P f N (.inLoop body :: k) (e x) w R := by
    intro n
    induction n with
    | zero =>
      intro x w hm hI a ha
      exact Runs.step (fun _ => step_inLoop) (hr x w hI (fun y w' hy hlt => by omega) a ha)
    | succ n ih =>
      intro x w hm hI a ha
      exact Runs.step (fun _ => step_inLoop) (hr x w hI (fun y w' hy hlt => ih y w' (by omega) hy) a ha)
  intro a ha
  exact Runs.step (fun _ => step_loop) (hr x₀ w h0 (fun y w' hy hlt => main (m y) y w' (Nat.le_refl _) hy) a (ha.sub hs))

theorem run_ret1 {c : Code} {fn : Func} {t : Nat} {v : Value} (hc : c = .ret) (hf : P.funcs[f]? = some fn) (hres : fn.results = #[.tmp t]) (hv : look env t = some v)
    (hR : R v w) : Run P f N (.code c :: k) env w R := fun a ha => by
  subst hc
  refine runs_ret hf ha.defers ?_ hR
  have := ha.slot t v hv
  simp only [results, hres]
  simp [this, Sem.run, pure, Array.getD_eq_getD_getElem?]
theorem run_ret0 {c : Code} {fn : Func} (hc : c = .ret) (hf : P.funcs[f]? = some fn) (hres : fn.results = #[])
    (hR : R (.tuple #[]) w) : Run P f N (.code c :: k) env w R := fun a ha => by
  subst hc
  refine runs_ret hf ha.defers ?_ hR
  simp [results, hres, Sem.run, pure]
theorem run_ret2 {c : Code} {fn : Func} {t u : Nat} {v x : Value} (hc : c = .ret) (hf : P.funcs[f]? = some fn) (hres : fn.results = #[.tmp t, .tmp u]) (hv : look env t = some v) (hx : look env u = some x)
    (hR : R (.tuple #[v, x]) w) : Run P f N (.code c :: k) env w R := fun a ha => by
  subst hc
  refine runs_ret hf ha.defers ?_ hR
  rw [results_tmp2 hres]
  have h1 := ha.slot t v hv
  have h2 := ha.slot u x hx
  simp [h1, h2, Array.getD_eq_getD_getElem?]

/-! ### Regions -/

theorem run_plain {c : Code} {id : Nat} {ops : Array Oper} (L : List (Nat × Bool)) (hc : c = .region id ops false)
    (hL : L.map (·.1) = List.range ops.size) (h : Sch P f N k R ops (fun _ => True) L env w) : Run P f N (.code c :: k) env w R := fun a ha => by
  subst hc
  exact runs_of_wp (wp_region (by rw [← hL]; exact gol_plain L a w (h a ha)))

theorem run_drawn {c : Code} {id : Nat} {ops : Array Oper} (S : World → Prop) (L : List (Nat × Bool)) (hm : P.follows .mixedOrders = true) (hc : c = .region id ops true)
    (hn : Region.noSelect ops = true) (hk : chk ops ops.size (Array.replicate ops.size false) L = true) (hS : S { w with drawn := w.drawn + 1 })
    (h : Sch P f N k R ops S L env { w with drawn := w.drawn + 1 }) : Run P f N (.code c :: k) env w R := fun a ha => by
  subst hc
  exact runs_of_wp (wp_region_any hm (wpAny_of_bar _ _ _ _ (gol_drawn hn (fun c a d v w h => h.elim) _ _ L a _ hk (closed_none ops) (fun _ => hS) (h a ha))))

theorem run_drawn2 {c : Code} {id : Nat} {ops : Array Oper} (S : World → Prop) (A : List Nat) (i : Nat) (L : List (Nat × Bool)) (i' : Nat) (L' : List (Nat × Bool)) (hm : P.follows .mixedOrders = true) (hc : c = .region id ops true)
    (hn : Region.noSelect ops = true) (hk : chk2 ops i L i' L' ops.size (Array.replicate ops.size false) A = true) (hS : S { w with drawn := w.drawn + 1 })
    (h : Sch P f N k R ops S (A.map (fun j => (j, true)) ++ (i, false) :: L) env { w with drawn := w.drawn + 1 }) (h' : Sch P f N k R ops S (A.map (fun j => (j, true)) ++ (i', false) :: L') env { w with drawn := w.drawn + 1 }) : Run P f N (.code c :: k) env w R := fun a ha => by
  subst hc
  exact runs_of_wp (wp_region_any hm (wpAny_of_bar _ _ _ _ (gol_fork hn (fun c a d v w h => h.elim) _ _ A a _ hk (closed_none ops) hS (h a ha) (h' a ha))))

/-- What an operation is, without its place in the text and its edges. -/
def opAt (ops : Array Oper) (i : Nat) : Option (Option Tmp × Op × Option (Nat × Bool)) := (ops[i]?).map fun o => (o.dst, o.op, o.guard)
def dstAt (ops : Array Oper) (i : Nat) : Option Tmp := (ops[i]?).bind (·.dst)

/-- In this world, in every frame that shows these slots, the operation yields `v`. -/
def Val (P : Program) (N : Nat) (env : Env) (op : Op) (w : World) (v : Value) : Prop :=
  ∀ a, St N env a → ∀ o : Oper, o.op = op → (execOp a.eval o).run P w = .ok (.value v) w

variable {ops : Array Oper} {S : World → Prop} {i : Nat} {L : List (Nat × Bool)} {d : Option Nat} {op : Op} {v : Value}

/-- No operation is left that asks for the condition. -/
theorem Sch.free (hs : lastB L = true) (h : Sch P f N k R ops (fun _ => True) L env w) : Sch P f N k R ops S L env w := fun a ha => gol_free L a w hs (h a ha)

theorem Sch.nil (h : Run P f N k env w R) : Sch P f N k R ops S [] env w := fun a ha => h a ha

theorem Sch.sub {env' : Env} (hs : Sub env' env) (h : Sch P f N k R ops S L env' w) : Sch P f N k R ops S L env w := fun a ha => h a (ha.sub hs)

theorem opAt_spec {g : Option (Nat × Bool)} (h : opAt ops i = some (d, op, g)) : ∃ o, ops[i]? = some o ∧ o.dst = d ∧ o.op = op ∧ o.guard = g := by
  unfold opAt at h
  cases ho : ops[i]? with
  | none => rw [ho] at h; cases h
  | some o =>
    rw [ho] at h
    simp only [Option.map_some, Option.some.injEq, Prod.mk.injEq] at h
    exact ⟨o, rfl, h⟩

/-- Is the operation carried out? -/
def wantedE (ops : Array Oper) (env : Env) : Option (Nat × Bool) → Option Bool
  | none => some true
  | some (j, want) => match dstAt ops j with
    | none => some false
    | some t => match look env t with
      | none => none
      | some (.bool b) => some (b == want)
      | some _ => some false

theorem St.wanted {a : Act} (ha : St N env a) {o : Oper} {b : Bool} (h : wantedE ops env o.guard = some b) : Region.wanted o (yielded ops a.tmps) = b := by
  unfold Region.wanted
  cases hg : o.guard with
  | none => rw [hg] at h; simpa [wantedE] using h
  | some p =>
    obtain ⟨j, want⟩ := p
    rw [hg] at h
    simp only [wantedE, dstAt] at h
    simp only [yielded]
    cases hj : (ops[j]?).bind (·.dst) with
    | none => rw [hj] at h; simp only [Option.some.injEq] at h; subst h; rfl
    | some t =>
      rw [hj] at h
      simp only at h
      cases hl : look env t with
      | none => rw [hl] at h; cases h
      | some u =>
        rw [hl] at h
        have := ha.slot t u hl
        simp only [Option.bind_some, this]
        cases u <;> simp only [Option.some.injEq] at h <;> subst h <;> first | rfl | (rename_i x; cases x <;> cases want <;> rfl)

/-- It yields a value, whatever world that meets S stands. -/
theorem Sch.yield {g : Option (Nat × Bool)} (hop : opAt ops i = some (d, op, g)) (hw : wantedE ops env g = some true) (hd : dOk N d = true)
    (hy : ∀ w', S w' → Val P N env op w' v) (h : Sch P f N k R ops S L (putE d v env) w) : Sch P f N k R ops S ((i, true) :: L) env w := fun a ha => by
  obtain ⟨o, ho, rfl, rfl, rfl⟩ := opAt_spec hop
  exact ⟨o, v, ho, .inl ⟨ha.wanted hw, fun w' hS => hy w' hS a ha o rfl⟩, h _ (ha.put hd v)⟩

/-- It is passed over. -/
theorem Sch.pass {g : Option (Nat × Bool)} (hop : opAt ops i = some (d, op, g)) (hw : wantedE ops env g = some false) (hd : dOk N d = true)
    (h : Sch P f N k R ops S L (putE d undef env) w) : Sch P f N k R ops S ((i, true) :: L) env w := fun a ha => by
  obtain ⟨o, ho, rfl, rfl, rfl⟩ := opAt_spec hop
  exact ⟨o, undef, ho, .inr ⟨ha.wanted hw, rfl⟩, h _ (ha.put hd undef)⟩
theorem Sch.passW {g : Option (Nat × Bool)} (hop : opAt ops i = some (d, op, g)) (hw : wantedE ops env g = some false) (hd : dOk N d = true) (hS : S w)
    (h : Sch P f N k R ops S L (putE d undef env) w) : Sch P f N k R ops S ((i, false) :: L) env w := fun a ha => by
  obtain ⟨o, ho, rfl, rfl, rfl⟩ := opAt_spec hop
  simp only [GoL, wpOp, ho, ha.wanted hw, Bool.false_eq_true, if_false]
  exact ⟨fun _ => hS, h _ (ha.put hd undef)⟩

/-- It is carried out in the world at hand, and may turn it. -/
def Acts (P : Program) (N : Nat) (env : Env) (op : Op) (w : World) (T : Value → World → Prop) : Prop :=
  ∀ a, St N env a → ∀ o : Oper, o.op = op → ∃ v w', ((execOp a.eval o).run P w = .ok (.value v) w' ∨ ((execOp a.eval o).run P w = .ok .skip w' ∧ v = undef)) ∧ T v w'

theorem Sch.act {g : Option (Nat × Bool)} {T : Value → World → Prop} (hop : opAt ops i = some (d, op, g)) (hw : wantedE ops env g = some true) (hd : dOk N d = true)
    (hy : Acts P N env op w T) (h : ∀ v w', T v w' → S w' ∧ Sch P f N k R ops S L (putE d v env) w') : Sch P f N k R ops S ((i, false) :: L) env w := fun a ha => by
  obtain ⟨o, ho, rfl, rfl, rfl⟩ := opAt_spec hop
  simp only [GoL, wpOp, ho, ha.wanted hw, if_true]
  obtain ⟨v, w', hrun, hT⟩ := hy a ha o rfl
  left
  unfold Oper.wp
  obtain ⟨h1, h2⟩ := h v w' hT
  rcases hrun with hrun | ⟨hrun, rfl⟩
  · rw [hrun]; exact ⟨fun _ => h1, h2 _ (ha.put hd v)⟩
  · rw [hrun]; exact ⟨fun _ => h1, h2 _ (ha.put hd undef)⟩

theorem Val.acts (h : Val P N env op w v) : Acts P N env op w (fun x w' => x = v ∧ w' = w) := fun a ha o ho => ⟨v, w, .inl (h a ha o ho), rfl, rfl⟩

/-- It yields a value in the world at hand. -/
theorem Sch.now {g : Option (Nat × Bool)} (hop : opAt ops i = some (d, op, g)) (hw : wantedE ops env g = some true) (hd : dOk N d = true) (hS : S w)
    (hy : Val P N env op w v) (h : Sch P f N k R ops S L (putE d v env) w) : Sch P f N k R ops S ((i, false) :: L) env w :=
  Sch.act hop hw hd hy.acts (by rintro _ _ ⟨rfl, rfl⟩; exact ⟨hS, h⟩)

/-- It calls a Go function. -/
def Enters (P : Program) (N : Nat) (env : Env) (op : Op) (w : World) (g : FuncId) (args : Array Value) : Prop :=
  ∀ a, St N env a → ∀ o : Oper, o.op = op → (execOp a.eval o).run P w = .ok (.enter g args) w

theorem Sch.call {gd : Option (Nat × Bool)} {g : FuncId} {args : Array Value} {T : Value → World → Prop} (hop : opAt ops i = some (d, op, gd)) (hw : wantedE ops env gd = some true) (hd : dOk N d = true)
    (hy : Enters P N env op w g args) (hc : Calls P g args w (Ret T))
    (h : ∀ v w', T v w' → S w' ∧ Sch P f N k R ops S L (putE d v env) w') : Sch P f N k R ops S ((i, false) :: L) env w := fun a ha => by
  obtain ⟨o, ho, rfl, rfl, rfl⟩ := opAt_spec hop
  simp only [GoL, wpOp, ho, ha.wanted hw, if_true]
  left
  unfold Oper.wp
  rw [hy a ha o rfl]
  simp only [Oper.upon]
  refine hc.mono fun e w' he => ?_
  obtain ⟨v, rfl, hT⟩ := he
  obtain ⟨h1, h2⟩ := h v w' hT
  exact ⟨fun _ => h1, h2 _ (ha.put hd v)⟩

end

/-- A call from its body. -/
theorem calls_body {P : Program} {f : FuncId} {fn : Func} {c : Code} {args : List Value} {N : Nat} {env : Env} {w : World} {R : Value → World → Prop}
    (hf : P.funcs[f]? = some fn) (hb : fn.body = some c) (hN : fn.ntmps = N) (hsz : Nat.ble args.length N = true) (he : ∀ t v, look env t = some v → args[t]? = some v)
    (h : Run P f N [.code c] env w R) : Calls P f args.toArray w (Ret R) := by
  refine calls_of_runs hf hb (h _ ?_)
  have : args.length ≤ N := Nat.le_of_ble_eq_true hsz
  refine ⟨by simp [hN]; omega, rfl, fun t v ht => ?_⟩
  have h1 := he t v ht
  have h2 : t < args.length := by
    rcases Nat.lt_or_ge t args.length with h | h
    · exact h
    · rw [List.getElem?_eq_none h] at h1; cases h1
  simp only
  rw [Array.getElem?_append_left (by simpa using h2)]
  simpa using h1

/-- The slots of a call's arguments. -/
def argEnv : Nat → List Value → Env
  | _, [] => []
  | n, v :: l => (n, v) :: argEnv (n + 1) l
theorem look_argEnv : ∀ (l : List Value) (n t : Nat) (v : Value), look (argEnv n l) t = some v → n ≤ t ∧ l[t - n]? = some v
  | [], _, _, _, h => by cases h
  | x :: l, n, t, v, h => by
    simp only [argEnv, look] at h
    cases hb : Nat.beq n t with
    | true =>
      rw [hb] at h
      have e := Nat.eq_of_beq_eq_true hb
      subst e
      simp at h
      simp [h]
    | false =>
      rw [hb] at h
      have hne : n ≠ t := fun e => by subst e; simp at hb
      obtain ⟨h1, h2⟩ := look_argEnv l (n + 1) t v h
      refine ⟨by omega, ?_⟩
      have : t - n = (t - (n + 1)) + 1 := by omega
      rw [this]; simpa using h2
theorem calls_start {P : Program} {f : FuncId} {fn : Func} {c : Code} (args : List Value) {N : Nat} {w : World} {R : Value → World → Prop}
    (hf : P.funcs[f]? = some fn) (hb : fn.body = some c) (hN : fn.ntmps = N) (hsz : Nat.ble args.length N = true)
    (h : Run P f N [.code c] (argEnv 0 args) w R) : Calls P f args.toArray w (Ret R) :=
  calls_body hf hb hN hsz (fun t v ht => by simpa using (look_argEnv args 0 t v ht).2) h

end Go.K
