/- A calculus of steps over the model: a frame is known by a list of slots, code is walked with what is left to do as a list. -/
import Derived.WalkKit
import Derived.OrdersHeld
import Derived.KernelRfl
import Derived.Laws.MakeOwn
import Derived.WideKeyRuns
import Derived.MapKept
import Derived.Laws.StructEq
import Derived.ChangeKeysEq
set_option linter.unusedVariables false
set_option linter.unusedSimpArgs false
namespace Go.K

/-- The frame of a normal call of function `f`. -/
def fr0 (f : FuncId) : Frame := { (default : Frame) with fn := f, kind := .normal }

/-- It returned, and R holds of the value and the world. -/
def Ret (R : Value → World → Prop) : Ending → World → Prop := fun e w => ∃ v, e = .returned v ∧ R v w

theorem Ret.mono {R R' : Value → World → Prop} (h : ∀ v w, R v w → R' v w) (e : Ending) (w : World) (hr : Ret R e w) : Ret R' e w :=
  let ⟨v, he, hv⟩ := hr; ⟨v, he, h v w hv⟩

/-- From this list of things to do, in this frame and world, function `f` returns, and R holds. -/
def Runs (P : Program) (f : FuncId) (k : List Item) (a : Act) (w : World) (R : Value → World → Prop) : Prop :=
  ∀ cs, ∃ v w' fr, R v w' ∧ Steps P (lone ((fr0 f).at a k) cs w) (lone fr cs w') ∧ fr.fn = f ∧ fr.leaving P w' (.returned v)

theorem calls_of_runs {P : Program} {f : FuncId} {fn : Func} {c : Code} {args : Array Value} {w : World} {R : Value → World → Prop}
    (hf : P.funcs[f]? = some fn) (hb : fn.body = some c)
    (h : Runs P f [.code c] { tmps := args ++ Array.replicate (fn.ntmps - args.size) undef, defers := [] } w R) : Calls P f args w (Ret R) := by
  intro cs
  have henter : Frame.enter P f args .normal = (fr0 f).at { tmps := args ++ Array.replicate (fn.ntmps - args.size) undef, defers := [] } [.code c] := by
    simp [Frame.enter, Frame.at, hf, hb, fr0]
  obtain ⟨v, w', fr, hR, hs, hfn, hl⟩ := h cs
  exact ⟨.returned v, w', fr, ⟨v, rfl, hR⟩, by rw [henter]; exact hs, hfn, hl⟩

theorem Runs.mono {P : Program} {f : FuncId} {k : List Item} {a : Act} {w : World} {R R' : Value → World → Prop}
    (h : Runs P f k a w R) (hr : ∀ v w, R v w → R' v w) : Runs P f k a w R' := fun cs =>
  let ⟨v, w', fr, hR, rest⟩ := h cs; ⟨v, w', fr, hr _ _ hR, rest⟩

section
variable {P : Program} {f : FuncId} {k : List Item} {a : Act} {w : World} {R : Value → World → Prop}

theorem Runs.step {a' : Act} {k' : List Item} {w' : World}
    (hs : ∀ cs, step P (lone ((fr0 f).at a k) cs w) = .next (lone ((fr0 f).at a' k') cs w')) (h : Runs P f k' a' w' R) : Runs P f k a w R := fun cs =>
  let ⟨v, w'', fr, hR, hst, hfn, hl⟩ := h cs
  ⟨v, w'', fr, hR, .head (hs cs) hst, hfn, hl⟩

/-- What a piece of code must come to: its end, and then what is left. -/
def QK (P : Program) (f : FuncId) (k : List Item) (R : Value → World → Prop) : Exit → Act → World → Prop
  | .normal, a, w => Runs P f k a w R
  | _, _, _ => False

theorem runs_of_wp {c : Code} (h : c.wp P (QK P f k R) a w) : Runs P f (.code c :: k) a w R := by
  intro cs
  obtain ⟨e, a', w', hq, harr⟩ := h (fr0 f) k cs
  cases e with
  | normal =>
    obtain ⟨v, w'', fr, hR, hst, hfn, hl⟩ := hq cs
    exact ⟨v, w'', fr, hR, Steps.trans harr hst, hfn, hl⟩
  | _ => exact hq.elim

theorem runs_ret {fn : Func} {v : Value} (hf : P.funcs[f]? = some fn) (hd : a.defers = []) (hr : (results fn a.tmps).run P w = .ok v w) (hR : R v w) :
    Runs P f (.code .ret :: k) a w R := fun cs =>
  ⟨v, w, _, hR, .one step_ret, rfl, rfl, hd, rfl, fn, hf, hr⟩
end

/-! ### The order of a region's operations -/

/-- Is an operation left? -/
def stab : List (Nat × Bool) → Bool
  | [] => false
  | _ :: _ => true
/-- At most one operation is left, and it is carried out as it comes. -/
def lastB : List (Nat × Bool) → Bool
  | [] => true
  | [(_, b)] => !b
  | _ :: _ :: _ => false
/-- The operations of a region in the order `L`; an operation that bears `true` yields its value in every world that meets `S`; `S` is asked for as long as such operations are left. -/
def GoL (P : Program) (ops : Array Oper) (S : World → Prop) (Q : Exit → Act → World → Prop) : List (Nat × Bool) → Act → World → Prop
  | [], a, w => Q .normal a w
  | (i, true) :: L, a, w => ∃ o v, ops[i]? = some o ∧ YieldsIf P ops S o v a ∧ GoL P ops S Q L (a.put o.dst v) w
  | (i, false) :: L, a, w => wpOp P ops Q i (fun a' w' => (stab L = true → S w') ∧ GoL P ops S Q L a' w') a w

section
variable {P : Program} {ops : Array Oper} {S : World → Prop} {Q : Exit → Act → World → Prop}

theorem gol_plain : ∀ (L : List (Nat × Bool)) (a : Act) (w : World), GoL P ops (fun _ => True) Q L a w → wpOps P ops Q (L.map (·.1)) a w
  | [], a, w, h => h
  | (i, true) :: L, a, w, h => by
    obtain ⟨o, v, hi, hy, h⟩ := h
    rw [List.map_cons, wpOps_cons]
    exact hy.wpOp hi trivial (gol_plain L _ _ h)
  | (i, false) :: L, a, w, h => by
    rw [List.map_cons, wpOps_cons]
    exact wpOp_mono (fun a' w' h' => gol_plain L a' w' h'.2) h
theorem gol_free : ∀ (L : List (Nat × Bool)) (a : Act) (w : World), lastB L = true → GoL P ops (fun _ => True) Q L a w → GoL P ops S Q L a w
  | [], a, w, _, h => h
  | [(i, true)], a, w, hs, h => by cases hs
  | [(i, false)], a, w, hs, h => wpOp_mono (fun a' w' h' => ⟨fun e => (by cases e), h'.2⟩) h
  | _ :: _ :: _, a, w, hs, h => by cases hs

/-! #### Whatever order is drawn: the condition is asked for until one operation, the bar, has come up, which waits for all that were taken first. -/

def wpAnyB (P : Program) (ops : Array Oper) (Q : Exit → Act → World → Prop) (S : World → Prop) (jb : Nat) : Nat → Array Bool → Act → World → Prop
  | 0, listed, a, w => Region.ready .any ops listed = [] ∧ Q .normal a w
  | fuel + 1, listed, a, w =>
    (Region.ready .any ops listed = [] → Q .normal a w) ∧
    ∀ i ∈ Region.ready .any ops listed, wpOp P ops Q i (fun a' w' => ((listed.setIfInBounds i true).getD jb false = false → S w') ∧ wpAnyB P ops Q S jb fuel (listed.setIfInBounds i true) a' w') a w
theorem wpAny_of_bar {jb : Nat} : ∀ (fuel : Nat) (listed : Array Bool) (a : Act) (w : World), wpAnyB P ops Q S jb fuel listed a w → wpAny P .any ops Q fuel listed a w
  | 0, _, _, _, h => h
  | fuel + 1, _, _, _, h => ⟨h.1, fun i hi => wpOp_mono (fun a' w' h' => wpAny_of_bar fuel _ a' w' h'.2) (h.2 i hi)⟩

/-- What has come up, came up behind all that it waits for. -/
def Closed (ops : Array Oper) (listed : Array Bool) : Prop :=
  listed.size = ops.size ∧ ∀ k ok, ops[k]? = some ok → listed.getD k false = true → ∀ e ∈ ok.after, Region.binds .any e = true → listed.getD e.on false = true
theorem closed_set {j : Nat} {listed : Array Bool} (hc : Closed ops listed) (hj : j ∈ Region.ready .any ops listed) : Closed ops (listed.setIfInBounds j true) := by
  refine ⟨by simp [hc.1], fun k ok hk hl e he hb => ?_⟩
  by_cases hkj : k = j
  · subst hkj
    obtain ⟨_, o, ho, hall⟩ := mem_ready.1 hj
    rw [hk] at ho; cases ho
    exact getD_set_true (hall e he hb)
  · rw [getD_set_ne false (Ne.symm hkj)] at hl
    exact getD_set_true (hc.2 k ok hk hl e he hb)
/-- Operation `j` waits for `i`. -/
def needs (ops : Array Oper) : Nat → Nat → Nat → Bool
  | 0, j, i => Nat.beq j i
  | n + 1, j, i => Nat.beq j i || (match ops[j]? with | some o => o.after.any (fun e => Region.binds .any e && Nat.beq e.on i) || o.after.any (fun e => Region.binds .any e && needs ops n e.on i) | none => false)
theorem needs_spec {i : Nat} {listed : Array Bool} (hc : Closed ops listed) : ∀ (n j : Nat), needs ops n j i = true → listed.getD j false = true → listed.getD i false = true
  | 0, j, h, hj => by rw [← Nat.eq_of_beq_eq_true h]; exact hj
  | n + 1, j, h, hj => by
    unfold needs at h
    rw [Bool.or_eq_true] at h
    rcases h with h | h
    · rw [← Nat.eq_of_beq_eq_true h]; exact hj
    · cases ho : ops[j]? with
      | none => rw [ho] at h; cases h
      | some o =>
        rw [ho] at h
        simp only [Bool.or_eq_true] at h
        rcases h with h | h
        · obtain ⟨e, he, hb⟩ := Array.any_eq_true'.1 h
          rw [Bool.and_eq_true] at hb
          rw [← Nat.eq_of_beq_eq_true hb.2]
          exact hc.2 j o ho hj e he hb.1
        · obtain ⟨e, he, hb⟩ := Array.any_eq_true'.1 h
          rw [Bool.and_eq_true] at hb
          exact needs_spec hc n e.on hb.2 (hc.2 j o ho hj e he hb.1)

theorem wpAnyB_first {jb i : Nat} {oi : Oper} {v : Value} (hi : ops[i]? = some oi) (hsel : ∀ (j : Nat) (o : Oper) cs b, ops[j]? = some o → o.op ≠ .select cs b)
    (hQ : ∀ c a w, Q (.panic c) (a.put oi.dst v) w → Q (.panic c) a w) (hne : i ≠ jb) (hneed : ∀ listed, Closed ops listed → listed.getD jb false = true → listed.getD i false = true) :
    ∀ (fuel : Nat) (listed : Array Bool) (a : Act) (w : World), Closed ops listed →
      (∀ j oj, ops[j]? = some oj → j ≠ i → listed.getD j true = false → (∀ e ∈ oj.after, Region.binds .any e = true → e.on ≠ i) → oi.apart ops oj = true) →
      i ∈ Region.ready .any ops listed → YieldsIf P ops S oi v a → S w →
      wpAnyB P ops Q S jb fuel (listed.setIfInBounds i true) (a.put oi.dst v) w → wpAnyB P ops Q S jb (fuel + 1) listed a w := by
  intro fuel
  induction fuel with
  | zero =>
    intro listed a w hcl _ hr hy hS H
    refine ⟨fun h => (by rw [h] at hr; cases hr), fun j hj => ?_⟩
    by_cases hji : j = i
    · subst hji; exact hy.wpOp hi hS ⟨fun _ => hS, H⟩
    · have := ready_mono hj hji
      rw [H.1] at this
      cases this
  | succ fuel ih =>
    intro listed a w hcl hfree hr hy hS H
    refine ⟨fun h => (by rw [h] at hr; cases hr), fun j hj => ?_⟩
    by_cases hji : j = i
    · subst hji; exact hy.wpOp hi hS ⟨fun _ => hS, H⟩
    · have h1 := H.2 j (ready_mono hj hji)
      obtain ⟨hjun, oj, hoj, hall⟩ := mem_ready.1 hj
      have hiun := (mem_ready.1 hr).1
      have hif : ∀ l : Array Bool, l.getD i true = false → l.getD i false = false := fun l h => by
        rcases Nat.lt_or_ge i l.size with h' | h'
        · simp [h'] at h ⊢; exact h
        · simp [Array.getElem?_eq_none h']
      have hnot : ∀ e ∈ oj.after, Region.binds .any e = true → e.on ≠ i := fun e he hb heq => by
        have h1 := hall e he hb
        rw [heq, hif _ hiun] at h1; cases h1
      have hcl' := closed_set hcl hj
      have hiun' : (listed.setIfInBounds j true).getD i true = false := by rw [getD_set_ne true hji]; exact hiun
      have hjbun : (listed.setIfInBounds j true).getD jb false = false := by
        cases hb : (listed.setIfInBounds j true).getD jb false with
        | false => rfl
        | true => have := hneed _ hcl' hb; rw [hif _ hiun'] at this; cases this
      have hjbun2 : ((listed.setIfInBounds i true).setIfInBounds j true).getD jb false = false := by
        rw [Array.setIfInBounds_comm _ _ (Ne.symm hji), getD_set_ne false hne]; exact hjbun
      have h2 := wpOp_putIf hoj (hfree j oj hoj hji hjun hnot) (fun cs b => hsel i oi cs b hi) (fun cs b => hsel j oj cs b hoj) hQ hy h1
      have hfree' : ∀ k ok, ops[k]? = some ok → k ≠ i → (listed.setIfInBounds j true).getD k true = false →
          (∀ e ∈ ok.after, Region.binds .any e = true → e.on ≠ i) → oi.apart ops ok = true := fun k ok hk hki hun hno => by
        refine hfree k ok hk hki ?_ hno
        by_cases hjk : j = k
        · subst hjk; exact hjun
        · rw [getD_set_ne true hjk] at hun; exact hun
      refine wpOp_mono (fun a' w' h3 => ⟨fun _ => h3.2.1 hjbun2, ih (listed.setIfInBounds j true) a' w' hcl' hfree' (ready_mono hr (Ne.symm hji)) h3.1 (h3.2.1 hjbun2) ?_⟩) h2
      rw [Array.setIfInBounds_comm _ _ hji]
      exact h3.2.2

/-- The last operation, if it is carried out as it comes. -/
def barOf (n : Nat) : List (Nat × Bool) → Nat
  | [] => n
  | [(i, b)] => if b then n else i
  | _ :: x :: L => barOf n (x :: L)
/-- May the operations come in the order `L`, whatever order is drawn? -/
def chkB (ops : Array Oper) (jb : Nat) : Nat → Array Bool → List (Nat × Bool) → Bool
  | _, listed, [] => (Region.ready .any ops listed).isEmpty
  | 0, _, _ :: _ => false
  | n + 1, listed, (i, true) :: L => !Nat.beq i jb && (Nat.ble ops.size jb || needs ops 8 jb i) && Region.free .any ops listed i && (Region.ready .any ops listed).contains i && chkB ops jb n (listed.setIfInBounds i true) L
  | n + 1, listed, (i, false) :: L => (Region.ready .any ops listed == [i]) && ((listed.setIfInBounds i true).getD jb false || stab L) && chkB ops jb n (listed.setIfInBounds i true) L
def chk (ops : Array Oper) (n : Nat) (listed : Array Bool) (L : List (Nat × Bool)) : Bool := chkB ops (barOf ops.size L) n listed L

theorem hneed_of {jb i : Nat} (h : (Nat.ble ops.size jb || needs ops 8 jb i) = true) : ∀ listed, Closed ops listed → listed.getD jb false = true → listed.getD i false = true := fun listed hc hj => by
  rw [Bool.or_eq_true] at h
  rcases h with h | h
  · have := Nat.le_of_ble_eq_true h
    rw [Array.getD_eq_getD_getElem?, Array.getElem?_eq_none (by rw [hc.1]; exact this)] at hj
    cases hj
  · exact needs_spec hc _ _ h hj
theorem gol_drawn (hs : Region.noSelect ops = true) (hQ : ∀ c a d v w, Q (.panic c) (Act.put a d v) w → Q (.panic c) a w) {jb : Nat} :
    ∀ (n : Nat) (listed : Array Bool) (L : List (Nat × Bool)) (a : Act) (w : World), chkB ops jb n listed L = true → Closed ops listed → (stab L = true → S w) → GoL P ops S Q L a w →
      wpAnyB P ops Q S jb n listed a w
  | n, listed, [], a, w, hc, _, _, h => by
    have hr : Region.ready .any ops listed = [] := by simpa [chkB] using hc
    cases n with
    | zero => exact ⟨hr, h⟩
    | succ n => exact ⟨fun _ => h, by rw [hr]; simp⟩
  | 0, _, x :: L, a, w, hc, _, _, _ => by cases hc
  | n + 1, listed, (i, true) :: L, a, w, hc, hcl, hS, h => by
    simp only [chkB, Bool.and_eq_true] at hc
    obtain ⟨⟨⟨⟨h1, h2⟩, h3⟩, h4⟩, h5⟩ := hc
    obtain ⟨o, v, hi, hy, h⟩ := h
    have hr : i ∈ Region.ready .any ops listed := by simpa using h4
    have hSw := hS rfl
    refine wpAnyB_first hi (Region.noSelect_spec hs) (fun c a w hq => hQ c a _ _ w hq) (fun e => by subst e; simp at h1) (hneed_of h2) n listed a w hcl (Region.free_spec hi h3) hr hy hSw (gol_drawn hs hQ n _ L _ w h5 (closed_set hcl hr) (fun _ => hSw) h)
  | n + 1, listed, (i, false) :: L, a, w, hc, hcl, hS, h => by
    simp only [chkB, Bool.and_eq_true, beq_iff_eq] at hc
    obtain ⟨⟨h1, h2⟩, h3⟩ := hc
    have hr : i ∈ Region.ready .any ops listed := by rw [h1]; simp
    refine ⟨fun h0 => (by rw [h0] at h1; cases h1), fun j hj => ?_⟩
    rw [h1, List.mem_singleton] at hj
    subst hj
    refine wpOp_mono (fun a' w' h' => ⟨fun hb => h'.1 ?_, gol_drawn hs hQ n _ L a' w' h3 (closed_set hcl hr) h'.1 h'.2⟩) h
    rw [hb] at h2
    simpa using h2

theorem closed_none (ops : Array Oper) : Closed ops (Array.replicate ops.size false) := ⟨by simp, fun k ok _ hl => by
  rcases Nat.lt_or_ge k ops.size with h | h
  · simp [h] at hl
  · simp [Array.getElem?_eq_none, h] at hl⟩
end

/-! ### Frames as lists of slots -/

abbrev Env := List (Nat × Value)

def look : Env → Nat → Option Value
  | [], _ => none
  | (t, v) :: e, u => bif Nat.beq t u then some v else look e u

structure St (N : Nat) (env : Env) (a : Act) : Prop where
  size : a.tmps.size = N
  defers : a.defers = []
  slot : ∀ t v, look env t = some v → a.tmps[t]? = some v

def putE (d : Option Nat) (v : Value) (env : Env) : Env := match d with | some t => (t, v) :: env | none => env
def dOk (N : Nat) (d : Option Nat) : Bool := match d with | some t => Nat.blt t N | none => true

theorem St.put {N : Nat} {env : Env} {a : Act} (h : St N env a) {d : Option Nat} (hd : dOk N d = true) (v : Value) : St N (putE d v env) (a.put d v) := by
  cases d with
  | none => exact ⟨h.size, h.defers, h.slot⟩
  | some t =>
    have ht : t < N := by have h : t + 1 ≤ N := by simpa [dOk, Nat.blt] using hd
                          omega
    refine ⟨by simp [Act.put, h.size], h.defers, fun u x hx => ?_⟩
    simp only [putE, look] at hx
    simp only [Act.put, Array.getElem?_setIfInBounds]
    by_cases e : t = u
    · subst e
      simp at hx
      simp [h.size, ht, hx]
    · have e' : Nat.beq t u = false := by
        cases hb : Nat.beq t u with
        | false => rfl
        | true => exact absurd (Nat.eq_of_beq_eq_true hb) e
      rw [e'] at hx
      simp only [cond_false] at hx
      simp [e, h.slot u x hx]

/-- What an operand is. -/
def ev (env : Env) : Operand → Option Value
  | .tmp t => look env t
  | .const v => some v
  | .func g => some (.func (.func g) #[] #[])
  | .global g => some (.pointer (some ⟨g, 0, none⟩))

theorem St.ev {N : Nat} {env : Env} {a : Act} (h : St N env a) {x : Operand} {v : Value} (hx : ev env x = some v) : a.eval x = v := by
  cases x with
  | tmp t =>
    have := h.slot t v hx
    simp only [Act.eval]
    rw [Array.getD_eq_getD_getElem?, this]; rfl
  | const u => simpa [K.ev, Act.eval] using hx
  | func g => simpa [K.ev, Act.eval] using hx
  | global g => simpa [K.ev, Act.eval] using hx

def evs (env : Env) : List Operand → Option (List Value)
  | [] => some []
  | x :: l => match ev env x, evs env l with | some v, some r => some (v :: r) | _, _ => none

theorem St.evs {N : Nat} {env : Env} {a : Act} (h : St N env a) : ∀ {l : List Operand} {vs : List Value}, evs env l = some vs → l.map a.eval = vs
  | [], vs, hl => by simpa [K.evs] using hl
  | x :: l, vs, hl => by
    simp only [K.evs] at hl
    cases hx : K.ev env x with
    | none => rw [hx] at hl; cases hl
    | some v =>
      cases hr : K.evs env l with
      | none => rw [hx, hr] at hl; cases hl
      | some r =>
        rw [hx, hr] at hl
        simp only [Option.some.injEq] at hl
        subst hl
        simp [h.ev hx, h.evs hr]

/-- Every slot that the first list names holds in the second what it says. -/
def Sub (env' env : Env) : Prop := ∀ t v, look env' t = some v → look env t = some v
theorem sub_nil (env : Env) : Sub [] env := fun t v h => by cases h
theorem sub_cons (t : Nat) {u v : Value} {env' env : Env} (hl : look env t = some u) (hv : u = v) (h : Sub env' env) : Sub ((t, v) :: env') env := by
  subst hv
  intro s x hx
  simp only [look] at hx
  cases hb : Nat.beq t s with
  | true =>
    rw [hb] at hx
    simp only [cond_true, Option.some.injEq] at hx
    rw [← Nat.eq_of_beq_eq_true hb, hl, hx]
  | false => rw [hb] at hx; exact h s x hx
theorem Sub.refl (env : Env) : Sub env env := fun _ _ h => h
theorem St.sub {N : Nat} {env env' : Env} {a : Act} (h : St N env a) (hs : Sub env' env) : St N env' a := ⟨h.size, h.defers, fun t v ht => h.slot t v (hs t v ht)⟩

/-- From this list of things to do, in every frame that shows these slots. -/
def Run (P : Program) (f : FuncId) (N : Nat) (k : List Item) (env : Env) (w : World) (R : Value → World → Prop) : Prop :=
  ∀ a, St N env a → Runs P f k a w R

/-- The same in the middle of a region. -/
def SchQ (P : Program) (N : Nat) (Q : Exit → Act → World → Prop) (ops : Array Oper) (S : World → Prop) (L : List (Nat × Bool)) (env : Env) (w : World) : Prop :=
  ∀ a, St N env a → GoL P ops S Q L a w
abbrev Sch (P : Program) (f : FuncId) (N : Nat) (k : List Item) (R : Value → World → Prop) (ops : Array Oper) (S : World → Prop) (L : List (Nat × Bool)) (env : Env) (w : World) : Prop :=
  SchQ P N (QK P f k R) ops S L env w

section
variable {P : Program} {f : FuncId} {N : Nat} {k : List Item} {env : Env} {w : World} {R : Value → World → Prop}

theorem Run.sub {env' : Env} (hs : Sub env' env) (h : Run P f N k env' w R) : Run P f N k env w R := fun a ha => h a (ha.sub hs)

theorem run_seq {c x y : Code} (hc : c = .seq x y) (h : Run P f N (.code x :: .code y :: k) env w R) : Run P f N (.code c :: k) env w R := fun a ha => by
  subst hc; exact Runs.step (fun _ => step_seq) (h a ha)
theorem run_block {c x : Code} {id : Nat} (hc : c = .block id x) (h : Run P f N (.code x :: .inBlock id :: k) env w R) : Run P f N (.code c :: k) env w R := fun a ha => by
  subst hc; exact Runs.step (fun _ => step_block) (h a ha)
theorem run_inBlock {id : Nat} (h : Run P f N k env w R) : Run P f N (.inBlock id :: k) env w R := fun a ha =>
  Runs.step (fun _ => step_inBlock) (h a ha)
theorem run_skip {c : Code} (hc : c = .skip) (h : Run P f N k env w R) : Run P f N (.code c :: k) env w R := fun a ha => by
  subst hc; exact Runs.step (fun _ => step_skip) (h a ha)
theorem run_exit {c : Code} {id : Nat} {k' : List Item} (hc : c = .exit id) (hk : exitTo id k = some k') (h : Run P f N k' env w R) : Run P f N (.code c :: k) env w R := fun a ha => by
  subst hc; exact Runs.step (fun _ => step_exit hk) (h a ha)
theorem run_cond {c x y : Code} {o : Operand} {b : Bool} (hc : c = .cond o x y) (hv : ev env o = some (.bool b))
    (ht : b = true → Run P f N (.code x :: k) env w R) (hf : b = false → Run P f N (.code y :: k) env w R) : Run P f N (.code c :: k) env w R := fun a ha => by
  subst hc
  have := ha.ev hv
  cases b with
  | true => exact Runs.step (fun _ => step_cond this) (ht rfl a ha)
  | false => exact Runs.step (fun _ => step_cond this) (hf rfl a ha)
theorem run_if {c x y : Code} {o : Operand} {p : Prop} [Decidable p] (hc : c = .cond o x y) (hv : ev env o = some (.bool (decide p)))
    (ht : p → Run P f N (.code x :: k) env w R) (hf : ¬ p → Run P f N (.code y :: k) env w R) : Run P f N (.code c :: k) env w R :=
  run_cond hc hv (fun h => ht (of_decide_eq_true h)) (fun h => hf (of_decide_eq_false h))

/-- A loop: what its head keeps is a list of slots and a fact, both over some `x`; a round lowers `m x`. -/
theorem run_loop {c body : Code} {ι : Type} (I : ι → World → Prop) (e : ι → Env) (m : ι → Nat) (x₀ : ι) (hc : c = .loop body)
    (hs : Sub (e x₀) env) (h0 : I x₀ w)
    (hr : ∀ x w, I x w → (∀ y w', I y w' → m y < m x → Run P f N (.inLoop body :: k) (e y) w' R) → Run P f N (.code body :: .inLoop body :: k) (e x) w R) :
    Run P f N (.code c :: k) env w R := by
  subst hc
  have main : ∀ n x w, m x ≤ n → I x w → Run P f N (.inLoop body :: k) (e x) w R := by
    intro n
    induction n with
    | zero =>
      intro x w hm hI a ha
      exact Runs.step (fun _ => step_inLoop) (hr x w hI (fun y w' hy hlt => by omega) a ha)
    | succ n ih =>
      intro x w hm hI a ha
      exact Runs.step (fun _ => step_inLoop) (hr x w hI (fun y w' hy hlt => ih y w' (by omega) hy) a ha)
  intro a ha
  exact Runs.step (fun _ => step_loop) (hr x₀ w h0 (fun y w' hy hlt => main (m y) y w' (Nat.le_refl _) hy) a (ha.sub hs))

theorem run_ret1 {c : Code} {fn : Func} {t : Nat} {v : Value} (hc : c = .ret) (hf : P.funcs[f]? = some fn) (hres : fn.results = #[.tmp t]) (hv : look env t = some v)
    (hR : R v w) : Run P f N (.code c :: k) env w R := fun a ha => by
  subst hc
  refine runs_ret hf ha.defers ?_ hR
  have := ha.slot t v hv
  simp only [results, hres]
  simp [this, Sem.run, pure, Array.getD_eq_getD_getElem?]
theorem run_ret0 {c : Code} {fn : Func} (hc : c = .ret) (hf : P.funcs[f]? = some fn) (hres : fn.results = #[])
    (hR : R (.tuple #[]) w) : Run P f N (.code c :: k) env w R := fun a ha => by
  subst hc
  refine runs_ret hf ha.defers ?_ hR
  simp [results, hres, Sem.run, pure]
theorem run_ret2 {c : Code} {fn : Func} {t u : Nat} {v x : Value} (hc : c = .ret) (hf : P.funcs[f]? = some fn) (hres : fn.results = #[.tmp t, .tmp u]) (hv : look env t = some v) (hx : look env u = some x)
    (hR : R (.tuple #[v, x]) w) : Run P f N (.code c :: k) env w R := fun a ha => by
  subst hc
  refine runs_ret hf ha.defers ?_ hR
  rw [results_tmp2 hres]
  have h1 := ha.slot t v hv
  have h2 := ha.slot u x hx
  simp [h1, h2, Array.getD_eq_getD_getElem?]

/-! ### Regions -/

theorem run_plain {c : Code} {id : Nat} {ops : Array Oper} (L : List (Nat × Bool)) (hc : c = .region id ops false)
    (hL : L.map (·.1) = List.range ops.size) (h : Sch P f N k R ops (fun _ => True) L env w) : Run P f N (.code c :: k) env w R := fun a ha => by
  subst hc
  exact runs_of_wp (wp_region (by rw [← hL]; exact gol_plain L a w (h a ha)))

theorem run_drawn {c : Code} {id : Nat} {ops : Array Oper} (S : World → Prop) (L : List (Nat × Bool)) (hm : P.follows .mixedOrders = true) (hc : c = .region id ops true)
    (hn : Region.noSelect ops = true) (hk : chk ops ops.size (Array.replicate ops.size false) L = true) (hS : S { w with drawn := w.drawn + 1 })
    (h : Sch P f N k R ops S L env { w with drawn := w.drawn + 1 }) : Run P f N (.code c :: k) env w R := fun a ha => by
  subst hc
  exact runs_of_wp (wp_region_any hm (wpAny_of_bar _ _ _ _ (gol_drawn hn (fun c a d v w h => h.elim) _ _ L a _ hk (closed_none ops) (fun _ => hS) (h a ha))))

/-- What an operation is, without its place in the text and its edges. -/
def opAt (ops : Array Oper) (i : Nat) : Option (Option Tmp × Op × Option (Nat × Bool)) := (ops[i]?).map fun o => (o.dst, o.op, o.guard)
def dstAt (ops : Array Oper) (i : Nat) : Option Tmp := (ops[i]?).bind (·.dst)

/-- In this world, in every frame that shows these slots, the operation yields `v`. -/
def Val (P : Program) (N : Nat) (env : Env) (op : Op) (w : World) (v : Value) : Prop :=
  ∀ a, St N env a → ∀ o : Oper, o.op = op → (execOp a.eval o).run P w = .ok (.value v) w

variable {Q : Exit → Act → World → Prop} {ops : Array Oper} {S : World → Prop} {i : Nat} {L : List (Nat × Bool)} {d : Option Nat} {op : Op} {v : Value}

/-- No operation is left that asks for the condition. -/
theorem Sch.free (hs : lastB L = true) (h : SchQ P N Q ops (fun _ => True) L env w) : SchQ P N Q ops S L env w := fun a ha => gol_free L a w hs (h a ha)

theorem Sch.nil (h : Run P f N k env w R) : Sch P f N k R ops S [] env w := fun a ha => h a ha

theorem Sch.sub {env' : Env} (hs : Sub env' env) (h : SchQ P N Q ops S L env' w) : SchQ P N Q ops S L env w := fun a ha => h a (ha.sub hs)

theorem opAt_spec {g : Option (Nat × Bool)} (h : opAt ops i = some (d, op, g)) : ∃ o, ops[i]? = some o ∧ o.dst = d ∧ o.op = op ∧ o.guard = g := by
  unfold opAt at h
  cases ho : ops[i]? with
  | none => rw [ho] at h; cases h
  | some o =>
    rw [ho] at h
    simp only [Option.map_some, Option.some.injEq, Prod.mk.injEq] at h
    exact ⟨o, rfl, h⟩

/-- Is the operation carried out? -/
def wantedE (ops : Array Oper) (env : Env) : Option (Nat × Bool) → Option Bool
  | none => some true
  | some (j, want) => match dstAt ops j with
    | none => some false
    | some t => match look env t with
      | none => none
      | some (.bool b) => some (b == want)
      | some _ => some false

theorem St.wanted {a : Act} (ha : St N env a) {o : Oper} {b : Bool} (h : wantedE ops env o.guard = some b) : Region.wanted o (yielded ops a.tmps) = b := by
  unfold Region.wanted
  cases hg : o.guard with
  | none => rw [hg] at h; simpa [wantedE] using h
  | some p =>
    obtain ⟨j, want⟩ := p
    rw [hg] at h
    simp only [wantedE, dstAt] at h
    simp only [yielded]
    cases hj : (ops[j]?).bind (·.dst) with
    | none => rw [hj] at h; simp only [Option.some.injEq] at h; subst h; rfl
    | some t =>
      rw [hj] at h
      simp only at h
      cases hl : look env t with
      | none => rw [hl] at h; cases h
      | some u =>
        rw [hl] at h
        have := ha.slot t u hl
        simp only [Option.bind_some, this]
        cases u <;> simp only [Option.some.injEq] at h <;> subst h <;> first | rfl | (rename_i x; cases x <;> cases want <;> rfl)

/-- It yields a value, whatever world that meets S stands. -/
theorem Sch.yield {g : Option (Nat × Bool)} (hop : opAt ops i = some (d, op, g)) (hw : wantedE ops env g = some true) (hd : dOk N d = true)
    (hy : ∀ w', S w' → Val P N env op w' v) (h : SchQ P N Q ops S L (putE d v env) w) : SchQ P N Q ops S ((i, true) :: L) env w := fun a ha => by
  obtain ⟨o, ho, rfl, rfl, rfl⟩ := opAt_spec hop
  exact ⟨o, v, ho, .inl ⟨ha.wanted hw, fun w' hS => hy w' hS a ha o rfl⟩, h _ (ha.put hd v)⟩

/-- It is passed over. -/
theorem Sch.pass {g : Option (Nat × Bool)} (hop : opAt ops i = some (d, op, g)) (hw : wantedE ops env g = some false) (hd : dOk N d = true)
    (h : SchQ P N Q ops S L (putE d undef env) w) : SchQ P N Q ops S ((i, true) :: L) env w := fun a ha => by
  obtain ⟨o, ho, rfl, rfl, rfl⟩ := opAt_spec hop
  exact ⟨o, undef, ho, .inr ⟨ha.wanted hw, rfl⟩, h _ (ha.put hd undef)⟩
theorem Sch.passW {g : Option (Nat × Bool)} (hop : opAt ops i = some (d, op, g)) (hw : wantedE ops env g = some false) (hd : dOk N d = true) (hS : S w)
    (h : SchQ P N Q ops S L (putE d undef env) w) : SchQ P N Q ops S ((i, false) :: L) env w := fun a ha => by
  obtain ⟨o, ho, rfl, rfl, rfl⟩ := opAt_spec hop
  simp only [GoL, wpOp, ho, ha.wanted hw, Bool.false_eq_true, if_false]
  exact ⟨fun _ => hS, h _ (ha.put hd undef)⟩

/-- It is carried out in the world at hand, and may turn it. -/
def Acts (P : Program) (N : Nat) (env : Env) (op : Op) (w : World) (T : Value → World → Prop) : Prop :=
  ∀ a, St N env a → ∀ o : Oper, o.op = op → ∃ v w', ((execOp a.eval o).run P w = .ok (.value v) w' ∨ ((execOp a.eval o).run P w = .ok .skip w' ∧ v = undef)) ∧ T v w'

theorem Sch.act {g : Option (Nat × Bool)} {T : Value → World → Prop} (hop : opAt ops i = some (d, op, g)) (hw : wantedE ops env g = some true) (hd : dOk N d = true)
    (hy : Acts P N env op w T) (h : ∀ v w', T v w' → S w' ∧ SchQ P N Q ops S L (putE d v env) w') : SchQ P N Q ops S ((i, false) :: L) env w := fun a ha => by
  obtain ⟨o, ho, rfl, rfl, rfl⟩ := opAt_spec hop
  simp only [GoL, wpOp, ho, ha.wanted hw, if_true]
  obtain ⟨v, w', hrun, hT⟩ := hy a ha o rfl
  left
  unfold Oper.wp
  obtain ⟨h1, h2⟩ := h v w' hT
  rcases hrun with hrun | ⟨hrun, rfl⟩
  · rw [hrun]; exact ⟨fun _ => h1, h2 _ (ha.put hd v)⟩
  · rw [hrun]; exact ⟨fun _ => h1, h2 _ (ha.put hd undef)⟩

theorem Val.acts (h : Val P N env op w v) : Acts P N env op w (fun x w' => x = v ∧ w' = w) := fun a ha o ho => ⟨v, w, .inl (h a ha o ho), rfl, rfl⟩

/-- It yields a value in the world at hand. -/
theorem Sch.now {g : Option (Nat × Bool)} (hop : opAt ops i = some (d, op, g)) (hw : wantedE ops env g = some true) (hd : dOk N d = true) (hS : S w)
    (hy : Val P N env op w v) (h : SchQ P N Q ops S L (putE d v env) w) : SchQ P N Q ops S ((i, false) :: L) env w :=
  Sch.act hop hw hd hy.acts (by rintro _ _ ⟨rfl, rfl⟩; exact ⟨hS, h⟩)

/-- It calls a Go function. -/
def Enters (P : Program) (N : Nat) (env : Env) (op : Op) (w : World) (g : FuncId) (args : Array Value) : Prop :=
  ∀ a, St N env a → ∀ o : Oper, o.op = op → (execOp a.eval o).run P w = .ok (.enter g args) w

theorem Sch.call {gd : Option (Nat × Bool)} {g : FuncId} {args : Array Value} {T : Value → World → Prop} (hop : opAt ops i = some (d, op, gd)) (hw : wantedE ops env gd = some true) (hd : dOk N d = true)
    (hy : Enters P N env op w g args) (hc : Calls P g args w (Ret T))
    (h : ∀ v w', T v w' → S w' ∧ SchQ P N Q ops S L (putE d v env) w') : SchQ P N Q ops S ((i, false) :: L) env w := fun a ha => by
  obtain ⟨o, ho, rfl, rfl, rfl⟩ := opAt_spec hop
  simp only [GoL, wpOp, ho, ha.wanted hw, if_true]
  left
  unfold Oper.wp
  rw [hy a ha o rfl]
  simp only [Oper.upon]
  refine hc.mono fun e w' he => ?_
  obtain ⟨v, rfl, hT⟩ := he
  obtain ⟨h1, h2⟩ := h v w' hT
  exact ⟨fun _ => h1, h2 _ (ha.put hd v)⟩

end

/-- A call from its body. -/
theorem calls_body {P : Program} {f : FuncId} {fn : Func} {c : Code} {args : List Value} {N : Nat} {env : Env} {w : World} {R : Value → World → Prop}
    (hf : P.funcs[f]? = some fn) (hb : fn.body = some c) (hN : fn.ntmps = N) (hsz : Nat.ble args.length N = true) (he : ∀ t v, look env t = some v → args[t]? = some v)
    (h : Run P f N [.code c] env w R) : Calls P f args.toArray w (Ret R) := by
  refine calls_of_runs hf hb (h _ ?_)
  have : args.length ≤ N := Nat.le_of_ble_eq_true hsz
  refine ⟨by simp [hN]; omega, rfl, fun t v ht => ?_⟩
  have h1 := he t v ht
  have h2 : t < args.length := by
    rcases Nat.lt_or_ge t args.length with h | h
    · exact h
    · rw [List.getElem?_eq_none h] at h1; cases h1
  simp only
  rw [Array.getElem?_append_left (by simpa using h2)]
  simpa using h1

/-- The slots of a call's arguments. -/
def argEnv : Nat → List Value → Env
  | _, [] => []
  | n, v :: l => (n, v) :: argEnv (n + 1) l
theorem look_argEnv : ∀ (l : List Value) (n t : Nat) (v : Value), look (argEnv n l) t = some v → n ≤ t ∧ l[t - n]? = some v
  | [], _, _, _, h => by cases h
  | x :: l, n, t, v, h => by
    simp only [argEnv, look] at h
    cases hb : Nat.beq n t with
    | true =>
      rw [hb] at h
      have e := Nat.eq_of_beq_eq_true hb
      subst e
      simp at h
      simp [h]
    | false =>
      rw [hb] at h
      have hne : n ≠ t := fun e => by subst e; simp at hb
      obtain ⟨h1, h2⟩ := look_argEnv l (n + 1) t v h
      refine ⟨by omega, ?_⟩
      have : t - n = (t - (n + 1)) + 1 := by omega
      rw [this]; simpa using h2
theorem calls_start {P : Program} {f : FuncId} {fn : Func} {c : Code} (args : List Value) {N : Nat} {w : World} {R : Value → World → Prop}
    (hf : P.funcs[f]? = some fn) (hb : fn.body = some c) (hN : fn.ntmps = N) (hsz : Nat.ble args.length N = true)
    (h : Run P f N [.code c] (argEnv 0 args) w R) : Calls P f args.toArray w (Ret R) :=
  calls_body hf hb hN hsz (fun t v ht => by simpa using (look_argEnv args 0 t v ht).2) h

end Go.K

/- What each operation yields: the ones that only compute. -/
set_option linter.unusedVariables false
set_option linter.unusedSimpArgs false
namespace Go.K

section
variable {P : Program} {N : Nat} {env : Env} {w : World} {x y z : Operand} {t u : TypeId} {k : IntKind} {m n : Int} {v : Value}

theorem mk' {op : Op} (h : ∀ ρ : Operand → Value, (∀ x v, ev env x = some v → ρ x = v) → ∀ o : Oper, o.op = op → (execOp ρ o).run P w = .ok (.value v) w) : Val P N env op w v :=
  fun a ha o ho => h a.eval (fun x v hx => ha.ev hx) o ho

theorem val_move (hx : ev env x = some v) : Val P N env (.move x) w v := mk' fun ρ hρ o ho => by
  unfold execOp; rw [ho]; simp [hρ _ _ hx, go_sem]
theorem val_assign (hx : ev env x = some v) : Val P N env (.assign x) w v := mk' fun ρ hρ o ho => by
  unfold execOp; rw [ho]; simp [hρ _ _ hx, go_sem]
/-- 'a && b', 'a || b': where the guarded part was not reached its slot holds what it held: it is not looked at. -/
theorem val_pick_t {v₁ : Value} (hx : ev env x = some (.bool true)) (hy : ev env y = some v₁) :
    Val P N env (.pick x y z) w v₁ := mk' fun ρ hρ o ho => by
  unfold execOp; rw [ho]; simp [hρ _ _ hx, hρ _ _ hy, go_sem, asBool]
theorem val_pick_f {v₂ : Value} (hx : ev env x = some (.bool false)) (hz : ev env z = some v₂) :
    Val P N env (.pick x y z) w v₂ := mk' fun ρ hρ o ho => by
  unfold execOp; rw [ho]; simp [hρ _ _ hx, hρ _ _ hz, go_sem, asBool]
theorem val_nilCheck {a : Addr} (hx : ev env x = some (.pointer (some a))) : Val P N env (.nilCheck x) w (.pointer (some a)) := mk' fun ρ hρ o ho => by
  unfold execOp; rw [ho]; simp [hρ _ _ hx, go_sem]
theorem val_extract {vs : Array Value} {i : Nat} (hx : ev env x = some (.tuple vs)) (hv : vs[i]? = some v) : Val P N env (.extract x i) w v := mk' fun ρ hρ o ho => by
  unfold execOp; rw [ho]; simp [hρ _ _ hx, go_sem, Instr.extract, hv]

theorem run_eqGuard_int (op : BinOp) (t : TypeId) (x y : Operand) (k j : IntKind) (m n : Int) (w : World) :
    (eqGuard op t x y (.int k m) (.int j n)).run P w = .ok () w := by
  unfold eqGuard; simp [go_sem]

theorem val_add (hx : ev env x = some (.int k m)) (hy : ev env y = some (.int k n)) : Val P N env (.binOp .add t x y u) w (.int k (k.wrap (m + n))) := mk' fun ρ hρ o ho => by
  unfold execOp; rw [ho]; simp [hρ _ _ hx, hρ _ _ hy, go_sem, run_eqGuard_int, binOp, Op.intArith]
theorem val_sub (hx : ev env x = some (.int k m)) (hy : ev env y = some (.int k n)) : Val P N env (.binOp .sub t x y u) w (.int k (k.wrap (m - n))) := mk' fun ρ hρ o ho => by
  unfold execOp; rw [ho]; simp [hρ _ _ hx, hρ _ _ hy, go_sem, run_eqGuard_int, binOp, Op.intArith]
theorem val_mul (hx : ev env x = some (.int k m)) (hy : ev env y = some (.int k n)) : Val P N env (.binOp .mul t x y u) w (.int k (k.wrap (m * n))) := mk' fun ρ hρ o ho => by
  unfold execOp; rw [ho]; simp [hρ _ _ hx, hρ _ _ hy, go_sem, run_eqGuard_int, binOp, Op.intArith]
theorem val_quo (hx : ev env x = some (.int k m)) (hy : ev env y = some (.int k n)) (hn : n ≠ 0) : Val P N env (.binOp .quo t x y u) w (.int k (k.wrap (m.tdiv n))) := mk' fun ρ hρ o ho => by
  unfold execOp; rw [ho]; simp [hρ _ _ hx, hρ _ _ hy, go_sem, run_eqGuard_int, binOp, Op.intDiv, hn]
theorem val_rem (hx : ev env x = some (.int k m)) (hy : ev env y = some (.int k n)) (hn : n ≠ 0) : Val P N env (.binOp .rem t x y u) w (.int k (m.tmod n)) := mk' fun ρ hρ o ho => by
  unfold execOp; rw [ho]; simp [hρ _ _ hx, hρ _ _ hy, go_sem, run_eqGuard_int, binOp, Op.intDiv, hn]
theorem val_lss (hx : ev env x = some (.int k m)) (hy : ev env y = some (.int k n)) : Val P N env (.binOp .lss t x y u) w (.bool (decide (m < n))) := mk' fun ρ hρ o ho => by
  unfold execOp; rw [ho]; simp [hρ _ _ hx, hρ _ _ hy, go_sem, run_eqGuard_int, binOp, Op.intCmp]
theorem val_leq (hx : ev env x = some (.int k m)) (hy : ev env y = some (.int k n)) : Val P N env (.binOp .leq t x y u) w (.bool (decide (m ≤ n))) := mk' fun ρ hρ o ho => by
  unfold execOp; rw [ho]; simp [hρ _ _ hx, hρ _ _ hy, go_sem, run_eqGuard_int, binOp, Op.intCmp]
theorem val_gtr (hx : ev env x = some (.int k m)) (hy : ev env y = some (.int k n)) : Val P N env (.binOp .gtr t x y u) w (.bool (decide (n < m))) := mk' fun ρ hρ o ho => by
  unfold execOp; rw [ho]; simp [hρ _ _ hx, hρ _ _ hy, go_sem, run_eqGuard_int, binOp, Op.intCmp]
theorem val_geq (hx : ev env x = some (.int k m)) (hy : ev env y = some (.int k n)) : Val P N env (.binOp .geq t x y u) w (.bool (decide (n ≤ m))) := mk' fun ρ hρ o ho => by
  unfold execOp; rw [ho]; simp [hρ _ _ hx, hρ _ _ hy, go_sem, run_eqGuard_int, binOp, Op.intCmp]
theorem val_eql (hx : ev env x = some (.int k m)) (hy : ev env y = some (.int k n)) : Val P N env (.binOp .eql t x y u) w (.bool (decide (m = n))) := mk' fun ρ hρ o ho => by
  unfold execOp; rw [ho]; simp [hρ _ _ hx, hρ _ _ hy, go_sem, run_eqGuard_int, binOp, Op.intCmp]; rfl
theorem val_neq (hx : ev env x = some (.int k m)) (hy : ev env y = some (.int k n)) : Val P N env (.binOp .neq t x y u) w (.bool (decide (m ≠ n))) := mk' fun ρ hρ o ho => by
  unfold execOp; rw [ho]; simp [hρ _ _ hx, hρ _ _ hy, go_sem, run_eqGuard_int, binOp, Op.intCmp]
  by_cases h : m = n <;> simp [h]
def bitsOf (op : BinOp) (k : IntKind) (m n : Int) : Int :=
  k.wrap ((match op with
    | .and => BitVec.ofInt k.bits m &&& BitVec.ofInt k.bits n
    | .or => BitVec.ofInt k.bits m ||| BitVec.ofInt k.bits n
    | .xor => BitVec.ofInt k.bits m ^^^ BitVec.ofInt k.bits n
    | _ => BitVec.ofInt k.bits m &&& ~~~(BitVec.ofInt k.bits n) : BitVec k.bits).toNat)
theorem val_xor (hx : ev env x = some (.int k m)) (hy : ev env y = some (.int k n)) : Val P N env (.binOp .xor t x y u) w (.int k (bitsOf .xor k m n)) := mk' fun ρ hρ o ho => by
  unfold execOp; rw [ho]; simp [hρ _ _ hx, hρ _ _ hy, Sem.run_bind, Sem.run_pure, run_eqGuard_int, binOp, Op.intBits, bitsOf]
theorem val_shr {j : IntKind} (hx : ev env x = some (.int k m)) (hy : ev env y = some (.int j n)) (hn : 0 ≤ n) :
    Val P N env (.binOp .shr t x y u) w (.int k (m.fdiv (2 ^ min n.toNat k.bits))) := mk' fun ρ hρ o ho => by
  have : ¬ n < 0 := by omega
  unfold execOp; rw [ho]; simp [hρ _ _ hx, hρ _ _ hy, Sem.run_bind, Sem.run_pure, run_eqGuard_int, binOp, Op.shift, this]
theorem val_not {b : Bool} (hx : ev env x = some (.bool b)) : Val P N env (.unOp .not t x) w (.bool (!b)) := mk' fun ρ hρ o ho => by
  unfold execOp; rw [ho]; simp [hρ _ _ hx, go_sem, Op.unary]
theorem val_notd {p : Prop} [Decidable p] (hx : ev env x = some (.bool (decide p))) : Val P N env (.unOp .not t x) w (.bool (decide (¬ p))) := mk' fun ρ hρ o ho => by
  unfold execOp; rw [ho]; simp [hρ _ _ hx, go_sem, Op.unary]
theorem val_conv_int {j : IntKind} (hx : ev env x = some (.int j m)) (ht : ∃ d, P.underlying t = some d) (hu : P.underlying u = some (.int k)) : Val P N env (.convert t u x) w (.int k (k.wrap m)) := mk' fun ρ hρ o ho => by
  obtain ⟨d, hd⟩ := ht
  unfold execOp; rw [ho]; simp [hρ _ _ hx, go_sem, convert, run_underlying hd, run_underlying hu, Conv.intToInt]

theorem val_len_slice {b : Option Addr} {c l : Nat} {e : TypeId} (hx : ev env x = some (.slice b l c)) (ht : P.underlying t = some (.slice e)) :
    Val P N env (.call { callee := .builtin .len, args := #[x], argTypes := #[t] }) w (.int .i64 l) := mk' fun ρ hρ o ho => by
  unfold execOp; rw [ho]; simp [hρ _ _ hx, go_sem, resolve, invoke, builtin, Builtin.len_, run_underlying ht, goInt]
theorem val_len_string {s : ByteArray} (hx : ev env x = some (.string s)) (ht : P.underlying t = some .string) :
    Val P N env (.call { callee := .builtin .len, args := #[x], argTypes := #[t] }) w (.int .i64 s.size) := mk' fun ρ hρ o ho => by
  unfold execOp; rw [ho]; simp [hρ _ _ hx, go_sem, resolve, invoke, builtin, Builtin.len_, run_underlying ht, goInt]

theorem enters_func {g : FuncId} {xs : Array Operand} {ts : Array TypeId} {vs : List Value} {cap : Array Value} {w : World}
    (hcall : ∀ args w, (callFunc g args).run P w = .ok (.enter g args) w) (hx : ev env x = some (.func (.func g) #[] cap)) (hargs : evs env xs.toList = some vs) :
    Enters P N env (.call { callee := .value x, args := xs, argTypes := ts }) w g (vs ++ cap.toList).toArray := fun a ha o ho => by
  have h1 : xs.map a.eval = vs.toArray := by
    rw [← ha.evs hargs, ← List.map_toArray]
  unfold execOp; rw [ho]
  simp only [resolve, Deferred.ofValue, ha.ev hx, h1, Sem.run_bind, Sem.run_pure, Result.andThen_ok, invoke]
  rw [hcall]
  simp
end

/-- An int that fits is what it is. -/
theorem wrap_i64 {n : Int} (h1 : -9223372036854775808 ≤ n) (h2 : n ≤ 9223372036854775807) : IntKind.i64.wrap n = n := IntWalk.i64_in n ⟨h1, h2⟩
theorem wrap_u64 {n : Int} (h1 : 0 ≤ n) (h2 : n ≤ 18446744073709551615) : IntKind.u64.wrap n = n := by
  have h : IntKind.u64.wrap n = n % 18446744073709551616 := by simp [IntKind.wrap, IntKind.signed, IntKind.bits]
  rw [h]; exact Int.emod_eq_of_lt h1 (by omega)
theorem eq_int {k : IntKind} {a b : Int} (h : a = b) : Value.int k a = Value.int k b := by rw [h]
section
variable {P : Program} {N : Nat} {env : Env} {w : World} {x y : Operand} {t u : TypeId} {m n : Int}
theorem val_addi (hx : ev env x = some (.int .i64 m)) (hy : ev env y = some (.int .i64 n)) (h1 : -9223372036854775808 ≤ m + n) (h2 : m + n ≤ 9223372036854775807) :
    Val P N env (.binOp .add t x y u) w (.int .i64 (m + n)) := by
  have := val_add (P := P) (N := N) (w := w) (t := t) (u := u) hx hy; rwa [wrap_i64 h1 h2] at this
theorem val_subi (hx : ev env x = some (.int .i64 m)) (hy : ev env y = some (.int .i64 n)) (h1 : -9223372036854775808 ≤ m - n) (h2 : m - n ≤ 9223372036854775807) :
    Val P N env (.binOp .sub t x y u) w (.int .i64 (m - n)) := by
  have := val_sub (P := P) (N := N) (w := w) (t := t) (u := u) hx hy; rwa [wrap_i64 h1 h2] at this
theorem val_muli (hx : ev env x = some (.int .i64 m)) (hy : ev env y = some (.int .i64 n)) (h1 : -9223372036854775808 ≤ m * n) (h2 : m * n ≤ 9223372036854775807) :
    Val P N env (.binOp .mul t x y u) w (.int .i64 (m * n)) := by
  have := val_mul (P := P) (N := N) (w := w) (t := t) (u := u) hx hy; rwa [wrap_i64 h1 h2] at this
/-- '/' and '%' where both sides are not negative. -/
theorem val_divi (hx : ev env x = some (.int .i64 m)) (hy : ev env y = some (.int .i64 n)) (h0 : 0 ≤ m) (h1 : 1 ≤ n) (h2 : m ≤ 9223372036854775807) :
    Val P N env (.binOp .quo t x y u) w (.int .i64 (m / n)) := by
  have := val_quo (P := P) (N := N) (w := w) (t := t) (u := u) hx hy (by omega)
  have h3 : m / n ≤ m := Int.ediv_le_self _ h0
  have h4 : 0 ≤ m / n := Int.ediv_nonneg h0 (by omega)
  rwa [Int.tdiv_eq_ediv_of_nonneg h0, wrap_i64 (by omega) (by omega)] at this
theorem val_modi (hx : ev env x = some (.int .i64 m)) (hy : ev env y = some (.int .i64 n)) (h0 : 0 ≤ m) (h1 : 1 ≤ n) :
    Val P N env (.binOp .rem t x y u) w (.int .i64 (m % n)) := by
  have := val_rem (P := P) (N := N) (w := w) (t := t) (u := u) hx hy (by omega)
  rwa [Int.tmod_eq_emod_of_nonneg h0] at this
end


section
variable {P : Program} {N : Nat} {env : Env} {w : World} {x y : Operand} {t u : TypeId} {m n r : Int} {k j : IntKind}
theorem val_shrE (hx : ev env x = some (.int k m)) (hy : ev env y = some (.int j n)) (hn : 0 ≤ n) (h : m.fdiv (2 ^ min n.toNat k.bits) = r) : Val P N env (.binOp .shr t x y u) w (.int k r) := by
  subst h; exact val_shr hx hy hn
theorem val_convE (hx : ev env x = some (.int j m)) (ht : ∃ d, P.underlying t = some d) (hu : P.underlying u = some (.int k)) (h : k.wrap m = r) : Val P N env (.convert t u x) w (.int k r) := by
  subst h; exact val_conv_int hx ht hu
end

end Go.K

/- Memory: what may turn between two worlds, how data read, and the operations that touch memory. -/
set_option linter.unusedVariables false
set_option linter.unusedSimpArgs false
namespace Go.K

/-- Draws only go forth. -/
def Dr (w w' : World) : Prop := w.drawn ≤ w'.drawn
theorem Dr.refl {w w' : World} (h : w'.drawn = w.drawn) : Dr w w' := Nat.le_of_eq h.symm
theorem Dr.succ {w w' : World} (h : w'.drawn = w.drawn + 1) : Dr w w' := by unfold Dr; omega
theorem Dr.trans {w w' w'' : World} (h : Dr w w') (h' : Dr w' w'') : Dr w w'' := Nat.le_trans h h'
/-- From `w` to `w'` no block of `w` has turned but for those in `A`. -/
structure Ext (A : Nat → Prop) (w w' : World) : Prop where
  os : w'.os = w.os
  tape : w'.tape = w.tape
  output : w'.output = w.output
  size : w.heap.size ≤ w'.heap.size
  block : ∀ b, b < w.heap.size → ¬ A b → w'.heap[b]? = w.heap[b]?
  drawn : Dr w w'

def No : Nat → Prop := fun _ => False
def One (b : Nat) : Nat → Prop := fun x => x = b
/-- The block of an owned slice. -/
def Ob (v : Value) : Nat → Prop := fun x => v.ownBlock = some x

section
variable {A A' M M' : Nat → Prop} {w w' w'' : World}
theorem Ext.refl (A : Nat → Prop) (w : World) : Ext A w w := ⟨rfl, rfl, rfl, Nat.le_refl _, fun _ _ _ => rfl, Dr.refl rfl⟩
theorem Ext.trans (h : Ext A w w') (h' : Ext A' w' w'') (hA : ∀ b, b < w.heap.size → A' b → A b) : Ext A w w'' :=
  ⟨h'.os.trans h.os, h'.tape.trans h.tape, h'.output.trans h.output, Nat.le_trans h.size h'.size, fun b hb hn =>
    (h'.block b (Nat.lt_of_lt_of_le hb h.size) (fun ha => hn (hA b hb ha))).trans (h.block b hb hn), Dr.trans h.drawn h'.drawn⟩
theorem Ext.mono (h : Ext A w w') (hA : ∀ b, b < w.heap.size → A b → A' b) : Ext A' w w' :=
  ⟨h.os, h.tape, h.output, h.size, fun b hb hn => h.block b hb (fun ha => hn (hA b hb ha)), h.drawn⟩
theorem Ext.drew (A : Nat → Prop) (w : World) : Ext A w { w with drawn := w.drawn + 1 } := ⟨rfl, rfl, rfl, Nat.le_refl _, fun _ _ _ => rfl, Dr.succ rfl⟩
theorem Ext.below (h : Ext A w w') {B : Nat} (hB : B ≤ w.heap.size) (hA : ∀ b, A b → B ≤ b) : Go.RowKit.Below B w w' :=
  ⟨h.os, h.tape, h.output, h.size, fun k hk => h.block k (Nat.lt_of_lt_of_le hk hB) (fun ha => by have := hA k ha; omega)⟩
theorem Ext.at' (h : Ext A w w') {b : Nat} {o : Obj} (hb : w.heap[b]? = some o) (hn : ¬ A b) : w'.heap[b]? = some o :=
  (h.block b (Array.getElem?_eq_some_iff.1 hb).1 hn).trans hb
theorem lt_of_at {b : Nat} {o : Obj} (hb : w.heap[b]? = some o) : b < w.heap.size := (Array.getElem?_eq_some_iff.1 hb).1
end

/-- Data that lie in so many cells, read outside the blocks `M` (those may still be written). -/
class Rep (α : Type) where
  sz : Nat
  /-- Is it a struct or an array? -/
  agg : Bool
  flat : agg = false → sz = 1
  rep : Array Obj → (Nat → Prop) → α → List Value → Prop
  len : ∀ {h M x vs}, rep h M x vs → vs.length = sz
  one : ∀ {h M x vs}, rep h M x vs → ∀ v ∈ vs, v.oneCell' = true
  keep : ∀ {h h' M x vs}, rep h M x vs → (∀ b, b < h.size → ¬ M b → h'[b]? = h[b]?) → rep h' M x vs
  sub : ∀ {h M M' x vs}, rep h M x vs → (∀ b, b < h.size → M' b → M b) → rep h M' x vs

open Rep

instance : Rep Int where
  sz := 1
  agg := false
  flat _ := rfl
  rep _ _ x vs := vs = [.int .i64 x]
  len h := by subst h; rfl
  one h := by subst h; intro v hv; simp at hv; subst hv; rfl
  keep h _ := h
  sub h _ := h

instance : Rep Nat where
  sz := 1
  agg := false
  flat _ := rfl
  rep _ _ x vs := vs = [.int .i64 (x : Int)]
  len h := by subst h; rfl
  one h := by subst h; intro v hv; simp at hv; subst hv; rfl
  keep h _ := h
  sub h _ := h

/-- A number of another kind than int's. -/
structure Num (k : IntKind) where
  n : Int
abbrev U64 := Num .u64
instance {k : IntKind} : Rep (Num k) where
  sz := 1
  agg := false
  flat _ := rfl
  rep _ _ x vs := vs = [.int k x.n]
  len h := by subst h; rfl
  one h := by subst h; intro v hv; simp at hv; subst hv; rfl
  keep h _ := h
  sub h _ := h
instance : Rep Bool where
  sz := 1
  agg := false
  flat _ := rfl
  rep _ _ x vs := vs = [.bool x]
  len h := by subst h; rfl
  one h := by subst h; intro v hv; simp at hv; subst hv; rfl
  keep h _ := h
  sub h _ := h
instance : Rep ByteArray where
  sz := 1
  agg := false
  flat _ := rfl
  rep _ _ x vs := vs = [.string x] ∧ x.size ≤ 9223372036854775807
  len h := by obtain ⟨rfl, _⟩ := h; rfl
  one h := by obtain ⟨rfl, _⟩ := h; intro v hv; simp at hv; subst hv; rfl
  keep h _ := h
  sub h _ := h
instance {α β : Type} [Rep α] [Rep β] : Rep (α × β) where
  sz := sz α + sz β
  agg := true
  flat h := by cases h
  rep h M x vs := ∃ us ws, vs = us ++ ws ∧ rep h M x.1 us ∧ rep h M x.2 ws
  len h := by obtain ⟨us, ws, rfl, h1, h2⟩ := h; rw [List.length_append, len h1, len h2]
  one h := by
    obtain ⟨us, ws, rfl, h1, h2⟩ := h
    intro v hv
    rcases List.mem_append.1 hv with hv | hv
    · exact one h1 v hv
    · exact one h2 v hv
  keep h hk := by obtain ⟨us, ws, e, h1, h2⟩ := h; exact ⟨us, ws, e, keep h1 hk, keep h2 hk⟩
  sub h hk := by obtain ⟨us, ws, e, h1, h2⟩ := h; exact ⟨us, ws, e, sub h1 hk, sub h2 hk⟩

/-- Data that are made of other data. -/
@[reducible] def Rep.via {α β : Type} [Rep β] (f : α → β) : Rep α where
  sz := sz β
  agg := true
  flat h := by cases h
  rep h M x vs := rep h M (f x) vs
  len h := len h
  one h := one h
  keep h hk := keep h hk
  sub h hk := sub h hk

def cellsAt (cs : Array Value) (o n : Nat) : List Value := (cs.toList.drop o).take n

/-- At this place lies this. -/
def At {α : Type} [Rep α] (h : Array Obj) (M : Nat → Prop) (b o : Nat) (x : α) : Prop :=
  ¬ M b ∧ ∃ cs ty fz, h[b]? = some (.cells cs ty fz) ∧ rep h M x (cellsAt cs o (sz α))

/-- From this place on lie these. -/
def Seg {α : Type} [Rep α] (h : Array Obj) (M : Nat → Prop) (b o : Nat) (xs : List α) : Prop :=
  ¬ M b ∧ ∃ cs ty fz, h[b]? = some (.cells cs ty fz) ∧ o + xs.length * sz α ≤ cs.size ∧ ∀ i (hi : i < xs.length), rep h M xs[i] (cellsAt cs (o + i * sz α) (sz α))

section
variable {α : Type} [Rep α] {h h' : Array Obj} {M M' : Nat → Prop} {b o : Nat} {x : α} {xs : List α}
theorem At.keep (ha : At h M b o x) (hk : ∀ b, b < h.size → ¬ M b → h'[b]? = h[b]?) : At h' M b o x := by
  obtain ⟨hb, cs, ty, fz, hc, hr⟩ := ha
  exact ⟨hb, cs, ty, fz, (hk b (Array.getElem?_eq_some_iff.1 hc).1 hb).trans hc, Rep.keep hr hk⟩
theorem At.sub (ha : At h M b o x) (hk : ∀ b, b < h.size → M' b → M b) : At h M' b o x := by
  obtain ⟨hb, cs, ty, fz, hc, hr⟩ := ha
  exact ⟨fun h' => hb (hk b (Array.getElem?_eq_some_iff.1 hc).1 h'), cs, ty, fz, hc, Rep.sub hr hk⟩
theorem Seg.keep (ha : Seg h M b o xs) (hk : ∀ b, b < h.size → ¬ M b → h'[b]? = h[b]?) : Seg h' M b o xs := by
  obtain ⟨hb, cs, ty, fz, hc, hl, hr⟩ := ha
  exact ⟨hb, cs, ty, fz, (hk b (Array.getElem?_eq_some_iff.1 hc).1 hb).trans hc, hl, fun i hi => Rep.keep (hr i hi) hk⟩
theorem Seg.sub (ha : Seg h M b o xs) (hk : ∀ b, b < h.size → M' b → M b) : Seg h M' b o xs := by
  obtain ⟨hb, cs, ty, fz, hc, hl, hr⟩ := ha
  exact ⟨fun h' => hb (hk b (Array.getElem?_eq_some_iff.1 hc).1 h'), cs, ty, fz, hc, hl, fun i hi => Rep.sub (hr i hi) hk⟩
theorem Seg.at' (ha : Seg h M b o xs) (i : Nat) (hi : i < xs.length) : At h M b (o + i * sz α) xs[i] := by
  obtain ⟨hb, cs, ty, fz, hc, hl, hr⟩ := ha
  exact ⟨hb, cs, ty, fz, hc, hr i hi⟩
end

instance {α : Type} [Rep α] : Rep (List α) where
  sz := 1
  agg := false
  flat _ := rfl
  rep h M xs vs := ∃ a c, vs = [.slice a xs.length c] ∧ xs.length ≤ c ∧ xs.length ≤ 9223372036854775807 ∧ (xs = [] ∨ ∃ b o, a = some ⟨b, o, none⟩ ∧ Seg h M b o xs)
  len h := by obtain ⟨a, c, rfl, _⟩ := h; rfl
  one h := by obtain ⟨a, c, rfl, _⟩ := h; intro v hv; simp at hv; subst hv; rfl
  keep h hk := by
    obtain ⟨a, c, e, h1, h2, h3⟩ := h
    exact ⟨a, c, e, h1, h2, h3.imp id (fun ⟨b, o, ha, hs⟩ => ⟨b, o, ha, hs.keep hk⟩)⟩
  sub h hk := by
    obtain ⟨a, c, e, h1, h2, h3⟩ := h
    exact ⟨a, c, e, h1, h2, h3.imp id (fun ⟨b, o, ha, hs⟩ => ⟨b, o, ha, hs.sub hk⟩)⟩

/-- A value reads as this. -/
def RV {α : Type} [Rep α] (w : World) (M : Nat → Prop) (x : α) (v : Value) : Prop := ∃ vs, rep w.heap M x vs ∧ v = if agg α then .agg vs.toArray else vs.headD undef
/-- A place reads as this. -/
def RA {α : Type} [Rep α] (w : World) (M : Nat → Prop) (x : α) (b o : Nat) : Prop := At w.heap M b o x

section
variable {α β : Type} [Rep α] [Rep β] {w w' : World} {A M M' : Nat → Prop} {x : α} {xs : List α} {v : Value} {b o : Nat}
theorem RV.ext (hr : RV w M x v) (he : Ext A w w') (hA : ∀ b, b < w.heap.size → A b → M b) : RV w' M x v :=
  let ⟨vs, h1, h2⟩ := hr; ⟨vs, Rep.keep h1 (fun b hb hn => he.block b hb (fun ha => hn (hA b hb ha))), h2⟩
theorem RV.sub (hr : RV w M x v) (hA : ∀ b, b < w.heap.size → M' b → M b) : RV w M' x v := let ⟨vs, h1, h2⟩ := hr; ⟨vs, Rep.sub h1 hA, h2⟩
theorem RA.ext (hr : RA w M x b o) (he : Ext A w w') (hA : ∀ b, b < w.heap.size → A b → M b) : RA w' M x b o :=
  At.keep hr (fun b hb hn => he.block b hb (fun ha => hn (hA b hb ha)))
theorem RA.sub (hr : RA w M x b o) (hA : ∀ b, b < w.heap.size → M' b → M b) : RA w M' x b o := At.sub hr hA

theorem rv_int {n : Int} : RV w M n v ↔ v = .int .i64 n := ⟨fun ⟨vs, h, e⟩ => by subst h; exact e, fun h => ⟨_, rfl, h⟩⟩
theorem rv_nat {n : Nat} : RV w M n v ↔ v = .int .i64 (n : Int) := ⟨fun ⟨vs, h, e⟩ => by subst h; exact e, fun h => ⟨_, rfl, h⟩⟩
theorem rv_str {s : ByteArray} : RV w M s v ↔ v = .string s ∧ s.size ≤ 9223372036854775807 := ⟨fun ⟨vs, h, e⟩ => by obtain ⟨rfl, h⟩ := h; exact ⟨e, h⟩, fun h => ⟨_, ⟨rfl, h.2⟩, h.1⟩⟩
theorem rv_list : RV w M xs v ↔ ∃ a c, v = .slice a xs.length c ∧ xs.length ≤ c ∧ xs.length ≤ 9223372036854775807 ∧ (xs = [] ∨ ∃ b o, a = some ⟨b, o, none⟩ ∧ Seg w.heap M b o xs) :=
  ⟨fun ⟨vs, h, e⟩ => by obtain ⟨a, c, rfl, h⟩ := h; exact ⟨a, c, e, h⟩, fun ⟨a, c, h⟩ => ⟨_, ⟨a, c, rfl, h.2⟩, h.1⟩⟩
theorem rv_nil : RV w M ([] : List α) (.slice none 0 0) := rv_list.2 ⟨none, 0, rfl, Nat.le_refl _, by simp, .inl rfl⟩

theorem RA.fst {p : α × β} (h : RA w M p b o) : RA w M p.1 b o := by
  obtain ⟨hb, cs, ty, fz, hc, us, ws, he, h1, h2⟩ := h
  refine ⟨hb, cs, ty, fz, hc, ?_⟩
  have : cellsAt cs o (sz α) = us := by
    have e : cellsAt cs o (sz (α × β)) = us ++ ws := he
    have hl := Rep.len h1
    have : cellsAt cs o (sz α) = (cellsAt cs o (sz (α × β))).take (sz α) := by
      simp only [cellsAt, List.take_take]
      congr 1
      exact (Nat.min_eq_left (Nat.le_add_right _ _)).symm
    rw [this, e, ← hl, List.take_left]
  rw [this]; exact h1
theorem RA.snd {p : α × β} (h : RA w M p b o) : RA w M p.2 b (o + sz α) := by
  obtain ⟨hb, cs, ty, fz, hc, us, ws, he, h1, h2⟩ := h
  refine ⟨hb, cs, ty, fz, hc, ?_⟩
  have : cellsAt cs (o + sz α) (sz β) = ws := by
    have e : cellsAt cs o (sz (α × β)) = us ++ ws := he
    have hl := Rep.len h1
    have : cellsAt cs (o + sz α) (sz β) = (cellsAt cs o (sz (α × β))).drop (sz α) := by
      simp only [cellsAt, List.drop_take, List.drop_drop]
      congr 1
      exact (Nat.add_sub_cancel_left _ _).symm
    rw [this, e, ← hl, List.drop_left]
  rw [this]; exact h2
theorem rep1_rv (h : rep w.heap M x [v]) (hx : Rep.agg α = false) : RV w M x v := ⟨[v], h, by simp [hx]⟩

/-! ### Loads and addresses -/

def aggB (P : Program) (t : TypeId) : Option Bool := match P.underlying t with | some (.struct _) => some true | some (.array _ _) => some true | some _ => some false | none => none
def szB (P : Program) (t : TypeId) : Option Nat := (P.info? t).map (·.size)

variable {P : Program} {N : Nat} {env : Env} {t u : TypeId} {y z : Operand}

theorem run_isAggB {b : Bool} (h : aggB P t = some b) (w : World) : (isAgg t).run P w = .ok b w := by
  unfold aggB at h
  split at h <;> rename_i hu <;> first | (simp only [Option.some.injEq] at h; subst h) | cases h
  all_goals simp [isAgg, run_underlying hu]

theorem run_sizeOfB {n : Nat} (h : szB P t = some n) (w : World) : (sizeOf t).run P w = .ok n w := by
  unfold szB at h
  cases hi : P.info? t with
  | none => rw [hi] at h; cases h
  | some i => rw [hi] at h; simp only [Option.map_some, Option.some.injEq] at h; subst h; simp [sizeOf, typeInfo, hi]

theorem cellsAt_get {cs : Array Value} {o n : Nat} {vs : List Value} (h : cellsAt cs o n = vs) (hl : vs.length = n) {j : Nat} (hj : j < n) : cs[o + j]? = vs[j]? := by
  subst h
  simp only [cellsAt, List.getElem?_take, List.getElem?_drop, if_pos hj]
  simp

theorem addr_add (b o n : Nat) : (⟨b, o, none⟩ : Addr).add n = ⟨b, o + n, none⟩ := by unfold Addr.add; split <;> simp_all

/-- A load of a scalar. -/
theorem RA.load (h : RA w M x b o) (ha : aggB P t = some false) (hx : Rep.agg α = false) (hy : ev env y = some (.pointer (some ⟨b, o, none⟩))) :
    ∃ v, RV w M x v ∧ ∀ w', w'.heap[b]? = w.heap[b]? → Val P N env (.load t y) w' v := by
  obtain ⟨hb, cs, ty, fz, hc, hr⟩ := h
  have h1 : sz α = 1 := Rep.flat hx
  obtain ⟨v, hv⟩ : ∃ v, cellsAt cs o (sz α) = [v] := List.length_eq_one_iff.1 (by rw [len hr, h1])
  rw [hv] at hr
  refine ⟨v, ⟨[v], hr, by simp [hx]⟩, fun w' hw => mk' fun ρ hρ oo ho => ?_⟩
  rw [← hw] at hc
  have h2 : cs[o]? = some v := by have := cellsAt_get (j := 0) hv (by simp [h1]) (by omega); simpa using this
  unfold execOp; rw [ho]
  simp [hρ _ _ hy, go_sem, Instr.loadAt, Instr.sureAddr, loadVar, run_isAggB ha, World.cell?, hc, h2]

/-- A load of a struct. -/
theorem RA.loadAgg (h : RA w M x b o) (ha : aggB P t = some true) (hs : szB P t = some (sz α)) (hx : Rep.agg α = true) (hy : ev env y = some (.pointer (some ⟨b, o, none⟩))) :
    ∃ v, RV w M x v ∧ ∀ w', w'.heap[b]? = w.heap[b]? → Val P N env (.load t y) w' v := by
  obtain ⟨hb, cs, ty, fz, hc, hr⟩ := h
  refine ⟨.agg (cellsAt cs o (sz α)).toArray, ⟨_, hr, by simp only [hx, if_true]⟩, fun w' hw => mk' fun ρ hρ oo ho => ?_⟩
  rw [← hw] at hc
  have hl := len hr
  have hcells : (loadCells ⟨b, o, none⟩ (sz α)).run P w' = .ok (cellsAt cs o (sz α)).toArray w' := by
    have := run_loadCells_list (P := P) w' ⟨b, o, none⟩ (cellsAt cs o (sz α)) (fun j v hv => by
      have hj : j < sz α := by rw [← hl]; exact (List.getElem?_eq_some_iff.1 hv).1
      rw [addr_add, cell_of_row w' b (o + j) cs ty fz hc, cellsAt_get rfl hl hj, hv])
    rwa [hl] at this
  simp only [loadCells] at hcells
  unfold execOp; rw [ho]
  simp [hρ _ _ hy, go_sem, Instr.loadAt, Instr.sureAddr, loadVar, run_isAggB ha, run_sizeOfB hs, loadCells, hcells]

/-- A load out of a block that is known. -/
theorem val_loadOwn {cs : List Value} {ty : TypeId} {fz : Nat × Nat} (hc : w.heap[b]? = some (.cells cs.toArray ty fz)) (ha : aggB P t = some false) (hv : cs[o]? = some v)
    (hy : ev env y = some (.pointer (some ⟨b, o, none⟩))) : Val P N env (.load t y) w v := mk' fun ρ hρ oo ho => by
  have h2 : cs.toArray[o]? = some v := by simpa using hv
  unfold execOp; rw [ho]
  simp [hρ _ _ hy, go_sem, Instr.loadAt, Instr.sureAddr, loadVar, run_isAggB ha, World.cell?, hc, h2]
theorem val_loadOwnAgg {cs : List Value} {ty : TypeId} {fz : Nat × Nat} {n : Nat} {vs : List Value} (hc : w.heap[b]? = some (.cells cs.toArray ty fz)) (ha : aggB P t = some true) (hs : szB P t = some n)
    (hv : (cs.drop o).take n = vs) (hl : vs.length = n) (hy : ev env y = some (.pointer (some ⟨b, o, none⟩))) : Val P N env (.load t y) w (.agg vs.toArray) := mk' fun ρ hρ oo ho => by
  have hcells : (loadCells ⟨b, o, none⟩ n).run P w = .ok vs.toArray w := by
    have := run_loadCells_list (P := P) w ⟨b, o, none⟩ vs (fun j u hu => by
      have hj : j < n := by rw [← hl]; exact (List.getElem?_eq_some_iff.1 hu).1
      rw [addr_add, cell_of_row w b (o + j) cs.toArray ty fz hc]
      rw [← hu, ← hv, List.getElem?_take, if_pos hj, List.getElem?_drop]; simp)
    rwa [hl] at this
  simp only [loadCells] at hcells
  unfold execOp; rw [ho]
  simp [hρ _ _ hy, go_sem, Instr.loadAt, Instr.sureAddr, loadVar, run_isAggB ha, run_sizeOfB hs, loadCells, hcells]

/-- The type's field: its place and that it takes memory. -/
def fieldB (P : Program) (t : TypeId) (f : Nat) : Option Nat := match P.underlying t with
  | some (.struct fs) => match fs[f]? with
    | some fl => match szB P fl.type with | some (_ + 1) => some fl.offset | _ => none
    | none => none
  | _ => none

theorem val_fieldAddr {f off : Nat} (hf : fieldB P t f = some off) (hy : ev env y = some (.pointer (some ⟨b, o, none⟩))) :
    Val P N env (.fieldAddr t y f) w (.pointer (some ⟨b, o + off, none⟩)) := mk' fun ρ hρ oo ho => by
  unfold fieldB at hf
  split at hf
  · rename_i fs hu
    split at hf
    · rename_i fl hfl
      split at hf
      · rename_i n hn
        simp only [Option.some.injEq] at hf
        subst hf
        unfold execOp; rw [ho]
        simp [hρ _ _ hy, go_sem, Instr.fieldAt, run_underlying hu, hfl, Instr.sureAddr, fieldPlace, run_sizeOfB hn, addr_add]
      · cases hf
    · cases hf
  · cases hf

def elemB (P : Program) (t : TypeId) : Option (TypeId × Nat) := match P.underlying t with
  | some (.slice e) => match szB P e with | some n => some (e, n) | none => none
  | _ => none

theorem val_indexAddr {e n l c : Nat} {k : IntKind} {i : Int} (hf : elemB P t = some (e, n)) (hy : ev env y = some (.slice (some ⟨b, o, none⟩) l c)) (hz : ev env z = some (.int k i))
    (h0 : 0 ≤ i) (h1 : i < l) : Val P N env (.indexAddr t y z) w (.pointer (some ⟨b, o + i.toNat * n, none⟩)) := mk' fun ρ hρ oo ho => by
  unfold elemB at hf
  split at hf
  · rename_i e' hu
    split at hf
    · rename_i n' hn
      simp only [Option.some.injEq, Prod.mk.injEq] at hf
      obtain ⟨rfl, rfl⟩ := hf
      unfold execOp; rw [ho]
      simp only [hρ _ _ hy, hρ _ _ hz]
      simp [go_sem, Instr.indexAt, run_underlying hu, asIntOf, run_sizeOfB hn, h0, h1, addr_add]
    · cases hf
  · cases hf

/-- The address of an element of a list. -/
theorem RV.index (h : RV w M xs v) (hy : ev env y = some v) {e : Nat} {k : IntKind} {i : Int} (hf : elemB P t = some (e, sz α)) (hz : ev env z = some (.int k i))
    (h0 : 0 ≤ i) (h1 : i < xs.length) : ∃ b o, RA w M (xs[i.toNat]'(by omega)) b o ∧ ∀ w', Val P N env (.indexAddr t y z) w' (.pointer (some ⟨b, o, none⟩)) := by
  obtain ⟨a, c, rfl, hc, hm, hs⟩ := rv_list.1 h
  rcases hs with rfl | ⟨b, o, rfl, hs⟩
  · simp at h1; omega
  · exact ⟨b, o + i.toNat * sz α, hs.at' _ _, fun w' => val_indexAddr hf hy hz h0 h1⟩
theorem RV.len (h : RV w M xs v) : ∃ a c, v = .slice a xs.length c := let ⟨a, c, e, _⟩ := rv_list.1 h; ⟨a, c, e⟩
theorem RV.le (h : RV w M xs v) : xs.length ≤ 9223372036854775807 := let ⟨a, c, _, _, e, _⟩ := rv_list.1 h; e
theorem RV.lenV (h : RV w M xs v) (hy : ev env y = some v) {e : TypeId} (ht : P.underlying t = some (.slice e)) :
    ∀ w', Val P N env (.call { callee := .builtin .len, args := #[y], argTypes := #[t] }) w' (.int .i64 xs.length) := fun w' => by
  obtain ⟨a, c, rfl⟩ := h.len
  exact val_len_slice hy ht
/-- A scalar's value is one cell. -/
theorem RV.one (h : RV w M x v) (hx : Rep.agg α = false) : v.cells = #[v] ∧ v.oneCell' = true := by
  obtain ⟨vs, h1, h2⟩ := h
  have hl := Rep.len h1
  rw [Rep.flat hx] at hl
  obtain ⟨u, rfl⟩ := List.length_eq_one_iff.1 hl
  simp only [hx, Bool.false_eq_true, if_false, List.headD_cons] at h2
  subst h2
  have h3 := Rep.one h1 v (by simp)
  refine ⟨?_, h3⟩
  cases v <;> first | rfl | simp [Value.oneCell'] at h3
/-- A struct's value is its cells. -/
theorem RV.many (h : RV w M x v) (hx : Rep.agg α = true) : ∃ vs, v = .agg vs.toArray ∧ vs.length = sz α ∧ (∀ u ∈ vs, u.oneCell' = true) ∧ rep w.heap M x vs := by
  obtain ⟨vs, h1, h2⟩ := h
  simp only [hx, if_true] at h2
  exact ⟨vs, h2, Rep.len h1, Rep.one h1, h1⟩
end
end Go.K

/- The operations that make memory or write it. -/
set_option linter.unusedVariables false
set_option linter.unusedSimpArgs false
namespace Go.K
open Rep

structure New (w w' : World) (o : Obj) : Prop where
  ext : Ext No w w'
  at_ : w'.heap[w.heap.size]? = some o
  size : w'.heap.size = w.heap.size + 1

structure Upd (w w' : World) (b : Nat) (o : Obj) : Prop where
  ext : Ext (One b) w w'
  at_ : w'.heap[b]? = some o
  size : w'.heap.size = w.heap.size

theorem new_alloc (w : World) (o : Obj) : New w (w.alloc o) o :=
  ⟨⟨rfl, rfl, rfl, by simp, fun b hb _ => heap_alloc_old w o hb, Dr.refl rfl⟩, heap_alloc_new w o, by simp⟩
theorem new_alloc_drew (w : World) (o : Obj) : New w (w.drew.alloc o) o :=
  ⟨⟨rfl, rfl, rfl, by simp, fun b hb _ => heap_alloc_old w.drew o hb, Dr.succ rfl⟩, heap_alloc_new w.drew o, by simp⟩
theorem upd_setRow {w : World} {b : Nat} {old cs : Array Value} {t : TypeId} {fr : Nat × Nat} (h : w.heap[b]? = some (.cells old t fr)) : Upd w (w.setRow b cs) b (.cells cs t fr) :=
  ⟨⟨rfl, rfl, rfl, by simp [World.setRow], fun k _ hk => setRow_other w b k cs (fun e => hk e), Dr.refl rfl⟩, setRow_heap w b old cs t fr h, by simp [World.setRow]⟩

def zeroB (P : Program) (t : TypeId) : Option (List Value) := ((P.info? t).bind (·.zero)).map (·.cells.toList)

section
variable {P : Program} {N : Nat} {env : Env} {w : World} {x y z : Operand} {t u e : TypeId} {v : Value}

theorem run_zeroB {l : List Value} (h : zeroB P t = some l) (w : World) : ∃ z, (zeroValue t).run P w = .ok z w ∧ z.cells = l.toArray := by
  unfold zeroB at h
  cases hi : P.info? t with
  | none => rw [hi] at h; cases h
  | some i =>
    rw [hi] at h
    cases hz : i.zero with
    | none => simp [hz] at h
    | some z => simp [hz] at h; subst h; exact ⟨z, by simp [zeroValue, typeInfo, hi, hz], by simp⟩

theorem acts' {op : Op} {T : Value → World → Prop} (h : ∀ ρ : Operand → Value, (∀ x v, ev env x = some v → ρ x = v) → ∀ o : Oper, o.op = op →
    ∃ v w', ((execOp ρ o).run P w = .ok (.value v) w' ∨ ((execOp ρ o).run P w = .ok .skip w' ∧ v = undef)) ∧ T v w') : Acts P N env op w T :=
  fun a ha o ho => h a.eval (fun x v hx => ha.ev hx) o ho

theorem acts_alloc {l : List Value} (hz : zeroB P t = some l) :
    Acts P N env (.alloc t) w (fun v w' => v = .pointer (some ⟨w.heap.size, 0, none⟩) ∧ New w w' (.cells l.toArray t)) := acts' fun ρ hρ o ho => by
  obtain ⟨zv, h1, h2⟩ := run_zeroB hz w
  refine ⟨_, _, .inl ?_, rfl, new_alloc w _⟩
  unfold execOp; rw [ho]
  simp [go_sem, Instr.alloc, h1, newVar, newRow]
  exact congrArg (fun c => w.alloc (.cells c t)) h2

theorem acts_box {cs : List Value} (hx : ev env x = some v) (hc : v.cells = cs.toArray) :
    Acts P N env (.box t x) w (fun u w' => u = .pointer (some ⟨w.heap.size, 0, none⟩) ∧ New w w' (.cells cs.toArray t)) := acts' fun ρ hρ o ho => by
  refine ⟨_, _, .inl ?_, rfl, new_alloc w _⟩
  unfold execOp; rw [ho]
  simp [hρ _ _ hx, go_sem, Instr.box, newVar, newRow]
  exact congrArg (fun c => w.alloc (.cells c t)) hc

theorem run_storeVarL {b o n : Nat} {cs vs : List Value} {ty : TypeId} (hs : szB P t = some n) (hv : v.cells = vs.toArray) (hl : vs.length = n) (h1 : ∀ u ∈ vs, u.oneCell' = true)
    (hb : w.heap[b]? = some (.cells cs.toArray ty (0, 0))) (ho : o + n ≤ cs.length) :
    (storeVar t ⟨b, o, none⟩ v).run P w = .ok () (w.setRow b (cs.take o ++ vs ++ cs.drop (o + n)).toArray) := by
  have hst := run_storeCells_at P b o ty vs 0 cs.toArray w hb (by simpa [hl] using ho) h1
  simp only [Nat.add_zero, hl] at hst
  unfold storeVar
  simp [run_sizeOfB hs, hv, hl, hst]

theorem acts_store {b o n : Nat} {cs vs : List Value} {ty : TypeId} (hx : ev env x = some (.pointer (some ⟨b, o, none⟩))) (hy : ev env y = some v) (hs : szB P t = some n)
    (hv : v.cells = vs.toArray) (hl : vs.length = n) (h1 : ∀ u ∈ vs, u.oneCell' = true) (hb : w.heap[b]? = some (.cells cs.toArray ty (0, 0))) (ho : o + n ≤ cs.length) :
    Acts P N env (.store t x y) w (fun u w' => u = undef ∧ Upd w w' b (.cells (cs.take o ++ vs ++ cs.drop (o + n)).toArray ty (0, 0))) := acts' fun ρ hρ oo hoo => by
  refine ⟨undef, _, .inr ⟨?_, rfl⟩, rfl, upd_setRow hb⟩
  unfold execOp; rw [hoo]
  simp only [hρ _ _ hx, hρ _ _ hy, Instr.storeAt, Instr.sureAddr, Sem.run_bind, Sem.run_pure, Result.andThen_ok]
  rw [run_storeVarL hs hv hl h1 hb ho]
  rfl

theorem acts_store1 {b o : Nat} {cs : List Value} {ty : TypeId} (hx : ev env x = some (.pointer (some ⟨b, o, none⟩))) (hy : ev env y = some v) (hs : szB P t = some 1)
    (hv : v.cells = #[v]) (h1 : v.oneCell' = true) (hb : w.heap[b]? = some (.cells cs.toArray ty (0, 0))) (ho : o < cs.length) :
    Acts P N env (.store t x y) w (fun u w' => u = undef ∧ Upd w w' b (.cells (cs.set o v).toArray ty (0, 0))) := by
  have h := acts_store (P := P) (N := N) (w := w) (vs := [v]) (n := 1) hx hy hs (by simpa using hv) rfl (by simpa using h1) hb ho
  have e : cs.take o ++ [v] ++ cs.drop (o + 1) = cs.set o v := by
    rw [List.set_eq_take_append_cons_drop, if_pos ho]; simp
  rwa [e] at h
end

/-! ### Lists of the call's own -/

/-- A slice of the call's own: nil, or at the head of a block of its own, which is among `M`. -/
def OwnS {α : Type} [Rep α] (w : World) (M : Nat → Prop) (e : TypeId) (v : Value) (ys : List α) : Prop :=
  (v = .slice none 0 0 ∧ ys = []) ∨
  ∃ g cap cs, v = .slice (some ⟨g, 0, none⟩) ys.length cap ∧ M g ∧ w.heap[g]? = some (.cells cs e (0, 0)) ∧ ys.length ≤ cap ∧ cs.size = cap * sz α ∧
    ∀ i (hi : i < ys.length), rep w.heap M ys[i] (cellsAt cs (i * sz α) (sz α))

section
variable {α : Type} [Rep α] {w w' : World} {A M M' : Nat → Prop} {e : TypeId} {v : Value} {ys zs : List α}

theorem OwnS.nil : OwnS w M e (.slice none 0 0) ([] : List α) := .inl ⟨rfl, rfl⟩

theorem OwnS.ext (h : OwnS w M e v ys) (he : Ext A w w') (hA : ∀ b, b < w.heap.size → A b → M b) (hv : ∀ b, Ob v b → ¬ A b) : OwnS w' M e v ys := by
  rcases h with h | ⟨g, cap, cs, hv', hg, hc, h1, h2, h3⟩
  · exact .inl h
  · refine .inr ⟨g, cap, cs, hv', hg, he.at' hc (hv g (by subst hv'; rfl)), h1, h2, fun i hi => Rep.keep (h3 i hi) (fun b hb hn => he.block b hb (fun ha => hn (hA b hb ha)))⟩

theorem OwnS.sub (h : OwnS w M e v ys) (hM : ∀ b, b < w.heap.size → M' b → M b) (hv : ∀ b, Ob v b → M' b) : OwnS w M' e v ys := by
  rcases h with h | ⟨g, cap, cs, hv', hg, hc, h1, h2, h3⟩
  · exact .inl h
  · exact .inr ⟨g, cap, cs, hv', hv g (by subst hv'; rfl), hc, h1, h2, fun i hi => Rep.sub (h3 i hi) hM⟩

theorem OwnS.ob (h : OwnS w M e v ys) : ∀ b, Ob v b → M b ∧ b < w.heap.size := by
  intro b hb
  rcases h with ⟨rfl, _⟩ | ⟨g, cap, cs, rfl, hg, hc, _⟩
  · cases hb
  · simp only [Ob, Value.ownBlock, Option.some.injEq] at hb
    subst hb
    exact ⟨hg, lt_of_at hc⟩

theorem OwnS.len (h : OwnS w M e v ys) : ∃ a c, v = .slice a ys.length c := by
  rcases h with ⟨rfl, rfl⟩ | ⟨g, cap, cs, rfl, _⟩
  · exact ⟨none, 0, rfl⟩
  · exact ⟨_, _, rfl⟩

/-- It is not written any more: it reads as a list. -/
theorem OwnS.read (h : OwnS w M e v ys) (hM : ∀ b, b < w.heap.size → M' b → M b ∧ ¬ Ob v b) (hl : ys.length ≤ 9223372036854775807) : RV w M' ys v := by
  rcases h with ⟨rfl, rfl⟩ | ⟨g, cap, cs, rfl, hg, hc, h1, h2, h3⟩
  · exact rv_nil
  · refine rv_list.2 ⟨_, cap, rfl, h1, hl, .inr ⟨g, 0, rfl, ?_⟩⟩
    refine ⟨fun hm => (hM g (lt_of_at hc) hm).2 rfl, cs, e, _, hc, ?_, fun i hi => ?_⟩
    · rw [Nat.zero_add, h2]; exact Nat.mul_le_mul_right _ h1
    · rw [Nat.zero_add]; exact Rep.sub (h3 i hi) (fun b hb hm => (hM b hb hm).1)

theorem cellsAt_ext {cs cs' : Array Value} {o o' n : Nat} (h : ∀ j, j < n → cs[o + j]? = cs'[o' + j]?) : cellsAt cs o n = cellsAt cs' o' n := by
  apply List.ext_getElem?
  intro j
  simp only [cellsAt, List.getElem?_take, List.getElem?_drop]
  split
  · rename_i hj; simpa using h j hj
  · rfl

variable {P : Program} {N : Nat} {env : Env} {x y : Operand} {t u : TypeId} {s : Value}

/-- What is asked of a slice type: its element, the element's cells and bytes, and that its zero value has as many cells. -/
def rowB (P : Program) (t e n bytes : Nat) : Bool := match P.underlying t, P.info? e with
  | some (.slice e'), some i => e' == e && i.size == n && i.bytes == bytes && (match i.zero with | some z => z.cells.size == n | none => false)
  | _, _ => false
theorem rowB_spec {n bytes : Nat} (h : rowB P t e n bytes = true) : ∃ i z, P.underlying t = some (.slice e) ∧ P.info? e = some i ∧ i.size = n ∧ i.bytes = bytes ∧ i.zero = some z ∧ z.cells.size = n := by
  unfold rowB at h
  split at h
  · rename_i e' i hu hi
    simp only [Bool.and_eq_true, beq_iff_eq] at h
    obtain ⟨⟨⟨rfl, h1⟩, h2⟩, h3⟩ := h
    cases hz : i.zero with
    | none => rw [hz] at h3; cases h3
    | some z => rw [hz] at h3; exact ⟨i, z, hu, hi, h1, h2, hz, by simpa using h3⟩
  · cases h

/-- 'append(own, list...)'. -/
theorem acts_append {bytes : Nat} (hx : ev env x = some v) (hy : ev env y = some s) (hrow : rowB P t e (sz α) bytes = true) (hsz : 0 < sz α)
    (hown : OwnS w M e v ys) (hsrc : RV w M zs s) (hlen : (ys.length + zs.length) * bytes ≤ 140737488355328) (h63 : ys.length + zs.length ≤ 140737488355328) :
    Acts P N env (.call { callee := .builtin .append, args := #[x, y], argTypes := #[t, t] }) w (fun v' w' =>
      OwnS w' (fun b => Ob v' b ∨ M b) e v' (ys ++ zs) ∧ Ext (Ob v) w w' ∧ (∀ b, Ob v' b → Ob v b ∨ w.heap.size ≤ b)) := acts' fun ρ hρ oo hoo => by
  obtain ⟨i, z, hu, hi, rfl0, hby, hz, hzs⟩ := rowB_spec hrow
  obtain ⟨a, c, rfl, hcap, hl0, hseg⟩ := rv_list.1 hsrc
  have key : ∃ v' w', (Builtin.append_ #[t, t] oo.type #[v, .slice a zs.length c]).run P w = .ok v' w' ∧
      OwnS w' (fun b => Ob v' b ∨ M b) e v' (ys ++ zs) ∧ Ext (Ob v) w w' ∧ (∀ b, Ob v' b → Ob v b ∨ w.heap.size ≤ b) := by
    by_cases hzs0 : zs = []
    · subst hzs0
      refine ⟨v, w, ?_, ?_, Ext.refl _ _, fun b hb => .inl hb⟩
      · have hf : (Builtin.firstCells i.size 0 (.slice a 0 c)).run P w = .ok #[] w := by cases a <;> simp [Builtin.firstCells, loadCells, loadCellsFrom]
        rcases hown with ⟨rfl, _⟩ | ⟨g, cap, cs, rfl, hg, hc, h1, h2, h3⟩
        · simp [Builtin.append_, run_underlying hu, sizeOf, typeInfo, hi, Builtin.lenOf, hf]
        · simp [Builtin.append_, run_underlying hu, sizeOf, typeInfo, hi, Builtin.lenOf, hf, h1, storeCells]
      · rw [List.append_nil]
        exact hown.sub (fun b hb h => h.elim (fun ho => (hown.ob b ho).1) id) (fun b hb => .inl hb)
    · rcases hseg with h | ⟨sb, so, rfl, hsb, scs, sty, sfz, hsc, hsl, hsr⟩
      · exact absurd h hzs0
      · have hm0 : 0 < zs.length := List.length_pos_iff.2 hzs0
        obtain ⟨news, hnews_def⟩ : ∃ news, news = cellsAt scs so (zs.length * sz α) := ⟨_, rfl⟩
        have hnl : news.length = zs.length * i.size := by
          rw [hnews_def, rfl0]; simp only [cellsAt, List.length_take, List.length_drop, Array.length_toList]; omega
        have hnl' : news.length = zs.length * sz α := by rw [hnl, rfl0]
        have hget : ∀ j, j < zs.length * sz α → news[j]? = scs[so + j]? := fun j hj => by
          rw [hnews_def]; simp only [cellsAt, List.getElem?_take, if_pos hj, List.getElem?_drop]; simp
        have hnews : ∀ j v, news[j]? = some v → w.cell? ((⟨sb, so, none⟩ : Addr).add j) = some v := fun j v hv => by
          have hj : j < zs.length * sz α := by rw [← hnl']; exact (List.getElem?_eq_some_iff.1 hv).1
          rw [addr_add, cell_of_row w sb (so + j) scs sty sfz hsc, ← hget j hj, hv]
        have hrepn : ∀ k (hk : k < zs.length), rep w.heap M zs[k] (cellsAt news.toArray (k * sz α) (sz α)) := fun k hk => by
          have := hsr k hk
          rwa [show cellsAt scs (so + k * sz α) (sz α) = cellsAt news.toArray (k * sz α) (sz α) from cellsAt_ext (fun j hj => by
            have hb : k * sz α + j < zs.length * sz α := by
              have := Nat.mul_le_mul_right (sz α) (show k + 1 ≤ zs.length from hk); rw [Nat.succ_mul] at this; omega
            rw [show ∀ m, news.toArray[m]? = news[m]? from fun m => by simp, hget _ hb, Nat.add_assoc])] at this
        have h1c : ∀ u ∈ news, u.oneCell' = true := fun u hu' => by
          obtain ⟨j, hj, rfl⟩ := List.mem_iff_getElem.1 hu'
          have hjl : j < zs.length * sz α := by rw [← hnl']; exact hj
          have hk : j / sz α < zs.length := (Nat.div_lt_iff_lt_mul hsz).2 hjl
          refine Rep.one (hrepn (j / sz α) hk) _ ?_
          apply List.mem_iff_getElem?.2
          refine ⟨j % sz α, ?_⟩
          have hmod := Nat.mod_lt j hsz
          simp only [cellsAt, List.getElem?_take, if_pos hmod, List.getElem?_drop]
          rw [Nat.mul_comm, Nat.div_add_mod]
          simp [hj]
        -- a block made anew
        have fresh : ∀ (olds : List Value) (cap : Nat) (o : Obj), olds.length = ys.length * sz α → (∀ k (hk : k < ys.length), rep w.heap M ys[k] (cellsAt olds.toArray (k * sz α) (sz α))) →
            o = .cells (olds.toArray ++ news.toArray ++ Builtin.zeroCells z.cells (cap - (ys.length + zs.length))) e (0, 0) → ys.length + zs.length ≤ cap →
            OwnS (w.drew.alloc o) (fun b => Ob (.slice (some ⟨w.heap.size, 0, none⟩) (ys.length + zs.length) cap) b ∨ M b) e (.slice (some ⟨w.heap.size, 0, none⟩) (ys.length + zs.length) cap) (ys ++ zs) := by
          intro olds cap o holds hrepo ho hcap'
          subst ho
          have hnew := new_alloc_drew w (.cells (olds.toArray ++ news.toArray ++ Builtin.zeroCells z.cells (cap - (ys.length + zs.length))) e (0, 0))
          refine .inr ⟨w.heap.size, cap, _, by rw [List.length_append], .inl rfl, hnew.at_, by rw [List.length_append]; exact hcap', ?_, ?_⟩
          · simp only [Array.size_append, List.size_toArray, size_zeroCells, hzs, holds, hnl', ← Nat.add_mul]
            congr 1; omega
          · intro k hk
            rw [List.length_append] at hk
            have hkeep : ∀ (x : α) (vs : List Value), rep w.heap M x vs → rep (w.drew.alloc (.cells (olds.toArray ++ news.toArray ++ Builtin.zeroCells z.cells (cap - (ys.length + zs.length))) e (0, 0))).heap
                (fun b => Ob (.slice (some ⟨w.heap.size, 0, none⟩) (ys.length + zs.length) cap) b ∨ M b) x vs := fun x vs hr =>
              Rep.keep (Rep.sub hr (fun b hb h => h.elim (fun e => by simp only [Ob, Value.ownBlock, Option.some.injEq] at e; omega) id)) (fun b hb _ => hnew.ext.block b hb (fun h => h))
            by_cases hky : k < ys.length
            · rw [List.getElem_append_left hky]
              have := hrepo k hky
              rw [show cellsAt olds.toArray (k * sz α) (sz α) = cellsAt (olds.toArray ++ news.toArray ++ Builtin.zeroCells z.cells (cap - (ys.length + zs.length))) (k * sz α) (sz α) from cellsAt_ext (fun j hj => by
                have hb : k * sz α + j < ys.length * sz α := by
                  have := Nat.mul_le_mul_right (sz α) (show k + 1 ≤ ys.length from hky); rw [Nat.succ_mul] at this; omega
                rw [Array.append_assoc, Array.getElem?_append_left (by simpa [holds] using hb)])] at this
              exact hkeep _ _ this
            · rw [List.getElem_append_right (by omega)]
              have hkz : k - ys.length < zs.length := by omega
              have := hrepn (k - ys.length) hkz
              rw [show cellsAt news.toArray ((k - ys.length) * sz α) (sz α) = cellsAt (olds.toArray ++ news.toArray ++ Builtin.zeroCells z.cells (cap - (ys.length + zs.length))) (k * sz α) (sz α) from cellsAt_ext (fun j hj => by
                have hb : (k - ys.length) * sz α + j < zs.length * sz α := by
                  have := Nat.mul_le_mul_right (sz α) (show k - ys.length + 1 ≤ zs.length from hkz); rw [Nat.succ_mul] at this; omega
                have he : k * sz α = ys.length * sz α + (k - ys.length) * sz α := by rw [← Nat.add_mul]; congr 1; omega
                rw [Array.getElem?_append_left (by simp only [Array.size_append, List.size_toArray, holds, hnl']; omega), Array.getElem?_append_right (by simp only [List.size_toArray, holds]; omega)]
                congr 1
                simp only [List.size_toArray, holds]; omega)] at this
              exact hkeep _ _ this
        rcases hown with ⟨rfl, rfl⟩ | ⟨g, cap, cs, rfl, hg, hc, h1, h2, h3⟩
        · have hr := run_append_nil (P := P) w t oo.type e i z hu hi hz ⟨sb, so, none⟩ zs.length c news hnl hnews hm0 (by omega)
            (by rw [hby]; simp only [List.length_nil, Nat.zero_add] at hlen; omega)
          have hfr := fresh [] (grownCap w zs.length 0 e) _ (by simp) (fun k hk => by simp at hk) rfl (by simpa using grownCap_ge w zs.length 0 e)
          simp only [List.length_nil, Nat.zero_add, List.nil_append] at hfr
          refine ⟨_, _, hr, ?_, ?_, ?_⟩
          · simpa using hfr
          · exact (new_alloc_drew w _).ext.mono (fun b hb h => h.elim)
          · intro b hb; simp only [Ob, Value.ownBlock, Option.some.injEq] at hb; exact .inr (by omega)
        · have hcsl : (cellsAt cs 0 (ys.length * sz α)).length = ys.length * sz α := by
            have := Nat.mul_le_mul_right (sz α) h1
            simp only [cellsAt, List.length_take, List.length_drop, Array.length_toList]; omega
          have hcsg : ∀ j, j < ys.length * sz α → (cellsAt cs 0 (ys.length * sz α))[j]? = cs[j]? := fun j hj => by
            simp only [cellsAt, List.getElem?_take, if_pos hj, List.getElem?_drop]; simp
          have hrepo : ∀ k (hk : k < ys.length), rep w.heap M ys[k] (cellsAt (cellsAt cs 0 (ys.length * sz α)).toArray (k * sz α) (sz α)) := fun k hk => by
            have := h3 k hk
            rwa [show cellsAt cs (k * sz α) (sz α) = cellsAt (cellsAt cs 0 (ys.length * sz α)).toArray (k * sz α) (sz α) from cellsAt_ext (fun j hj => by
              have hb : k * sz α + j < ys.length * sz α := by
                have := Nat.mul_le_mul_right (sz α) (show k + 1 ≤ ys.length from hk); rw [Nat.succ_mul] at this; omega
              rw [show ∀ m, (cellsAt cs 0 (ys.length * sz α)).toArray[m]? = (cellsAt cs 0 (ys.length * sz α))[m]? from fun m => by simp, hcsg _ hb])] at this
          by_cases hroom : ys.length + zs.length ≤ cap
          · have hbound : ys.length * i.size + news.length ≤ cs.size := by
              rw [hnl, rfl0, h2, ← Nat.add_mul]; exact Nat.mul_le_mul_right _ hroom
            have hr := run_append_room (P := P) w t oo.type e i hu hi g ys.length cap cs hc ⟨sb, so, none⟩ zs.length c news hnl hnews h1c hroom hbound
            have hupd := upd_setRow (w := w) (cs := (cs.toList.take (ys.length * i.size) ++ news ++ cs.toList.drop (ys.length * i.size + news.length)).toArray) hc
            refine ⟨_, _, hr, .inr ⟨g, cap, _, by rw [List.length_append], .inr hg, hupd.at_, by rw [List.length_append]; exact hroom, ?_, ?_⟩, ?_, ?_⟩
            · simp only [List.size_toArray, List.length_append, List.length_take, List.length_drop, Array.length_toList, hnl, rfl0] at hbound ⊢
              omega
            · intro k hk
              rw [List.length_append] at hk
              have hkeep : ∀ (x : α) (vs : List Value), rep w.heap M x vs → rep (w.setRow g (cs.toList.take (ys.length * i.size) ++ news ++ cs.toList.drop (ys.length * i.size + news.length)).toArray).heap
                  (fun b => Ob (.slice (some ⟨g, 0, none⟩) (ys.length + zs.length) cap) b ∨ M b) x vs := fun x vs hr' =>
                Rep.keep (Rep.sub hr' (fun b hb h => h.elim (fun e => by simp only [Ob, Value.ownBlock, Option.some.injEq] at e; subst e; exact hg) id))
                  (fun b hb hn => hupd.ext.block b hb (fun h => hn (.inr (by rw [show b = g from h]; exact hg))))
              rw [rfl0] at hbound
              by_cases hky : k < ys.length
              · rw [List.getElem_append_left hky]
                have := h3 k hky
                rw [show cellsAt cs (k * sz α) (sz α) = cellsAt (cs.toList.take (ys.length * i.size) ++ news ++ cs.toList.drop (ys.length * i.size + news.length)).toArray (k * sz α) (sz α) from cellsAt_ext (fun j hj => by
                  have hb : k * sz α + j < ys.length * sz α := by
                    have := Nat.mul_le_mul_right (sz α) (show k + 1 ≤ ys.length from hky); rw [Nat.succ_mul] at this; omega
                  conv => rhs; rw [List.getElem?_toArray, List.append_assoc, List.getElem?_append_left (by simp only [List.length_take, Array.length_toList, rfl0]; omega), List.getElem?_take, if_pos (by rw [rfl0]; exact hb)]
                  simp)] at this
                exact hkeep _ _ this
              · rw [List.getElem_append_right (by omega)]
                have hkz : k - ys.length < zs.length := by omega
                have := hrepn (k - ys.length) hkz
                rw [show cellsAt news.toArray ((k - ys.length) * sz α) (sz α) = cellsAt (cs.toList.take (ys.length * i.size) ++ news ++ cs.toList.drop (ys.length * i.size + news.length)).toArray (k * sz α) (sz α) from cellsAt_ext (fun j hj => by
                  have hb : (k - ys.length) * sz α + j < zs.length * sz α := by
                    have := Nat.mul_le_mul_right (sz α) (show k - ys.length + 1 ≤ zs.length from hkz); rw [Nat.succ_mul] at this; omega
                  have he : k * sz α = ys.length * sz α + (k - ys.length) * sz α := by rw [← Nat.add_mul]; congr 1; omega
                  have htl : (cs.toList.take (ys.length * i.size)).length = ys.length * sz α := by simp only [List.length_take, Array.length_toList, rfl0]; omega
                  rw [show ∀ m, news.toArray[m]? = news[m]? from fun m => by simp, show ∀ (l : List Value) m, l.toArray[m]? = l[m]? from fun l m => by simp, List.getElem?_append_left (by rw [List.length_append, htl]; omega), List.getElem?_append_right (by rw [htl]; omega), htl]
                  congr 1; omega)] at this
                exact hkeep _ _ this
            · exact hupd.ext.mono (fun b hb h => by rw [show b = g from h]; rfl)
            · intro b hb; exact .inl hb
          · have holds : ∀ j v, (cellsAt cs 0 (ys.length * sz α))[j]? = some v → w.cell? ((⟨g, 0, none⟩ : Addr).add j) = some v := fun j v hv => by
              have hj : j < ys.length * sz α := by rw [← hcsl]; exact (List.getElem?_eq_some_iff.1 hv).1
              rw [addr_add, cell_of_row w g (0 + j) cs e (0, 0) hc, Nat.zero_add, ← hcsg j hj, hv]
            have hr := run_append_grow (P := P) w t oo.type e i z hu hi hz ⟨g, 0, none⟩ ys.length cap (cellsAt cs 0 (ys.length * sz α)) (by rw [rfl0]; exact hcsl) holds ⟨sb, so, none⟩ zs.length c news hnl hnews (by omega) (by omega)
              (growslice_fits (by omega) (by rw [hby]; exact hlen))
            have hfr := fresh _ (grownCap w (ys.length + zs.length) cap e) _ hcsl hrepo rfl (grownCap_ge w _ _ e)
            refine ⟨_, _, hr, hfr, ?_, ?_⟩
            · exact (new_alloc_drew w _).ext.mono (fun b hb h => h.elim)
            · intro b hb; simp only [Ob, Value.ownBlock, Option.some.injEq] at hb; exact .inr (by omega)
  obtain ⟨v', w', hrun, hpost⟩ := key
  refine ⟨v', w', .inl ?_, hpost⟩
  unfold execOp; rw [hoo]
  simp [hρ _ _ hx, hρ _ _ hy, resolve, invoke, builtin, hrun]
end
end Go.K

/- The rules as the scripts use them. -/
set_option linter.unusedVariables false
set_option linter.unusedSimpArgs false
namespace Go.K
open Rep

/-! ### Parts of code, by where they stand -/
def cl : Code → Code | .seq a _ => a | .cond _ a _ => a | .block _ b => b | .loop b => b | .scope b => b | c => c
def cr : Code → Code | .seq _ b => b | .cond _ _ b => b | c => c
def rops : Code → Array Oper | .region _ ops _ => ops | _ => #[]
def bodyOf (fn : Func) : Code := match fn.body with | some c => c | none => .skip

section
variable {P : Program} {f : FuncId} {N : Nat} {k : List Item} {env : Env} {w w' : World} {R : Value → World → Prop} {Q : Exit → Act → World → Prop}
variable {ops : Array Oper} {S : World → Prop} {i t : Nat} {L : List (Nat × Bool)} {op : Op} {v : Value} {x y z : Operand} {g : Option (Nat × Bool)}

theorem yS (hop : opAt ops i = some (some t, op, g)) (hw : wantedE ops env g = some true) (ht : Nat.blt t N = true)
    (hy : ∀ w', S w' → Val P N env op w' v) (h : SchQ P N Q ops S L ((t, v) :: env) w) : SchQ P N Q ops S ((i, true) :: L) env w := Sch.yield hop hw ht hy h
theorem pS (hop : opAt ops i = some (some t, op, g)) (hw : wantedE ops env g = some false) (ht : Nat.blt t N = true)
    (h : SchQ P N Q ops S L ((t, undef) :: env) w) : SchQ P N Q ops S ((i, true) :: L) env w := Sch.pass hop hw ht h
theorem pW (hop : opAt ops i = some (some t, op, g)) (hw : wantedE ops env g = some false) (ht : Nat.blt t N = true) (hS : S w)
    (h : SchQ P N Q ops S L ((t, undef) :: env) w) : SchQ P N Q ops S ((i, false) :: L) env w := Sch.passW hop hw ht hS h
theorem nS (hop : opAt ops i = some (some t, op, g)) (hw : wantedE ops env g = some true) (ht : Nat.blt t N = true) (hS : S w)
    (hy : Val P N env op w v) (h : SchQ P N Q ops S L ((t, v) :: env) w) : SchQ P N Q ops S ((i, false) :: L) env w := Sch.now hop hw ht hS hy h
theorem aS {T : Value → World → Prop} (hop : opAt ops i = some (some t, op, g)) (hw : wantedE ops env g = some true) (ht : Nat.blt t N = true)
    (hy : Acts P N env op w T) (h : ∀ v w', T v w' → S w' ∧ SchQ P N Q ops S L ((t, v) :: env) w') : SchQ P N Q ops S ((i, false) :: L) env w := Sch.act hop hw ht hy h
theorem aN {T : Value → World → Prop} (hop : opAt ops i = some (none, op, g)) (hw : wantedE ops env g = some true)
    (hy : Acts P N env op w T) (h : ∀ v w', T v w' → S w' ∧ SchQ P N Q ops S L env w') : SchQ P N Q ops S ((i, false) :: L) env w := Sch.act hop hw rfl hy h
theorem cS {gf : FuncId} {args : Array Value} {T : Value → World → Prop} (hop : opAt ops i = some (some t, op, g)) (hw : wantedE ops env g = some true) (ht : Nat.blt t N = true)
    (hy : Enters P N env op w gf args) (hc : Calls P gf args w (Ret T))
    (h : ∀ v w', T v w' → S w' ∧ SchQ P N Q ops S L ((t, v) :: env) w') : SchQ P N Q ops S ((i, false) :: L) env w := Sch.call hop hw ht hy hc h
theorem ent {gf : FuncId} {xs : Array Operand} {ts : Array TypeId} {vs : List Value}
    (hcall : ∀ args w, (callFunc gf args).run P w = .ok (.enter gf args) w) (hargs : evs env xs.toList = some vs) :
    Enters P N env (.call { callee := .value (.func gf), args := xs, argTypes := ts }) w gf vs.toArray := by
  have := enters_func (P := P) (N := N) (env := env) (w := w) (ts := ts) (x := .func gf) (cap := #[]) hcall rfl hargs
  simpa using this

/-- Slots are forgotten; what is left is spelt anew. -/
theorem kp {env' : Env} (hs : Sub env' env) (h : Run P f N k env' w R) : Run P f N k env w R := h.sub hs
theorem sc (t : Nat) {v : Value} {env' env : Env} (hl : look env t = some v) (h : Sub env' env) : Sub ((t, v) :: env') env := sub_cons t hl rfl h
end

/-! ### Who may write what: blocks bear colours; 0: nobody writes it any more -/

def Mc (C : Nat → Nat) : Nat → Prop := fun b => C b ≠ 0
/-- Only blocks that exist bear a colour. -/
def Lim (w : World) (C : Nat → Nat) : Prop := ∀ b, C b ≠ 0 → b < w.heap.size
/-- From `w` to `w'` only blocks of the colours `I` have turned; no block of `w` has another colour. -/
structure Stp (I : List Nat) (w : World) (C : Nat → Nat) (w' : World) (C' : Nat → Nat) : Prop where
  ext : Ext (fun b => C b ∈ I) w w'
  col : ∀ b, b < w.heap.size → C' b = C b
structure OwnB (w : World) (C : Nat → Nat) (j b : Nat) (o : Obj) : Prop where
  col : C b = j
  at_ : w.heap[b]? = some o
structure OwnL {α : Type} [Rep α] (w : World) (C : Nat → Nat) (j : Nat) (e : TypeId) (v : Value) (ys : List α) : Prop where
  own : OwnS w (Mc C) e v ys
  col : ∀ b, Ob v b → C b = j

section
variable {α β : Type} [Rep α] [Rep β] {w w' w'' : World} {I J : List Nat} {C C' C'' D : Nat → Nat} {x : α} {xs ys zs : List α} {v u : Value} {b o j n : Nat} {ob ob' : Obj} {e : TypeId}

theorem Stp.refl (I : List Nat) (w : World) (C : Nat → Nat) : Stp I w C w C := ⟨Ext.refl _ _, fun _ _ => rfl⟩
theorem Stp.reflF (h : Lim w C) : Stp [] w C w C := Stp.refl [] w C
theorem Stp.trans (h : Stp I w C w' C') (h' : Stp J w' C' w'' C'') (hJ : ∀ c ∈ J, c ∈ I) : Stp I w C w'' C'' :=
  ⟨h.ext.trans h'.ext (fun b hb hc => by rw [h.col b hb] at hc; exact hJ _ hc), fun b hb => (h'.col b (Nat.lt_of_lt_of_le hb h.ext.size)).trans (h.col b hb)⟩
theorem Stp.mono (h : Stp I w C w' C') (hI : ∀ c ∈ I, c ∈ J) : Stp J w C w' C' := ⟨h.ext.mono (fun b _ hc => hI _ hc), h.col⟩
theorem Stp.drew (I : List Nat) (w : World) (C : Nat → Nat) : Stp I w C { w with drawn := w.drawn + 1 } C := ⟨Ext.drew _ _, fun _ _ => rfl⟩
theorem Stp.size (h : Stp I w C w' C') : w.heap.size ≤ w'.heap.size := h.ext.size

theorem Lim.st (h : Lim w C) (hs : Stp I w C w' C) : Lim w' C := fun b hb => Nat.lt_of_lt_of_le (h b hb) hs.size
theorem RV.st (h : RV w (Mc C) x v) (hs : Stp I w C w' C') (h0 : 0 ∉ I) : RV w' (Mc C') x v :=
  RV.ext (h.sub (M' := Mc C') (fun b hb hc => by unfold Mc at *; rwa [hs.col b hb] at hc)) hs.ext (fun b hb hc => by unfold Mc; rw [hs.col b hb]; intro e; rw [e] at hc; exact h0 hc)
theorem RA.st (h : RA w (Mc C) x b o) (hs : Stp I w C w' C') (h0 : 0 ∉ I) : RA w' (Mc C') x b o :=
  RA.ext (h.sub (M' := Mc C') (fun b hb hc => by unfold Mc at *; rwa [hs.col b hb] at hc)) hs.ext (fun b hb hc => by unfold Mc; rw [hs.col b hb]; intro e; rw [e] at hc; exact h0 hc)
theorem OwnB.st (h : OwnB w C j b ob) (hs : Stp I w C w' C') (hj : j ∉ I) : OwnB w' C' j b ob :=
  ⟨(hs.col b (lt_of_at h.at_)).trans h.col, hs.ext.at' h.at_ (by rw [h.col]; exact hj)⟩
theorem OwnL.st (h : OwnL w C j e v ys) (hs : Stp I w C w' C') (h0 : 0 ∉ I) (hj : j ∉ I) : OwnL w' C' j e v ys :=
  ⟨OwnS.ext (h.own.sub (M' := Mc C') (fun b hb hc => by unfold Mc at *; rwa [hs.col b hb] at hc) (fun b hb => by have := h.own.ob b hb; unfold Mc at *; rw [hs.col b this.2]; exact this.1))
      hs.ext (fun b hb hc => by unfold Mc; rw [hs.col b hb]; intro e; rw [e] at hc; exact h0 hc) (fun b hb hc => by rw [h.col b hb] at hc; exact hj hc),
    fun b hb => (hs.col b (h.own.ob b hb).2).trans (h.col b hb)⟩
theorem OwnL.nil : OwnL w C j e (.slice none 0 0) ([] : List α) := ⟨OwnS.nil, fun b hb => by cases hb⟩

/-! New blocks -/
def setC (C : Nat → Nat) (b j : Nat) : Nat → Nat := fun x => if x = b then j else C x
def setB (C : Nat → Nat) (v : Value) (j : Nat) : Nat → Nat := fun x => if v.ownBlock = some x then j else C x

theorem New.st (h : New w w' ob) (C : Nat → Nat) : Stp [] w C w' C := ⟨h.ext.mono (fun b _ h => h.elim), fun _ _ => rfl⟩
theorem New.own (h : New w w' ob) (hF : Lim w C) (j : Nat) : ∃ C', Stp [] w C w' C' ∧ OwnB w' C' j w.heap.size ob ∧ Lim w' C' :=
  ⟨setC C w.heap.size j, ⟨h.ext.mono (fun b _ h => h.elim), fun b hb => by unfold setC; rw [if_neg (by omega)]⟩, ⟨by simp [setC], h.at_⟩, fun b hb => by
    unfold setC at hb
    rw [h.size]
    split at hb
    · omega
    · have := hF b hb; omega⟩
theorem Upd.own (h : Upd w w' b ob') (ho : OwnB w C j b ob) : Stp [j] w C w' C ∧ OwnB w' C j b ob' :=
  ⟨⟨h.ext.mono (fun c _ hc => by rw [show c = b from hc, ho.col]; simp), fun _ _ => rfl⟩, ⟨ho.col, h.at_⟩⟩

variable {P : Program} {N : Nat} {env : Env} {y z q : Operand} {t : TypeId}

theorem a_box {cs : List Value} (hF : Lim w C) (j : Nat) (hx : ev env y = some v) (hc : v.cells = cs.toArray) :
    Acts P N env (.box t y) w (fun u w' => ∃ C' b, u = .pointer (some ⟨b, 0, none⟩) ∧ Stp [] w C w' C' ∧ OwnB w' C' j b (.cells cs.toArray t) ∧ Lim w' C') := fun a ha o ho => by
  obtain ⟨u, w', h1, rfl, h2⟩ := acts_box (P := P) (N := N) (t := t) (w := w) hx hc a ha o ho
  obtain ⟨C', h3, h4, h5⟩ := h2.own hF j
  exact ⟨_, w', h1, C', _, rfl, h3, h4, h5⟩
theorem a_alloc {cs : List Value} (hF : Lim w C) (j : Nat) (hz : zeroB P t = some cs) :
    Acts P N env (.alloc t) w (fun u w' => ∃ C' b, u = .pointer (some ⟨b, 0, none⟩) ∧ Stp [] w C w' C' ∧ OwnB w' C' j b (.cells cs.toArray t) ∧ Lim w' C') := fun a ha o ho => by
  obtain ⟨u, w', h1, rfl, h2⟩ := acts_alloc (P := P) (N := N) (env := env) (t := t) (w := w) hz a ha o ho
  obtain ⟨C', h3, h4, h5⟩ := h2.own hF j
  exact ⟨_, w', h1, C', _, rfl, h3, h4, h5⟩
theorem a_store1 {cs : List Value} {ty : TypeId} (hx : ev env y = some (.pointer (some ⟨b, o, none⟩))) (hy : ev env z = some v) (hs : szB P t = some 1)
    (hv : v.cells = #[v]) (h1 : v.oneCell' = true) (hb : OwnB w C j b (.cells cs.toArray ty)) (ho : o < cs.length) :
    Acts P N env (.store t y z) w (fun u w' => u = undef ∧ Stp [j] w C w' C ∧ OwnB w' C j b (.cells (cs.set o v).toArray ty)) := fun a ha oo hoo => by
  obtain ⟨u, w', h2, h3, h4⟩ := acts_store1 (P := P) (N := N) (w := w) hx hy hs hv h1 hb.at_ ho a ha oo hoo
  exact ⟨u, w', h2, h3, h4.own hb⟩
theorem a_store {cs vs : List Value} {ty : TypeId} (hx : ev env y = some (.pointer (some ⟨b, o, none⟩))) (hy : ev env z = some v) (hs : szB P t = some n)
    (hv : v.cells = vs.toArray) (hl : vs.length = n) (h1 : ∀ u ∈ vs, u.oneCell' = true) (hb : OwnB w C j b (.cells cs.toArray ty)) (ho : o + n ≤ cs.length) :
    Acts P N env (.store t y z) w (fun u w' => u = undef ∧ Stp [j] w C w' C ∧ OwnB w' C j b (.cells (cs.take o ++ vs ++ cs.drop (o + n)).toArray ty)) := fun a ha oo hoo => by
  obtain ⟨u, w', h2, h3, h4⟩ := acts_store (P := P) (N := N) (w := w) hx hy hs hv hl h1 hb.at_ ho a ha oo hoo
  exact ⟨u, w', h2, h3, h4.own hb⟩
theorem a_append {bytes : Nat} {s : Value} (hF : Lim w C) (hj : j ≠ 0) (hx : ev env y = some v) (hy : ev env z = some s) (hrow : rowB P t e (sz α) bytes = true) (hsz : 0 < sz α)
    (hown : OwnL w C j e v ys) (hsrc : RV w (Mc C) zs s) (hlen : (ys.length + zs.length) * bytes ≤ 140737488355328) (h63 : ys.length + zs.length ≤ 140737488355328) :
    Acts P N env (.call { callee := .builtin .append, args := #[y, z], argTypes := #[t, t] }) w (fun v' w' => ∃ C', Stp [j] w C w' C' ∧ OwnL w' C' j e v' (ys ++ zs) ∧ Lim w' C') := fun a ha oo hoo => by
  obtain ⟨v', w', h1, h2, h3, h4⟩ := acts_append (P := P) (N := N) hx hy hrow hsz hown.own hsrc hlen h63 a ha oo hoo
  have hcol : ∀ b, b < w.heap.size → setB C v' j b = C b := fun b hb => by
    unfold setB
    split
    · rename_i e
      rcases h4 b e with h | h
      · exact (hown.col b h).symm
      · omega
    · rfl
  refine ⟨v', w', h1, setB C v' j, ⟨h3.mono (fun b _ hb => by rw [hown.col b hb]; simp), hcol⟩, ⟨h2.sub (fun b hb hc => ?_) (fun b hb => ?_), fun b hb => ?_⟩, fun b hb => ?_⟩
  · by_cases ho : Ob v' b
    · exact .inl ho
    · right
      unfold Mc setB at hc
      rw [if_neg (show ¬ v'.ownBlock = some b from ho)] at hc
      exact hc
  · unfold Mc setB; rw [if_pos (show v'.ownBlock = some b from hb)]; exact hj
  · unfold setB; rw [if_pos (show v'.ownBlock = some b from hb)]
  · by_cases ho : Ob v' b
    · exact (h2.ob b ho).2
    · unfold setB at hb
      rw [if_neg (show ¬ v'.ownBlock = some b from ho)] at hb
      exact Nat.lt_of_lt_of_le (hF b hb) h3.size

/-! ### Entering and leaving a function -/

/-- The colours inside a function: 1: whatever else may be written; 2: what the function may write. -/
def col1 (C : Nat → Nat) : Nat → Nat := fun b => if C b = 0 then 0 else 1
def col2 (C : Nat → Nat) (i : Nat) : Nat → Nat := fun b => if C b = 0 then 0 else if C b = i then 2 else 1
theorem col1_ne (C : Nat → Nat) (b : Nat) : col1 C b ≠ 0 ↔ C b ≠ 0 := by unfold col1; split <;> simp_all
theorem col2_ne (C : Nat → Nat) (i b : Nat) : col2 C i b ≠ 0 ↔ C b ≠ 0 := by unfold col2; split <;> (try split) <;> simp_all
theorem Mc_col1 (C : Nat → Nat) : Mc (col1 C) = Mc C := by funext b; exact propext (col1_ne C b)
theorem Mc_col2 (C : Nat → Nat) (i : Nat) : Mc (col2 C i) = Mc C := by funext b; exact propext (col2_ne C i b)
theorem Lim.col1 (h : Lim w C) : Lim w (col1 C) := fun b hb => h b ((col1_ne C b).1 hb)
theorem Lim.col2 (h : Lim w C) (i : Nat) : Lim w (col2 C i) := fun b hb => h b ((col2_ne C i b).1 hb)
theorem OwnB.col2 {i : Nat} (h : OwnB w C i b ob) (hi : i ≠ 0) : OwnB w (col2 C i) 2 b ob := ⟨by unfold K.col2; rw [if_neg (by rw [h.col]; exact hi), if_pos h.col], h.at_⟩
/-- What the whole function did, in its caller's colours. -/
theorem Stp.out1 (h : Stp I w (col1 C) w' C') (hI : ∀ c ∈ I, 2 ≤ c) : Stp [] w C w' C := ⟨h.ext.mono (fun b _ hc => by
  have := hI _ hc
  unfold K.col1 at this
  split at this <;> omega), fun _ _ => rfl⟩
theorem Stp.out2 {i : Nat} (h : Stp I w (col2 C i) w' C') (hI : ∀ c ∈ I, 2 ≤ c) : Stp [i] w C w' C := ⟨h.ext.mono (fun b _ hc => by
  have := hI _ hc
  simp only [List.mem_singleton]
  unfold K.col2 at this
  split at this
  · omega
  · split at this
    · assumption
    · omega), fun _ _ => rfl⟩
theorem Stp.fin_sub (hs : Stp I w D w' C') (hF : Lim w C) (hD : Mc D = Mc C) : ∀ b, C b ≠ 0 → b < w.heap.size ∧ C' b = D b ∧ D b ≠ 0 := fun b hb => by
  have h1 := hF b hb
  refine ⟨h1, hs.col b h1, ?_⟩
  have : Mc D b := by rw [hD]; exact hb
  exact this
theorem RV.out (h : RV w' (Mc C') x v) (hs : Stp I w D w' C') (hF : Lim w C) (hD : Mc D = Mc C) : RV w' (Mc C) x v :=
  h.sub (fun b _ hb => by obtain ⟨h1, h2, h3⟩ := hs.fin_sub hF hD b hb; unfold Mc; rw [h2]; exact h3)
/-- A list of the function's own, handed out to be read. -/
theorem OwnL.out (h : OwnL w' C' j e v ys) (hs : Stp I w D w' C') (hF : Lim w C) (hD : Mc D = Mc C) (hj : ∀ b, b < w.heap.size → D b ≠ j) (hl : ys.length ≤ 9223372036854775807) : RV w' (Mc C) ys v :=
  h.own.read (fun b _ hb => by
    obtain ⟨h1, h2, h3⟩ := hs.fin_sub hF hD b hb
    exact ⟨by unfold Mc; rw [h2]; exact h3, fun ho => hj b h1 (by rw [← h2]; exact h.col b ho)⟩) hl
theorem col1_lt (C : Nat → Nat) {j : Nat} (hj : 2 ≤ j) (b : Nat) : col1 C b ≠ j := by unfold col1; split <;> omega
theorem col2_lt (C : Nat → Nat) (i : Nat) {j : Nat} (hj : 3 ≤ j) (b : Nat) : col2 C i b ≠ j := by unfold col2; split <;> (try split) <;> omega

theorem RA.stay (h : RA w (Mc C) x b o) (hS : Ext (fun b => C b ∈ I) w w') (h0 : 0 ∉ I) : w'.heap[b]? = w.heap[b]? := by
  obtain ⟨hb, cs, ty, fz, hc, _⟩ := h
  exact hS.block b (lt_of_at hc) (fun hm => hb (fun e => h0 (by rw [e] at hm; exact hm)))
theorem OwnB.stay (h : OwnB w C j b ob) (hS : Ext (fun b => C b ∈ I) w w') (hj : j ∉ I) : w'.heap[b]? = some ob :=
  hS.at' h.at_ (by rw [h.col]; exact hj)
theorem OwnL.lenV (h : OwnL w C j e v ys) (hy : ev env y = some v) {d : TypeId} (ht : P.underlying t = some (.slice d)) :
    ∀ w', Val P N env (.call { callee := .builtin .len, args := #[y], argTypes := #[t] }) w' (.int .i64 ys.length) := fun w' => by
  obtain ⟨a, c, rfl⟩ := h.own.len
  exact val_len_slice hy ht
end

section
variable {P : Program} {f : FuncId} {N : Nat} {k : List Item} {env : Env} {w : World} {R : Value → World → Prop} {Q : Exit → Act → World → Prop}
/-- A region that draws its order: `I`: the colours that its operations may write. -/
theorem run_draw {c : Code} {id : Nat} {ops : Array Oper} (I : List Nat) (C : Nat → Nat) (L : List (Nat × Bool)) (hm : P.follows .mixedOrders = true) (hc : c = .region id ops true)
    (hn : Region.noSelect ops = true) (hk : chk ops ops.size (Array.replicate ops.size false) L = true)
    (h : ∀ w₁, Stp [] w C w₁ C → Sch P f N k R ops (fun w' => Ext (fun b => C b ∈ I) w₁ w') L env w₁) : Run P f N (.code c :: k) env w R :=
  run_drawn _ L hm hc hn hk (Ext.refl _ _) (h _ (Stp.drew [] w C))
end

section
variable {α : Type} [Rep α] {P : Program} {f : FuncId} {N : Nat} {k : List Item} {env : Env} {w : World} {R : Value → World → Prop} {Q : Exit → Act → World → Prop}
variable {ops : Array Oper} {S : World → Prop} {i t : Nat} {L : List (Nat × Bool)} {v : Value} {y z : Operand} {g : Option (Nat × Bool)} {ty e : TypeId} {M : Nat → Prop} {x : α} {xs : List α} {b o : Nat} {kd : IntKind} {n : Int}

/-- The address of an element. -/
theorem iS {w1 : World} (hop : opAt ops i = some (some t, .indexAddr ty y z, g)) (hw : wantedE ops env g = some true) (ht : Nat.blt t N = true) (hl : RV w1 M xs v) (hy : ev env y = some v)
    (hf : elemB P ty = some (e, sz α)) (hz : ev env z = some (.int kd n)) (h0 : 0 ≤ n) (h1 : n < xs.length)
    (h : ∀ b o, RA w1 M (xs[n.toNat]'(by omega)) b o → SchQ P N Q ops S L ((t, .pointer (some ⟨b, o, none⟩)) :: env) w) : SchQ P N Q ops S ((i, true) :: L) env w := by
  obtain ⟨b, o, h2, h3⟩ := hl.index (P := P) (N := N) hy hf hz h0 h1
  exact yS hop hw ht (fun w' _ => h3 w') (h b o h2)
/-- A load of a scalar. -/
theorem lN (hop : opAt ops i = some (some t, .load ty y, g)) (hw : wantedE ops env g = some true) (ht : Nat.blt t N = true) (hS : S w) (hr : RA w M x b o) (ha : aggB P ty = some false) (hx : Rep.agg α = false)
    (hy : ev env y = some (.pointer (some ⟨b, o, none⟩))) (h : ∀ v, RV w M x v → SchQ P N Q ops S L ((t, v) :: env) w) : SchQ P N Q ops S ((i, false) :: L) env w := by
  obtain ⟨v, h2, h3⟩ := hr.load (P := P) (N := N) ha hx hy
  exact nS hop hw ht hS (h3 w rfl) (h v h2)
theorem lS {w1 : World} (hop : opAt ops i = some (some t, .load ty y, g)) (hw : wantedE ops env g = some true) (ht : Nat.blt t N = true) (hst : ∀ w', S w' → w'.heap[b]? = w1.heap[b]?) (hr : RA w1 M x b o) (ha : aggB P ty = some false) (hx : Rep.agg α = false)
    (hy : ev env y = some (.pointer (some ⟨b, o, none⟩))) (h : ∀ v, RV w1 M x v → SchQ P N Q ops S L ((t, v) :: env) w) : SchQ P N Q ops S ((i, true) :: L) env w := by
  obtain ⟨v, h2, h3⟩ := hr.load (P := P) (N := N) ha hx hy
  exact yS hop hw ht (fun w' hS => h3 w' (hst w' hS)) (h v h2)
/-- A load of a struct. -/
theorem lNA (hop : opAt ops i = some (some t, .load ty y, g)) (hw : wantedE ops env g = some true) (ht : Nat.blt t N = true) (hS : S w) (hr : RA w M x b o) (ha : aggB P ty = some true) (hs : szB P ty = some (sz α)) (hx : Rep.agg α = true)
    (hy : ev env y = some (.pointer (some ⟨b, o, none⟩))) (h : ∀ v, RV w M x v → SchQ P N Q ops S L ((t, v) :: env) w) : SchQ P N Q ops S ((i, false) :: L) env w := by
  obtain ⟨v, h2, h3⟩ := hr.loadAgg (P := P) (N := N) ha hs hx hy
  exact nS hop hw ht hS (h3 w rfl) (h v h2)
theorem lSA {w1 : World} (hop : opAt ops i = some (some t, .load ty y, g)) (hw : wantedE ops env g = some true) (ht : Nat.blt t N = true) (hst : ∀ w', S w' → w'.heap[b]? = w1.heap[b]?) (hr : RA w1 M x b o) (ha : aggB P ty = some true) (hs : szB P ty = some (sz α)) (hx : Rep.agg α = true)
    (hy : ev env y = some (.pointer (some ⟨b, o, none⟩))) (h : ∀ v, RV w1 M x v → SchQ P N Q ops S L ((t, v) :: env) w) : SchQ P N Q ops S ((i, true) :: L) env w := by
  obtain ⟨v, h2, h3⟩ := hr.loadAgg (P := P) (N := N) ha hs hx hy
  exact yS hop hw ht (fun w' hS => h3 w' (hst w' hS)) (h v h2)
end

/-! ### What was written is from now on only read -/
/-- Blocks of the colours from `n` on are written no more. -/
def frz (n : Nat) (C : Nat → Nat) : Nat → Nat := fun b => if n ≤ C b then 0 else C b
section
variable {α : Type} [Rep α] {w w' w₀ : World} {I : List Nat} {C C' C₀ : Nat → Nat} {x : α} {ys : List α} {v : Value} {b o j n : Nat} {ob : Obj} {e : TypeId}
theorem Mc_frz (h : Mc (frz n C) b) : Mc C b ∧ C b < n := by
  unfold Mc frz at *
  split at h
  · exact absurd rfl h
  · exact ⟨h, by omega⟩
theorem Lim.frz (h : Lim w C) (n : Nat) : Lim w (frz n C) := fun b hb => h b (Mc_frz hb).1
theorem RV.frz (h : RV w (Mc C) x v) (n : Nat) : RV w (Mc (K.frz n C)) x v := h.sub (fun b _ hb => (Mc_frz hb).1)
theorem RA.frz (h : RA w (Mc C) x b o) (n : Nat) : RA w (Mc (K.frz n C)) x b o := h.sub (fun b _ hb => (Mc_frz hb).1)
theorem OwnL.frz (h : OwnL w C j e v ys) (hj : n ≤ j) (hl : ys.length ≤ 9223372036854775807) : RV w (Mc (K.frz n C)) ys v :=
  h.own.read (fun b _ hb => ⟨(Mc_frz hb).1, fun ho => by have := (Mc_frz hb).2; rw [h.col b ho] at this; omega⟩) hl
theorem OwnB.frz (h : OwnB w C j b ob) (hj : j < n) : OwnB w (K.frz n C) j b ob := ⟨by unfold K.frz; rw [h.col, if_neg (by omega)], h.at_⟩
theorem OwnB.frzM (h : OwnB w C j b ob) (hj : n ≤ j) : ¬ Mc (K.frz n C) b := fun hm => by have := (Mc_frz hm).2; rw [h.col] at this; omega
theorem Stp.frz (h : Stp I w₀ C₀ w C) (h0 : ∀ b, C₀ b < n) : Stp I w₀ C₀ w (K.frz n C) :=
  ⟨h.ext, fun b hb => by unfold K.frz; rw [h.col b hb, if_neg (by have := h0 b; omega)]⟩
theorem col1_lt2 (C : Nat → Nat) (b : Nat) : col1 C b < 2 := by unfold col1; split <;> omega
theorem OwnL.one (h : OwnL w C j e v ys) : v.cells = #[v] ∧ v.oneCell' = true := by
  obtain ⟨a, c, rfl⟩ := h.own.len; exact ⟨rfl, rfl⟩
end

/-! ### A test in a region of its own: the ways meet again behind it -/
theorem sub_skip {env env' : Env} {t : Nat} {v : Value} (h : look env t = none) (hs : Sub env env') : Sub env ((t, v) :: env') := fun s x hx => by
  simp only [look]
  cases hb : Nat.beq t s with
  | true => rw [Nat.eq_of_beq_eq_true hb, hx] at h; cases h
  | false => exact hs s x hx
section
variable {P : Program} {f : FuncId} {N : Nat} {k : List Item} {env : Env} {w : World} {R : Value → World → Prop} {Q : Exit → Act → World → Prop} {p : Prop} [Decidable p] {op : Op}
theorem run_cut (t : Nat) (b : Bool) (C : Nat → Nat) {c : Code}
    (hreg : (∀ w' env' v, Stp [] w C w' C → look env' t = some v → v = .bool b → Sub env env' → Run P f N k env' w' R) → Run P f N (.code c :: k) env w R)
    (hcont : ∀ w', Stp [] w C w' C → Run P f N k ((t, .bool b) :: env) w' R) : Run P f N (.code c :: k) env w R :=
  hreg fun w' env' v hs hl hv hsub => (hcont w' hs).sub fun s x hx => by
    simp only [look] at hx
    cases hb : Nat.beq t s with
    | true =>
      rw [hb] at hx
      simp only [cond_true, Option.some.injEq] at hx
      rw [← Nat.eq_of_beq_eq_true hb, hl, hv, hx]
    | false => rw [hb] at hx; exact hsub s x hx
theorem val_is {v v' : Value} (h : Val P N env op w v) (e : v = v') : Val P N env op w v' := e ▸ h
theorem val_T (h : Val P N env op w (.bool (decide p))) (hp : p) : Val P N env op w (.bool true) := by rwa [decide_eq_true hp] at h
theorem val_F (h : Val P N env op w (.bool (decide p))) (hp : ¬ p) : Val P N env op w (.bool false) := by rwa [decide_eq_false hp] at h
end

/-! ### Short forms -/
abbrev yy (i : Nat) : Nat × Bool := (i, true)
abbrev nn (i : Nat) : Nat × Bool := (i, false)
section
variable {ops : Array Oper} {i : Nat}
theorem kq (t : Nat) (op : Op) (h : opAt ops i = some (some t, op, none) := by kernel_rfl) : opAt ops i = some (some t, op, none) := h
theorem kg (t : Nat) (op : Op) (g : Nat) (b : Bool) (h : opAt ops i = some (some t, op, some (g, b)) := by kernel_rfl) : opAt ops i = some (some t, op, some (g, b)) := h
theorem k0 (op : Op) (h : opAt ops i = some (none, op, none) := by kernel_rfl) : opAt ops i = some (none, op, none) := h
end
def isReg (c : Code) (d : Bool) : Bool := match c with | .region _ _ d' => d' == d | _ => false
theorem isReg_eq {c : Code} {d : Bool} (h : isReg c d = true) : ∃ id, c = .region id (rops c) d := by
  cases c with
  | region id ops d' => exact ⟨id, by unfold isReg at h; simp only [beq_iff_eq] at h; subst h; rfl⟩
  | _ => cases h
section
variable {P : Program} {f : FuncId} {N : Nat} {k : List Item} {env : Env} {w w' : World} {R : Value → World → Prop} {Q : Exit → Act → World → Prop}
variable {ops : Array Oper} {S : World → Prop} {i t : Nat} {L : List (Nat × Bool)} {op : Op} {v : Value} {x y z : Operand} {g : Option (Nat × Bool)}
theorem yV (hop : opAt ops i = some (some t, op, g)) (hy : ∀ w', Val P N env op w' v) (h : SchQ P N Q ops S L ((t, v) :: env) w) (hw : wantedE ops env g = some true := by rfl) (ht : Nat.blt t N = true := by rfl) :
    SchQ P N Q ops S ((i, true) :: L) env w := yS hop hw ht (fun w' _ => hy w') h
theorem run_pl {c : Code} (L : List (Nat × Bool)) (h : Sch P f N k R (rops c) (fun _ => True) L env w) (hc : isReg c false = true := by kernel_rfl) (hL : L.map (·.1) = List.range (rops c).size := by kernel_rfl) : Run P f N (.code c :: k) env w R := by
  obtain ⟨id, e⟩ := isReg_eq hc
  exact run_plain L e hL h
def isSq (c : Code) : Bool := match c with | .seq _ _ => true | _ => false
def isBk (c : Code) (i : Nat) : Bool := match c with | .block j _ => Nat.beq j i | _ => false
def isSk (c : Code) : Bool := match c with | .skip => true | _ => false
def isEx (c : Code) (i : Nat) : Bool := match c with | .exit j => Nat.beq j i | _ => false
def isLp (c : Code) : Bool := match c with | .loop _ => true | _ => false
def isCd (c : Code) (i : Nat) : Bool := match c with | .cond (.tmp j) _ _ => Nat.beq j i | _ => false
theorem run_sq {c : Code} (h : Run P f N (.code (cl c) :: .code (cr c) :: k) env w R) (hc : isSq c = true := by kernel_rfl) : Run P f N (.code c :: k) env w R :=
  run_seq (by cases c with | seq a b => rfl | _ => cases hc) h
theorem run_bk {c : Code} (id : Nat) (h : Run P f N (.code (cl c) :: .inBlock id :: k) env w R) (hc : isBk c id = true := by kernel_rfl) : Run P f N (.code c :: k) env w R :=
  run_block (by cases c with | block a b => simp only [isBk] at hc; rw [Nat.eq_of_beq_eq_true hc]; rfl | _ => cases hc) h
theorem run_sk {c : Code} (h : Run P f N k env w R) (hc : isSk c = true := by kernel_rfl) : Run P f N (.code c :: k) env w R :=
  run_skip (by cases c with | skip => rfl | _ => cases hc) h
theorem run_ex {c : Code} (id : Nat) {k' : List Item} (h : Run P f N k' env w R) (hc : isEx c id = true := by kernel_rfl) (hk : exitTo id k = some k' := by exact rfl) : Run P f N (.code c :: k) env w R :=
  run_exit (by cases c with | exit a => simp only [isEx] at hc; rw [Nat.eq_of_beq_eq_true hc] | _ => cases hc) hk h
theorem isCd_eq {c : Code} {t : Nat} (hc : isCd c t = true) : c = .cond (.tmp t) (cl c) (cr c) := by
  cases c with
  | cond o a b => cases o with | tmp j => simp only [isCd] at hc; rw [Nat.eq_of_beq_eq_true hc]; rfl | _ => cases hc
  | _ => cases hc
theorem run_i {c : Code} (t : Nat) {p : Prop} [Decidable p] (hv : look env t = some (.bool (decide p))) (ht : p → Run P f N (.code (cl c) :: k) env w R) (hf : ¬ p → Run P f N (.code (cr c) :: k) env w R) (hc : isCd c t = true := by kernel_rfl) : Run P f N (.code c :: k) env w R :=
  run_if (isCd_eq hc) hv ht hf
theorem run_c {c : Code} (t : Nat) {b : Bool} (hv : look env t = some (.bool b)) (ht : b = true → Run P f N (.code (cl c) :: k) env w R) (hf : b = false → Run P f N (.code (cr c) :: k) env w R) (hc : isCd c t = true := by kernel_rfl) : Run P f N (.code c :: k) env w R :=
  run_cond (isCd_eq hc) hv ht hf
theorem run_cT {c : Code} (t : Nat) (h : Run P f N (.code (cl c) :: k) env w R) (hc : isCd c t = true := by kernel_rfl) (hv : look env t = some (.bool true) := by exact rfl) : Run P f N (.code c :: k) env w R :=
  run_cond (isCd_eq hc) hv (fun _ => h) (fun h => by cases h)
theorem run_cF {c : Code} (t : Nat) (h : Run P f N (.code (cr c) :: k) env w R) (hc : isCd c t = true := by kernel_rfl) (hv : look env t = some (.bool false) := by exact rfl) : Run P f N (.code c :: k) env w R :=
  run_cond (isCd_eq hc) hv (fun h => by cases h) (fun _ => h)
theorem run_lp {c : Code} {ι : Type} (I : ι → World → Prop) (e : ι → Env) (m : ι → Nat) (x₀ : ι) (hs : Sub (e x₀) env) (h0 : I x₀ w)
    (hr : ∀ x w, I x w → (∀ y w', I y w' → m y < m x → Run P f N (.inLoop (cl c) :: k) (e y) w' R) → Run P f N (.code (cl c) :: .inLoop (cl c) :: k) (e x) w R) (hc : isLp c = true := by kernel_rfl) :
    Run P f N (.code c :: k) env w R := run_loop I e m x₀ (by cases c with | loop b => rfl | _ => cases hc) hs h0 hr
theorem yM (t a : Nat) (h : SchQ P N Q ops S L ((t, v) :: env) w) (hop : opAt ops i = some (some t, .move (.tmp a), none) := by kernel_rfl) (hy : look env a = some v := by exact rfl) (ht : Nat.blt t N = true := by rfl) :
    SchQ P N Q ops S ((i, true) :: L) env w := yV hop (fun _ => val_move hy) h rfl ht
theorem yA (t a : Nat) (h : SchQ P N Q ops S L ((t, v) :: env) w) (hop : opAt ops i = some (some t, .assign (.tmp a), none) := by kernel_rfl) (hy : look env a = some v := by exact rfl) (ht : Nat.blt t N = true := by rfl) :
    SchQ P N Q ops S ((i, true) :: L) env w := yV hop (fun _ => val_assign hy) h rfl ht
theorem yAc (t : Nat) (v : Value) (h : SchQ P N Q ops S L ((t, v) :: env) w) (hop : opAt ops i = some (some t, .assign (.const v), none) := by kernel_rfl) (ht : Nat.blt t N = true := by rfl) :
    SchQ P N Q ops S ((i, true) :: L) env w := yV hop (fun _ => val_assign rfl) h rfl ht
theorem yN (t a : Nat) {q : Addr} (h : SchQ P N Q ops S L ((t, .pointer (some q)) :: env) w) (hop : opAt ops i = some (some t, .nilCheck (.tmp a), none) := by kernel_rfl) (hy : look env a = some (.pointer (some q)) := by exact rfl) (ht : Nat.blt t N = true := by rfl) :
    SchQ P N Q ops S ((i, true) :: L) env w := yV hop (fun _ => val_nilCheck hy) h rfl ht
theorem yMg (t a : Nat) (j : Nat) (b : Bool) (h : SchQ P N Q ops S L ((t, v) :: env) w) (hop : opAt ops i = some (some t, .move (.tmp a), some (j, b)) := by kernel_rfl) (hy : look env a = some v := by exact rfl) (hw : wantedE ops env (some (j, b)) = some true := by rfl) (ht : Nat.blt t N = true := by rfl) :
    SchQ P N Q ops S ((i, true) :: L) env w := yV hop (fun _ => val_move hy) h hw ht
theorem yOf (t a b : Nat) (h : SchQ P N Q ops S L ((t, v) :: env) w) (hop : opAt ops i = some (some t, .pick (.tmp a) (.const (.bool true)) (.tmp b), none) := by kernel_rfl) (ha : look env a = some (.bool false) := by exact rfl) (hy : look env b = some v := by exact rfl) (ht : Nat.blt t N = true := by rfl) :
    SchQ P N Q ops S ((i, true) :: L) env w := yV hop (fun _ => val_pick_f ha hy) h rfl ht
theorem yOt (t a b : Nat) (h : SchQ P N Q ops S L ((t, .bool true) :: env) w) (hop : opAt ops i = some (some t, .pick (.tmp a) (.const (.bool true)) (.tmp b), none) := by kernel_rfl) (ha : look env a = some (.bool true) := by exact rfl) (ht : Nat.blt t N = true := by rfl) :
    SchQ P N Q ops S ((i, true) :: L) env w := yV hop (fun _ => val_pick_t ha rfl) h rfl ht
theorem yAt (t a b : Nat) (h : SchQ P N Q ops S L ((t, v) :: env) w) (hop : opAt ops i = some (some t, .pick (.tmp a) (.tmp b) (.const (.bool false)), none) := by kernel_rfl) (ha : look env a = some (.bool true) := by exact rfl) (hy : look env b = some v := by exact rfl) (ht : Nat.blt t N = true := by rfl) :
    SchQ P N Q ops S ((i, true) :: L) env w := yV hop (fun _ => val_pick_t ha hy) h rfl ht
theorem yAf (t a b : Nat) (h : SchQ P N Q ops S L ((t, .bool false) :: env) w) (hop : opAt ops i = some (some t, .pick (.tmp a) (.tmp b) (.const (.bool false)), none) := by kernel_rfl) (ha : look env a = some (.bool false) := by exact rfl) (ht : Nat.blt t N = true := by rfl) :
    SchQ P N Q ops S ((i, true) :: L) env w := yV hop (fun _ => val_pick_f ha rfl) h rfl ht
theorem yF (t T a q off : Nat) {b o : Nat} (h : SchQ P N Q ops S L ((t, .pointer (some ⟨b, o + off, none⟩)) :: env) w) (hop : opAt ops i = some (some t, .fieldAddr T (.tmp a) q, none) := by kernel_rfl) (hf : fieldB P T q = some off := by kernel_rfl) (hy : look env a = some (.pointer (some ⟨b, o, none⟩)) := by exact rfl) (ht : Nat.blt t N = true := by rfl) :
    SchQ P N Q ops S ((i, true) :: L) env w := yV hop (fun _ => val_fieldAddr (off := off) hf hy) h rfl ht
theorem yFg (t T a q off : Nat) (j : Nat) (bb : Bool) {b o : Nat} (h : SchQ P N Q ops S L ((t, .pointer (some ⟨b, o + off, none⟩)) :: env) w) (hop : opAt ops i = some (some t, .fieldAddr T (.tmp a) q, some (j, bb)) := by kernel_rfl) (hf : fieldB P T q = some off := by kernel_rfl) (hy : look env a = some (.pointer (some ⟨b, o, none⟩)) := by exact rfl) (hw : wantedE ops env (some (j, bb)) = some true := by rfl) (ht : Nat.blt t N = true := by rfl) :
    SchQ P N Q ops S ((i, true) :: L) env w := yV hop (fun _ => val_fieldAddr (off := off) hf hy) h hw ht
def opG (ops : Array Oper) (i : Nat) : Option (Option Nat × Option (Nat × Bool)) := (opAt ops i).map (fun x => (x.1, x.2.2))
theorem opG_eq {t : Option Nat} (h : opG ops i = some (t, g)) : ∃ op, opAt ops i = some (t, op, g) := by
  unfold opG at h
  cases hx : opAt ops i with
  | none => rw [hx] at h; cases h
  | some y => obtain ⟨p, q, r⟩ := y; rw [hx] at h; simp only [Option.map_some, Option.some.injEq, Prod.mk.injEq] at h; exact ⟨q, by rw [h.1, h.2]⟩
theorem pX (t j : Nat) (b : Bool) (h : SchQ P N Q ops S L ((t, undef) :: env) w) (hop : opG ops i = some (some t, some (j, b)) := by kernel_rfl) (hw : wantedE ops env (some (j, b)) = some false := by rfl) (ht : Nat.blt t N = true := by rfl) :
    SchQ P N Q ops S ((i, true) :: L) env w := by
  obtain ⟨op, e⟩ := opG_eq hop
  exact pS e hw ht h
theorem sr (t : Nat) {v : Value} {env' env : Env} (h : Sub env' env) (hl : look env t = some v := by exact rfl) : Sub ((t, v) :: env') env := sub_cons t hl rfl h
def skB (z : Env) : Nat → Env → Bool
  | 0, _ => true
  | n + 1, (t, _) :: e => (match look z t with | none => true | some _ => false) && skB z n e
  | _ + 1, [] => false
theorem skB_ok (z : Env) : ∀ (n : Nat) (e : Env), e.drop n = z → skB z n e = true → Sub z e
  | 0, e, he, _ => by rw [← he]; exact Sub.refl _
  | n + 1, (t, v) :: e, he, h => by
    simp only [skB, Bool.and_eq_true] at h
    exact sub_skip (by have := h.1; split at this <;> first | assumption | cases this) (skB_ok z n e he h.2)
  | _ + 1, [], _, h => by cases h
theorem sk (n : Nat) {env env' : Env} (he : env'.drop n = env := by exact rfl) (h : skB env n env' = true := by kernel_rfl) : Sub env env' := skB_ok env n env' he h
end
section
variable {α : Type} [Rep α] {w w' w'' : World} {I J : List Nat} {C C' C'' : Nat → Nat} {x : α} {ys : List α} {v : Value} {b o j : Nat} {ob : Obj} {e : TypeId}
theorem RV.t (h : RV w (Mc C) x v) (hs : Stp I w C w' C') (h0 : 0 ∉ I := by first | decide | (simp <;> omega)) : RV w' (Mc C') x v := h.st hs h0
theorem RA.t (h : RA w (Mc C) x b o) (hs : Stp I w C w' C') (h0 : 0 ∉ I := by first | decide | (simp <;> omega)) : RA w' (Mc C') x b o := h.st hs h0
theorem OwnB.t (h : OwnB w C j b ob) (hs : Stp I w C w' C') (hj : j ∉ I := by first | decide | (simp <;> omega)) : OwnB w' C' j b ob := h.st hs hj
theorem OwnL.t (h : OwnL w C j e v ys) (hs : Stp I w C w' C') (h0 : 0 ∉ I := by first | decide | (simp <;> omega)) (hj : j ∉ I := by first | decide | (simp <;> omega)) : OwnL w' C' j e v ys := h.st hs h0 hj
theorem Stp.t (h : Stp I w C w' C') (h' : Stp J w' C' w'' C'') (hJ : ∀ c ∈ J, c ∈ I := by simp) : Stp I w C w'' C'' := h.trans h' hJ
theorem RA.sy (h : RA w (Mc C) x b o) (hS : Ext (fun b => C b ∈ I) w w') (h0 : 0 ∉ I := by first | decide | (simp <;> omega)) : w'.heap[b]? = w.heap[b]? := h.stay hS h0
theorem OwnB.sy (h : OwnB w C j b ob) (hS : Ext (fun b => C b ∈ I) w w') (hj : j ∉ I := by first | decide | (simp <;> omega)) : w'.heap[b]? = some ob := h.stay hS hj
end
end Go.K

/- Building structs and slices. -/
set_option linter.unusedVariables false
set_option linter.unusedSimpArgs false
namespace Go.K
open Rep

/-- Parts laid over cells. -/
def fillL (place : Nat → Option (Nat × Nat)) : List Value → List (Nat × List Value) → Option (List Value)
  | cells, [] => some cells
  | cells, (i, vs) :: rest => match place i with
    | none => none
    | some (off, size) => if vs.length = size ∧ off + vs.length ≤ cells.length then fillL place (cells.take off ++ vs ++ cells.drop (off + vs.length)) rest else none

theorem foldl_set : ∀ (vs : List Value) (k off : Nat) (cs : List Value), off + k + vs.length ≤ cs.length →
    ((vs.zipIdx k).foldl (fun (acc : Array Value) (p : Value × Nat) => acc.setIfInBounds (off + p.2) p.1) cs.toArray) = (cs.take (off + k) ++ vs ++ cs.drop (off + k + vs.length)).toArray
  | [], k, off, cs, h => by simp
  | v :: vs, k, off, cs, h => by
    rw [List.length_cons] at h
    rw [List.zipIdx_cons, List.foldl_cons]
    have e1 : cs.toArray.setIfInBounds (off + k) v = (cs.set (off + k) v).toArray := by simp
    rw [e1, foldl_set vs (k + 1) off (cs.set (off + k) v) (by simp; omega)]
    congr 1
    have hlt : off + k < cs.length := by omega
    rw [List.set_eq_take_append_cons_drop, if_pos hlt]
    have e2 : off + (k + 1) = (cs.take (off + k)).length + 1 := by simp; omega
    have e3 : off + (k + 1) + vs.length = (cs.take (off + k)).length + (1 + vs.length) := by simp; omega
    rw [show List.take (off + (k + 1)) (cs.take (off + k) ++ v :: cs.drop (off + k + 1)) = cs.take (off + k) ++ [v] from by
      rw [e2, List.take_append]; simp [Nat.min_eq_left (Nat.le_of_lt hlt), List.take_take, Nat.min_eq_right (Nat.le_succ (off + k))]]
    rw [show List.drop (off + (k + 1) + vs.length) (cs.take (off + k) ++ v :: cs.drop (off + k + 1)) = cs.drop (off + k + (vs.length + 1)) from by
      rw [e3, List.drop_append]
      simp only [Nat.add_sub_cancel_left]
      rw [List.drop_eq_nil_of_le (by omega), List.nil_append, Nat.add_comm 1, List.drop_succ_cons, List.drop_drop]
      congr 1; omega]
    simp

theorem fill_eq (place : Nat → Option (Nat × Nat)) : ∀ (ps : List (Nat × Value)) (qs : List (Nat × List Value)) (cs cs' : List Value),
    ps.map (fun p => (p.1, p.2.cells)) = qs.map (fun q => (q.1, q.2.toArray)) → fillL place cs qs = some cs' → Instr.fill place cs.toArray ps = some cs'.toArray
  | [], [], cs, cs', _, h => by simp only [fillL, Option.some.injEq] at h; subst h; rfl
  | [], q :: qs, _, _, h, _ => by simp at h
  | p :: ps, [], _, _, h, _ => by simp at h
  | (i, v) :: ps, (j, vs) :: qs, cs, cs', h, hf => by
    simp only [List.map_cons, List.cons.injEq, Prod.mk.injEq] at h
    obtain ⟨⟨rfl, hv⟩, hr⟩ := h
    simp only [fillL] at hf
    unfold Instr.fill
    cases hp : place i with
    | none => rw [hp] at hf; cases hf
    | some os =>
      obtain ⟨off, size⟩ := os
      rw [hp] at hf
      simp only at hf ⊢
      split at hf
      · rename_i hc
        rw [hv]
        have hn : ¬ (vs.toArray.size ≠ size ∨ off + vs.toArray.size > cs.toArray.size) := by simp; omega
        simp only [List.size_toArray] at hn ⊢
        rw [if_neg (by simpa using hn)]
        have e : (vs.toArray.zipIdx.foldl (fun (acc : Array Value) (p : Value × Nat) => acc.setIfInBounds (off + p.2) p.1) cs.toArray) = (cs.take off ++ vs ++ cs.drop (off + vs.length)).toArray := by
          have := foldl_set vs 0 off cs (by simpa using hc.2)
          simpa using this
        rw [show (vs.toArray.zipIdx.foldl (fun cs (x : Value × Nat) => match x with | (c, j) => cs.setIfInBounds (off + j) c) cs.toArray) = _ from e]
        exact fill_eq place ps qs _ cs' hr hf
      · cases hf

/-- The parts of a composite, with their cells. -/
def Parts (env : Env) : List (Nat × Operand) → List (Nat × List Value) → Prop
  | [], [] => True
  | (i, x) :: ps, (j, vs) :: qs => i = j ∧ (∃ v, ev env x = some v ∧ v.cells = vs.toArray) ∧ Parts env ps qs
  | _, _ => False

def placesB (P : Program) (t : TypeId) : Option (List (Nat × Nat)) := match P.underlying t with
  | some (.struct fs) => fs.toList.mapM fun f => (szB P f.type).map fun n => (f.offset, n)
  | _ => none

section
variable {P : Program} {N : Nat} {env : Env} {w : World} {t : TypeId} {ρ : Operand → Value}

theorem Parts.map (hρ : ∀ x v, ev env x = some v → ρ x = v) : ∀ {ps : List (Nat × Operand)} {qs : List (Nat × List Value)}, Parts env ps qs →
    (ps.map fun p => (p.1, ρ p.2)).map (fun p => (p.1, p.2.cells)) = qs.map (fun q => (q.1, q.2.toArray))
  | [], [], _ => rfl
  | [], _ :: _, h => h.elim
  | _ :: _, [], h => h.elim
  | (i, x) :: ps, (j, vs) :: qs, h => by
    obtain ⟨rfl, ⟨v, hv, hc⟩, hr⟩ := h
    simp only [List.map_cons, hρ x v hv, hc]
    rw [Parts.map hρ hr]

theorem run_map {α β : Type} (g : α → β) (s : Sem α) (w : World) : (g <$> s).run P w = (s.run P w).andThen fun a w' => .ok (g a) w' := by
  show (Sem.run P (Sem.bind s (fun a => Sem.pure (g a))) w) = _
  exact Sem.run_bind _ _ _ _

theorem run_places {ps : List (Nat × Nat)} {fs : Array Field} (h : fs.toList.mapM (fun f => (szB P f.type).map fun n => (f.offset, n)) = some ps) (w : World) :
    (fs.mapM fun f => do pure (f.offset, ← sizeOf f.type) : Sem (Array (Nat × Nat))).run P w = .ok ps.toArray w := by
  rw [Array.mapM_eq_mapM_toList]
  have main : ∀ (l : List Field) (ps : List (Nat × Nat)), l.mapM (fun f => (szB P f.type).map fun n => (f.offset, n)) = some ps →
      (l.mapM fun f => do pure (f.offset, ← sizeOf f.type) : Sem (List (Nat × Nat))).run P w = .ok ps w := by
    intro l
    induction l with
    | nil => intro ps h; simp at h; subst h; rfl
    | cons f l ih =>
      intro ps h
      rw [List.mapM_cons] at h
      simp only [Option.bind_eq_bind, Option.bind_eq_some_iff, Option.map_eq_some_iff, Option.pure_def, Option.some.injEq] at h
      obtain ⟨p, ⟨n, hn, rfl⟩, qs, hq, rfl⟩ := h
      rw [List.mapM_cons]
      rw [Sem.run_bind, Sem.run_bind, run_sizeOfB hn, Result.andThen_ok, Sem.run_pure, Result.andThen_ok, Sem.run_bind, ih qs hq, Result.andThen_ok, Sem.run_pure]
  rw [run_map, main _ _ h]
  rfl

theorem val_build {parts : Array (Nat × Operand)} {zs cs : List Value} {ps : List (Nat × Nat)} {qs : List (Nat × List Value)} (hz : zeroB P t = some zs) (hp : placesB P t = some ps)
    (hq : Parts env parts.toList qs) (hf : fillL (ps[·]?) zs qs = some cs) : Val P N env (.build t parts) w (.agg cs.toArray) := mk' fun ρ hρ o ho => by
  obtain ⟨z, h1, h2⟩ := run_zeroB hz w
  unfold placesB at hp
  split at hp
  · rename_i fs hu
    have hpl := run_places hp w
    have hmap := Parts.map hρ hq
    have hfill := fill_eq (ps[·]?) (parts.toList.map fun p => (p.1, ρ p.2)) qs zs cs (by rw [← hmap]) hf
    have hfill' : Instr.fill (fun x => ps.toArray[x]?) z.cells (parts.map fun x => (x.1, ρ x.2)).toList = some cs.toArray := by
      rw [h2]
      have : (parts.map fun x => (x.1, ρ x.2)).toList = parts.toList.map fun p => (p.1, ρ p.2) := by simp
      rw [this, ← hfill]
      congr 1
      funext x
      simp
    unfold execOp; rw [ho]
    simp only [Instr.build, Sem.run_bind, h1, Result.andThen_ok, run_underlying hu, hpl]
    rw [show (parts.map fun x => match x with | (i, x) => (i, ρ x)).toList = (parts.map fun x => (x.1, ρ x.2)).toList from rfl, hfill']
    rfl
  · cases hp
end

section
variable {α : Type} [Rep α] {P : Program} {N : Nat} {env : Env} {w : World} {M : Nat → Prop} {C : Nat → Nat} {t e : TypeId}

/-- The elements of a slice that is written out. -/
def Elems (env : Env) (w : World) (M : Nat → Prop) : Nat → List (Nat × Operand) → List α → Prop
  | _, [], [] => True
  | k, (i, x) :: ps, y :: ys => i = k ∧ (∃ v, ev env x = some v ∧ RV w M y v) ∧ Elems env w M (k + 1) ps ys
  | _, _, _ => False

theorem Elems.len : ∀ {k : Nat} {ps : List (Nat × Operand)} {ys : List α}, Elems env w M k ps ys → ps.length = ys.length
  | _, [], [], _ => rfl
  | _, [], _ :: _, h => h.elim
  | _, _ :: _, [], h => h.elim
  | k, (i, x) :: ps, y :: ys, h => by simp only [List.length_cons]; rw [Elems.len h.2.2]

/-- The cells of a value that reads. -/
theorem RV.cells {x : α} {v : Value} (h : RV w M x v) : ∃ vs, v.cells = vs.toArray ∧ Rep.rep w.heap M x vs := by
  cases hx : Rep.agg α with
  | true => obtain ⟨vs, rfl, _, _, hr⟩ := h.many hx; exact ⟨vs, rfl, hr⟩
  | false =>
    have h1 := (h.one hx).1
    obtain ⟨vs, hr, hv⟩ := h
    have hl := Rep.len hr
    rw [Rep.flat hx] at hl
    obtain ⟨u, rfl⟩ := List.length_eq_one_iff.1 hl
    simp only [hx, Bool.false_eq_true, if_false, List.headD_cons] at hv
    subst hv
    exact ⟨[v], h1, hr⟩

theorem elems_fill : ∀ {ps : List (Nat × Operand)} {ys : List α} {k : Nat} (pre post : List Value), Elems env w M k ps ys → pre.length = k * sz α → post.length = ys.length * sz α →
    ∃ qs news, Parts env ps qs ∧ fillL (fun i => some (i * sz α, sz α)) (pre ++ post) qs = some (pre ++ news) ∧ news.length = ys.length * sz α ∧
      ∀ i (hi : i < ys.length), Rep.rep w.heap M ys[i] ((news.drop (i * sz α)).take (sz α))
  | [], [], k, pre, post, _, _, hpost => by
    have : post = [] := List.eq_nil_of_length_eq_zero (by simpa using hpost)
    subst this
    exact ⟨[], [], trivial, by simp [fillL], by simp, fun i hi => by simp at hi⟩
  | [], _ :: _, _, _, _, h, _, _ => h.elim
  | _ :: _, [], _, _, _, h, _, _ => h.elim
  | (i, x) :: ps, y :: ys, k, pre, post, h, hpre, hpost => by
    obtain ⟨rfl, ⟨v, hv, hr⟩, hrest⟩ := h
    obtain ⟨vs, hc, hrep⟩ := hr.cells
    have hl := Rep.len hrep
    rw [List.length_cons, Nat.succ_mul] at hpost
    obtain ⟨qs, news, h1, h2, h3, h4⟩ := elems_fill (k := i + 1) (pre ++ vs) (post.drop (sz α)) hrest (by rw [List.length_append, hpre, hl, Nat.succ_mul]) (by rw [List.length_drop, hpost]; omega)
    refine ⟨(i, vs) :: qs, vs ++ news, ⟨rfl, ⟨v, hv, hc⟩, h1⟩, ?_, ?_, ?_⟩
    · simp only [fillL]
      rw [if_pos ⟨hl, by rw [List.length_append, hpre, hl, hpost]; omega⟩]
      rw [show List.take (i * sz α) (pre ++ post) = pre from by rw [← hpre]; exact List.take_left, show List.drop (i * sz α + vs.length) (pre ++ post) = post.drop (sz α) from by rw [← hpre, hl, List.drop_append]; simp]
      rw [h2, List.append_assoc]
    · rw [List.length_append, hl, h3, List.length_cons, Nat.succ_mul]; omega
    · intro j hj
      cases j with
      | zero => simpa [← hl] using hrep
      | succ j =>
        have := h4 j (by simpa using hj)
        rw [show (j + 1) * sz α = vs.length + j * sz α from by rw [hl, Nat.succ_mul]; omega, List.drop_append, List.drop_eq_nil_of_le (Nat.le_add_right vs.length (j * sz α))]
        simpa using this

theorem a_buildSlice {n bytes : Nat} {parts : Array (Nat × Operand)} {ys : List α} (hF : Lim w C) (hrow : rowB P t e (sz α) bytes = true) (hn : n = ys.length) (hsm : n * sz α ≤ 16777216) (hsz : 0 < sz α)
    (hp : Elems env w (Mc C) 0 parts.toList ys) :
    Acts P N env (.buildSlice t n parts) w (fun v w' => Stp [] w C w' C ∧ RV w' (Mc C) ys v ∧ Lim w' C) := acts' fun ρ hρ oo hoo => by
  subst hn
  obtain ⟨i, z, hu, hi, hsi, hby, hz, hzs⟩ := rowB_spec hrow
  let zs : List Value := ((Array.range (ys.length * sz α)).map fun j => (if ys.length * sz α = 0 then (#[] : Array Value) else z.cells)[j % (if ys.length * sz α = 0 then (#[] : Array Value) else z.cells).size]!).toList
  obtain ⟨qs, news, h1, h2, h3, h4⟩ := elems_fill (k := 0) [] zs hp (by simp) (by simp [zs])
  simp only [List.nil_append] at h2
  have hmap := Parts.map hρ h1
  have hfill := fill_eq _ (parts.toList.map fun p => (p.1, ρ p.2)) qs zs news (by rw [← hmap]) h2
  have hnew := new_alloc w (.cells news.toArray e)
  have hrun : (Instr.buildSlice t ys.length (parts.map fun x => (x.1, ρ x.2))).run P w = .ok (.slice (some ⟨w.heap.size, 0, none⟩) ys.length ys.length) (w.alloc (.cells news.toArray e)) := by
    have hle : ¬ (ys.length * sz α > 2 ^ 24) := by omega
    have hpl : (parts.map fun x => (x.1, ρ x.2)).toList = parts.toList.map fun p => (p.1, ρ p.2) := by simp
    have hsz' : (sizeOf e).run P w = .ok (sz α) w := by simp [sizeOf, typeInfo, hi, hsi]
    unfold Instr.buildSlice
    simp only [Sem.run_bind, run_underlying hu, Result.andThen_ok, hsz', if_neg hle, Sem.run_pure, hpl]
    by_cases h0 : ys.length * sz α = 0
    · have hzs0 : zs = ((Array.range (ys.length * sz α)).map fun j => (#[] : Array Value)[j % (#[] : Array Value).size]!).toList := by simp only [zs, h0, if_true]
      rw [hzs0] at hfill
      simp only [h0, if_true, Sem.run_bind, Sem.run_pure, Result.andThen_ok] at hfill ⊢
      simp only [Array.toArray_toList] at hfill
      rw [hfill]
      simp [newRow]
    · have hzs0 : zs = ((Array.range (ys.length * sz α)).map fun j => z.cells[j % z.cells.size]!).toList := by simp only [zs, h0, if_false]
      rw [hzs0] at hfill
      have hzv : (zeroValue e).run P w = .ok z w := by simp [zeroValue, typeInfo, hi, hz]
      simp only [h0, if_false, Sem.run_bind, hzv, Sem.run_pure, Result.andThen_ok]
      simp only [Array.toArray_toList] at hfill
      rw [hfill]
      simp [newRow]
  refine ⟨.slice (some ⟨w.heap.size, 0, none⟩) ys.length ys.length, w.alloc (.cells news.toArray e), .inl ?_, hnew.st C, ?_, hF.st (hnew.st C)⟩
  · unfold execOp; rw [hoo]
    simp only [Sem.run_bind]
    rw [show (parts.map fun x => match x with | (i, x) => (i, ρ x)) = (parts.map fun x => (x.1, ρ x.2)) from rfl, hrun]
    rfl
  · refine rv_list.2 ⟨_, _, rfl, Nat.le_refl _, ?_, .inr ⟨w.heap.size, 0, rfl, fun hm => ?_, news.toArray, e, (0, 0), hnew.at_, ?_, fun i hi => ?_⟩⟩
    · have : ys.length ≤ ys.length * sz α := Nat.le_mul_of_pos_right _ hsz
      omega
    · have := hF _ hm; omega
    · simp only [Nat.zero_add, List.size_toArray, h3]; exact Nat.le_refl _
    · have := h4 i hi
      rw [Nat.zero_add]
      exact Rep.keep this (fun b hb hm => hnew.ext.block b hb (fun h => h))
end

section
variable {P : Program} {N : Nat} {env : Env} {w : World} {C : Nat → Nat} {y z : Operand} {t ty : TypeId} {v : Value} {b j n : Nat}
/-- A whole box is written. -/
theorem a_storeAll {cs vs : List Value} (hx : ev env y = some (.pointer (some ⟨b, 0, none⟩))) (hy : ev env z = some v) (hs : szB P t = some n)
    (hv : v.cells = vs.toArray) (hl : vs.length = n) (h1 : ∀ u ∈ vs, u.oneCell' = true) (hb : OwnB w C j b (.cells cs.toArray ty)) (ho : cs.length = n) :
    Acts P N env (.store t y z) w (fun u w' => u = undef ∧ Stp [j] w C w' C ∧ OwnB w' C j b (.cells vs.toArray ty)) := fun a ha oo hoo => by
  obtain ⟨u, w', h2, h3, h4, h5⟩ := a_store (P := P) (N := N) (w := w) (o := 0) hx hy hs hv hl h1 hb (by omega) a ha oo hoo
  have e : List.take 0 cs ++ vs ++ List.drop (0 + n) cs = vs := by
    rw [List.drop_eq_nil_of_le (by omega)]; simp
  rw [e] at h5
  exact ⟨u, w', h2, h3, h4, h5⟩
end
end Go.K

/- The program's types as Lean types. -/
set_option linter.unusedVariables false
set_option linter.unusedSimpArgs false
namespace Go.K
open Rep

/-- Cells as they are. -/
structure Raw (n : Nat) where
  vals : List Value
  len : vals.length = n
  one : ∀ v ∈ vals, v.oneCell' = true
instance {n : Nat} : Rep (Raw n) where
  sz := n
  agg := true
  flat h := by cases h
  rep _ _ x vs := vs = x.vals
  len h := by subst h; rename_i x; exact x.len
  one h := by subst h; rename_i x; exact x.one
  keep h _ := h
  sub h _ := h
structure Block where
  hash : Int
  ids : List Int
instance : Rep Block := Rep.via (fun b : Block => ((⟨b.hash⟩ : U64), b.ids))
structure Couple where
  a : Int
  b : Int
  deriving DecidableEq
instance : Rep Couple := Rep.via (fun c : Couple => (c.a, c.b))

section
variable {w : World} {M : Nat → Prop} {b o : Nat} {v : Value}
theorem RA.hash {x : Block} (h : RA w M x b o) : RA w M (⟨x.hash⟩ : U64) b o := RA.fst (p := ((⟨x.hash⟩ : U64), x.ids)) h
theorem RA.ids {x : Block} (h : RA w M x b o) : RA w M x.ids b (o + 1) := RA.snd (p := ((⟨x.hash⟩ : U64), x.ids)) h
theorem rv_couple {x : Couple} : RV w M x v ↔ v = .agg #[.int .i64 x.a, .int .i64 x.b] :=
  ⟨fun h => by
    obtain ⟨vs, ⟨us, ws, rfl, h1, h2⟩, hv⟩ := h
    have h1' : us = [.int .i64 x.a] := h1
    have h2' : ws = [.int .i64 x.b] := h2
    subst h1'; subst h2'; exact hv,
   fun h => ⟨[.int .i64 x.a, .int .i64 x.b], ⟨_, _, rfl, rfl, rfl⟩, h⟩⟩
end
end Go.K

/- The deck: plain. -/
set_option linter.unusedVariables false
set_option linter.unusedSimpArgs false
namespace Go.K
open Rep

/-- A deck of numbers: what is left is dealt, then it goes on by itself. -/
structure Dk where
  list : List Int
  at_ : Nat
  state : Int

/-- The number that goes into the next word. -/
def Dk.x (d : Dk) : Int := if h : d.at_ < d.list.length then IntKind.u64.wrap d.list[d.at_] else 0
def mix (s x : Int) : Int := IntKind.u64.wrap (IntKind.u64.wrap (IntKind.u64.wrap (s + x) * 6364136223846793005) + 1442695040888963407)
def stir1 (s : Int) : Int := bitsOf .xor .u64 s (s.fdiv (2 ^ min (33 : Int).toNat IntKind.u64.bits))
def stir2 (y : Int) : Int := bitsOf .xor .u64 y (y.fdiv (2 ^ min (29 : Int).toNat IntKind.u64.bits))
/-- The deck behind a word. -/
def Dk.next (d : Dk) : Dk := { list := d.list, at_ := if d.at_ < d.list.length then d.at_ + 1 else d.at_, state := mix d.state d.x }
def Dk.word (d : Dk) : Int := stir2 (IntKind.u64.wrap (stir1 d.next.state * 18397679294719823053))

theorem wrap_u64_range (n : Int) : 0 ≤ IntKind.u64.wrap n ∧ IntKind.u64.wrap n < 18446744073709551616 := by
  have h : IntKind.u64.wrap n = n % 18446744073709551616 := by simp [IntKind.wrap, IntKind.signed, IntKind.bits]
  rw [h]; exact ⟨Int.emod_nonneg _ (by decide), Int.emod_lt_of_pos _ (by decide)⟩
theorem Dk.word_range (d : Dk) : 0 ≤ d.word ∧ d.word < 18446744073709551616 := wrap_u64_range _

/-- What 'Next(n)' deals: from 0 to n - 1. -/
def Dk.num (d : Dk) (n : Int) : Int := if n < 1 then 0 else (d.word / 2) % n
def Dk.after (d : Dk) (n : Int) : Dk := if n < 1 then d else d.next
theorem Dk.num_range (d : Dk) {n : Int} (h : 1 ≤ n) : 0 ≤ d.num n ∧ d.num n < n := by
  unfold Dk.num; rw [if_neg (by omega)]
  exact ⟨Int.emod_nonneg _ (by omega), Int.emod_lt_of_pos _ (by omega)⟩

theorem Dk.after_list (d : Dk) (n : Int) : (d.after n).list = d.list := by unfold Dk.after; split <;> rfl
/-- A deck lies at block `b`, which bears the colour `i`; `t` is its type. -/
def DeckAt (t : TypeId) (w : World) (C : Nat → Nat) (i b : Nat) (d : Dk) : Prop :=
  d.at_ ≤ d.list.length ∧ ∃ v, RV w (Mc C) d.list v ∧ OwnB w C i b (.cells [v, .int .i64 d.at_, .int .u64 d.state].toArray t)

section
variable {t : TypeId} {w w' : World} {C C' : Nat → Nat} {i b : Nat} {d : Dk} {I : List Nat}
theorem DeckAt.st (h : DeckAt t w C i b d) (hs : Stp I w C w' C') (h0 : 0 ∉ I) (hi : i ∉ I) : DeckAt t w' C' i b d := by
  obtain ⟨h1, v, h2, h3⟩ := h
  exact ⟨h1, v, h2.st hs h0, h3.st hs hi⟩
theorem DeckAt.col2 (h : DeckAt t w C i b d) (hi : i ≠ 0) : DeckAt t w (col2 C i) 2 b d := by
  obtain ⟨h1, v, h2, h3⟩ := h
  exact ⟨h1, v, by rw [Mc_col2]; exact h2, h3.col2 hi⟩
theorem DeckAt.frz (h : DeckAt t w C i b d) {n : Nat} (hi : i < n) : DeckAt t w (K.frz n C) i b d := by
  obtain ⟨h1, v, h2, h3⟩ := h
  exact ⟨h1, v, h2.frz n, h3.frz hi⟩
/-- Back into the caller's colours. -/
theorem DeckAt.out {w₀ : World} {C₀ : Nat → Nat} (h : DeckAt t w' C' 2 b d) (hs : Stp I w₀ (K.col2 C₀ i) w' C') (hF : Lim w₀ C₀) (hb : C₀ b = i) : DeckAt t w' C₀ i b d := by
  obtain ⟨h1, v, h2, h3⟩ := h
  exact ⟨h1, v, h2.out hs hF (Mc_col2 C₀ i), ⟨hb, h3.at_⟩⟩
end
end Go.K

/- Own lists that are made with their length, and read and written in place. -/
set_option linter.unusedVariables false
set_option linter.unusedSimpArgs false
namespace Go.K
open Rep

section
variable {α : Type} [Rep α] {w w' : World} {C C' : Nat → Nat} {P : Program} {N : Nat} {env : Env} {x y z q : Operand} {t ty e : TypeId} {v u : Value} {xs : List α} {j b g n : Nat}

theorem OwnL.at_own (h : OwnL w C j e v xs) (hne : 0 < xs.length) : ∃ g cap cs, v = .slice (some ⟨g, 0, none⟩) xs.length cap ∧ C g = j ∧ Mc C g ∧ w.heap[g]? = some (.cells cs e (0, 0)) ∧ xs.length ≤ cap ∧ cs.size = cap * sz α ∧
    ∀ i (hi : i < xs.length), rep w.heap (Mc C) xs[i] (cellsAt cs (i * sz α) (sz α)) := by
  rcases h.own with ⟨_, rfl⟩ | ⟨g, cap, cs, hv, hg, hc, h1, h2, h3⟩
  · simp at hne
  · exact ⟨g, cap, cs, hv, h.col g (by subst hv; rfl), hg, hc, h1, h2, h3⟩

/-- The address of an element. -/
theorem OwnL.index (h : OwnL w C j e v xs) (hy : ev env y = some v) {e' : Nat} {kd : IntKind} {i : Int} (hf : elemB P t = some (e', sz α)) (hz : ev env z = some (.int kd i)) (h0 : 0 ≤ i) (h1 : i < xs.length) :
    ∃ g, Ob v g ∧ ∀ w', Val P N env (.indexAddr t y z) w' (.pointer (some ⟨g, i.toNat * sz α, none⟩)) := by
  obtain ⟨g, cap, cs, rfl, _, _, hc, _⟩ := h.at_own (by omega)
  refine ⟨g, rfl, fun w' => ?_⟩
  have := val_indexAddr (P := P) (N := N) (w := w') hf hy hz h0 h1
  rwa [Nat.zero_add] at this

/-- An element is read. -/
theorem OwnL.load (h : OwnL w C j e v xs) (hg : Ob v g) {i : Nat} (hi : i < xs.length) (ha : aggB P t = some false) (hx : Rep.agg α = false) (hy : ev env y = some (.pointer (some ⟨g, i * sz α, none⟩))) :
    ∃ u, RV w (Mc C) xs[i] u ∧ ∀ w', w'.heap[g]? = w.heap[g]? → Val P N env (.load t y) w' u := by
  obtain ⟨g', cap, cs, rfl, _, _, hc, h1, h2, h3⟩ := h.at_own (by omega)
  simp only [Ob, Value.ownBlock, Option.some.injEq] at hg
  subst hg
  have hr := h3 i hi
  have hl := Rep.len hr
  rw [Rep.flat hx] at hr hl
  obtain ⟨u, hu⟩ := List.length_eq_one_iff.1 hl
  rw [hu] at hr
  refine ⟨u, rep1_rv hr hx, fun w' hw => ?_⟩
  have hcu : cs[i * 1]? = some u := by
    have := congrArg (fun l => l[0]?) hu
    simpa [cellsAt] using this
  refine val_loadOwn (cs := cs.toList) (by rw [hw]; simpa using hc) ha ?_ hy
  rw [Rep.flat hx]; simpa using hcu
theorem OwnL.loadAgg (h : OwnL w C j e v xs) (hg : Ob v g) {i : Nat} (hi : i < xs.length) (ha : aggB P t = some true) (hs : szB P t = some (sz α)) (hx : Rep.agg α = true) (hy : ev env y = some (.pointer (some ⟨g, i * sz α, none⟩))) :
    ∃ u, RV w (Mc C) xs[i] u ∧ ∀ w', w'.heap[g]? = w.heap[g]? → Val P N env (.load t y) w' u := by
  obtain ⟨g', cap, cs, rfl, _, _, hc, h1, h2, h3⟩ := h.at_own (by omega)
  simp only [Ob, Value.ownBlock, Option.some.injEq] at hg
  subst hg
  have hr := h3 i hi
  refine ⟨.agg (cellsAt cs (i * sz α) (sz α)).toArray, ⟨_, hr, by simp [hx]⟩, fun w' hw => ?_⟩
  exact val_loadOwnAgg (cs := cs.toList) (by rw [hw]; simpa using hc) ha hs rfl (Rep.len hr) hy

/-- An element is written. -/
theorem a_storeO {x0 : α} {i : Nat} (h : OwnL w C j e v xs) (hg : Ob v g) (hi : i < xs.length) (hy : ev env y = some (.pointer (some ⟨g, i * sz α, none⟩))) (hz : ev env z = some u) (hs : szB P t = some (sz α)) (hr : RV w (Mc C) x0 u) :
    Acts P N env (.store t y z) w (fun u' w' => u' = undef ∧ Stp [j] w C w' C ∧ OwnL w' C j e v (xs.set i x0)) := fun a ha oo hoo => by
  obtain ⟨g', cap, cs, rfl, hcol, hM, hc, h1, h2, h3⟩ := h.at_own (by omega)
  simp only [Ob, Value.ownBlock, Option.some.injEq] at hg
  subst hg
  obtain ⟨vs, hv, hrep⟩ := hr.cells
  have hb : (i + 1) * sz α ≤ cap * sz α := Nat.mul_le_mul_right _ (by omega)
  rw [Nat.succ_mul] at hb
  have hvl := Rep.len hrep
  obtain ⟨u', w', k1, k2, k3⟩ := acts_store (P := P) (N := N) (cs := cs.toList) (n := sz α) (vs := vs) hy hz hs hv hvl (Rep.one hrep) (by simpa using hc) (by simp only [Array.length_toList]; omega) a ha oo hoo
  have hst : Stp [j] w C w' C := ⟨k3.ext.mono (fun b _ hb => by rw [show b = g' from hb, hcol]; simp), fun _ _ => rfl⟩
  have keep : ∀ {x : α} {vs : List Value}, rep w.heap (Mc C) x vs → rep w'.heap (Mc C) x vs := fun hr => Rep.keep hr (fun b hb hn => k3.ext.block b hb (fun e => hn (by rw [show b = g' from e]; exact hM)))
  refine ⟨u', w', k1, k2, hst, ⟨.inr ⟨g', cap, _, by rw [List.length_set], hM, k3.at_, by rw [List.length_set]; exact h1, ?_, fun k hk => ?_⟩, h.col⟩⟩
  · simp only [List.size_toArray, List.length_append, List.length_take, List.length_drop, Array.length_toList, hvl]; omega
  · rw [List.length_set] at hk
    rw [List.getElem_set]
    split
    · rename_i hik
      subst hik
      have : cellsAt (cs.toList.take (i * sz α) ++ vs ++ cs.toList.drop (i * sz α + sz α)).toArray (i * sz α) (sz α) = vs := by
        unfold cellsAt
        simp only [List.append_assoc]
        rw [List.drop_append_of_le_length (by simp only [List.length_take, Array.length_toList]; omega), List.drop_eq_nil_of_le (by simp only [List.length_take]; omega), List.nil_append, ← hvl, List.take_left]
      rw [this]; exact keep hrep
    · rename_i hik
      have : cellsAt (cs.toList.take (i * sz α) ++ vs ++ cs.toList.drop (i * sz α + sz α)).toArray (k * sz α) (sz α) = cellsAt cs (k * sz α) (sz α) := cellsAt_ext (fun m hm => by
        rw [show ∀ (l : List Value) (p : Nat), l.toArray[p]? = l[p]? from fun l p => by simp, ← Array.getElem?_toList]
        rcases Nat.lt_or_ge k i with hlt | hge
        · have := Nat.mul_le_mul_right (sz α) (show k + 1 ≤ i from hlt)
          rw [Nat.succ_mul] at this
          rw [List.append_assoc, List.getElem?_append_left (by simp only [List.length_take, Array.length_toList]; omega), List.getElem?_take, if_pos (by omega)]
        · have := Nat.mul_le_mul_right (sz α) (show i + 1 ≤ k by omega)
          rw [Nat.succ_mul] at this
          rw [List.getElem?_append_right (by simp only [List.length_append, List.length_take, Array.length_toList, hvl]; omega), List.getElem?_drop]
          congr 1
          simp only [List.length_append, List.length_take, Array.length_toList, hvl]; omega)
      rw [this]; exact keep (h3 k hk)
end

section
variable {α : Type} [Rep α] {w : World} {C : Nat → Nat} {P : Program} {f : FuncId} {N : Nat} {k : List Item} {R : Value → World → Prop} {Q : Exit → Act → World → Prop} {env : Env} {ops : Array Oper} {S : World → Prop} {i t : Nat} {L : List (Nat × Bool)} {v : Value} {y z : Operand} {gd : Option (Nat × Bool)} {ty e e' : TypeId} {xs : List α} {j g : Nat} {kd : IntKind} {n : Int}
theorem oI (hop : opAt ops i = some (some t, .indexAddr ty y z, gd)) (hw : wantedE ops env gd = some true) (ht : Nat.blt t N = true) (hl : OwnL w C j e v xs) (hy : ev env y = some v)
    (hf : elemB P ty = some (e', sz α)) (hz : ev env z = some (.int kd n)) (h0 : 0 ≤ n) (h1 : n < xs.length)
    (h : ∀ g, Ob v g → SchQ P N Q ops S L ((t, .pointer (some ⟨g, n.toNat * sz α, none⟩)) :: env) w) : SchQ P N Q ops S ((i, true) :: L) env w := by
  obtain ⟨g, h2, h3⟩ := hl.index (P := P) (N := N) hy hf hz h0 h1
  exact yS hop hw ht (fun w' _ => h3 w') (h g h2)
theorem oN {i' : Nat} (hop : opAt ops i = some (some t, .load ty y, gd)) (hw : wantedE ops env gd = some true) (ht : Nat.blt t N = true) (hS : S w) (hl : OwnL w C j e v xs) (hg : Ob v g) (hi : i' < xs.length) (ha : aggB P ty = some false) (hx : Rep.agg α = false)
    (hy : ev env y = some (.pointer (some ⟨g, i' * sz α, none⟩))) (h : ∀ v, RV w (Mc C) xs[i'] v → SchQ P N Q ops S L ((t, v) :: env) w) : SchQ P N Q ops S ((i, false) :: L) env w := by
  obtain ⟨v, h2, h3⟩ := hl.load (P := P) (N := N) hg hi ha hx hy
  exact nS hop hw ht hS (h3 w rfl) (h v h2)
theorem oNA {i' : Nat} (hop : opAt ops i = some (some t, .load ty y, gd)) (hw : wantedE ops env gd = some true) (ht : Nat.blt t N = true) (hS : S w) (hl : OwnL w C j e v xs) (hg : Ob v g) (hi : i' < xs.length) (ha : aggB P ty = some true) (hs : szB P ty = some (sz α)) (hx : Rep.agg α = true)
    (hy : ev env y = some (.pointer (some ⟨g, i' * sz α, none⟩))) (h : ∀ v, RV w (Mc C) xs[i'] v → SchQ P N Q ops S L ((t, v) :: env) w) : SchQ P N Q ops S ((i, false) :: L) env w := by
  obtain ⟨v, h2, h3⟩ := hl.loadAgg (P := P) (N := N) hg hi ha hs hx hy
  exact nS hop hw ht hS (h3 w rfl) (h v h2)
theorem OwnL.stay {w' : World} {I : List Nat} (h : OwnL w C j e v xs) (hg : Ob v g) (hS : Ext (fun b => C b ∈ I) w w') (hj : j ∉ I) : w'.heap[g]? = w.heap[g]? :=
  hS.block g (h.own.ob g hg).2 (by rw [h.col g hg]; exact hj)
theorem OwnL.sy {w' : World} {I : List Nat} (h : OwnL w C j e v xs) (hg : Ob v g) (hS : Ext (fun b => C b ∈ I) w w') (hj : j ∉ I := by first | decide | (simp <;> omega)) : w'.heap[g]? = w.heap[g]? := h.stay hg hS hj
theorem oS {i' : Nat} {I : List Nat} (hop : opAt ops i = some (some t, .load ty y, gd)) (hw : wantedE ops env gd = some true) (ht : Nat.blt t N = true) (hl : OwnL w C j e v xs) (hg : Ob v g) (hst : ∀ w', S w' → w'.heap[g]? = w.heap[g]?) (hi : i' < xs.length) (ha : aggB P ty = some false) (hx : Rep.agg α = false)
    (hy : ev env y = some (.pointer (some ⟨g, i' * sz α, none⟩))) (h : ∀ v, RV w (Mc C) xs[i'] v → SchQ P N Q ops S L ((t, v) :: env) w) : SchQ P N Q ops S ((i, true) :: L) env w := by
  obtain ⟨v, h2, h3⟩ := hl.load (P := P) (N := N) hg hi ha hx hy
  exact yS hop hw ht (fun w' hS => h3 w' (hst w' hS)) (h v h2)
theorem oSA {i' : Nat} {I : List Nat} (hop : opAt ops i = some (some t, .load ty y, gd)) (hw : wantedE ops env gd = some true) (ht : Nat.blt t N = true) (hl : OwnL w C j e v xs) (hg : Ob v g) (hst : ∀ w', S w' → w'.heap[g]? = w.heap[g]?) (hi : i' < xs.length) (ha : aggB P ty = some true) (hs : szB P ty = some (sz α)) (hx : Rep.agg α = true)
    (hy : ev env y = some (.pointer (some ⟨g, i' * sz α, none⟩))) (h : ∀ v, RV w (Mc C) xs[i'] v → SchQ P N Q ops S L ((t, v) :: env) w) : SchQ P N Q ops S ((i, true) :: L) env w := by
  obtain ⟨v, h2, h3⟩ := hl.loadAgg (P := P) (N := N) hg hi ha hs hx hy
  exact yS hop hw ht (fun w' hS => h3 w' (hst w' hS)) (h v h2)
end
end Go.K

/- Parts of lists; clearing; results that lie in memory. -/
set_option linter.unusedVariables false
set_option linter.unusedSimpArgs false
namespace Go.K
open Rep

/-- `v2` is the part of the own list `v` from `k` on, `m` elements. -/
def SubS (n : Nat) (v v2 : Value) (k m : Nat) : Prop := ∃ g l c c', v = .slice (some ⟨g, 0, none⟩) l c ∧ v2 = .slice (some ⟨g, k * n, none⟩) m c'

section
variable {α : Type} [Rep α] {w w' : World} {C C' : Nat → Nat} {P : Program} {N : Nat} {env : Env} {x y z q : Operand} {t ty e : TypeId} {v v2 u : Value} {xs : List α} {j b g n k m e' : Nat}

theorem run_sliceBound_ok {kd : IntKind} {i : Int} {y : Nat} {code : BoundsCode} {w : World} (h0 : 0 ≤ i) (h1 : i ≤ y) : (Instr.sliceBound (.int kd i) y code).run P w = .ok i.toNat w := by
  simp [Instr.sliceBound, asIntOf, h0, h1]

/-- 's[k:]' of an own list. -/
theorem OwnL.from_ (h : OwnL w C j e v xs) (hy : ev env y = some v) {kd : IntKind} {i : Int} (hf : elemB P t = some (e', sz α)) (hz : ev env z = some (.int kd i)) (h0 : 0 ≤ i) (h1 : i < xs.length) :
    ∃ v2, SubS (sz α) v v2 i.toNat (xs.length - i.toNat) ∧ ∀ w', Val P N env (.slice t y (some z) none none) w' v2 := by
  obtain ⟨g, cap, cs, rfl, _, _, hc, hle, _⟩ := h.at_own (by omega)
  refine ⟨.slice (some ⟨g, i.toNat * sz α, none⟩) (xs.length - i.toNat) (cap - i.toNat), ⟨g, _, _, _, rfl, rfl⟩, fun w' => mk' fun ρ hρ oo ho => ?_⟩
  unfold elemB at hf
  split at hf
  · rename_i e1 hu
    split at hf
    · rename_i n' hn
      simp only [Option.some.injEq, Prod.mk.injEq] at hf
      obtain ⟨rfl, rfl⟩ := hf
      have hb := run_sliceBound_ok (P := P) (kd := kd) (y := xs.length) (code := .sliceB) (w := w') h0 (by omega)
      have hne : ¬ cap = i.toNat := by omega
      unfold execOp; rw [ho]
      simp [hρ _ _ hy, hρ _ _ hz, Instr.sliceAt, Instr.slice, Instr.sliceBounds, run_underlying hu, run_sizeOfB hn, hb, hne, addr_add]
    · cases hf
  · cases hf
/-- 's[k:]' of a list. -/
theorem RV.from_ {M : Nat → Prop} (h : RV w M xs v) (hy : ev env y = some v) {kd : IntKind} {i : Int} (hf : elemB P t = some (e', sz α)) (hz : ev env z = some (.int kd i)) (h0 : 0 ≤ i) (h1 : i ≤ xs.length) :
    ∃ v2, RV w M (xs.drop i.toNat) v2 ∧ ∀ w', Val P N env (.slice t y (some z) none none) w' v2 := by
  obtain ⟨a, c, rfl, hc, hm, hs⟩ := rv_list.1 h
  have hval : ∀ w', Val P N env (.slice t y (some z) none none) w' (.slice (if c = i.toNat then a else a.map (·.add (i.toNat * sz α))) (xs.length - i.toNat) (c - i.toNat)) := fun w' => mk' fun ρ hρ oo ho => by
    unfold elemB at hf
    split at hf
    · rename_i e1 hu
      split at hf
      · rename_i n' hn
        simp only [Option.some.injEq, Prod.mk.injEq] at hf
        obtain ⟨rfl, rfl⟩ := hf
        have hb := run_sliceBound_ok (P := P) (kd := kd) (y := xs.length) (code := .sliceB) (w := w') h0 (by omega)
        unfold execOp; rw [ho]
        simp [hρ _ _ hy, hρ _ _ hz, Instr.sliceAt, Instr.slice, Instr.sliceBounds, run_underlying hu, run_sizeOfB hn, hb]
      · cases hf
    · cases hf
  refine ⟨_, ?_, hval⟩
  rw [← List.length_drop]
  refine rv_list.2 ⟨_, _, rfl, by rw [List.length_drop]; omega, by rw [List.length_drop]; omega, ?_⟩
  by_cases hd : xs.drop i.toNat = []
  · exact .inl hd
  · have hlt : i.toNat < xs.length := by
      rcases Nat.lt_or_ge i.toNat xs.length with h | h
      · exact h
      · exact absurd (List.drop_eq_nil_of_le h) hd
    rcases hs with rfl | ⟨b, o, rfl, hs⟩
    · simp at hlt
    · refine .inr ⟨b, o + i.toNat * sz α, ?_, ?_⟩
      · rw [if_neg (by omega)]; simp [addr_add]
      · obtain ⟨hb, cs, ty, fz, hc', hl, hr⟩ := hs
        refine ⟨hb, cs, ty, fz, hc', ?_, fun k hk => ?_⟩
        · rw [List.length_drop]
          have : i.toNat * sz α + (xs.length - i.toNat) * sz α = xs.length * sz α := by rw [← Nat.add_mul]; congr 1; omega
          omega
        · rw [List.length_drop] at hk
          have := hr (i.toNat + k) (by omega)
          rw [List.getElem_drop, show o + i.toNat * sz α + k * sz α = o + (i.toNat + k) * sz α from by rw [Nat.add_mul]; omega]
          exact this
theorem SubS.lenV (hs : SubS n v v2 k m) (hy : ev env y = some v2) {d : TypeId} (ht : P.underlying t = some (.slice d)) :
    ∀ w', Val P N env (.call { callee := .builtin .len, args := #[y], argTypes := #[t] }) w' (.int .i64 m) := fun w' => by
  obtain ⟨g', l, c, c', rfl, rfl⟩ := hs
  exact val_len_slice hy ht
end

section
variable {α : Type} [Rep α] {w : World} {C : Nat → Nat} {P : Program} {f : FuncId} {N : Nat} {k : List Item} {R : Value → World → Prop} {Q : Exit → Act → World → Prop} {env : Env} {ops : Array Oper} {S : World → Prop} {i t : Nat} {L : List (Nat × Bool)} {v v2 : Value} {y z : Operand} {gd : Option (Nat × Bool)} {ty e e' : TypeId} {xs : List α} {j g : Nat} {kd : IntKind} {n : Int}
theorem sFR {M : Nat → Prop} (hop : opAt ops i = some (some t, .slice ty y (some z) none none, gd)) (hw : wantedE ops env gd = some true) (ht : Nat.blt t N = true) (hl : RV w M xs v) (hy : ev env y = some v)
    (hf : elemB P ty = some (e', sz α)) (hz : ev env z = some (.int kd n)) (h0 : 0 ≤ n) (h1 : n ≤ xs.length)
    (h : ∀ v2, RV w M (xs.drop n.toNat) v2 → SchQ P N Q ops S L ((t, v2) :: env) w) : SchQ P N Q ops S ((i, true) :: L) env w := by
  obtain ⟨v2, h2, h3⟩ := hl.from_ (P := P) (N := N) hy hf hz h0 h1
  exact yS hop hw ht (fun w' _ => h3 w') (h v2 h2)
end

/-! ### Results that lie in memory -/
section
variable {P : Program} {f : FuncId} {N : Nat} {k : List Item} {env : Env} {w : World} {R : Value → World → Prop} {Q : Exit → Act → World → Prop}
theorem run_cellAgg {b ty0 : Nat} {cs : List Value} {fz : Nat × Nat} {ty n : Nat} (hc : w.heap[b]? = some (.cells cs.toArray ty0 fz)) (ha : aggB P ty = some true) (hs : szB P ty = some n) (hl : cs.length = n) :
    (loadVar ty ⟨b, 0, none⟩).run P w = .ok (.agg cs.toArray) w := by
  have hcells : (loadCells ⟨b, 0, none⟩ n).run P w = .ok cs.toArray w := by
    have := run_loadCells_list (P := P) w ⟨b, 0, none⟩ cs (fun j u hu => by
      rw [addr_add, cell_of_row w b (0 + j) cs.toArray ty0 fz hc]
      rw [← hu]; simp)
    rwa [hl] at this
  simp only [loadCells] at hcells
  simp [loadVar, run_isAggB ha, run_sizeOfB hs, loadCells, hcells]
theorem run_retC1 {c : Code} {fn : Func} {a ty b : Nat} {ty0 : Nat} {cs : List Value} {fz : Nat × Nat} {n : Nat} (hc : c = .ret) (hf : P.funcs[f]? = some fn) (hres : fn.results = #[.cell a ty]) (hv : look env a = some (.pointer (some ⟨b, 0, none⟩)))
    (hb : w.heap[b]? = some (.cells cs.toArray ty0 fz)) (ha : aggB P ty = some true) (hs : szB P ty = some n) (hl : cs.length = n)
    (hR : R (.agg cs.toArray) w) : Run P f N (.code c :: k) env w R := fun a' ha' => by
  subst hc
  refine runs_ret hf ha'.defers ?_ hR
  have h1 := ha'.slot a _ hv
  have h2 := run_cellAgg hb ha hs hl
  simp only [results, hres]
  simp [h1, Array.getD_eq_getD_getElem?, asAddr, h2]
theorem run_retC2 {c : Code} {fn : Func} {a ty b u : Nat} {x : Value} {ty0 : Nat} {cs : List Value} {fz : Nat × Nat} {n : Nat} (hc : c = .ret) (hf : P.funcs[f]? = some fn) (hres : fn.results = #[.cell a ty, .tmp u]) (hv : look env a = some (.pointer (some ⟨b, 0, none⟩)))
    (hx : look env u = some x) (hb : w.heap[b]? = some (.cells cs.toArray ty0 fz)) (ha : aggB P ty = some true) (hs : szB P ty = some n) (hl : cs.length = n)
    (hR : R (.tuple #[.agg cs.toArray, x]) w) : Run P f N (.code c :: k) env w R := fun a' ha' => by
  subst hc
  refine runs_ret hf ha'.defers ?_ hR
  have h1 := ha'.slot a _ hv
  have h3 := ha'.slot u _ hx
  have h2 := run_cellAgg hb ha hs hl
  simp only [results, hres]
  simp [h1, h3, Array.getD_eq_getD_getElem?, asAddr, h2]
end

/-! ### Small -/
section
variable {P : Program} {N : Nat} {env : Env} {w : World} {x y : Operand} {t u : TypeId} {m n r : Int}
theorem val_max (hx : ev env x = some (.int .i64 m)) (hy : ev env y = some (.int .i64 n)) (ht : P.underlying t = some (.int .i64)) :
    Val P N env (.call { callee := .builtin .max, args := #[x, y], argTypes := #[t, t] }) w (.int .i64 (max m n)) := mk' fun ρ hρ o ho => by
  unfold execOp; rw [ho]
  simp [hρ _ _ hx, hρ _ _ hy, go_sem, resolve, invoke, builtin, Builtin.max_, Builtin.max2]
  by_cases h : m < n
  · rw [if_pos h]; exact (Int.max_eq_right (by omega)).symm
  · rw [if_neg h]; exact (Int.max_eq_left (by omega)).symm
end
/-! ### Closures; a function that ends without 'return' -/
section
variable {P : Program} {f : FuncId} {N : Nat} {k : List Item} {env : Env} {w : World} {R : Value → World → Prop} {Q : Exit → Act → World → Prop}
theorem run_end0 {fn : Func} (hf : P.funcs[f]? = some fn) (hres : fn.results = #[]) (hR : R (.tuple #[]) w) : Run P f N [] env w R := fun a ha cs =>
  ⟨.tuple #[], w, _, hR, .one step_end, rfl, rfl, ha.defers, rfl, fn, hf, by simp [results, hres, Sem.run, pure]⟩
theorem val_makeFunc {fn : Fn} {xs ys : Array Operand} {us vs : List Value} (hx : evs env xs.toList = some us) (hy : evs env ys.toList = some vs) :
    Val P N env (.makeFunc fn xs ys) w (.func fn us.toArray vs.toArray) := fun a ha o ho => by
  have h1 : xs.map a.eval = us.toArray := by rw [← ha.evs hx, ← List.map_toArray]
  have h2 : ys.map a.eval = vs.toArray := by rw [← ha.evs hy, ← List.map_toArray]
  unfold execOp; rw [ho]
  simp only [h1, h2]
  rfl
end
end Go.K

/- Maps. -/
set_option linter.unusedVariables false
set_option linter.unusedSimpArgs false
set_option linter.unusedSectionVars false
namespace Go.K
open Rep

/-- '==' at a type decides equality of the data. -/
def EqOK (P : Program) (t : TypeId) {κ : Type} [DecidableEq κ] (kv : κ → Value) : Prop :=
  ∀ d a b w, (Op.equalIn (d + 8) t (kv a) (kv b)).run P w = .ok (decide (a = b)) w

structure KeyOK (P : Program) (t : TypeId) {κ : Type} [DecidableEq κ] (kv : κ → Value) : Prop where
  check : ∀ e k w, (Instr.checkKey e 10000 t (kv k)).run P w = .ok () w
  find : ∀ k (es : List MapEntry) (ks : List κ) w, es.map (·.key) = ks.map kv →
    (Instr.findKey t (kv k) es).run P w = .ok ((ks.findIdx? (fun x => decide (x = k))).bind fun i => (es[i]?).map fun e => (i, e.val)) w
  bits : ∀ k, Instr.sameBits 10000 (kv k) (kv k) = true
  inj : ∀ a b, kv a = kv b → a = b

/-! ### Plain maps: lists of entries in the order of their making -/
section
variable {κ β : Type} [DecidableEq κ]
def mget : List (κ × β) → κ → Option β
  | [], _ => none
  | (x, v) :: m, k => if x = k then some v else mget m k
def mput : List (κ × β) → κ → β → List (κ × β)
  | [], k, v => [(k, v)]
  | (x, u) :: m, k, v => if x = k then (k, v) :: m else (x, u) :: mput m k v
def keys (m : List (κ × β)) : List κ := m.map (·.1)
theorem mget_mput (m : List (κ × β)) (k : κ) (v : β) (j : κ) : mget (mput m k v) j = if k = j then some v else mget m j := by
  induction m with
  | nil => simp [mput, mget]
  | cons p m ih =>
    obtain ⟨x, u⟩ := p
    unfold mput
    split
    · rename_i h; subst h
      simp only [mget]; split <;> rfl
    · rename_i h
      simp only [mget, ih]
      by_cases h1 : x = j
      · subst h1; rw [if_pos rfl, if_neg (fun e => h e.symm), if_pos rfl]
      · rw [if_neg h1, if_neg h1]
end

/-! ### Maps in memory -/
section
variable {κ β : Type} [DecidableEq κ] {kv : κ → Value} {vv : β → Value} {m : List (κ × β)}

/-- The block's entries are `m`. -/
structure MapIs (kv : κ → Value) (vv : β → Value) (m : List (κ × β)) (es : Array MapEntry) (clock : Nat) : Prop where
  key : es.toList.map (·.key) = (keys m).map kv
  val : es.toList.map (·.val) = m.map (fun p => vv p.2)
  nodup : (keys m).Nodup
  born : ∀ e ∈ es.toList, e.born < clock
  rise : es.toList.Pairwise (fun a b => a.born < b.born)

/-- A map of one's own, at block `b`. -/
def OwnM (w : World) (C : Nat → Nat) (j b : Nat) (kv : κ → Value) (vv : β → Value) (m : List (κ × β)) : Prop :=
  C b = j ∧ ∃ es clock, w.heap[b]? = some (.map es clock) ∧ MapIs kv vv m es clock
/-- A map that is only read. -/
def RM (w : World) (M : Nat → Prop) (kv : κ → Value) (vv : β → Value) (m : List (κ × β)) (v : Value) : Prop :=
  ∃ b, v = .map (some b) ∧ ¬ M b ∧ ∃ es clock, w.heap[b]? = some (.map es clock) ∧ MapIs kv vv m es clock

variable {w w' : World} {I : List Nat} {C C' : Nat → Nat} {j b n : Nat} {v : Value}
theorem OwnM.st (h : OwnM w C j b kv vv m) (hs : Stp I w C w' C') (hj : j ∉ I) : OwnM w' C' j b kv vv m := by
  obtain ⟨hc, es, clock, hb, hm⟩ := h
  exact ⟨(hs.col b (lt_of_at hb)).trans hc, es, clock, hs.ext.at' hb (by rw [hc]; exact hj), hm⟩
theorem RM.st (h : RM w (Mc C) kv vv m v) (hs : Stp I w C w' C') (h0 : 0 ∉ I) : RM w' (Mc C') kv vv m v := by
  obtain ⟨b, e, hn, es, clock, hb, hm⟩ := h
  have hc : C b = 0 := by by_cases hz : C b = 0; exact hz; exact absurd hz hn
  refine ⟨b, e, ?_, es, clock, hs.ext.at' hb (by rw [hc]; exact h0), hm⟩
  unfold Mc; rw [hs.col b (lt_of_at hb)]; exact hn
theorem OwnM.t (h : OwnM w C j b kv vv m) (hs : Stp I w C w' C') (hj : j ∉ I := by first | decide | (simp <;> omega)) : OwnM w' C' j b kv vv m := h.st hs hj
theorem RM.t (h : RM w (Mc C) kv vv m v) (hs : Stp I w C w' C') (h0 : 0 ∉ I := by first | decide | (simp <;> omega)) : RM w' (Mc C') kv vv m v := h.st hs h0
theorem RM.frz (h : RM w (Mc C) kv vv m v) (n : Nat) : RM w (Mc (K.frz n C)) kv vv m v := by
  obtain ⟨b, e, hn, r⟩ := h
  exact ⟨b, e, fun hm => hn (Mc_frz hm).1, r⟩
theorem OwnM.frz (h : OwnM w C j b kv vv m) (hj : n ≤ j) : RM w (Mc (K.frz n C)) kv vv m (.map (some b)) := by
  obtain ⟨hc, r⟩ := h
  exact ⟨b, rfl, fun hm => by have := (Mc_frz hm).2; omega, r⟩
/-- A map of the function's own, handed out to be read. -/
theorem OwnM.out {w₀ : World} {C₀ D : Nat → Nat} (h : OwnM w' C' j b kv vv m) (hs : Stp I w₀ D w' C') (hF : Lim w₀ C₀) (hD : Mc D = Mc C₀) (hj : ∀ b, b < w₀.heap.size → D b ≠ j) : RM w' (Mc C₀) kv vv m (.map (some b)) := by
  obtain ⟨hc, r⟩ := h
  refine ⟨b, rfl, fun hm => ?_, r⟩
  obtain ⟨h1, h2, h3⟩ := hs.fin_sub hF hD b hm
  exact hj b h1 (by rw [← h2]; exact hc)
theorem RM.out {w₀ : World} {C₀ D : Nat → Nat} (h : RM w' (Mc C') kv vv m v) (hs : Stp I w₀ D w' C') (hF : Lim w₀ C₀) (hD : Mc D = Mc C₀) : RM w' (Mc C₀) kv vv m v := by
  obtain ⟨b, e, hn, r⟩ := h
  refine ⟨b, e, fun hm => hn ?_, r⟩
  obtain ⟨h1, h2, h3⟩ := hs.fin_sub hF hD b hm
  unfold Mc; rw [h2]; exact h3

variable {P : Program} {N : Nat} {env : Env} {x y z q : Operand} {t kt et : TypeId}

end

section
variable {κ β : Type} [DecidableEq κ] {kv : κ → Value} {vv : β → Value} {m : List (κ × β)} {es : Array MapEntry} {clock : Nat}

variable {w w' : World} {I : List Nat} {C C' : Nat → Nat} {M : Nat → Prop} {j b n : Nat} {v : Value} {P : Program} {N : Nat} {env : Env} {x y z q : Operand} {t kt et : TypeId}

variable {z0 : β}
end
end Go.K

/- Maps: an entry that is written in two steps, and ranging. -/
set_option linter.unusedVariables false
set_option linter.unusedSimpArgs false
set_option linter.unusedSectionVars false
namespace Go.K
open Rep

section
variable {κ β : Type} [DecidableEq κ] {kv : κ → Value} {vv : β → Value} {m : List (κ × β)} {es : Array MapEntry} {clock : Nat}
variable {w w' : World} {I : List Nat} {C C' : Nat → Nat} {M : Nat → Prop} {j b n : Nat} {v : Value} {P : Program} {N : Nat} {env : Env} {x y z q : Operand} {t kt et : TypeId} {z0 : β}

theorem OwnM.lenV (h : OwnM w C j b kv vv m) (hx : ev env x = some (.map (some b))) (ht : P.underlying t = some (.map kt et)) :
    Val P N env (.call { callee := .builtin .len, args := #[x], argTypes := #[t] }) w (.int .i64 m.length) := mk' fun ρ hρ o ho => by
  obtain ⟨_, es, clock, hb, hm⟩ := h
  have hl : es.size = m.length := by have := congrArg List.length hm.key; simpa [keys] using this
  have hget : (getObj b).run P w = .ok (.map es clock) w := by simp [getObj, Sem.run, hb]
  unfold execOp; rw [ho]
  simp [hρ _ _ hx, resolve, invoke, builtin, Builtin.len_, run_underlying ht, goInt, hget, hl]
theorem RM.lenV (h : RM w M kv vv m v) (hx : ev env x = some v) (ht : P.underlying t = some (.map kt et)) :
    Val P N env (.call { callee := .builtin .len, args := #[x], argTypes := #[t] }) w (.int .i64 m.length) := mk' fun ρ hρ o ho => by
  obtain ⟨b, rfl, _, es, clock, hb, hm⟩ := h
  have hl : es.size = m.length := by have := congrArg List.length hm.key; simpa [keys] using this
  have hget : (getObj b).run P w = .ok (.map es clock) w := by simp [getObj, Sem.run, hb]
  unfold execOp; rw [ho]
  simp [hρ _ _ hx, resolve, invoke, builtin, Builtin.len_, run_underlying ht, goInt, hget, hl]

/-! ### Ranging over a map -/

/-- What an iterator has not yet come to. -/
def leftOf (m : List (κ × β)) (es : List MapEntry) (seen : List Nat) : List (κ × β) := ((m.zip es).filter fun p => !seen.contains p.2.born).map (·.1)

/-- An iterator over a map at block `b` that does not turn meanwhile. -/
structure OwnIt (w : World) (C : Nat → Nat) (j it jb b : Nat) (kv : κ → Value) (vv : β → Value) (m : List (κ × β)) (left : List (κ × β)) (cur : Option (κ × β)) : Prop where
  col : C it = j
  colb : C b = jb
  is : ∃ (es : Array MapEntry) (clock : Nat) (seen : Array Nat), w.heap[it]? = some (.mapIter (some b) clock seen clock) ∧ w.heap[b]? = some (.map es clock) ∧ MapIs kv vv m es clock ∧ left = leftOf m es.toList seen.toList ∧
    ∀ c, cur = some c → ∃ (i : Nat) (e : MapEntry), m[i]? = some c ∧ es.toList[i]? = some e ∧ seen.back? = some e.born

variable {it jb : Nat} {left : List (κ × β)} {cur : Option (κ × β)}
theorem OwnIt.st (h : OwnIt w C j it jb b kv vv m left cur) (hs : Stp I w C w' C') (hj : j ∉ I) (hjb : jb ∉ I) : OwnIt w' C' j it jb b kv vv m left cur := by
  obtain ⟨h1, h2, es, clock, seen, h3, h4, r⟩ := h
  exact ⟨(hs.col it (lt_of_at h3)).trans h1, (hs.col b (lt_of_at h4)).trans h2, es, clock, seen, hs.ext.at' h3 (by rw [h1]; exact hj), hs.ext.at' h4 (by rw [h2]; exact hjb), r⟩

theorem RM.nodup {M : Nat → Prop} (hr : RM w M kv vv m v) : (keys m).Nodup := by
  obtain ⟨b, rfl, hn, es, clock, hb, hm⟩ := hr
  exact hm.nodup
end
end Go.K

/- Couples (and other structs of two ints): as keys, compared, in order; what stands twice side by side. -/
set_option linter.unusedVariables false
set_option linter.unusedSimpArgs false
namespace Go.K
open Rep

abbrev kvC : Couple → Value := fun c => .agg #[.int .i64 c.a, .int .i64 c.b]
/-! ### 'cmp' -/
/-- 'cmp.Or'. -/
def orL : List Int → Int
  | [] => 0
  | a :: l => if a = 0 then orL l else a
/-- 'cmp.Compare'. -/
def cmpI (x y : Int) : Int := if x < y then -1 else if y < x then 1 else 0
def cmpC (x y : Couple) : Int := orL [cmpI x.a y.a, cmpI x.b y.b]
theorem orL_drop {l : List Int} {i : Nat} (h : i < l.length) : orL (l.drop i) = if l[i] = 0 then orL (l.drop (i + 1)) else l[i] := by
  rw [List.drop_eq_getElem_cons h]; rfl


/-! ### Couples as keys -/
section
variable {P : Program} {t ti : TypeId} {n0 n1 tg0 tg1 pk0 pk1 : String} {e0 e1 : Bool} {y0 y1 : Nat}
theorem part_couple (hi : P.underlying ti = some (.int .i64)) (a b : Int) (i : Nat) (v : Value) (w : World) (hv : (#[Value.int .i64 a, Value.int .i64 b])[i]? = some v) : (part ti #[.int .i64 a, .int .i64 b] i).run P w = .ok v w :=
  run_part_plain w (by simp [Program.plainKey, hi]) hv
theorem eqOK_couple (h : P.underlying t = some (.struct #[⟨n0, ti, 0, e0, tg0, pk0, y0⟩, ⟨n1, ti, 1, e1, tg1, pk1, y1⟩])) (h0 : n0 ≠ "_") (h1 : n1 ≠ "_") (hS : P.stoodInHeld t = false)
    (hi : P.underlying ti = some (.int .i64)) : EqOK P t kvC := fun d a b w => by
  have hpt := fun a b i v w => part_couple (P := P) hi a b i v w
  have hf : P.fieldsOf t = #[⟨n0, ti, 0, e0, tg0, pk0, y0⟩, ⟨n1, ti, 1, e1, tg1, pk1, y1⟩] := by simp [Program.fieldsOf, h]
  have he := fun (x y : Int) => run_equalIn_int (P := P) w (d + 6) ti .i64 .i64 x y hi
  rw [show d + 8 = (d + 7) + 1 from rfl, run_equalIn_struct w (d + 7) t _ _ (by rw [hf]; exact h) hS, hf]
  have p0 : ∀ c : Couple, (part ti #[.int .i64 c.a, .int .i64 c.b] 0).run P w = .ok (.int .i64 c.a) w := fun c => hpt _ _ 0 _ w rfl
  have p1 : ∀ c : Couple, (part ti #[.int .i64 c.a, .int .i64 c.b] 1).run P w = .ok (.int .i64 c.b) w := fun c => hpt _ _ 1 _ w rfl
  have hd : (decide (a = b)) = ((a.a == b.a) && (a.b == b.b)) := by
    cases a; cases b; simp only [Couple.mk.injEq, Bool.decide_and]; rfl
  simp only [Op.eqFields, Sem.run_bind, Sem.run_ite, h0, h1, ne_eq, not_false_eq_true, if_true, p0, p1, Result.andThen_ok, he, hd]
  cases (a.a == b.a) <;> cases (a.b == b.b) <;> simp
theorem eqGuard_couple (h : P.underlying t = some (.struct #[⟨n0, ti, 0, e0, tg0, pk0, y0⟩, ⟨n1, ti, 1, e1, tg1, pk1, y1⟩])) (h0 : n0 ≠ "_") (h1 : n1 ≠ "_")
    (hi : P.underlying ti = some (.int .i64)) (d : Nat) (a b : Couple) (w : World) : (Op.eqGuardIn (d + 2) t (kvC a) (kvC b)).run P w = .ok false w := by
  have hpt := fun a b i v w => part_couple (P := P) hi a b i v w
  have p0 : ∀ c : Couple, (part ti #[.int .i64 c.a, .int .i64 c.b] 0).run P w = .ok (.int .i64 c.a) w := fun c => hpt _ _ 0 _ w rfl
  have p1 : ∀ c : Couple, (part ti #[.int .i64 c.a, .int .i64 c.b] 1).run P w = .ok (.int .i64 c.b) w := fun c => hpt _ _ 1 _ w rfl
  have q : ∀ (x y : Int), (Op.eqGuardIn (d + 1) ti (.int .i64 x) (.int .i64 y)).run P w = .ok false w := fun x y => by unfold Op.eqGuardIn; simp [run_underlying hi]
  rw [show d + 2 = (d + 1) + 1 from rfl, Op.eqGuardIn]
  simp only [Sem.run_bind, run_underlying h, Result.andThen_ok]
  rw [← Array.forIn_toList]
  simp only [List.forIn_cons, List.forIn_nil, Sem.run_bind, Sem.run_ite, h0, h1, ne_eq, not_false_eq_true, if_true, p0, p1, q, Result.andThen_ok, Sem.run_pure, Bool.false_eq_true, if_false]
variable {N : Nat} {env : Env} {x y : Operand} {u : TypeId} {a b : Couple} {w : World}
theorem val_eqC (h : P.underlying t = some (.struct #[⟨n0, ti, 0, e0, tg0, pk0, y0⟩, ⟨n1, ti, 1, e1, tg1, pk1, y1⟩])) (h0 : n0 ≠ "_") (h1 : n1 ≠ "_") (hS : P.stoodInHeld t = false)
    (hi : P.underlying ti = some (.int .i64)) (hx : ev env x = some (kvC a)) (hy : ev env y = some (kvC b)) : Val P N env (.binOp .eql t x y u) w (.bool (decide (a = b))) := mk' fun ρ hρ o ho => by
  have h5 := eqOK_couple h h0 h1 hS hi (Op.maxDepth - 8) a b w
  have h6 := eqGuard_couple h h0 h1 hi (Op.maxDepth - 2) a b w
  have h7 : (Op.equal t (kvC a) (kvC b)).run P w = .ok (decide (a = b)) w := h5
  have h8 : (Op.eqGuardIn Op.maxDepth t (kvC a) (kvC b)).run P w = .ok false w := h6
  have h9 : (eqGuard .eql t x y (kvC a) (kvC b)).run P w = .ok () w := by
    unfold eqGuard
    simp only [Sem.run_bind, Sem.run_pure, Sem.run_ite, run_program, Result.andThen_ok, h8, Bool.not_true, Bool.false_eq_true, if_false]
    cases P.eqGuardType P.depth t <;> simp [h8]
  have h10 : (binOp .eql t (kvC a) (kvC b)).run P w = .ok (.bool (decide (a = b))) w := by
    show (Op.equal t (kvC a) (kvC b) >>= fun z => pure (Value.bool z)).run P w = _
    rw [Sem.run_bind, h7]; rfl
  unfold execOp; rw [ho]
  simp only [hρ _ _ hx, hρ _ _ hy]
  simp [Sem.run_bind, h9, h10]
end


/-! ### Lists of couples -/
def leC (x y : Couple) : Bool := !decide (cmpC y x < 0)
def sortC (l : List Couple) : List Couple := l.mergeSort leC
/-! ### What stands twice side by side -/
section
variable {α : Type} [DecidableEq α]
def compactS : List α → List α
  | [] => []
  | [a] => [a]
  | a :: b :: l => if a = b then compactS (b :: l) else a :: compactS (b :: l)
end
instance : Inhabited Couple := ⟨⟨0, 0⟩⟩
end Go.K

/- Bonds and what hangs together: plain. -/
set_option linter.unusedVariables false
set_option linter.unusedSimpArgs false
namespace Go.K
open Rep

structure Bond where
  A : Couple
  B : Couple
  w : Int
  deriving DecidableEq
instance : Rep Bond := Rep.via (fun x : Bond => (x.A, (x.B, x.w)))
instance : Inhabited Bond := ⟨⟨⟨0, 0⟩, ⟨0, 0⟩, 0⟩⟩
abbrev encR (x : Couple) : List Value := [.int .i64 x.a, .int .i64 x.b]
section
variable {w : World} {M : Nat → Prop} {b o : Nat} {v : Value}
theorem RA.bw {x : Bond} (h : RA w M x b o) : RA w M x.w b (o + 4) := RA.snd (p := (x.B, x.w)) (RA.snd (p := (x.A, (x.B, x.w))) h)
theorem rep_couple {h : Array Obj} {x : Couple} {vs : List Value} : rep h M x vs ↔ vs = encR x :=
  ⟨fun hr => by
    obtain ⟨us, ws, rfl, h1, h2⟩ := hr
    rw [show us = [.int .i64 x.a] from h1, show ws = [.int .i64 x.b] from h2]; rfl,
   fun hr => by subst hr; exact ⟨[_], [_], rfl, rfl, rfl⟩⟩
end

/-- A list's header as it is. -/
structure Sv where
  v : Value
instance : Inhabited Sv := ⟨⟨.slice none 0 0⟩⟩
instance : Rep Sv where
  sz := 1
  agg := false
  flat _ := rfl
  rep _ _ x vs := vs = [x.v] ∧ x.v.oneCell' = true
  len h := by obtain ⟨rfl, _⟩ := h; rfl
  one h := by obtain ⟨rfl, h1⟩ := h; intro v hv; simp at hv; subst hv; exact h1
  keep h _ := h
  sub h _ := h
section
variable {w : World} {M : Nat → Prop} {v : Value} {β : Type} [Rep β]
end

/-! ### Order -/
def ltP (x y : Couple) : Prop := x.a < y.a ∨ x.a = y.a ∧ x.b < y.b
instance (x y : Couple) : Decidable (ltP x y) := by unfold ltP; infer_instance
def lt2 (x y : Bond) : Prop := ltP x.A y.A ∨ x.A = y.A ∧ ltP x.B y.B
instance (x y : Bond) : Decidable (lt2 x y) := by unfold lt2; infer_instance
def cmp2 (a b c d : Couple) : Int := orL [cmpC a c, cmpC b d]
/-! ### Valid bonds -/
def refOK (r : Couple) : Bool := decide (0 ≤ r.a) && decide (r.a < 4) && decide (1 ≤ r.b) && decide (r.b ≤ 1048576)
def cplOK (a b : Couple) : Bool := refOK a && refOK b && decide (a.a < b.a)
def errAt (l : List Bond) (i : Nat) : Int :=
  if cplOK l[i]!.A l[i]!.B = false then 41 else if l[i]!.w < 1 ∨ 1048576 < l[i]!.w then 40 else if 0 < i ∧ ¬ lt2 l[i-1]! l[i]! then 12 else 0
def checkS (l : List Bond) : Int := if 4096 < l.length then 1 else orL ((List.range l.length).map (errAt l))
theorem orL_zero {l : List Int} (h : ∀ x ∈ l, x = 0) : orL l = 0 := by
  induction l with
  | nil => rfl
  | cons x l ih => simp only [orL]; rw [if_pos (h x (by simp))]; exact ih (fun y hy => h y (by simp [hy]))
theorem checkS_ok {l : List Bond} (hl : l.length ≤ 4096) (h0 : ∀ k, k < l.length → errAt l k = 0) : checkS l = 0 := by
  unfold checkS; rw [if_neg (by omega)]
  refine orL_zero fun x hx => ?_
  obtain ⟨k, hk, rfl⟩ := List.mem_map.1 hx
  exact h0 k (List.mem_range.1 hk)
def okB (x : Bond) : Prop := cplOK x.A x.B = true ∧ 1 ≤ x.w ∧ x.w ≤ 1048576
def Vld (l : List Bond) : Prop := l.length ≤ 4096 ∧ (∀ x ∈ l, okB x) ∧ l.Pairwise lt2
theorem Vld.check {l : List Bond} (h : Vld l) : checkS l = 0 := by
  obtain ⟨h1, h2, h3⟩ := h
  refine checkS_ok h1 fun k hk => ?_
  have hx := h2 l[k] (List.getElem_mem hk)
  unfold errAt
  rw [getElem!_pos l k hk, if_neg (by simp [hx.1]), if_neg (by have := hx.2; omega)]
  split
  · rename_i h; exfalso
    obtain ⟨h0, hn⟩ := h
    rw [getElem!_pos l (k - 1) (by omega)] at hn
    exact hn (List.pairwise_iff_getElem.1 h3 (k - 1) k (by omega) hk (by omega))
  · rfl
theorem Vld.sub {l l' : List Bond} (h : Vld l) (hs : l'.Sublist l) : Vld l' := ⟨Nat.le_trans hs.length_le h.1, fun x hx => h.2.1 x (hs.subset hx), h.2.2.sublist hs⟩

/-! ### Refs -/
def endsS (l : List Bond) : List Couple := l.flatMap fun x => [x.A, x.B]
def refsS (l : List Bond) : List Couple := compactS (sortC (endsS l))
/-! ### Roots -/
def joinF (ρ : Couple → Couple) (a b : Couple) : Couple → Couple := fun r => if ρ r = ρ a then ρ b else ρ r
def rhoF (ρ : Couple → Couple) (l : List Bond) : Couple → Couple := l.foldl (fun ρ x => joinF ρ x.A x.B) ρ
def rhoS (l : List Bond) : Couple → Couple := rhoF id l
/-! ### What hangs together -/
section
variable {α β : Type} [DecidableEq β]
def firstsS (f : α → β) (xs : List α) : List α := xs.foldl (fun acc r => if acc.any (fun q => decide (f q = f r)) then acc else acc ++ [r]) []
def groupS (f : α → β) (xs : List α) : List (List α) := (firstsS f xs).map fun q => xs.filter fun r => decide (f r = f q)
theorem firstsS_snoc (f : α → β) (xs : List α) (r : α) : firstsS f (xs ++ [r]) = if (firstsS f xs).any (fun q => decide (f q = f r)) then firstsS f xs else firstsS f xs ++ [r] := by
  unfold firstsS; rw [List.foldl_append]; rfl
theorem snoc_ind {p : List α → Prop} (h0 : p []) (h1 : ∀ l a, p l → p (l ++ [a])) (l : List α) : p l := by
  rw [← List.reverse_reverse l]
  induction l.reverse with
  | nil => exact h0
  | cons a l ih => rw [List.reverse_cons]; exact h1 _ a ih
theorem firsts_nodup (f : α → β) (xs : List α) : ((firstsS f xs).map f).Nodup := by
  induction xs using snoc_ind with
  | h0 => simp [firstsS]
  | h1 l a ih =>
    rw [firstsS_snoc]; split
    · exact ih
    · rename_i h
      rw [List.map_append, List.nodup_append]
      refine ⟨ih, by simp, fun x hx y hy e => h ?_⟩
      obtain ⟨q, hq, rfl⟩ := List.mem_map.1 hx
      simp only [List.map_cons, List.map_nil, List.mem_singleton] at hy
      exact List.any_eq_true.2 ⟨q, hq, by simp [e, hy]⟩
theorem groupS_length (f : α → β) (xs : List α) : (groupS f xs).length = (firstsS f xs).length := by simp [groupS]
theorem groupS_get {f : α → β} {xs : List α} {i : Nat} (h : i < (groupS f xs).length) : (groupS f xs)[i] = xs.filter fun r => decide (f r = f ((firstsS f xs)[i]'(by rwa [groupS_length] at h))) := by simp [groupS]
end
def partsS (l : List Bond) : List (List Couple) := groupS (rhoS l) (refsS l)
/-! ### Forests -/
def Frst (u : List (Couple × Couple)) (ρ : Couple → Couple) (d : Couple → Nat) : Prop :=
  ∀ r v, mget u r = some v → (∃ v', mget u v = some v') ∧ ρ v = ρ r ∧ (v ≠ r → d v < d r) ∧ (v = r → ρ r = r)
def Dom (u : List (Couple × Couple)) (xs : List Couple) : Prop := ∀ r ∈ xs, ∃ v, mget u r = some v
theorem Dom.put {u : List (Couple × Couple)} {xs : List Couple} (h : Dom u xs) (a b : Couple) : Dom (mput u a b) xs := fun r hr => by
  rw [mget_mput]; split
  · exact ⟨_, rfl⟩
  · exact h r hr
/-- A tree of its own. -/
theorem Frst.self {u : List (Couple × Couple)} {d : Couple → Nat} (h : Frst u id d) (r : Couple) : Frst (mput u r r) id d := fun s v hs => by
  rw [mget_mput] at hs
  split at hs
  · rename_i e; obtain rfl : r = v := by simpa using hs
    subst e
    exact ⟨⟨r, by rw [mget_mput, if_pos rfl]⟩, rfl, fun h => absurd rfl h, fun _ => rfl⟩
  · obtain ⟨⟨v', h1⟩, h2, h3, h4⟩ := h s v hs
    refine ⟨?_, h2, h3, h4⟩
    rw [mget_mput]; split
    · exact ⟨_, rfl⟩
    · exact ⟨_, h1⟩
end Go.K

/- Maps that a function is handed to write; groups as they grow. -/
set_option linter.unusedVariables false
set_option linter.unusedSimpArgs false
namespace Go.K
open Rep
section
variable {κ β : Type} {kv : κ → Value} {vv : β → Value} {m : List (κ × β)} {w w' w₀ : World} {I : List Nat} {C C' C₀ : Nat → Nat} {i j b : Nat}
theorem OwnM.col2 (h : OwnM w C i b kv vv m) (hi : i ≠ 0) : OwnM w (K.col2 C i) 2 b kv vv m := ⟨by unfold K.col2; rw [if_neg (by rw [h.1]; exact hi), if_pos h.1], h.2⟩
theorem OwnM.stay [DecidableEq κ] (h : OwnM w C j b kv vv m) (hS : Ext (fun b => C b ∈ I) w w') (hj : j ∉ I) : OwnM w' C j b kv vv m := h.st (I := I) ⟨hS, fun _ _ => rfl⟩ hj
theorem OwnM.sy [DecidableEq κ] (h : OwnM w C j b kv vv m) (hS : Ext (fun b => C b ∈ I) w w') (hj : j ∉ I := by first | decide | (simp <;> omega)) : OwnM w' C j b kv vv m := h.stay hS hj
/-- A map of the function's own, handed out to be written. -/
theorem OwnM.give {D : Nat → Nat} (h : OwnM w' C' j b kv vv m) (hs : Stp I w₀ D w' C') (hF : Lim w₀ C₀) (hj : ∀ b, b < w₀.heap.size → D b ≠ j) (i : Nat) :
    ∃ C1, (∀ b, b < w₀.heap.size → C1 b = C₀ b) ∧ OwnM w' C1 i b kv vv m ∧ Lim w' C1 := by
  obtain ⟨hc, es, clock, hb, hm⟩ := h
  have hge : w₀.heap.size ≤ b := by
    rcases Nat.lt_or_ge b w₀.heap.size with h1 | h1
    · exact absurd (by rw [← hs.col b h1]; exact hc) (hj b h1)
    · exact h1
  refine ⟨setC C₀ b i, fun c hc => by unfold setC; rw [if_neg (by omega)], ⟨by simp [setC], es, clock, hb, hm⟩, fun c hc => ?_⟩
  unfold setC at hc
  split at hc
  · rename_i e; rw [e]; exact lt_of_at hb
  · exact Nat.lt_of_lt_of_le (hF c hc) hs.size
end
/-- The number of the group of a root. -/
def AtIs (m : List (Couple × Nat)) (ts : List Couple) : Prop := ∀ t i, mget m t = some i ↔ ts[i]? = some t
theorem AtIs.nil : AtIs [] [] := fun t i => by simp [mget]
theorem AtIs.new {m : List (Couple × Nat)} {ts : List Couple} (h : AtIs m ts) {t : Couple} (hn : mget m t = none) : AtIs (mput m t ts.length) (ts ++ [t]) := fun s i => by
  rw [mget_mput]
  split
  · rename_i e; subst e
    constructor
    · intro hi; obtain rfl : ts.length = i := by simpa using hi
      simp
    · intro hi
      rw [List.getElem?_append] at hi
      split at hi
      · have := (h t i).2 hi; rw [hn] at this; cases this
      · rename_i hlt
        have : i - ts.length = 0 := by
          rcases Nat.lt_or_ge (i - ts.length) 1 with h1 | h1
          · omega
          · rw [List.getElem?_eq_none (by simpa using h1)] at hi; cases hi
        simp; omega
  · rename_i e
    rw [h s i, List.getElem?_append]
    split
    · exact Iff.rfl
    · rename_i hlt
      rw [List.getElem?_eq_none (by omega)]
      constructor
      · intro h; cases h
      · intro h3
        exfalso
        rcases Nat.lt_or_ge (i - ts.length) 1 with h1 | h1
        · have : i - ts.length = 0 := by omega
          rw [this] at h3; simp at h3; exact e h3
        · rw [List.getElem?_eq_none (by simpa using h1)] at h3; cases h3
theorem AtIs.lt {m : List (Couple × Nat)} {ts : List Couple} (h : AtIs m ts) {t : Couple} {i : Nat} (hi : mget m t = some i) : ∃ hl : i < ts.length, ts[i] = t := List.getElem?_eq_some_iff.1 ((h t i).1 hi)
theorem AtIs.none {m : List (Couple × Nat)} {ts : List Couple} (h : AtIs m ts) {t : Couple} (hn : mget m t = none) : t ∉ ts := fun hm => by
  obtain ⟨i, hi, e⟩ := List.mem_iff_getElem.1 hm
  have := (h t i).2 (by rw [List.getElem?_eq_getElem hi, e])
  rw [hn] at this; cases this

/-! ### Lists of lists that grow -/
section
variable {α β : Type} [DecidableEq β] {f : α → β} {xs : List α} {r : α} {i0 : Nat}
end
/-! ### Which part -/
def Ix (um : List (Couple × Nat)) (P : List (List Couple)) (k j : Nat) : Prop := ∀ i r, (i < k ∧ r ∈ P.getD i []) ∨ (i = k ∧ r ∈ (P.getD k []).take j) → mget um r = some i
theorem Ix.nil (P : List (List Couple)) : Ix [] P 0 0 := fun i r h => by
  rcases h with ⟨h, _⟩ | ⟨_, h⟩
  · omega
  · simp at h
theorem Ix.next {um : List (Couple × Nat)} {P : List (List Couple)} {k j : Nat} (h : Ix um P k j) (hj : (P.getD k []).length ≤ j) : Ix um P (k + 1) 0 := fun i r hi => by
  rcases hi with ⟨h1, h2⟩ | ⟨_, h2⟩
  · by_cases e : i = k
    · subst e; exact h i r (.inr ⟨rfl, by rw [List.take_of_length_le hj]; exact h2⟩)
    · exact h i r (.inl ⟨by omega, h2⟩)
  · simp at h2
theorem parts_getD {l : List Bond} {i : Nat} {r : Couple} : r ∈ (partsS l).getD i [] ↔ ∃ hi : i < (firstsS (rhoS l) (refsS l)).length, r ∈ refsS l ∧ rhoS l r = rhoS l (firstsS (rhoS l) (refsS l))[i] := by
  rw [List.getD_eq_getElem?_getD]
  by_cases hi : i < (partsS l).length
  · rw [List.getElem?_eq_getElem hi]
    have hi2 : i < (firstsS (rhoS l) (refsS l)).length := by unfold partsS at hi; rwa [groupS_length] at hi
    have : (partsS l)[i] = (refsS l).filter fun r => decide (rhoS l r = rhoS l (firstsS (rhoS l) (refsS l))[i]) := groupS_get hi
    rw [Option.getD_some, this, List.mem_filter, decide_eq_true_eq]
    exact ⟨fun h => ⟨hi2, h⟩, fun ⟨_, h⟩ => h⟩
  · rw [List.getElem?_eq_none (by omega)]
    simp only [Option.getD_none, List.not_mem_nil, false_iff]
    rintro ⟨h, _⟩
    exact hi (by unfold partsS; rwa [groupS_length])
theorem firsts_uniq {α β : Type} [DecidableEq β] {f : α → β} {xs : List α} {i j : Nat} (hi : i < (firstsS f xs).length) (hj : j < (firstsS f xs).length) (e : f (firstsS f xs)[i] = f (firstsS f xs)[j]) : i = j := by
  have hn := List.pairwise_iff_getElem.1 (firsts_nodup f xs)
  rcases Nat.lt_trichotomy i j with h3 | h3 | h3
  · exact absurd (by rw [List.getElem_map, List.getElem_map, e]) (hn i j (by simpa using hi) (by simpa using hj) h3)
  · exact h3
  · exact absurd (by rw [List.getElem_map, List.getElem_map, e]) (hn j i (by simpa using hj) (by simpa using hi) h3)
theorem parts_disj {l : List Bond} {i j : Nat} {r : Couple} (h : r ∈ (partsS l).getD i []) (h' : r ∈ (partsS l).getD j []) : i = j := by
  obtain ⟨hi, _, h1⟩ := parts_getD.1 h
  obtain ⟨hj, _, h2⟩ := parts_getD.1 h'
  exact firsts_uniq hi hj (h1.symm.trans h2)
theorem Ix.put {um : List (Couple × Nat)} {l : List Bond} {k j : Nat} (h : Ix um (partsS l) k j) (hk : k < (partsS l).length) (hj : j < (partsS l)[k].length) : Ix (mput um (partsS l)[k][j] k) (partsS l) k (j + 1) := fun i r hi => by
  have hg : (partsS l).getD k [] = (partsS l)[k] := by rw [List.getD_eq_getElem?_getD, List.getElem?_eq_getElem hk]; rfl
  rw [mget_mput]
  split
  · rename_i e; subst e
    have hm : (partsS l)[k][j] ∈ (partsS l).getD k [] := by rw [hg]; exact List.getElem_mem hj
    rcases hi with ⟨h1, h2⟩ | ⟨h1, _⟩
    · exact absurd (parts_disj h2 hm) (by omega)
    · rw [h1]
  · rename_i e
    refine h i r ?_
    rcases hi with hi | ⟨h1, h2⟩
    · exact .inl hi
    · refine .inr ⟨h1, ?_⟩
      rw [hg] at h2 ⊢
      rw [List.take_succ_eq_append_getElem hj] at h2
      rcases List.mem_append.1 h2 with h2 | h2
      · exact h2
      · simp only [List.mem_singleton] at h2; exact absurd h2.symm e
end Go.K

/- The search for prices, row by row: what holds at each step. Plain Lean. -/
set_option linter.unusedVariables false
set_option linter.unusedSimpArgs false
namespace Go.K

/-- Rows 1 .. n have a column each; rows and columns count from 1. -/
structure HI (k : Nat) (c : Nat → Nat → Int) (W : Int) (n : Nat) (u v : Nat → Int) (row : Nat → Nat) : Prop where
  nk : n ≤ k
  rng : ∀ j, 1 ≤ j → j ≤ k → row j ≤ n
  inj : ∀ j j', 1 ≤ j → j ≤ k → 1 ≤ j' → j' ≤ k → row j = row j' → row j ≠ 0 → j = j'
  sur : ∀ r, 1 ≤ r → r ≤ n → ∃ j, 1 ≤ j ∧ j ≤ k ∧ row j = r
  tight : ∀ j, 1 ≤ j → j ≤ k → row j ≠ 0 → u (row j) + v j = c (row j) j
  feas : ∀ r j, 1 ≤ r → r ≤ n → 1 ≤ j → j ≤ k → u r + v j ≤ c r j
  vn : ∀ j, 1 ≤ j → j ≤ k → v j ≤ 0
  vfree : ∀ j, 1 ≤ j → j ≤ k → row j = 0 → v j = 0
  un : ∀ r, n < r → r ≤ k → u r = 0
  u0 : u 0 = 0
  ulb : ∀ r, 1 ≤ r → r ≤ n → -W ≤ u r ∧ u r ≤ 0
  v0 : 0 ≤ v 0 ∧ v 0 ≤ n * W

/-- While row n + 1 looks for a column: what does not turn with the columns that are closed. -/
structure HB (k : Nat) (c : Nat → Nat → Int) (W : Int) (n : Nat) (u v : Nat → Int) (row way : Nat → Nat) (cl : Nat → Bool) (rk : Nat → Nat) (T : Nat) : Prop where
  nk : n < k
  r0 : row 0 = n + 1
  rng : ∀ j, 1 ≤ j → j ≤ k → row j ≤ n
  inj : ∀ j j', 1 ≤ j → j ≤ k → 1 ≤ j' → j' ≤ k → row j = row j' → row j ≠ 0 → j = j'
  sur : ∀ r, 1 ≤ r → r ≤ n → ∃ j, 1 ≤ j ∧ j ≤ k ∧ row j = r
  tight : ∀ j, 1 ≤ j → j ≤ k → row j ≠ 0 → u (row j) + v j = c (row j) j
  feas : ∀ r j, 1 ≤ r → r ≤ n → 1 ≤ j → j ≤ k → u r + v j ≤ c r j
  vn : ∀ j, 1 ≤ j → j ≤ k → v j ≤ 0
  vfree : ∀ j, 1 ≤ j → j ≤ k → row j = 0 → v j = 0
  un : ∀ r, n + 1 < r → r ≤ k → u r = 0
  u0 : u 0 = 0
  ulb : ∀ r, 1 ≤ r → r ≤ n → -W ≤ u r
  v0 : 0 ≤ v 0 + u (n + 1) ∧ v 0 + u (n + 1) ≤ n * W
  c0 : cl 0 = true
  clr : ∀ j, 1 ≤ j → j ≤ k → cl j = true → row j ≠ 0
  wayc : ∀ j, 1 ≤ j → j ≤ k → cl j = true → way j ≤ k ∧ cl (way j) = true ∧ rk (way j) < rk j ∧ u (row (way j)) + v j = c (row (way j)) j
  rkT : ∀ j, j ≤ k → cl j = true → rk j ≤ T

/-- The rows of all closed columns but 'x' are seen. -/
def HP2 (k : Nat) (c : Nat → Nat → Int) (W : Int) (n x : Nat) (u v : Nat → Int) (row way : Nat → Nat) (least : Nat → Int) (cl : Nat → Bool) : Prop :=
  (∀ j, 1 ≤ j → j ≤ k → u (n + 1) + v j ≤ c (n + 1) j) ∧ -W ≤ u (n + 1) ∧
  (∀ a j, a ≤ k → cl a = true → a ≠ x → 1 ≤ j → j ≤ k → cl j = false → least j ≤ c (row a) j - u (row a) - v j) ∧
  (∀ j, 1 ≤ j → j ≤ k → cl j = false → way j ≤ k ∧ cl (way j) = true ∧ least j = c (row (way j)) j - u (row (way j)) - v j)

theorem pigeon : ∀ (m n : Nat) (f : Nat → Nat), (∀ i, i < m → f i < n) → (∀ i i', i < m → i' < m → f i = f i' → i = i') → m ≤ n
  | 0, _, _, _, _ => Nat.zero_le _
  | m + 1, 0, f, h, _ => by have := h 0 (Nat.succ_pos _); omega
  | m + 1, n + 1, f, h, hi => by
    have := pigeon m n (fun i => if f i = n then f m else f i) (fun i hm => by
      have h1 := h i (by omega)
      have h2 := h m (by omega)
      split
      · rename_i e
        have : f m ≠ n := fun e2 => by have := hi i m (by omega) (by omega) (e.trans e2.symm); omega
        omega
      · omega) (fun i i' hm hm' e => by
      split at e <;> split at e
      · rename_i e1 e2; exact hi i i' (by omega) (by omega) (e1.trans e2.symm)
      · have := hi m i' (by omega) (by omega) e; omega
      · have := hi i m (by omega) (by omega) e; omega
      · exact hi i i' (by omega) (by omega) e)
    omega

section
variable {k : Nat} {c : Nat → Nat → Int} {W far : Int} {n at_ T : Nat} {u v u2 v2 : Nat → Int} {row way way2 : Nat → Nat} {least least2 : Nat → Int} {cl : Nat → Bool} {rk : Nat → Nat}

theorem HB.free (h : HB k c W n u v row way cl rk T) : ∃ j, 1 ≤ j ∧ j ≤ k ∧ row j = 0 := by
  apply Classical.byContradiction
  intro hn
  have h1 : ∀ j, 1 ≤ j → j ≤ k → row j ≠ 0 := fun j a b e => hn ⟨j, a, b, e⟩
  have := pigeon k n (fun i => row (i + 1) - 1) (fun i hi => by
    have := h.rng (i + 1) (by omega) (by omega)
    have := h1 (i + 1) (by omega) (by omega)
    omega) (fun i i' hi hi' e => by
    have a1 := h1 (i + 1) (by omega) (by omega)
    have a2 := h1 (i' + 1) (by omega) (by omega)
    have := h.inj (i + 1) (i' + 1) (by omega) (by omega) (by omega) (by omega) (by omega) a1
    omega)
  have := h.nk
  omega
/-- The columns of a way are exchanged, from its end on; the column 'p' is the one that is to get another row. -/
structure HFl (k : Nat) (c : Nat → Nat → Int) (n next : Nat) (u v : Nat → Int) (row : Nat → Nat) (cl : Nat → Bool) (rk : Nat → Nat) (p : Nat) (row' : Nat → Nat) : Prop where
  pk : p ≤ k
  pc : p = next ∨ cl p = true
  f1 : ∀ j j', j ≤ k → j' ≤ k → j ≠ p → j' ≠ p → row' j = row' j' → row' j ≠ 0 → j = j'
  f2 : ∀ r, 1 ≤ r → r ≤ n + 1 → ∃ j, j ≤ k ∧ j ≠ p ∧ row' j = r
  f3 : ∀ j, 1 ≤ j → j ≤ k → j ≠ p → row' j ≠ 0 → u (row' j) + v j = c (row' j) j
  f4 : ∀ a, a ≤ k → cl a = true → (p = next ∨ rk a < rk p) → row' a = row a
  f5 : ∀ j, 1 ≤ j → j ≤ k → j ≠ p → row' j = 0 → row j = 0
  f6 : ∀ j, j ≤ k → row' j ≤ n + 1
theorem HB.done (h : HB k c W n u v row way cl rk T) (hc : ∀ r j, 1 ≤ r → r ≤ k → 1 ≤ j → j ≤ k → -W ≤ c r j ∧ c r j ≤ 0) (hp : HP2 k c W n (k + 1) u v row way least cl) {next : Nat} (hn1 : 1 ≤ next) (hn2 : next ≤ k) (hr : row next = 0) {row' : Nat → Nat}
    (hf : HFl k c n next u v row cl rk 0 row') : HI k c W (n + 1) u v row' := by
  have hnk := h.nk
  have fv := h.vfree next hn1 hn2 hr
  have hfe : ∀ r j, 1 ≤ r → r ≤ n + 1 → 1 ≤ j → j ≤ k → u r + v j ≤ c r j := fun r j h1 h2 h3 h4 => by
    by_cases e : r = n + 1
    · subst e; exact hp.1 j h3 h4
    · exact h.feas r j h1 (by omega) h3 h4
  refine ⟨hnk, fun j _ h2 => hf.f6 j h2, fun j j' h1 h2 h3 h4 e hne => hf.f1 j j' h2 h4 (by omega) (by omega) e hne, fun r h1 h2 => ?_, fun j h1 h2 hne => hf.f3 j h1 h2 (by omega) hne, hfe, h.vn, fun j h1 h2 e => h.vfree j h1 h2 (hf.f5 j h1 h2 (by omega) e), h.un, h.u0, fun r h1 h2 => ⟨?_, ?_⟩, ?_⟩
  · obtain ⟨j, a, b, e⟩ := hf.f2 r h1 h2
    exact ⟨j, by omega, a, e⟩
  · by_cases e : r = n + 1
    · subst e; exact hp.2.1
    · exact h.ulb r h1 (by omega)
  · have := hfe r next h1 h2 hn1 hn2
    have := hc r next h1 (by omega) hn1 hn2
    omega
  · have h1 := h.v0
    have h2 := hp.2.1
    have h3 := hfe (n + 1) next (by omega) (by omega) hn1 hn2
    have h4 := hc (n + 1) next (by omega) (by omega) hn1 hn2
    have e : ((n + 1 : Nat) : Int) * W = n * W + W := by rw [Int.natCast_add, Int.add_mul]; simp
    rw [e]
    omega
theorem HI.start (hW : 0 ≤ W) (k : Nat) (c : Nat → Nat → Int) : HI k c W 0 (fun _ => 0) (fun _ => 0) (fun _ => 0) :=
  ⟨Nat.zero_le _, fun _ _ _ => Nat.le_refl _, fun _ _ _ _ _ _ _ h => absurd rfl h, fun r h1 h2 => by omega, fun _ _ _ h => absurd rfl h, fun r _ h1 h2 => by omega, fun _ _ _ => Int.le_refl _, fun _ _ _ _ => rfl, fun _ _ _ => rfl, rfl, fun r h1 h2 => by omega, by simp⟩
end
end Go.K

/- Choices of edges between two sides: prices that prove them best, beginnings that can go on, columns for rows that need one. Plain Lean. -/
set_option linter.unusedVariables false
set_option linter.unusedSimpArgs false
namespace Go.K

/-! ### Sums -/
def sumN : Nat → (Nat → Int) → Int
  | 0, _ => 0
  | n + 1, g => sumN n g + g n
theorem sumN_congr {g h : Nat → Int} : ∀ {n : Nat}, (∀ i, i < n → g i = h i) → sumN n g = sumN n h
  | 0, _ => rfl
  | n + 1, e => by unfold sumN; rw [sumN_congr (fun i hi => e i (by omega)), e n (by omega)]
theorem sumN_le {g h : Nat → Int} : ∀ {n : Nat}, (∀ i, i < n → g i ≤ h i) → sumN n g ≤ sumN n h
  | 0, _ => Int.le_refl _
  | n + 1, e => by unfold sumN; have := sumN_le (fun i hi => e i (by omega) : ∀ i, i < n → g i ≤ h i); have := e n (by omega); omega
theorem sumN_add (g h : Nat → Int) : ∀ n : Nat, sumN n (fun i => g i + h i) = sumN n g + sumN n h
  | 0 => rfl
  | n + 1 => by show sumN n _ + (g n + h n) = (sumN n g + g n) + (sumN n h + h n); rw [sumN_add g h n]; omega
theorem sumN_sub (g h : Nat → Int) : ∀ n : Nat, sumN n (fun i => g i - h i) = sumN n g - sumN n h
  | 0 => rfl
  | n + 1 => by show sumN n _ + (g n - h n) = (sumN n g + g n) - (sumN n h + h n); rw [sumN_sub g h n]; omega
theorem sumN_zero : ∀ n : Nat, sumN n (fun _ => 0) = 0
  | 0 => rfl
  | n + 1 => by unfold sumN; rw [sumN_zero n]; rfl
theorem sumN_nonneg {g : Nat → Int} {n : Nat} (h : ∀ i, i < n → 0 ≤ g i) : 0 ≤ sumN n g := by
  have := sumN_le (n := n) (g := fun _ => 0) (h := g) h; rwa [sumN_zero] at this
theorem sumN_zero_all {g : Nat → Int} : ∀ {n : Nat}, (∀ i, i < n → 0 ≤ g i) → sumN n g = 0 → ∀ i, i < n → g i = 0
  | 0, _, _, i, hi => by omega
  | n + 1, h, e, i, hi => by
    unfold sumN at e
    have h1 := sumN_nonneg (fun i hi => h i (by omega) : ∀ i, i < n → 0 ≤ g i)
    have h2 := h n (by omega)
    by_cases e1 : i = n
    · subst e1; omega
    · exact sumN_zero_all (fun i hi => h i (by omega) : ∀ i, i < n → 0 ≤ g i) (by omega) i (by omega)
theorem sumN_upd {g h : Nat → Int} {k : Nat} : ∀ {n : Nat}, k < n → (∀ i, i < n → i ≠ k → g i = h i) → sumN n g = sumN n h + (g k - h k)
  | 0, hk, _ => by omega
  | n + 1, hk, e => by
    unfold sumN
    by_cases e1 : k = n
    · subst e1
      rw [sumN_congr (fun i hi => e i (by omega) (by omega) : ∀ i, i < k → g i = h i)]; omega
    · rw [sumN_upd (k := k) (n := n) (by omega) (fun i hi hne => e i (by omega) hne), e n (by omega) (by omega)]; omega

/-! ### Choices -/
/-- A choice: row i has column f i, or none, if that is M. -/
structure Ch (N M : Nat) (wt : Nat → Nat → Int) (f : Nat → Nat) : Prop where
  le : ∀ i, i < N → f i ≤ M
  pos : ∀ i, i < N → f i < M → 0 < wt i (f i)
  inj : ∀ i i', i < N → i' < N → f i < M → f i = f i' → i = i'
def totC (N M : Nat) (wt : Nat → Nat → Int) (f : Nat → Nat) : Int := sumN N fun i => if f i < M then wt i (f i) else 0
/-- A choice that prices leave. -/
structure Tg (N M : Nat) (wt : Nat → Nat → Int) (U V : Nat → Int) (f : Nat → Nat) : Prop where
  le : ∀ i, i < N → f i ≤ M
  inj : ∀ i i', i < N → i' < N → f i < M → f i = f i' → i = i'
  edge : ∀ i, i < N → f i < M → 0 < wt i (f i) ∧ wt i (f i) = U i + V (f i)
  row : ∀ i, i < N → f i = M → U i = 0
  col : ∀ j, j < M → 0 < V j → ∃ i, i < N ∧ f i = j
structure Pr (N M : Nat) (wt : Nat → Nat → Int) (U V : Nat → Int) : Prop where
  u0 : ∀ i, i < N → 0 ≤ U i
  v0 : ∀ j, j < M → 0 ≤ V j
  cov : ∀ i j, i < N → j < M → wt i j ≤ U i + V j
theorem Tg.ch {N M : Nat} {wt : Nat → Nat → Int} {U V : Nat → Int} {f : Nat → Nat} (h : Tg N M wt U V f) : Ch N M wt f := ⟨h.le, fun i h1 h2 => (h.edge i h1 h2).1, h.inj⟩
open Classical in
theorem sum_cov {M : Nat} (V : Nat → Int) (f : Nat → Nat) : ∀ n : Nat, (∀ i i', i < n → i' < n → f i < M → f i = f i' → i = i') →
    sumN M V = sumN M (fun j => if ∃ i, i < n ∧ f i = j then 0 else V j) + sumN n (fun i => if f i < M then V (f i) else 0)
  | 0, _ => by
    show sumN M V = _ + 0
    rw [Int.add_zero]
    exact sumN_congr fun j _ => by rw [if_neg]; rintro ⟨i, hi, _⟩; omega
  | n + 1, h => by
    have ih := sum_cov V f n (fun i i' a b => h i i' (by omega) (by omega))
    show _ = _ + (sumN n _ + (if f n < M then V (f n) else 0))
    rw [ih]
    by_cases hf : f n < M
    · rw [if_pos hf]
      have hno : ¬ ∃ i, i < n ∧ f i = f n := by
        rintro ⟨i, hi, e⟩
        have := h i n (by omega) (by omega) (by omega) e; omega
      have := sumN_upd (g := fun j => if ∃ i, i < n + 1 ∧ f i = j then 0 else V j) (h := fun j => if ∃ i, i < n ∧ f i = j then 0 else V j) (k := f n) hf (fun j hj hne => by
        have : (∃ i, i < n + 1 ∧ f i = j) ↔ ∃ i, i < n ∧ f i = j := ⟨fun ⟨i, hi, e⟩ => ⟨i, by
          rcases Nat.lt_or_eq_of_le (Nat.le_of_lt_succ hi) with h1 | h1
          · exact h1
          · subst h1; exact absurd e.symm hne, e⟩, fun ⟨i, hi, e⟩ => ⟨i, by omega, e⟩⟩
        simp only [this])
      rw [if_pos ⟨n, by omega, rfl⟩, if_neg hno] at this
      omega
    · rw [if_neg hf]
      have : sumN M (fun j => if ∃ i, i < n + 1 ∧ f i = j then 0 else V j) = sumN M (fun j => if ∃ i, i < n ∧ f i = j then 0 else V j) := sumN_congr fun j hj => by
        have : (∃ i, i < n + 1 ∧ f i = j) ↔ ∃ i, i < n ∧ f i = j := ⟨fun ⟨i, hi, e⟩ => ⟨i, by
          rcases Nat.lt_or_eq_of_le (Nat.le_of_lt_succ hi) with h1 | h1
          · exact h1
          · subst h1; omega, e⟩, fun ⟨i, hi, e⟩ => ⟨i, by omega, e⟩⟩
        simp only [this]
      omega
section
variable {N M : Nat} {wt : Nat → Nat → Int} {U V : Nat → Int} {f : Nat → Nat}
open Classical in
theorem Pr.law (h : Pr N M wt U V) (hc : Ch N M wt f) : totC N M wt f ≤ sumN N U + sumN M V ∧ (totC N M wt f = sumN N U + sumN M V ↔ Tg N M wt U V f) := by
  have e1 := sum_cov (M := M) V f N hc.inj
  have e2 : sumN N U = sumN N (fun i => if f i < M then U i + V (f i) - wt i (f i) else U i) - sumN N (fun i => if f i < M then V (f i) else 0) + totC N M wt f := by
    unfold totC
    rw [← sumN_sub, ← sumN_add]
    exact sumN_congr fun i _ => by split <;> omega
  have n1 : ∀ i, i < N → 0 ≤ (if f i < M then U i + V (f i) - wt i (f i) else U i) := fun i hi => by
    split
    · rename_i hf; have := h.cov i (f i) hi hf; omega
    · exact h.u0 i hi
  have n2 : ∀ j, j < M → 0 ≤ (if ∃ i, i < N ∧ f i = j then (0 : Int) else V j) := fun j hj => by
    split
    · exact Int.le_refl _
    · exact h.v0 j hj
  have s1 := sumN_nonneg n1
  have s2 := sumN_nonneg n2
  refine ⟨by omega, fun e => ?_, fun ht => ?_⟩
  · have z1 := sumN_zero_all n1 (by omega)
    have z2 := sumN_zero_all n2 (by omega)
    refine ⟨hc.le, hc.inj, fun i hi hf => ⟨hc.pos i hi hf, ?_⟩, fun i hi hf => ?_, fun j hj hv => ?_⟩
    · have := z1 i hi; rw [if_pos hf] at this; omega
    · have := z1 i hi; rw [if_neg (by omega)] at this; exact this
    · apply Classical.byContradiction
      intro hn
      have := z2 j hj; rw [if_neg hn] at this; omega
  · have z1 : sumN N (fun i => if f i < M then U i + V (f i) - wt i (f i) else U i) = 0 := by
      refine Eq.trans (sumN_congr fun i hi => ?_) (sumN_zero N)
      show (if f i < M then U i + V (f i) - wt i (f i) else U i) = 0
      exact by
        by_cases hf : f i < M
        · rw [if_pos hf]; have := (ht.edge i hi hf).2; omega
        · rw [if_neg hf]; exact ht.row i hi (by have := ht.le i hi; omega)
    have z2 : sumN M (fun j => if ∃ i, i < N ∧ f i = j then (0 : Int) else V j) = 0 := by
      refine Eq.trans (sumN_congr fun j hj => ?_) (sumN_zero M)
      show (if ∃ i, i < N ∧ f i = j then (0 : Int) else V j) = 0
      exact by
        split
        · rfl
        · rename_i hn
          have h0 := h.v0 j hj
          rcases Int.lt_or_eq_of_le h0 with h1 | h1
          · exact absurd (ht.col j hj h1) hn
          · exact h1.symm
    omega
end

/-! ### From the search to prices -/
end Go.K

/- Beginnings of choices that can go on; columns for rows that need one. Plain Lean. -/
set_option linter.unusedVariables false
set_option linter.unusedSimpArgs false
namespace Go.K

/-- Each row that must can have a column of its own. -/
def Cover (n m : Nat) (J : Nat → Nat → Prop) (must : Nat → Prop) : Prop :=
  ∃ g : Nat → Nat, (∀ i, i < n → must i → g i < m ∧ J i (g i)) ∧ ∀ i i', i < n → i' < n → must i → must i' → g i = g i' → i = i'

/-! ### Both sides at once -/
/-! ### A beginning goes on -/
/-- Nothing that is decided is at odds with prices. -/
structure StOK (N M : Nat) (E : Nat → Nat → Prop) (U : Nat → Int) (st : Nat → Int) : Prop where
  unused : ∀ i, i < N → st i = -1 → ¬ 0 < U i
  used : ∀ i, i < N → 0 ≤ st i → st i < M ∧ E i (st i).toNat
  inj : ∀ i i', i < N → i' < N → 0 ≤ st i → st i = st i' → i = i'
/-! ### Columns for rows, one after the other -/
/-- Partners: each column's row, or -1. -/
structure Pt (n m : Nat) (J : Nat → Nat → Prop) (pt : Nat → Int) : Prop where
  ok : ∀ j, j < m → pt j = -1 ∨ 0 ≤ pt j ∧ pt j < n ∧ J (pt j).toNat j
  inj : ∀ j j', j < m → j' < m → pt j = pt j' → pt j ≠ -1 → j = j'
/-- A column was found for row i: what turned. -/
structure Aug (n m : Nat) (J : Nat → Nat → Prop) (pt : Nat → Int) (sn : Nat → Bool) (i : Nat) (pt' : Nat → Int) : Prop where
  ok : ∀ j, j < m → pt' j = -1 ∨ 0 ≤ pt' j ∧ pt' j < n ∧ J (pt' j).toNat j
  new : ∃ j, j < m ∧ sn j = false ∧ pt' j = i
  old : ∀ j, j < m → sn j = true → pt' j = pt j
  inj : ∀ j j', j < m → j' < m → pt' j = pt' j' → pt' j ≠ -1 → j = j' ∨ pt' j = i ∧ (sn j = true ∨ sn j' = true)
  keep : ∀ j, j < m → pt j ≠ -1 → ∃ j', j' < m ∧ pt' j' = pt j
  rows : ∀ j, j < m → pt' j ≠ -1 → pt' j = i ∨ ∃ j', j' < m ∧ pt j' = pt' j
/-- No column was found for row i: what was seen. -/
structure Fail (m : Nat) (J : Nat → Nat → Prop) (pt : Nat → Int) (sn sn' : Nat → Bool) : Prop where
  up : ∀ j, j < m → sn j = true → sn' j = true
  full : ∀ j, j < m → sn' j = true → sn j = false → pt j ≠ -1 ∧ ∀ j', j' < m → J (pt j).toNat j' → sn' j' = true
theorem Fail.refl {m : Nat} {J : Nat → Nat → Prop} {pt : Nat → Int} {sn : Nat → Bool} : Fail m J pt sn sn := ⟨fun _ _ h => h, fun _ _ h1 h2 => by rw [h1] at h2; cases h2⟩
/-- The free column. -/
theorem Aug.free {n m : Nat} {J : Nat → Nat → Prop} {pt pt' : Nat → Int} {sn : Nat → Bool} {i j : Nat} (h : Pt n m J pt) (hs : ∀ k, k < m → pt k = i → sn k = true) (hi : i < n) (hj : j < m) (hsj : sn j = false) (hJ : J i j) (hf : pt j = -1)
    (h1 : pt' j = i) (h2 : ∀ k, k ≠ j → pt' k = pt k) : Aug n m J pt sn i pt' := by
  refine ⟨fun k hk => ?_, ⟨j, hj, hsj, h1⟩, fun k hk hsk => h2 k (fun e => by subst e; rw [hsj] at hsk; cases hsk), fun k k' hk hk' e hne => ?_, fun k hk hne => ?_, fun k hk hne => ?_⟩
  · by_cases e : k = j
    · subst e; rw [h1]; exact .inr ⟨by omega, by omega, by simpa using hJ⟩
    · rw [h2 k e]; exact h.ok k hk
  · by_cases e1 : k = j
    · by_cases e2 : k' = j
      · exact .inl (e1.trans e2.symm)
      · subst e1
        rw [h1, h2 k' e2] at e
        exact .inr ⟨h1, .inr (hs k' hk' e.symm)⟩
    · by_cases e2 : k' = j
      · subst e2
        rw [h1, h2 k e1] at e
        exact .inr ⟨by rw [h2 k e1, e], .inl (hs k hk e)⟩
      · rw [h2 k e1, h2 k' e2] at e
        rw [h2 k e1] at hne
        exact .inl (h.inj k k' hk hk' e hne)
  · exact ⟨k, hk, h2 k (fun e => by subst e; exact hne hf)⟩
  · by_cases e : k = j
    · subst e; exact .inl h1
    · rw [h2 k e]; exact .inr ⟨k, hk, rfl⟩
/-- A column whose row has found another one. -/
theorem Aug.step {n m : Nat} {J : Nat → Nat → Prop} {pt pt1 pt' : Nat → Int} {sn sn1 : Nat → Bool} {i j r : Nat} (h : Pt n m J pt) (hs : ∀ k, k < m → pt k = i → sn k = true) (hi : i < n) (hj : j < m) (hsj : sn j = false) (hJ : J i j) (hr : pt j = r)
    (hsn : ∀ k, k < m → sn k = true → sn1 k = true) (hs1 : sn1 j = true) (ha : Aug n m J pt sn1 r pt1) (h1 : pt' j = i) (h2 : ∀ k, k ≠ j → pt' k = pt1 k) : Aug n m J pt sn i pt' := by
  have hir : (i : Int) ≠ r := fun e => by have := hs j hj (by rw [hr, e]); rw [hsj] at this; cases this
  obtain ⟨jn, n1, n2, n3⟩ := ha.new
  have hjn : jn ≠ j := fun e => by subst e; rw [hs1] at n2; cases n2
  have hcol : ∀ k, k < m → k ≠ j → pt1 k = i → sn k = true := fun k hk hkj e => by
    rcases ha.rows k hk (by omega) with e1 | ⟨k', hk', e1⟩
    · omega
    · have hk1 := hs k' hk' (by omega)
      have := ha.old k' hk' (hsn k' hk' hk1)
      rcases ha.inj k k' hk hk' (by omega) (by omega) with e2 | ⟨e2, _⟩
      · subst e2; exact hk1
      · omega
  refine ⟨fun k hk => ?_, ⟨j, hj, hsj, h1⟩, fun k hk hsk => ?_, fun k k' hk hk' e hne => ?_, fun k hk hne => ?_, fun k hk hne => ?_⟩
  · by_cases e : k = j
    · subst e; rw [h1]; exact .inr ⟨by omega, by omega, by simpa using hJ⟩
    · rw [h2 k e]; exact ha.ok k hk
  · have e : k ≠ j := fun e => by subst e; rw [hsj] at hsk; cases hsk
    rw [h2 k e]; exact ha.old k hk (hsn k hk hsk)
  · by_cases e1 : k = j
    · by_cases e2 : k' = j
      · exact .inl (e1.trans e2.symm)
      · subst e1
        rw [h1, h2 k' e2] at e
        exact .inr ⟨h1, .inr (hcol k' hk' e2 e.symm)⟩
    · by_cases e2 : k' = j
      · subst e2
        rw [h1, h2 k e1] at e
        exact .inr ⟨by rw [h2 k e1, e], .inl (hcol k hk e1 e)⟩
      · rw [h2 k e1, h2 k' e2] at e
        rw [h2 k e1] at hne ⊢
        rcases ha.inj k k' hk hk' e hne with e3 | ⟨e3, e4⟩
        · exact .inl e3
        · -- both bear r: one was seen, so it is j
          exfalso
          rcases e4 with e4 | e4
          · have := ha.old k hk e4
            exact e1 (h.inj k j hk hj (by omega) (by omega))
          · have := ha.old k' hk' e4
            exact e2 (h.inj k' j hk' hj (by omega) (by omega))
  · by_cases e : k = j
    · subst e; exact ⟨jn, n1, by rw [h2 jn hjn, n3, hr]⟩
    · obtain ⟨k', hk', e1⟩ := ha.keep k hk hne
      by_cases e2 : k' = j
      · subst e2
        have := ha.old k' hk' hs1
        exact absurd (h.inj k k' hk hk' (by omega) hne) e
      · exact ⟨k', hk', by rw [h2 k' e2]; exact e1⟩
  · by_cases e : k = j
    · subst e; exact .inl h1
    · rw [h2 k e] at hne ⊢
      rcases ha.rows k hk hne with e1 | e1
      · exact .inr ⟨j, hj, by omega⟩
      · exact .inr e1
/-- The rows that have found a column are those that must, up to here. -/
structure Has (n m : Nat) (J : Nat → Nat → Prop) (must : Nat → Prop) (t : Nat) (pt : Nat → Int) : Prop where
  base : Pt n m J pt
  all : ∀ i, i < t → must i → ∃ j, j < m ∧ pt j = i
  only : ∀ j, j < m → pt j ≠ -1 → must (pt j).toNat ∧ pt j < t
theorem Has.start {n m : Nat} {J : Nat → Nat → Prop} {must : Nat → Prop} {pt : Nat → Int} (h : ∀ j, j < m → pt j = -1) : Has n m J must 0 pt :=
  ⟨⟨fun j hj => .inl (h j hj), fun j j' hj _ _ hne => absurd (h j hj) hne⟩, fun i hi => by omega, fun j hj hne => absurd (h j hj) hne⟩
theorem Has.skip {n m t : Nat} {J : Nat → Nat → Prop} {must : Nat → Prop} {pt : Nat → Int} (h : Has n m J must t pt) (hm : ¬ must t) : Has n m J must (t + 1) pt :=
  ⟨h.base, fun i hi hmi => by
    by_cases e : i = t
    · subst e; exact absurd hmi hm
    · exact h.all i (by omega) hmi, fun j hj hne => ⟨(h.only j hj hne).1, by have := (h.only j hj hne).2; omega⟩⟩
theorem Has.put {n m t : Nat} {J : Nat → Nat → Prop} {must : Nat → Prop} {pt pt' : Nat → Int} {sn : Nat → Bool} (h : Has n m J must t pt) (hm : must t) (ha : Aug n m J pt sn t pt') (hsn : ∀ j, j < m → sn j = false) : Has n m J must (t + 1) pt' := by
  refine ⟨⟨ha.ok, fun j j' hj hj' e hne => ?_⟩, fun i hi hmi => ?_, fun j hj hne => ?_⟩
  · rcases ha.inj j j' hj hj' e hne with e1 | ⟨_, e1⟩
    · exact e1
    · rw [hsn j hj, hsn j' hj'] at e1; rcases e1 with e1 | e1 <;> cases e1
  · by_cases e : i = t
    · subst e; obtain ⟨j, h1, _, h2⟩ := ha.new; exact ⟨j, h1, h2⟩
    · obtain ⟨j, h1, h2⟩ := h.all i (by omega) hmi
      obtain ⟨j', h3, h4⟩ := ha.keep j h1 (by omega)
      exact ⟨j', h3, by omega⟩
  · rcases ha.rows j hj hne with e | ⟨j', h1, h2⟩
    · rw [e]; exact ⟨by simpa using hm, by omega⟩
    · have := h.only j' h1 (by omega)
      rw [h2] at this
      exact ⟨this.1, by omega⟩
theorem Has.none {n m t : Nat} {J : Nat → Nat → Prop} {must : Nat → Prop} {pt : Nat → Int} {sn sn' : Nat → Bool} (h : Has n m J must t pt) (ht : t < n) (hm : must t) (hsn : ∀ j, j < m → sn j = false) (hf : Fail m J pt sn sn') (hr : ∀ j, j < m → J t j → sn' j = true) : ¬ Cover n m J must := by
  rintro ⟨g, g1, g2⟩
  classical
  have hrow : ∀ j, j < m → sn' j = true → 0 ≤ pt j ∧ (pt j).toNat < t ∧ must (pt j).toNat ∧ ∀ j', j' < m → J (pt j).toNat j' → sn' j' = true := fun j hj hs => by
    obtain ⟨a, b⟩ := hf.full j hj hs (hsn j hj)
    have h1 := h.only j hj a
    have h2 := h.base.ok j hj
    exact ⟨by omega, by omega, h1.1, b⟩
  have hg : ∀ j, j < m → sn' j = true → g (pt j).toNat < m ∧ sn' (g (pt j).toNat) = true := fun j hj hs => by
    obtain ⟨a, b, c, d⟩ := hrow j hj hs
    have := g1 _ (by omega) c
    exact ⟨this.1, d _ this.1 this.2⟩
  have ht1 := g1 t ht hm
  have ht2 := hr _ ht1.1 ht1.2
  have := pigeon (m + 1) m (fun j => if j = m then g t else if sn' j = true then g (pt j).toNat else j) (fun j hj => by
    split
    · exact ht1.1
    · split
      · exact (hg j (by omega) (by assumption)).1
      · omega) (fun j j' hj hj' e => by
    have sep : ∀ k k', k < m → k' < m → sn' k = true → ¬ sn' k' = true → g (pt k).toNat ≠ k' := fun k k' hk hk' h1 h2 e => h2 (by rw [← e]; exact (hg k hk h1).2)
    have same : ∀ k k', k < m → k' < m → sn' k = true → sn' k' = true → g (pt k).toNat = g (pt k').toNat → k = k' := fun k k' hk hk' h1 h2 e => by
      obtain ⟨a1, a2, a3, _⟩ := hrow k hk h1
      obtain ⟨b1, b2, b3, _⟩ := hrow k' hk' h2
      have := g2 _ _ (by omega) (by omega) a3 b3 e
      exact h.base.inj k k' hk hk' (by omega) (by omega)
    have top : ∀ k, k < m → sn' k = true → g t ≠ g (pt k).toNat := fun k hk h1 e => by
      obtain ⟨a1, a2, a3, _⟩ := hrow k hk h1
      have := g2 _ _ ht (by omega) hm a3 e; omega
    by_cases e1 : j = m
    · by_cases e2 : j' = m
      · omega
      · rw [if_pos e1, if_neg e2] at e
        split at e
        · exact absurd e (top j' (by omega) (by assumption))
        · rename_i hs; exact absurd (by rw [← e]; exact ht2) hs
    · rw [if_neg e1] at e
      by_cases e2 : j' = m
      · rw [if_pos e2] at e
        split at e
        · exact absurd e.symm (top j (by omega) (by assumption))
        · rename_i hs; exact absurd (by rw [e]; exact ht2) hs
      · rw [if_neg e2] at e
        split at e
        · split at e
          · exact same j j' (by omega) (by omega) (by assumption) (by assumption) e
          · exact absurd e (sep j j' (by omega) (by omega) (by assumption) (by assumption))
        · split at e
          · exact absurd e.symm (sep j' j (by omega) (by omega) (by assumption) (by assumption))
          · exact e)
  omega
end Go.K

/- What the loops of package tight keep. Plain Lean, and what reads as an edge. -/
set_option linter.unusedVariables false
set_option linter.unusedSimpArgs false
namespace Go.K
open Rep
theorem getD_in {α : Type} {l : List α} {i : Nat} {d : α} (h : i < l.length) : l.getD i d = l[i] := by rw [List.getD_eq_getElem?_getD, List.getElem?_eq_getElem h]; rfl
abbrev gI (l : List Int) : Nat → Int := fun j => l.getD j 0
section
variable {P : Program} {N : Nat} {env : Env} {w : World} {x y : Operand} {t u : TypeId} {m n : Int}
end

/-- What one column would cost. -/
def dS (c : Nat → Nat → Int) (u v : Nat → Int) (i q : Nat) : Int := c i q - u i - v q
def lS1 (c : Nat → Nat → Int) (u v least : Nat → Int) (i q : Nat) : Int := if dS c u v i q < least q then dS c u v i q else least q
/-- The columns before j are relaxed. -/
structure RL1 (c : Nat → Nat → Int) (u v : Nat → Int) (cl : Nat → Bool) (least : Nat → Int) (way : Nat → Nat) (i a k j : Nat) (least' : Nat → Int) (way' : Nat → Nat) : Prop where
  l : ∀ q, 1 ≤ q → q ≤ k → cl q = false → least' q = if q < j then lS1 c u v least i q else least q
  w : ∀ q, 1 ≤ q → q ≤ k → cl q = false → way' q = if q < j then (if dS c u v i q < least q then a else way q) else way q
  wc : ∀ q, 1 ≤ q → q ≤ k → cl q = true → way' q = way q
/-- The least of them. -/
def RLD (cl : Nat → Bool) (l1 : Nat → Int) (far : Int) (j : Nat) (delta : Int) (next : Nat) : Prop :=
  (next = 0 ∧ delta = far ∧ ∀ q, 1 ≤ q → q < j → cl q = true) ∨ (1 ≤ next ∧ next < j ∧ cl next = false ∧ delta = l1 next ∧ ∀ q, 1 ≤ q → q < j → cl q = false → delta ≤ l1 q)
section
variable {c : Nat → Nat → Int} {u v : Nat → Int} {cl : Nat → Bool} {least least' least2 : Nat → Int} {way way' way2 : Nat → Nat} {i a k j : Nat} {l1 : Nat → Int} {far delta : Int} {next : Nat}
theorem RL1.start : RL1 c u v cl least way i a k 1 least way := ⟨fun q h1 _ _ => by rw [if_neg (by omega)], fun q h1 _ _ => by rw [if_neg (by omega)], fun _ _ _ _ => rfl⟩
theorem RL1.skip (h : RL1 c u v cl least way i a k j least' way') (hc : cl j = true) : RL1 c u v cl least way i a k (j + 1) least' way' :=
  have e : ∀ q, cl q = false → (q < j + 1 ↔ q < j) := fun q hq => ⟨fun h => by
    rcases Nat.lt_or_eq_of_le (Nat.le_of_lt_succ h) with h1 | h1
    · exact h1
    · subst h1; exact absurd (hc.symm.trans hq) (by decide), fun h => by omega⟩
  ⟨fun q h1 h2 h3 => by simp only [e q h3]; exact h.l q h1 h2 h3, fun q h1 h2 h3 => by simp only [e q h3]; exact h.w q h1 h2 h3, h.wc⟩
theorem RL1.cur (h : RL1 c u v cl least way i a k j least' way') (h1 : 1 ≤ j) (h2 : j ≤ k) (hc : cl j = false) : least' j = least j := by have := h.l j h1 h2 hc; rwa [if_neg (by omega)] at this
theorem RL1.no (h : RL1 c u v cl least way i a k j least' way') (hlt : ¬ dS c u v i j < least j) : RL1 c u v cl least way i a k (j + 1) least' way' := by
  refine ⟨fun q h1 h2 h3 => ?_, fun q h1 h2 h3 => ?_, h.wc⟩
  · rw [h.l q h1 h2 h3]
    by_cases e : j = q
    · subst e; rw [if_neg (by omega), if_pos (by omega)]; unfold lS1; rw [if_neg hlt]
    · simp only [show (q < j + 1) = (q < j) from propext (by omega)]
  · rw [h.w q h1 h2 h3]
    by_cases e : j = q
    · subst e; rw [if_neg (by omega), if_pos (by omega), if_neg hlt]
    · simp only [show (q < j + 1) = (q < j) from propext (by omega)]
theorem RLD.start : RLD cl l1 far 1 far 0 := .inl ⟨rfl, rfl, fun q h1 h2 => by omega⟩
theorem RLD.skip (h : RLD cl l1 far j delta next) (hc : cl j = true) : RLD cl l1 far (j + 1) delta next := by
  rcases h with ⟨h1, h2, h3⟩ | ⟨h1, h2, h3, h4, h5⟩
  · refine .inl ⟨h1, h2, fun q a b => ?_⟩
    by_cases e : q = j
    · subst e; exact hc
    · exact h3 q a (by omega)
  · refine .inr ⟨h1, by omega, h3, h4, fun q a b c => ?_⟩
    by_cases e : q = j
    · subst e; rw [hc] at c; cases c
    · exact h5 q a (by omega) c
theorem RLD.take (h : RLD cl l1 far j delta next) (hj : 1 ≤ j) (hc : cl j = false) (hlt : l1 j < delta) : RLD cl l1 far (j + 1) (l1 j) j := by
  refine .inr ⟨hj, by omega, hc, rfl, fun q a b c => ?_⟩
  by_cases e : q = j
  · subst e; exact Int.le_refl _
  · rcases h with ⟨h1, h2, h3⟩ | ⟨h1, h2, h3, h4, h5⟩
    · have := h3 q a (by omega); rw [this] at c; cases c
    · have := h5 q a (by omega) c; omega
theorem RLD.no (h : RLD cl l1 far j delta next) (hj : 1 ≤ j) (hc : cl j = false) (hlt : ¬ l1 j < delta) (hfar : l1 j < far) : RLD cl l1 far (j + 1) delta next := by
  rcases h with ⟨h1, h2, h3⟩ | ⟨h1, h2, h3, h4, h5⟩
  · omega
  · refine .inr ⟨h1, by omega, h3, h4, fun q a b c => ?_⟩
    by_cases e : q = j
    · subst e; omega
    · exact h5 q a (by omega) c
/-- The prices before column j are shifted. -/
structure RL2 (row : Nat → Nat) (cl : Nat → Bool) (delta : Int) (k : Nat) (u v l : Nat → Int) (j : Nat) (u' v' l' : Nat → Int) : Prop where
  u1 : ∀ q, q ≤ k → q < j → cl q = true → u' (row q) = u (row q) + delta
  u2 : ∀ r, (∀ q, q ≤ k → q < j → cl q = true → row q ≠ r) → u' r = u r
  v1 : ∀ q, q ≤ k → cl q = true → v' q = if q < j then v q - delta else v q
  v2 : ∀ q, q ≤ k → cl q = false → v' q = v q
  l1 : ∀ q, q ≤ k → cl q = false → l' q = if q < j then l q - delta else l q
variable {row : Nat → Nat} {u' v' u2 v2 l l' l2 : Nat → Int}
theorem RL2.start : RL2 row cl delta k u v l 0 u v l := ⟨fun q _ h => by omega, fun _ _ => rfl, fun q _ _ => by rw [if_neg (by omega)], fun _ _ _ => rfl, fun q _ _ => by rw [if_neg (by omega)]⟩
theorem RL2.op (h : RL2 row cl delta k u v l j u' v' l') (hc : cl j = false) (e1 : ∀ q, l2 q = if j = q then l' j - delta else l' q) (hj : j ≤ k) : RL2 row cl delta k u v l (j + 1) u' v' l2 := by
  have lt : ∀ q, cl q = true → (q < j + 1) = (q < j) := fun q hq => propext ⟨fun h => by
    rcases Nat.lt_or_eq_of_le (Nat.le_of_lt_succ h) with h1 | h1
    · exact h1
    · subst h1; exact absurd (hc.symm.trans hq) (by decide), fun h => by omega⟩
  refine ⟨fun q h1 h2 h3 => h.u1 q h1 (by rwa [lt q h3] at h2) h3, fun r hr => h.u2 r (fun q a b c => hr q a (by omega) c), fun q h1 h3 => ?_, h.v2, fun q h1 h3 => ?_⟩
  · rw [h.v1 q h1 h3]; simp only [lt q h3]
  · rw [e1]
    have := h.l1 q h1 h3
    by_cases e : j = q
    · subst e; rw [if_pos rfl, if_pos (by omega)]; rw [if_neg (by omega)] at this; omega
    · rw [if_neg e, this]; simp only [show (q < j + 1) = (q < j) from propext (by omega)]
end
/-! ### Edges -/
structure Edge where
  a : Int
  b : Int
  w : Int
  deriving DecidableEq
instance : Rep Edge := Rep.via (fun x : Edge => (x.a, (x.b, x.w)))
instance : Inhabited Edge := ⟨⟨0, 0, 0⟩⟩
section
variable {w : World} {M : Nat → Prop} {b o : Nat} {v : Value}
end
end Go.K

/- A region in which several operations make something new, in whatever order. -/
set_option linter.unusedVariables false
set_option linter.unusedSimpArgs false
namespace Go.K
open Rep

/-- Operations that make something: the operation's number, its slot, itself, and what is known of what it made. -/
structure Mk where
  i : Nat
  t : Nat
  op : Op
  F : Value → World → (Nat → Nat) → Prop
section
variable {P : Program} {ops : Array Oper} {Q : Exit → Act → World → Prop}
end

/-- What is behind two ways is walked once. -/
theorem run_join {P : Program} {f : FuncId} {N : Nat} {k k' : List Item} {env : Env} {w : World} {R : Value → World → Prop} {ι : Type} (I : ι → World → Prop) (e : ι → Env)
    (hr : ∀ x w, I x w → Run P f N k (e x) w R) (hm : (∀ x w, I x w → Run P f N k (e x) w R) → Run P f N k' env w R) : Run P f N k' env w R := hm hr
end Go.K

/- Graphs of package tight: what reads as one, and what their weights and prices are. -/
set_option linter.unusedVariables false
set_option linter.unusedSimpArgs false
namespace Go.K
open Rep
structure Gr where
  n : Int
  m : Int
  U : List Int
  V : List Int
  tot : Int
  edge : List (List Bool)
instance : Rep Gr := Rep.via (fun x : Gr => (x.n, (x.m, (x.U, (x.V, (x.tot, x.edge))))))
section
variable {w w' w₀ : World} {M : Nat → Prop} {b o : Nat} {v : Value} {x : Gr}
theorem RA.gn (h : RA w M x b o) : RA w M x.n b o := RA.fst (p := (x.n, (x.m, (x.U, (x.V, (x.tot, x.edge)))))) h
theorem RA.g1 (h : RA w M x b o) : RA w M (x.m, (x.U, (x.V, (x.tot, x.edge)))) b (o + 1) := RA.snd (p := (x.n, (x.m, (x.U, (x.V, (x.tot, x.edge)))))) h
theorem RA.gm (h : RA w M x b o) : RA w M x.m b (o + 1) := RA.fst h.g1
end
/-! ### Padded weights -/
def pos (wt : Nat → Nat → Int) (i j : Nat) : Int := max (wt i j) 0
section
variable {n m : Nat} {wt : Nat → Nat → Int} {W : Int}
/-- A graph of weights and prices. -/
def edgeB (wt : Nat → Nat → Int) (U V : Nat → Int) (i j : Nat) : Bool := decide (0 < pos wt i j ∧ pos wt i j = U i + V j)
structure GrIs (n m : Nat) (wt : Nat → Nat → Int) (U V : Nat → Int) (g : Gr) : Prop where
  gn : g.n = n
  gm : g.m = m
  Ul : g.U.length = n
  Vl : g.V.length = m
  Ug : ∀ i, i < n → gI g.U i = U i
  Vg : ∀ j, j < m → gI g.V j = V j
  tot : g.tot = sumN n U + sumN m V
  edl : g.edge.length = n
  edm : ∀ r ∈ g.edge, r.length = m
  ed : ∀ i j, i < n → j < m → (g.edge.getD i []).getD j false = edgeB wt U V i j
  pr : Pr n m (pos wt) U V
  ex : ∃ f, Tg n m (pos wt) U V f
end
end Go.K

/- Arrays: an element's address. -/
set_option linter.unusedVariables false
set_option linter.unusedSimpArgs false
namespace Go.K
open Rep
section
variable {P : Program} {N : Nat} {env : Env} {y z : Operand} {t e : TypeId} {b o o' n len : Nat} {k : IntKind} {i : Int} {w : World}
theorem val_indexArr (hu : P.underlying t = some (.array len e)) (hn : szB P e = some n) (hy : ev env y = some (.pointer (some ⟨b, o, none⟩))) (hz : ev env z = some (.int k i))
    (h0 : 0 ≤ i) (h1 : i < len) (ho' : o' = o + i.toNat * n) : Val P N env (.indexAddr t y z) w (.pointer (some ⟨b, o', none⟩)) := mk' fun ρ hρ oo ho => by
  subst ho'
  unfold execOp; rw [ho]
  simp only [hρ _ _ hy, hρ _ _ hz]
  simp [go_sem, Instr.indexAt, run_underlying hu, asIntOf, run_sizeOfB hn, h0, h1, addr_add, Instr.sureAddr]
end
end Go.K

/- Stable sorting, seen as a change of places. Plain Lean. -/
set_option linter.unusedVariables false
set_option linter.unusedSimpArgs false
namespace Go.K
open Rep
section
variable {α : Type} {ys zs us : List α} {σ τ : Nat → Nat} {a b i j n : Nat}
/-- The list's elements stand in other places. -/
structure PL (ys : List α) (σ : Nat → Nat) (zs : List α) : Prop where
  len : zs.length = ys.length
  at_ : ∀ i, i < ys.length → σ i < ys.length ∧ zs[i]? = ys[σ i]?
theorem PL.id (ys : List α) : PL ys (fun i => i) ys := ⟨rfl, fun i h => ⟨h, rfl⟩⟩
theorem PL.get (h : PL ys σ zs) (hi : i < ys.length) : zs[i]'(by rw [h.len]; exact hi) = ys[σ i]'(h.at_ i hi).1 := by
  have := (h.at_ i hi).2
  rw [List.getElem?_eq_getElem (by rw [h.len]; exact hi), List.getElem?_eq_getElem (h.at_ i hi).1] at this
  exact Option.some.inj this
def swF (σ : Nat → Nat) (i j : Nat) : Nat → Nat := fun k => if k = i then σ j else if k = j then σ i else σ k
theorem PL.swap (h : PL ys σ zs) (hi : i < ys.length) (hj : j < ys.length) {x y : α} (hx : x = zs[j]'(by rw [h.len]; exact hj)) (hy : y = zs[i]'(by rw [h.len]; exact hi)) : PL ys (swF σ i j) ((zs.set i x).set j y) := by
  subst hx hy
  have hl := h.len
  refine ⟨by simp [h.len], fun k hk => ?_⟩
  have hki := h.at_ i hi; have hkj := h.at_ j hj; have hkk := h.at_ k hk
  unfold swF
  rw [List.getElem?_set, List.getElem?_set]
  by_cases e1 : k = i
  · subst e1
    rw [if_pos rfl]
    refine ⟨hkj.1, ?_⟩
    by_cases e2 : j = k
    · subst e2; simp [hl, hk, ← hkk.2, List.getElem?_eq_getElem (show j < zs.length by omega)]
    · rw [if_neg e2]
      simp [hl, hk, ← hkj.2, List.getElem?_eq_getElem (show j < zs.length by omega)]
  · rw [if_neg e1]
    by_cases e2 : k = j
    · subst e2
      rw [if_pos rfl]
      refine ⟨hki.1, ?_⟩
      simp [hl, hk, ← hki.2, List.getElem?_eq_getElem (show i < zs.length by omega)]
    · rw [if_neg e2]
      refine ⟨hkk.1, ?_⟩
      simp [Ne.symm e1, Ne.symm e2, hkk.2]
/-- σ changes places between a and b alone. -/
structure Within (σ : Nat → Nat) (a b : Nat) : Prop where
  out : ∀ i, ¬ (a ≤ i ∧ i < b) → σ i = i
  in_ : ∀ i, a ≤ i → i < b → a ≤ σ i ∧ σ i < b
  inj : ∀ i j, σ i = σ j → i = j
theorem Within.id (a b : Nat) : Within (fun i => i) a b := ⟨fun _ _ => rfl, fun _ h1 h2 => ⟨h1, h2⟩, fun _ _ h => h⟩
theorem Within.swap (h : Within σ a b) (hi : a ≤ i ∧ i < b) (hj : a ≤ j ∧ j < b) : Within (swF σ i j) a b := by
  refine ⟨fun k hk => ?_, fun k h1 h2 => ?_, fun k k' e => ?_⟩
  · unfold swF; rw [if_neg (by intro e; subst e; exact hk hi), if_neg (by intro e; subst e; exact hk hj)]; exact h.out k hk
  · unfold swF; split
    · exact h.in_ j hj.1 hj.2
    · split
      · exact h.in_ i hi.1 hi.2
      · exact h.in_ k h1 h2
  · unfold swF at e
    by_cases e1 : k = i
    · by_cases e2 : k' = i
      · omega
      · rw [if_pos e1, if_neg e2] at e
        by_cases e3 : k' = j
        · rw [if_pos e3] at e; have := h.inj _ _ e; omega
        · rw [if_neg e3] at e; have := h.inj _ _ e; omega
    · rw [if_neg e1] at e
      by_cases e4 : k = j
      · rw [if_pos e4] at e
        by_cases e2 : k' = i
        · rw [if_pos e2] at e; have := h.inj _ _ e; omega
        · rw [if_neg e2] at e
          by_cases e3 : k' = j
          · omega
          · rw [if_neg e3] at e; have := h.inj _ _ e; omega
      · rw [if_neg e4] at e
        by_cases e2 : k' = i
        · rw [if_pos e2] at e; have := h.inj _ _ e; omega
        · rw [if_neg e2] at e
          by_cases e3 : k' = j
          · rw [if_pos e3] at e; have := h.inj _ _ e; omega
          · rw [if_neg e3] at e; exact h.inj _ _ e
theorem Within.mono {a' b' : Nat} (h : Within σ a b) (ha : a' ≤ a) (hb : b ≤ b') : Within σ a' b' := ⟨fun i hi => h.out i (fun e => hi ⟨by omega, by omega⟩), fun i h1 h2 => by
  by_cases e : a ≤ i ∧ i < b
  · have := h.in_ i e.1 e.2; omega
  · rw [h.out i e]; exact ⟨h1, h2⟩, h.inj⟩
/-- The places between a and b ascend by the order T. -/
def Asc (T : Nat → Nat → Prop) (σ : Nat → Nat) (a b : Nat) : Prop := ∀ i j, a ≤ i → i < j → j < b → T (σ i) (σ j)
/-- What a comparison makes of places: by what it answers, and by the places themselves. -/
def ordT (c : α → α → Int) (ys : List α) (i j : Nat) : Prop := ∃ (hi : i < ys.length) (hj : j < ys.length), c ys[i] ys[j] < 0 ∨ c ys[i] ys[j] = 0 ∧ i < j
/-- The comparison orders the elements, up to such as it takes for equal. -/
structure Cmp3 (c : α → α → Int) (P : α → Prop) : Prop where
  anti : ∀ x y, P x → P y → (c x y < 0 ↔ 0 < c y x)
  trans : ∀ x y z, P x → P y → P z → c x y ≤ 0 → c y z ≤ 0 → c x z ≤ 0
theorem Cmp3.eq {c : α → α → Int} {P : α → Prop} (h : Cmp3 c P) {x y : α} (hx : P x) (hy : P y) : c x y = 0 ↔ c y x = 0 := by
  have h1 := h.anti x y hx hy; have h2 := h.anti y x hy hx; omega
theorem Cmp3.lt_le {c : α → α → Int} {P : α → Prop} (h : Cmp3 c P) {x y z : α} (hx : P x) (hy : P y) (hz : P z) (h1 : c x y < 0) (h2 : c y z ≤ 0) : c x z < 0 := by
  have h3 := h.trans x y z hx hy hz (by omega) h2
  have h4 := h.anti x y hx hy
  apply Classical.byContradiction
  intro hn
  have e : c x z = 0 := by omega
  have e2 := (h.eq hx hz).1 e
  have := h.trans y z x hy hz hx h2 (by omega)
  omega
theorem Cmp3.le_lt {c : α → α → Int} {P : α → Prop} (h : Cmp3 c P) {x y z : α} (hx : P x) (hy : P y) (hz : P z) (h1 : c x y ≤ 0) (h2 : c y z < 0) : c x z < 0 := by
  have h3 := h.trans x y z hx hy hz h1 (by omega)
  have h4 := h.anti y z hy hz
  apply Classical.byContradiction
  intro hn
  have e : c x z = 0 := by omega
  have e2 := (h.eq hx hz).1 e
  have := h.trans z x y hz hx hy (by omega) h1
  omega
theorem ordT_trans {c : α → α → Int} {P : α → Prop} (h : Cmp3 c P) (hP : ∀ x ∈ ys, P x) {i j k : Nat} (h1 : ordT c ys i j) (h2 : ordT c ys j k) : ordT c ys i k := by
  obtain ⟨hi, hj, h1⟩ := h1
  obtain ⟨_, hk, h2⟩ := h2
  have p1 := hP _ (List.getElem_mem hi); have p2 := hP _ (List.getElem_mem hj); have p3 := hP _ (List.getElem_mem hk)
  refine ⟨hi, hk, ?_⟩
  rcases h1 with h1 | ⟨h1, e1⟩
  · exact .inl (h.lt_le p1 p2 p3 h1 (by rcases h2 with h2 | h2 <;> omega))
  · rcases h2 with h2 | ⟨h2, e2⟩
    · exact .inl (h.le_lt p1 p2 p3 (by omega) h2)
    · refine .inr ⟨?_, by omega⟩
      have a := h.trans _ _ _ p1 p2 p3 (by omega) (by omega)
      have b := h.trans _ _ _ p3 p2 p1 (by rw [(h.eq p3 p2).2 h2]; omega) (by rw [(h.eq p2 p1).2 h1]; omega)
      have := h.anti _ _ p1 p3; have := h.anti _ _ p3 p1
      omega
theorem ordT_total {c : α → α → Int} {P : α → Prop} (h : Cmp3 c P) (hP : ∀ x ∈ ys, P x) {i j : Nat} (hi : i < ys.length) (hj : j < ys.length) (hne : i ≠ j) : ordT c ys i j ∨ ordT c ys j i := by
  have p1 := hP _ (List.getElem_mem hi); have p2 := hP _ (List.getElem_mem hj)
  have h1 := h.anti _ _ p1 p2; have h2 := h.anti _ _ p2 p1
  by_cases e1 : c ys[i] ys[j] < 0
  · exact .inl ⟨hi, hj, .inl e1⟩
  · by_cases e2 : c ys[j] ys[i] < 0
    · exact .inr ⟨hj, hi, .inl e2⟩
    · have e3 : c ys[i] ys[j] = 0 := by omega
      have e4 : c ys[j] ys[i] = 0 := by omega
      rcases Nat.lt_or_gt_of_ne hne with h | h
      · exact .inl ⟨hi, hj, .inr ⟨e3, h⟩⟩
      · exact .inr ⟨hj, hi, .inr ⟨e4, h⟩⟩
theorem ordT_asym {c : α → α → Int} {P : α → Prop} (h : Cmp3 c P) (hP : ∀ x ∈ ys, P x) {i j : Nat} (h1 : ordT c ys i j) (h2 : ordT c ys j i) : False := by
  obtain ⟨hi, hj, h1⟩ := h1
  obtain ⟨_, _, h2⟩ := h2
  have p1 := hP _ (List.getElem_mem hi); have p2 := hP _ (List.getElem_mem hj)
  have := h.anti _ _ p1 p2; have := h.anti _ _ p2 p1
  rcases h1 with h1 | h1 <;> rcases h2 with h2 | h2 <;> omega
/-- Where the later place stands first in the text, the comparison's answer is the order. -/
theorem ordT_lt {c : α → α → Int} {P : α → Prop} (h : Cmp3 c P) (hP : ∀ x ∈ ys, P x) {i j : Nat} (hi : i < ys.length) (hj : j < ys.length) (hij : i < j) : ordT c ys j i ↔ c ys[j] ys[i] < 0 := by
  constructor
  · rintro ⟨_, _, h1 | h1⟩
    · exact h1
    · omega
  · intro h1; exact ⟨hj, hi, .inl h1⟩
/-! ### Insertion -/
/-- In the round of i, the element of i stands at j: places before it ascend, and it comes before those behind it. -/
structure InsI (c : α → α → Int) (ys : List α) (σ : Nat → Nat) (a i j : Nat) : Prop where
  within : Within σ a (i + 1)
  le : a ≤ j ∧ j ≤ i
  me : σ j = i
  asc : ∀ p q, a ≤ p → p < q → q ≤ i → p ≠ j → q ≠ j → ordT c ys (σ p) (σ q)
  aft : ∀ q, j < q → q ≤ i → ordT c ys i (σ q)
theorem InsI.start {c : α → α → Int} (h : Within σ a i) (ha : a ≤ i) (hs : Asc (ordT c ys) σ a i) : InsI c ys σ a i i :=
  ⟨h.mono (Nat.le_refl _) (by omega), ⟨ha, Nat.le_refl _⟩, h.out i (by omega), fun p q h1 h2 h3 h4 h5 => hs p q h1 h2 (by omega), fun q h1 h2 => by omega⟩
theorem InsI.step {c : α → α → Int} (h : InsI c ys σ a i j) (hj : a < j) (hlt : ordT c ys i (σ (j - 1))) : InsI c ys (swF σ j (j - 1)) a i (j - 1) := by
  have e0 : swF σ j (j - 1) (j - 1) = i := by unfold swF; rw [if_neg (by omega), if_pos rfl]; exact h.me
  have e1 : swF σ j (j - 1) j = σ (j - 1) := by unfold swF; rw [if_pos rfl]
  have e2 : ∀ k, k ≠ j → k ≠ j - 1 → swF σ j (j - 1) k = σ k := fun k h1 h2 => by unfold swF; rw [if_neg h1, if_neg h2]
  have hle := h.le
  refine ⟨h.within.swap ⟨by omega, by omega⟩ ⟨by omega, by omega⟩, ⟨by omega, by omega⟩, e0, fun p q h1 h2 h3 h4 h5 => ?_, fun q h1 h2 => ?_⟩
  · by_cases ep : p = j
    · subst ep; rw [e1, e2 q (by omega) (by omega)]; exact h.asc (p - 1) q (by omega) (by omega) h3 (by omega) (by omega)
    · by_cases eq : q = j
      · subst eq; rw [e1, e2 p (by omega) (by omega)]; exact h.asc p (q - 1) h1 (by omega) (by omega) (by omega) (by omega)
      · rw [e2 p ep h4, e2 q eq h5]; exact h.asc p q h1 h2 h3 ep eq
  · by_cases eq : q = j
    · subst eq; rw [e1]; exact hlt
    · rw [e2 q eq (by omega)]; exact h.aft q (by omega) h2
theorem InsI.done {c : α → α → Int} {P : α → Prop} (hc : Cmp3 c P) (hP : ∀ x ∈ ys, P x) (h : InsI c ys σ a i j) (hi : i < ys.length) (hj : j = a ∨ ¬ ordT c ys i (σ (j - 1))) : Within σ a (i + 1) ∧ Asc (ordT c ys) σ a (i + 1) := by
  have hle := h.le
  refine ⟨h.within, fun p q h1 h2 h3 => ?_⟩
  by_cases ep : p = j
  · subst ep; rw [h.me]; exact h.aft q h2 (by omega)
  · by_cases eq : q = j
    · subst eq
      rw [h.me]
      rcases hj with hj | hj
      · omega
      · have hw := h.within.in_ (q - 1) (by omega) (by omega)
        have hne : σ (q - 1) ≠ i := fun e => by have := h.within.inj (q - 1) q (by rw [e, h.me]); omega
        have hl : ordT c ys (σ (q - 1)) i := (ordT_total hc hP (by omega) hi hne).resolve_right hj
        by_cases e : p = q - 1
        · rw [e]; exact hl
        · exact ordT_trans hc hP (h.asc p (q - 1) h1 (by omega) (by omega) (by omega) (by omega)) hl
    · exact h.asc p q h1 h2 (by omega) ep eq
end
end Go.K

/- Drawn regions whose orders branch: a tree of orders. -/
set_option linter.unusedVariables false
set_option linter.unusedSimpArgs false
namespace Go.K
open Rep
/-- The orders that may come up: operations of `A` only yield; behind them one operation, or one of two. -/
inductive Tr where
  | run (L : List (Nat × Bool))
  | one (A : List Nat) (i : Nat) (t : Tr)
  | fork (A : List Nat) (i : Nat) (t : Tr) (i' : Nat) (t' : Tr)
  | fork3 (A : List Nat) (i : Nat) (t : Tr) (i' : Nat) (t' : Tr) (i2 : Nat) (t2 : Tr)
/-- As Q, but for the end, which is K. -/
def QT (Q : Exit → Act → World → Prop) (K : Act → World → Prop) : Exit → Act → World → Prop
  | .normal, a, w => K a w
  | e, a, w => Q e a w
def GoT (P : Program) (ops : Array Oper) (S : World → Prop) (Q : Exit → Act → World → Prop) : Tr → Act → World → Prop
  | .run L, a, w => GoL P ops S Q L a w
  | .one A i t, a, w => GoL P ops S (QT Q fun a w => wpOp P ops Q i (fun a' w' => S w' ∧ GoT P ops S Q t a' w') a w) (A.map fun j => (j, true)) a w
  | .fork A i t i' t', a, w => GoL P ops S (QT Q fun a w => wpOp P ops Q i (fun a' w' => S w' ∧ GoT P ops S Q t a' w') a w ∧ wpOp P ops Q i' (fun a' w' => S w' ∧ GoT P ops S Q t' a' w') a w) (A.map fun j => (j, true)) a w
  | .fork3 A i t i' t' i2 t2, a, w => GoL P ops S (QT Q fun a w => wpOp P ops Q i (fun a' w' => S w' ∧ GoT P ops S Q t a' w') a w ∧ wpOp P ops Q i' (fun a' w' => S w' ∧ GoT P ops S Q t' a' w') a w ∧ wpOp P ops Q i2 (fun a' w' => S w' ∧ GoT P ops S Q t2 a' w') a w) (A.map fun j => (j, true)) a w
/-- Yields, one by one, behind which `k` is asked. -/
def chkY (ops : Array Oper) (jb : Nat) (k : Nat → Array Bool → Bool) : Nat → Array Bool → List Nat → Bool
  | n, listed, [] => k n listed
  | 0, _, _ :: _ => false
  | n + 1, listed, j :: A => !Nat.beq j jb && (Nat.ble ops.size jb || needs ops 8 jb j) && Region.free .any ops listed j && (Region.ready .any ops listed).contains j && chkY ops jb k n (listed.setIfInBounds j true) A
def chkT (ops : Array Oper) (jb : Nat) : Tr → Nat → Array Bool → Bool
  | .run L, n, listed => chkB ops jb n listed L
  | .one A i t, n, listed => chkY ops jb (fun n l => match n with | 0 => false | n + 1 => (Region.ready .any ops l == [i]) && chkT ops jb t n (l.setIfInBounds i true)) n listed A
  | .fork A i t i' t', n, listed => chkY ops jb (fun n l => match n with
    | 0 => false
    | n + 1 => ((Region.ready .any ops l == [i, i']) || (Region.ready .any ops l == [i', i])) && chkT ops jb t n (l.setIfInBounds i true) && chkT ops jb t' n (l.setIfInBounds i' true)) n listed A
  | .fork3 A i t i' t' i2 t2, n, listed => chkY ops jb (fun n l => match n with
    | 0 => false
    | n + 1 => (Region.ready .any ops l).all (fun j => Nat.beq j i || Nat.beq j i' || Nat.beq j i2) && (Region.ready .any ops l).contains i && (Region.ready .any ops l).contains i' && (Region.ready .any ops l).contains i2 && chkT ops jb t n (l.setIfInBounds i true) && chkT ops jb t' n (l.setIfInBounds i' true) && chkT ops jb t2 n (l.setIfInBounds i2 true)) n listed A
section
variable {P : Program} {ops : Array Oper} {S : World → Prop} {Q : Exit → Act → World → Prop}
theorem gol_yes (hs : Region.noSelect ops = true) (hQ : ∀ c a d v w, Q (.panic c) (Act.put a d v) w → Q (.panic c) a w) {jb : Nat} {k : Nat → Array Bool → Bool} {K : Act → World → Prop}
    (hk : ∀ n listed a w, k n listed = true → Closed ops listed → S w → K a w → wpAnyB P ops Q S jb n listed a w) :
    ∀ (n : Nat) (listed : Array Bool) (A : List Nat) (a : Act) (w : World), chkY ops jb k n listed A = true → Closed ops listed → S w →
      GoL P ops S (QT Q K) (A.map fun j => (j, true)) a w → wpAnyB P ops Q S jb n listed a w
  | n, listed, [], a, w, hc, hcl, hS, h => by
    unfold chkY at hc
    exact hk n listed a w hc hcl hS h
  | 0, listed, _ :: _, a, w, hc, _, _, _ => by simp [chkY] at hc
  | n + 1, listed, j :: A, a, w, hc, hcl, hS, h => by
    simp only [chkY, Bool.and_eq_true] at hc
    obtain ⟨⟨⟨⟨h1, h2⟩, h3⟩, h4⟩, h5⟩ := hc
    obtain ⟨o, v, hi, hy, h⟩ := h
    have hr : j ∈ Region.ready .any ops listed := by simpa using h4
    exact wpAnyB_first hi (Region.noSelect_spec hs) (fun c a w hq => hQ c a _ _ w hq) (fun e => by subst e; simp at h1) (hneed_of h2) n listed a w hcl (Region.free_spec hi h3) hr hy hS (gol_yes hs hQ hk n _ A _ w h5 (closed_set hcl hr) hS h)
theorem gol_tree (hs : Region.noSelect ops = true) (hQ : ∀ c a d v w, Q (.panic c) (Act.put a d v) w → Q (.panic c) a w) {jb : Nat} :
    ∀ (t : Tr) (n : Nat) (listed : Array Bool) (a : Act) (w : World), chkT ops jb t n listed = true → Closed ops listed → S w → GoT P ops S Q t a w → wpAnyB P ops Q S jb n listed a w
  | .run L, n, listed, a, w, hc, hcl, hS, h => gol_drawn hs hQ n listed L a w hc hcl (fun _ => hS) h
  | .one A i t, n, listed, a, w, hc, hcl, hS, h => by
    refine gol_yes hs hQ (fun n listed a w hk hcl hS h => ?_) n listed A a w hc hcl hS h
    cases n with
    | zero => cases hk
    | succ n =>
      simp only [Bool.and_eq_true, beq_iff_eq] at hk
      obtain ⟨h0, h1⟩ := hk
      have hr : i ∈ Region.ready .any ops listed := by rw [h0]; simp
      refine ⟨fun h0' => (by rw [h0'] at h0; cases h0), fun j hj => ?_⟩
      rw [h0, List.mem_singleton] at hj
      subst hj
      exact wpOp_mono (fun a' w' g => ⟨fun _ => g.1, gol_tree hs hQ t n _ a' w' h1 (closed_set hcl hr) g.1 g.2⟩) h
  | .fork A i t i' t', n, listed, a, w, hc, hcl, hS, h => by
    refine gol_yes hs hQ (fun n listed a w hk hcl hS h => ?_) n listed A a w hc hcl hS h
    cases n with
    | zero => cases hk
    | succ n =>
      simp only [Bool.and_eq_true, Bool.or_eq_true, beq_iff_eq] at hk
      obtain ⟨⟨h0, h1⟩, h2⟩ := hk
      have hm : ∀ j, j ∈ Region.ready .any ops listed ↔ j = i ∨ j = i' := fun j => by
        rcases h0 with e | e <;> rw [e] <;> simp [or_comm]
      have hr : i ∈ Region.ready .any ops listed := (hm i).2 (.inl rfl)
      have hr' : i' ∈ Region.ready .any ops listed := (hm i').2 (.inr rfl)
      refine ⟨fun h0' => (by rw [h0'] at hr; cases hr), fun j hj => ?_⟩
      rcases (hm j).1 hj with rfl | rfl
      · exact wpOp_mono (fun a' w' g => ⟨fun _ => g.1, gol_tree hs hQ t n _ a' w' h1 (closed_set hcl hr) g.1 g.2⟩) h.1
      · exact wpOp_mono (fun a' w' g => ⟨fun _ => g.1, gol_tree hs hQ t' n _ a' w' h2 (closed_set hcl hr') g.1 g.2⟩) h.2
  | .fork3 A i t i' t' i2 t2, n, listed, a, w, hc, hcl, hS, h => by
    refine gol_yes hs hQ (fun n listed a w hk hcl hS h => ?_) n listed A a w hc hcl hS h
    cases n with
    | zero => cases hk
    | succ n =>
      simp only [Bool.and_eq_true] at hk
      obtain ⟨⟨⟨⟨⟨⟨h0, r1⟩, r2⟩, r3⟩, h1⟩, h2⟩, h3⟩ := hk
      have hr : i ∈ Region.ready .any ops listed := by simpa using r1
      have hr' : i' ∈ Region.ready .any ops listed := by simpa using r2
      have hr2 : i2 ∈ Region.ready .any ops listed := by simpa using r3
      refine ⟨fun h0' => (by rw [h0'] at hr; cases hr), fun j hj => ?_⟩
      have hj2 := List.all_eq_true.1 h0 j hj
      simp only [Bool.or_eq_true] at hj2
      rcases hj2 with (e | e) | e <;> have e := Nat.eq_of_beq_eq_true e <;> subst e
      · exact wpOp_mono (fun a' w' g => ⟨fun _ => g.1, gol_tree hs hQ t n _ a' w' h1 (closed_set hcl hr) g.1 g.2⟩) h.1
      · exact wpOp_mono (fun a' w' g => ⟨fun _ => g.1, gol_tree hs hQ t' n _ a' w' h2 (closed_set hcl hr') g.1 g.2⟩) h.2.1
      · exact wpOp_mono (fun a' w' g => ⟨fun _ => g.1, gol_tree hs hQ t2 n _ a' w' h3 (closed_set hcl hr2) g.1 g.2⟩) h.2.2
theorem lets_QT {K : Act → World → Prop} (h : LetsOut (QT Q K)) : LetsOut Q := h
theorem wpOp_QT {i : Nat} {a : Act} {w : World} {K X : Act → World → Prop} (h : wpOp P ops (QT Q K) i X a w) : wpOp P ops Q i X a w := by
  unfold wpOp at *
  cases ho : ops[i]? with
  | none => rw [ho] at h; exact h
  | some o =>
    rw [ho] at h
    simp only at h ⊢
    split at h
    · rename_i hw
      rw [if_pos hw]
      refine h.imp (fun h => ?_) (fun h => ⟨h.1, lets_QT h.2⟩)
      unfold Oper.wp at *
      generalize (execOp a.eval o).run P w = r at *
      cases r with
      | ok n w' =>
        cases n <;> simp only [Oper.upon] at h ⊢ <;> first | exact h | exact Calls.mono h (fun e w'' he => by cases e <;> first | exact he | exact lets_QT he)
      | halt x w' => cases x <;> simp only [Oper.upon] at h ⊢ <;> exact h
    · rename_i hw; rw [if_neg hw]; exact h
end
def SchT (P : Program) (N : Nat) (Q : Exit → Act → World → Prop) (ops : Array Oper) (S : World → Prop) (t : Tr) (env : Env) (w : World) : Prop := ∀ a, St N env a → GoT P ops S Q t a w
section
variable {P : Program} {N : Nat} {Q : Exit → Act → World → Prop} {ops : Array Oper} {S S' : World → Prop} {A : List Nat} {i i' i2 : Nat} {t t' t2 : Tr} {L : List (Nat × Bool)} {env : Env} {w : World}
theorem tr_run (h : SchQ P N Q ops S L env w) : SchT P N Q ops S (.run L) env w := h
theorem tr_fork (h : SchQ P N (QT Q fun a w => wpOp P ops Q i (fun a' w' => S w' ∧ GoT P ops S Q t a' w') a w ∧ wpOp P ops Q i' (fun a' w' => S w' ∧ GoT P ops S Q t' a' w') a w) ops S (A.map fun j => (j, true)) env w) : SchT P N Q ops S (.fork A i t i' t') env w := h
theorem tr_fork3 (h : SchQ P N (QT Q fun a w => wpOp P ops Q i (fun a' w' => S w' ∧ GoT P ops S Q t a' w') a w ∧ wpOp P ops Q i' (fun a' w' => S w' ∧ GoT P ops S Q t' a' w') a w ∧ wpOp P ops Q i2 (fun a' w' => S w' ∧ GoT P ops S Q t2 a' w') a w) ops S (A.map fun j => (j, true)) env w) : SchT P N Q ops S (.fork3 A i t i' t' i2 t2) env w := h
theorem tr_do3 (h : SchQ P N (QT Q fun a w => S w ∧ GoT P ops S Q t a w) ops S [(i, false)] env w) (h' : SchQ P N (QT Q fun a w => S w ∧ GoT P ops S Q t' a w) ops S [(i', false)] env w) (h2 : SchQ P N (QT Q fun a w => S w ∧ GoT P ops S Q t2 a w) ops S [(i2, false)] env w) :
    SchQ P N (QT Q fun a w => wpOp P ops Q i (fun a' w' => S w' ∧ GoT P ops S Q t a' w') a w ∧ wpOp P ops Q i' (fun a' w' => S w' ∧ GoT P ops S Q t' a' w') a w ∧ wpOp P ops Q i2 (fun a' w' => S w' ∧ GoT P ops S Q t2 a' w') a w) ops S [] env w := fun a ha => by
  show wpOp P ops Q i (fun a' w' => S w' ∧ GoT P ops S Q t a' w') a w ∧ wpOp P ops Q i' (fun a' w' => S w' ∧ GoT P ops S Q t' a' w') a w ∧ wpOp P ops Q i2 (fun a' w' => S w' ∧ GoT P ops S Q t2 a' w') a w
  exact ⟨wpOp_mono (fun a' w' g => g.2) (wpOp_QT (h a ha)), wpOp_mono (fun a' w' g => g.2) (wpOp_QT (h' a ha)), wpOp_mono (fun a' w' g => g.2) (wpOp_QT (h2 a ha))⟩
theorem tr_do2 (h : SchQ P N (QT Q fun a w => S w ∧ GoT P ops S Q t a w) ops S [(i, false)] env w) (h' : SchQ P N (QT Q fun a w => S w ∧ GoT P ops S Q t' a w) ops S [(i', false)] env w) :
    SchQ P N (QT Q fun a w => wpOp P ops Q i (fun a' w' => S w' ∧ GoT P ops S Q t a' w') a w ∧ wpOp P ops Q i' (fun a' w' => S w' ∧ GoT P ops S Q t' a' w') a w) ops S [] env w := fun a ha => by
  show wpOp P ops Q i (fun a' w' => S w' ∧ GoT P ops S Q t a' w') a w ∧ wpOp P ops Q i' (fun a' w' => S w' ∧ GoT P ops S Q t' a' w') a w
  exact ⟨wpOp_mono (fun a' w' g => g.2) (wpOp_QT (h a ha)), wpOp_mono (fun a' w' g => g.2) (wpOp_QT (h' a ha))⟩
theorem tr_next (hS : S w) (h : SchT P N Q ops S t env w) : SchQ P N (QT Q fun a w => S w ∧ GoT P ops S Q t a w) ops S' [] env w := fun a ha => ⟨hS, h a ha⟩
variable {f : FuncId} {k : List Item} {R : Value → World → Prop}
theorem run_tree {c : Code} {id : Nat} (I : List Nat) (C : Nat → Nat) (jb : Nat) (t : Tr) (hm : P.follows .mixedOrders = true) (hc : c = .region id ops true)
    (hn : Region.noSelect ops = true) (hk : chkT ops jb t ops.size (Array.replicate ops.size false) = true)
    (h : ∀ w₁, Stp [] w C w₁ C → SchT P N (QK P f k R) ops (fun w' => Ext (fun b => C b ∈ I) w₁ w') t env w₁) : Run P f N (.code c :: k) env w R := fun a ha => by
  subst hc
  exact runs_of_wp (wp_region_any hm (wpAny_of_bar _ _ _ _ (gol_tree hn (fun c a d v w h => h.elim) t _ _ a _ hk (closed_none ops) (Ext.refl _ _) (h _ (Stp.drew [] w C) a ha))))
end
end Go.K

/- Drawn regions with a bar: an operation that waits for all that comes before it in the order; behind it nothing is asked for any more. -/
set_option linter.unusedVariables false
set_option linter.unusedSimpArgs false
namespace Go.K
open Rep
def chkR (ops : Array Oper) (jb : Nat) (L2 : List (Nat × Bool)) : Nat → Array Bool → List (Nat × Bool) → Bool
  | 0, _, [] => false
  | n + 1, listed, [] => (Region.ready .any ops listed == [jb]) && (listed.setIfInBounds jb true).getD jb false && chkB ops (barOf ops.size L2) n (listed.setIfInBounds jb true) L2
  | 0, _, _ :: _ => false
  | n + 1, listed, (i, true) :: L => !Nat.beq i jb && needs ops 8 jb i && Region.free .any ops listed i && (Region.ready .any ops listed).contains i && chkR ops jb L2 n (listed.setIfInBounds i true) L
  | n + 1, listed, (i, false) :: L => (Region.ready .any ops listed == [i]) && !Nat.beq i jb && chkR ops jb L2 n (listed.setIfInBounds i true) L
section
variable {P : Program} {ops : Array Oper} {S : World → Prop} {Q : Exit → Act → World → Prop}
theorem bar_any {jb : Nat} : ∀ (fuel : Nat) (listed : Array Bool) (a : Act) (w : World), listed.getD jb false = true → wpAny P .any ops Q fuel listed a w → wpAnyB P ops Q S jb fuel listed a w
  | 0, listed, a, w, _, h => h
  | fuel + 1, listed, a, w, hj, h => ⟨h.1, fun i hi => wpOp_mono (fun a' w' h' => ⟨fun e => (by rw [getD_set_true hj] at e; cases e), bar_any fuel _ a' w' (getD_set_true hj) h'⟩) (h.2 i hi)⟩
theorem gol_bar (hs : Region.noSelect ops = true) (hQ : ∀ c a d v w, Q (.panic c) (Act.put a d v) w → Q (.panic c) a w) {jb : Nat} {L2 : List (Nat × Bool)} :
    ∀ (n : Nat) (listed : Array Bool) (L : List (Nat × Bool)) (a : Act) (w : World), chkR ops jb L2 n listed L = true → Closed ops listed → S w →
      GoL P ops S (QT Q fun a w => S w ∧ wpOp P ops Q jb (fun a' w' => GoL P ops (fun _ => True) Q L2 a' w') a w) L a w → wpAnyB P ops Q S jb n listed a w
  | 0, _, [], a, w, hc, _, _, _ => by cases hc
  | 0, _, _ :: _, a, w, hc, _, _, _ => by cases hc
  | n + 1, listed, [], a, w, hc, hcl, hS, h => by
    simp only [chkR, Bool.and_eq_true, beq_iff_eq] at hc
    obtain ⟨⟨h1, h2⟩, h3⟩ := hc
    have h : S w ∧ wpOp P ops Q jb (fun a' w' => GoL P ops (fun _ => True) Q L2 a' w') a w := h
    have hr : jb ∈ Region.ready .any ops listed := by rw [h1]; simp
    refine ⟨fun h0 => (by rw [h0] at h1; cases h1), fun j hj => ?_⟩
    rw [h1, List.mem_singleton] at hj
    subst hj
    exact wpOp_mono (fun a' w' h' => ⟨fun e => (by rw [h2] at e; cases e), bar_any n _ a' w' h2 (wpAny_of_bar _ _ _ _ (gol_drawn hs hQ n _ L2 a' w' h3 (closed_set hcl hr) (fun _ => trivial) h'))⟩) h.2
  | n + 1, listed, (i, true) :: L, a, w, hc, hcl, hS, h => by
    simp only [chkR, Bool.and_eq_true] at hc
    obtain ⟨⟨⟨⟨h1, h2⟩, h3⟩, h4⟩, h5⟩ := hc
    obtain ⟨o, v, hi, hy, h⟩ := h
    have hr : i ∈ Region.ready .any ops listed := by simpa using h4
    exact wpAnyB_first hi (Region.noSelect_spec hs) (fun c a w hq => hQ c a _ _ w hq) (fun e => by subst e; simp at h1) (hneed_of (by rw [h2, Bool.or_true])) n listed a w hcl (Region.free_spec hi h3) hr hy hS (gol_bar hs hQ n _ L _ w h5 (closed_set hcl hr) hS h)
  | n + 1, listed, (i, false) :: L, a, w, hc, hcl, hS, h => by
    simp only [chkR, Bool.and_eq_true, beq_iff_eq] at hc
    obtain ⟨⟨h1, h2⟩, h3⟩ := hc
    have hr : i ∈ Region.ready .any ops listed := by rw [h1]; simp
    have h := wpOp_QT (h : wpOp P ops (QT Q fun a w => S w ∧ wpOp P ops Q jb (fun a' w' => GoL P ops (fun _ => True) Q L2 a' w') a w) i (fun a' w' => (stab L = true → S w') ∧ GoL P ops S (QT Q fun a w => S w ∧ wpOp P ops Q jb (fun a' w' => GoL P ops (fun _ => True) Q L2 a' w') a w) L a' w') a w)
    refine ⟨fun h0 => (by rw [h0] at h1; cases h1), fun j hj => ?_⟩
    rw [h1, List.mem_singleton] at hj
    subst hj
    refine wpOp_mono (fun a' w' h' => ?_) h
    have hS' : S w' := by
      cases L with
      | nil => have : S w' ∧ wpOp P ops Q jb (fun a' w' => GoL P ops (fun _ => True) Q L2 a' w') a' w' := h'.2; exact this.1
      | cons x L => exact h'.1 rfl
    exact ⟨fun _ => hS', gol_bar hs hQ n _ L a' w' h3 (closed_set hcl hr) hS' h'.2⟩
end
section
variable {P : Program} {N : Nat} {Q : Exit → Act → World → Prop} {ops : Array Oper} {S S' : World → Prop} {jb : Nat} {L2 : List (Nat × Bool)} {env : Env} {w : World}
theorem bar_do (hS : S w) (h : SchQ P N (QT Q fun a w => GoL P ops (fun _ => True) Q L2 a w) ops (fun _ => True) [(jb, false)] env w) :
    SchQ P N (QT Q fun a w => S w ∧ wpOp P ops Q jb (fun a' w' => GoL P ops (fun _ => True) Q L2 a' w') a w) ops S [] env w := fun a ha => by
  show S w ∧ wpOp P ops Q jb (fun a' w' => GoL P ops (fun _ => True) Q L2 a' w') a w
  exact ⟨hS, wpOp_mono (fun a' w' g => g.2) (wpOp_QT (h a ha))⟩
theorem bar_next (h : SchQ P N Q ops (fun _ => True) L2 env w) : SchQ P N (QT Q fun a w => GoL P ops (fun _ => True) Q L2 a w) ops (fun _ => True) [] env w := fun a ha => h a ha
variable {f : FuncId} {k : List Item} {R : Value → World → Prop}
theorem run_bar {c : Code} {id : Nat} (I : List Nat) (C : Nat → Nat) (jb : Nat) (L L2 : List (Nat × Bool)) (hm : P.follows .mixedOrders = true) (hc : c = .region id ops true)
    (hn : Region.noSelect ops = true) (hk : chkR ops jb L2 ops.size (Array.replicate ops.size false) L = true)
    (h : ∀ w₁, Stp [] w C w₁ C → SchQ P N (QT (QK P f k R) fun a w => Ext (fun b => C b ∈ I) w₁ w ∧ wpOp P ops (QK P f k R) jb (fun a' w' => GoL P ops (fun _ => True) (QK P f k R) L2 a' w') a w) ops (fun w' => Ext (fun b => C b ∈ I) w₁ w') L env w₁) : Run P f N (.code c :: k) env w R := fun a ha => by
  subst hc
  exact runs_of_wp (wp_region_any hm (wpAny_of_bar _ _ _ _ (gol_bar hn (fun c a d v w h => h.elim) _ _ L a _ hk (closed_none ops) (Ext.refl _ _) (h _ (Stp.drew [] w C) a ha))))
end
end Go.K

/- Reviews: what reads as weights, records, reviews; the plain law of scores. -/
set_option linter.unusedVariables false
set_option linter.unusedSimpArgs false
namespace Go.K
open Rep
structure Wt where
  pr : Int
  ag : List Int
  df : List Int
instance : Rep Wt := Rep.via (fun x : Wt => (x.pr, (x.ag, x.df)))
section
variable {P : Program} {N : Nat} {env : Env} {y z : Operand} {t e : TypeId} {b o o' n len : Nat} {k : IntKind} {i : Int} {w : World} {v : Value} {M : Nat → Prop}
theorem RA.wp {x : Wt} (h : RA w M x b o) : RA w M x.pr b o := RA.fst (p := (x.pr, (x.ag, x.df))) h
theorem val_idxArr {cs : List Value} (hu : P.underlying t = some (.array len e)) (hn : szB P e = some 1) (ha : aggB P e = some false) (hy : ev env y = some (.agg cs.toArray)) (hz : ev env z = some (.int k i))
    (h0 : 0 ≤ i) (h1 : i < len) (hv : cs[i.toNat]? = some v) : Val P N env (.index t y z) w v := mk' fun ρ hρ oo ho => by
  unfold execOp; rw [ho]
  simp [hρ _ _ hy, hρ _ _ hz, go_sem, Instr.index, asIntOf, run_underlying hu, run_sizeOfB hn, h0, h1, part, run_isAggB ha, hv]
theorem val_buildAr {parts : Array (Nat × Operand)} {zs cs : List Value} {qs : List (Nat × List Value)} (hu : P.underlying t = some (.array len e)) (hn : szB P e = some n) (hz : zeroB P t = some zs)
    (hq : Parts env parts.toList qs) (hf : fillL (fun i => some (i * n, n)) zs qs = some cs) : Val P N env (.build t parts) w (.agg cs.toArray) := mk' fun ρ hρ o ho => by
  obtain ⟨z, h1, h2⟩ := run_zeroB hz w
  have hmap := Parts.map hρ hq
  have hfill := fill_eq (fun i => some (i * n, n)) (parts.toList.map fun p => (p.1, ρ p.2)) qs zs cs (by rw [← hmap]) hf
  have hfill' : Instr.fill (fun i => some (i * n, n)) z.cells (parts.map fun x => (x.1, ρ x.2)).toList = some cs.toArray := by
    rw [h2]
    have : (parts.map fun x => (x.1, ρ x.2)).toList = parts.toList.map fun p => (p.1, ρ p.2) := by simp
    rw [this, ← hfill]
  unfold execOp; rw [ho]
  simp only [Instr.build, Sem.run_bind, h1, Result.andThen_ok, run_underlying hu, run_sizeOfB hn]
  rw [show (parts.map fun x => match x with | (i, x) => (i, ρ x)).toList = (parts.map fun x => (x.1, ρ x.2)).toList from rfl, hfill']
  rfl
end
/-! ### Scores -/
def fitW (x : Int) : Prop := -65536 ≤ x ∧ x ≤ 65536
instance (x : Int) : Decidable (fitW x) := by unfold fitW; infer_instance
structure WOK (pr : Int) (ag df : List Int) : Prop where
  l1 : 1 ≤ ag.length
  l5 : ag.length ≤ 5
  ld : df.length = ag.length
  fp : fitW pr
  fa : ∀ i (h : i < ag.length), fitW ag[i]
  fd : ∀ i (h : i < df.length), fitW df[i]
def dg (p i : Nat) : Nat := p / 3 ^ i % 3
def digs (p n : Nat) : List Nat := (List.range n).map (dg p)
theorem dg_lt (p i : Nat) : dg p i < 3 := Nat.mod_lt _ (by decide)
theorem digs_len (p n : Nat) : (digs p n).length = n := by simp [digs]
theorem digs_get {p n i : Nat} (h : i < (digs p n).length) : (digs p n)[i] = dg p i := by simp [digs]
theorem digs_succ (p n : Nat) : digs p (n + 1) = digs p n ++ [dg p n] := by simp [digs, List.range_succ]
/-- What a field counts for. -/
def cntL (ag df : List Int) (f : Nat) : List Int := [0, df.getD f 0, ag.getD f 0]
def amt (ag df : List Int) (p f : Nat) : Int := (cntL ag df f).getD (dg p f) 0
def scN (pr : Int) (ag df : List Int) (p : Nat) : Nat → Int
  | 0 => pr
  | k + 1 => scN pr ag df p k + amt ag df p k
theorem WOK.a {pr : Int} {ag df : List Int} (h : WOK pr ag df) {i : Nat} (hi : i < ag.length) : -65536 ≤ ag.getD i 0 ∧ ag.getD i 0 ≤ 65536 := by rw [getD_in hi]; exact h.fa i hi
theorem WOK.d {pr : Int} {ag df : List Int} (h : WOK pr ag df) {i : Nat} (hi : i < ag.length) : -65536 ≤ df.getD i 0 ∧ df.getD i 0 ≤ 65536 := by rw [getD_in (by rw [h.ld]; exact hi)]; exact h.fd i (by rw [h.ld]; exact hi)
theorem WOK.amt_b {pr : Int} {ag df : List Int} (h : WOK pr ag df) {i : Nat} (hi : i < ag.length) (p : Nat) : -65536 ≤ amt ag df p i ∧ amt ag df p i ≤ 65536 := by
  have h1 := h.a hi; have h2 := h.d hi
  have h3 := dg_lt p i
  unfold amt cntL
  match e : dg p i, h3 with
  | 0, _ => simp
  | 1, _ => simpa using h2
  | 2, _ => simpa using h1
theorem WOK.sc_b {pr : Int} {ag df : List Int} (h : WOK pr ag df) (p : Nat) : ∀ k, k ≤ ag.length → -65536 * ((k : Int) + 1) ≤ scN pr ag df p k ∧ scN pr ag df p k ≤ 65536 * ((k : Int) + 1)
  | 0, _ => by have := h.fp; unfold fitW at this; unfold scN; constructor <;> omega
  | k + 1, hk => by
    have h1 := h.sc_b p k (by omega); have h2 := h.amt_b (i := k) (by omega) p
    unfold scN; constructor <;> omega
theorem WOK.sc {pr : Int} {ag df : List Int} (h : WOK pr ag df) (p : Nat) {k : Nat} (hk : k ≤ ag.length) : -393216 ≤ scN pr ag df p k ∧ scN pr ag df p k ≤ 393216 := by
  have := h.sc_b p k hk; have := h.l5; omega
theorem pow3 {n : Nat} (h : n ≤ 5) : 3 ^ n ≤ 243 := Nat.le_trans (Nat.pow_le_pow_right (by decide) h) (by decide)
/-- The array of powers. -/
theorem pows {n : Nat} (h : n ≤ 5) : ([.int .i64 1, .int .i64 3, .int .i64 9, .int .i64 27, .int .i64 81, .int .i64 243] : List Value)[((n : Nat) : Int).toNat]? = some (.int .i64 ((3 ^ n : Nat) : Int)) := by
  rw [Int.toNat_natCast]
  match n, h with
  | 0, _ => rfl
  | 1, _ => rfl
  | 2, _ => rfl
  | 3, _ => rfl
  | 4, _ => rfl
  | 5, _ => rfl
section
variable {P : Program} {f : FuncId} {N : Nat} {k : List Item} {env : Env} {w : World} {R : Value → World → Prop}
theorem run_retCCT {c : Code} {fn : Func} {a ty b u : Nat} {x : Value} {ty0 : Nat} {cs : List Value} {fz : Nat × Nat} {n : Nat} {a2 ty2 b2 ty02 : Nat} {cs2 : List Value} {fz2 : Nat × Nat} {n2 : Nat} (hc : c = .ret) (hf : P.funcs[f]? = some fn) (hres : fn.results = #[.cell a ty, .cell a2 ty2, .tmp u]) (hv : look env a = some (.pointer (some ⟨b, 0, none⟩))) (hv2 : look env a2 = some (.pointer (some ⟨b2, 0, none⟩)))
    (hx : look env u = some x) (hb : w.heap[b]? = some (.cells cs.toArray ty0 fz)) (ha : aggB P ty = some true) (hs : szB P ty = some n) (hl : cs.length = n)
    (hb2 : w.heap[b2]? = some (.cells cs2.toArray ty02 fz2)) (ha2 : aggB P ty2 = some true) (hs2 : szB P ty2 = some n2) (hl2 : cs2.length = n2)
    (hR : R (.tuple #[.agg cs.toArray, .agg cs2.toArray, x]) w) : Run P f N (.code c :: k) env w R := fun a' ha' => by
  subst hc
  refine runs_ret hf ha'.defers ?_ hR
  have h1 := ha'.slot a _ hv
  have h4 := ha'.slot a2 _ hv2
  have h3 := ha'.slot u _ hx
  have h2 := run_cellAgg hb ha hs hl
  have h5 := run_cellAgg hb2 ha2 hs2 hl2
  simp only [results, hres]
  simp [h1, h3, h4, Array.getD_eq_getD_getElem?, asAddr, h2, h5]
end
/-! ### What is dealt -/
structure TOK (lo hi : Int) : Prop where
  h1 : 1 ≤ hi
  h2 : hi ≤ 65536
  l1 : -65536 ≤ lo
  l2 : lo ≤ hi
structure DW (n : Nat) (ag df : List Int) : Prop where
  la : ag.length = n
  ld : df.length = n
  ba : ∀ x ∈ ag, -3 ≤ x ∧ x ≤ 60
  bd : ∀ x ∈ df, -60 ≤ x ∧ x ≤ 3
theorem DW.nil : DW 0 [] [] := ⟨rfl, rfl, by simp, by simp⟩
theorem DW.snoc {n : Nat} {ag df : List Int} {p q : Int} (h : DW n ag df) (h1 : -3 ≤ p) (h2 : p ≤ 60) (h3 : -60 ≤ q) (h4 : q ≤ 3) : DW (n + 1) (ag ++ [p]) (df ++ [q]) :=
  ⟨by simp [h.la], by simp [h.ld], fun x hx => by
    rcases List.mem_append.1 hx with hx | hx
    · exact h.ba x hx
    · rw [List.mem_singleton.1 hx]; exact ⟨h1, h2⟩, fun x hx => by
    rcases List.mem_append.1 hx with hx | hx
    · exact h.bd x hx
    · rw [List.mem_singleton.1 hx]; exact ⟨h3, h4⟩⟩
theorem DW.ok {n : Nat} {pr : Int} {ag df : List Int} (h : DW n ag df) (h1 : 1 ≤ n) (h5 : n ≤ 5) (h2 : -40 ≤ pr) (h3 : pr ≤ 10) : WOK pr ag df :=
  ⟨by rw [h.la]; exact h1, by rw [h.la]; exact h5, by rw [h.la, h.ld], by unfold fitW; omega, fun i hi => by have := h.ba _ (List.getElem_mem hi); unfold fitW; omega, fun i hi => by have := h.bd _ (List.getElem_mem hi); unfold fitW; omega⟩
end Go.K

/- Insertion sort of lists, and what stable sorting yields. Plain. -/
set_option linter.unusedVariables false
set_option linter.unusedSimpArgs false
namespace Go.K
open Rep
section
variable {α : Type} {ys zs : List α} {σ : Nat → Nat} {a b i j : Nat} {c : α → α → Int} {P : α → Prop}
theorem Within.thin (h : Within σ a (a + 1)) (hb : a ≤ b) : Within σ a b := by
  have hid : ∀ i, σ i = i := fun i => by
    by_cases e : a ≤ i ∧ i < a + 1
    · have := h.in_ i e.1 e.2; omega
    · exact h.out i e
  exact ⟨fun i _ => hid i, fun i h1 h2 => by rw [hid i]; exact ⟨h1, h2⟩, h.inj⟩
theorem InsI.lt (h : InsI c ys σ a i j) (hj : a < j) : σ (j - 1) < i := by
  have hl := h.le
  have h1 := h.within.in_ (j - 1) (by omega) (by omega)
  have h2 : σ (j - 1) ≠ i := fun e => by have := h.within.inj (j - 1) j (by rw [e, h.me]); omega
  omega
theorem InsI.ord (hc : Cmp3 c P) (hP : ∀ x ∈ ys, P x) (hL : PL ys σ zs) (h : InsI c ys σ a i j) (hj : a < j) (hi : i < ys.length) (h1 : j < zs.length) (h2 : j - 1 < zs.length) : ordT c ys i (σ (j - 1)) ↔ c zs[j] zs[j - 1] < 0 := by
  have hl := h.le
  have e1 := hL.get (show j < ys.length by omega)
  have e2 := hL.get (show j - 1 < ys.length by omega)
  have hlt := h.lt hj
  rw [e1, e2, ordT_lt hc hP (by omega) hi hlt]
  simp only [h.me]
end
theorem cmpI_lt {x y : Int} : cmpI x y < 0 ↔ x < y := by unfold cmpI; split <;> (try split) <;> omega
theorem cmpI_3 : Cmp3 cmpI (fun _ => True) := ⟨fun x y _ _ => by unfold cmpI; split <;> split <;> (try split) <;> (try split) <;> omega, fun x y z _ _ _ => by unfold cmpI; split <;> split <;> (try split) <;> (try split) <;> (try split) <;> omega⟩
theorem wrap_u8n {n : Nat} (h : n ≤ 12) : IntKind.u8.wrap ((n : Nat) : Int) = n := by
  unfold IntKind.wrap
  simp [IntKind.signed, IntKind.bits]
  omega
theorem wrap_u64n {n : Nat} (h : n ≤ 12) : IntKind.u64.wrap ((n : Nat) : Int) = n := by
  unfold IntKind.wrap
  simp [IntKind.signed, IntKind.bits]
  omega
theorem tabN {s : ByteArray} {n : Nat} (h : n < s.size) : ∃ b : UInt8, s[((n : Nat) : Int).toNat]? = some b := ⟨_, by rw [Int.toNat_natCast]; exact getElem?_pos s n h⟩
section
variable {P : Program} {N : Nat} {env : Env} {y z : Operand} {t : TypeId} {k : IntKind} {n : Nat} {s : ByteArray} {b : UInt8} {w : World}
theorem val_idxS (hy : ev env y = some (.string s)) (hz : ev env z = some (.int k n)) (hu : P.underlying t = some .string) (hb : s[((n : Nat) : Int).toNat]? = some b) : Val P N env (.index t y z) w (.int .u8 (b.toNat : Nat)) := mk' fun ρ hρ oo ho => by
  rw [Int.toNat_natCast] at hb
  unfold execOp; rw [ho]
  simp [hρ _ _ hy, hρ _ _ hz, go_sem, Instr.index, asIntOf, run_underlying hu, hb]
end
def isCk (c : Code) (b : Bool) : Bool := match c with | .cond (.const (.bool b')) _ _ => b == b' | _ => false
theorem isCk_eq {c : Code} {b : Bool} (h : isCk c b = true) : c = .cond (.const (.bool b)) (cl c) (cr c) := by
  unfold isCk at h
  split at h
  · rw [beq_iff_eq] at h; subst h; rfl
  · cases h
section
variable {P : Program} {f : FuncId} {N : Nat} {k : List Item} {env : Env} {w : World} {R : Value → World → Prop}
theorem run_ckF {c : Code} (hc : isCk c false = true) (h : Run P f N (.code (cr c) :: k) env w R) : Run P f N (.code c :: k) env w R :=
  run_cond (isCk_eq hc) rfl (fun h => by cases h) (fun _ => h)
end
/-- Gains, the greatest first. -/
def cmpG (x y : Couple) : Int := cmpI y.b x.b
theorem cmpG_3 : Cmp3 cmpG (fun _ => True) := ⟨fun x y _ _ => by unfold cmpG cmpI; split <;> split <;> (try split) <;> (try split) <;> omega, fun x y z _ _ _ => by unfold cmpG cmpI; split <;> split <;> (try split) <;> (try split) <;> (try split) <;> omega⟩
/-! ### The list that stable sorting yields -/
section
variable {α : Type} {ys zs us : List α} {σ τ : Nat → Nat} {c : α → α → Int} {P : α → Prop}
/-- Stably sorted. -/
def StS (c : α → α → Int) (ys zs : List α) : Prop := ∃ σ, PL ys σ zs ∧ Within σ 0 ys.length ∧ Asc (ordT c ys) σ 0 ys.length
theorem asc_inj {n : Nat} (hc : Cmp3 c P) (hP : ∀ x ∈ ys, P x) (hn : n = ys.length) (h1 : Within σ 0 n) (h2 : Asc (ordT c ys) σ 0 n) (t1 : Within τ 0 n) (t2 : Asc (ordT c ys) τ 0 n) : ∀ i, i < n → σ i = τ i := by
  -- the least place where they differ
  intro i
  induction i using Nat.strongRecOn with
  | ind i ih =>
    intro hi
    apply Classical.byContradiction
    intro hne
    -- σ i stands somewhere under τ, and τ i under σ, both behind i
    have key : ∀ (ρ π : Nat → Nat), Within ρ 0 n → Asc (ordT c ys) ρ 0 n → Within π 0 n → (∀ k, k < i → ρ k = π k) → ρ i ≠ π i → ordT c ys (ρ i) (π i) := by
      intro ρ π r1 r2 p1 hk hne
      -- π i = ρ m for some m
      have hsur : ∃ m, m < n ∧ ρ m = π i := by
        apply Classical.byContradiction
        intro hno
        have h1 := p1.in_ i (by omega) hi
        have := pigeon n (n - 1) (fun m => if ρ m < π i then ρ m else ρ m - 1) (fun m hm => by
          have h2 := r1.in_ m (by omega) hm
          have h3 : ρ m ≠ π i := fun e => hno ⟨m, hm, e⟩
          split <;> omega) (fun m m' hm hm' e => by
          have h3 : ρ m ≠ π i := fun e => hno ⟨m, hm, e⟩
          have h4 : ρ m' ≠ π i := fun e => hno ⟨m', hm', e⟩
          refine r1.inj _ _ ?_
          split at e <;> split at e <;> omega)
        omega
      obtain ⟨m, hm, e⟩ := hsur
      have hmi : i < m := by
        rcases Nat.lt_trichotomy m i with h | h | h
        · have := hk m h; rw [e] at this; have := p1.inj _ _ this; omega
        · subst h; exact absurd e hne
        · exact h
      rw [← e]
      exact r2 i m (by omega) hmi hm
    have a := key σ τ h1 h2 t1 (fun k hk => ih k hk (by omega)) hne
    have b := key τ σ t1 t2 h1 (fun k hk => (ih k hk (by omega)).symm) (Ne.symm hne)
    exact ordT_asym hc hP a b
theorem StS.uniq (hc : Cmp3 c P) (hP : ∀ x ∈ ys, P x) (h : StS c ys zs) (h' : StS c ys us) : zs = us := by
  obtain ⟨σ, a1, a2, a3⟩ := h
  obtain ⟨τ, b1, b2, b3⟩ := h'
  have he := asc_inj hc hP rfl a2 a3 b2 b3
  apply List.ext_getElem?
  intro i
  by_cases hi : i < ys.length
  · rw [(a1.at_ i hi).2, (b1.at_ i hi).2, he i hi]
  · rw [List.getElem?_eq_none (by rw [a1.len]; omega), List.getElem?_eq_none (by rw [b1.len]; omega)]
/-- The list, stably sorted. -/
noncomputable def stS (c : α → α → Int) (ys : List α) : List α := open Classical in if h : ∃ zs, StS c ys zs then h.choose else ys
theorem StS.eq (hc : Cmp3 c P) (hP : ∀ x ∈ ys, P x) (h : StS c ys zs) : zs = stS c ys := by
  have he : ∃ zs, StS c ys zs := ⟨zs, h⟩
  unfold stS
  rw [dif_pos he]
  exact h.uniq hc hP he.choose_spec
end
/-! ### Gains -/
def gnL (ag df : List Int) (p : Nat) : Nat → List Couple
  | 0 => []
  | k + 1 => gnL ag df p k ++ if 0 < ag.getD k 0 - amt ag df p k then [⟨(k : Int), ag.getD k 0 - amt ag df p k⟩] else []
theorem gnL_len (ag df : List Int) (p : Nat) : ∀ k, (gnL ag df p k).length ≤ k
  | 0 => by simp [gnL]
  | k + 1 => by
    have := gnL_len ag df p k
    rw [gnL, List.length_append]
    split <;> simp only [List.length_cons, List.length_nil] <;> omega
theorem idx3 {ag df : List Int} {p k : Nat} (h1 : k < ag.length) (h2 : k < df.length) : ([.int .i64 0, .int .i64 df[k], .int .i64 ag[k]] : List Value)[((dg p k : Nat) : Int).toNat]? = some (.int .i64 (amt ag df p k)) := by
  rw [Int.toNat_natCast]
  unfold amt cntL
  rw [getD_in h1, getD_in h2]
  have h3 := dg_lt p k
  generalize dg p k = d at *
  obtain rfl | rfl | rfl : d = 0 ∨ d = 1 ∨ d = 2 := by omega
  all_goals simp
end Go.K

/- The fields that decide: plain. -/
set_option linter.unusedVariables false
set_option linter.unusedSimpArgs false
namespace Go.K
open Rep
section
variable {α : Type} {ys zs : List α} {c : α → α → Int}
theorem StS.len (h : StS c ys zs) : zs.length = ys.length := by obtain ⟨σ, h1, _⟩ := h; exact h1.len
theorem StS.sub (h : StS c ys zs) : ∀ x ∈ zs, x ∈ ys := fun x hx => by
  obtain ⟨σ, h1, _⟩ := h
  obtain ⟨i, hi, rfl⟩ := List.getElem_of_mem hx
  rw [h1.get (by rw [← h1.len]; exact hi)]
  exact List.getElem_mem _
end
theorem gnL_mem {ag df : List Int} {p : Nat} : ∀ {k : Nat} {x : Couple}, x ∈ gnL ag df p k → ∃ i, i < k ∧ x = ⟨(i : Int), ag.getD i 0 - amt ag df p i⟩ ∧ 0 < ag.getD i 0 - amt ag df p i
  | 0, x, h => by simp [gnL] at h
  | k + 1, x, h => by
    rw [gnL, List.mem_append] at h
    rcases h with h | h
    · obtain ⟨i, h1, h2⟩ := gnL_mem h; exact ⟨i, by omega, h2⟩
    · split at h
      · rename_i hp; rw [List.mem_singleton] at h; exact ⟨k, by omega, h, hp⟩
      · simp at h
theorem WOK.gain_b {pr : Int} {ag df : List Int} (h : WOK pr ag df) {p : Nat} {x : Couple} (hx : x ∈ gnL ag df p ag.length) : 0 < x.b ∧ x.b ≤ 131072 ∧ 0 ≤ x.a ∧ x.a < ag.length := by
  obtain ⟨i, hi, rfl, h2⟩ := gnL_mem hx
  have h3 := h.a hi; have h4 := h.amt_b hi p
  exact ⟨h2, by simp only; omega, by simp only; omega, by simp only; omega⟩
/-- The score after the first gains. -/
def preG (s : Int) (gs : List Couple) : Nat → Int
  | 0 => s
  | k + 1 => preG s gs k + (gs.getD k ⟨0, 0⟩).b
theorem preG_b {s : Int} {gs : List Couple} (h : ∀ x ∈ gs, 0 < x.b ∧ x.b ≤ 131072) : ∀ k, k ≤ gs.length → s ≤ preG s gs k ∧ preG s gs k ≤ s + 131072 * (k : Int)
  | 0, _ => by unfold preG; omega
  | k + 1, hk => by
    have h1 := preG_b (s := s) h k (by omega)
    have h2 := h _ (List.getElem_mem (show k < gs.length by omega))
    rw [preG, getD_in (show k < gs.length by omega)]
    constructor <;> omega
def clsT (lo hi s : Int) : Int := if hi ≤ s then 2 else if lo ≤ s then 1 else 0
/-- The deciding fields, or none. -/
def FldS (pr : Int) (ag df : List Int) (lo hi : Int) (p : Nat) (fl : List Int) (ok : Bool) : Prop :=
  (¬ (lo ≤ scN pr ag df p ag.length ∧ scN pr ag df p ag.length < hi) ∧ ok = false ∧ fl = []) ∨
  ((lo ≤ scN pr ag df p ag.length ∧ scN pr ag df p ag.length < hi) ∧ ∃ gs k, StS cmpG (gnL ag df p ag.length) gs ∧ k ≤ gs.length ∧ (∀ j, j < k → preG (scN pr ag df p ag.length) gs j < hi) ∧
    ((preG (scN pr ag df p ag.length) gs k < hi ∧ k = gs.length ∧ ok = false ∧ fl = []) ∨ (hi ≤ preG (scN pr ag df p ag.length) gs k ∧ ok = true ∧ StS cmpI ((gs.take k).map (·.a)) fl)))
end Go.K
