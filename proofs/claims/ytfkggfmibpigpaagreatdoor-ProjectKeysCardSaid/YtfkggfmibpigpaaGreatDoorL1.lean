/- A calculus of steps over the model: a frame is known by a list of slots, code is walked with what is left to do as a list. -/
import Derived.WalkKit
import Derived.OrdersHeld
import Derived.KernelRfl
import Derived.WideKeyRuns
import Derived.MapKept
import Derived.Sort.Walk0
import Derived.Laws.BytesArg
import Derived.Laws.MakeOwn
import Derived.Lib.ItoaMem
import Derived.Lib.LaidTab
import Derived.Laws.StructEq
import Derived.ChangeKeysEq
import Derived.Lib.AppendZeros
set_option linter.unusedVariables false
set_option linter.unusedSimpArgs false
namespace Go.K
def fr0 (f : FuncId) : Frame := { (default : Frame) with fn := f, kind := .normal }
def Ret (R : Value → World → Prop) : Ending → World → Prop := fun e w => ∃ v, e = .returned v ∧ R v w
theorem Ret.mono {R R' : Value → World → Prop} (h : ∀ v w, R v w → R' v w) (e : Ending) (w : World) (hr : Ret R e w) : Ret R' e w :=
  let ⟨v, he, hv⟩ := hr; ⟨v, he, h v w hv⟩
def Runs (P : Program) (f : FuncId) (k : List Item) (a : Act) (w : World) (R : Value → World → Prop) : Prop :=
  ∀ cs, ∃ v w' fr, R v w' ∧ Steps P (lone ((fr0 f).at a k) cs w) (lone fr cs w') ∧ fr.fn = f ∧ fr.leaving P w' (.returned v)
theorem calls_of_runs {P : Program} {f : FuncId} {fn : Func} {c : Code} {args : Array Value} {w : World} {R : Value → World → Prop}
    (hf : P.funcs[f]? = some fn) (hb : fn.body = some c)
    (h : Runs P f [.code c] { tmps := args ++ Array.replicate (fn.ntmps - args.size) undef, defers := [] } w R) : Calls P f args w (Ret R) := by
  intro cs
  have henter : Frame.enter P f args .normal = (fr0 f).at { tmps := args ++ Array.replicate (fn.ntmps - args.size) undef, defers := [] } [.code c] := by
    simp [Frame.enter, Frame.at, hf, hb, fr0]
  obtain ⟨v, w', fr, hR, hs, hfn, hl⟩ := h cs
  exact ⟨.returned v, w', fr, ⟨v, rfl, hR⟩, by rw [henter]; exact hs, hfn, hl⟩
section
variable {P : Program} {f : FuncId} {k : List Item} {a : Act} {w : World} {R : Value → World → Prop}
theorem Runs.step {a' : Act} {k' : List Item} {w' : World}
    (hs : ∀ cs, step P (lone ((fr0 f).at a k) cs w) = .next (lone ((fr0 f).at a' k') cs w')) (h : Runs P f k' a' w' R) : Runs P f k a w R := fun cs =>
  let ⟨v, w'', fr, hR, hst, hfn, hl⟩ := h cs
  ⟨v, w'', fr, hR, .head (hs cs) hst, hfn, hl⟩
def QK (P : Program) (f : FuncId) (k : List Item) (R : Value → World → Prop) : Exit → Act → World → Prop
  | .normal, a, w => Runs P f k a w R
  | _, _, _ => False
theorem runs_of_wp {c : Code} (h : c.wp P (QK P f k R) a w) : Runs P f (.code c :: k) a w R := by
  intro cs
  obtain ⟨e, a', w', hq, harr⟩ := h (fr0 f) k cs
  cases e with
  | normal =>
    obtain ⟨v, w'', fr, hR, hst, hfn, hl⟩ := hq cs
    exact ⟨v, w'', fr, hR, Steps.trans harr hst, hfn, hl⟩
  | _ => exact hq.elim
theorem runs_ret {fn : Func} {v : Value} (hf : P.funcs[f]? = some fn) (hd : a.defers = []) (hr : (results fn a.tmps).run P w = .ok v w) (hR : R v w) :
    Runs P f (.code .ret :: k) a w R := fun cs =>
  ⟨v, w, _, hR, .one step_ret, rfl, rfl, hd, rfl, fn, hf, hr⟩
end
/-! ### The order of a region's operations -/
def stab : List (Nat × Bool) → Bool
  | [] => false
  | _ :: _ => true
def lastB : List (Nat × Bool) → Bool
  | [] => true
  | [(_, b)] => !b
  | _ :: _ :: _ => false
def GoL (P : Program) (ops : Array Oper) (S : World → Prop) (Q : Exit → Act → World → Prop) : List (Nat × Bool) → Act → World → Prop
  | [], a, w => Q .normal a w
  | (i, true) :: L, a, w => ∃ o v, ops[i]? = some o ∧ YieldsIf P ops S o v a ∧ GoL P ops S Q L (a.put o.dst v) w
  | (i, false) :: L, a, w => wpOp P ops Q i (fun a' w' => (stab L = true → S w') ∧ GoL P ops S Q L a' w') a w
section
variable {P : Program} {ops : Array Oper} {S : World → Prop} {Q : Exit → Act → World → Prop}
theorem gol_plain : ∀ (L : List (Nat × Bool)) (a : Act) (w : World), GoL P ops (fun _ => True) Q L a w → wpOps P ops Q (L.map (·.1)) a w
  | [], a, w, h => h
  | (i, true) :: L, a, w, h => by
    obtain ⟨o, v, hi, hy, h⟩ := h
    rw [List.map_cons, wpOps_cons]
    exact hy.wpOp hi trivial (gol_plain L _ _ h)
  | (i, false) :: L, a, w, h => by
    rw [List.map_cons, wpOps_cons]
    exact wpOp_mono (fun a' w' h' => gol_plain L a' w' h'.2) h
theorem gol_free : ∀ (L : List (Nat × Bool)) (a : Act) (w : World), lastB L = true → GoL P ops (fun _ => True) Q L a w → GoL P ops S Q L a w
  | [], a, w, _, h => h
  | [(i, true)], a, w, hs, h => by cases hs
  | [(i, false)], a, w, hs, h => wpOp_mono (fun a' w' h' => ⟨fun e => (by cases e), h'.2⟩) h
  | _ :: _ :: _, a, w, hs, h => by cases hs
/-! #### Whatever order is drawn: the condition is asked for until one operation, the bar, has come up, which waits for all that were taken first. -/
def wpAnyB (P : Program) (ops : Array Oper) (Q : Exit → Act → World → Prop) (S : World → Prop) (jb : Nat) : Nat → Array Bool → Act → World → Prop
  | 0, listed, a, w => Region.ready .any ops listed = [] ∧ Q .normal a w
  | fuel + 1, listed, a, w =>
    (Region.ready .any ops listed = [] → Q .normal a w) ∧
    ∀ i ∈ Region.ready .any ops listed, wpOp P ops Q i (fun a' w' => ((listed.setIfInBounds i true).getD jb false = false → S w') ∧ wpAnyB P ops Q S jb fuel (listed.setIfInBounds i true) a' w') a w
theorem wpAny_of_bar {jb : Nat} : ∀ (fuel : Nat) (listed : Array Bool) (a : Act) (w : World), wpAnyB P ops Q S jb fuel listed a w → wpAny P .any ops Q fuel listed a w
  | 0, _, _, _, h => h
  | fuel + 1, _, _, _, h => ⟨h.1, fun i hi => wpOp_mono (fun a' w' h' => wpAny_of_bar fuel _ a' w' h'.2) (h.2 i hi)⟩
def Closed (ops : Array Oper) (listed : Array Bool) : Prop :=
  listed.size = ops.size ∧ ∀ k ok, ops[k]? = some ok → listed.getD k false = true → ∀ e ∈ ok.after, Region.binds .any e = true → listed.getD e.on false = true
theorem closed_set {j : Nat} {listed : Array Bool} (hc : Closed ops listed) (hj : j ∈ Region.ready .any ops listed) : Closed ops (listed.setIfInBounds j true) := by
  refine ⟨by simp [hc.1], fun k ok hk hl e he hb => ?_⟩
  by_cases hkj : k = j
  · subst hkj
    obtain ⟨_, o, ho, hall⟩ := mem_ready.1 hj
    rw [hk] at ho; cases ho
    exact getD_set_true (hall e he hb)
  · rw [getD_set_ne false (Ne.symm hkj)] at hl
    exact getD_set_true (hc.2 k ok hk hl e he hb)
def needs (ops : Array Oper) : Nat → Nat → Nat → Bool
  | 0, j, i => Nat.beq j i
  | n + 1, j, i => Nat.beq j i || (match ops[j]? with | some o => o.after.any (fun e => Region.binds .any e && Nat.beq e.on i) || o.after.any (fun e => Region.binds .any e && needs ops n e.on i) | none => false)
theorem needs_spec {i : Nat} {listed : Array Bool} (hc : Closed ops listed) : ∀ (n j : Nat), needs ops n j i = true → listed.getD j false = true → listed.getD i false = true
  | 0, j, h, hj => by rw [← Nat.eq_of_beq_eq_true h]; exact hj
  | n + 1, j, h, hj => by
    unfold needs at h
    rw [Bool.or_eq_true] at h
    rcases h with h | h
    · rw [← Nat.eq_of_beq_eq_true h]; exact hj
    · cases ho : ops[j]? with
      | none => rw [ho] at h; cases h
      | some o =>
        rw [ho] at h
        simp only [Bool.or_eq_true] at h
        rcases h with h | h
        · obtain ⟨e, he, hb⟩ := Array.any_eq_true'.1 h
          rw [Bool.and_eq_true] at hb
          rw [← Nat.eq_of_beq_eq_true hb.2]
          exact hc.2 j o ho hj e he hb.1
        · obtain ⟨e, he, hb⟩ := Array.any_eq_true'.1 h
          rw [Bool.and_eq_true] at hb
          exact needs_spec hc n e.on hb.2 (hc.2 j o ho hj e he hb.1)
theorem wpAnyB_first {jb i : Nat} {oi : Oper} {v : Value} (hi : ops[i]? = some oi) (hsel : ∀ (j : Nat) (o : Oper) cs b, ops[j]? = some o → o.op ≠ .select cs b)
    (hQ : ∀ c a w, Q (.panic c) (a.put oi.dst v) w → Q (.panic c) a w) (hne : i ≠ jb) (hneed : ∀ listed, Closed ops listed → listed.getD jb false = true → listed.getD i false = true) :
    ∀ (fuel : Nat) (listed : Array Bool) (a : Act) (w : World), Closed ops listed →
      (∀ j oj, ops[j]? = some oj → j ≠ i → listed.getD j true = false → (∀ e ∈ oj.after, Region.binds .any e = true → e.on ≠ i) → oi.apart ops oj = true) →
      i ∈ Region.ready .any ops listed → YieldsIf P ops S oi v a → S w →
      wpAnyB P ops Q S jb fuel (listed.setIfInBounds i true) (a.put oi.dst v) w → wpAnyB P ops Q S jb (fuel + 1) listed a w := by
  intro fuel
  induction fuel with
  | zero =>
    intro listed a w hcl _ hr hy hS H
    refine ⟨fun h => (by rw [h] at hr; cases hr), fun j hj => ?_⟩
    by_cases hji : j = i
    · subst hji; exact hy.wpOp hi hS ⟨fun _ => hS, H⟩
    · have := ready_mono hj hji
      rw [H.1] at this
      cases this
  | succ fuel ih =>
    intro listed a w hcl hfree hr hy hS H
    refine ⟨fun h => (by rw [h] at hr; cases hr), fun j hj => ?_⟩
    by_cases hji : j = i
    · subst hji; exact hy.wpOp hi hS ⟨fun _ => hS, H⟩
    · have h1 := H.2 j (ready_mono hj hji)
      obtain ⟨hjun, oj, hoj, hall⟩ := mem_ready.1 hj
      have hiun := (mem_ready.1 hr).1
      have hif : ∀ l : Array Bool, l.getD i true = false → l.getD i false = false := fun l h => by
        rcases Nat.lt_or_ge i l.size with h' | h'
        · simp [h'] at h ⊢; exact h
        · simp [Array.getElem?_eq_none h']
      have hnot : ∀ e ∈ oj.after, Region.binds .any e = true → e.on ≠ i := fun e he hb heq => by
        have h1 := hall e he hb
        rw [heq, hif _ hiun] at h1; cases h1
      have hcl' := closed_set hcl hj
      have hiun' : (listed.setIfInBounds j true).getD i true = false := by rw [getD_set_ne true hji]; exact hiun
      have hjbun : (listed.setIfInBounds j true).getD jb false = false := by
        cases hb : (listed.setIfInBounds j true).getD jb false with
        | false => rfl
        | true => have := hneed _ hcl' hb; rw [hif _ hiun'] at this; cases this
      have hjbun2 : ((listed.setIfInBounds i true).setIfInBounds j true).getD jb false = false := by
        rw [Array.setIfInBounds_comm _ _ (Ne.symm hji), getD_set_ne false hne]; exact hjbun
      have h2 := wpOp_putIf hoj (hfree j oj hoj hji hjun hnot) (fun cs b => hsel i oi cs b hi) (fun cs b => hsel j oj cs b hoj) hQ hy h1
      have hfree' : ∀ k ok, ops[k]? = some ok → k ≠ i → (listed.setIfInBounds j true).getD k true = false →
          (∀ e ∈ ok.after, Region.binds .any e = true → e.on ≠ i) → oi.apart ops ok = true := fun k ok hk hki hun hno => by
        refine hfree k ok hk hki ?_ hno
        by_cases hjk : j = k
        · subst hjk; exact hjun
        · rw [getD_set_ne true hjk] at hun; exact hun
      refine wpOp_mono (fun a' w' h3 => ⟨fun _ => h3.2.1 hjbun2, ih (listed.setIfInBounds j true) a' w' hcl' hfree' (ready_mono hr (Ne.symm hji)) h3.1 (h3.2.1 hjbun2) ?_⟩) h2
      rw [Array.setIfInBounds_comm _ _ hji]
      exact h3.2.2
def barOf (n : Nat) : List (Nat × Bool) → Nat
  | [] => n
  | [(i, b)] => if b then n else i
  | _ :: x :: L => barOf n (x :: L)
def chkB (ops : Array Oper) (jb : Nat) : Nat → Array Bool → List (Nat × Bool) → Bool
  | _, listed, [] => (Region.ready .any ops listed).isEmpty
  | 0, _, _ :: _ => false
  | n + 1, listed, (i, true) :: L => !Nat.beq i jb && (Nat.ble ops.size jb || needs ops 8 jb i) && Region.free .any ops listed i && (Region.ready .any ops listed).contains i && chkB ops jb n (listed.setIfInBounds i true) L
  | n + 1, listed, (i, false) :: L => (Region.ready .any ops listed == [i]) && ((listed.setIfInBounds i true).getD jb false || stab L) && chkB ops jb n (listed.setIfInBounds i true) L
def chk (ops : Array Oper) (n : Nat) (listed : Array Bool) (L : List (Nat × Bool)) : Bool := chkB ops (barOf ops.size L) n listed L
theorem hneed_of {jb i : Nat} (h : (Nat.ble ops.size jb || needs ops 8 jb i) = true) : ∀ listed, Closed ops listed → listed.getD jb false = true → listed.getD i false = true := fun listed hc hj => by
  rw [Bool.or_eq_true] at h
  rcases h with h | h
  · have := Nat.le_of_ble_eq_true h
    rw [Array.getD_eq_getD_getElem?, Array.getElem?_eq_none (by rw [hc.1]; exact this)] at hj
    cases hj
  · exact needs_spec hc _ _ h hj
theorem gol_drawn (hs : Region.noSelect ops = true) (hQ : ∀ c a d v w, Q (.panic c) (Act.put a d v) w → Q (.panic c) a w) {jb : Nat} :
    ∀ (n : Nat) (listed : Array Bool) (L : List (Nat × Bool)) (a : Act) (w : World), chkB ops jb n listed L = true → Closed ops listed → (stab L = true → S w) → GoL P ops S Q L a w →
      wpAnyB P ops Q S jb n listed a w
  | n, listed, [], a, w, hc, _, _, h => by
    have hr : Region.ready .any ops listed = [] := by simpa [chkB] using hc
    cases n with
    | zero => exact ⟨hr, h⟩
    | succ n => exact ⟨fun _ => h, by rw [hr]; simp⟩
  | 0, _, x :: L, a, w, hc, _, _, _ => by cases hc
  | n + 1, listed, (i, true) :: L, a, w, hc, hcl, hS, h => by
    simp only [chkB, Bool.and_eq_true] at hc
    obtain ⟨⟨⟨⟨h1, h2⟩, h3⟩, h4⟩, h5⟩ := hc
    obtain ⟨o, v, hi, hy, h⟩ := h
    have hr : i ∈ Region.ready .any ops listed := by simpa using h4
    have hSw := hS rfl
    refine wpAnyB_first hi (Region.noSelect_spec hs) (fun c a w hq => hQ c a _ _ w hq) (fun e => by subst e; simp at h1) (hneed_of h2) n listed a w hcl (Region.free_spec hi h3) hr hy hSw (gol_drawn hs hQ n _ L _ w h5 (closed_set hcl hr) (fun _ => hSw) h)
  | n + 1, listed, (i, false) :: L, a, w, hc, hcl, hS, h => by
    simp only [chkB, Bool.and_eq_true, beq_iff_eq] at hc
    obtain ⟨⟨h1, h2⟩, h3⟩ := hc
    have hr : i ∈ Region.ready .any ops listed := by rw [h1]; simp
    refine ⟨fun h0 => (by rw [h0] at h1; cases h1), fun j hj => ?_⟩
    rw [h1, List.mem_singleton] at hj
    subst hj
    refine wpOp_mono (fun a' w' h' => ⟨fun hb => h'.1 ?_, gol_drawn hs hQ n _ L a' w' h3 (closed_set hcl hr) h'.1 h'.2⟩) h
    rw [hb] at h2
    simpa using h2
theorem closed_none (ops : Array Oper) : Closed ops (Array.replicate ops.size false) := ⟨by simp, fun k ok _ hl => by
  rcases Nat.lt_or_ge k ops.size with h | h
  · simp [h] at hl
  · simp [Array.getElem?_eq_none, h] at hl⟩
end
/-! ### Frames as lists of slots -/
abbrev Env := List (Nat × Value)
def look : Env → Nat → Option Value
  | [], _ => none
  | (t, v) :: e, u => bif Nat.beq t u then some v else look e u
structure St (N : Nat) (env : Env) (a : Act) : Prop where
  size : a.tmps.size = N
  defers : a.defers = []
  slot : ∀ t v, look env t = some v → a.tmps[t]? = some v
def putE (d : Option Nat) (v : Value) (env : Env) : Env := match d with | some t => (t, v) :: env | none => env
def dOk (N : Nat) (d : Option Nat) : Bool := match d with | some t => Nat.blt t N | none => true
theorem St.put {N : Nat} {env : Env} {a : Act} (h : St N env a) {d : Option Nat} (hd : dOk N d = true) (v : Value) : St N (putE d v env) (a.put d v) := by
  cases d with
  | none => exact ⟨h.size, h.defers, h.slot⟩
  | some t =>
    have ht : t < N := by have h : t + 1 ≤ N := by simpa [dOk, Nat.blt] using hd
                          omega
    refine ⟨by simp [Act.put, h.size], h.defers, fun u x hx => ?_⟩
    simp only [putE, look] at hx
    simp only [Act.put, Array.getElem?_setIfInBounds]
    by_cases e : t = u
    · subst e
      simp at hx
      simp [h.size, ht, hx]
    · have e' : Nat.beq t u = false := by
        cases hb : Nat.beq t u with
        | false => rfl
        | true => exact absurd (Nat.eq_of_beq_eq_true hb) e
      rw [e'] at hx
      simp only [cond_false] at hx
      simp [e, h.slot u x hx]
def ev (env : Env) : Operand → Option Value
  | .tmp t => look env t
  | .const v => some v
  | .func g => some (.func (.func g) #[] #[])
  | .global g => some (.pointer (some ⟨g, 0, none⟩))
theorem St.ev {N : Nat} {env : Env} {a : Act} (h : St N env a) {x : Operand} {v : Value} (hx : ev env x = some v) : a.eval x = v := by
  cases x with
  | tmp t =>
    have := h.slot t v hx
    simp only [Act.eval]
    rw [Array.getD_eq_getD_getElem?, this]; rfl
  | const u => simpa [K.ev, Act.eval] using hx
  | func g => simpa [K.ev, Act.eval] using hx
  | global g => simpa [K.ev, Act.eval] using hx
def evs (env : Env) : List Operand → Option (List Value)
  | [] => some []
  | x :: l => match ev env x, evs env l with | some v, some r => some (v :: r) | _, _ => none
theorem St.evs {N : Nat} {env : Env} {a : Act} (h : St N env a) : ∀ {l : List Operand} {vs : List Value}, evs env l = some vs → l.map a.eval = vs
  | [], vs, hl => by simpa [K.evs] using hl
  | x :: l, vs, hl => by
    simp only [K.evs] at hl
    cases hx : K.ev env x with
    | none => rw [hx] at hl; cases hl
    | some v =>
      cases hr : K.evs env l with
      | none => rw [hx, hr] at hl; cases hl
      | some r =>
        rw [hx, hr] at hl
        simp only [Option.some.injEq] at hl
        subst hl
        simp [h.ev hx, h.evs hr]
def Sub (env' env : Env) : Prop := ∀ t v, look env' t = some v → look env t = some v
theorem sub_nil (env : Env) : Sub [] env := fun t v h => by cases h
theorem sub_cons (t : Nat) {u v : Value} {env' env : Env} (hl : look env t = some u) (hv : u = v) (h : Sub env' env) : Sub ((t, v) :: env') env := by
  subst hv
  intro s x hx
  simp only [look] at hx
  cases hb : Nat.beq t s with
  | true =>
    rw [hb] at hx
    simp only [cond_true, Option.some.injEq] at hx
    rw [← Nat.eq_of_beq_eq_true hb, hl, hx]
  | false => rw [hb] at hx; exact h s x hx
theorem Sub.refl (env : Env) : Sub env env := fun _ _ h => h
theorem St.sub {N : Nat} {env env' : Env} {a : Act} (h : St N env a) (hs : Sub env' env) : St N env' a := ⟨h.size, h.defers, fun t v ht => h.slot t v (hs t v ht)⟩
def Run (P : Program) (f : FuncId) (N : Nat) (k : List Item) (env : Env) (w : World) (R : Value → World → Prop) : Prop :=
  ∀ a, St N env a → Runs P f k a w R
def SchQ (P : Program) (N : Nat) (Q : Exit → Act → World → Prop) (ops : Array Oper) (S : World → Prop) (L : List (Nat × Bool)) (env : Env) (w : World) : Prop :=
  ∀ a, St N env a → GoL P ops S Q L a w
abbrev Sch (P : Program) (f : FuncId) (N : Nat) (k : List Item) (R : Value → World → Prop) (ops : Array Oper) (S : World → Prop) (L : List (Nat × Bool)) (env : Env) (w : World) : Prop :=
  SchQ P N (QK P f k R) ops S L env w
section
variable {P : Program} {f : FuncId} {N : Nat} {k : List Item} {env : Env} {w : World} {R : Value → World → Prop}
theorem Run.sub {env' : Env} (hs : Sub env' env) (h : Run P f N k env' w R) : Run P f N k env w R := fun a ha => h a (ha.sub hs)
theorem run_seq {c x y : Code} (hc : c = .seq x y) (h : Run P f N (.code x :: .code y :: k) env w R) : Run P f N (.code c :: k) env w R := fun a ha => by
  subst hc; exact Runs.step (fun _ => step_seq) (h a ha)
theorem run_block {c x : Code} {id : Nat} (hc : c = .block id x) (h : Run P f N (.code x :: .inBlock id :: k) env w R) : Run P f N (.code c :: k) env w R := fun a ha => by
  subst hc; exact Runs.step (fun _ => step_block) (h a ha)
theorem run_inBlock {id : Nat} (h : Run P f N k env w R) : Run P f N (.inBlock id :: k) env w R := fun a ha =>
  Runs.step (fun _ => step_inBlock) (h a ha)
theorem run_skip {c : Code} (hc : c = .skip) (h : Run P f N k env w R) : Run P f N (.code c :: k) env w R := fun a ha => by
  subst hc; exact Runs.step (fun _ => step_skip) (h a ha)
theorem run_exit {c : Code} {id : Nat} {k' : List Item} (hc : c = .exit id) (hk : exitTo id k = some k') (h : Run P f N k' env w R) : Run P f N (.code c :: k) env w R := fun a ha => by
  subst hc; exact Runs.step (fun _ => step_exit hk) (h a ha)
theorem run_cond {c x y : Code} {o : Operand} {b : Bool} (hc : c = .cond o x y) (hv : ev env o = some (.bool b))
    (ht : b = true → Run P f N (.code x :: k) env w R) (hf : b = false → Run P f N (.code y :: k) env w R) : Run P f N (.code c :: k) env w R := fun a ha => by
  subst hc
  have := ha.ev hv
  cases b with
  | true => exact Runs.step (fun _ => step_cond this) (ht rfl a ha)
  | false => exact Runs.step (fun _ => step_cond this) (hf rfl a ha)
theorem run_if {c x y : Code} {o : Operand} {p : Prop} [Decidable p] (hc : c = .cond o x y) (hv : ev env o = some (.bool (decide p)))
    (ht : p → Run P f N (.code x :: k) env w R) (hf : ¬ p → Run P f N (.code y :: k) env w R) : Run P f N (.code c :: k) env w R :=
  run_cond hc hv (fun h => ht (of_decide_eq_true h)) (fun h => hf (of_decide_eq_false h))
theorem run_loop {c body : Code} {ι : Type} (I : ι → World → Prop) (e : ι → Env) (m : ι → Nat) (x₀ : ι) (hc : c = .loop body)
    (hs : Sub (e x₀) env) (h0 : I x₀ w)
    (hr : ∀ x w, I x w → (∀ y w', I y w' → m y < m x → Run P f N (.inLoop body :: k) (e y) w' R) → Run P f N (.code body :: .inLoop body :: k) (e x) w R) :
    Run P f N (.code c :: k) env w R := by
  subst hc
  have main : ∀ n x w, m x ≤ n → I x w → Run P f N (.inLoop body :: k) (e x) w R := by
    intro n
    induction n with
    | zero =>
      intro x w hm hI a ha
      exact Runs.step (fun _ => step_inLoop) (hr x w hI (fun y w' hy hlt => by omega) a ha)
    | succ n ih =>
      intro x w hm hI a ha
      exact Runs.step (fun _ => step_inLoop) (hr x w hI (fun y w' hy hlt => ih y w' (by omega) hy) a ha)
  intro a ha
  exact Runs.step (fun _ => step_loop) (hr x₀ w h0 (fun y w' hy hlt => main (m y) y w' (Nat.le_refl _) hy) a (ha.sub hs))
theorem run_ret1 {c : Code} {fn : Func} {t : Nat} {v : Value} (hc : c = .ret) (hf : P.funcs[f]? = some fn) (hres : fn.results = #[.tmp t]) (hv : look env t = some v)
    (hR : R v w) : Run P f N (.code c :: k) env w R := fun a ha => by
  subst hc
  refine runs_ret hf ha.defers ?_ hR
  have := ha.slot t v hv
  simp only [results, hres]
  simp [this, Sem.run, pure, Array.getD_eq_getD_getElem?]
theorem run_ret0 {c : Code} {fn : Func} (hc : c = .ret) (hf : P.funcs[f]? = some fn) (hres : fn.results = #[])
    (hR : R (.tuple #[]) w) : Run P f N (.code c :: k) env w R := fun a ha => by
  subst hc
  refine runs_ret hf ha.defers ?_ hR
  simp [results, hres, Sem.run, pure]
theorem run_ret2 {c : Code} {fn : Func} {t u : Nat} {v x : Value} (hc : c = .ret) (hf : P.funcs[f]? = some fn) (hres : fn.results = #[.tmp t, .tmp u]) (hv : look env t = some v) (hx : look env u = some x)
    (hR : R (.tuple #[v, x]) w) : Run P f N (.code c :: k) env w R := fun a ha => by
  subst hc
  refine runs_ret hf ha.defers ?_ hR
  rw [results_tmp2 hres]
  have h1 := ha.slot t v hv
  have h2 := ha.slot u x hx
  simp [h1, h2, Array.getD_eq_getD_getElem?]
/-! ### Regions -/
theorem run_plain {c : Code} {id : Nat} {ops : Array Oper} (L : List (Nat × Bool)) (hc : c = .region id ops false)
    (hL : L.map (·.1) = List.range ops.size) (h : Sch P f N k R ops (fun _ => True) L env w) : Run P f N (.code c :: k) env w R := fun a ha => by
  subst hc
  exact runs_of_wp (wp_region (by rw [← hL]; exact gol_plain L a w (h a ha)))
theorem run_drawn {c : Code} {id : Nat} {ops : Array Oper} (S : World → Prop) (L : List (Nat × Bool)) (hm : P.follows .mixedOrders = true) (hc : c = .region id ops true)
    (hn : Region.noSelect ops = true) (hk : chk ops ops.size (Array.replicate ops.size false) L = true) (hS : S { w with drawn := w.drawn + 1 })
    (h : Sch P f N k R ops S L env { w with drawn := w.drawn + 1 }) : Run P f N (.code c :: k) env w R := fun a ha => by
  subst hc
  exact runs_of_wp (wp_region_any hm (wpAny_of_bar _ _ _ _ (gol_drawn hn (fun c a d v w h => h.elim) _ _ L a _ hk (closed_none ops) (fun _ => hS) (h a ha))))
def opAt (ops : Array Oper) (i : Nat) : Option (Option Tmp × Op × Option (Nat × Bool)) := (ops[i]?).map fun o => (o.dst, o.op, o.guard)
def dstAt (ops : Array Oper) (i : Nat) : Option Tmp := (ops[i]?).bind (·.dst)
def Val (P : Program) (N : Nat) (env : Env) (op : Op) (w : World) (v : Value) : Prop :=
  ∀ a, St N env a → ∀ o : Oper, o.op = op → (execOp a.eval o).run P w = .ok (.value v) w
variable {Q : Exit → Act → World → Prop} {ops : Array Oper} {S : World → Prop} {i : Nat} {L : List (Nat × Bool)} {d : Option Nat} {op : Op} {v : Value}
theorem Sch.free (hs : lastB L = true) (h : SchQ P N Q ops (fun _ => True) L env w) : SchQ P N Q ops S L env w := fun a ha => gol_free L a w hs (h a ha)
theorem Sch.nil (h : Run P f N k env w R) : Sch P f N k R ops S [] env w := fun a ha => h a ha
theorem opAt_spec {g : Option (Nat × Bool)} (h : opAt ops i = some (d, op, g)) : ∃ o, ops[i]? = some o ∧ o.dst = d ∧ o.op = op ∧ o.guard = g := by
  unfold opAt at h
  cases ho : ops[i]? with
  | none => rw [ho] at h; cases h
  | some o =>
    rw [ho] at h
    simp only [Option.map_some, Option.some.injEq, Prod.mk.injEq] at h
    exact ⟨o, rfl, h⟩
def wantedE (ops : Array Oper) (env : Env) : Option (Nat × Bool) → Option Bool
  | none => some true
  | some (j, want) => match dstAt ops j with
    | none => some false
    | some t => match look env t with
      | none => none
      | some (.bool b) => some (b == want)
      | some _ => some false
theorem St.wanted {a : Act} (ha : St N env a) {o : Oper} {b : Bool} (h : wantedE ops env o.guard = some b) : Region.wanted o (yielded ops a.tmps) = b := by
  unfold Region.wanted
  cases hg : o.guard with
  | none => rw [hg] at h; simpa [wantedE] using h
  | some p =>
    obtain ⟨j, want⟩ := p
    rw [hg] at h
    simp only [wantedE, dstAt] at h
    simp only [yielded]
    cases hj : (ops[j]?).bind (·.dst) with
    | none => rw [hj] at h; simp only [Option.some.injEq] at h; subst h; rfl
    | some t =>
      rw [hj] at h
      simp only at h
      cases hl : look env t with
      | none => rw [hl] at h; cases h
      | some u =>
        rw [hl] at h
        have := ha.slot t u hl
        simp only [Option.bind_some, this]
        cases u <;> simp only [Option.some.injEq] at h <;> subst h <;> first | rfl | (rename_i x; cases x <;> cases want <;> rfl)
theorem Sch.yield {g : Option (Nat × Bool)} (hop : opAt ops i = some (d, op, g)) (hw : wantedE ops env g = some true) (hd : dOk N d = true)
    (hy : ∀ w', S w' → Val P N env op w' v) (h : SchQ P N Q ops S L (putE d v env) w) : SchQ P N Q ops S ((i, true) :: L) env w := fun a ha => by
  obtain ⟨o, ho, rfl, rfl, rfl⟩ := opAt_spec hop
  exact ⟨o, v, ho, .inl ⟨ha.wanted hw, fun w' hS => hy w' hS a ha o rfl⟩, h _ (ha.put hd v)⟩
theorem Sch.pass {g : Option (Nat × Bool)} (hop : opAt ops i = some (d, op, g)) (hw : wantedE ops env g = some false) (hd : dOk N d = true)
    (h : SchQ P N Q ops S L (putE d undef env) w) : SchQ P N Q ops S ((i, true) :: L) env w := fun a ha => by
  obtain ⟨o, ho, rfl, rfl, rfl⟩ := opAt_spec hop
  exact ⟨o, undef, ho, .inr ⟨ha.wanted hw, rfl⟩, h _ (ha.put hd undef)⟩
theorem Sch.passW {g : Option (Nat × Bool)} (hop : opAt ops i = some (d, op, g)) (hw : wantedE ops env g = some false) (hd : dOk N d = true) (hS : S w)
    (h : SchQ P N Q ops S L (putE d undef env) w) : SchQ P N Q ops S ((i, false) :: L) env w := fun a ha => by
  obtain ⟨o, ho, rfl, rfl, rfl⟩ := opAt_spec hop
  simp only [GoL, wpOp, ho, ha.wanted hw, Bool.false_eq_true, if_false]
  exact ⟨fun _ => hS, h _ (ha.put hd undef)⟩
def Acts (P : Program) (N : Nat) (env : Env) (op : Op) (w : World) (T : Value → World → Prop) : Prop :=
  ∀ a, St N env a → ∀ o : Oper, o.op = op → ∃ v w', ((execOp a.eval o).run P w = .ok (.value v) w' ∨ ((execOp a.eval o).run P w = .ok .skip w' ∧ v = undef)) ∧ T v w'
theorem Sch.act {g : Option (Nat × Bool)} {T : Value → World → Prop} (hop : opAt ops i = some (d, op, g)) (hw : wantedE ops env g = some true) (hd : dOk N d = true)
    (hy : Acts P N env op w T) (h : ∀ v w', T v w' → S w' ∧ SchQ P N Q ops S L (putE d v env) w') : SchQ P N Q ops S ((i, false) :: L) env w := fun a ha => by
  obtain ⟨o, ho, rfl, rfl, rfl⟩ := opAt_spec hop
  simp only [GoL, wpOp, ho, ha.wanted hw, if_true]
  obtain ⟨v, w', hrun, hT⟩ := hy a ha o rfl
  left
  unfold Oper.wp
  obtain ⟨h1, h2⟩ := h v w' hT
  rcases hrun with hrun | ⟨hrun, rfl⟩
  · rw [hrun]; exact ⟨fun _ => h1, h2 _ (ha.put hd v)⟩
  · rw [hrun]; exact ⟨fun _ => h1, h2 _ (ha.put hd undef)⟩
theorem Val.acts (h : Val P N env op w v) : Acts P N env op w (fun x w' => x = v ∧ w' = w) := fun a ha o ho => ⟨v, w, .inl (h a ha o ho), rfl, rfl⟩
theorem Sch.now {g : Option (Nat × Bool)} (hop : opAt ops i = some (d, op, g)) (hw : wantedE ops env g = some true) (hd : dOk N d = true) (hS : S w)
    (hy : Val P N env op w v) (h : SchQ P N Q ops S L (putE d v env) w) : SchQ P N Q ops S ((i, false) :: L) env w :=
  Sch.act hop hw hd hy.acts (by rintro _ _ ⟨rfl, rfl⟩; exact ⟨hS, h⟩)
def Enters (P : Program) (N : Nat) (env : Env) (op : Op) (w : World) (g : FuncId) (args : Array Value) : Prop :=
  ∀ a, St N env a → ∀ o : Oper, o.op = op → (execOp a.eval o).run P w = .ok (.enter g args) w
theorem Sch.call {gd : Option (Nat × Bool)} {g : FuncId} {args : Array Value} {T : Value → World → Prop} (hop : opAt ops i = some (d, op, gd)) (hw : wantedE ops env gd = some true) (hd : dOk N d = true)
    (hy : Enters P N env op w g args) (hc : Calls P g args w (Ret T))
    (h : ∀ v w', T v w' → S w' ∧ SchQ P N Q ops S L (putE d v env) w') : SchQ P N Q ops S ((i, false) :: L) env w := fun a ha => by
  obtain ⟨o, ho, rfl, rfl, rfl⟩ := opAt_spec hop
  simp only [GoL, wpOp, ho, ha.wanted hw, if_true]
  left
  unfold Oper.wp
  rw [hy a ha o rfl]
  simp only [Oper.upon]
  refine hc.mono fun e w' he => ?_
  obtain ⟨v, rfl, hT⟩ := he
  obtain ⟨h1, h2⟩ := h v w' hT
  exact ⟨fun _ => h1, h2 _ (ha.put hd v)⟩
end
theorem calls_body {P : Program} {f : FuncId} {fn : Func} {c : Code} {args : List Value} {N : Nat} {env : Env} {w : World} {R : Value → World → Prop}
    (hf : P.funcs[f]? = some fn) (hb : fn.body = some c) (hN : fn.ntmps = N) (hsz : Nat.ble args.length N = true) (he : ∀ t v, look env t = some v → args[t]? = some v)
    (h : Run P f N [.code c] env w R) : Calls P f args.toArray w (Ret R) := by
  refine calls_of_runs hf hb (h _ ?_)
  have : args.length ≤ N := Nat.le_of_ble_eq_true hsz
  refine ⟨by simp [hN]; omega, rfl, fun t v ht => ?_⟩
  have h1 := he t v ht
  have h2 : t < args.length := by
    rcases Nat.lt_or_ge t args.length with h | h
    · exact h
    · rw [List.getElem?_eq_none h] at h1; cases h1
  simp only
  rw [Array.getElem?_append_left (by simpa using h2)]
  simpa using h1
def argEnv : Nat → List Value → Env
  | _, [] => []
  | n, v :: l => (n, v) :: argEnv (n + 1) l
theorem look_argEnv : ∀ (l : List Value) (n t : Nat) (v : Value), look (argEnv n l) t = some v → n ≤ t ∧ l[t - n]? = some v
  | [], _, _, _, h => by cases h
  | x :: l, n, t, v, h => by
    simp only [argEnv, look] at h
    cases hb : Nat.beq n t with
    | true =>
      rw [hb] at h
      have e := Nat.eq_of_beq_eq_true hb
      subst e
      simp at h
      simp [h]
    | false =>
      rw [hb] at h
      have hne : n ≠ t := fun e => by subst e; simp at hb
      obtain ⟨h1, h2⟩ := look_argEnv l (n + 1) t v h
      refine ⟨by omega, ?_⟩
      have : t - n = (t - (n + 1)) + 1 := by omega
      rw [this]; simpa using h2
theorem calls_start {P : Program} {f : FuncId} {fn : Func} {c : Code} (args : List Value) {N : Nat} {w : World} {R : Value → World → Prop}
    (hf : P.funcs[f]? = some fn) (hb : fn.body = some c) (hN : fn.ntmps = N) (hsz : Nat.ble args.length N = true)
    (h : Run P f N [.code c] (argEnv 0 args) w R) : Calls P f args.toArray w (Ret R) :=
  calls_body hf hb hN hsz (fun t v ht => by simpa using (look_argEnv args 0 t v ht).2) h
end Go.K

/- What each operation yields: the ones that only compute. -/
set_option linter.unusedVariables false
set_option linter.unusedSimpArgs false
namespace Go.K
section
variable {P : Program} {N : Nat} {env : Env} {w : World} {x y z : Operand} {t u : TypeId} {k : IntKind} {m n : Int} {v : Value}
theorem mk' {op : Op} (h : ∀ ρ : Operand → Value, (∀ x v, ev env x = some v → ρ x = v) → ∀ o : Oper, o.op = op → (execOp ρ o).run P w = .ok (.value v) w) : Val P N env op w v :=
  fun a ha o ho => h a.eval (fun x v hx => ha.ev hx) o ho
theorem val_move (hx : ev env x = some v) : Val P N env (.move x) w v := mk' fun ρ hρ o ho => by
  unfold execOp; rw [ho]; simp [hρ _ _ hx, go_sem]
theorem val_assign (hx : ev env x = some v) : Val P N env (.assign x) w v := mk' fun ρ hρ o ho => by
  unfold execOp; rw [ho]; simp [hρ _ _ hx, go_sem]
theorem val_pick_t {v₁ : Value} (hx : ev env x = some (.bool true)) (hy : ev env y = some v₁) :
    Val P N env (.pick x y z) w v₁ := mk' fun ρ hρ o ho => by
  unfold execOp; rw [ho]; simp [hρ _ _ hx, hρ _ _ hy, go_sem, asBool]
theorem val_pick_f {v₂ : Value} (hx : ev env x = some (.bool false)) (hz : ev env z = some v₂) :
    Val P N env (.pick x y z) w v₂ := mk' fun ρ hρ o ho => by
  unfold execOp; rw [ho]; simp [hρ _ _ hx, hρ _ _ hz, go_sem, asBool]
theorem val_nilCheck {a : Addr} (hx : ev env x = some (.pointer (some a))) : Val P N env (.nilCheck x) w (.pointer (some a)) := mk' fun ρ hρ o ho => by
  unfold execOp; rw [ho]; simp [hρ _ _ hx, go_sem]
theorem val_extract {vs : Array Value} {i : Nat} (hx : ev env x = some (.tuple vs)) (hv : vs[i]? = some v) : Val P N env (.extract x i) w v := mk' fun ρ hρ o ho => by
  unfold execOp; rw [ho]; simp [hρ _ _ hx, go_sem, Instr.extract, hv]
theorem run_eqGuard_int (op : BinOp) (t : TypeId) (x y : Operand) (k j : IntKind) (m n : Int) (w : World) :
    (eqGuard op t x y (.int k m) (.int j n)).run P w = .ok () w := by
  unfold eqGuard; simp [go_sem]
theorem val_add (hx : ev env x = some (.int k m)) (hy : ev env y = some (.int k n)) : Val P N env (.binOp .add t x y u) w (.int k (k.wrap (m + n))) := mk' fun ρ hρ o ho => by
  unfold execOp; rw [ho]; simp [hρ _ _ hx, hρ _ _ hy, go_sem, run_eqGuard_int, binOp, Op.intArith]
theorem val_sub (hx : ev env x = some (.int k m)) (hy : ev env y = some (.int k n)) : Val P N env (.binOp .sub t x y u) w (.int k (k.wrap (m - n))) := mk' fun ρ hρ o ho => by
  unfold execOp; rw [ho]; simp [hρ _ _ hx, hρ _ _ hy, go_sem, run_eqGuard_int, binOp, Op.intArith]
theorem val_mul (hx : ev env x = some (.int k m)) (hy : ev env y = some (.int k n)) : Val P N env (.binOp .mul t x y u) w (.int k (k.wrap (m * n))) := mk' fun ρ hρ o ho => by
  unfold execOp; rw [ho]; simp [hρ _ _ hx, hρ _ _ hy, go_sem, run_eqGuard_int, binOp, Op.intArith]
theorem val_quo (hx : ev env x = some (.int k m)) (hy : ev env y = some (.int k n)) (hn : n ≠ 0) : Val P N env (.binOp .quo t x y u) w (.int k (k.wrap (m.tdiv n))) := mk' fun ρ hρ o ho => by
  unfold execOp; rw [ho]; simp [hρ _ _ hx, hρ _ _ hy, go_sem, run_eqGuard_int, binOp, Op.intDiv, hn]
theorem val_rem (hx : ev env x = some (.int k m)) (hy : ev env y = some (.int k n)) (hn : n ≠ 0) : Val P N env (.binOp .rem t x y u) w (.int k (m.tmod n)) := mk' fun ρ hρ o ho => by
  unfold execOp; rw [ho]; simp [hρ _ _ hx, hρ _ _ hy, go_sem, run_eqGuard_int, binOp, Op.intDiv, hn]
theorem val_lss (hx : ev env x = some (.int k m)) (hy : ev env y = some (.int k n)) : Val P N env (.binOp .lss t x y u) w (.bool (decide (m < n))) := mk' fun ρ hρ o ho => by
  unfold execOp; rw [ho]; simp [hρ _ _ hx, hρ _ _ hy, go_sem, run_eqGuard_int, binOp, Op.intCmp]
theorem val_leq (hx : ev env x = some (.int k m)) (hy : ev env y = some (.int k n)) : Val P N env (.binOp .leq t x y u) w (.bool (decide (m ≤ n))) := mk' fun ρ hρ o ho => by
  unfold execOp; rw [ho]; simp [hρ _ _ hx, hρ _ _ hy, go_sem, run_eqGuard_int, binOp, Op.intCmp]
theorem val_gtr (hx : ev env x = some (.int k m)) (hy : ev env y = some (.int k n)) : Val P N env (.binOp .gtr t x y u) w (.bool (decide (n < m))) := mk' fun ρ hρ o ho => by
  unfold execOp; rw [ho]; simp [hρ _ _ hx, hρ _ _ hy, go_sem, run_eqGuard_int, binOp, Op.intCmp]
theorem val_geq (hx : ev env x = some (.int k m)) (hy : ev env y = some (.int k n)) : Val P N env (.binOp .geq t x y u) w (.bool (decide (n ≤ m))) := mk' fun ρ hρ o ho => by
  unfold execOp; rw [ho]; simp [hρ _ _ hx, hρ _ _ hy, go_sem, run_eqGuard_int, binOp, Op.intCmp]
theorem val_eql (hx : ev env x = some (.int k m)) (hy : ev env y = some (.int k n)) : Val P N env (.binOp .eql t x y u) w (.bool (decide (m = n))) := mk' fun ρ hρ o ho => by
  unfold execOp; rw [ho]; simp [hρ _ _ hx, hρ _ _ hy, go_sem, run_eqGuard_int, binOp, Op.intCmp]; rfl
theorem val_neq (hx : ev env x = some (.int k m)) (hy : ev env y = some (.int k n)) : Val P N env (.binOp .neq t x y u) w (.bool (decide (m ≠ n))) := mk' fun ρ hρ o ho => by
  unfold execOp; rw [ho]; simp [hρ _ _ hx, hρ _ _ hy, go_sem, run_eqGuard_int, binOp, Op.intCmp]
  by_cases h : m = n <;> simp [h]
def bitsOf (op : BinOp) (k : IntKind) (m n : Int) : Int :=
  k.wrap ((match op with
    | .and => BitVec.ofInt k.bits m &&& BitVec.ofInt k.bits n
    | .or => BitVec.ofInt k.bits m ||| BitVec.ofInt k.bits n
    | .xor => BitVec.ofInt k.bits m ^^^ BitVec.ofInt k.bits n
    | _ => BitVec.ofInt k.bits m &&& ~~~(BitVec.ofInt k.bits n) : BitVec k.bits).toNat)
theorem val_and (hx : ev env x = some (.int k m)) (hy : ev env y = some (.int k n)) : Val P N env (.binOp .and t x y u) w (.int k (bitsOf .and k m n)) := mk' fun ρ hρ o ho => by
  unfold execOp; rw [ho]; simp [hρ _ _ hx, hρ _ _ hy, Sem.run_bind, Sem.run_pure, run_eqGuard_int, binOp, Op.intBits, bitsOf]
theorem val_or (hx : ev env x = some (.int k m)) (hy : ev env y = some (.int k n)) : Val P N env (.binOp .or t x y u) w (.int k (bitsOf .or k m n)) := mk' fun ρ hρ o ho => by
  unfold execOp; rw [ho]; simp [hρ _ _ hx, hρ _ _ hy, Sem.run_bind, Sem.run_pure, run_eqGuard_int, binOp, Op.intBits, bitsOf]
theorem val_xor (hx : ev env x = some (.int k m)) (hy : ev env y = some (.int k n)) : Val P N env (.binOp .xor t x y u) w (.int k (bitsOf .xor k m n)) := mk' fun ρ hρ o ho => by
  unfold execOp; rw [ho]; simp [hρ _ _ hx, hρ _ _ hy, Sem.run_bind, Sem.run_pure, run_eqGuard_int, binOp, Op.intBits, bitsOf]
theorem val_shl {j : IntKind} (hx : ev env x = some (.int k m)) (hy : ev env y = some (.int j n)) (hn : 0 ≤ n) :
    Val P N env (.binOp .shl t x y u) w (.int k (k.wrap (m * 2 ^ min n.toNat k.bits))) := mk' fun ρ hρ o ho => by
  have : ¬ n < 0 := by omega
  unfold execOp; rw [ho]; simp [hρ _ _ hx, hρ _ _ hy, Sem.run_bind, Sem.run_pure, run_eqGuard_int, binOp, Op.shift, this]
theorem val_shr {j : IntKind} (hx : ev env x = some (.int k m)) (hy : ev env y = some (.int j n)) (hn : 0 ≤ n) :
    Val P N env (.binOp .shr t x y u) w (.int k (m.fdiv (2 ^ min n.toNat k.bits))) := mk' fun ρ hρ o ho => by
  have : ¬ n < 0 := by omega
  unfold execOp; rw [ho]; simp [hρ _ _ hx, hρ _ _ hy, Sem.run_bind, Sem.run_pure, run_eqGuard_int, binOp, Op.shift, this]
theorem val_not {b : Bool} (hx : ev env x = some (.bool b)) : Val P N env (.unOp .not t x) w (.bool (!b)) := mk' fun ρ hρ o ho => by
  unfold execOp; rw [ho]; simp [hρ _ _ hx, go_sem, Op.unary]
theorem val_notd {p : Prop} [Decidable p] (hx : ev env x = some (.bool (decide p))) : Val P N env (.unOp .not t x) w (.bool (decide (¬ p))) := mk' fun ρ hρ o ho => by
  unfold execOp; rw [ho]; simp [hρ _ _ hx, go_sem, Op.unary]
theorem val_conv_int {j : IntKind} (hx : ev env x = some (.int j m)) (ht : ∃ d, P.underlying t = some d) (hu : P.underlying u = some (.int k)) : Val P N env (.convert t u x) w (.int k (k.wrap m)) := mk' fun ρ hρ o ho => by
  obtain ⟨d, hd⟩ := ht
  unfold execOp; rw [ho]; simp [hρ _ _ hx, go_sem, convert, run_underlying hd, run_underlying hu, Conv.intToInt]
theorem val_len_slice {b : Option Addr} {c l : Nat} {e : TypeId} (hx : ev env x = some (.slice b l c)) (ht : P.underlying t = some (.slice e)) :
    Val P N env (.call { callee := .builtin .len, args := #[x], argTypes := #[t] }) w (.int .i64 l) := mk' fun ρ hρ o ho => by
  unfold execOp; rw [ho]; simp [hρ _ _ hx, go_sem, resolve, invoke, builtin, Builtin.len_, run_underlying ht, goInt]
theorem val_len_string {s : ByteArray} (hx : ev env x = some (.string s)) (ht : P.underlying t = some .string) :
    Val P N env (.call { callee := .builtin .len, args := #[x], argTypes := #[t] }) w (.int .i64 s.size) := mk' fun ρ hρ o ho => by
  unfold execOp; rw [ho]; simp [hρ _ _ hx, go_sem, resolve, invoke, builtin, Builtin.len_, run_underlying ht, goInt]
theorem enters_func {g : FuncId} {xs : Array Operand} {ts : Array TypeId} {vs : List Value} {cap : Array Value} {w : World}
    (hcall : ∀ args w, (callFunc g args).run P w = .ok (.enter g args) w) (hx : ev env x = some (.func (.func g) #[] cap)) (hargs : evs env xs.toList = some vs) :
    Enters P N env (.call { callee := .value x, args := xs, argTypes := ts }) w g (vs ++ cap.toList).toArray := fun a ha o ho => by
  have h1 : xs.map a.eval = vs.toArray := by
    rw [← ha.evs hargs, ← List.map_toArray]
  unfold execOp; rw [ho]
  simp only [resolve, Deferred.ofValue, ha.ev hx, h1, Sem.run_bind, Sem.run_pure, Result.andThen_ok, invoke]
  rw [hcall]
  simp
end
theorem wrap_i64 {n : Int} (h1 : -9223372036854775808 ≤ n) (h2 : n ≤ 9223372036854775807) : IntKind.i64.wrap n = n := IntWalk.i64_in n ⟨h1, h2⟩
theorem eq_int {k : IntKind} {a b : Int} (h : a = b) : Value.int k a = Value.int k b := by rw [h]
section
variable {P : Program} {N : Nat} {env : Env} {w : World} {x y : Operand} {t u : TypeId} {m n : Int}
theorem val_addi (hx : ev env x = some (.int .i64 m)) (hy : ev env y = some (.int .i64 n)) (h1 : -9223372036854775808 ≤ m + n) (h2 : m + n ≤ 9223372036854775807) :
    Val P N env (.binOp .add t x y u) w (.int .i64 (m + n)) := by
  have := val_add (P := P) (N := N) (w := w) (t := t) (u := u) hx hy; rwa [wrap_i64 h1 h2] at this
theorem val_subi (hx : ev env x = some (.int .i64 m)) (hy : ev env y = some (.int .i64 n)) (h1 : -9223372036854775808 ≤ m - n) (h2 : m - n ≤ 9223372036854775807) :
    Val P N env (.binOp .sub t x y u) w (.int .i64 (m - n)) := by
  have := val_sub (P := P) (N := N) (w := w) (t := t) (u := u) hx hy; rwa [wrap_i64 h1 h2] at this
theorem val_muli (hx : ev env x = some (.int .i64 m)) (hy : ev env y = some (.int .i64 n)) (h1 : -9223372036854775808 ≤ m * n) (h2 : m * n ≤ 9223372036854775807) :
    Val P N env (.binOp .mul t x y u) w (.int .i64 (m * n)) := by
  have := val_mul (P := P) (N := N) (w := w) (t := t) (u := u) hx hy; rwa [wrap_i64 h1 h2] at this
theorem val_divi (hx : ev env x = some (.int .i64 m)) (hy : ev env y = some (.int .i64 n)) (h0 : 0 ≤ m) (h1 : 1 ≤ n) (h2 : m ≤ 9223372036854775807) :
    Val P N env (.binOp .quo t x y u) w (.int .i64 (m / n)) := by
  have := val_quo (P := P) (N := N) (w := w) (t := t) (u := u) hx hy (by omega)
  have h3 : m / n ≤ m := Int.ediv_le_self _ h0
  have h4 : 0 ≤ m / n := Int.ediv_nonneg h0 (by omega)
  rwa [Int.tdiv_eq_ediv_of_nonneg h0, wrap_i64 (by omega) (by omega)] at this
theorem val_modi (hx : ev env x = some (.int .i64 m)) (hy : ev env y = some (.int .i64 n)) (h0 : 0 ≤ m) (h1 : 1 ≤ n) :
    Val P N env (.binOp .rem t x y u) w (.int .i64 (m % n)) := by
  have := val_rem (P := P) (N := N) (w := w) (t := t) (u := u) hx hy (by omega)
  rwa [Int.tmod_eq_emod_of_nonneg h0] at this
end
section
variable {P : Program} {N : Nat} {env : Env} {w : World} {x y : Operand} {t u : TypeId} {m n r : Int} {k j : IntKind}
theorem val_shrE (hx : ev env x = some (.int k m)) (hy : ev env y = some (.int j n)) (hn : 0 ≤ n) (h : m.fdiv (2 ^ min n.toNat k.bits) = r) : Val P N env (.binOp .shr t x y u) w (.int k r) := by
  subst h; exact val_shr hx hy hn
theorem val_convE (hx : ev env x = some (.int j m)) (ht : ∃ d, P.underlying t = some d) (hu : P.underlying u = some (.int k)) (h : k.wrap m = r) : Val P N env (.convert t u x) w (.int k r) := by
  subst h; exact val_conv_int hx ht hu
end
end Go.K

/- Memory: what may turn between two worlds, how data read, and the operations that touch memory. -/
set_option linter.unusedVariables false
set_option linter.unusedSimpArgs false
namespace Go.K
def Dr (w w' : World) : Prop := w.drawn ≤ w'.drawn
theorem Dr.refl {w w' : World} (h : w'.drawn = w.drawn) : Dr w w' := Nat.le_of_eq h.symm
theorem Dr.succ {w w' : World} (h : w'.drawn = w.drawn + 1) : Dr w w' := by unfold Dr; omega
theorem Dr.trans {w w' w'' : World} (h : Dr w w') (h' : Dr w' w'') : Dr w w'' := Nat.le_trans h h'
structure Ext (A : Nat → Prop) (w w' : World) : Prop where
  os : w'.os = w.os
  tape : w'.tape = w.tape
  output : w'.output = w.output
  size : w.heap.size ≤ w'.heap.size
  block : ∀ b, b < w.heap.size → ¬ A b → w'.heap[b]? = w.heap[b]?
  drawn : Dr w w'
def No : Nat → Prop := fun _ => False
def One (b : Nat) : Nat → Prop := fun x => x = b
def Ob (v : Value) : Nat → Prop := fun x => v.ownBlock = some x
section
variable {A A' M M' : Nat → Prop} {w w' w'' : World}
theorem Ext.refl (A : Nat → Prop) (w : World) : Ext A w w := ⟨rfl, rfl, rfl, Nat.le_refl _, fun _ _ _ => rfl, Dr.refl rfl⟩
theorem Ext.trans (h : Ext A w w') (h' : Ext A' w' w'') (hA : ∀ b, b < w.heap.size → A' b → A b) : Ext A w w'' :=
  ⟨h'.os.trans h.os, h'.tape.trans h.tape, h'.output.trans h.output, Nat.le_trans h.size h'.size, fun b hb hn =>
    (h'.block b (Nat.lt_of_lt_of_le hb h.size) (fun ha => hn (hA b hb ha))).trans (h.block b hb hn), Dr.trans h.drawn h'.drawn⟩
theorem Ext.mono (h : Ext A w w') (hA : ∀ b, b < w.heap.size → A b → A' b) : Ext A' w w' :=
  ⟨h.os, h.tape, h.output, h.size, fun b hb hn => h.block b hb (fun ha => hn (hA b hb ha)), h.drawn⟩
theorem Ext.drew (A : Nat → Prop) (w : World) : Ext A w { w with drawn := w.drawn + 1 } := ⟨rfl, rfl, rfl, Nat.le_refl _, fun _ _ _ => rfl, Dr.succ rfl⟩
theorem Ext.below (h : Ext A w w') {B : Nat} (hB : B ≤ w.heap.size) (hA : ∀ b, A b → B ≤ b) : Go.RowKit.Below B w w' :=
  ⟨h.os, h.tape, h.output, h.size, fun k hk => h.block k (Nat.lt_of_lt_of_le hk hB) (fun ha => by have := hA k ha; omega)⟩
theorem Ext.at' (h : Ext A w w') {b : Nat} {o : Obj} (hb : w.heap[b]? = some o) (hn : ¬ A b) : w'.heap[b]? = some o :=
  (h.block b (Array.getElem?_eq_some_iff.1 hb).1 hn).trans hb
theorem lt_of_at {b : Nat} {o : Obj} (hb : w.heap[b]? = some o) : b < w.heap.size := (Array.getElem?_eq_some_iff.1 hb).1
end
class Rep (α : Type) where
  sz : Nat
  /-- Is it a struct or an array? -/
  agg : Bool
  flat : agg = false → sz = 1
  rep : Array Obj → (Nat → Prop) → α → List Value → Prop
  len : ∀ {h M x vs}, rep h M x vs → vs.length = sz
  one : ∀ {h M x vs}, rep h M x vs → ∀ v ∈ vs, v.oneCell' = true
  keep : ∀ {h h' M x vs}, rep h M x vs → (∀ b, b < h.size → ¬ M b → h'[b]? = h[b]?) → rep h' M x vs
  sub : ∀ {h M M' x vs}, rep h M x vs → (∀ b, b < h.size → M' b → M b) → rep h M' x vs
open Rep
instance : Rep Int where
  sz := 1
  agg := false
  flat _ := rfl
  rep _ _ x vs := vs = [.int .i64 x]
  len h := by subst h; rfl
  one h := by subst h; intro v hv; simp at hv; subst hv; rfl
  keep h _ := h
  sub h _ := h
instance : Rep Nat where
  sz := 1
  agg := false
  flat _ := rfl
  rep _ _ x vs := vs = [.int .i64 (x : Int)]
  len h := by subst h; rfl
  one h := by subst h; intro v hv; simp at hv; subst hv; rfl
  keep h _ := h
  sub h _ := h
structure Num (k : IntKind) where
  n : Int
abbrev U64 := Num .u64
abbrev U8 := Num .u8
instance {k : IntKind} : Rep (Num k) where
  sz := 1
  agg := false
  flat _ := rfl
  rep _ _ x vs := vs = [.int k x.n]
  len h := by subst h; rfl
  one h := by subst h; intro v hv; simp at hv; subst hv; rfl
  keep h _ := h
  sub h _ := h
instance : Rep Bool where
  sz := 1
  agg := false
  flat _ := rfl
  rep _ _ x vs := vs = [.bool x]
  len h := by subst h; rfl
  one h := by subst h; intro v hv; simp at hv; subst hv; rfl
  keep h _ := h
  sub h _ := h
instance : Rep ByteArray where
  sz := 1
  agg := false
  flat _ := rfl
  rep _ _ x vs := vs = [.string x] ∧ x.size ≤ 9223372036854775807
  len h := by obtain ⟨rfl, _⟩ := h; rfl
  one h := by obtain ⟨rfl, _⟩ := h; intro v hv; simp at hv; subst hv; rfl
  keep h _ := h
  sub h _ := h
instance {α β : Type} [Rep α] [Rep β] : Rep (α × β) where
  sz := sz α + sz β
  agg := true
  flat h := by cases h
  rep h M x vs := ∃ us ws, vs = us ++ ws ∧ rep h M x.1 us ∧ rep h M x.2 ws
  len h := by obtain ⟨us, ws, rfl, h1, h2⟩ := h; rw [List.length_append, len h1, len h2]
  one h := by
    obtain ⟨us, ws, rfl, h1, h2⟩ := h
    intro v hv
    rcases List.mem_append.1 hv with hv | hv
    · exact one h1 v hv
    · exact one h2 v hv
  keep h hk := by obtain ⟨us, ws, e, h1, h2⟩ := h; exact ⟨us, ws, e, keep h1 hk, keep h2 hk⟩
  sub h hk := by obtain ⟨us, ws, e, h1, h2⟩ := h; exact ⟨us, ws, e, sub h1 hk, sub h2 hk⟩
@[reducible] def Rep.via {α β : Type} [Rep β] (f : α → β) : Rep α where
  sz := sz β
  agg := true
  flat h := by cases h
  rep h M x vs := rep h M (f x) vs
  len h := len h
  one h := one h
  keep h hk := keep h hk
  sub h hk := sub h hk
def cellsAt (cs : Array Value) (o n : Nat) : List Value := (cs.toList.drop o).take n
def At {α : Type} [Rep α] (h : Array Obj) (M : Nat → Prop) (b o : Nat) (x : α) : Prop :=
  ¬ M b ∧ ∃ cs ty fz, h[b]? = some (.cells cs ty fz) ∧ rep h M x (cellsAt cs o (sz α))
def Seg {α : Type} [Rep α] (h : Array Obj) (M : Nat → Prop) (b o : Nat) (xs : List α) : Prop :=
  ¬ M b ∧ ∃ cs ty fz, h[b]? = some (.cells cs ty fz) ∧ o + xs.length * sz α ≤ cs.size ∧ ∀ i (hi : i < xs.length), rep h M xs[i] (cellsAt cs (o + i * sz α) (sz α))
section
variable {α : Type} [Rep α] {h h' : Array Obj} {M M' : Nat → Prop} {b o : Nat} {x : α} {xs : List α}
theorem At.keep (ha : At h M b o x) (hk : ∀ b, b < h.size → ¬ M b → h'[b]? = h[b]?) : At h' M b o x := by
  obtain ⟨hb, cs, ty, fz, hc, hr⟩ := ha
  exact ⟨hb, cs, ty, fz, (hk b (Array.getElem?_eq_some_iff.1 hc).1 hb).trans hc, Rep.keep hr hk⟩
theorem At.sub (ha : At h M b o x) (hk : ∀ b, b < h.size → M' b → M b) : At h M' b o x := by
  obtain ⟨hb, cs, ty, fz, hc, hr⟩ := ha
  exact ⟨fun h' => hb (hk b (Array.getElem?_eq_some_iff.1 hc).1 h'), cs, ty, fz, hc, Rep.sub hr hk⟩
theorem Seg.keep (ha : Seg h M b o xs) (hk : ∀ b, b < h.size → ¬ M b → h'[b]? = h[b]?) : Seg h' M b o xs := by
  obtain ⟨hb, cs, ty, fz, hc, hl, hr⟩ := ha
  exact ⟨hb, cs, ty, fz, (hk b (Array.getElem?_eq_some_iff.1 hc).1 hb).trans hc, hl, fun i hi => Rep.keep (hr i hi) hk⟩
theorem Seg.sub (ha : Seg h M b o xs) (hk : ∀ b, b < h.size → M' b → M b) : Seg h M' b o xs := by
  obtain ⟨hb, cs, ty, fz, hc, hl, hr⟩ := ha
  exact ⟨fun h' => hb (hk b (Array.getElem?_eq_some_iff.1 hc).1 h'), cs, ty, fz, hc, hl, fun i hi => Rep.sub (hr i hi) hk⟩
theorem Seg.at' (ha : Seg h M b o xs) (i : Nat) (hi : i < xs.length) : At h M b (o + i * sz α) xs[i] := by
  obtain ⟨hb, cs, ty, fz, hc, hl, hr⟩ := ha
  exact ⟨hb, cs, ty, fz, hc, hr i hi⟩
end
instance {α : Type} [Rep α] : Rep (List α) where
  sz := 1
  agg := false
  flat _ := rfl
  rep h M xs vs := ∃ a c, vs = [.slice a xs.length c] ∧ xs.length ≤ c ∧ xs.length ≤ 9223372036854775807 ∧ (xs = [] ∨ ∃ b o, a = some ⟨b, o, none⟩ ∧ Seg h M b o xs)
  len h := by obtain ⟨a, c, rfl, _⟩ := h; rfl
  one h := by obtain ⟨a, c, rfl, _⟩ := h; intro v hv; simp at hv; subst hv; rfl
  keep h hk := by
    obtain ⟨a, c, e, h1, h2, h3⟩ := h
    exact ⟨a, c, e, h1, h2, h3.imp id (fun ⟨b, o, ha, hs⟩ => ⟨b, o, ha, hs.keep hk⟩)⟩
  sub h hk := by
    obtain ⟨a, c, e, h1, h2, h3⟩ := h
    exact ⟨a, c, e, h1, h2, h3.imp id (fun ⟨b, o, ha, hs⟩ => ⟨b, o, ha, hs.sub hk⟩)⟩
def RV {α : Type} [Rep α] (w : World) (M : Nat → Prop) (x : α) (v : Value) : Prop := ∃ vs, rep w.heap M x vs ∧ v = if agg α then .agg vs.toArray else vs.headD undef
def RA {α : Type} [Rep α] (w : World) (M : Nat → Prop) (x : α) (b o : Nat) : Prop := At w.heap M b o x
section
variable {α β : Type} [Rep α] [Rep β] {w w' : World} {A M M' : Nat → Prop} {x : α} {xs : List α} {v : Value} {b o : Nat}
theorem RV.ext (hr : RV w M x v) (he : Ext A w w') (hA : ∀ b, b < w.heap.size → A b → M b) : RV w' M x v :=
  let ⟨vs, h1, h2⟩ := hr; ⟨vs, Rep.keep h1 (fun b hb hn => he.block b hb (fun ha => hn (hA b hb ha))), h2⟩
theorem RV.sub (hr : RV w M x v) (hA : ∀ b, b < w.heap.size → M' b → M b) : RV w M' x v := let ⟨vs, h1, h2⟩ := hr; ⟨vs, Rep.sub h1 hA, h2⟩
theorem RA.ext (hr : RA w M x b o) (he : Ext A w w') (hA : ∀ b, b < w.heap.size → A b → M b) : RA w' M x b o :=
  At.keep hr (fun b hb hn => he.block b hb (fun ha => hn (hA b hb ha)))
theorem RA.sub (hr : RA w M x b o) (hA : ∀ b, b < w.heap.size → M' b → M b) : RA w M' x b o := At.sub hr hA
theorem rv_int {n : Int} : RV w M n v ↔ v = .int .i64 n := ⟨fun ⟨vs, h, e⟩ => by subst h; exact e, fun h => ⟨_, rfl, h⟩⟩
theorem rv_nat {n : Nat} : RV w M n v ↔ v = .int .i64 (n : Int) := ⟨fun ⟨vs, h, e⟩ => by subst h; exact e, fun h => ⟨_, rfl, h⟩⟩
theorem rv_num {k : IntKind} {n : Num k} : RV w M n v ↔ v = .int k n.n := ⟨fun ⟨vs, h, e⟩ => by subst h; exact e, fun h => ⟨_, rfl, h⟩⟩
theorem rv_list : RV w M xs v ↔ ∃ a c, v = .slice a xs.length c ∧ xs.length ≤ c ∧ xs.length ≤ 9223372036854775807 ∧ (xs = [] ∨ ∃ b o, a = some ⟨b, o, none⟩ ∧ Seg w.heap M b o xs) :=
  ⟨fun ⟨vs, h, e⟩ => by obtain ⟨a, c, rfl, h⟩ := h; exact ⟨a, c, e, h⟩, fun ⟨a, c, h⟩ => ⟨_, ⟨a, c, rfl, h.2⟩, h.1⟩⟩
theorem rv_nil : RV w M ([] : List α) (.slice none 0 0) := rv_list.2 ⟨none, 0, rfl, Nat.le_refl _, by simp, .inl rfl⟩
theorem RA.fst {p : α × β} (h : RA w M p b o) : RA w M p.1 b o := by
  obtain ⟨hb, cs, ty, fz, hc, us, ws, he, h1, h2⟩ := h
  refine ⟨hb, cs, ty, fz, hc, ?_⟩
  have : cellsAt cs o (sz α) = us := by
    have e : cellsAt cs o (sz (α × β)) = us ++ ws := he
    have hl := Rep.len h1
    have : cellsAt cs o (sz α) = (cellsAt cs o (sz (α × β))).take (sz α) := by
      simp only [cellsAt, List.take_take]
      congr 1
      exact (Nat.min_eq_left (Nat.le_add_right _ _)).symm
    rw [this, e, ← hl, List.take_left]
  rw [this]; exact h1
theorem RA.snd {p : α × β} (h : RA w M p b o) : RA w M p.2 b (o + sz α) := by
  obtain ⟨hb, cs, ty, fz, hc, us, ws, he, h1, h2⟩ := h
  refine ⟨hb, cs, ty, fz, hc, ?_⟩
  have : cellsAt cs (o + sz α) (sz β) = ws := by
    have e : cellsAt cs o (sz (α × β)) = us ++ ws := he
    have hl := Rep.len h1
    have : cellsAt cs (o + sz α) (sz β) = (cellsAt cs o (sz (α × β))).drop (sz α) := by
      simp only [cellsAt, List.drop_take, List.drop_drop]
      congr 1
      exact (Nat.add_sub_cancel_left _ _).symm
    rw [this, e, ← hl, List.drop_left]
  rw [this]; exact h2
theorem rep1_rv (h : rep w.heap M x [v]) (hx : Rep.agg α = false) : RV w M x v := ⟨[v], h, by simp [hx]⟩
/-! ### Loads and addresses -/
def aggB (P : Program) (t : TypeId) : Option Bool := match P.underlying t with | some (.struct _) => some true | some (.array _ _) => some true | some _ => some false | none => none
def szB (P : Program) (t : TypeId) : Option Nat := (P.info? t).map (·.size)
variable {P : Program} {N : Nat} {env : Env} {t u : TypeId} {y z : Operand}
theorem run_isAggB {b : Bool} (h : aggB P t = some b) (w : World) : (isAgg t).run P w = .ok b w := by
  unfold aggB at h
  split at h <;> rename_i hu <;> first | (simp only [Option.some.injEq] at h; subst h) | cases h
  all_goals simp [isAgg, run_underlying hu]
theorem run_sizeOfB {n : Nat} (h : szB P t = some n) (w : World) : (sizeOf t).run P w = .ok n w := by
  unfold szB at h
  cases hi : P.info? t with
  | none => rw [hi] at h; cases h
  | some i => rw [hi] at h; simp only [Option.map_some, Option.some.injEq] at h; subst h; simp [sizeOf, typeInfo, hi]
theorem cellsAt_get {cs : Array Value} {o n : Nat} {vs : List Value} (h : cellsAt cs o n = vs) (hl : vs.length = n) {j : Nat} (hj : j < n) : cs[o + j]? = vs[j]? := by
  subst h
  simp only [cellsAt, List.getElem?_take, List.getElem?_drop, if_pos hj]
  simp
theorem addr_add (b o n : Nat) : (⟨b, o, none⟩ : Addr).add n = ⟨b, o + n, none⟩ := by unfold Addr.add; split <;> simp_all
theorem RA.load (h : RA w M x b o) (ha : aggB P t = some false) (hx : Rep.agg α = false) (hy : ev env y = some (.pointer (some ⟨b, o, none⟩))) :
    ∃ v, RV w M x v ∧ ∀ w', w'.heap[b]? = w.heap[b]? → Val P N env (.load t y) w' v := by
  obtain ⟨hb, cs, ty, fz, hc, hr⟩ := h
  have h1 : sz α = 1 := Rep.flat hx
  obtain ⟨v, hv⟩ : ∃ v, cellsAt cs o (sz α) = [v] := List.length_eq_one_iff.1 (by rw [len hr, h1])
  rw [hv] at hr
  refine ⟨v, ⟨[v], hr, by simp [hx]⟩, fun w' hw => mk' fun ρ hρ oo ho => ?_⟩
  rw [← hw] at hc
  have h2 : cs[o]? = some v := by have := cellsAt_get (j := 0) hv (by simp [h1]) (by omega); simpa using this
  unfold execOp; rw [ho]
  simp [hρ _ _ hy, go_sem, Instr.loadAt, Instr.sureAddr, loadVar, run_isAggB ha, World.cell?, hc, h2]
theorem RA.loadAgg (h : RA w M x b o) (ha : aggB P t = some true) (hs : szB P t = some (sz α)) (hx : Rep.agg α = true) (hy : ev env y = some (.pointer (some ⟨b, o, none⟩))) :
    ∃ v, RV w M x v ∧ ∀ w', w'.heap[b]? = w.heap[b]? → Val P N env (.load t y) w' v := by
  obtain ⟨hb, cs, ty, fz, hc, hr⟩ := h
  refine ⟨.agg (cellsAt cs o (sz α)).toArray, ⟨_, hr, by simp only [hx, if_true]⟩, fun w' hw => mk' fun ρ hρ oo ho => ?_⟩
  rw [← hw] at hc
  have hl := len hr
  have hcells : (loadCells ⟨b, o, none⟩ (sz α)).run P w' = .ok (cellsAt cs o (sz α)).toArray w' := by
    have := run_loadCells_list (P := P) w' ⟨b, o, none⟩ (cellsAt cs o (sz α)) (fun j v hv => by
      have hj : j < sz α := by rw [← hl]; exact (List.getElem?_eq_some_iff.1 hv).1
      rw [addr_add, cell_of_row w' b (o + j) cs ty fz hc, cellsAt_get rfl hl hj, hv])
    rwa [hl] at this
  simp only [loadCells] at hcells
  unfold execOp; rw [ho]
  simp [hρ _ _ hy, go_sem, Instr.loadAt, Instr.sureAddr, loadVar, run_isAggB ha, run_sizeOfB hs, loadCells, hcells]
theorem val_loadOwn {cs : List Value} {ty : TypeId} {fz : Nat × Nat} (hc : w.heap[b]? = some (.cells cs.toArray ty fz)) (ha : aggB P t = some false) (hv : cs[o]? = some v)
    (hy : ev env y = some (.pointer (some ⟨b, o, none⟩))) : Val P N env (.load t y) w v := mk' fun ρ hρ oo ho => by
  have h2 : cs.toArray[o]? = some v := by simpa using hv
  unfold execOp; rw [ho]
  simp [hρ _ _ hy, go_sem, Instr.loadAt, Instr.sureAddr, loadVar, run_isAggB ha, World.cell?, hc, h2]
theorem val_loadOwnAgg {cs : List Value} {ty : TypeId} {fz : Nat × Nat} {n : Nat} {vs : List Value} (hc : w.heap[b]? = some (.cells cs.toArray ty fz)) (ha : aggB P t = some true) (hs : szB P t = some n)
    (hv : (cs.drop o).take n = vs) (hl : vs.length = n) (hy : ev env y = some (.pointer (some ⟨b, o, none⟩))) : Val P N env (.load t y) w (.agg vs.toArray) := mk' fun ρ hρ oo ho => by
  have hcells : (loadCells ⟨b, o, none⟩ n).run P w = .ok vs.toArray w := by
    have := run_loadCells_list (P := P) w ⟨b, o, none⟩ vs (fun j u hu => by
      have hj : j < n := by rw [← hl]; exact (List.getElem?_eq_some_iff.1 hu).1
      rw [addr_add, cell_of_row w b (o + j) cs.toArray ty fz hc]
      rw [← hu, ← hv, List.getElem?_take, if_pos hj, List.getElem?_drop]; simp)
    rwa [hl] at this
  simp only [loadCells] at hcells
  unfold execOp; rw [ho]
  simp [hρ _ _ hy, go_sem, Instr.loadAt, Instr.sureAddr, loadVar, run_isAggB ha, run_sizeOfB hs, loadCells, hcells]
def fieldB (P : Program) (t : TypeId) (f : Nat) : Option Nat := match P.underlying t with
  | some (.struct fs) => match fs[f]? with
    | some fl => match szB P fl.type with | some (_ + 1) => some fl.offset | _ => none
    | none => none
  | _ => none
theorem val_fieldAddr {f off : Nat} (hf : fieldB P t f = some off) (hy : ev env y = some (.pointer (some ⟨b, o, none⟩))) :
    Val P N env (.fieldAddr t y f) w (.pointer (some ⟨b, o + off, none⟩)) := mk' fun ρ hρ oo ho => by
  unfold fieldB at hf
  split at hf
  · rename_i fs hu
    split at hf
    · rename_i fl hfl
      split at hf
      · rename_i n hn
        simp only [Option.some.injEq] at hf
        subst hf
        unfold execOp; rw [ho]
        simp [hρ _ _ hy, go_sem, Instr.fieldAt, run_underlying hu, hfl, Instr.sureAddr, fieldPlace, run_sizeOfB hn, addr_add]
      · cases hf
    · cases hf
  · cases hf
def elemB (P : Program) (t : TypeId) : Option (TypeId × Nat) := match P.underlying t with
  | some (.slice e) => match szB P e with | some n => some (e, n) | none => none
  | _ => none
theorem val_indexAddr {e n l c : Nat} {k : IntKind} {i : Int} (hf : elemB P t = some (e, n)) (hy : ev env y = some (.slice (some ⟨b, o, none⟩) l c)) (hz : ev env z = some (.int k i))
    (h0 : 0 ≤ i) (h1 : i < l) : Val P N env (.indexAddr t y z) w (.pointer (some ⟨b, o + i.toNat * n, none⟩)) := mk' fun ρ hρ oo ho => by
  unfold elemB at hf
  split at hf
  · rename_i e' hu
    split at hf
    · rename_i n' hn
      simp only [Option.some.injEq, Prod.mk.injEq] at hf
      obtain ⟨rfl, rfl⟩ := hf
      unfold execOp; rw [ho]
      simp only [hρ _ _ hy, hρ _ _ hz]
      simp [go_sem, Instr.indexAt, run_underlying hu, asIntOf, run_sizeOfB hn, h0, h1, addr_add]
    · cases hf
  · cases hf
theorem RV.index (h : RV w M xs v) (hy : ev env y = some v) {e : Nat} {k : IntKind} {i : Int} (hf : elemB P t = some (e, sz α)) (hz : ev env z = some (.int k i))
    (h0 : 0 ≤ i) (h1 : i < xs.length) : ∃ b o, RA w M (xs[i.toNat]'(by omega)) b o ∧ ∀ w', Val P N env (.indexAddr t y z) w' (.pointer (some ⟨b, o, none⟩)) := by
  obtain ⟨a, c, rfl, hc, hm, hs⟩ := rv_list.1 h
  rcases hs with rfl | ⟨b, o, rfl, hs⟩
  · simp at h1; omega
  · exact ⟨b, o + i.toNat * sz α, hs.at' _ _, fun w' => val_indexAddr hf hy hz h0 h1⟩
theorem RV.len (h : RV w M xs v) : ∃ a c, v = .slice a xs.length c := let ⟨a, c, e, _⟩ := rv_list.1 h; ⟨a, c, e⟩
theorem RV.le (h : RV w M xs v) : xs.length ≤ 9223372036854775807 := let ⟨a, c, _, _, e, _⟩ := rv_list.1 h; e
theorem RV.lenV (h : RV w M xs v) (hy : ev env y = some v) {e : TypeId} (ht : P.underlying t = some (.slice e)) :
    ∀ w', Val P N env (.call { callee := .builtin .len, args := #[y], argTypes := #[t] }) w' (.int .i64 xs.length) := fun w' => by
  obtain ⟨a, c, rfl⟩ := h.len
  exact val_len_slice hy ht
theorem RV.one (h : RV w M x v) (hx : Rep.agg α = false) : v.cells = #[v] ∧ v.oneCell' = true := by
  obtain ⟨vs, h1, h2⟩ := h
  have hl := Rep.len h1
  rw [Rep.flat hx] at hl
  obtain ⟨u, rfl⟩ := List.length_eq_one_iff.1 hl
  simp only [hx, Bool.false_eq_true, if_false, List.headD_cons] at h2
  subst h2
  have h3 := Rep.one h1 v (by simp)
  refine ⟨?_, h3⟩
  cases v <;> first | rfl | simp [Value.oneCell'] at h3
theorem RV.many (h : RV w M x v) (hx : Rep.agg α = true) : ∃ vs, v = .agg vs.toArray ∧ vs.length = sz α ∧ (∀ u ∈ vs, u.oneCell' = true) ∧ rep w.heap M x vs := by
  obtain ⟨vs, h1, h2⟩ := h
  simp only [hx, if_true] at h2
  exact ⟨vs, h2, Rep.len h1, Rep.one h1, h1⟩
end
end Go.K

/- The operations that make memory or write it. -/
set_option linter.unusedVariables false
set_option linter.unusedSimpArgs false
namespace Go.K
open Rep
structure New (w w' : World) (o : Obj) : Prop where
  ext : Ext No w w'
  at_ : w'.heap[w.heap.size]? = some o
  size : w'.heap.size = w.heap.size + 1
structure Upd (w w' : World) (b : Nat) (o : Obj) : Prop where
  ext : Ext (One b) w w'
  at_ : w'.heap[b]? = some o
  size : w'.heap.size = w.heap.size
theorem new_alloc (w : World) (o : Obj) : New w (w.alloc o) o :=
  ⟨⟨rfl, rfl, rfl, by simp, fun b hb _ => heap_alloc_old w o hb, Dr.refl rfl⟩, heap_alloc_new w o, by simp⟩
theorem new_alloc_drew (w : World) (o : Obj) : New w (w.drew.alloc o) o :=
  ⟨⟨rfl, rfl, rfl, by simp, fun b hb _ => heap_alloc_old w.drew o hb, Dr.succ rfl⟩, heap_alloc_new w.drew o, by simp⟩
theorem upd_setRow {w : World} {b : Nat} {old cs : Array Value} {t : TypeId} {fr : Nat × Nat} (h : w.heap[b]? = some (.cells old t fr)) : Upd w (w.setRow b cs) b (.cells cs t fr) :=
  ⟨⟨rfl, rfl, rfl, by simp [World.setRow], fun k _ hk => setRow_other w b k cs (fun e => hk e), Dr.refl rfl⟩, setRow_heap w b old cs t fr h, by simp [World.setRow]⟩
def zeroB (P : Program) (t : TypeId) : Option (List Value) := ((P.info? t).bind (·.zero)).map (·.cells.toList)
section
variable {P : Program} {N : Nat} {env : Env} {w : World} {x y z : Operand} {t u e : TypeId} {v : Value}
theorem run_zeroB {l : List Value} (h : zeroB P t = some l) (w : World) : ∃ z, (zeroValue t).run P w = .ok z w ∧ z.cells = l.toArray := by
  unfold zeroB at h
  cases hi : P.info? t with
  | none => rw [hi] at h; cases h
  | some i =>
    rw [hi] at h
    cases hz : i.zero with
    | none => simp [hz] at h
    | some z => simp [hz] at h; subst h; exact ⟨z, by simp [zeroValue, typeInfo, hi, hz], by simp⟩
theorem acts' {op : Op} {T : Value → World → Prop} (h : ∀ ρ : Operand → Value, (∀ x v, ev env x = some v → ρ x = v) → ∀ o : Oper, o.op = op →
    ∃ v w', ((execOp ρ o).run P w = .ok (.value v) w' ∨ ((execOp ρ o).run P w = .ok .skip w' ∧ v = undef)) ∧ T v w') : Acts P N env op w T :=
  fun a ha o ho => h a.eval (fun x v hx => ha.ev hx) o ho
theorem acts_alloc {l : List Value} (hz : zeroB P t = some l) :
    Acts P N env (.alloc t) w (fun v w' => v = .pointer (some ⟨w.heap.size, 0, none⟩) ∧ New w w' (.cells l.toArray t)) := acts' fun ρ hρ o ho => by
  obtain ⟨zv, h1, h2⟩ := run_zeroB hz w
  refine ⟨_, _, .inl ?_, rfl, new_alloc w _⟩
  unfold execOp; rw [ho]
  simp [go_sem, Instr.alloc, h1, newVar, newRow]
  exact congrArg (fun c => w.alloc (.cells c t)) h2
theorem acts_box {cs : List Value} (hx : ev env x = some v) (hc : v.cells = cs.toArray) :
    Acts P N env (.box t x) w (fun u w' => u = .pointer (some ⟨w.heap.size, 0, none⟩) ∧ New w w' (.cells cs.toArray t)) := acts' fun ρ hρ o ho => by
  refine ⟨_, _, .inl ?_, rfl, new_alloc w _⟩
  unfold execOp; rw [ho]
  simp [hρ _ _ hx, go_sem, Instr.box, newVar, newRow]
  exact congrArg (fun c => w.alloc (.cells c t)) hc
theorem run_storeVarL {b o n : Nat} {cs vs : List Value} {ty : TypeId} (hs : szB P t = some n) (hv : v.cells = vs.toArray) (hl : vs.length = n) (h1 : ∀ u ∈ vs, u.oneCell' = true)
    (hb : w.heap[b]? = some (.cells cs.toArray ty (0, 0))) (ho : o + n ≤ cs.length) :
    (storeVar t ⟨b, o, none⟩ v).run P w = .ok () (w.setRow b (cs.take o ++ vs ++ cs.drop (o + n)).toArray) := by
  have hst := run_storeCells_at P b o ty vs 0 cs.toArray w hb (by simpa [hl] using ho) h1
  simp only [Nat.add_zero, hl] at hst
  unfold storeVar
  simp [run_sizeOfB hs, hv, hl, hst]
theorem acts_store {b o n : Nat} {cs vs : List Value} {ty : TypeId} (hx : ev env x = some (.pointer (some ⟨b, o, none⟩))) (hy : ev env y = some v) (hs : szB P t = some n)
    (hv : v.cells = vs.toArray) (hl : vs.length = n) (h1 : ∀ u ∈ vs, u.oneCell' = true) (hb : w.heap[b]? = some (.cells cs.toArray ty (0, 0))) (ho : o + n ≤ cs.length) :
    Acts P N env (.store t x y) w (fun u w' => u = undef ∧ Upd w w' b (.cells (cs.take o ++ vs ++ cs.drop (o + n)).toArray ty (0, 0))) := acts' fun ρ hρ oo hoo => by
  refine ⟨undef, _, .inr ⟨?_, rfl⟩, rfl, upd_setRow hb⟩
  unfold execOp; rw [hoo]
  simp only [hρ _ _ hx, hρ _ _ hy, Instr.storeAt, Instr.sureAddr, Sem.run_bind, Sem.run_pure, Result.andThen_ok]
  rw [run_storeVarL hs hv hl h1 hb ho]
  rfl
theorem acts_store1 {b o : Nat} {cs : List Value} {ty : TypeId} (hx : ev env x = some (.pointer (some ⟨b, o, none⟩))) (hy : ev env y = some v) (hs : szB P t = some 1)
    (hv : v.cells = #[v]) (h1 : v.oneCell' = true) (hb : w.heap[b]? = some (.cells cs.toArray ty (0, 0))) (ho : o < cs.length) :
    Acts P N env (.store t x y) w (fun u w' => u = undef ∧ Upd w w' b (.cells (cs.set o v).toArray ty (0, 0))) := by
  have h := acts_store (P := P) (N := N) (w := w) (vs := [v]) (n := 1) hx hy hs (by simpa using hv) rfl (by simpa using h1) hb ho
  have e : cs.take o ++ [v] ++ cs.drop (o + 1) = cs.set o v := by
    rw [List.set_eq_take_append_cons_drop, if_pos ho]; simp
  rwa [e] at h
end
/-! ### Lists of the call's own -/
def OwnS {α : Type} [Rep α] (w : World) (M : Nat → Prop) (e : TypeId) (v : Value) (ys : List α) : Prop :=
  (v = .slice none 0 0 ∧ ys = []) ∨
  ∃ g cap cs, v = .slice (some ⟨g, 0, none⟩) ys.length cap ∧ M g ∧ w.heap[g]? = some (.cells cs e (0, 0)) ∧ ys.length ≤ cap ∧ cs.size = cap * sz α ∧
    ∀ i (hi : i < ys.length), rep w.heap M ys[i] (cellsAt cs (i * sz α) (sz α))
section
variable {α : Type} [Rep α] {w w' : World} {A M M' : Nat → Prop} {e : TypeId} {v : Value} {ys zs : List α}
theorem OwnS.nil : OwnS w M e (.slice none 0 0) ([] : List α) := .inl ⟨rfl, rfl⟩
theorem OwnS.ext (h : OwnS w M e v ys) (he : Ext A w w') (hA : ∀ b, b < w.heap.size → A b → M b) (hv : ∀ b, Ob v b → ¬ A b) : OwnS w' M e v ys := by
  rcases h with h | ⟨g, cap, cs, hv', hg, hc, h1, h2, h3⟩
  · exact .inl h
  · refine .inr ⟨g, cap, cs, hv', hg, he.at' hc (hv g (by subst hv'; rfl)), h1, h2, fun i hi => Rep.keep (h3 i hi) (fun b hb hn => he.block b hb (fun ha => hn (hA b hb ha)))⟩
theorem OwnS.sub (h : OwnS w M e v ys) (hM : ∀ b, b < w.heap.size → M' b → M b) (hv : ∀ b, Ob v b → M' b) : OwnS w M' e v ys := by
  rcases h with h | ⟨g, cap, cs, hv', hg, hc, h1, h2, h3⟩
  · exact .inl h
  · exact .inr ⟨g, cap, cs, hv', hv g (by subst hv'; rfl), hc, h1, h2, fun i hi => Rep.sub (h3 i hi) hM⟩
theorem OwnS.ob (h : OwnS w M e v ys) : ∀ b, Ob v b → M b ∧ b < w.heap.size := by
  intro b hb
  rcases h with ⟨rfl, _⟩ | ⟨g, cap, cs, rfl, hg, hc, _⟩
  · cases hb
  · simp only [Ob, Value.ownBlock, Option.some.injEq] at hb
    subst hb
    exact ⟨hg, lt_of_at hc⟩
theorem OwnS.len (h : OwnS w M e v ys) : ∃ a c, v = .slice a ys.length c := by
  rcases h with ⟨rfl, rfl⟩ | ⟨g, cap, cs, rfl, _⟩
  · exact ⟨none, 0, rfl⟩
  · exact ⟨_, _, rfl⟩
theorem OwnS.read (h : OwnS w M e v ys) (hM : ∀ b, b < w.heap.size → M' b → M b ∧ ¬ Ob v b) (hl : ys.length ≤ 9223372036854775807) : RV w M' ys v := by
  rcases h with ⟨rfl, rfl⟩ | ⟨g, cap, cs, rfl, hg, hc, h1, h2, h3⟩
  · exact rv_nil
  · refine rv_list.2 ⟨_, cap, rfl, h1, hl, .inr ⟨g, 0, rfl, ?_⟩⟩
    refine ⟨fun hm => (hM g (lt_of_at hc) hm).2 rfl, cs, e, _, hc, ?_, fun i hi => ?_⟩
    · rw [Nat.zero_add, h2]; exact Nat.mul_le_mul_right _ h1
    · rw [Nat.zero_add]; exact Rep.sub (h3 i hi) (fun b hb hm => (hM b hb hm).1)
theorem cellsAt_ext {cs cs' : Array Value} {o o' n : Nat} (h : ∀ j, j < n → cs[o + j]? = cs'[o' + j]?) : cellsAt cs o n = cellsAt cs' o' n := by
  apply List.ext_getElem?
  intro j
  simp only [cellsAt, List.getElem?_take, List.getElem?_drop]
  split
  · rename_i hj; simpa using h j hj
  · rfl
variable {P : Program} {N : Nat} {env : Env} {x y : Operand} {t u : TypeId} {s : Value}
def rowB (P : Program) (t e n bytes : Nat) : Bool := match P.underlying t, P.info? e with
  | some (.slice e'), some i => e' == e && i.size == n && i.bytes == bytes && (match i.zero with | some z => z.cells.size == n | none => false)
  | _, _ => false
theorem rowB_spec {n bytes : Nat} (h : rowB P t e n bytes = true) : ∃ i z, P.underlying t = some (.slice e) ∧ P.info? e = some i ∧ i.size = n ∧ i.bytes = bytes ∧ i.zero = some z ∧ z.cells.size = n := by
  unfold rowB at h
  split at h
  · rename_i e' i hu hi
    simp only [Bool.and_eq_true, beq_iff_eq] at h
    obtain ⟨⟨⟨rfl, h1⟩, h2⟩, h3⟩ := h
    cases hz : i.zero with
    | none => rw [hz] at h3; cases h3
    | some z => rw [hz] at h3; exact ⟨i, z, hu, hi, h1, h2, hz, by simpa using h3⟩
  · cases h
theorem acts_append {bytes : Nat} (hx : ev env x = some v) (hy : ev env y = some s) (hrow : rowB P t e (sz α) bytes = true) (hsz : 0 < sz α)
    (hown : OwnS w M e v ys) (hsrc : RV w M zs s) (hlen : (ys.length + zs.length) * bytes ≤ 140737488355328) (h63 : ys.length + zs.length ≤ 140737488355328) :
    Acts P N env (.call { callee := .builtin .append, args := #[x, y], argTypes := #[t, t] }) w (fun v' w' =>
      OwnS w' (fun b => Ob v' b ∨ M b) e v' (ys ++ zs) ∧ Ext (Ob v) w w' ∧ (∀ b, Ob v' b → Ob v b ∨ w.heap.size ≤ b)) := acts' fun ρ hρ oo hoo => by
  obtain ⟨i, z, hu, hi, rfl0, hby, hz, hzs⟩ := rowB_spec hrow
  obtain ⟨a, c, rfl, hcap, hl0, hseg⟩ := rv_list.1 hsrc
  have key : ∃ v' w', (Builtin.append_ #[t, t] oo.type #[v, .slice a zs.length c]).run P w = .ok v' w' ∧
      OwnS w' (fun b => Ob v' b ∨ M b) e v' (ys ++ zs) ∧ Ext (Ob v) w w' ∧ (∀ b, Ob v' b → Ob v b ∨ w.heap.size ≤ b) := by
    by_cases hzs0 : zs = []
    · subst hzs0
      refine ⟨v, w, ?_, ?_, Ext.refl _ _, fun b hb => .inl hb⟩
      · have hf : (Builtin.firstCells i.size 0 (.slice a 0 c)).run P w = .ok #[] w := by cases a <;> simp [Builtin.firstCells, loadCells, loadCellsFrom]
        rcases hown with ⟨rfl, _⟩ | ⟨g, cap, cs, rfl, hg, hc, h1, h2, h3⟩
        · simp [Builtin.append_, run_underlying hu, sizeOf, typeInfo, hi, Builtin.lenOf, hf]
        · simp [Builtin.append_, run_underlying hu, sizeOf, typeInfo, hi, Builtin.lenOf, hf, h1, storeCells]
      · rw [List.append_nil]
        exact hown.sub (fun b hb h => h.elim (fun ho => (hown.ob b ho).1) id) (fun b hb => .inl hb)
    · rcases hseg with h | ⟨sb, so, rfl, hsb, scs, sty, sfz, hsc, hsl, hsr⟩
      · exact absurd h hzs0
      · have hm0 : 0 < zs.length := List.length_pos_iff.2 hzs0
        obtain ⟨news, hnews_def⟩ : ∃ news, news = cellsAt scs so (zs.length * sz α) := ⟨_, rfl⟩
        have hnl : news.length = zs.length * i.size := by
          rw [hnews_def, rfl0]; simp only [cellsAt, List.length_take, List.length_drop, Array.length_toList]; omega
        have hnl' : news.length = zs.length * sz α := by rw [hnl, rfl0]
        have hget : ∀ j, j < zs.length * sz α → news[j]? = scs[so + j]? := fun j hj => by
          rw [hnews_def]; simp only [cellsAt, List.getElem?_take, if_pos hj, List.getElem?_drop]; simp
        have hnews : ∀ j v, news[j]? = some v → w.cell? ((⟨sb, so, none⟩ : Addr).add j) = some v := fun j v hv => by
          have hj : j < zs.length * sz α := by rw [← hnl']; exact (List.getElem?_eq_some_iff.1 hv).1
          rw [addr_add, cell_of_row w sb (so + j) scs sty sfz hsc, ← hget j hj, hv]
        have hrepn : ∀ k (hk : k < zs.length), rep w.heap M zs[k] (cellsAt news.toArray (k * sz α) (sz α)) := fun k hk => by
          have := hsr k hk
          rwa [show cellsAt scs (so + k * sz α) (sz α) = cellsAt news.toArray (k * sz α) (sz α) from cellsAt_ext (fun j hj => by
            have hb : k * sz α + j < zs.length * sz α := by
              have := Nat.mul_le_mul_right (sz α) (show k + 1 ≤ zs.length from hk); rw [Nat.succ_mul] at this; omega
            rw [show ∀ m, news.toArray[m]? = news[m]? from fun m => by simp, hget _ hb, Nat.add_assoc])] at this
        have h1c : ∀ u ∈ news, u.oneCell' = true := fun u hu' => by
          obtain ⟨j, hj, rfl⟩ := List.mem_iff_getElem.1 hu'
          have hjl : j < zs.length * sz α := by rw [← hnl']; exact hj
          have hk : j / sz α < zs.length := (Nat.div_lt_iff_lt_mul hsz).2 hjl
          refine Rep.one (hrepn (j / sz α) hk) _ ?_
          apply List.mem_iff_getElem?.2
          refine ⟨j % sz α, ?_⟩
          have hmod := Nat.mod_lt j hsz
          simp only [cellsAt, List.getElem?_take, if_pos hmod, List.getElem?_drop]
          rw [Nat.mul_comm, Nat.div_add_mod]
          simp [hj]
        -- a block made anew
        have fresh : ∀ (olds : List Value) (cap : Nat) (o : Obj), olds.length = ys.length * sz α → (∀ k (hk : k < ys.length), rep w.heap M ys[k] (cellsAt olds.toArray (k * sz α) (sz α))) →
            o = .cells (olds.toArray ++ news.toArray ++ Builtin.zeroCells z.cells (cap - (ys.length + zs.length))) e (0, 0) → ys.length + zs.length ≤ cap →
            OwnS (w.drew.alloc o) (fun b => Ob (.slice (some ⟨w.heap.size, 0, none⟩) (ys.length + zs.length) cap) b ∨ M b) e (.slice (some ⟨w.heap.size, 0, none⟩) (ys.length + zs.length) cap) (ys ++ zs) := by
          intro olds cap o holds hrepo ho hcap'
          subst ho
          have hnew := new_alloc_drew w (.cells (olds.toArray ++ news.toArray ++ Builtin.zeroCells z.cells (cap - (ys.length + zs.length))) e (0, 0))
          refine .inr ⟨w.heap.size, cap, _, by rw [List.length_append], .inl rfl, hnew.at_, by rw [List.length_append]; exact hcap', ?_, ?_⟩
          · simp only [Array.size_append, List.size_toArray, size_zeroCells, hzs, holds, hnl', ← Nat.add_mul]
            congr 1; omega
          · intro k hk
            rw [List.length_append] at hk
            have hkeep : ∀ (x : α) (vs : List Value), rep w.heap M x vs → rep (w.drew.alloc (.cells (olds.toArray ++ news.toArray ++ Builtin.zeroCells z.cells (cap - (ys.length + zs.length))) e (0, 0))).heap
                (fun b => Ob (.slice (some ⟨w.heap.size, 0, none⟩) (ys.length + zs.length) cap) b ∨ M b) x vs := fun x vs hr =>
              Rep.keep (Rep.sub hr (fun b hb h => h.elim (fun e => by simp only [Ob, Value.ownBlock, Option.some.injEq] at e; omega) id)) (fun b hb _ => hnew.ext.block b hb (fun h => h))
            by_cases hky : k < ys.length
            · rw [List.getElem_append_left hky]
              have := hrepo k hky
              rw [show cellsAt olds.toArray (k * sz α) (sz α) = cellsAt (olds.toArray ++ news.toArray ++ Builtin.zeroCells z.cells (cap - (ys.length + zs.length))) (k * sz α) (sz α) from cellsAt_ext (fun j hj => by
                have hb : k * sz α + j < ys.length * sz α := by
                  have := Nat.mul_le_mul_right (sz α) (show k + 1 ≤ ys.length from hky); rw [Nat.succ_mul] at this; omega
                rw [Array.append_assoc, Array.getElem?_append_left (by simpa [holds] using hb)])] at this
              exact hkeep _ _ this
            · rw [List.getElem_append_right (by omega)]
              have hkz : k - ys.length < zs.length := by omega
              have := hrepn (k - ys.length) hkz
              rw [show cellsAt news.toArray ((k - ys.length) * sz α) (sz α) = cellsAt (olds.toArray ++ news.toArray ++ Builtin.zeroCells z.cells (cap - (ys.length + zs.length))) (k * sz α) (sz α) from cellsAt_ext (fun j hj => by
                have hb : (k - ys.length) * sz α + j < zs.length * sz α := by
                  have := Nat.mul_le_mul_right (sz α) (show k - ys.length + 1 ≤ zs.length from hkz); rw [Nat.succ_mul] at this; omega
                have he : k * sz α = ys.length * sz α + (k - ys.length) * sz α := by rw [← Nat.add_mul]; congr 1; omega
                rw [Array.getElem?_append_left (by simp only [Array.size_append, List.size_toArray, holds, hnl']; omega), Array.getElem?_append_right (by simp only [List.size_toArray, holds]; omega)]
                congr 1
                simp only [List.size_toArray, holds]; omega)] at this
              exact hkeep _ _ this
        rcases hown with ⟨rfl, rfl⟩ | ⟨g, cap, cs, rfl, hg, hc, h1, h2, h3⟩
        · have hr := run_append_nil (P := P) w t oo.type e i z hu hi hz ⟨sb, so, none⟩ zs.length c news hnl hnews hm0 (by omega)
            (by rw [hby]; simp only [List.length_nil, Nat.zero_add] at hlen; omega)
          have hfr := fresh [] (grownCap w zs.length 0 e) _ (by simp) (fun k hk => by simp at hk) rfl (by simpa using grownCap_ge w zs.length 0 e)
          simp only [List.length_nil, Nat.zero_add, List.nil_append] at hfr
          refine ⟨_, _, hr, ?_, ?_, ?_⟩
          · simpa using hfr
          · exact (new_alloc_drew w _).ext.mono (fun b hb h => h.elim)
          · intro b hb; simp only [Ob, Value.ownBlock, Option.some.injEq] at hb; exact .inr (by omega)
        · have hcsl : (cellsAt cs 0 (ys.length * sz α)).length = ys.length * sz α := by
            have := Nat.mul_le_mul_right (sz α) h1
            simp only [cellsAt, List.length_take, List.length_drop, Array.length_toList]; omega
          have hcsg : ∀ j, j < ys.length * sz α → (cellsAt cs 0 (ys.length * sz α))[j]? = cs[j]? := fun j hj => by
            simp only [cellsAt, List.getElem?_take, if_pos hj, List.getElem?_drop]; simp
          have hrepo : ∀ k (hk : k < ys.length), rep w.heap M ys[k] (cellsAt (cellsAt cs 0 (ys.length * sz α)).toArray (k * sz α) (sz α)) := fun k hk => by
            have := h3 k hk
            rwa [show cellsAt cs (k * sz α) (sz α) = cellsAt (cellsAt cs 0 (ys.length * sz α)).toArray (k * sz α) (sz α) from cellsAt_ext (fun j hj => by
              have hb : k * sz α + j < ys.length * sz α := by
                have := Nat.mul_le_mul_right (sz α) (show k + 1 ≤ ys.length from hk); rw [Nat.succ_mul] at this; omega
              rw [show ∀ m, (cellsAt cs 0 (ys.length * sz α)).toArray[m]? = (cellsAt cs 0 (ys.length * sz α))[m]? from fun m => by simp, hcsg _ hb])] at this
          by_cases hroom : ys.length + zs.length ≤ cap
          · have hbound : ys.length * i.size + news.length ≤ cs.size := by
              rw [hnl, rfl0, h2, ← Nat.add_mul]; exact Nat.mul_le_mul_right _ hroom
            have hr := run_append_room (P := P) w t oo.type e i hu hi g ys.length cap cs hc ⟨sb, so, none⟩ zs.length c news hnl hnews h1c hroom hbound
            have hupd := upd_setRow (w := w) (cs := (cs.toList.take (ys.length * i.size) ++ news ++ cs.toList.drop (ys.length * i.size + news.length)).toArray) hc
            refine ⟨_, _, hr, .inr ⟨g, cap, _, by rw [List.length_append], .inr hg, hupd.at_, by rw [List.length_append]; exact hroom, ?_, ?_⟩, ?_, ?_⟩
            · simp only [List.size_toArray, List.length_append, List.length_take, List.length_drop, Array.length_toList, hnl, rfl0] at hbound ⊢
              omega
            · intro k hk
              rw [List.length_append] at hk
              have hkeep : ∀ (x : α) (vs : List Value), rep w.heap M x vs → rep (w.setRow g (cs.toList.take (ys.length * i.size) ++ news ++ cs.toList.drop (ys.length * i.size + news.length)).toArray).heap
                  (fun b => Ob (.slice (some ⟨g, 0, none⟩) (ys.length + zs.length) cap) b ∨ M b) x vs := fun x vs hr' =>
                Rep.keep (Rep.sub hr' (fun b hb h => h.elim (fun e => by simp only [Ob, Value.ownBlock, Option.some.injEq] at e; subst e; exact hg) id))
                  (fun b hb hn => hupd.ext.block b hb (fun h => hn (.inr (by rw [show b = g from h]; exact hg))))
              rw [rfl0] at hbound
              by_cases hky : k < ys.length
              · rw [List.getElem_append_left hky]
                have := h3 k hky
                rw [show cellsAt cs (k * sz α) (sz α) = cellsAt (cs.toList.take (ys.length * i.size) ++ news ++ cs.toList.drop (ys.length * i.size + news.length)).toArray (k * sz α) (sz α) from cellsAt_ext (fun j hj => by
                  have hb : k * sz α + j < ys.length * sz α := by
                    have := Nat.mul_le_mul_right (sz α) (show k + 1 ≤ ys.length from hky); rw [Nat.succ_mul] at this; omega
                  conv => rhs; rw [List.getElem?_toArray, List.append_assoc, List.getElem?_append_left (by simp only [List.length_take, Array.length_toList, rfl0]; omega), List.getElem?_take, if_pos (by rw [rfl0]; exact hb)]
                  simp)] at this
                exact hkeep _ _ this
              · rw [List.getElem_append_right (by omega)]
                have hkz : k - ys.length < zs.length := by omega
                have := hrepn (k - ys.length) hkz
                rw [show cellsAt news.toArray ((k - ys.length) * sz α) (sz α) = cellsAt (cs.toList.take (ys.length * i.size) ++ news ++ cs.toList.drop (ys.length * i.size + news.length)).toArray (k * sz α) (sz α) from cellsAt_ext (fun j hj => by
                  have hb : (k - ys.length) * sz α + j < zs.length * sz α := by
                    have := Nat.mul_le_mul_right (sz α) (show k - ys.length + 1 ≤ zs.length from hkz); rw [Nat.succ_mul] at this; omega
                  have he : k * sz α = ys.length * sz α + (k - ys.length) * sz α := by rw [← Nat.add_mul]; congr 1; omega
                  have htl : (cs.toList.take (ys.length * i.size)).length = ys.length * sz α := by simp only [List.length_take, Array.length_toList, rfl0]; omega
                  rw [show ∀ m, news.toArray[m]? = news[m]? from fun m => by simp, show ∀ (l : List Value) m, l.toArray[m]? = l[m]? from fun l m => by simp, List.getElem?_append_left (by rw [List.length_append, htl]; omega), List.getElem?_append_right (by rw [htl]; omega), htl]
                  congr 1; omega)] at this
                exact hkeep _ _ this
            · exact hupd.ext.mono (fun b hb h => by rw [show b = g from h]; rfl)
            · intro b hb; exact .inl hb
          · have holds : ∀ j v, (cellsAt cs 0 (ys.length * sz α))[j]? = some v → w.cell? ((⟨g, 0, none⟩ : Addr).add j) = some v := fun j v hv => by
              have hj : j < ys.length * sz α := by rw [← hcsl]; exact (List.getElem?_eq_some_iff.1 hv).1
              rw [addr_add, cell_of_row w g (0 + j) cs e (0, 0) hc, Nat.zero_add, ← hcsg j hj, hv]
            have hr := run_append_grow (P := P) w t oo.type e i z hu hi hz ⟨g, 0, none⟩ ys.length cap (cellsAt cs 0 (ys.length * sz α)) (by rw [rfl0]; exact hcsl) holds ⟨sb, so, none⟩ zs.length c news hnl hnews (by omega) (by omega)
              (growslice_fits (by omega) (by rw [hby]; exact hlen))
            have hfr := fresh _ (grownCap w (ys.length + zs.length) cap e) _ hcsl hrepo rfl (grownCap_ge w _ _ e)
            refine ⟨_, _, hr, hfr, ?_, ?_⟩
            · exact (new_alloc_drew w _).ext.mono (fun b hb h => h.elim)
            · intro b hb; simp only [Ob, Value.ownBlock, Option.some.injEq] at hb; exact .inr (by omega)
  obtain ⟨v', w', hrun, hpost⟩ := key
  refine ⟨v', w', .inl ?_, hpost⟩
  unfold execOp; rw [hoo]
  simp [hρ _ _ hx, hρ _ _ hy, resolve, invoke, builtin, hrun]
end
end Go.K

/- The rules as the scripts use them. -/
set_option linter.unusedVariables false
set_option linter.unusedSimpArgs false
namespace Go.K
open Rep
/-! ### Parts of code, by where they stand -/
def cl : Code → Code | .seq a _ => a | .cond _ a _ => a | .block _ b => b | .loop b => b | .scope b => b | c => c
def cr : Code → Code | .seq _ b => b | .cond _ _ b => b | c => c
def rops : Code → Array Oper | .region _ ops _ => ops | _ => #[]
def bodyOf (fn : Func) : Code := match fn.body with | some c => c | none => .skip
section
variable {P : Program} {f : FuncId} {N : Nat} {k : List Item} {env : Env} {w w' : World} {R : Value → World → Prop} {Q : Exit → Act → World → Prop}
variable {ops : Array Oper} {S : World → Prop} {i t : Nat} {L : List (Nat × Bool)} {op : Op} {v : Value} {x y z : Operand} {g : Option (Nat × Bool)}
theorem yS (hop : opAt ops i = some (some t, op, g)) (hw : wantedE ops env g = some true) (ht : Nat.blt t N = true)
    (hy : ∀ w', S w' → Val P N env op w' v) (h : SchQ P N Q ops S L ((t, v) :: env) w) : SchQ P N Q ops S ((i, true) :: L) env w := Sch.yield hop hw ht hy h
theorem pS (hop : opAt ops i = some (some t, op, g)) (hw : wantedE ops env g = some false) (ht : Nat.blt t N = true)
    (h : SchQ P N Q ops S L ((t, undef) :: env) w) : SchQ P N Q ops S ((i, true) :: L) env w := Sch.pass hop hw ht h
theorem pW (hop : opAt ops i = some (some t, op, g)) (hw : wantedE ops env g = some false) (ht : Nat.blt t N = true) (hS : S w)
    (h : SchQ P N Q ops S L ((t, undef) :: env) w) : SchQ P N Q ops S ((i, false) :: L) env w := Sch.passW hop hw ht hS h
theorem nS (hop : opAt ops i = some (some t, op, g)) (hw : wantedE ops env g = some true) (ht : Nat.blt t N = true) (hS : S w)
    (hy : Val P N env op w v) (h : SchQ P N Q ops S L ((t, v) :: env) w) : SchQ P N Q ops S ((i, false) :: L) env w := Sch.now hop hw ht hS hy h
theorem aS {T : Value → World → Prop} (hop : opAt ops i = some (some t, op, g)) (hw : wantedE ops env g = some true) (ht : Nat.blt t N = true)
    (hy : Acts P N env op w T) (h : ∀ v w', T v w' → S w' ∧ SchQ P N Q ops S L ((t, v) :: env) w') : SchQ P N Q ops S ((i, false) :: L) env w := Sch.act hop hw ht hy h
theorem aN {T : Value → World → Prop} (hop : opAt ops i = some (none, op, g)) (hw : wantedE ops env g = some true)
    (hy : Acts P N env op w T) (h : ∀ v w', T v w' → S w' ∧ SchQ P N Q ops S L env w') : SchQ P N Q ops S ((i, false) :: L) env w := Sch.act hop hw rfl hy h
theorem cS {gf : FuncId} {args : Array Value} {T : Value → World → Prop} (hop : opAt ops i = some (some t, op, g)) (hw : wantedE ops env g = some true) (ht : Nat.blt t N = true)
    (hy : Enters P N env op w gf args) (hc : Calls P gf args w (Ret T))
    (h : ∀ v w', T v w' → S w' ∧ SchQ P N Q ops S L ((t, v) :: env) w') : SchQ P N Q ops S ((i, false) :: L) env w := Sch.call hop hw ht hy hc h
theorem ent {gf : FuncId} {xs : Array Operand} {ts : Array TypeId} {vs : List Value}
    (hcall : ∀ args w, (callFunc gf args).run P w = .ok (.enter gf args) w) (hargs : evs env xs.toList = some vs) :
    Enters P N env (.call { callee := .value (.func gf), args := xs, argTypes := ts }) w gf vs.toArray := by
  have := enters_func (P := P) (N := N) (env := env) (w := w) (ts := ts) (x := .func gf) (cap := #[]) hcall rfl hargs
  simpa using this
theorem kp {env' : Env} (hs : Sub env' env) (h : Run P f N k env' w R) : Run P f N k env w R := h.sub hs
theorem sc (t : Nat) {v : Value} {env' env : Env} (hl : look env t = some v) (h : Sub env' env) : Sub ((t, v) :: env') env := sub_cons t hl rfl h
end
/-! ### Who may write what: blocks bear colours; 0: nobody writes it any more -/
def Mc (C : Nat → Nat) : Nat → Prop := fun b => C b ≠ 0
def Lim (w : World) (C : Nat → Nat) : Prop := ∀ b, C b ≠ 0 → b < w.heap.size
structure Stp (I : List Nat) (w : World) (C : Nat → Nat) (w' : World) (C' : Nat → Nat) : Prop where
  ext : Ext (fun b => C b ∈ I) w w'
  col : ∀ b, b < w.heap.size → C' b = C b
structure OwnB (w : World) (C : Nat → Nat) (j b : Nat) (o : Obj) : Prop where
  col : C b = j
  at_ : w.heap[b]? = some o
structure OwnL {α : Type} [Rep α] (w : World) (C : Nat → Nat) (j : Nat) (e : TypeId) (v : Value) (ys : List α) : Prop where
  own : OwnS w (Mc C) e v ys
  col : ∀ b, Ob v b → C b = j
section
variable {α β : Type} [Rep α] [Rep β] {w w' w'' : World} {I J : List Nat} {C C' C'' D : Nat → Nat} {x : α} {xs ys zs : List α} {v u : Value} {b o j n : Nat} {ob ob' : Obj} {e : TypeId}
theorem Stp.refl (I : List Nat) (w : World) (C : Nat → Nat) : Stp I w C w C := ⟨Ext.refl _ _, fun _ _ => rfl⟩
theorem Stp.trans (h : Stp I w C w' C') (h' : Stp J w' C' w'' C'') (hJ : ∀ c ∈ J, c ∈ I) : Stp I w C w'' C'' :=
  ⟨h.ext.trans h'.ext (fun b hb hc => by rw [h.col b hb] at hc; exact hJ _ hc), fun b hb => (h'.col b (Nat.lt_of_lt_of_le hb h.ext.size)).trans (h.col b hb)⟩
theorem Stp.drew (I : List Nat) (w : World) (C : Nat → Nat) : Stp I w C { w with drawn := w.drawn + 1 } C := ⟨Ext.drew _ _, fun _ _ => rfl⟩
theorem Stp.size (h : Stp I w C w' C') : w.heap.size ≤ w'.heap.size := h.ext.size
theorem Lim.st (h : Lim w C) (hs : Stp I w C w' C) : Lim w' C := fun b hb => Nat.lt_of_lt_of_le (h b hb) hs.size
theorem RV.st (h : RV w (Mc C) x v) (hs : Stp I w C w' C') (h0 : 0 ∉ I) : RV w' (Mc C') x v :=
  RV.ext (h.sub (M' := Mc C') (fun b hb hc => by unfold Mc at *; rwa [hs.col b hb] at hc)) hs.ext (fun b hb hc => by unfold Mc; rw [hs.col b hb]; intro e; rw [e] at hc; exact h0 hc)
theorem RA.st (h : RA w (Mc C) x b o) (hs : Stp I w C w' C') (h0 : 0 ∉ I) : RA w' (Mc C') x b o :=
  RA.ext (h.sub (M' := Mc C') (fun b hb hc => by unfold Mc at *; rwa [hs.col b hb] at hc)) hs.ext (fun b hb hc => by unfold Mc; rw [hs.col b hb]; intro e; rw [e] at hc; exact h0 hc)
theorem OwnB.st (h : OwnB w C j b ob) (hs : Stp I w C w' C') (hj : j ∉ I) : OwnB w' C' j b ob :=
  ⟨(hs.col b (lt_of_at h.at_)).trans h.col, hs.ext.at' h.at_ (by rw [h.col]; exact hj)⟩
theorem OwnL.st (h : OwnL w C j e v ys) (hs : Stp I w C w' C') (h0 : 0 ∉ I) (hj : j ∉ I) : OwnL w' C' j e v ys :=
  ⟨OwnS.ext (h.own.sub (M' := Mc C') (fun b hb hc => by unfold Mc at *; rwa [hs.col b hb] at hc) (fun b hb => by have := h.own.ob b hb; unfold Mc at *; rw [hs.col b this.2]; exact this.1))
      hs.ext (fun b hb hc => by unfold Mc; rw [hs.col b hb]; intro e; rw [e] at hc; exact h0 hc) (fun b hb hc => by rw [h.col b hb] at hc; exact hj hc),
    fun b hb => (hs.col b (h.own.ob b hb).2).trans (h.col b hb)⟩
theorem OwnL.nil : OwnL w C j e (.slice none 0 0) ([] : List α) := ⟨OwnS.nil, fun b hb => by cases hb⟩
/-! New blocks -/
def setC (C : Nat → Nat) (b j : Nat) : Nat → Nat := fun x => if x = b then j else C x
def setB (C : Nat → Nat) (v : Value) (j : Nat) : Nat → Nat := fun x => if v.ownBlock = some x then j else C x
theorem New.st (h : New w w' ob) (C : Nat → Nat) : Stp [] w C w' C := ⟨h.ext.mono (fun b _ h => h.elim), fun _ _ => rfl⟩
theorem New.own (h : New w w' ob) (hF : Lim w C) (j : Nat) : ∃ C', Stp [] w C w' C' ∧ OwnB w' C' j w.heap.size ob ∧ Lim w' C' :=
  ⟨setC C w.heap.size j, ⟨h.ext.mono (fun b _ h => h.elim), fun b hb => by unfold setC; rw [if_neg (by omega)]⟩, ⟨by simp [setC], h.at_⟩, fun b hb => by
    unfold setC at hb
    rw [h.size]
    split at hb
    · omega
    · have := hF b hb; omega⟩
theorem Upd.own (h : Upd w w' b ob') (ho : OwnB w C j b ob) : Stp [j] w C w' C ∧ OwnB w' C j b ob' :=
  ⟨⟨h.ext.mono (fun c _ hc => by rw [show c = b from hc, ho.col]; simp), fun _ _ => rfl⟩, ⟨ho.col, h.at_⟩⟩
variable {P : Program} {N : Nat} {env : Env} {y z q : Operand} {t : TypeId}
theorem a_box {cs : List Value} (hF : Lim w C) (j : Nat) (hx : ev env y = some v) (hc : v.cells = cs.toArray) :
    Acts P N env (.box t y) w (fun u w' => ∃ C' b, u = .pointer (some ⟨b, 0, none⟩) ∧ Stp [] w C w' C' ∧ OwnB w' C' j b (.cells cs.toArray t) ∧ Lim w' C') := fun a ha o ho => by
  obtain ⟨u, w', h1, rfl, h2⟩ := acts_box (P := P) (N := N) (t := t) (w := w) hx hc a ha o ho
  obtain ⟨C', h3, h4, h5⟩ := h2.own hF j
  exact ⟨_, w', h1, C', _, rfl, h3, h4, h5⟩
theorem a_alloc {cs : List Value} (hF : Lim w C) (j : Nat) (hz : zeroB P t = some cs) :
    Acts P N env (.alloc t) w (fun u w' => ∃ C' b, u = .pointer (some ⟨b, 0, none⟩) ∧ Stp [] w C w' C' ∧ OwnB w' C' j b (.cells cs.toArray t) ∧ Lim w' C') := fun a ha o ho => by
  obtain ⟨u, w', h1, rfl, h2⟩ := acts_alloc (P := P) (N := N) (env := env) (t := t) (w := w) hz a ha o ho
  obtain ⟨C', h3, h4, h5⟩ := h2.own hF j
  exact ⟨_, w', h1, C', _, rfl, h3, h4, h5⟩
theorem a_store1 {cs : List Value} {ty : TypeId} (hx : ev env y = some (.pointer (some ⟨b, o, none⟩))) (hy : ev env z = some v) (hs : szB P t = some 1)
    (hv : v.cells = #[v]) (h1 : v.oneCell' = true) (hb : OwnB w C j b (.cells cs.toArray ty)) (ho : o < cs.length) :
    Acts P N env (.store t y z) w (fun u w' => u = undef ∧ Stp [j] w C w' C ∧ OwnB w' C j b (.cells (cs.set o v).toArray ty)) := fun a ha oo hoo => by
  obtain ⟨u, w', h2, h3, h4⟩ := acts_store1 (P := P) (N := N) (w := w) hx hy hs hv h1 hb.at_ ho a ha oo hoo
  exact ⟨u, w', h2, h3, h4.own hb⟩
theorem a_store {cs vs : List Value} {ty : TypeId} (hx : ev env y = some (.pointer (some ⟨b, o, none⟩))) (hy : ev env z = some v) (hs : szB P t = some n)
    (hv : v.cells = vs.toArray) (hl : vs.length = n) (h1 : ∀ u ∈ vs, u.oneCell' = true) (hb : OwnB w C j b (.cells cs.toArray ty)) (ho : o + n ≤ cs.length) :
    Acts P N env (.store t y z) w (fun u w' => u = undef ∧ Stp [j] w C w' C ∧ OwnB w' C j b (.cells (cs.take o ++ vs ++ cs.drop (o + n)).toArray ty)) := fun a ha oo hoo => by
  obtain ⟨u, w', h2, h3, h4⟩ := acts_store (P := P) (N := N) (w := w) hx hy hs hv hl h1 hb.at_ ho a ha oo hoo
  exact ⟨u, w', h2, h3, h4.own hb⟩
theorem a_append {bytes : Nat} {s : Value} (hF : Lim w C) (hj : j ≠ 0) (hx : ev env y = some v) (hy : ev env z = some s) (hrow : rowB P t e (sz α) bytes = true) (hsz : 0 < sz α)
    (hown : OwnL w C j e v ys) (hsrc : RV w (Mc C) zs s) (hlen : (ys.length + zs.length) * bytes ≤ 140737488355328) (h63 : ys.length + zs.length ≤ 140737488355328) :
    Acts P N env (.call { callee := .builtin .append, args := #[y, z], argTypes := #[t, t] }) w (fun v' w' => ∃ C', Stp [j] w C w' C' ∧ OwnL w' C' j e v' (ys ++ zs) ∧ Lim w' C') := fun a ha oo hoo => by
  obtain ⟨v', w', h1, h2, h3, h4⟩ := acts_append (P := P) (N := N) hx hy hrow hsz hown.own hsrc hlen h63 a ha oo hoo
  have hcol : ∀ b, b < w.heap.size → setB C v' j b = C b := fun b hb => by
    unfold setB
    split
    · rename_i e
      rcases h4 b e with h | h
      · exact (hown.col b h).symm
      · omega
    · rfl
  refine ⟨v', w', h1, setB C v' j, ⟨h3.mono (fun b _ hb => by rw [hown.col b hb]; simp), hcol⟩, ⟨h2.sub (fun b hb hc => ?_) (fun b hb => ?_), fun b hb => ?_⟩, fun b hb => ?_⟩
  · by_cases ho : Ob v' b
    · exact .inl ho
    · right
      unfold Mc setB at hc
      rw [if_neg (show ¬ v'.ownBlock = some b from ho)] at hc
      exact hc
  · unfold Mc setB; rw [if_pos (show v'.ownBlock = some b from hb)]; exact hj
  · unfold setB; rw [if_pos (show v'.ownBlock = some b from hb)]
  · by_cases ho : Ob v' b
    · exact (h2.ob b ho).2
    · unfold setB at hb
      rw [if_neg (show ¬ v'.ownBlock = some b from ho)] at hb
      exact Nat.lt_of_lt_of_le (hF b hb) h3.size
/-! ### Entering and leaving a function -/
def col1 (C : Nat → Nat) : Nat → Nat := fun b => if C b = 0 then 0 else 1
def col2 (C : Nat → Nat) (i : Nat) : Nat → Nat := fun b => if C b = 0 then 0 else if C b = i then 2 else 1
theorem col1_ne (C : Nat → Nat) (b : Nat) : col1 C b ≠ 0 ↔ C b ≠ 0 := by unfold col1; split <;> simp_all
theorem col2_ne (C : Nat → Nat) (i b : Nat) : col2 C i b ≠ 0 ↔ C b ≠ 0 := by unfold col2; split <;> (try split) <;> simp_all
theorem Mc_col1 (C : Nat → Nat) : Mc (col1 C) = Mc C := by funext b; exact propext (col1_ne C b)
theorem Mc_col2 (C : Nat → Nat) (i : Nat) : Mc (col2 C i) = Mc C := by funext b; exact propext (col2_ne C i b)
theorem Lim.col1 (h : Lim w C) : Lim w (col1 C) := fun b hb => h b ((col1_ne C b).1 hb)
theorem Lim.col2 (h : Lim w C) (i : Nat) : Lim w (col2 C i) := fun b hb => h b ((col2_ne C i b).1 hb)
theorem OwnB.col2 {i : Nat} (h : OwnB w C i b ob) (hi : i ≠ 0) : OwnB w (col2 C i) 2 b ob := ⟨by unfold K.col2; rw [if_neg (by rw [h.col]; exact hi), if_pos h.col], h.at_⟩
theorem Stp.out1 (h : Stp I w (col1 C) w' C') (hI : ∀ c ∈ I, 2 ≤ c) : Stp [] w C w' C := ⟨h.ext.mono (fun b _ hc => by
  have := hI _ hc
  unfold K.col1 at this
  split at this <;> omega), fun _ _ => rfl⟩
theorem Stp.out2 {i : Nat} (h : Stp I w (col2 C i) w' C') (hI : ∀ c ∈ I, 2 ≤ c) : Stp [i] w C w' C := ⟨h.ext.mono (fun b _ hc => by
  have := hI _ hc
  simp only [List.mem_singleton]
  unfold K.col2 at this
  split at this
  · omega
  · split at this
    · assumption
    · omega), fun _ _ => rfl⟩
theorem Stp.fin_sub (hs : Stp I w D w' C') (hF : Lim w C) (hD : Mc D = Mc C) : ∀ b, C b ≠ 0 → b < w.heap.size ∧ C' b = D b ∧ D b ≠ 0 := fun b hb => by
  have h1 := hF b hb
  refine ⟨h1, hs.col b h1, ?_⟩
  have : Mc D b := by rw [hD]; exact hb
  exact this
theorem RV.out (h : RV w' (Mc C') x v) (hs : Stp I w D w' C') (hF : Lim w C) (hD : Mc D = Mc C) : RV w' (Mc C) x v :=
  h.sub (fun b _ hb => by obtain ⟨h1, h2, h3⟩ := hs.fin_sub hF hD b hb; unfold Mc; rw [h2]; exact h3)
theorem OwnL.out (h : OwnL w' C' j e v ys) (hs : Stp I w D w' C') (hF : Lim w C) (hD : Mc D = Mc C) (hj : ∀ b, b < w.heap.size → D b ≠ j) (hl : ys.length ≤ 9223372036854775807) : RV w' (Mc C) ys v :=
  h.own.read (fun b _ hb => by
    obtain ⟨h1, h2, h3⟩ := hs.fin_sub hF hD b hb
    exact ⟨by unfold Mc; rw [h2]; exact h3, fun ho => hj b h1 (by rw [← h2]; exact h.col b ho)⟩) hl
theorem col1_lt (C : Nat → Nat) {j : Nat} (hj : 2 ≤ j) (b : Nat) : col1 C b ≠ j := by unfold col1; split <;> omega
theorem col2_lt (C : Nat → Nat) (i : Nat) {j : Nat} (hj : 3 ≤ j) (b : Nat) : col2 C i b ≠ j := by unfold col2; split <;> (try split) <;> omega
theorem RA.stay (h : RA w (Mc C) x b o) (hS : Ext (fun b => C b ∈ I) w w') (h0 : 0 ∉ I) : w'.heap[b]? = w.heap[b]? := by
  obtain ⟨hb, cs, ty, fz, hc, _⟩ := h
  exact hS.block b (lt_of_at hc) (fun hm => hb (fun e => h0 (by rw [e] at hm; exact hm)))
theorem OwnB.stay (h : OwnB w C j b ob) (hS : Ext (fun b => C b ∈ I) w w') (hj : j ∉ I) : w'.heap[b]? = some ob :=
  hS.at' h.at_ (by rw [h.col]; exact hj)
theorem OwnL.lenV (h : OwnL w C j e v ys) (hy : ev env y = some v) {d : TypeId} (ht : P.underlying t = some (.slice d)) :
    ∀ w', Val P N env (.call { callee := .builtin .len, args := #[y], argTypes := #[t] }) w' (.int .i64 ys.length) := fun w' => by
  obtain ⟨a, c, rfl⟩ := h.own.len
  exact val_len_slice hy ht
end
section
variable {P : Program} {f : FuncId} {N : Nat} {k : List Item} {env : Env} {w : World} {R : Value → World → Prop} {Q : Exit → Act → World → Prop}
theorem run_draw {c : Code} {id : Nat} {ops : Array Oper} (I : List Nat) (C : Nat → Nat) (L : List (Nat × Bool)) (hm : P.follows .mixedOrders = true) (hc : c = .region id ops true)
    (hn : Region.noSelect ops = true) (hk : chk ops ops.size (Array.replicate ops.size false) L = true)
    (h : ∀ w₁, Stp [] w C w₁ C → Sch P f N k R ops (fun w' => Ext (fun b => C b ∈ I) w₁ w') L env w₁) : Run P f N (.code c :: k) env w R :=
  run_drawn _ L hm hc hn hk (Ext.refl _ _) (h _ (Stp.drew [] w C))
end
section
variable {α : Type} [Rep α] {P : Program} {f : FuncId} {N : Nat} {k : List Item} {env : Env} {w : World} {R : Value → World → Prop} {Q : Exit → Act → World → Prop}
variable {ops : Array Oper} {S : World → Prop} {i t : Nat} {L : List (Nat × Bool)} {v : Value} {y z : Operand} {g : Option (Nat × Bool)} {ty e : TypeId} {M : Nat → Prop} {x : α} {xs : List α} {b o : Nat} {kd : IntKind} {n : Int}
theorem iS {w1 : World} (hop : opAt ops i = some (some t, .indexAddr ty y z, g)) (hw : wantedE ops env g = some true) (ht : Nat.blt t N = true) (hl : RV w1 M xs v) (hy : ev env y = some v)
    (hf : elemB P ty = some (e, sz α)) (hz : ev env z = some (.int kd n)) (h0 : 0 ≤ n) (h1 : n < xs.length)
    (h : ∀ b o, RA w1 M (xs[n.toNat]'(by omega)) b o → SchQ P N Q ops S L ((t, .pointer (some ⟨b, o, none⟩)) :: env) w) : SchQ P N Q ops S ((i, true) :: L) env w := by
  obtain ⟨b, o, h2, h3⟩ := hl.index (P := P) (N := N) hy hf hz h0 h1
  exact yS hop hw ht (fun w' _ => h3 w') (h b o h2)
theorem lN (hop : opAt ops i = some (some t, .load ty y, g)) (hw : wantedE ops env g = some true) (ht : Nat.blt t N = true) (hS : S w) (hr : RA w M x b o) (ha : aggB P ty = some false) (hx : Rep.agg α = false)
    (hy : ev env y = some (.pointer (some ⟨b, o, none⟩))) (h : ∀ v, RV w M x v → SchQ P N Q ops S L ((t, v) :: env) w) : SchQ P N Q ops S ((i, false) :: L) env w := by
  obtain ⟨v, h2, h3⟩ := hr.load (P := P) (N := N) ha hx hy
  exact nS hop hw ht hS (h3 w rfl) (h v h2)
theorem lS {w1 : World} (hop : opAt ops i = some (some t, .load ty y, g)) (hw : wantedE ops env g = some true) (ht : Nat.blt t N = true) (hst : ∀ w', S w' → w'.heap[b]? = w1.heap[b]?) (hr : RA w1 M x b o) (ha : aggB P ty = some false) (hx : Rep.agg α = false)
    (hy : ev env y = some (.pointer (some ⟨b, o, none⟩))) (h : ∀ v, RV w1 M x v → SchQ P N Q ops S L ((t, v) :: env) w) : SchQ P N Q ops S ((i, true) :: L) env w := by
  obtain ⟨v, h2, h3⟩ := hr.load (P := P) (N := N) ha hx hy
  exact yS hop hw ht (fun w' hS => h3 w' (hst w' hS)) (h v h2)
theorem lNA (hop : opAt ops i = some (some t, .load ty y, g)) (hw : wantedE ops env g = some true) (ht : Nat.blt t N = true) (hS : S w) (hr : RA w M x b o) (ha : aggB P ty = some true) (hs : szB P ty = some (sz α)) (hx : Rep.agg α = true)
    (hy : ev env y = some (.pointer (some ⟨b, o, none⟩))) (h : ∀ v, RV w M x v → SchQ P N Q ops S L ((t, v) :: env) w) : SchQ P N Q ops S ((i, false) :: L) env w := by
  obtain ⟨v, h2, h3⟩ := hr.loadAgg (P := P) (N := N) ha hs hx hy
  exact nS hop hw ht hS (h3 w rfl) (h v h2)
theorem lSA {w1 : World} (hop : opAt ops i = some (some t, .load ty y, g)) (hw : wantedE ops env g = some true) (ht : Nat.blt t N = true) (hst : ∀ w', S w' → w'.heap[b]? = w1.heap[b]?) (hr : RA w1 M x b o) (ha : aggB P ty = some true) (hs : szB P ty = some (sz α)) (hx : Rep.agg α = true)
    (hy : ev env y = some (.pointer (some ⟨b, o, none⟩))) (h : ∀ v, RV w1 M x v → SchQ P N Q ops S L ((t, v) :: env) w) : SchQ P N Q ops S ((i, true) :: L) env w := by
  obtain ⟨v, h2, h3⟩ := hr.loadAgg (P := P) (N := N) ha hs hx hy
  exact yS hop hw ht (fun w' hS => h3 w' (hst w' hS)) (h v h2)
end
/-! ### What was written is from now on only read -/
def frz (n : Nat) (C : Nat → Nat) : Nat → Nat := fun b => if n ≤ C b then 0 else C b
section
variable {α : Type} [Rep α] {w w' w₀ : World} {I : List Nat} {C C' C₀ : Nat → Nat} {x : α} {ys : List α} {v : Value} {b o j n : Nat} {ob : Obj} {e : TypeId}
theorem Mc_frz (h : Mc (frz n C) b) : Mc C b ∧ C b < n := by
  unfold Mc frz at *
  split at h
  · exact absurd rfl h
  · exact ⟨h, by omega⟩
theorem Lim.frz (h : Lim w C) (n : Nat) : Lim w (frz n C) := fun b hb => h b (Mc_frz hb).1
theorem RV.frz (h : RV w (Mc C) x v) (n : Nat) : RV w (Mc (K.frz n C)) x v := h.sub (fun b _ hb => (Mc_frz hb).1)
theorem OwnL.frz (h : OwnL w C j e v ys) (hj : n ≤ j) (hl : ys.length ≤ 9223372036854775807) : RV w (Mc (K.frz n C)) ys v :=
  h.own.read (fun b _ hb => ⟨(Mc_frz hb).1, fun ho => by have := (Mc_frz hb).2; rw [h.col b ho] at this; omega⟩) hl
theorem OwnL.frzK (h : OwnL w C j e v ys) (hj : j < n) : OwnL w (K.frz n C) j e v ys :=
  ⟨h.own.sub (fun b _ hb => (Mc_frz hb).1) (fun b hb => by unfold Mc K.frz; rw [h.col b hb, if_neg (by omega)]; have := (h.own.ob b hb).1; unfold Mc at this; rw [h.col b hb] at this; exact this),
   fun b hb => by unfold K.frz; rw [h.col b hb, if_neg (by omega)]⟩
theorem OwnB.frz (h : OwnB w C j b ob) (hj : j < n) : OwnB w (K.frz n C) j b ob := ⟨by unfold K.frz; rw [h.col, if_neg (by omega)], h.at_⟩
theorem Stp.frz (h : Stp I w₀ C₀ w C) (h0 : ∀ b, C₀ b < n) : Stp I w₀ C₀ w (K.frz n C) :=
  ⟨h.ext, fun b hb => by unfold K.frz; rw [h.col b hb, if_neg (by have := h0 b; omega)]⟩
theorem col1_lt2 (C : Nat → Nat) (b : Nat) : col1 C b < 2 := by unfold col1; split <;> omega
theorem OwnL.one (h : OwnL w C j e v ys) : v.cells = #[v] ∧ v.oneCell' = true := by
  obtain ⟨a, c, rfl⟩ := h.own.len; exact ⟨rfl, rfl⟩
end
/-! ### A test in a region of its own: the ways meet again behind it -/
theorem sub_skip {env env' : Env} {t : Nat} {v : Value} (h : look env t = none) (hs : Sub env env') : Sub env ((t, v) :: env') := fun s x hx => by
  simp only [look]
  cases hb : Nat.beq t s with
  | true => rw [Nat.eq_of_beq_eq_true hb, hx] at h; cases h
  | false => exact hs s x hx
section
variable {P : Program} {f : FuncId} {N : Nat} {k : List Item} {env : Env} {w : World} {R : Value → World → Prop} {Q : Exit → Act → World → Prop} {p : Prop} [Decidable p] {op : Op}
theorem run_cut (t : Nat) (b : Bool) (C : Nat → Nat) {c : Code}
    (hreg : (∀ w' env' v, Stp [] w C w' C → look env' t = some v → v = .bool b → Sub env env' → Run P f N k env' w' R) → Run P f N (.code c :: k) env w R)
    (hcont : ∀ w', Stp [] w C w' C → Run P f N k ((t, .bool b) :: env) w' R) : Run P f N (.code c :: k) env w R :=
  hreg fun w' env' v hs hl hv hsub => (hcont w' hs).sub fun s x hx => by
    simp only [look] at hx
    cases hb : Nat.beq t s with
    | true =>
      rw [hb] at hx
      simp only [cond_true, Option.some.injEq] at hx
      rw [← Nat.eq_of_beq_eq_true hb, hl, hv, hx]
    | false => rw [hb] at hx; exact hsub s x hx
theorem val_is {v v' : Value} (h : Val P N env op w v) (e : v = v') : Val P N env op w v' := e ▸ h
theorem val_T (h : Val P N env op w (.bool (decide p))) (hp : p) : Val P N env op w (.bool true) := by rwa [decide_eq_true hp] at h
theorem val_F (h : Val P N env op w (.bool (decide p))) (hp : ¬ p) : Val P N env op w (.bool false) := by rwa [decide_eq_false hp] at h
end
/-! ### Short forms -/
abbrev yy (i : Nat) : Nat × Bool := (i, true)
abbrev nn (i : Nat) : Nat × Bool := (i, false)
section
variable {ops : Array Oper} {i : Nat}
theorem kq (t : Nat) (op : Op) (h : opAt ops i = some (some t, op, none) := by kernel_rfl) : opAt ops i = some (some t, op, none) := h
theorem kg (t : Nat) (op : Op) (g : Nat) (b : Bool) (h : opAt ops i = some (some t, op, some (g, b)) := by kernel_rfl) : opAt ops i = some (some t, op, some (g, b)) := h
theorem k0 (op : Op) (h : opAt ops i = some (none, op, none) := by kernel_rfl) : opAt ops i = some (none, op, none) := h
end
def isReg (c : Code) (d : Bool) : Bool := match c with | .region _ _ d' => d' == d | _ => false
theorem isReg_eq {c : Code} {d : Bool} (h : isReg c d = true) : ∃ id, c = .region id (rops c) d := by
  cases c with
  | region id ops d' => exact ⟨id, by unfold isReg at h; simp only [beq_iff_eq] at h; subst h; rfl⟩
  | _ => cases h
section
variable {P : Program} {f : FuncId} {N : Nat} {k : List Item} {env : Env} {w w' : World} {R : Value → World → Prop} {Q : Exit → Act → World → Prop}
variable {ops : Array Oper} {S : World → Prop} {i t : Nat} {L : List (Nat × Bool)} {op : Op} {v : Value} {x y z : Operand} {g : Option (Nat × Bool)}
theorem yV (hop : opAt ops i = some (some t, op, g)) (hy : ∀ w', Val P N env op w' v) (h : SchQ P N Q ops S L ((t, v) :: env) w) (hw : wantedE ops env g = some true := by rfl) (ht : Nat.blt t N = true := by rfl) :
    SchQ P N Q ops S ((i, true) :: L) env w := yS hop hw ht (fun w' _ => hy w') h
theorem run_pl {c : Code} (L : List (Nat × Bool)) (h : Sch P f N k R (rops c) (fun _ => True) L env w) (hc : isReg c false = true := by kernel_rfl) (hL : L.map (·.1) = List.range (rops c).size := by kernel_rfl) : Run P f N (.code c :: k) env w R := by
  obtain ⟨id, e⟩ := isReg_eq hc
  exact run_plain L e hL h
def isSq (c : Code) : Bool := match c with | .seq _ _ => true | _ => false
def isBk (c : Code) (i : Nat) : Bool := match c with | .block j _ => Nat.beq j i | _ => false
def isSk (c : Code) : Bool := match c with | .skip => true | _ => false
def isEx (c : Code) (i : Nat) : Bool := match c with | .exit j => Nat.beq j i | _ => false
def isLp (c : Code) : Bool := match c with | .loop _ => true | _ => false
def cnd (c : Code) : Operand := match c with | .cond o _ _ => o | _ => .tmp 0
def isCd (c : Code) (i : Nat) : Bool := match c with | .cond (.tmp j) _ _ => Nat.beq j i | _ => false
theorem run_sq {c : Code} (h : Run P f N (.code (cl c) :: .code (cr c) :: k) env w R) (hc : isSq c = true := by kernel_rfl) : Run P f N (.code c :: k) env w R :=
  run_seq (by cases c with | seq a b => rfl | _ => cases hc) h
theorem run_bk {c : Code} (id : Nat) (h : Run P f N (.code (cl c) :: .inBlock id :: k) env w R) (hc : isBk c id = true := by kernel_rfl) : Run P f N (.code c :: k) env w R :=
  run_block (by cases c with | block a b => simp only [isBk] at hc; rw [Nat.eq_of_beq_eq_true hc]; rfl | _ => cases hc) h
theorem run_sk {c : Code} (h : Run P f N k env w R) (hc : isSk c = true := by kernel_rfl) : Run P f N (.code c :: k) env w R :=
  run_skip (by cases c with | skip => rfl | _ => cases hc) h
theorem run_ex {c : Code} (id : Nat) {k' : List Item} (h : Run P f N k' env w R) (hc : isEx c id = true := by kernel_rfl) (hk : exitTo id k = some k' := by exact rfl) : Run P f N (.code c :: k) env w R :=
  run_exit (by cases c with | exit a => simp only [isEx] at hc; rw [Nat.eq_of_beq_eq_true hc] | _ => cases hc) hk h
theorem isCd_eq {c : Code} {t : Nat} (hc : isCd c t = true) : c = .cond (.tmp t) (cl c) (cr c) := by
  cases c with
  | cond o a b => cases o with | tmp j => simp only [isCd] at hc; rw [Nat.eq_of_beq_eq_true hc]; rfl | _ => cases hc
  | _ => cases hc
theorem run_i {c : Code} (t : Nat) {p : Prop} [Decidable p] (hv : look env t = some (.bool (decide p))) (ht : p → Run P f N (.code (cl c) :: k) env w R) (hf : ¬ p → Run P f N (.code (cr c) :: k) env w R) (hc : isCd c t = true := by kernel_rfl) : Run P f N (.code c :: k) env w R :=
  run_if (isCd_eq hc) hv ht hf
theorem run_c {c : Code} (t : Nat) {b : Bool} (hv : look env t = some (.bool b)) (ht : b = true → Run P f N (.code (cl c) :: k) env w R) (hf : b = false → Run P f N (.code (cr c) :: k) env w R) (hc : isCd c t = true := by kernel_rfl) : Run P f N (.code c :: k) env w R :=
  run_cond (isCd_eq hc) hv ht hf
theorem run_cT {c : Code} (t : Nat) (h : Run P f N (.code (cl c) :: k) env w R) (hc : isCd c t = true := by kernel_rfl) (hv : look env t = some (.bool true) := by exact rfl) : Run P f N (.code c :: k) env w R :=
  run_cond (isCd_eq hc) hv (fun _ => h) (fun h => by cases h)
theorem run_cF {c : Code} (t : Nat) (h : Run P f N (.code (cr c) :: k) env w R) (hc : isCd c t = true := by kernel_rfl) (hv : look env t = some (.bool false) := by exact rfl) : Run P f N (.code c :: k) env w R :=
  run_cond (isCd_eq hc) hv (fun h => by cases h) (fun _ => h)
theorem run_lp {c : Code} {ι : Type} (I : ι → World → Prop) (e : ι → Env) (m : ι → Nat) (x₀ : ι) (hs : Sub (e x₀) env) (h0 : I x₀ w)
    (hr : ∀ x w, I x w → (∀ y w', I y w' → m y < m x → Run P f N (.inLoop (cl c) :: k) (e y) w' R) → Run P f N (.code (cl c) :: .inLoop (cl c) :: k) (e x) w R) (hc : isLp c = true := by kernel_rfl) :
    Run P f N (.code c :: k) env w R := run_loop I e m x₀ (by cases c with | loop b => rfl | _ => cases hc) hs h0 hr
theorem yM (t a : Nat) (h : SchQ P N Q ops S L ((t, v) :: env) w) (hop : opAt ops i = some (some t, .move (.tmp a), none) := by kernel_rfl) (hy : look env a = some v := by exact rfl) (ht : Nat.blt t N = true := by rfl) :
    SchQ P N Q ops S ((i, true) :: L) env w := yV hop (fun _ => val_move hy) h rfl ht
theorem yA (t a : Nat) (h : SchQ P N Q ops S L ((t, v) :: env) w) (hop : opAt ops i = some (some t, .assign (.tmp a), none) := by kernel_rfl) (hy : look env a = some v := by exact rfl) (ht : Nat.blt t N = true := by rfl) :
    SchQ P N Q ops S ((i, true) :: L) env w := yV hop (fun _ => val_assign hy) h rfl ht
theorem yAc (t : Nat) (v : Value) (h : SchQ P N Q ops S L ((t, v) :: env) w) (hop : opAt ops i = some (some t, .assign (.const v), none) := by kernel_rfl) (ht : Nat.blt t N = true := by rfl) :
    SchQ P N Q ops S ((i, true) :: L) env w := yV hop (fun _ => val_assign rfl) h rfl ht
theorem yN (t a : Nat) {q : Addr} (h : SchQ P N Q ops S L ((t, .pointer (some q)) :: env) w) (hop : opAt ops i = some (some t, .nilCheck (.tmp a), none) := by kernel_rfl) (hy : look env a = some (.pointer (some q)) := by exact rfl) (ht : Nat.blt t N = true := by rfl) :
    SchQ P N Q ops S ((i, true) :: L) env w := yV hop (fun _ => val_nilCheck hy) h rfl ht
theorem yMg (t a : Nat) (j : Nat) (b : Bool) (h : SchQ P N Q ops S L ((t, v) :: env) w) (hop : opAt ops i = some (some t, .move (.tmp a), some (j, b)) := by kernel_rfl) (hy : look env a = some v := by exact rfl) (hw : wantedE ops env (some (j, b)) = some true := by rfl) (ht : Nat.blt t N = true := by rfl) :
    SchQ P N Q ops S ((i, true) :: L) env w := yV hop (fun _ => val_move hy) h hw ht
theorem yOf (t a b : Nat) (h : SchQ P N Q ops S L ((t, v) :: env) w) (hop : opAt ops i = some (some t, .pick (.tmp a) (.const (.bool true)) (.tmp b), none) := by kernel_rfl) (ha : look env a = some (.bool false) := by exact rfl) (hy : look env b = some v := by exact rfl) (ht : Nat.blt t N = true := by rfl) :
    SchQ P N Q ops S ((i, true) :: L) env w := yV hop (fun _ => val_pick_f ha hy) h rfl ht
theorem yOt (t a b : Nat) (h : SchQ P N Q ops S L ((t, .bool true) :: env) w) (hop : opAt ops i = some (some t, .pick (.tmp a) (.const (.bool true)) (.tmp b), none) := by kernel_rfl) (ha : look env a = some (.bool true) := by exact rfl) (ht : Nat.blt t N = true := by rfl) :
    SchQ P N Q ops S ((i, true) :: L) env w := yV hop (fun _ => val_pick_t ha rfl) h rfl ht
theorem yAt (t a b : Nat) (h : SchQ P N Q ops S L ((t, v) :: env) w) (hop : opAt ops i = some (some t, .pick (.tmp a) (.tmp b) (.const (.bool false)), none) := by kernel_rfl) (ha : look env a = some (.bool true) := by exact rfl) (hy : look env b = some v := by exact rfl) (ht : Nat.blt t N = true := by rfl) :
    SchQ P N Q ops S ((i, true) :: L) env w := yV hop (fun _ => val_pick_t ha hy) h rfl ht
theorem yAf (t a b : Nat) (h : SchQ P N Q ops S L ((t, .bool false) :: env) w) (hop : opAt ops i = some (some t, .pick (.tmp a) (.tmp b) (.const (.bool false)), none) := by kernel_rfl) (ha : look env a = some (.bool false) := by exact rfl) (ht : Nat.blt t N = true := by rfl) :
    SchQ P N Q ops S ((i, true) :: L) env w := yV hop (fun _ => val_pick_f ha rfl) h rfl ht
theorem yF (t T a q off : Nat) {b o : Nat} (h : SchQ P N Q ops S L ((t, .pointer (some ⟨b, o + off, none⟩)) :: env) w) (hop : opAt ops i = some (some t, .fieldAddr T (.tmp a) q, none) := by kernel_rfl) (hf : fieldB P T q = some off := by kernel_rfl) (hy : look env a = some (.pointer (some ⟨b, o, none⟩)) := by exact rfl) (ht : Nat.blt t N = true := by rfl) :
    SchQ P N Q ops S ((i, true) :: L) env w := yV hop (fun _ => val_fieldAddr (off := off) hf hy) h rfl ht
theorem yFg (t T a q off : Nat) (j : Nat) (bb : Bool) {b o : Nat} (h : SchQ P N Q ops S L ((t, .pointer (some ⟨b, o + off, none⟩)) :: env) w) (hop : opAt ops i = some (some t, .fieldAddr T (.tmp a) q, some (j, bb)) := by kernel_rfl) (hf : fieldB P T q = some off := by kernel_rfl) (hy : look env a = some (.pointer (some ⟨b, o, none⟩)) := by exact rfl) (hw : wantedE ops env (some (j, bb)) = some true := by rfl) (ht : Nat.blt t N = true := by rfl) :
    SchQ P N Q ops S ((i, true) :: L) env w := yV hop (fun _ => val_fieldAddr (off := off) hf hy) h hw ht
def opG (ops : Array Oper) (i : Nat) : Option (Option Nat × Option (Nat × Bool)) := (opAt ops i).map (fun x => (x.1, x.2.2))
theorem opG_eq {t : Option Nat} (h : opG ops i = some (t, g)) : ∃ op, opAt ops i = some (t, op, g) := by
  unfold opG at h
  cases hx : opAt ops i with
  | none => rw [hx] at h; cases h
  | some y => obtain ⟨p, q, r⟩ := y; rw [hx] at h; simp only [Option.map_some, Option.some.injEq, Prod.mk.injEq] at h; exact ⟨q, by rw [h.1, h.2]⟩
theorem pX (t j : Nat) (b : Bool) (h : SchQ P N Q ops S L ((t, undef) :: env) w) (hop : opG ops i = some (some t, some (j, b)) := by kernel_rfl) (hw : wantedE ops env (some (j, b)) = some false := by rfl) (ht : Nat.blt t N = true := by rfl) :
    SchQ P N Q ops S ((i, true) :: L) env w := by
  obtain ⟨op, e⟩ := opG_eq hop
  exact pS e hw ht h
theorem sr (t : Nat) {v : Value} {env' env : Env} (h : Sub env' env) (hl : look env t = some v := by exact rfl) : Sub ((t, v) :: env') env := sub_cons t hl rfl h
def skB (z : Env) : Nat → Env → Bool
  | 0, _ => true
  | n + 1, (t, _) :: e => (match look z t with | none => true | some _ => false) && skB z n e
  | _ + 1, [] => false
theorem skB_ok (z : Env) : ∀ (n : Nat) (e : Env), e.drop n = z → skB z n e = true → Sub z e
  | 0, e, he, _ => by rw [← he]; exact Sub.refl _
  | n + 1, (t, v) :: e, he, h => by
    simp only [skB, Bool.and_eq_true] at h
    exact sub_skip (by have := h.1; split at this <;> first | assumption | cases this) (skB_ok z n e he h.2)
  | _ + 1, [], _, h => by cases h
theorem sk (n : Nat) {env env' : Env} (he : env'.drop n = env := by exact rfl) (h : skB env n env' = true := by kernel_rfl) : Sub env env' := skB_ok env n env' he h
end
section
variable {α : Type} [Rep α] {w w' w'' : World} {I J : List Nat} {C C' C'' : Nat → Nat} {x : α} {ys : List α} {v : Value} {b o j : Nat} {ob : Obj} {e : TypeId}
theorem RV.t (h : RV w (Mc C) x v) (hs : Stp I w C w' C') (h0 : 0 ∉ I := by first | decide | (simp <;> omega)) : RV w' (Mc C') x v := h.st hs h0
theorem RA.t (h : RA w (Mc C) x b o) (hs : Stp I w C w' C') (h0 : 0 ∉ I := by first | decide | (simp <;> omega)) : RA w' (Mc C') x b o := h.st hs h0
theorem OwnB.t (h : OwnB w C j b ob) (hs : Stp I w C w' C') (hj : j ∉ I := by first | decide | (simp <;> omega)) : OwnB w' C' j b ob := h.st hs hj
theorem OwnL.t (h : OwnL w C j e v ys) (hs : Stp I w C w' C') (h0 : 0 ∉ I := by first | decide | (simp <;> omega)) (hj : j ∉ I := by first | decide | (simp <;> omega)) : OwnL w' C' j e v ys := h.st hs h0 hj
theorem Stp.t (h : Stp I w C w' C') (h' : Stp J w' C' w'' C'') (hJ : ∀ c ∈ J, c ∈ I := by simp) : Stp I w C w'' C'' := h.trans h' hJ
theorem RA.sy (h : RA w (Mc C) x b o) (hS : Ext (fun b => C b ∈ I) w w') (h0 : 0 ∉ I := by first | decide | (simp <;> omega)) : w'.heap[b]? = w.heap[b]? := h.stay hS h0
theorem OwnB.sy (h : OwnB w C j b ob) (hS : Ext (fun b => C b ∈ I) w w') (hj : j ∉ I := by first | decide | (simp <;> omega)) : w'.heap[b]? = some ob := h.stay hS hj
end
/-! ### Still shorter forms -/
section
variable {P : Program} {f : FuncId} {N : Nat} {k : List Item} {env : Env} {w w' : World} {R : Value → World → Prop} {Q : Exit → Act → World → Prop}
variable {ops : Array Oper} {S : World → Prop} {i t : Nat} {L : List (Nat × Bool)} {op : Op} {v : Value} {x y z : Operand} {g : Option (Nat × Bool)}
end
section
variable {P : Program} {N : Nat} {env : Env} {w : World} {Q : Exit → Act → World → Prop} {ops : Array Oper} {i t : Nat} {L : List (Nat × Bool)} {op : Op} {g : Option (Nat × Bool)} {T : Value → World → Prop}
end
end Go.K

/- Building structs and slices. -/
set_option linter.unusedVariables false
set_option linter.unusedSimpArgs false
namespace Go.K
open Rep
def fillL (place : Nat → Option (Nat × Nat)) : List Value → List (Nat × List Value) → Option (List Value)
  | cells, [] => some cells
  | cells, (i, vs) :: rest => match place i with
    | none => none
    | some (off, size) => if vs.length = size ∧ off + vs.length ≤ cells.length then fillL place (cells.take off ++ vs ++ cells.drop (off + vs.length)) rest else none
theorem foldl_set : ∀ (vs : List Value) (k off : Nat) (cs : List Value), off + k + vs.length ≤ cs.length →
    ((vs.zipIdx k).foldl (fun (acc : Array Value) (p : Value × Nat) => acc.setIfInBounds (off + p.2) p.1) cs.toArray) = (cs.take (off + k) ++ vs ++ cs.drop (off + k + vs.length)).toArray
  | [], k, off, cs, h => by simp
  | v :: vs, k, off, cs, h => by
    rw [List.length_cons] at h
    rw [List.zipIdx_cons, List.foldl_cons]
    have e1 : cs.toArray.setIfInBounds (off + k) v = (cs.set (off + k) v).toArray := by simp
    rw [e1, foldl_set vs (k + 1) off (cs.set (off + k) v) (by simp; omega)]
    congr 1
    have hlt : off + k < cs.length := by omega
    rw [List.set_eq_take_append_cons_drop, if_pos hlt]
    have e2 : off + (k + 1) = (cs.take (off + k)).length + 1 := by simp; omega
    have e3 : off + (k + 1) + vs.length = (cs.take (off + k)).length + (1 + vs.length) := by simp; omega
    rw [show List.take (off + (k + 1)) (cs.take (off + k) ++ v :: cs.drop (off + k + 1)) = cs.take (off + k) ++ [v] from by
      rw [e2, List.take_append]; simp [Nat.min_eq_left (Nat.le_of_lt hlt), List.take_take, Nat.min_eq_right (Nat.le_succ (off + k))]]
    rw [show List.drop (off + (k + 1) + vs.length) (cs.take (off + k) ++ v :: cs.drop (off + k + 1)) = cs.drop (off + k + (vs.length + 1)) from by
      rw [e3, List.drop_append]
      simp only [Nat.add_sub_cancel_left]
      rw [List.drop_eq_nil_of_le (by omega), List.nil_append, Nat.add_comm 1, List.drop_succ_cons, List.drop_drop]
      congr 1; omega]
    simp
theorem fill_eq (place : Nat → Option (Nat × Nat)) : ∀ (ps : List (Nat × Value)) (qs : List (Nat × List Value)) (cs cs' : List Value),
    ps.map (fun p => (p.1, p.2.cells)) = qs.map (fun q => (q.1, q.2.toArray)) → fillL place cs qs = some cs' → Instr.fill place cs.toArray ps = some cs'.toArray
  | [], [], cs, cs', _, h => by simp only [fillL, Option.some.injEq] at h; subst h; rfl
  | [], q :: qs, _, _, h, _ => by simp at h
  | p :: ps, [], _, _, h, _ => by simp at h
  | (i, v) :: ps, (j, vs) :: qs, cs, cs', h, hf => by
    simp only [List.map_cons, List.cons.injEq, Prod.mk.injEq] at h
    obtain ⟨⟨rfl, hv⟩, hr⟩ := h
    simp only [fillL] at hf
    unfold Instr.fill
    cases hp : place i with
    | none => rw [hp] at hf; cases hf
    | some os =>
      obtain ⟨off, size⟩ := os
      rw [hp] at hf
      simp only at hf ⊢
      split at hf
      · rename_i hc
        rw [hv]
        have hn : ¬ (vs.toArray.size ≠ size ∨ off + vs.toArray.size > cs.toArray.size) := by simp; omega
        simp only [List.size_toArray] at hn ⊢
        rw [if_neg (by simpa using hn)]
        have e : (vs.toArray.zipIdx.foldl (fun (acc : Array Value) (p : Value × Nat) => acc.setIfInBounds (off + p.2) p.1) cs.toArray) = (cs.take off ++ vs ++ cs.drop (off + vs.length)).toArray := by
          have := foldl_set vs 0 off cs (by simpa using hc.2)
          simpa using this
        rw [show (vs.toArray.zipIdx.foldl (fun cs (x : Value × Nat) => match x with | (c, j) => cs.setIfInBounds (off + j) c) cs.toArray) = _ from e]
        exact fill_eq place ps qs _ cs' hr hf
      · cases hf
def Parts (env : Env) : List (Nat × Operand) → List (Nat × List Value) → Prop
  | [], [] => True
  | (i, x) :: ps, (j, vs) :: qs => i = j ∧ (∃ v, ev env x = some v ∧ v.cells = vs.toArray) ∧ Parts env ps qs
  | _, _ => False
def placesB (P : Program) (t : TypeId) : Option (List (Nat × Nat)) := match P.underlying t with
  | some (.struct fs) => fs.toList.mapM fun f => (szB P f.type).map fun n => (f.offset, n)
  | _ => none
section
variable {P : Program} {N : Nat} {env : Env} {w : World} {t : TypeId} {ρ : Operand → Value}
theorem Parts.map (hρ : ∀ x v, ev env x = some v → ρ x = v) : ∀ {ps : List (Nat × Operand)} {qs : List (Nat × List Value)}, Parts env ps qs →
    (ps.map fun p => (p.1, ρ p.2)).map (fun p => (p.1, p.2.cells)) = qs.map (fun q => (q.1, q.2.toArray))
  | [], [], _ => rfl
  | [], _ :: _, h => h.elim
  | _ :: _, [], h => h.elim
  | (i, x) :: ps, (j, vs) :: qs, h => by
    obtain ⟨rfl, ⟨v, hv, hc⟩, hr⟩ := h
    simp only [List.map_cons, hρ x v hv, hc]
    rw [Parts.map hρ hr]
theorem run_map {α β : Type} (g : α → β) (s : Sem α) (w : World) : (g <$> s).run P w = (s.run P w).andThen fun a w' => .ok (g a) w' := by
  show (Sem.run P (Sem.bind s (fun a => Sem.pure (g a))) w) = _
  exact Sem.run_bind _ _ _ _
theorem run_places {ps : List (Nat × Nat)} {fs : Array Field} (h : fs.toList.mapM (fun f => (szB P f.type).map fun n => (f.offset, n)) = some ps) (w : World) :
    (fs.mapM fun f => do pure (f.offset, ← sizeOf f.type) : Sem (Array (Nat × Nat))).run P w = .ok ps.toArray w := by
  rw [Array.mapM_eq_mapM_toList]
  have main : ∀ (l : List Field) (ps : List (Nat × Nat)), l.mapM (fun f => (szB P f.type).map fun n => (f.offset, n)) = some ps →
      (l.mapM fun f => do pure (f.offset, ← sizeOf f.type) : Sem (List (Nat × Nat))).run P w = .ok ps w := by
    intro l
    induction l with
    | nil => intro ps h; simp at h; subst h; rfl
    | cons f l ih =>
      intro ps h
      rw [List.mapM_cons] at h
      simp only [Option.bind_eq_bind, Option.bind_eq_some_iff, Option.map_eq_some_iff, Option.pure_def, Option.some.injEq] at h
      obtain ⟨p, ⟨n, hn, rfl⟩, qs, hq, rfl⟩ := h
      rw [List.mapM_cons]
      rw [Sem.run_bind, Sem.run_bind, run_sizeOfB hn, Result.andThen_ok, Sem.run_pure, Result.andThen_ok, Sem.run_bind, ih qs hq, Result.andThen_ok, Sem.run_pure]
  rw [run_map, main _ _ h]
  rfl
theorem val_build {parts : Array (Nat × Operand)} {zs cs : List Value} {ps : List (Nat × Nat)} {qs : List (Nat × List Value)} (hz : zeroB P t = some zs) (hp : placesB P t = some ps)
    (hq : Parts env parts.toList qs) (hf : fillL (ps[·]?) zs qs = some cs) : Val P N env (.build t parts) w (.agg cs.toArray) := mk' fun ρ hρ o ho => by
  obtain ⟨z, h1, h2⟩ := run_zeroB hz w
  unfold placesB at hp
  split at hp
  · rename_i fs hu
    have hpl := run_places hp w
    have hmap := Parts.map hρ hq
    have hfill := fill_eq (ps[·]?) (parts.toList.map fun p => (p.1, ρ p.2)) qs zs cs (by rw [← hmap]) hf
    have hfill' : Instr.fill (fun x => ps.toArray[x]?) z.cells (parts.map fun x => (x.1, ρ x.2)).toList = some cs.toArray := by
      rw [h2]
      have : (parts.map fun x => (x.1, ρ x.2)).toList = parts.toList.map fun p => (p.1, ρ p.2) := by simp
      rw [this, ← hfill]
      congr 1
      funext x
      simp
    unfold execOp; rw [ho]
    simp only [Instr.build, Sem.run_bind, h1, Result.andThen_ok, run_underlying hu, hpl]
    rw [show (parts.map fun x => match x with | (i, x) => (i, ρ x)).toList = (parts.map fun x => (x.1, ρ x.2)).toList from rfl, hfill']
    rfl
  · cases hp
end
section
variable {α : Type} [Rep α] {P : Program} {N : Nat} {env : Env} {w : World} {M : Nat → Prop} {C : Nat → Nat} {t e : TypeId}
def Elems (env : Env) (w : World) (M : Nat → Prop) : Nat → List (Nat × Operand) → List α → Prop
  | _, [], [] => True
  | k, (i, x) :: ps, y :: ys => i = k ∧ (∃ v, ev env x = some v ∧ RV w M y v) ∧ Elems env w M (k + 1) ps ys
  | _, _, _ => False
theorem RV.cells {x : α} {v : Value} (h : RV w M x v) : ∃ vs, v.cells = vs.toArray ∧ Rep.rep w.heap M x vs := by
  cases hx : Rep.agg α with
  | true => obtain ⟨vs, rfl, _, _, hr⟩ := h.many hx; exact ⟨vs, rfl, hr⟩
  | false =>
    have h1 := (h.one hx).1
    obtain ⟨vs, hr, hv⟩ := h
    have hl := Rep.len hr
    rw [Rep.flat hx] at hl
    obtain ⟨u, rfl⟩ := List.length_eq_one_iff.1 hl
    simp only [hx, Bool.false_eq_true, if_false, List.headD_cons] at hv
    subst hv
    exact ⟨[v], h1, hr⟩
theorem elems_fill : ∀ {ps : List (Nat × Operand)} {ys : List α} {k : Nat} (pre post : List Value), Elems env w M k ps ys → pre.length = k * sz α → post.length = ys.length * sz α →
    ∃ qs news, Parts env ps qs ∧ fillL (fun i => some (i * sz α, sz α)) (pre ++ post) qs = some (pre ++ news) ∧ news.length = ys.length * sz α ∧
      ∀ i (hi : i < ys.length), Rep.rep w.heap M ys[i] ((news.drop (i * sz α)).take (sz α))
  | [], [], k, pre, post, _, _, hpost => by
    have : post = [] := List.eq_nil_of_length_eq_zero (by simpa using hpost)
    subst this
    exact ⟨[], [], trivial, by simp [fillL], by simp, fun i hi => by simp at hi⟩
  | [], _ :: _, _, _, _, h, _, _ => h.elim
  | _ :: _, [], _, _, _, h, _, _ => h.elim
  | (i, x) :: ps, y :: ys, k, pre, post, h, hpre, hpost => by
    obtain ⟨rfl, ⟨v, hv, hr⟩, hrest⟩ := h
    obtain ⟨vs, hc, hrep⟩ := hr.cells
    have hl := Rep.len hrep
    rw [List.length_cons, Nat.succ_mul] at hpost
    obtain ⟨qs, news, h1, h2, h3, h4⟩ := elems_fill (k := i + 1) (pre ++ vs) (post.drop (sz α)) hrest (by rw [List.length_append, hpre, hl, Nat.succ_mul]) (by rw [List.length_drop, hpost]; omega)
    refine ⟨(i, vs) :: qs, vs ++ news, ⟨rfl, ⟨v, hv, hc⟩, h1⟩, ?_, ?_, ?_⟩
    · simp only [fillL]
      rw [if_pos ⟨hl, by rw [List.length_append, hpre, hl, hpost]; omega⟩]
      rw [show List.take (i * sz α) (pre ++ post) = pre from by rw [← hpre]; exact List.take_left, show List.drop (i * sz α + vs.length) (pre ++ post) = post.drop (sz α) from by rw [← hpre, hl, List.drop_append]; simp]
      rw [h2, List.append_assoc]
    · rw [List.length_append, hl, h3, List.length_cons, Nat.succ_mul]; omega
    · intro j hj
      cases j with
      | zero => simpa [← hl] using hrep
      | succ j =>
        have := h4 j (by simpa using hj)
        rw [show (j + 1) * sz α = vs.length + j * sz α from by rw [hl, Nat.succ_mul]; omega, List.drop_append, List.drop_eq_nil_of_le (Nat.le_add_right vs.length (j * sz α))]
        simpa using this
theorem a_buildSlice {n bytes : Nat} {parts : Array (Nat × Operand)} {ys : List α} (hF : Lim w C) (hrow : rowB P t e (sz α) bytes = true) (hn : n = ys.length) (hsm : n * sz α ≤ 16777216) (hsz : 0 < sz α)
    (hp : Elems env w (Mc C) 0 parts.toList ys) :
    Acts P N env (.buildSlice t n parts) w (fun v w' => Stp [] w C w' C ∧ RV w' (Mc C) ys v ∧ Lim w' C) := acts' fun ρ hρ oo hoo => by
  subst hn
  obtain ⟨i, z, hu, hi, hsi, hby, hz, hzs⟩ := rowB_spec hrow
  let zs : List Value := ((Array.range (ys.length * sz α)).map fun j => (if ys.length * sz α = 0 then (#[] : Array Value) else z.cells)[j % (if ys.length * sz α = 0 then (#[] : Array Value) else z.cells).size]!).toList
  obtain ⟨qs, news, h1, h2, h3, h4⟩ := elems_fill (k := 0) [] zs hp (by simp) (by simp [zs])
  simp only [List.nil_append] at h2
  have hmap := Parts.map hρ h1
  have hfill := fill_eq _ (parts.toList.map fun p => (p.1, ρ p.2)) qs zs news (by rw [← hmap]) h2
  have hnew := new_alloc w (.cells news.toArray e)
  have hrun : (Instr.buildSlice t ys.length (parts.map fun x => (x.1, ρ x.2))).run P w = .ok (.slice (some ⟨w.heap.size, 0, none⟩) ys.length ys.length) (w.alloc (.cells news.toArray e)) := by
    have hle : ¬ (ys.length * sz α > 2 ^ 24) := by omega
    have hpl : (parts.map fun x => (x.1, ρ x.2)).toList = parts.toList.map fun p => (p.1, ρ p.2) := by simp
    have hsz' : (sizeOf e).run P w = .ok (sz α) w := by simp [sizeOf, typeInfo, hi, hsi]
    unfold Instr.buildSlice
    simp only [Sem.run_bind, run_underlying hu, Result.andThen_ok, hsz', if_neg hle, Sem.run_pure, hpl]
    by_cases h0 : ys.length * sz α = 0
    · have hzs0 : zs = ((Array.range (ys.length * sz α)).map fun j => (#[] : Array Value)[j % (#[] : Array Value).size]!).toList := by simp only [zs, h0, if_true]
      rw [hzs0] at hfill
      simp only [h0, if_true, Sem.run_bind, Sem.run_pure, Result.andThen_ok] at hfill ⊢
      simp only [Array.toArray_toList] at hfill
      rw [hfill]
      simp [newRow]
    · have hzs0 : zs = ((Array.range (ys.length * sz α)).map fun j => z.cells[j % z.cells.size]!).toList := by simp only [zs, h0, if_false]
      rw [hzs0] at hfill
      have hzv : (zeroValue e).run P w = .ok z w := by simp [zeroValue, typeInfo, hi, hz]
      simp only [h0, if_false, Sem.run_bind, hzv, Sem.run_pure, Result.andThen_ok]
      simp only [Array.toArray_toList] at hfill
      rw [hfill]
      simp [newRow]
  refine ⟨.slice (some ⟨w.heap.size, 0, none⟩) ys.length ys.length, w.alloc (.cells news.toArray e), .inl ?_, hnew.st C, ?_, hF.st (hnew.st C)⟩
  · unfold execOp; rw [hoo]
    simp only [Sem.run_bind]
    rw [show (parts.map fun x => match x with | (i, x) => (i, ρ x)) = (parts.map fun x => (x.1, ρ x.2)) from rfl, hrun]
    rfl
  · refine rv_list.2 ⟨_, _, rfl, Nat.le_refl _, ?_, .inr ⟨w.heap.size, 0, rfl, fun hm => ?_, news.toArray, e, (0, 0), hnew.at_, ?_, fun i hi => ?_⟩⟩
    · have : ys.length ≤ ys.length * sz α := Nat.le_mul_of_pos_right _ hsz
      omega
    · have := hF _ hm; omega
    · simp only [Nat.zero_add, List.size_toArray, h3]; exact Nat.le_refl _
    · have := h4 i hi
      rw [Nat.zero_add]
      exact Rep.keep this (fun b hb hm => hnew.ext.block b hb (fun h => h))
end
section
variable {P : Program} {N : Nat} {env : Env} {w : World} {C : Nat → Nat} {y z : Operand} {t ty : TypeId} {v : Value} {b j n : Nat}
theorem a_storeAll {cs vs : List Value} (hx : ev env y = some (.pointer (some ⟨b, 0, none⟩))) (hy : ev env z = some v) (hs : szB P t = some n)
    (hv : v.cells = vs.toArray) (hl : vs.length = n) (h1 : ∀ u ∈ vs, u.oneCell' = true) (hb : OwnB w C j b (.cells cs.toArray ty)) (ho : cs.length = n) :
    Acts P N env (.store t y z) w (fun u w' => u = undef ∧ Stp [j] w C w' C ∧ OwnB w' C j b (.cells vs.toArray ty)) := fun a ha oo hoo => by
  obtain ⟨u, w', h2, h3, h4, h5⟩ := a_store (P := P) (N := N) (w := w) (o := 0) hx hy hs hv hl h1 hb (by omega) a ha oo hoo
  have e : List.take 0 cs ++ vs ++ List.drop (0 + n) cs = vs := by
    rw [List.drop_eq_nil_of_le (by omega)]; simp
  rw [e] at h5
  exact ⟨u, w', h2, h3, h4, h5⟩
end
end Go.K

/- The program's types as Lean types. -/
set_option linter.unusedVariables false
set_option linter.unusedSimpArgs false
namespace Go.K
open Rep
structure Raw (n : Nat) where
  vals : List Value
  len : vals.length = n
  one : ∀ v ∈ vals, v.oneCell' = true
instance {n : Nat} : Rep (Raw n) where
  sz := n
  agg := true
  flat h := by cases h
  rep _ _ x vs := vs = x.vals
  len h := by subst h; rename_i x; exact x.len
  one h := by subst h; rename_i x; exact x.one
  keep h _ := h
  sub h _ := h
structure Block where
  hash : Int
  ids : List Int
instance : Rep Block := Rep.via (fun b : Block => ((⟨b.hash⟩ : U64), b.ids))
structure Couple where
  a : Int
  b : Int
  deriving DecidableEq
instance : Rep Couple := Rep.via (fun c : Couple => (c.a, c.b))
section
variable {w : World} {M : Nat → Prop} {b o : Nat} {v : Value}
theorem RA.ca {x : Couple} (h : RA w M x b o) : RA w M x.a b o := RA.fst (p := (x.a, x.b)) h
theorem rv_couple {x : Couple} : RV w M x v ↔ v = .agg #[.int .i64 x.a, .int .i64 x.b] :=
  ⟨fun h => by
    obtain ⟨vs, ⟨us, ws, rfl, h1, h2⟩, hv⟩ := h
    have h1' : us = [.int .i64 x.a] := h1
    have h2' : ws = [.int .i64 x.b] := h2
    subst h1'; subst h2'; exact hv,
   fun h => ⟨[.int .i64 x.a, .int .i64 x.b], ⟨_, _, rfl, rfl, rfl⟩, h⟩⟩
end
end Go.K

/- Maps. -/
set_option linter.unusedVariables false
set_option linter.unusedSimpArgs false
set_option linter.unusedSectionVars false
namespace Go.K
open Rep
def EqOK (P : Program) (t : TypeId) {κ : Type} [DecidableEq κ] (kv : κ → Value) : Prop :=
  ∀ d a b w, (Op.equalIn (d + 8) t (kv a) (kv b)).run P w = .ok (decide (a = b)) w
structure KeyOK (P : Program) (t : TypeId) {κ : Type} [DecidableEq κ] (kv : κ → Value) : Prop where
  check : ∀ e k w, (Instr.checkKey e 10000 t (kv k)).run P w = .ok () w
  find : ∀ k (es : List MapEntry) (ks : List κ) w, es.map (·.key) = ks.map kv →
    (Instr.findKey t (kv k) es).run P w = .ok ((ks.findIdx? (fun x => decide (x = k))).bind fun i => (es[i]?).map fun e => (i, e.val)) w
  bits : ∀ k, Instr.sameBits 10000 (kv k) (kv k) = true
  inj : ∀ a b, kv a = kv b → a = b
theorem find_now {kind : TypeDesc} {κ : Type} [DecidableEq κ] {kv : κ → Value} (hs : ∀ a b, Instr.sameNow kind (kv a) (kv b) = some (decide (a = b))) (k : κ) :
    ∀ (es : List MapEntry) (ks : List κ) (n : Nat), es.map (·.key) = ks.map kv →
      Instr.findNow kind (kv k) es n = some ((ks.findIdx? (fun x => decide (x = k))).bind fun i => (es[i]?).map fun e => (n + i, e.val))
  | [], [], n, _ => by simp [Instr.findNow]
  | [], _ :: _, n, h => by simp at h
  | _ :: _, [], n, h => by simp at h
  | e :: es, x :: ks, n, h => by
    simp only [List.map_cons, List.cons.injEq] at h
    obtain ⟨h1, h2⟩ := h
    unfold Instr.findNow
    rw [h1, hs]
    by_cases hx : k = x
    · subst hx; simp [List.findIdx?_cons]
    · simp only [hx, decide_false]
      rw [find_now hs k es ks (n + 1) h2, List.findIdx?_cons]
      have : ¬ x = k := fun e => hx e.symm
      simp only [this, decide_false, Bool.false_eq_true, if_false]
      cases ks.findIdx? (fun x => decide (x = k)) with
      | none => rfl
      | some i => simp [Nat.add_assoc, Nat.add_comm 1]
theorem keyOK_int {P : Program} {t : TypeId} {k : IntKind} (h : P.underlying t = some (.int k)) : KeyOK P t (fun n : Int => .int k n) where
  check e n w := by unfold Instr.checkKey; simp [run_underlying h]
  find n es ks w hk := by
    unfold Instr.findKey
    rw [Sem.run_bind, run_underlying h]
    simp only [Result.andThen_ok]
    rw [find_now (kv := fun n : Int => .int k n) (fun a b => by simp [Instr.sameNow]; rfl) n es ks 0 hk]
    simp
  bits n := by simp [Instr.sameBits]
  inj a b hab := by simpa using hab
theorem find_asking {P : Program} {t : TypeId} {κ : Type} [DecidableEq κ] {kv : κ → Value} (heq : EqOK P t kv) (k : κ) (w : World) :
    ∀ (es : List MapEntry) (ks : List κ) (n : Nat), es.map (·.key) = ks.map kv →
      (Instr.findAsking t (kv k) es n).run P w = .ok ((ks.findIdx? (fun x => decide (x = k))).bind fun i => (es[i]?).map fun e => (n + i, e.val)) w
  | [], [], n, _ => by simp [Instr.findAsking]
  | [], _ :: _, n, h => by simp at h
  | _ :: _, [], n, h => by simp at h
  | e :: es, x :: ks, n, h => by
    simp only [List.map_cons, List.cons.injEq] at h
    obtain ⟨h1, h2⟩ := h
    unfold Instr.findAsking Op.equal
    rw [h1, Sem.run_bind, show Op.maxDepth = 9992 + 8 from rfl, heq]
    simp only [Result.andThen_ok]
    by_cases hx : k = x
    · subst hx; simp [List.findIdx?_cons]
    · simp only [hx, decide_false, Bool.false_eq_true, if_false]
      rw [find_asking heq k w es ks (n + 1) h2, List.findIdx?_cons]
      have : ¬ x = k := fun e => hx e.symm
      simp only [this, decide_false, Bool.false_eq_true, if_false]
      cases ks.findIdx? (fun x => decide (x = k)) with
      | none => rfl
      | some i => simp [Nat.add_assoc, Nat.add_comm 1]
theorem keyOK_struct {P : Program} {t : TypeId} {fs : Array Field} {κ : Type} [DecidableEq κ] {kv : κ → Value} (h : P.underlying t = some (.struct fs)) (heq : EqOK P t kv)
    (hc : ∀ e k w, (Instr.checkKey e 10000 t (kv k)).run P w = .ok () w) (hb : ∀ k, Instr.sameBits 10000 (kv k) (kv k) = true) (hi : ∀ a b, kv a = kv b → a = b) : KeyOK P t kv where
  check := hc
  find k es ks w hk := by
    rw [run_findKey_eq w (by rw [h]) (kv k) es]
    simpa using find_asking heq k w es ks 0 hk
  bits := hb
  inj := hi
/-! ### Plain maps: lists of entries in the order of their making -/
section
variable {κ β : Type} [DecidableEq κ]
def mget : List (κ × β) → κ → Option β
  | [], _ => none
  | (x, v) :: m, k => if x = k then some v else mget m k
def mput : List (κ × β) → κ → β → List (κ × β)
  | [], k, v => [(k, v)]
  | (x, u) :: m, k, v => if x = k then (k, v) :: m else (x, u) :: mput m k v
def keys (m : List (κ × β)) : List κ := m.map (·.1)
theorem mget_mput (m : List (κ × β)) (k : κ) (v : β) (j : κ) : mget (mput m k v) j = if k = j then some v else mget m j := by
  induction m with
  | nil => simp [mput, mget]
  | cons p m ih =>
    obtain ⟨x, u⟩ := p
    unfold mput
    split
    · rename_i h; subst h
      simp only [mget]; split <;> rfl
    · rename_i h
      simp only [mget, ih]
      by_cases h1 : x = j
      · subst h1; rw [if_pos rfl, if_neg (fun e => h e.symm), if_pos rfl]
      · rw [if_neg h1, if_neg h1]
theorem mem_keys_mput (m : List (κ × β)) (k : κ) (v : β) (j : κ) : j ∈ keys (mput m k v) ↔ j = k ∨ j ∈ keys m := by
  induction m with
  | nil => simp [mput, keys]
  | cons p m ih =>
    obtain ⟨x, u⟩ := p
    unfold mput
    split
    · rename_i h; subst h; simp [keys]
    · simp only [keys, List.map_cons, List.mem_cons] at ih ⊢
      rw [ih]
      constructor
      · rintro (h | h | h)
        · exact .inr (.inl h)
        · exact .inl h
        · exact .inr (.inr h)
      · rintro (h | h | h)
        · exact .inr (.inl h)
        · exact .inl h
        · exact .inr (.inr h)
theorem nodup_mput {m : List (κ × β)} (h : (keys m).Nodup) (k : κ) (v : β) : (keys (mput m k v)).Nodup := by
  induction m with
  | nil => simp [mput, keys]
  | cons p m ih =>
    obtain ⟨x, u⟩ := p
    unfold mput
    simp only [keys, List.map_cons, List.nodup_cons] at h
    split
    · rename_i hx; subst hx; simpa [keys] using h
    · rename_i hx
      simp only [keys, List.map_cons, List.nodup_cons]
      refine ⟨fun hm => ?_, ih h.2⟩
      rcases (mem_keys_mput m k v x).1 hm with e | e
      · exact hx e
      · exact h.1 e
theorem findIdx_mget (m : List (κ × β)) (k : κ) : ((keys m).findIdx? (fun x => decide (x = k))).bind (fun i => (m[i]?).map (·.2)) = mget m k := by
  induction m with
  | nil => simp [mget, keys]
  | cons p m ih =>
    obtain ⟨x, u⟩ := p
    simp only [mget, keys, List.map_cons, List.findIdx?_cons] at ih ⊢
    split
    · rename_i h; rw [if_pos (by simpa using h)]; simp
    · rename_i h
      rw [if_neg (by simpa using h), ← ih]
      cases (m.map (·.1)).findIdx? (fun x => decide (x = k)) <;> simp
theorem mput_none {m : List (κ × β)} {k : κ} (h : (keys m).findIdx? (fun x => decide (x = k)) = none) (v : β) : mput m k v = m ++ [(k, v)] := by
  induction m with
  | nil => rfl
  | cons p m ih =>
    obtain ⟨x, u⟩ := p
    simp only [keys, List.map_cons, List.findIdx?_cons] at h
    split at h
    · cases h
    · rename_i hx
      simp only [Option.map_eq_none_iff] at h
      unfold mput
      rw [if_neg (by simpa using hx), ih h]; rfl
theorem findIdx_at {m : List (κ × β)} {k : κ} {i : Nat} (h : (keys m).findIdx? (fun x => decide (x = k)) = some i) : ∃ u, m[i]? = some (k, u) := by
  obtain ⟨hlt, h1, _⟩ := List.findIdx?_eq_some_iff_getElem.1 h
  simp only [keys, List.getElem_map, decide_eq_true_eq] at h1
  simp only [keys, List.length_map] at hlt
  exact ⟨m[i].2, by rw [List.getElem?_eq_getElem hlt, ← h1]⟩
theorem mput_some {m : List (κ × β)} {k : κ} {i : Nat} (h : (keys m).findIdx? (fun x => decide (x = k)) = some i) (v : β) : mput m k v = m.set i (k, v) ∧ ∃ u, m[i]? = some (k, u) := by
  induction m generalizing i with
  | nil => simp [keys] at h
  | cons p m ih =>
    obtain ⟨x, u⟩ := p
    simp only [keys, List.map_cons, List.findIdx?_cons] at h
    unfold mput
    split at h
    · rename_i hx
      simp only [Option.some.injEq] at h
      subst h
      have hx' : x = k := by simpa using hx
      subst hx'
      rw [if_pos rfl]
      exact ⟨rfl, u, rfl⟩
    · rename_i hx
      simp only [Option.map_eq_some_iff] at h
      obtain ⟨j, hj, rfl⟩ := h
      obtain ⟨h1, u', h2⟩ := ih hj
      rw [if_neg (by simpa using hx), h1]
      exact ⟨rfl, u', by simpa using h2⟩
end
/-! ### Maps in memory -/
section
variable {κ β : Type} [DecidableEq κ] {kv : κ → Value} {vv : β → Value} {m : List (κ × β)}
structure MapIs (kv : κ → Value) (vv : β → Value) (m : List (κ × β)) (es : Array MapEntry) (clock : Nat) : Prop where
  key : es.toList.map (·.key) = (keys m).map kv
  val : es.toList.map (·.val) = m.map (fun p => vv p.2)
  nodup : (keys m).Nodup
  born : ∀ e ∈ es.toList, e.born < clock
  rise : es.toList.Pairwise (fun a b => a.born < b.born)
def OwnM (w : World) (C : Nat → Nat) (j b : Nat) (kv : κ → Value) (vv : β → Value) (m : List (κ × β)) : Prop :=
  C b = j ∧ ∃ es clock, w.heap[b]? = some (.map es clock) ∧ MapIs kv vv m es clock
variable {w w' : World} {I : List Nat} {C C' : Nat → Nat} {j b n : Nat} {v : Value}
theorem OwnM.st (h : OwnM w C j b kv vv m) (hs : Stp I w C w' C') (hj : j ∉ I) : OwnM w' C' j b kv vv m := by
  obtain ⟨hc, es, clock, hb, hm⟩ := h
  exact ⟨(hs.col b (lt_of_at hb)).trans hc, es, clock, hs.ext.at' hb (by rw [hc]; exact hj), hm⟩
theorem OwnM.t (h : OwnM w C j b kv vv m) (hs : Stp I w C w' C') (hj : j ∉ I := by first | decide | (simp <;> omega)) : OwnM w' C' j b kv vv m := h.st hs hj
variable {P : Program} {N : Nat} {env : Env} {x y z q : Operand} {t kt et : TypeId}
theorem find_get {es : Array MapEntry} {clock : Nat} (hm : MapIs kv vv m es clock) (k : κ) :
    ((keys m).findIdx? (fun x => decide (x = k))).bind (fun i => (es.toList[i]?).map fun e => (i, e.val)) =
      ((keys m).findIdx? (fun x => decide (x = k))).bind (fun i => (m[i]?).map fun p => (i, vv p.2)) := by
  cases (keys m).findIdx? (fun x => decide (x = k)) with
  | none => rfl
  | some i =>
    simp only [Option.bind_some]
    have h1 : (es.toList.map (·.val))[i]? = (m.map (fun p => vv p.2))[i]? := by rw [hm.val]
    simp only [List.getElem?_map] at h1
    cases h2 : es.toList[i]? with
    | none => rw [h2] at h1; cases h3 : m[i]? with
      | none => rfl
      | some p => rw [h3] at h1; cases h1
    | some e => rw [h2] at h1; cases h3 : m[i]? with
      | none => rw [h3] at h1; cases h1
      | some p => rw [h3] at h1; simp only [Option.map_some, Option.some.injEq] at h1 ⊢; rw [h1]
theorem run_lookup {es : Array MapEntry} {clock : Nat} (ht : P.underlying t = some (.map kt et)) (hk : KeyOK P kt kv) {z0 : β} (hz : zeroB P et = some [vv z0]) (hagg : ∀ z : Value, z.cells = #[vv z0] → z = vv z0)
    (hb : w.heap[b]? = some (.map es clock)) (hm : MapIs kv vv m es clock) (k : κ) (ok : Bool) :
    (Instr.lookup t (.map (some b)) (kv k) ok).run P w = .ok (if ok then .tuple #[vv ((mget m k).getD z0), .bool (mget m k).isSome] else vv ((mget m k).getD z0)) w := by
  obtain ⟨zv, h1, h2⟩ := run_zeroB hz w
  have h3 := hagg zv (by simpa using h2)
  subst h3
  have hf := hk.find k es.toList (keys m) w hm.key
  rw [find_get hm] at hf
  have hg := findIdx_mget m k
  have hget : (getObj b).run P w = .ok (.map es clock) w := by simp [getObj, Sem.run, hb]
  unfold Instr.lookup
  simp only [Sem.run_bind, run_underlying ht, Result.andThen_ok, hget, Sem.run_pure, hk.check, hf]
  cases hi : (keys m).findIdx? (fun x => decide (x = k)) with
  | none =>
    rw [hi] at hg
    simp only [Option.bind_none] at hg ⊢
    simp only [Sem.run_bind, h1, Result.andThen_ok, Sem.run_pure, ← hg]
    cases ok <;> rfl
  | some i =>
    rw [hi] at hg
    simp only [Option.bind_some] at hg ⊢
    cases hp : m[i]? with
    | none =>
      have := (List.findIdx?_eq_some_iff_getElem.1 hi).1
      simp only [keys, List.length_map] at this
      rw [List.getElem?_eq_none_iff] at hp; omega
    | some p =>
      rw [hp] at hg
      simp only [Option.map_some] at hg ⊢
      simp only [Sem.run_pure, Result.andThen_ok, ← hg]
      cases ok <;> rfl
end
section
variable {κ β : Type} [DecidableEq κ] {kv : κ → Value} {vv : β → Value} {m : List (κ × β)} {es : Array MapEntry} {clock : Nat}
theorem MapIs.push (h : MapIs kv vv m es clock) {k : κ} (hk : (keys m).findIdx? (fun x => decide (x = k)) = none) (x : β) :
    MapIs kv vv (mput m k x) (es.push { key := kv k, val := vv x, born := clock }) (clock + 1) where
  key := by rw [mput_none hk]; simp [keys, h.key]
  val := by rw [mput_none hk]; simp [h.val]
  nodup := nodup_mput h.nodup k x
  born e he := by
    simp only [Array.toList_push, List.mem_append, List.mem_singleton] at he
    rcases he with he | rfl
    · have := h.born e he; omega
    · exact Nat.lt_succ_self _
  rise := by
    rw [Array.toList_push, List.pairwise_append]
    refine ⟨h.rise, List.pairwise_singleton _ _, fun a ha b hb => ?_⟩
    simp only [List.mem_singleton] at hb
    subst hb
    exact h.born a ha
theorem map_modify {γ : Type} (f : MapEntry → γ) (g : MapEntry → MapEntry) (i : Nat) (l : List MapEntry) (hg : ∀ e, l[i]? = some e → f (g e) = f e) : (l.modify i g).map f = l.map f := by
  apply List.ext_getElem?
  intro j
  simp only [List.getElem?_map, List.getElem?_modify]
  cases hj : l[j]? with
  | none => rfl
  | some e =>
    simp only [Option.map_some]
    split
    · rename_i h; subst h; simp [hg e hj]
    · simp
theorem MapIs.modify (h : MapIs kv vv m es clock) {k : κ} {i : Nat} (hk : (keys m).findIdx? (fun x => decide (x = k)) = some i) (x : β) :
    MapIs kv vv (mput m k x) (es.modify i fun e => { e with key := kv k, val := vv x }) clock := by
  obtain ⟨h1, u, h2⟩ := mput_some hk x
  have hkeys : keys (mput m k x) = keys m := by
    rw [h1]
    apply List.ext_getElem?
    intro j
    simp only [keys, List.getElem?_map, List.getElem?_set]
    split
    · rename_i e; subst e
      split
      · rw [h2]; rfl
      · rename_i hlt; rw [List.getElem?_eq_none (by omega)]
    · rfl
  have hmem : ∀ e, e ∈ (es.modify i fun e => { e with key := kv k, val := vv x }).toList → ∃ e' ∈ es.toList, e'.born = e.born := fun e he => by
    rw [Array.toList_modify] at he
    obtain ⟨j, hj⟩ := List.mem_iff_getElem?.1 he
    rw [List.getElem?_modify] at hj
    cases hjj : es.toList[j]? with
    | none => rw [hjj] at hj; cases hj
    | some e' =>
      rw [hjj] at hj
      refine ⟨e', List.mem_of_getElem? hjj, ?_⟩
      simp only [Option.map_eq_map, Option.map_some, Option.some.injEq] at hj
      split at hj <;> subst hj <;> rfl
  refine ⟨?_, ?_, by rw [hkeys]; exact h.nodup, fun e he => ?_, ?_⟩
  · rw [Array.toList_modify, hkeys, ← h.key]
    refine map_modify _ _ _ _ (fun e he => ?_)
    have : (es.toList.map (·.key))[i]? = ((keys m).map kv)[i]? := by rw [h.key]
    simp only [List.getElem?_map, he, Option.map_some, keys, h2] at this
    simpa using this.symm
  · rw [Array.toList_modify, h1]
    apply List.ext_getElem?
    intro j
    have hval : (es.toList.map (·.val))[j]? = (m.map (fun p => vv p.2))[j]? := by rw [h.val]
    simp only [List.getElem?_map] at hval
    simp only [List.getElem?_map, List.getElem?_modify, List.getElem?_set]
    by_cases hij : i = j
    · subst hij
      have hlt : i < m.length := (List.getElem?_eq_some_iff.1 h2).1
      rw [h2] at hval
      cases he : es.toList[i]? with
      | none => rw [he] at hval; cases hval
      | some e => simp [hlt]
    · simp only [if_neg hij, Option.map_id', id_eq]
      simpa using hval
  · obtain ⟨e', he', hb⟩ := hmem e he
    rw [← hb]; exact h.born e' he'
  · rw [Array.toList_modify]
    have hp : (es.toList.map (·.born)).Pairwise (· < ·) := by rw [List.pairwise_map]; exact h.rise
    have hq : ((es.toList.modify i fun e => { e with key := kv k, val := vv x }).map (·.born)).Pairwise (· < ·) := by
      rw [map_modify (fun e => e.born) (fun e => { e with key := kv k, val := vv x }) i es.toList (fun e _ => rfl)]; exact hp
    rw [List.pairwise_map] at hq
    exact hq
variable {w w' : World} {I : List Nat} {C C' : Nat → Nat} {M : Nat → Prop} {j b n : Nat} {v : Value} {P : Program} {N : Nat} {env : Env} {x y z q : Operand} {t kt et : TypeId}
theorem setObj_run {o o' : Obj} (hb : w.heap[b]? = some o) (hno : ∀ c e f, o ≠ .cells c e f) : (setObj b o').run P w = .ok () { w with heap := w.heap.setIfInBounds b o' } := by
  unfold setObj Sem.run
  rw [hb]
  cases o with
  | cells c e f => exact absurd rfl (hno c e f)
  | _ => rfl
theorem upd_setObj {o : Obj} (o' : Obj) (hb : w.heap[b]? = some o) : Upd w { w with heap := w.heap.setIfInBounds b o' } b o' := by
  have hlt := lt_of_at hb
  refine ⟨⟨rfl, rfl, rfl, by simp, fun c _ hc => ?_, Dr.refl rfl⟩, ?_, by simp⟩
  · simp only [Array.getElem?_setIfInBounds]
    rw [if_neg (fun e => hc e.symm)]
  · simp [Array.getElem?_setIfInBounds, hlt]
theorem upd_step {o o' : Obj} (h : Upd w w' b o') (hc : C b = j) : Stp [j] w C w' C := ⟨h.ext.mono (fun c _ hcb => by rw [show c = b from hcb, hc]; simp), fun _ _ => rfl⟩
theorem key_at (h : MapIs kv vv m es clock) {k : κ} {i : Nat} (hk : (keys m).findIdx? (fun x => decide (x = k)) = some i) : (es[i]?).map (·.key) = some (kv k) := by
  obtain ⟨u, h2⟩ := findIdx_at hk
  have : (es.toList.map (·.key))[i]? = ((keys m).map kv)[i]? := by rw [h.key]
  simp only [List.getElem?_map, keys, h2, Option.map_some] at this
  rw [← this]
  simp
theorem a_makeMap (hF : Lim w C) (j : Nat) (kv : κ → Value) (vv : β → Value) : Acts P N env (.makeMap t none) w (fun v w' => ∃ C' b, v = .map (some b) ∧ Stp [] w C w' C' ∧ OwnM w' C' j b kv vv [] ∧ Lim w' C') := acts' fun ρ hρ o ho => by
  have hn := new_alloc w (.map #[] 0)
  obtain ⟨C', h1, h2, h3⟩ := hn.own hF j
  refine ⟨.map (some w.heap.size), w.alloc (.map #[] 0), .inl ?_, C', _, rfl, h1, ⟨h2.col, #[], 0, h2.at_, ⟨rfl, rfl, by simp [keys], fun e he => by simp at he, by simp⟩⟩, h3⟩
  unfold execOp; rw [ho]
  simp [go_sem, Instr.makeMap]
variable {z0 : β}
def ZeroIs (P : Program) (et : TypeId) (v : Value) : Prop := ∀ w, (zeroValue et).run P w = .ok v w
theorem val_lookup (ht : P.underlying t = some (.map kt et)) (hk : KeyOK P kt kv) (hz : ZeroIs P et (vv z0)) (hb : w.heap[b]? = some (.map es clock)) (hm : MapIs kv vv m es clock) {k : κ} {ok : Bool}
    (hx : ev env x = some (.map (some b))) (hy : ev env y = some (kv k)) :
    Val P N env (.lookup t x y ok) w (if ok then .tuple #[vv ((mget m k).getD z0), .bool (mget m k).isSome] else vv ((mget m k).getD z0)) := mk' fun ρ hρ o ho => by
  have hf := hk.find k es.toList (keys m) w hm.key
  rw [find_get hm] at hf
  have hg := findIdx_mget m k
  have hget : (getObj b).run P w = .ok (.map es clock) w := by simp [getObj, Sem.run, hb]
  unfold execOp; rw [ho]
  simp only [hρ _ _ hx, hρ _ _ hy]
  unfold Instr.lookup
  simp only [Sem.run_bind, run_underlying ht, Result.andThen_ok, hget, Sem.run_pure, hk.check, hf]
  cases hi : (keys m).findIdx? (fun x => decide (x = k)) with
  | none =>
    rw [hi] at hg
    simp only [Option.bind_none] at hg ⊢
    simp only [Sem.run_bind, hz w, Result.andThen_ok, Sem.run_pure, ← hg]
    cases ok <;> rfl
  | some i =>
    rw [hi] at hg
    simp only [Option.bind_some] at hg ⊢
    cases hp : m[i]? with
    | none =>
      have := (List.findIdx?_eq_some_iff_getElem.1 hi).1
      simp only [keys, List.length_map] at this
      rw [List.getElem?_eq_none_iff] at hp; omega
    | some p =>
      rw [hp] at hg
      simp only [Option.map_some] at hg ⊢
      simp only [Sem.run_pure, Result.andThen_ok, ← hg]
      cases ok <;> rfl
theorem OwnM.lookup (h : OwnM w C j b kv vv m) (ht : P.underlying t = some (.map kt et)) (hk : KeyOK P kt kv) (hz : ZeroIs P et (vv z0)) {k : κ}
    (hx : ev env x = some (.map (some b))) (hy : ev env y = some (kv k)) : Val P N env (.lookup t x y false) w (vv ((mget m k).getD z0)) := by
  obtain ⟨_, es, clock, hb, hm⟩ := h
  exact val_lookup (ok := false) ht hk hz hb hm hx hy
theorem a_mapUpdate (h : OwnM w C j b kv vv m) (ht : P.underlying t = some (.map kt et)) (hk : KeyOK P kt kv) {k : κ} {u : β}
    (hx : ev env x = some (.map (some b))) (hy : ev env y = some (kv k)) (hz : ev env z = some (vv u)) :
    Acts P N env (.mapUpdate t x y z) w (fun v w' => v = undef ∧ Stp [j] w C w' C ∧ OwnM w' C j b kv vv (mput m k u)) := acts' fun ρ hρ o ho => by
  obtain ⟨hc, es, clock, hb, hm⟩ := h
  have hf := hk.find k es.toList (keys m) w hm.key
  have hget : (getObj b).run P w = .ok (.map es clock) w := by simp [getObj, Sem.run, hb]
  cases hi : (keys m).findIdx? (fun x => decide (x = k)) with
  | none =>
    rw [hi] at hf
    have hu := upd_setObj (.map (es.push { key := kv k, val := vv u, born := clock }) (clock + 1)) hb
    refine ⟨undef, _, .inr ⟨?_, rfl⟩, rfl, upd_step (o := .map #[] 0) hu hc, hc, _, _, hu.at_, hm.push hi u⟩
    unfold execOp; rw [ho]
    simp only [hρ _ _ hx, hρ _ _ hy, hρ _ _ hz]
    unfold Instr.mapUpdate
    simp only [Sem.run_bind, run_underlying ht, Result.andThen_ok, hget, hk.check, hf, Option.bind_none]
    rw [setObj_run hb (fun _ _ _ h => by cases h)]
    rfl
  | some i =>
    rw [hi] at hf
    have hu := upd_setObj (.map (es.modify i fun e => { e with key := kv k, val := vv u }) clock) hb
    have hke := key_at hm hi
    have hlt : i < es.size := by
      have := (List.findIdx?_eq_some_iff_getElem.1 hi).1
      have h2 := congrArg List.length hm.key
      simp only [List.length_map, Array.length_toList] at h2
      omega
    have hke' : ((es[i]?).map (·.key)).getD (kv k) = kv k := by rw [hke]; rfl
    refine ⟨undef, _, .inr ⟨?_, rfl⟩, rfl, upd_step (o := .map #[] 0) hu hc, hc, _, _, hu.at_, hm.modify hi u⟩
    unfold execOp; rw [ho]
    simp only [hρ _ _ hx, hρ _ _ hy, hρ _ _ hz]
    unfold Instr.mapUpdate
    have hel : es.toList[i]? = some es[i] := by simp [hlt]
    simp only [Sem.run_bind, run_underlying ht, Result.andThen_ok, hget, hk.check, hf, Option.bind_some, hel, Option.map_some]
    simp only [Sem.run_bind, Instr.keyThatStays, hke', hk.bits, if_true, Sem.run_pure, Result.andThen_ok]
    rw [setObj_run hb (fun _ _ _ h => by cases h)]
    rfl
end
end Go.K

/- Maps: an entry that is written in two steps, and ranging. -/
set_option linter.unusedVariables false
set_option linter.unusedSimpArgs false
set_option linter.unusedSectionVars false
namespace Go.K
open Rep
section
variable {κ β : Type} [DecidableEq κ] {kv : κ → Value} {vv : β → Value} {m : List (κ × β)} {es : Array MapEntry} {clock : Nat}
variable {w w' : World} {I : List Nat} {C C' : Nat → Nat} {M : Nat → Prop} {j b n : Nat} {v : Value} {P : Program} {N : Nat} {env : Env} {x y z q : Operand} {t kt et : TypeId} {z0 : β}
/-! ### Ranging over a map -/
variable {it jb : Nat} {left : List (κ × β)} {cur : Option (κ × β)}
end
end Go.K

/- Texts: how they read, and the operations on them. -/
set_option linter.unusedVariables false
set_option linter.unusedSimpArgs false
set_option linter.unusedSectionVars false
namespace Go.K
open Rep
structure Tx where
  l : List UInt8
deriving DecidableEq, Inhabited
abbrev bs (l : List UInt8) : Value := .string ⟨l.toArray⟩
abbrev sv (x : Tx) : Value := bs x.l
instance : Rep Tx where
  sz := 1
  agg := false
  flat _ := rfl
  rep _ _ x vs := vs = [sv x] ∧ x.l.length ≤ 9223372036854775807
  len h := by obtain ⟨rfl, _⟩ := h; rfl
  one h := by obtain ⟨rfl, _⟩ := h; intro v hv; simp at hv; subst hv; rfl
  keep h _ := h
  sub h _ := h
section
variable {P : Program} {N : Nat} {env : Env} {w : World} {x y z q : Operand} {t u : TypeId} {a b : List UInt8} {M : Nat → Prop} {v : Value} {m n : Int}
theorem rv_tx {x : Tx} : RV w M x v ↔ v = sv x ∧ x.l.length ≤ 9223372036854775807 := ⟨fun ⟨vs, h, e⟩ => by obtain ⟨rfl, h⟩ := h; exact ⟨e, h⟩, fun h => ⟨_, ⟨rfl, h.2⟩, h.1⟩⟩
theorem size_bs (l : List UInt8) : (⟨l.toArray⟩ : ByteArray).size = l.length := by simp [ByteArray.size]
theorem cat_bs (a b : List UInt8) : (⟨a.toArray⟩ : ByteArray) ++ ⟨b.toArray⟩ = ⟨(a ++ b).toArray⟩ := by
  apply ByteArray.ext
  simp
theorem val_lenT (hx : ev env x = some (bs a)) (ht : P.underlying t = some .string) :
    Val P N env (.call { callee := .builtin .len, args := #[x], argTypes := #[t] }) w (.int .i64 a.length) := by
  have := val_len_string (P := P) (N := N) (w := w) hx ht; rwa [size_bs] at this
theorem val_cat (hx : ev env x = some (bs a)) (hy : ev env y = some (bs b)) (h : a.length + b.length ≤ 9223372036854775807) :
    Val P N env (.binOp .add t x y u) w (bs (a ++ b)) := mk' fun ρ hρ o ho => by
  unfold execOp; rw [ho]
  have h2 : ¬ (IntKind.i64.max < ((a.length + b.length : Nat) : Int)) := by rw [show IntKind.i64.max = 9223372036854775807 from by decide]; omega
  simp [hρ _ _ hx, hρ _ _ hy, go_sem, eqGuard, binOp, Op.stringOp, size_bs, cat_bs]
  simpa using h2
theorem val_idxT (hx : ev env x = some (bs a)) (hy : ev env y = some (.int .i64 m)) (ht : P.underlying t = some .string) (h0 : 0 ≤ m) (h1 : m.toNat < a.length) :
    Val P N env (.index t x y) w (.int .u8 ((a[m.toNat]).toNat : Nat)) := mk' fun ρ hρ o ho => by
  unfold execOp; rw [ho]
  have hg : (⟨a.toArray⟩ : ByteArray)[m.toNat]? = some a[m.toNat] := by
    show (if h : m.toNat < (⟨a.toArray⟩ : ByteArray).size then some ((⟨a.toArray⟩ : ByteArray)[m.toNat]) else none) = _
    rw [dif_pos (by rw [size_bs]; exact h1)]; rfl
  simp [hρ _ _ hx, hρ _ _ hy, go_sem, Instr.index, run_underlying ht, h0, hg]
theorem val_idxN {m : Nat} (hx : ev env x = some (bs a)) (hy : ev env y = some (.int .i64 m)) (ht : P.underlying t = some .string) (h1 : m < a.length) :
    Val P N env (.index t x y) w (.int .u8 ((a[m]).toNat : Nat)) := val_idxT hx hy ht (by omega) (by simpa using h1)
theorem ext_bs (a : List UInt8) (i j : Nat) : (⟨a.toArray⟩ : ByteArray).extract i j = ⟨((a.take j).drop i).toArray⟩ := by
  apply ByteArray.ext
  simp [List.extract_eq_drop_take', List.extract_eq_take_drop]
theorem val_subTo (hx : ev env x = some (bs a)) (hz : ev env z = some (.int .i64 n)) (ht : P.underlying t = some .string) (h1 : 0 ≤ n) (h2 : n ≤ a.length) :
    Val P N env (.slice t x none (some z) none) w (bs (a.take n.toNat)) := mk' fun ρ hρ o ho => by
  unfold execOp; rw [ho]
  have e : ((n.toNat : Nat) : Int) = n := by omega
  simp [hρ _ _ hx, hρ _ _ hz, go_sem, Instr.sliceAt, Instr.slice, Instr.sliceBounds, Instr.sliceBound, run_underlying ht, size_bs, h1, h2, ext_bs]
theorem val_subToN {i : Nat} (hx : ev env x = some (bs a)) (hz : ev env z = some (.int .i64 i)) (ht : P.underlying t = some .string) (h2 : i ≤ a.length) :
    Val P N env (.slice t x none (some z) none) w (bs (a.take i)) := by have := val_subTo (P := P) (N := N) (w := w) hx hz ht (by omega) (by omega); simpa using this
end
end Go.K

/- Own lists that are made with their length, and read and written in place. -/
set_option linter.unusedVariables false
set_option linter.unusedSimpArgs false
namespace Go.K
open Rep
section
variable {α : Type} [Rep α] {w w' : World} {C C' : Nat → Nat} {P : Program} {N : Nat} {env : Env} {x y z q : Operand} {t ty e : TypeId} {v u : Value} {xs : List α} {j b g n : Nat}
theorem OwnL.at_own (h : OwnL w C j e v xs) (hne : 0 < xs.length) : ∃ g cap cs, v = .slice (some ⟨g, 0, none⟩) xs.length cap ∧ C g = j ∧ Mc C g ∧ w.heap[g]? = some (.cells cs e (0, 0)) ∧ xs.length ≤ cap ∧ cs.size = cap * sz α ∧
    ∀ i (hi : i < xs.length), rep w.heap (Mc C) xs[i] (cellsAt cs (i * sz α) (sz α)) := by
  rcases h.own with ⟨_, rfl⟩ | ⟨g, cap, cs, hv, hg, hc, h1, h2, h3⟩
  · simp at hne
  · exact ⟨g, cap, cs, hv, h.col g (by subst hv; rfl), hg, hc, h1, h2, h3⟩
theorem OwnL.index (h : OwnL w C j e v xs) (hy : ev env y = some v) {e' : Nat} {kd : IntKind} {i : Int} (hf : elemB P t = some (e', sz α)) (hz : ev env z = some (.int kd i)) (h0 : 0 ≤ i) (h1 : i < xs.length) :
    ∃ g, Ob v g ∧ ∀ w', Val P N env (.indexAddr t y z) w' (.pointer (some ⟨g, i.toNat * sz α, none⟩)) := by
  obtain ⟨g, cap, cs, rfl, _, _, hc, _⟩ := h.at_own (by omega)
  refine ⟨g, rfl, fun w' => ?_⟩
  have := val_indexAddr (P := P) (N := N) (w := w') hf hy hz h0 h1
  rwa [Nat.zero_add] at this
theorem OwnL.load (h : OwnL w C j e v xs) (hg : Ob v g) {i : Nat} (hi : i < xs.length) (ha : aggB P t = some false) (hx : Rep.agg α = false) (hy : ev env y = some (.pointer (some ⟨g, i * sz α, none⟩))) :
    ∃ u, RV w (Mc C) xs[i] u ∧ ∀ w', w'.heap[g]? = w.heap[g]? → Val P N env (.load t y) w' u := by
  obtain ⟨g', cap, cs, rfl, _, _, hc, h1, h2, h3⟩ := h.at_own (by omega)
  simp only [Ob, Value.ownBlock, Option.some.injEq] at hg
  subst hg
  have hr := h3 i hi
  have hl := Rep.len hr
  rw [Rep.flat hx] at hr hl
  obtain ⟨u, hu⟩ := List.length_eq_one_iff.1 hl
  rw [hu] at hr
  refine ⟨u, rep1_rv hr hx, fun w' hw => ?_⟩
  have hcu : cs[i * 1]? = some u := by
    have := congrArg (fun l => l[0]?) hu
    simpa [cellsAt] using this
  refine val_loadOwn (cs := cs.toList) (by rw [hw]; simpa using hc) ha ?_ hy
  rw [Rep.flat hx]; simpa using hcu
theorem OwnL.loadAgg (h : OwnL w C j e v xs) (hg : Ob v g) {i : Nat} (hi : i < xs.length) (ha : aggB P t = some true) (hs : szB P t = some (sz α)) (hx : Rep.agg α = true) (hy : ev env y = some (.pointer (some ⟨g, i * sz α, none⟩))) :
    ∃ u, RV w (Mc C) xs[i] u ∧ ∀ w', w'.heap[g]? = w.heap[g]? → Val P N env (.load t y) w' u := by
  obtain ⟨g', cap, cs, rfl, _, _, hc, h1, h2, h3⟩ := h.at_own (by omega)
  simp only [Ob, Value.ownBlock, Option.some.injEq] at hg
  subst hg
  have hr := h3 i hi
  refine ⟨.agg (cellsAt cs (i * sz α) (sz α)).toArray, ⟨_, hr, by simp [hx]⟩, fun w' hw => ?_⟩
  exact val_loadOwnAgg (cs := cs.toList) (by rw [hw]; simpa using hc) ha hs rfl (Rep.len hr) hy
end
section
variable {α : Type} [Rep α] {w : World} {C : Nat → Nat} {P : Program} {f : FuncId} {N : Nat} {k : List Item} {R : Value → World → Prop} {Q : Exit → Act → World → Prop} {env : Env} {ops : Array Oper} {S : World → Prop} {i t : Nat} {L : List (Nat × Bool)} {v : Value} {y z : Operand} {gd : Option (Nat × Bool)} {ty e e' : TypeId} {xs : List α} {j g : Nat} {kd : IntKind} {n : Int}
theorem oI (hop : opAt ops i = some (some t, .indexAddr ty y z, gd)) (hw : wantedE ops env gd = some true) (ht : Nat.blt t N = true) (hl : OwnL w C j e v xs) (hy : ev env y = some v)
    (hf : elemB P ty = some (e', sz α)) (hz : ev env z = some (.int kd n)) (h0 : 0 ≤ n) (h1 : n < xs.length)
    (h : ∀ g, Ob v g → SchQ P N Q ops S L ((t, .pointer (some ⟨g, n.toNat * sz α, none⟩)) :: env) w) : SchQ P N Q ops S ((i, true) :: L) env w := by
  obtain ⟨g, h2, h3⟩ := hl.index (P := P) (N := N) hy hf hz h0 h1
  exact yS hop hw ht (fun w' _ => h3 w') (h g h2)
theorem oNA {i' : Nat} (hop : opAt ops i = some (some t, .load ty y, gd)) (hw : wantedE ops env gd = some true) (ht : Nat.blt t N = true) (hS : S w) (hl : OwnL w C j e v xs) (hg : Ob v g) (hi : i' < xs.length) (ha : aggB P ty = some true) (hs : szB P ty = some (sz α)) (hx : Rep.agg α = true)
    (hy : ev env y = some (.pointer (some ⟨g, i' * sz α, none⟩))) (h : ∀ v, RV w (Mc C) xs[i'] v → SchQ P N Q ops S L ((t, v) :: env) w) : SchQ P N Q ops S ((i, false) :: L) env w := by
  obtain ⟨v, h2, h3⟩ := hl.loadAgg (P := P) (N := N) hg hi ha hs hx hy
  exact nS hop hw ht hS (h3 w rfl) (h v h2)
end
end Go.K

/- Parts of lists; clearing; results that lie in memory. -/
set_option linter.unusedVariables false
set_option linter.unusedSimpArgs false
namespace Go.K
open Rep
section
variable {α : Type} [Rep α] {w w' : World} {C C' : Nat → Nat} {P : Program} {N : Nat} {env : Env} {x y z q : Operand} {t ty e : TypeId} {v v2 u : Value} {xs : List α} {j b g n k m e' : Nat}
theorem run_sliceBound_ok {kd : IntKind} {i : Int} {y : Nat} {code : BoundsCode} {w : World} (h0 : 0 ≤ i) (h1 : i ≤ y) : (Instr.sliceBound (.int kd i) y code).run P w = .ok i.toNat w := by
  simp [Instr.sliceBound, asIntOf, h0, h1]
theorem RV.from_ {M : Nat → Prop} (h : RV w M xs v) (hy : ev env y = some v) {kd : IntKind} {i : Int} (hf : elemB P t = some (e', sz α)) (hz : ev env z = some (.int kd i)) (h0 : 0 ≤ i) (h1 : i ≤ xs.length) :
    ∃ v2, RV w M (xs.drop i.toNat) v2 ∧ ∀ w', Val P N env (.slice t y (some z) none none) w' v2 := by
  obtain ⟨a, c, rfl, hc, hm, hs⟩ := rv_list.1 h
  have hval : ∀ w', Val P N env (.slice t y (some z) none none) w' (.slice (if c = i.toNat then a else a.map (·.add (i.toNat * sz α))) (xs.length - i.toNat) (c - i.toNat)) := fun w' => mk' fun ρ hρ oo ho => by
    unfold elemB at hf
    split at hf
    · rename_i e1 hu
      split at hf
      · rename_i n' hn
        simp only [Option.some.injEq, Prod.mk.injEq] at hf
        obtain ⟨rfl, rfl⟩ := hf
        have hb := run_sliceBound_ok (P := P) (kd := kd) (y := xs.length) (code := .sliceB) (w := w') h0 (by omega)
        unfold execOp; rw [ho]
        simp [hρ _ _ hy, hρ _ _ hz, Instr.sliceAt, Instr.slice, Instr.sliceBounds, run_underlying hu, run_sizeOfB hn, hb]
      · cases hf
    · cases hf
  refine ⟨_, ?_, hval⟩
  rw [← List.length_drop]
  refine rv_list.2 ⟨_, _, rfl, by rw [List.length_drop]; omega, by rw [List.length_drop]; omega, ?_⟩
  by_cases hd : xs.drop i.toNat = []
  · exact .inl hd
  · have hlt : i.toNat < xs.length := by
      rcases Nat.lt_or_ge i.toNat xs.length with h | h
      · exact h
      · exact absurd (List.drop_eq_nil_of_le h) hd
    rcases hs with rfl | ⟨b, o, rfl, hs⟩
    · simp at hlt
    · refine .inr ⟨b, o + i.toNat * sz α, ?_, ?_⟩
      · rw [if_neg (by omega)]; simp [addr_add]
      · obtain ⟨hb, cs, ty, fz, hc', hl, hr⟩ := hs
        refine ⟨hb, cs, ty, fz, hc', ?_, fun k hk => ?_⟩
        · rw [List.length_drop]
          have : i.toNat * sz α + (xs.length - i.toNat) * sz α = xs.length * sz α := by rw [← Nat.add_mul]; congr 1; omega
          omega
        · rw [List.length_drop] at hk
          have := hr (i.toNat + k) (by omega)
          rw [List.getElem_drop, show o + i.toNat * sz α + k * sz α = o + (i.toNat + k) * sz α from by rw [Nat.add_mul]; omega]
          exact this
theorem RV.to_ {M : Nat → Prop} (h : RV w M xs v) (hy : ev env y = some v) {kd : IntKind} {i : Int} (hf : elemB P t = some (e', sz α)) (hz : ev env z = some (.int kd i)) (h0 : 0 ≤ i) (h1 : i ≤ xs.length) :
    ∃ v2, RV w M (xs.take i.toNat) v2 ∧ ∀ w', Val P N env (.slice t y none (some z) none) w' v2 := by
  obtain ⟨a, c, rfl, hc, hm, hs⟩ := rv_list.1 h
  have hl : (xs.take i.toNat).length = i.toNat := by rw [List.length_take]; omega
  have hval : ∀ w', Val P N env (.slice t y none (some z) none) w' (.slice a (xs.take i.toNat).length c) := fun w' => mk' fun ρ hρ oo ho => by
    unfold elemB at hf
    split at hf
    · rename_i e1 hu
      split at hf
      · rename_i n' hn
        simp only [Option.some.injEq, Prod.mk.injEq] at hf
        obtain ⟨rfl, rfl⟩ := hf
        have hb := run_sliceBound_ok (P := P) (kd := kd) (y := c) (code := .sliceAcap) (w := w') h0 (by omega)
        have ha' : (if c = 0 then a else a.map (·.add 0)) = a := by
          cases a with
          | none => simp
          | some a => simp [Addr.add]
        unfold execOp; rw [ho, hl]
        simp [hρ _ _ hy, hρ _ _ hz, Instr.sliceAt, Instr.slice, Instr.sliceBounds, run_underlying hu, run_sizeOfB hn, hb, ha']
      · cases hf
    · cases hf
  refine ⟨_, ?_, hval⟩
  refine rv_list.2 ⟨_, _, rfl, by omega, by omega, ?_⟩
  rcases hs with rfl | ⟨b, o, rfl, hb, cs, ty, fz, hc', hl', hr⟩
  · left; simp
  · refine .inr ⟨b, o, rfl, hb, cs, ty, fz, hc', ?_, fun k hk => ?_⟩
    · rw [hl]
      have := Nat.mul_le_mul_right (sz α) (show i.toNat ≤ xs.length by omega)
      omega
    · rw [List.getElem_take]; exact hr k (by omega)
end
section
variable {α : Type} [Rep α] {w : World} {C : Nat → Nat} {P : Program} {f : FuncId} {N : Nat} {k : List Item} {R : Value → World → Prop} {Q : Exit → Act → World → Prop} {env : Env} {ops : Array Oper} {S : World → Prop} {i t : Nat} {L : List (Nat × Bool)} {v v2 : Value} {y z : Operand} {gd : Option (Nat × Bool)} {ty e e' : TypeId} {xs : List α} {j g : Nat} {kd : IntKind} {n : Int}
theorem sFR {M : Nat → Prop} (hop : opAt ops i = some (some t, .slice ty y (some z) none none, gd)) (hw : wantedE ops env gd = some true) (ht : Nat.blt t N = true) (hl : RV w M xs v) (hy : ev env y = some v)
    (hf : elemB P ty = some (e', sz α)) (hz : ev env z = some (.int kd n)) (h0 : 0 ≤ n) (h1 : n ≤ xs.length)
    (h : ∀ v2, RV w M (xs.drop n.toNat) v2 → SchQ P N Q ops S L ((t, v2) :: env) w) : SchQ P N Q ops S ((i, true) :: L) env w := by
  obtain ⟨v2, h2, h3⟩ := hl.from_ (P := P) (N := N) hy hf hz h0 h1
  exact yS hop hw ht (fun w' _ => h3 w') (h v2 h2)
theorem sTR {M : Nat → Prop} (hop : opAt ops i = some (some t, .slice ty y none (some z) none, gd)) (hw : wantedE ops env gd = some true) (ht : Nat.blt t N = true) (hl : RV w M xs v) (hy : ev env y = some v)
    (hf : elemB P ty = some (e', sz α)) (hz : ev env z = some (.int kd n)) (h0 : 0 ≤ n) (h1 : n ≤ xs.length)
    (h : ∀ v2, RV w M (xs.take n.toNat) v2 → SchQ P N Q ops S L ((t, v2) :: env) w) : SchQ P N Q ops S ((i, true) :: L) env w := by
  obtain ⟨v2, h2, h3⟩ := hl.to_ (P := P) (N := N) hy hf hz h0 h1
  exact yS hop hw ht (fun w' _ => h3 w') (h v2 h2)
end
/-! ### Results that lie in memory -/
section
variable {P : Program} {f : FuncId} {N : Nat} {k : List Item} {env : Env} {w : World} {R : Value → World → Prop} {Q : Exit → Act → World → Prop}
theorem run_cellAgg {b ty0 : Nat} {cs : List Value} {fz : Nat × Nat} {ty n : Nat} (hc : w.heap[b]? = some (.cells cs.toArray ty0 fz)) (ha : aggB P ty = some true) (hs : szB P ty = some n) (hl : cs.length = n) :
    (loadVar ty ⟨b, 0, none⟩).run P w = .ok (.agg cs.toArray) w := by
  have hcells : (loadCells ⟨b, 0, none⟩ n).run P w = .ok cs.toArray w := by
    have := run_loadCells_list (P := P) w ⟨b, 0, none⟩ cs (fun j u hu => by
      rw [addr_add, cell_of_row w b (0 + j) cs.toArray ty0 fz hc]
      rw [← hu]; simp)
    rwa [hl] at this
  simp only [loadCells] at hcells
  simp [loadVar, run_isAggB ha, run_sizeOfB hs, loadCells, hcells]
theorem run_retC1 {c : Code} {fn : Func} {a ty b : Nat} {ty0 : Nat} {cs : List Value} {fz : Nat × Nat} {n : Nat} (hc : c = .ret) (hf : P.funcs[f]? = some fn) (hres : fn.results = #[.cell a ty]) (hv : look env a = some (.pointer (some ⟨b, 0, none⟩)))
    (hb : w.heap[b]? = some (.cells cs.toArray ty0 fz)) (ha : aggB P ty = some true) (hs : szB P ty = some n) (hl : cs.length = n)
    (hR : R (.agg cs.toArray) w) : Run P f N (.code c :: k) env w R := fun a' ha' => by
  subst hc
  refine runs_ret hf ha'.defers ?_ hR
  have h1 := ha'.slot a _ hv
  have h2 := run_cellAgg hb ha hs hl
  simp only [results, hres]
  simp [h1, Array.getD_eq_getD_getElem?, asAddr, h2]
end
/-! ### Small -/
section
variable {P : Program} {N : Nat} {env : Env} {w : World} {x y : Operand} {t u : TypeId} {m n r : Int}
theorem val_min (hx : ev env x = some (.int .i64 m)) (hy : ev env y = some (.int .i64 n)) (ht : P.underlying t = some (.int .i64)) :
    Val P N env (.call { callee := .builtin .min, args := #[x, y], argTypes := #[t, t] }) w (.int .i64 (min m n)) := mk' fun ρ hρ o ho => by
  unfold execOp; rw [ho]
  simp [hρ _ _ hx, hρ _ _ hy, go_sem, resolve, invoke, builtin, Builtin.min_, Builtin.min2]
  by_cases h : n < m
  · rw [if_pos h]; exact (Int.min_eq_right (by omega)).symm
  · rw [if_neg h]; exact (Int.min_eq_left (by omega)).symm
end
/-! ### Closures; a function that ends without 'return' -/
section
variable {P : Program} {f : FuncId} {N : Nat} {k : List Item} {env : Env} {w : World} {R : Value → World → Prop} {Q : Exit → Act → World → Prop}
theorem run_end0 {fn : Func} (hf : P.funcs[f]? = some fn) (hres : fn.results = #[]) (hR : R (.tuple #[]) w) : Run P f N [] env w R := fun a ha cs =>
  ⟨.tuple #[], w, _, hR, .one step_end, rfl, rfl, ha.defers, rfl, fn, hf, by simp [results, hres, Sem.run, pure]⟩
theorem val_makeFunc {fn : Fn} {xs ys : Array Operand} {us vs : List Value} (hx : evs env xs.toList = some us) (hy : evs env ys.toList = some vs) :
    Val P N env (.makeFunc fn xs ys) w (.func fn us.toArray vs.toArray) := fun a ha o ho => by
  have h1 : xs.map a.eval = us.toArray := by rw [← ha.evs hx, ← List.map_toArray]
  have h2 : ys.map a.eval = vs.toArray := by rw [← ha.evs hy, ← List.map_toArray]
  unfold execOp; rw [ho]
  simp only [h1, h2]
  rfl
end
end Go.K

/- Handing out what the call may still write. -/
set_option linter.unusedVariables false
set_option linter.unusedSimpArgs false
namespace Go.K
open Rep
/-! ### Handing out what the call may still write -/
section
variable {α : Type} [Rep α] {w w' : World} {C C1 D D' : Nat → Nat} {I : List Nat} {e : TypeId} {v : Value} {ys : List α} {x : α} {j j1 i b : Nat} {t : TypeId}
theorem OwnL.give (h : OwnL w' C1 j1 e v ys) (hs : Stp I w D w' C1) (hF : Lim w C) (hD : Mc D = Mc C) (hj : ∀ b, b < w.heap.size → D b ≠ j1) (h1 : j1 ≠ 0) (j : Nat) (hjj : j ≠ 0) :
    ∃ C', (∀ b, b < w.heap.size → C' b = C b) ∧ Lim w' C' ∧ (∀ b, Mc C' b → Mc C1 b) ∧ OwnL w' C' j e v ys := by
  have old : ∀ b, Mc C b → Mc C1 b := fun b hb => by
    have hlt := hF b hb
    unfold Mc
    rw [hs.col b hlt]
    have : Mc D b := by rw [hD]; exact hb
    exact this
  have fresh : ∀ b, Ob v b → ¬ b < w.heap.size := fun b hb hlt => hj b hlt (by rw [← hs.col b hlt]; exact h.col b hb)
  refine ⟨setB C v j, fun b hb => ?_, fun b hb => ?_, fun b hb => ?_, ⟨h.own.sub (fun b _ hb => ?_) (fun b hb => ?_), fun b hb => ?_⟩⟩
  · unfold setB; rw [if_neg (show ¬ v.ownBlock = some b from fun e => fresh b e hb)]
  · by_cases ho : Ob v b
    · exact (h.own.ob b ho).2
    · unfold setB at hb; rw [if_neg (show ¬ v.ownBlock = some b from ho)] at hb
      exact Nat.lt_of_lt_of_le (hF b hb) hs.size
  · by_cases ho : Ob v b
    · unfold Mc; rw [h.col b ho]; exact h1
    · unfold Mc setB at hb; rw [if_neg (show ¬ v.ownBlock = some b from ho)] at hb; exact old b hb
  · by_cases ho : Ob v b
    · unfold Mc; rw [h.col b ho]; exact h1
    · unfold Mc setB at hb; rw [if_neg (show ¬ v.ownBlock = some b from ho)] at hb; exact old b hb
  · unfold Mc setB; rw [if_pos (show v.ownBlock = some b from hb)]; exact hjj
  · unfold setB; rw [if_pos (show v.ownBlock = some b from hb)]
theorem Stp.give {C' : Nat → Nat} (h : Stp I w C w' D') (hc : ∀ b, b < w.heap.size → C' b = C b) : Stp I w C w' C' := ⟨h.ext, hc⟩
end
end Go.K

/- The keyed hash in plain words: rounds, words, sums of bytes, texts with their lengths. -/
set_option linter.unusedVariables false
set_option linter.unusedSimpArgs false
namespace Go.K
def shlW (x n : Int) : Int := IntKind.u64.wrap (x * 2 ^ min n.toNat IntKind.u64.bits)
def shrW (x n : Int) : Int := x.fdiv (2 ^ min n.toNat IntKind.u64.bits)
def xorW (x y : Int) : Int := bitsOf .xor .u64 x y
def orW (x y : Int) : Int := bitsOf .or .u64 x y
def addW (x y : Int) : Int := IntKind.u64.wrap (x + y)
def rotW (x n : Int) : Int := orW (shlW x n) (shrW x (64 - n))
structure Sip where
  a : Int
  b : Int
  c : Int
  d : Int
def rndW (s : Sip) : Sip :=
  let a := addW s.a s.b
  let b := xorW (rotW s.b 13) a
  let a := rotW a 32
  let c := addW s.c s.d
  let d := xorW (rotW s.d 16) c
  let a := addW a d
  let d := xorW (rotW d 21) a
  let c := addW c b
  let b := xorW (rotW b 17) c
  let c := rotW c 32
  ⟨a, b, c, d⟩
def rndsW (s : Sip) : Nat → Sip
  | 0 => s
  | k + 1 => rndW (rndsW s k)
def takeW (s : Sip) (m : Int) : Sip := let t := rndsW ⟨s.a, s.b, s.c, xorW s.d m⟩ 2; ⟨xorW t.a m, t.b, t.c, t.d⟩
def numW (b : List U8) : Nat → Int
  | 0 => 0
  | k + 1 => orW (numW b k) (shlW (IntKind.u64.wrap (b.getD k ⟨0⟩).n) (8 * (k : Int)))
theorem numW_next {b : List U8} {k : Nat} (h : k < b.length) : numW b (k + 1) = orW (numW b k) (shlW (IntKind.u64.wrap b[k].n) (8 * (k : Int))) := by
  rw [numW, List.getD_eq_getElem?_getD, List.getElem?_eq_getElem h, Option.getD_some]
def grpW (s : Sip) (b : List U8) : Nat → Sip
  | 0 => s
  | q + 1 => takeW (grpW s b q) (numW (b.drop (8 * q)) 8)
def iniW (ka kb : Int) : Sip := ⟨xorW ka 8317987319222330741, xorW kb 7237128888997146477, xorW ka 7816392313619706465, xorW kb 8387220255154660723⟩
def lastW (b : List U8) : Int := orW (numW (b.drop (8 * (b.length / 8))) (b.length % 8)) (shlW (IntKind.u64.wrap b.length) 56)
def endW (s : Sip) : Int := let t := rndsW ⟨s.a, s.b, xorW s.c 255, s.d⟩ 4; xorW (xorW (xorW t.a t.b) t.c) t.d
def sumW (ka kb : Int) (b : List U8) : Int := endW (takeW (grpW (iniW ka kb) b (b.length / 8)) (lastW b))
def lenB (s : List UInt8) : List U8 := ⟨IntKind.u8.wrap ((s.length : Int).fdiv (2 ^ min (8 : Int).toNat IntKind.i64.bits))⟩ :: ⟨IntKind.u8.wrap s.length⟩ :: s.map fun x => ⟨(x.toNat : Int)⟩
def partsW (ka kb : Int) (l : List (List UInt8)) : Int := sumW ka kb (l.flatMap lenB)
def drvW (ka kb : Int) (s : List UInt8) : Int × Int := (partsW ka kb [s, [97]], partsW ka kb [s, [98]])
theorem numW_take {b : List U8} {n : Nat} : ∀ {k : Nat}, k ≤ n → k ≤ b.length → numW (b.take n) k = numW b k
  | 0, _, _ => rfl
  | k + 1, h, h2 => by
    rw [numW_next (b := b) (by omega), numW_next (b := b.take n) (by rw [List.length_take]; omega), numW_take (by omega) (by omega), List.getElem_take]
theorem wrapW (x : Int) : IntKind.u64.wrap x = x % 18446744073709551616 := by
  unfold IntKind.wrap
  simp only [IntKind.bits, IntKind.signed, Bool.false_and, Bool.false_eq_true, if_false]
  rw [show (2 : Int) ^ 64 = 18446744073709551616 from by decide]
theorem shlW_len (n : Nat) : shlW (IntKind.u64.wrap ((n : Int) % 256)) 56 = shlW (IntKind.u64.wrap n) 56 := by
  unfold shlW
  have e : (2 : Int) ^ min (56 : Int).toNat IntKind.u64.bits = 72057594037927936 := by decide
  rw [e, wrapW, wrapW, wrapW, wrapW]
  omega
end Go.K

/- 'append(own, text...)': the bytes of a text behind bytes of one's own. -/
set_option linter.unusedVariables false
set_option linter.unusedSimpArgs false
namespace Go.K
open Rep
section
variable {P : Program} (w : World)
theorem runT_nil (t u ty e : TypeId) (i : TypeInfo) (z : Value) (ht : P.underlying t = some (.slice e)) (hi : P.info? e = some i) (hz : i.zero = some z) (hu : P.underlying u = some .string)
    (x : Value) (n : Nat) (news : List Value) (hlo : ∀ w, (Builtin.lenOf x).run P w = .ok n w) (hfc : ∀ w, (Builtin.firstCells i.size n x).run P w = .ok news.toArray w)
    (h0 : 0 < n) (h63 : (n : Int) ≤ 9223372036854775807) (h48 : n * i.bytes ≤ 281474976710656) :
    (Builtin.append_ #[t, u] ty #[.slice none 0 0, x]).run P w =
      .ok (.slice (some ⟨w.heap.size, 0, none⟩) n (grownCap w n 0 e)) (w.drew.alloc (.cells (news.toArray ++ Builtin.zeroCells z.cells (grownCap w n 0 e - n)) e)) := by
  have hn : n ≠ 0 := by omega
  have h63' : ¬ (9223372036854775807 < (n : Int)) := by omega
  have h48' : ¬ (281474976710656 < Builtin.nextslicecap n 0 * i.bytes) := by rw [nextslicecap_zero h0]; omega
  simp [Builtin.append_, run_underlying ht, run_underlying hu, sizeOf, typeInfo, zeroValue, hi, hz, hlo, hfc, hn, h63', h48', Question.forced, run_firstCells_none, newRow, grownCap]
theorem runT_grow (t u ty e : TypeId) (i : TypeInfo) (z : Value) (ht : P.underlying t = some (.slice e)) (hi : P.info? e = some i) (hz : i.zero = some z) (hu : P.underlying u = some .string)
    (b : Addr) (sLen sCap : Nat) (olds : List Value) (hlo' : olds.length = sLen * i.size) (holds : ∀ j v, olds[j]? = some v → w.cell? (b.add j) = some v)
    (x : Value) (n : Nat) (news : List Value) (hlo : ∀ w, (Builtin.lenOf x).run P w = .ok n w) (hfc : ∀ w, (Builtin.firstCells i.size n x).run P w = .ok news.toArray w)
    (hg : sCap < sLen + n) (h63 : ((sLen + n : Nat) : Int) ≤ 9223372036854775807) (hfit : Builtin.nextslicecap (sLen + n) sCap * i.bytes ≤ 281474976710656) :
    (Builtin.append_ #[t, u] ty #[.slice (some b) sLen sCap, x]).run P w =
      .ok (.slice (some ⟨w.heap.size, 0, none⟩) (sLen + n) (grownCap w (sLen + n) sCap e))
        (w.drew.alloc (.cells (olds.toArray ++ news.toArray ++ Builtin.zeroCells z.cells (grownCap w (sLen + n) sCap e - (sLen + n))) e)) := by
  have hn : ¬ (sLen + n ≤ sCap) := by omega
  have h63' : ¬ (9223372036854775807 < ((sLen : Int) + (n : Int))) := by omega
  have h48' : ¬ (281474976710656 < Builtin.nextslicecap (sLen + n) sCap * i.bytes) := by omega
  have hfo := run_firstCells_some (P := P) w.drew i.size sLen b sLen sCap olds hlo' (by simpa using holds)
  simp [Builtin.append_, run_underlying ht, run_underlying hu, sizeOf, typeInfo, zeroValue, hi, hz, hlo, hfc, hn, h63', h48', Question.forced, hfo, newRow, grownCap]
  congr 2
  apply Array.ext'
  simp [List.append_assoc]
theorem runT_room (t u ty e : TypeId) (i : TypeInfo) (ht : P.underlying t = some (.slice e)) (hi : P.info? e = some i) (hu : P.underlying u = some .string)
    (g sLen sCap : Nat) (cur : Array Value) (hg : w.heap[g]? = some (.cells cur e (0, 0)))
    (x : Value) (n : Nat) (news : List Value) (hlo : ∀ w, (Builtin.lenOf x).run P w = .ok n w) (hfc : ∀ w, (Builtin.firstCells i.size n x).run P w = .ok news.toArray w) (h1 : ∀ v ∈ news, v.oneCell' = true)
    (hroom : sLen + n ≤ sCap) (hfit : sLen * i.size + news.length ≤ cur.size) :
    (Builtin.append_ #[t, u] ty #[.slice (some ⟨g, 0, none⟩) sLen sCap, x]).run P w =
      .ok (.slice (some ⟨g, 0, none⟩) (sLen + n) sCap) (w.setRow g (cur.toList.take (sLen * i.size) ++ news ++ cur.toList.drop (sLen * i.size + news.length)).toArray) := by
  have hst := run_storeCells_at P g (sLen * i.size) e news 0 cur w hg (by simpa using hfit) h1
  simp only [Nat.add_zero] at hst
  simp [Builtin.append_, run_underlying ht, run_underlying hu, sizeOf, typeInfo, hi, hlo, hfc, hroom, Addr.add_lit, hst]
end
section
variable {w w' : World} {A M M' : Nat → Prop} {e : TypeId} {v : Value} {ys : List U8} {P : Program} {N : Nat} {env : Env} {x y : Operand} {t u : TypeId}
def u8s (s : List UInt8) : List U8 := s.map fun x => ⟨(x.toNat : Int)⟩
theorem acts_appendT {s : List UInt8} (hx : ev env x = some v) (hy : ev env y = some (bs s)) (hrow : rowB P t e (sz U8) 1 = true) (ht2 : P.underlying u = some .string)
    (hown : OwnS w M e v ys) (hlen0 : ys.length + s.length ≤ 140737488355328) :
    Acts P N env (.call { callee := .builtin .append, args := #[x, y], argTypes := #[t, u] }) w (fun v' w' =>
      OwnS w' (fun b => Ob v' b ∨ M b) e v' (ys ++ u8s s) ∧ Ext (Ob v) w w' ∧ (∀ b, Ob v' b → Ob v b ∨ w.heap.size ≤ b)) := acts' fun ρ hρ oo hoo => by
  obtain ⟨i, z, hu, hi, rfl0, hby, hz, hzs⟩ := rowB_spec hrow
  obtain ⟨zs, hzd⟩ : ∃ zs, zs = u8s s := ⟨_, rfl⟩
  have hzl : zs.length = s.length := by rw [hzd]; simp [u8s]
  rw [← hzd]
  have h63 : ys.length + zs.length ≤ 140737488355328 := by omega
  have hlen : (ys.length + zs.length) * 1 ≤ 140737488355328 := by omega
  obtain ⟨news, hnews_def⟩ : ∃ news : List Value, news = zs.map fun x => .int .u8 x.n := ⟨_, rfl⟩
  have hlo : ∀ w, (Builtin.lenOf (bs s)).run P w = .ok zs.length w := fun w => by rw [hzl]; simp [Builtin.lenOf, size_bs]
  have hfc : ∀ w, (Builtin.firstCells i.size zs.length (bs s)).run P w = .ok news.toArray w := fun w => by
    rw [hzl, hnews_def, hzd]
    have e : (⟨s.toArray⟩ : ByteArray).extract 0 s.length = ⟨s.toArray⟩ := by rw [ext_bs, List.take_length, List.drop_zero]
    simp [Builtin.firstCells, e, u8s]
  have key : ∃ v' w', (Builtin.append_ #[t, u] oo.type #[v, bs s]).run P w = .ok v' w' ∧
      OwnS w' (fun b => Ob v' b ∨ M b) e v' (ys ++ zs) ∧ Ext (Ob v) w w' ∧ (∀ b, Ob v' b → Ob v b ∨ w.heap.size ≤ b) := by
    by_cases hzs0 : zs = []
    · have hn0 : news = [] := by rw [hnews_def, hzs0]; rfl
      rw [hn0] at hfc
      have hl0 : zs.length = 0 := by rw [hzs0]; rfl
      rw [hl0] at hlo hfc
      refine ⟨v, w, ?_, ?_, Ext.refl _ _, fun b hb => .inl hb⟩
      · rcases hown with ⟨rfl, _⟩ | ⟨g, cap, cs, rfl, hg, hc, h1, h2, h3⟩
        · simp [Builtin.append_, run_underlying hu, run_underlying ht2, sizeOf, typeInfo, hi, hlo, hfc]
        · simp [Builtin.append_, run_underlying hu, run_underlying ht2, sizeOf, typeInfo, hi, hlo, hfc, h1, storeCells]
      · rw [hzs0, List.append_nil]
        exact hown.sub (fun b hb h => h.elim (fun ho => (hown.ob b ho).1) id) (fun b hb => .inl hb)
    · have hm0 : 0 < zs.length := List.length_pos_iff.2 hzs0
      have hnl' : news.length = zs.length * sz U8 := by rw [hnews_def, List.length_map]; exact (Nat.mul_one _).symm
      have hnl : news.length = zs.length * i.size := by rw [hnl', rfl0]
      have hrepn : ∀ k (hk : k < zs.length), rep w.heap M zs[k] (cellsAt news.toArray (k * sz U8) (sz U8)) := fun k hk => by
        show cellsAt news.toArray (k * 1) 1 = [.int .u8 zs[k].n]
        have hk2 : k < news.length := by rw [hnews_def, List.length_map]; exact hk
        unfold cellsAt
        rw [Nat.mul_one, List.drop_eq_getElem_cons hk2]
        simp [hnews_def]
      have h1c : ∀ v ∈ news, v.oneCell' = true := fun v hv => by
        rw [hnews_def, List.mem_map] at hv
        obtain ⟨a, _, rfl⟩ := hv
        rfl
      -- a block made anew
      have fresh : ∀ (olds : List Value) (cap : Nat) (o : Obj), olds.length = ys.length * sz U8 → (∀ k (hk : k < ys.length), rep w.heap M ys[k] (cellsAt olds.toArray (k * sz U8) (sz U8))) →
          o = .cells (olds.toArray ++ news.toArray ++ Builtin.zeroCells z.cells (cap - (ys.length + zs.length))) e (0, 0) → ys.length + zs.length ≤ cap →
          OwnS (w.drew.alloc o) (fun b => Ob (.slice (some ⟨w.heap.size, 0, none⟩) (ys.length + zs.length) cap) b ∨ M b) e (.slice (some ⟨w.heap.size, 0, none⟩) (ys.length + zs.length) cap) (ys ++ zs) := by
        intro olds cap o holds hrepo ho hcap'
        subst ho
        have hnew := new_alloc_drew w (.cells (olds.toArray ++ news.toArray ++ Builtin.zeroCells z.cells (cap - (ys.length + zs.length))) e (0, 0))
        refine .inr ⟨w.heap.size, cap, _, by rw [List.length_append], .inl rfl, hnew.at_, by rw [List.length_append]; exact hcap', ?_, ?_⟩
        · simp only [Array.size_append, List.size_toArray, size_zeroCells, hzs, holds, hnl', ← Nat.add_mul]
          congr 1; omega
        · intro k hk
          rw [List.length_append] at hk
          have hkeep : ∀ (x : U8) (vs : List Value), rep w.heap M x vs → rep (w.drew.alloc (.cells (olds.toArray ++ news.toArray ++ Builtin.zeroCells z.cells (cap - (ys.length + zs.length))) e (0, 0))).heap
              (fun b => Ob (.slice (some ⟨w.heap.size, 0, none⟩) (ys.length + zs.length) cap) b ∨ M b) x vs := fun x vs hr =>
            Rep.keep (Rep.sub hr (fun b hb h => h.elim (fun e => by simp only [Ob, Value.ownBlock, Option.some.injEq] at e; omega) id)) (fun b hb _ => hnew.ext.block b hb (fun h => h))
          by_cases hky : k < ys.length
          · rw [List.getElem_append_left hky]
            have := hrepo k hky
            rw [show cellsAt olds.toArray (k * sz U8) (sz U8) = cellsAt (olds.toArray ++ news.toArray ++ Builtin.zeroCells z.cells (cap - (ys.length + zs.length))) (k * sz U8) (sz U8) from cellsAt_ext (fun j hj => by
              have hb : k * sz U8 + j < ys.length * sz U8 := by
                have := Nat.mul_le_mul_right (sz U8) (show k + 1 ≤ ys.length from hky); rw [Nat.succ_mul] at this; omega
              rw [Array.append_assoc, Array.getElem?_append_left (by simpa [holds] using hb)])] at this
            exact hkeep _ _ this
          · rw [List.getElem_append_right (by omega)]
            have hkz : k - ys.length < zs.length := by omega
            have := hrepn (k - ys.length) hkz
            rw [show cellsAt news.toArray ((k - ys.length) * sz U8) (sz U8) = cellsAt (olds.toArray ++ news.toArray ++ Builtin.zeroCells z.cells (cap - (ys.length + zs.length))) (k * sz U8) (sz U8) from cellsAt_ext (fun j hj => by
              have hb : (k - ys.length) * sz U8 + j < zs.length * sz U8 := by
                have := Nat.mul_le_mul_right (sz U8) (show k - ys.length + 1 ≤ zs.length from hkz); rw [Nat.succ_mul] at this; omega
              have he : k * sz U8 = ys.length * sz U8 + (k - ys.length) * sz U8 := by rw [← Nat.add_mul]; congr 1; omega
              rw [Array.getElem?_append_left (by simp only [Array.size_append, List.size_toArray, holds, hnl']; omega), Array.getElem?_append_right (by simp only [List.size_toArray, holds]; omega)]
              congr 1
              simp only [List.size_toArray, holds]; omega)] at this
            exact hkeep _ _ this
      rcases hown with ⟨rfl, rfl⟩ | ⟨g, cap, cs, rfl, hg, hc, h1, h2, h3⟩
      · have hr := runT_nil (P := P) w t u oo.type e i z hu hi hz ht2 (bs s) zs.length news hlo hfc hm0 (by omega)
          (by rw [hby]; simp only [List.length_nil, Nat.zero_add] at hlen; omega)
        have hfr := fresh [] (grownCap w zs.length 0 e) _ (by simp) (fun k hk => by simp at hk) rfl (by simpa using grownCap_ge w zs.length 0 e)
        simp only [List.length_nil, Nat.zero_add, List.nil_append] at hfr
        refine ⟨_, _, hr, ?_, ?_, ?_⟩
        · simpa using hfr
        · exact (new_alloc_drew w _).ext.mono (fun b hb h => h.elim)
        · intro b hb; simp only [Ob, Value.ownBlock, Option.some.injEq] at hb; exact .inr (by omega)
      · have hcsl : (cellsAt cs 0 (ys.length * sz U8)).length = ys.length * sz U8 := by
          have := Nat.mul_le_mul_right (sz U8) h1
          simp only [cellsAt, List.length_take, List.length_drop, Array.length_toList]; omega
        have hcsg : ∀ j, j < ys.length * sz U8 → (cellsAt cs 0 (ys.length * sz U8))[j]? = cs[j]? := fun j hj => by
          simp only [cellsAt, List.getElem?_take, if_pos hj, List.getElem?_drop]; simp
        have hrepo : ∀ k (hk : k < ys.length), rep w.heap M ys[k] (cellsAt (cellsAt cs 0 (ys.length * sz U8)).toArray (k * sz U8) (sz U8)) := fun k hk => by
          have := h3 k hk
          rwa [show cellsAt cs (k * sz U8) (sz U8) = cellsAt (cellsAt cs 0 (ys.length * sz U8)).toArray (k * sz U8) (sz U8) from cellsAt_ext (fun j hj => by
            have hb : k * sz U8 + j < ys.length * sz U8 := by
              have := Nat.mul_le_mul_right (sz U8) (show k + 1 ≤ ys.length from hk); rw [Nat.succ_mul] at this; omega
            rw [show ∀ m, (cellsAt cs 0 (ys.length * sz U8)).toArray[m]? = (cellsAt cs 0 (ys.length * sz U8))[m]? from fun m => by simp, hcsg _ hb])] at this
        by_cases hroom : ys.length + zs.length ≤ cap
        · have hbound : ys.length * i.size + news.length ≤ cs.size := by
            rw [hnl, rfl0, h2, ← Nat.add_mul]; exact Nat.mul_le_mul_right _ hroom
          have hr := runT_room (P := P) w t u oo.type e i hu hi ht2 g ys.length cap cs hc (bs s) zs.length news hlo hfc h1c hroom hbound
          have hupd := upd_setRow (w := w) (cs := (cs.toList.take (ys.length * i.size) ++ news ++ cs.toList.drop (ys.length * i.size + news.length)).toArray) hc
          refine ⟨_, _, hr, .inr ⟨g, cap, _, by rw [List.length_append], .inr hg, hupd.at_, by rw [List.length_append]; exact hroom, ?_, ?_⟩, ?_, ?_⟩
          · simp only [List.size_toArray, List.length_append, List.length_take, List.length_drop, Array.length_toList, hnl, rfl0] at hbound ⊢
            omega
          · intro k hk
            rw [List.length_append] at hk
            have hkeep : ∀ (x : U8) (vs : List Value), rep w.heap M x vs → rep (w.setRow g (cs.toList.take (ys.length * i.size) ++ news ++ cs.toList.drop (ys.length * i.size + news.length)).toArray).heap
                (fun b => Ob (.slice (some ⟨g, 0, none⟩) (ys.length + zs.length) cap) b ∨ M b) x vs := fun x vs hr' =>
              Rep.keep (Rep.sub hr' (fun b hb h => h.elim (fun e => by simp only [Ob, Value.ownBlock, Option.some.injEq] at e; subst e; exact hg) id))
                (fun b hb hn => hupd.ext.block b hb (fun h => hn (.inr (by rw [show b = g from h]; exact hg))))
            rw [rfl0] at hbound
            by_cases hky : k < ys.length
            · rw [List.getElem_append_left hky]
              have := h3 k hky
              rw [show cellsAt cs (k * sz U8) (sz U8) = cellsAt (cs.toList.take (ys.length * i.size) ++ news ++ cs.toList.drop (ys.length * i.size + news.length)).toArray (k * sz U8) (sz U8) from cellsAt_ext (fun j hj => by
                have hb : k * sz U8 + j < ys.length * sz U8 := by
                  have := Nat.mul_le_mul_right (sz U8) (show k + 1 ≤ ys.length from hky); rw [Nat.succ_mul] at this; omega
                conv => rhs; rw [List.getElem?_toArray, List.append_assoc, List.getElem?_append_left (by simp only [List.length_take, Array.length_toList, rfl0]; omega), List.getElem?_take, if_pos (by rw [rfl0]; exact hb)]
                simp)] at this
              exact hkeep _ _ this
            · rw [List.getElem_append_right (by omega)]
              have hkz : k - ys.length < zs.length := by omega
              have := hrepn (k - ys.length) hkz
              rw [show cellsAt news.toArray ((k - ys.length) * sz U8) (sz U8) = cellsAt (cs.toList.take (ys.length * i.size) ++ news ++ cs.toList.drop (ys.length * i.size + news.length)).toArray (k * sz U8) (sz U8) from cellsAt_ext (fun j hj => by
                have hb : (k - ys.length) * sz U8 + j < zs.length * sz U8 := by
                  have := Nat.mul_le_mul_right (sz U8) (show k - ys.length + 1 ≤ zs.length from hkz); rw [Nat.succ_mul] at this; omega
                have he : k * sz U8 = ys.length * sz U8 + (k - ys.length) * sz U8 := by rw [← Nat.add_mul]; congr 1; omega
                have htl : (cs.toList.take (ys.length * i.size)).length = ys.length * sz U8 := by simp only [List.length_take, Array.length_toList, rfl0]; omega
                rw [show ∀ m, news.toArray[m]? = news[m]? from fun m => by simp, show ∀ (l : List Value) m, l.toArray[m]? = l[m]? from fun l m => by simp, List.getElem?_append_left (by rw [List.length_append, htl]; omega), List.getElem?_append_right (by rw [htl]; omega), htl]
                congr 1; omega)] at this
              exact hkeep _ _ this
          · exact hupd.ext.mono (fun b hb h => by rw [show b = g from h]; rfl)
          · intro b hb; exact .inl hb
        · have holds : ∀ j v, (cellsAt cs 0 (ys.length * sz U8))[j]? = some v → w.cell? ((⟨g, 0, none⟩ : Addr).add j) = some v := fun j v hv => by
            have hj : j < ys.length * sz U8 := by rw [← hcsl]; exact (List.getElem?_eq_some_iff.1 hv).1
            rw [addr_add, cell_of_row w g (0 + j) cs e (0, 0) hc, Nat.zero_add, ← hcsg j hj, hv]
          have hr := runT_grow (P := P) w t u oo.type e i z hu hi hz ht2 ⟨g, 0, none⟩ ys.length cap (cellsAt cs 0 (ys.length * sz U8)) (by rw [rfl0]; exact hcsl) holds (bs s) zs.length news hlo hfc (by omega) (by omega)
            (growslice_fits (by omega) (by rw [hby]; exact hlen))
          have hfr := fresh _ (grownCap w (ys.length + zs.length) cap e) _ hcsl hrepo rfl (grownCap_ge w _ _ e)
          refine ⟨_, _, hr, hfr, ?_, ?_⟩
          · exact (new_alloc_drew w _).ext.mono (fun b hb h => h.elim)
          · intro b hb; simp only [Ob, Value.ownBlock, Option.some.injEq] at hb; exact .inr (by omega)
  obtain ⟨v', w', hrun, hpost⟩ := key
  refine ⟨v', w', .inl ?_, hpost⟩
  unfold execOp; rw [hoo]
  simp [hρ _ _ hx, hρ _ _ hy, resolve, invoke, builtin, hrun]
theorem a_appendT {C : Nat → Nat} {j : Nat} {s : List UInt8} (hF : Lim w C) (hj : j ≠ 0) (hx : ev env x = some v) (hy : ev env y = some (bs s)) (hrow : rowB P t e (sz U8) 1 = true) (ht2 : P.underlying u = some .string)
    (hown : OwnL w C j e v ys) (hlen : ys.length + s.length ≤ 140737488355328) :
    Acts P N env (.call { callee := .builtin .append, args := #[x, y], argTypes := #[t, u] }) w (fun v' w' => ∃ C', Stp [j] w C w' C' ∧ OwnL w' C' j e v' (ys ++ u8s s) ∧ Lim w' C') := fun a ha oo hoo => by
  obtain ⟨v', w', h1, h2, h3, h4⟩ := acts_appendT (P := P) (N := N) hx hy hrow ht2 hown.own hlen a ha oo hoo
  have hcol : ∀ b, b < w.heap.size → setB C v' j b = C b := fun b hb => by
    unfold setB
    split
    · rename_i e
      rcases h4 b e with h | h
      · exact (hown.col b h).symm
      · omega
    · rfl
  refine ⟨v', w', h1, setB C v' j, ⟨h3.mono (fun b _ hb => by rw [hown.col b hb]; simp), hcol⟩, ⟨h2.sub (fun b hb hc => ?_) (fun b hb => ?_), fun b hb => ?_⟩, fun b hb => ?_⟩
  · by_cases ho : Ob v' b
    · exact .inl ho
    · right
      unfold Mc setB at hc
      rw [if_neg (show ¬ v'.ownBlock = some b from ho)] at hc
      exact hc
  · unfold Mc setB; rw [if_pos (show v'.ownBlock = some b from hb)]; exact hj
  · unfold setB; rw [if_pos (show v'.ownBlock = some b from hb)]
  · by_cases ho : Ob v' b
    · exact (h2.ob b ho).2
    · unfold setB at hb
      rw [if_neg (show ¬ v'.ownBlock = some b from ho)] at hb
      exact Nat.lt_of_lt_of_le (hF b hb) h3.size
end
theorem lenB_len (s : List UInt8) : (lenB s).length = s.length + 2 := by simp [lenB]
theorem lenB_next {l : List Tx} {k : Nat} (h : k < l.length) : ((l.take (k + 1)).flatMap fun x => lenB x.l) = ((l.take k).flatMap fun x => lenB x.l) ++ lenB l[k].l := by
  rw [List.take_succ_eq_append_getElem h, List.flatMap_append]
  simp
end Go.K

/- Numbers as texts, and pseudonyms, in plain words; the table of powers of ten, which nobody writes. -/
set_option linter.unusedVariables false
set_option linter.unusedSimpArgs false
set_option linter.unusedSectionVars false
namespace Go.K
open Rep
section
variable {P : Program} {N : Nat} {env : Env} {w w' : World} {x y : Operand} {t u e kt : TypeId} {M : Nat → Prop} {v : Value} {C : Nat → Nat}
theorem val_ofBytes {ys : List U8} (h : RV w M ys v) (hx : ev env x = some v) (hs : P.underlying t = some (.slice e)) (he : P.underlying e = some (.int .u8)) (hd : P.underlying u = some .string) (hne : ys ≠ []) :
    Val P N env (.convert t u x) w (bs (ys.map fun y => UInt8.ofNat y.n.toNat)) := mk' fun ρ hρ o ho => by
  obtain ⟨a, c, rfl, _, _, h3⟩ := rv_list.1 h
  rcases h3 with h0 | ⟨b, o', rfl, hb, cs, ty, fz, hc, hl, hr⟩
  · exact absurd h0 hne
  · have hcell : ∀ i, i < ys.length → w.cell? ⟨b, o' + i, none⟩ = some (.int .u8 ((ys.map (·.n)).getD i 0)) := fun i hi => by
      have h1 : cellsAt cs (o' + i * sz U8) (sz U8) = [.int .u8 ys[i].n] := hr i hi
      have h2 := congrArg (fun l => l[0]?) h1
      simp only [cellsAt, show sz U8 = 1 from rfl, Nat.mul_one, List.getElem?_take, List.getElem?_drop, Array.getElem?_toList, Nat.add_zero] at h2
      rw [cell_of_row w b (o' + i) cs ty fz hc]
      simp only [Nat.zero_lt_one, if_true, List.getElem?_cons_zero] at h2
      rw [h2]
      simp [List.getD, hi]
    have hrun := run_convert_bytes_arg w t e hs he b o' ys.length c (ys.map (·.n)) (by simp) (by simpa using hcell) u hd
    unfold execOp; rw [ho]
    simp only [hρ _ _ hx]
    simp only [Sem.run_bind, hrun, Result.andThen_ok, Sem.run_pure, strOfNums, List.map_map]
    rfl
end
theorem dec_byte {m : Nat} (h : m < 10) : UInt8.ofNat (IntKind.u8.wrap (48 + (m : Int))).toNat = UInt8.ofNat (48 + m) := by
  congr 1
  unfold IntKind.wrap
  simp only [IntKind.bits, IntKind.signed, Bool.false_and, Bool.false_eq_true, if_false]
  omega
theorem dec_small {n : Nat} (h : n < 10) : ([⟨IntKind.u8.wrap (48 + (n : Int))⟩] : List U8).map (fun y => UInt8.ofNat y.n.toNat) = Lib.decDigits n := by
  rw [Lib.decDigits, dif_pos h, List.map_cons, List.map_nil, dec_byte h]
theorem dec_big {n : Nat} (h : ¬ n < 10) : Lib.decDigits (n / 10) ++ ([⟨IntKind.u8.wrap (48 + (n : Int) % 10)⟩] : List U8).map (fun y => UInt8.ofNat y.n.toNat) = Lib.decDigits n := by
  rw [Lib.decDigits.eq_def n, dif_neg h, List.map_cons, List.map_nil, show (n : Int) % 10 = ((n % 10 : Nat) : Int) from by omega, dec_byte (Nat.mod_lt _ (by decide))]
theorem nDigits_le : ∀ (k : Nat) {n : Nat}, n < 10 ^ (k + 1) → Lib.nDigits n ≤ k + 1
  | 0, n, h => by rw [Lib.nDigits_small (by simpa using h)]; omega
  | k + 1, n, h => by
    by_cases h1 : n < 10
    · rw [Lib.nDigits_small h1]; omega
    · rw [Lib.nDigits_big h1]
      have := nDigits_le k (n := n / 10) (by rw [Nat.pow_succ] at h; omega)
      omega
theorem dec_len {n : Nat} (h : n ≤ 9223372036854775807) : (Lib.decDigits n).length ≤ 20 := by
  rw [Lib.decDigits_length]; exact nDigits_le 19 (by omega)
def psdW (ka kb : Int) (num reg id turn : Nat) : Int :=
  partsW (drvW ka kb [115, 116, 117, 100, 121]).1 (drvW ka kb [115, 116, 117, 100, 121]).2 [Lib.decDigits num, Lib.decDigits reg, Lib.decDigits id, Lib.decDigits turn]
def Tb (P : Program) (w : World) (C : Nat → Nat) : Prop := Lib.TabIs P w "internal/strconv.uint64pow10" .u64 Lib.pow10Tab ∧ ∀ g, P.globalNamed "internal/strconv.uint64pow10" = some g → C g = 0
section
variable {P : Program} {w w' : World} {C C' : Nat → Nat} {I : List Nat}
theorem Tb.st (h : Tb P w C) (hs : Stp I w C w' C') (h0 : 0 ∉ I) : Tb P w' C' := by
  obtain ⟨h1, h2⟩ := h
  unfold Lib.TabIs World.var? at h1
  cases hg : P.globalNamed "internal/strconv.uint64pow10" with
  | none => rw [hg] at h1; cases h1
  | some g =>
    rw [hg] at h1
    simp only [Option.bind_some] at h1
    have hc := h2 g hg
    have hlt : g < w.heap.size := by
      rcases Nat.lt_or_ge g w.heap.size with h | h
      · exact h
      · rw [Array.getElem?_eq_none h] at h1; cases h1
    have hb := hs.ext.block g hlt (by rw [hc]; exact h0)
    refine ⟨?_, fun g' hg' => ?_⟩
    · unfold Lib.TabIs World.var?
      rw [hg]; simp only [Option.bind_some]; rw [hb]; exact h1
    · rw [hg] at hg'; cases hg'; rw [hs.col g hlt]; exact hc
theorem Tb.col1 (h : Tb P w C) : Tb P w (col1 C) := ⟨h.1, fun g hg => by unfold K.col1; rw [if_pos (h.2 g hg)]⟩
end
end Go.K

/- Couples (and other structs of two ints): as keys, compared, in order; what stands twice side by side. -/
set_option linter.unusedVariables false
set_option linter.unusedSimpArgs false
namespace Go.K
open Rep
abbrev vvB : Bool → Value := fun b => .bool b
abbrev kvC : Couple → Value := fun c => .agg #[.int .i64 c.a, .int .i64 c.b]
/-! ### 'cmp' -/
/-! ### Couples as keys -/
section
variable {P : Program} {t ti : TypeId} {n0 n1 tg0 tg1 pk0 pk1 : String} {e0 e1 : Bool} {y0 y1 : Nat}
theorem part_couple (hi : P.underlying ti = some (.int .i64)) (a b : Int) (i : Nat) (v : Value) (w : World) (hv : (#[Value.int .i64 a, Value.int .i64 b])[i]? = some v) : (part ti #[.int .i64 a, .int .i64 b] i).run P w = .ok v w :=
  run_part_plain w (by simp [Program.plainKey, hi]) hv
theorem eqOK_couple (h : P.underlying t = some (.struct #[⟨n0, ti, 0, e0, tg0, pk0, y0⟩, ⟨n1, ti, 1, e1, tg1, pk1, y1⟩])) (h0 : n0 ≠ "_") (h1 : n1 ≠ "_") (hS : P.stoodInHeld t = false)
    (hi : P.underlying ti = some (.int .i64)) : EqOK P t kvC := fun d a b w => by
  have hpt := fun a b i v w => part_couple (P := P) hi a b i v w
  have hf : P.fieldsOf t = #[⟨n0, ti, 0, e0, tg0, pk0, y0⟩, ⟨n1, ti, 1, e1, tg1, pk1, y1⟩] := by simp [Program.fieldsOf, h]
  have he := fun (x y : Int) => run_equalIn_int (P := P) w (d + 6) ti .i64 .i64 x y hi
  rw [show d + 8 = (d + 7) + 1 from rfl, run_equalIn_struct w (d + 7) t _ _ (by rw [hf]; exact h) hS, hf]
  have p0 : ∀ c : Couple, (part ti #[.int .i64 c.a, .int .i64 c.b] 0).run P w = .ok (.int .i64 c.a) w := fun c => hpt _ _ 0 _ w rfl
  have p1 : ∀ c : Couple, (part ti #[.int .i64 c.a, .int .i64 c.b] 1).run P w = .ok (.int .i64 c.b) w := fun c => hpt _ _ 1 _ w rfl
  have hd : (decide (a = b)) = ((a.a == b.a) && (a.b == b.b)) := by
    cases a; cases b; simp only [Couple.mk.injEq, Bool.decide_and]; rfl
  simp only [Op.eqFields, Sem.run_bind, Sem.run_ite, h0, h1, ne_eq, not_false_eq_true, if_true, p0, p1, Result.andThen_ok, he, hd]
  cases (a.a == b.a) <;> cases (a.b == b.b) <;> simp
theorem keyOK_couple (h : P.underlying t = some (.struct #[⟨n0, ti, 0, e0, tg0, pk0, y0⟩, ⟨n1, ti, 1, e1, tg1, pk1, y1⟩])) (h0 : n0 ≠ "_") (h1 : n1 ≠ "_") (hS : P.stoodInHeld t = false)
    (hi : P.underlying ti = some (.int .i64)) : KeyOK P t kvC := by
  have hpt := fun a b i v w => part_couple (P := P) hi a b i v w
  refine keyOK_struct h (eqOK_couple h h0 h1 hS hi) (fun e k w => ?_) (fun k => by simp [Instr.sameBits]) (fun a b hab => ?_)
  · have p0 : (part ti #[.int .i64 k.a, .int .i64 k.b] 0).run P w = .ok (.int .i64 k.a) w := hpt _ _ 0 _ w rfl
    have p1 : (part ti #[.int .i64 k.a, .int .i64 k.b] 1).run P w = .ok (.int .i64 k.b) w := hpt _ _ 1 _ w rfl
    have q : ∀ (x : Int), (Instr.checkKey e 9999 ti (.int .i64 x)).run P w = .ok () w := fun x => by unfold Instr.checkKey; simp [run_underlying hi]
    rw [show (10000 : Nat) = 9999 + 1 from rfl, Instr.checkKey]
    simp only [Sem.run_bind, run_underlying h, Result.andThen_ok]
    rw [← Array.forIn_toList]
    simp only [List.forIn_cons, List.forIn_nil, Sem.run_bind, Sem.run_ite, h0, h1, ne_eq, not_false_eq_true, if_true, p0, p1, q, Result.andThen_ok, Sem.run_pure]
  · cases a; cases b; simp at hab; simp [hab]
variable {N : Nat} {env : Env} {x y : Operand} {u : TypeId} {a b : Couple} {w : World}
end
/-! ### Lists of couples -/
/-! ### What stands twice side by side -/
section
variable {α : Type} [DecidableEq α]
end
instance : Inhabited Couple := ⟨⟨0, 0⟩⟩
end Go.K

/- Bonds and what hangs together: plain. -/
set_option linter.unusedVariables false
set_option linter.unusedSimpArgs false
namespace Go.K
open Rep
structure Bond where
  A : Couple
  B : Couple
  w : Int
  deriving DecidableEq
instance : Rep Bond := Rep.via (fun x : Bond => (x.A, (x.B, x.w)))
instance : Inhabited Bond := ⟨⟨⟨0, 0⟩, ⟨0, 0⟩, 0⟩⟩
abbrev encR (x : Couple) : List Value := [.int .i64 x.a, .int .i64 x.b]
section
variable {w : World} {M : Nat → Prop} {b o : Nat} {v : Value}
end
structure Sv where
  v : Value
instance : Inhabited Sv := ⟨⟨.slice none 0 0⟩⟩
instance : Rep Sv where
  sz := 1
  agg := false
  flat _ := rfl
  rep _ _ x vs := vs = [x.v] ∧ x.v.oneCell' = true
  len h := by obtain ⟨rfl, _⟩ := h; rfl
  one h := by obtain ⟨rfl, h1⟩ := h; intro v hv; simp at hv; subst hv; exact h1
  keep h _ := h
  sub h _ := h
section
variable {w : World} {M : Nat → Prop} {v : Value} {β : Type} [Rep β]
end
/-! ### Order -/
def ltP (x y : Couple) : Prop := x.a < y.a ∨ x.a = y.a ∧ x.b < y.b
instance (x y : Couple) : Decidable (ltP x y) := by unfold ltP; infer_instance
def lt2 (x y : Bond) : Prop := ltP x.A y.A ∨ x.A = y.A ∧ ltP x.B y.B
instance (x y : Bond) : Decidable (lt2 x y) := by unfold lt2; infer_instance
/-! ### Valid bonds -/
def refOK (r : Couple) : Bool := decide (0 ≤ r.a) && decide (r.a < 4) && decide (1 ≤ r.b) && decide (r.b ≤ 1048576)
/-! ### Refs -/
/-! ### Roots -/
/-! ### What hangs together -/
section
variable {α β : Type} [DecidableEq β]
end
/-! ### Forests -/
end Go.K

/- Maps that a function is handed to write; groups as they grow. -/
set_option linter.unusedVariables false
set_option linter.unusedSimpArgs false
namespace Go.K
open Rep
section
variable {κ β : Type} {kv : κ → Value} {vv : β → Value} {m : List (κ × β)} {w w' w₀ : World} {I : List Nat} {C C' C₀ : Nat → Nat} {i j b : Nat}
theorem OwnM.stay [DecidableEq κ] (h : OwnM w C j b kv vv m) (hS : Ext (fun b => C b ∈ I) w w') (hj : j ∉ I) : OwnM w' C j b kv vv m := h.st (I := I) ⟨hS, fun _ _ => rfl⟩ hj
end
/-! ### Lists of lists that grow -/
section
variable {α β : Type} [DecidableEq β] {f : α → β} {xs : List α} {r : α} {i0 : Nat}
end
/-! ### Which part -/
end Go.K

/- Missed matches: plain. -/
set_option linter.unusedVariables false
set_option linter.unusedSimpArgs false
namespace Go.K
open Rep
/-! ### The probability that all sets of a mask have an atom that disagrees -/
/-! ### Types -/
structure Key where
  comps : List Couple
instance : Rep Key where
  sz := 1
  agg := true
  flat h := by cases h
  rep h M x vs := rep h M x.comps vs
  len h := Rep.len (α := List Couple) h
  one h := Rep.one (α := List Couple) h
  keep h hk := Rep.keep (α := List Couple) h hk
  sub h hk := Rep.sub (α := List Couple) h hk
structure Fv where
  val : Value
  one : val.oneCell' = true
instance : Rep Fv where
  sz := 1
  agg := false
  flat _ := rfl
  rep _ _ x vs := vs = [x.val]
  len h := by subst h; rfl
  one h := by subst h; rename_i x; intro v hv; simp at hv; subst hv; exact x.one
  keep h _ := h
  sub h _ := h
section
variable {w : World} {M : Nat → Prop} {b o : Nat} {v : Value}
end
/-! ### The first that is found -/
def idxOf {α : Type} (p : α → Bool) (l : List α) : Int := if l.any p then (l.findIdx p : Int) else -1
theorem idxOf_at {α : Type} {p : α → Bool} {l : List α} {k : Nat} (h : k < l.length) (h0 : ∀ i (hi : i < k), p (l[i]'(by omega)) = false) (hp : p l[k] = true) : idxOf p l = k := by
  unfold idxOf
  rw [if_pos (List.any_eq_true.2 ⟨l[k], List.getElem_mem h, hp⟩)]
  have : l.findIdx p = k := (List.findIdx_eq h).2 ⟨hp, fun j hj => by simpa using h0 j hj⟩
  rw [this]
theorem idxOf_none {α : Type} {p : α → Bool} {l : List α} (h0 : ∀ i (hi : i < l.length), p l[i] = false) : idxOf p l = -1 := by
  unfold idxOf
  rw [if_neg]
  intro h
  obtain ⟨x, hx, hp⟩ := List.any_eq_true.1 h
  obtain ⟨i, hi, rfl⟩ := List.mem_iff_getElem.1 hx
  rw [h0 i hi] at hp; cases hp
theorem idxOf_ge {α : Type} {p : α → Bool} {l : List α} : decide (0 ≤ idxOf p l) = l.any p := by
  unfold idxOf
  cases h : l.any p
  · rfl
  · simp only [if_true]; exact decide_eq_true (by omega)
/-! ### Atoms -/
/-! ### Checking -/
/-! ### Sets of atoms -/
/-! ### The walk's bounds -/
/-! ### Plans -/
/-! ### The best plan -/
end Go.K

/- Persons with pseudonyms, links and notices of studies, as plain values. -/
set_option linter.unusedVariables false
set_option linter.unusedSimpArgs false
namespace Go.K
open Rep
structure Nam where
  p : U64
  part : List Couple
instance : Rep Nam := Rep.via (fun x : Nam => (x.p, x.part))
instance : Inhabited Nam := ⟨⟨⟨0⟩, []⟩⟩
structure Lnk where
  p : U64
  regs : List Int
instance : Rep Lnk := Rep.via (fun x : Lnk => (x.p, x.regs))
instance : Inhabited Lnk := ⟨⟨⟨0⟩, []⟩⟩
structure Ntc where
  n : Int
  drop : Bool
  l : Lnk
instance : Rep Ntc := Rep.via (fun x : Ntc => ((x.n, x.drop), x.l))
instance : Inhabited Ntc := ⟨⟨0, false, ⟨⟨0⟩, []⟩⟩⟩
section
variable {w : World} {M : Nat → Prop} {b o : Nat} {v u : Value}
theorem RA.lkp {x : Lnk} (h : RA w M x b o) : RA w M x.p b o := RA.fst (p := (x.p, x.regs)) h
theorem RA.lkr {x : Lnk} (h : RA w M x b o) : RA w M x.regs b (o + 1) := RA.snd (p := (x.p, x.regs)) h
theorem rv_lnk {x : Lnk} : RV w M x v ↔ ∃ u, v = .agg #[.int .u64 x.p.n, u] ∧ RV w M x.regs u := by
  constructor
  · rintro ⟨vs, ⟨v1, v2, rfl, h1, h2⟩, rfl⟩
    exact ⟨v2.headD undef, by obtain rfl : v1 = [.int .u64 x.p.n] := h1; obtain ⟨y, rfl⟩ := List.length_eq_one_iff.1 (Rep.len h2); rfl, v2, h2, rfl⟩
  · rintro ⟨u, rfl, vs, h2, rfl⟩
    obtain ⟨y, rfl⟩ := List.length_eq_one_iff.1 (Rep.len h2)
    exact ⟨_, ⟨[.int .u64 x.p.n], [y], rfl, rfl, h2⟩, rfl⟩
theorem rv_nam {x : Nam} : RV w M x v ↔ ∃ u, v = .agg #[.int .u64 x.p.n, u] ∧ RV w M x.part u := by
  constructor
  · rintro ⟨vs, ⟨v1, v2, rfl, h1, h2⟩, rfl⟩
    exact ⟨v2.headD undef, by obtain rfl : v1 = [.int .u64 x.p.n] := h1; obtain ⟨y, rfl⟩ := List.length_eq_one_iff.1 (Rep.len h2); rfl, v2, h2, rfl⟩
  · rintro ⟨u, rfl, vs, h2, rfl⟩
    obtain ⟨y, rfl⟩ := List.length_eq_one_iff.1 (Rep.len h2)
    exact ⟨_, ⟨[.int .u64 x.p.n], [y], rfl, rfl, h2⟩, rfl⟩
theorem rv_ntc {x : Ntc} : RV w M x v ↔ ∃ u, v = .agg #[.int .i64 x.n, .bool x.drop, .int .u64 x.l.p.n, u] ∧ RV w M x.l.regs u := by
  constructor
  · rintro ⟨vs, ⟨v1, v2, rfl, ⟨a, b, rfl, h1, h3⟩, ⟨c, d, rfl, h4, h2⟩⟩, rfl⟩
    obtain rfl : a = [.int .i64 x.n] := h1
    obtain rfl : b = [.bool x.drop] := h3
    obtain rfl : c = [.int .u64 x.l.p.n] := h4
    obtain ⟨y, rfl⟩ := List.length_eq_one_iff.1 (Rep.len h2)
    exact ⟨y, rfl, [y], h2, rfl⟩
  · rintro ⟨u, rfl, vs, h2, rfl⟩
    obtain ⟨y, rfl⟩ := List.length_eq_one_iff.1 (Rep.len h2)
    exact ⟨_, ⟨_, _, rfl, ⟨[.int .i64 x.n], [.bool x.drop], rfl, rfl, rfl⟩, ⟨[.int .u64 x.l.p.n], [y], rfl, rfl, h2⟩⟩, rfl⟩
end
theorem rep_nam_set {h : Array Obj} {M : Nat → Prop} {p q : U64} {l : List Couple} {vs : List Value} (hv : rep h M (⟨p, l⟩ : Nam) vs) : rep h M (⟨q, l⟩ : Nam) (vs.take 0 ++ [.int .u64 q.n] ++ vs.drop (0 + 1)) := by
  obtain ⟨v1, v2, rfl, h1, h2⟩ := hv
  obtain rfl : v1 = [.int .u64 p.n] := h1
  exact ⟨[.int .u64 q.n], v2, rfl, rfl, h2⟩
theorem rep_nam_p {h : Array Obj} {M : Nat → Prop} {p : U64} {l : List Couple} {vs : List Value} (hv : rep h M (⟨p, l⟩ : Nam) vs) : vs[0]? = some (.int .u64 p.n) := by
  obtain ⟨v1, v2, rfl, h1, h2⟩ := hv
  obtain rfl : v1 = [.int .u64 p.n] := h1
  rfl
structure PsnOK (l : List Couple) : Prop where
  len : 2 ≤ l.length
  ok : ∀ k (h : k < l.length), refOK l[k] = true
  asc : ∀ k (h : k < l.length), 0 < k → (l[k - 1]'(by omega)).a < l[k].a
  nd : l.Nodup
structure RgsOK (l : List Int) : Prop where
  len : 2 ≤ l.length
  ok : ∀ k (h : k < l.length), 0 ≤ l[k] ∧ l[k] < 4
  asc : ∀ k (h : k < l.length), 0 < k → (l[k - 1]'(by omega)) < l[k]
def SeenR (m : List (Couple × Bool)) (rs : List Couple) : Prop := ∀ r, (mget m r).getD false = true ↔ r ∈ rs
theorem SeenR.nil : SeenR [] [] := fun r => by simp [mget]
theorem SeenR.put {m : List (Couple × Bool)} {rs : List Couple} (h : SeenR m rs) (r : Couple) : SeenR (mput m r true) (rs ++ [r]) := fun q => by
  rw [mget_mput]
  by_cases e : r = q
  · subst e; simp
  · rw [if_neg e, h q]
    simp only [List.mem_append, List.mem_singleton]
    exact ⟨.inl, fun x => x.elim id fun x => absurd x.symm e⟩
theorem SeenR.not {m : List (Couple × Bool)} {rs : List Couple} (h : SeenR m rs) {r : Couple} (hr : r ∉ rs) : (mget m r).getD false = false := Bool.eq_false_iff.2 fun e => hr ((h r).1 e)
theorem nodup_take {l : List Couple} (h : l.Nodup) {j : Nat} (hj : j < l.length) : l[j] ∉ l.take j := fun hm => by
  obtain ⟨i, hi, e⟩ := List.getElem_of_mem hm
  rw [List.length_take] at hi
  rw [List.getElem_take] at e
  exact (List.pairwise_iff_getElem.1 h) i j (by omega) hj (by omega) e
theorem idxI_ge {l : List Int} {x : Int} : 0 ≤ idxOf (fun y => decide (x = y)) l ↔ x ∈ l := by
  have h : decide (0 ≤ idxOf (fun y => decide (x = y)) l) = l.any (fun y => decide (x = y)) := idxOf_ge
  rw [show 0 ≤ idxOf (fun y => decide (x = y)) l ↔ decide (0 ≤ idxOf (fun y => decide (x = y)) l) = true from decide_eq_true_iff.symm, h]
  simp
theorem rgs12 : RgsOK [1, 2] := ⟨by decide, fun k h => by
  match k, h with
  | 0, _ => simp
  | 1, _ => simp, fun k h h0 => by
  match k, h with
  | 1, _ => simp⟩
def psn3 : List Couple := [⟨0, 1⟩, ⟨1, 2⟩, ⟨2, 3⟩]
theorem psn3_ok : PsnOK psn3 := ⟨by decide, fun k h => by
  match k, h with
  | 0, _ => rfl
  | 1, _ => rfl
  | 2, _ => rfl, fun k h h0 => by
  match k, h with
  | 1, _ => simp [psn3]
  | 2, _ => simp [psn3], by decide⟩
theorem psn3_refs : (psn3.filter fun r => decide (r.a ∈ ([1, 2] : List Int))) = ⟨((1 : Nat) : Int), ((2 : Nat) : Int)⟩ :: [⟨2, 3⟩] := by decide
end Go.K

/- The deck: plain. -/
set_option linter.unusedVariables false
set_option linter.unusedSimpArgs false
namespace Go.K
open Rep
structure Dk where
  list : List Int
  at_ : Nat
  state : Int
def Dk.x (d : Dk) : Int := if h : d.at_ < d.list.length then IntKind.u64.wrap d.list[d.at_] else 0
def mix (s x : Int) : Int := IntKind.u64.wrap (IntKind.u64.wrap (IntKind.u64.wrap (s + x) * 6364136223846793005) + 1442695040888963407)
def stir1 (s : Int) : Int := bitsOf .xor .u64 s (s.fdiv (2 ^ min (33 : Int).toNat IntKind.u64.bits))
def stir2 (y : Int) : Int := bitsOf .xor .u64 y (y.fdiv (2 ^ min (29 : Int).toNat IntKind.u64.bits))
def Dk.next (d : Dk) : Dk := { list := d.list, at_ := if d.at_ < d.list.length then d.at_ + 1 else d.at_, state := mix d.state d.x }
def Dk.word (d : Dk) : Int := stir2 (IntKind.u64.wrap (stir1 d.next.state * 18397679294719823053))
theorem wrap_u64_range (n : Int) : 0 ≤ IntKind.u64.wrap n ∧ IntKind.u64.wrap n < 18446744073709551616 := by
  have h : IntKind.u64.wrap n = n % 18446744073709551616 := by simp [IntKind.wrap, IntKind.signed, IntKind.bits]
  rw [h]; exact ⟨Int.emod_nonneg _ (by decide), Int.emod_lt_of_pos _ (by decide)⟩
theorem Dk.word_range (d : Dk) : 0 ≤ d.word ∧ d.word < 18446744073709551616 := wrap_u64_range _
def Dk.num (d : Dk) (n : Int) : Int := if n < 1 then 0 else (d.word / 2) % n
def Dk.after (d : Dk) (n : Int) : Dk := if n < 1 then d else d.next
theorem Dk.num_range (d : Dk) {n : Int} (h : 1 ≤ n) : 0 ≤ d.num n ∧ d.num n < n := by
  unfold Dk.num; rw [if_neg (by omega)]
  exact ⟨Int.emod_nonneg _ (by omega), Int.emod_lt_of_pos _ (by omega)⟩
theorem Dk.after_list (d : Dk) (n : Int) : (d.after n).list = d.list := by unfold Dk.after; split <;> rfl
def DeckAt (t : TypeId) (w : World) (C : Nat → Nat) (i b : Nat) (d : Dk) : Prop :=
  d.at_ ≤ d.list.length ∧ ∃ v, RV w (Mc C) d.list v ∧ OwnB w C i b (.cells [v, .int .i64 d.at_, .int .u64 d.state].toArray t)
section
variable {t : TypeId} {w w' : World} {C C' : Nat → Nat} {i b : Nat} {d : Dk} {I : List Nat}
theorem DeckAt.st (h : DeckAt t w C i b d) (hs : Stp I w C w' C') (h0 : 0 ∉ I) (hi : i ∉ I) : DeckAt t w' C' i b d := by
  obtain ⟨h1, v, h2, h3⟩ := h
  exact ⟨h1, v, h2.st hs h0, h3.st hs hi⟩
theorem DeckAt.col2 (h : DeckAt t w C i b d) (hi : i ≠ 0) : DeckAt t w (col2 C i) 2 b d := by
  obtain ⟨h1, v, h2, h3⟩ := h
  exact ⟨h1, v, by rw [Mc_col2]; exact h2, h3.col2 hi⟩
theorem DeckAt.out {w₀ : World} {C₀ : Nat → Nat} (h : DeckAt t w' C' 2 b d) (hs : Stp I w₀ (K.col2 C₀ i) w' C') (hF : Lim w₀ C₀) (hb : C₀ b = i) : DeckAt t w' C₀ i b d := by
  obtain ⟨h1, v, h2, h3⟩ := h
  exact ⟨h1, v, h2.out hs hF (Mc_col2 C₀ i), ⟨hb, h3.at_⟩⟩
end
end Go.K

/- Stable sorting, seen as a change of places. Plain Lean. -/
set_option linter.unusedVariables false
set_option linter.unusedSimpArgs false
namespace Go.K
open Rep
section
variable {α : Type} {ys zs us : List α} {σ τ : Nat → Nat} {a b i j n : Nat}
/-! ### Insertion -/
end
end Go.K

/- The search for prices, row by row: what holds at each step. Plain Lean. -/
set_option linter.unusedVariables false
set_option linter.unusedSimpArgs false
namespace Go.K
section
variable {k : Nat} {c : Nat → Nat → Int} {W far : Int} {n at_ T : Nat} {u v u2 v2 : Nat → Int} {row way way2 : Nat → Nat} {least least2 : Nat → Int} {cl : Nat → Bool} {rk : Nat → Nat}
end
end Go.K

/- Choices of edges between two sides: prices that prove them best, beginnings that can go on, columns for rows that need one. Plain Lean. -/
set_option linter.unusedVariables false
set_option linter.unusedSimpArgs false
namespace Go.K
/-! ### Sums -/
/-! ### Choices -/
section
variable {N M : Nat} {wt : Nat → Nat → Int} {U V : Nat → Int} {f : Nat → Nat}
end
/-! ### From the search to prices -/
end Go.K

/- Beginnings of choices that can go on; columns for rows that need one. Plain Lean. -/
set_option linter.unusedVariables false
set_option linter.unusedSimpArgs false
namespace Go.K
/-! ### Both sides at once -/
/-! ### A beginning goes on -/
/-! ### Columns for rows, one after the other -/
end Go.K

/- What the loops of package tight keep. Plain Lean, and what reads as an edge. -/
set_option linter.unusedVariables false
set_option linter.unusedSimpArgs false
namespace Go.K
open Rep
section
variable {P : Program} {N : Nat} {env : Env} {w : World} {x y : Operand} {t u : TypeId} {m n : Int}
end
section
variable {c : Nat → Nat → Int} {u v : Nat → Int} {cl : Nat → Bool} {least least' least2 : Nat → Int} {way way' way2 : Nat → Nat} {i a k j : Nat} {l1 : Nat → Int} {far delta : Int} {next : Nat}
variable {row : Nat → Nat} {u' v' u2 v2 l l' l2 : Nat → Int}
end
/-! ### Edges -/
structure Edge where
  a : Int
  b : Int
  w : Int
  deriving DecidableEq
instance : Rep Edge := Rep.via (fun x : Edge => (x.a, (x.b, x.w)))
instance : Inhabited Edge := ⟨⟨0, 0, 0⟩⟩
section
variable {w : World} {M : Nat → Prop} {b o : Nat} {v : Value}
end
end Go.K

/- A region in which several operations make something new, in whatever order. -/
set_option linter.unusedVariables false
set_option linter.unusedSimpArgs false
namespace Go.K
open Rep
def PreE (P : Program) (N : Nat) (ops : Array Oper) : List Nat → Env → (Env → Prop) → Prop
  | [], env, K => K env
  | i :: A, env, K => ∃ t op v, opAt ops i = some (some t, op, none) ∧ Nat.blt t N = true ∧ (∀ w, Val P N env op w v) ∧ PreE P N ops A ((t, v) :: env) K
def allSet (l : Array Bool) : List Nat → Array Bool
  | [] => l
  | i :: is => allSet (l.setIfInBounds i true) is
def chkA (ops : Array Oper) : Nat → Array Bool → List Nat → Bool
  | _, _, [] => true
  | 0, _, _ :: _ => false
  | n + 1, listed, j :: A => Region.free .any ops listed j && (Region.ready .any ops listed).contains j && !Nat.beq j ops.size && chkA ops n (listed.setIfInBounds j true) A
section
variable {P : Program} {ops : Array Oper} {Q : Exit → Act → World → Prop}
theorem any_pre {N : Nat} (hs : Region.noSelect ops = true) (hQ : ∀ c a d v w, Q (.panic c) (Act.put a d v) w → Q (.panic c) a w) {K : Env → Prop} {w : World} :
    ∀ (A : List Nat) (n : Nat) (listed : Array Bool) (env : Env) (a : Act), chkA ops n listed A = true → Closed ops listed → PreE P N ops A env K → St N env a →
      (∀ (env' : Env) (a' : Act), K env' → St N env' a' → Closed ops (allSet listed A) → wpAnyB P ops Q (fun _ => True) ops.size (n - A.length) (allSet listed A) a' w) → wpAnyB P ops Q (fun _ => True) ops.size n listed a w
  | [], n, listed, env, a, _, hcl, hp, ha, hend => hend env a hp ha hcl
  | j :: A, 0, listed, env, a, hc, _, _, _, _ => by cases hc
  | j :: A, n + 1, listed, env, a, hc, hcl, hp, ha, hend => by
    simp only [chkA, Bool.and_eq_true] at hc
    obtain ⟨⟨⟨h1, h2⟩, h3⟩, h4⟩ := hc
    obtain ⟨t, op, v, hop, ht, hv, hp⟩ := hp
    obtain ⟨o, ho, hd, rfl, hg⟩ := opAt_spec hop
    have hr : j ∈ Region.ready .any ops listed := by simpa using h2
    have hdk : dOk N o.dst = true := by rw [hd]; exact ht
    have hy : YieldsIf P ops (fun _ => True) o v a := .inl ⟨by unfold Region.wanted; rw [hg], fun w' _ => hv w' a ha o rfl⟩
    have hne : j ≠ ops.size := fun e => by subst e; simp at h3
    refine wpAnyB_first ho (Region.noSelect_spec hs) (fun c a w hq => hQ c a _ _ w hq) hne (fun l hc hj => ?_) n listed a w hcl (Region.free_spec ho h1) hr hy trivial ?_
    · rw [Array.getD_eq_getD_getElem?, Array.getElem?_eq_none (by rw [hc.1]; exact Nat.le_refl _)] at hj; cases hj
    · have hst := ha.put hdk v
      rw [hd] at hst ⊢
      exact any_pre hs hQ A n _ _ _ h4 (closed_set hcl hr) hp hst (fun env' a' k1 k2 k3 => by
        have := hend env' a' k1 k2 k3
        rw [List.length_cons, show n + 1 - (A.length + 1) = n - A.length from by omega] at this
        exact this)
theorem allSet_size : ∀ (is : List Nat) (l : Array Bool), (allSet l is).size = l.size
  | [], _ => rfl
  | i :: is, l => by rw [allSet, allSet_size is]; simp
theorem allSet_get {d : Bool} : ∀ (is : List Nat) (l : Array Bool) (j : Nat), j < l.size → (allSet l is).getD j d = if j ∈ is then true else l.getD j d
  | [], l, j, _ => by simp [allSet]
  | i :: is, l, j, hj => by
    rw [allSet, allSet_get is _ j (by simpa using hj)]
    by_cases e : j ∈ is
    · simp [e]
    · rw [if_neg e]
      by_cases e2 : j = i
      · subst e2
        rw [if_pos (by simp)]
        simp [Array.getD, hj]
      · rw [if_neg (by simp [e, e2]), getD_set_ne d (Ne.symm e2)]
end
end Go.K

/- Graphs of package tight: what reads as one, and what their weights and prices are. -/
set_option linter.unusedVariables false
set_option linter.unusedSimpArgs false
namespace Go.K
open Rep
structure Gr where
  n : Int
  m : Int
  U : List Int
  V : List Int
  tot : Int
  edge : List (List Bool)
instance : Rep Gr := Rep.via (fun x : Gr => (x.n, (x.m, (x.U, (x.V, (x.tot, x.edge))))))
section
variable {w w' w₀ : World} {M : Nat → Prop} {b o : Nat} {v : Value} {x : Gr}
end
/-! ### Padded weights -/
section
variable {n m : Nat} {wt : Nat → Nat → Int} {W : Int}
end
end Go.K

/- Arrays: an element's address. -/
set_option linter.unusedVariables false
set_option linter.unusedSimpArgs false
namespace Go.K
open Rep
section
variable {P : Program} {N : Nat} {env : Env} {y z : Operand} {t e : TypeId} {b o o' n len : Nat} {k : IntKind} {i : Int} {w : World}
theorem val_indexArr (hu : P.underlying t = some (.array len e)) (hn : szB P e = some n) (hy : ev env y = some (.pointer (some ⟨b, o, none⟩))) (hz : ev env z = some (.int k i))
    (h0 : 0 ≤ i) (h1 : i < len) (ho' : o' = o + i.toNat * n) : Val P N env (.indexAddr t y z) w (.pointer (some ⟨b, o', none⟩)) := mk' fun ρ hρ oo ho => by
  subst ho'
  unfold execOp; rw [ho]
  simp only [hρ _ _ hy, hρ _ _ hz]
  simp [go_sem, Instr.indexAt, run_underlying hu, asIntOf, run_sizeOfB hn, h0, h1, addr_add, Instr.sureAddr]
end
end Go.K

/- Drawn regions whose orders branch: a tree of orders. -/
set_option linter.unusedVariables false
set_option linter.unusedSimpArgs false
namespace Go.K
open Rep
inductive Tr where
  | run (L : List (Nat × Bool))
  | one (A : List Nat) (i : Nat) (t : Tr)
  | fork (A : List Nat) (i : Nat) (t : Tr) (i' : Nat) (t' : Tr)
  | fork3 (A : List Nat) (i : Nat) (t : Tr) (i' : Nat) (t' : Tr) (i2 : Nat) (t2 : Tr)
def QT (Q : Exit → Act → World → Prop) (K : Act → World → Prop) : Exit → Act → World → Prop
  | .normal, a, w => K a w
  | e, a, w => Q e a w
def GoT (P : Program) (ops : Array Oper) (S : World → Prop) (Q : Exit → Act → World → Prop) : Tr → Act → World → Prop
  | .run L, a, w => GoL P ops S Q L a w
  | .one A i t, a, w => GoL P ops S (QT Q fun a w => wpOp P ops Q i (fun a' w' => S w' ∧ GoT P ops S Q t a' w') a w) (A.map fun j => (j, true)) a w
  | .fork A i t i' t', a, w => GoL P ops S (QT Q fun a w => wpOp P ops Q i (fun a' w' => S w' ∧ GoT P ops S Q t a' w') a w ∧ wpOp P ops Q i' (fun a' w' => S w' ∧ GoT P ops S Q t' a' w') a w) (A.map fun j => (j, true)) a w
  | .fork3 A i t i' t' i2 t2, a, w => GoL P ops S (QT Q fun a w => wpOp P ops Q i (fun a' w' => S w' ∧ GoT P ops S Q t a' w') a w ∧ wpOp P ops Q i' (fun a' w' => S w' ∧ GoT P ops S Q t' a' w') a w ∧ wpOp P ops Q i2 (fun a' w' => S w' ∧ GoT P ops S Q t2 a' w') a w) (A.map fun j => (j, true)) a w
def chkY (ops : Array Oper) (jb : Nat) (k : Nat → Array Bool → Bool) : Nat → Array Bool → List Nat → Bool
  | n, listed, [] => k n listed
  | 0, _, _ :: _ => false
  | n + 1, listed, j :: A => !Nat.beq j jb && (Nat.ble ops.size jb || needs ops 8 jb j) && Region.free .any ops listed j && (Region.ready .any ops listed).contains j && chkY ops jb k n (listed.setIfInBounds j true) A
def chkT (ops : Array Oper) (jb : Nat) : Tr → Nat → Array Bool → Bool
  | .run L, n, listed => chkB ops jb n listed L
  | .one A i t, n, listed => chkY ops jb (fun n l => match n with | 0 => false | n + 1 => (Region.ready .any ops l == [i]) && chkT ops jb t n (l.setIfInBounds i true)) n listed A
  | .fork A i t i' t', n, listed => chkY ops jb (fun n l => match n with
    | 0 => false
    | n + 1 => ((Region.ready .any ops l == [i, i']) || (Region.ready .any ops l == [i', i])) && chkT ops jb t n (l.setIfInBounds i true) && chkT ops jb t' n (l.setIfInBounds i' true)) n listed A
  | .fork3 A i t i' t' i2 t2, n, listed => chkY ops jb (fun n l => match n with
    | 0 => false
    | n + 1 => (Region.ready .any ops l).all (fun j => Nat.beq j i || Nat.beq j i' || Nat.beq j i2) && (Region.ready .any ops l).contains i && (Region.ready .any ops l).contains i' && (Region.ready .any ops l).contains i2 && chkT ops jb t n (l.setIfInBounds i true) && chkT ops jb t' n (l.setIfInBounds i' true) && chkT ops jb t2 n (l.setIfInBounds i2 true)) n listed A
section
variable {P : Program} {ops : Array Oper} {S : World → Prop} {Q : Exit → Act → World → Prop}
theorem gol_yes (hs : Region.noSelect ops = true) (hQ : ∀ c a d v w, Q (.panic c) (Act.put a d v) w → Q (.panic c) a w) {jb : Nat} {k : Nat → Array Bool → Bool} {K : Act → World → Prop}
    (hk : ∀ n listed a w, k n listed = true → Closed ops listed → S w → K a w → wpAnyB P ops Q S jb n listed a w) :
    ∀ (n : Nat) (listed : Array Bool) (A : List Nat) (a : Act) (w : World), chkY ops jb k n listed A = true → Closed ops listed → S w →
      GoL P ops S (QT Q K) (A.map fun j => (j, true)) a w → wpAnyB P ops Q S jb n listed a w
  | n, listed, [], a, w, hc, hcl, hS, h => by
    unfold chkY at hc
    exact hk n listed a w hc hcl hS h
  | 0, listed, _ :: _, a, w, hc, _, _, _ => by simp [chkY] at hc
  | n + 1, listed, j :: A, a, w, hc, hcl, hS, h => by
    simp only [chkY, Bool.and_eq_true] at hc
    obtain ⟨⟨⟨⟨h1, h2⟩, h3⟩, h4⟩, h5⟩ := hc
    obtain ⟨o, v, hi, hy, h⟩ := h
    have hr : j ∈ Region.ready .any ops listed := by simpa using h4
    exact wpAnyB_first hi (Region.noSelect_spec hs) (fun c a w hq => hQ c a _ _ w hq) (fun e => by subst e; simp at h1) (hneed_of h2) n listed a w hcl (Region.free_spec hi h3) hr hy hS (gol_yes hs hQ hk n _ A _ w h5 (closed_set hcl hr) hS h)
theorem gol_tree (hs : Region.noSelect ops = true) (hQ : ∀ c a d v w, Q (.panic c) (Act.put a d v) w → Q (.panic c) a w) {jb : Nat} :
    ∀ (t : Tr) (n : Nat) (listed : Array Bool) (a : Act) (w : World), chkT ops jb t n listed = true → Closed ops listed → S w → GoT P ops S Q t a w → wpAnyB P ops Q S jb n listed a w
  | .run L, n, listed, a, w, hc, hcl, hS, h => gol_drawn hs hQ n listed L a w hc hcl (fun _ => hS) h
  | .one A i t, n, listed, a, w, hc, hcl, hS, h => by
    refine gol_yes hs hQ (fun n listed a w hk hcl hS h => ?_) n listed A a w hc hcl hS h
    cases n with
    | zero => cases hk
    | succ n =>
      simp only [Bool.and_eq_true, beq_iff_eq] at hk
      obtain ⟨h0, h1⟩ := hk
      have hr : i ∈ Region.ready .any ops listed := by rw [h0]; simp
      refine ⟨fun h0' => (by rw [h0'] at h0; cases h0), fun j hj => ?_⟩
      rw [h0, List.mem_singleton] at hj
      subst hj
      exact wpOp_mono (fun a' w' g => ⟨fun _ => g.1, gol_tree hs hQ t n _ a' w' h1 (closed_set hcl hr) g.1 g.2⟩) h
  | .fork A i t i' t', n, listed, a, w, hc, hcl, hS, h => by
    refine gol_yes hs hQ (fun n listed a w hk hcl hS h => ?_) n listed A a w hc hcl hS h
    cases n with
    | zero => cases hk
    | succ n =>
      simp only [Bool.and_eq_true, Bool.or_eq_true, beq_iff_eq] at hk
      obtain ⟨⟨h0, h1⟩, h2⟩ := hk
      have hm : ∀ j, j ∈ Region.ready .any ops listed ↔ j = i ∨ j = i' := fun j => by
        rcases h0 with e | e <;> rw [e] <;> simp [or_comm]
      have hr : i ∈ Region.ready .any ops listed := (hm i).2 (.inl rfl)
      have hr' : i' ∈ Region.ready .any ops listed := (hm i').2 (.inr rfl)
      refine ⟨fun h0' => (by rw [h0'] at hr; cases hr), fun j hj => ?_⟩
      rcases (hm j).1 hj with rfl | rfl
      · exact wpOp_mono (fun a' w' g => ⟨fun _ => g.1, gol_tree hs hQ t n _ a' w' h1 (closed_set hcl hr) g.1 g.2⟩) h.1
      · exact wpOp_mono (fun a' w' g => ⟨fun _ => g.1, gol_tree hs hQ t' n _ a' w' h2 (closed_set hcl hr') g.1 g.2⟩) h.2
  | .fork3 A i t i' t' i2 t2, n, listed, a, w, hc, hcl, hS, h => by
    refine gol_yes hs hQ (fun n listed a w hk hcl hS h => ?_) n listed A a w hc hcl hS h
    cases n with
    | zero => cases hk
    | succ n =>
      simp only [Bool.and_eq_true] at hk
      obtain ⟨⟨⟨⟨⟨⟨h0, r1⟩, r2⟩, r3⟩, h1⟩, h2⟩, h3⟩ := hk
      have hr : i ∈ Region.ready .any ops listed := by simpa using r1
      have hr' : i' ∈ Region.ready .any ops listed := by simpa using r2
      have hr2 : i2 ∈ Region.ready .any ops listed := by simpa using r3
      refine ⟨fun h0' => (by rw [h0'] at hr; cases hr), fun j hj => ?_⟩
      have hj2 := List.all_eq_true.1 h0 j hj
      simp only [Bool.or_eq_true] at hj2
      rcases hj2 with (e | e) | e <;> have e := Nat.eq_of_beq_eq_true e <;> subst e
      · exact wpOp_mono (fun a' w' g => ⟨fun _ => g.1, gol_tree hs hQ t n _ a' w' h1 (closed_set hcl hr) g.1 g.2⟩) h.1
      · exact wpOp_mono (fun a' w' g => ⟨fun _ => g.1, gol_tree hs hQ t' n _ a' w' h2 (closed_set hcl hr') g.1 g.2⟩) h.2.1
      · exact wpOp_mono (fun a' w' g => ⟨fun _ => g.1, gol_tree hs hQ t2 n _ a' w' h3 (closed_set hcl hr2) g.1 g.2⟩) h.2.2
theorem lets_QT {K : Act → World → Prop} (h : LetsOut (QT Q K)) : LetsOut Q := h
theorem wpOp_QT {i : Nat} {a : Act} {w : World} {K X : Act → World → Prop} (h : wpOp P ops (QT Q K) i X a w) : wpOp P ops Q i X a w := by
  unfold wpOp at *
  cases ho : ops[i]? with
  | none => rw [ho] at h; exact h
  | some o =>
    rw [ho] at h
    simp only at h ⊢
    split at h
    · rename_i hw
      rw [if_pos hw]
      refine h.imp (fun h => ?_) (fun h => ⟨h.1, lets_QT h.2⟩)
      unfold Oper.wp at *
      generalize (execOp a.eval o).run P w = r at *
      cases r with
      | ok n w' =>
        cases n <;> simp only [Oper.upon] at h ⊢ <;> first | exact h | exact Calls.mono h (fun e w'' he => by cases e <;> first | exact he | exact lets_QT he)
      | halt x w' => cases x <;> simp only [Oper.upon] at h ⊢ <;> exact h
    · rename_i hw; rw [if_neg hw]; exact h
end
def SchT (P : Program) (N : Nat) (Q : Exit → Act → World → Prop) (ops : Array Oper) (S : World → Prop) (t : Tr) (env : Env) (w : World) : Prop := ∀ a, St N env a → GoT P ops S Q t a w
section
variable {P : Program} {N : Nat} {Q : Exit → Act → World → Prop} {ops : Array Oper} {S S' : World → Prop} {A : List Nat} {i i' i2 : Nat} {t t' t2 : Tr} {L : List (Nat × Bool)} {env : Env} {w : World}
theorem tr_run (h : SchQ P N Q ops S L env w) : SchT P N Q ops S (.run L) env w := h
theorem tr_fork (h : SchQ P N (QT Q fun a w => wpOp P ops Q i (fun a' w' => S w' ∧ GoT P ops S Q t a' w') a w ∧ wpOp P ops Q i' (fun a' w' => S w' ∧ GoT P ops S Q t' a' w') a w) ops S (A.map fun j => (j, true)) env w) : SchT P N Q ops S (.fork A i t i' t') env w := h
theorem tr_do2 (h : SchQ P N (QT Q fun a w => S w ∧ GoT P ops S Q t a w) ops S [(i, false)] env w) (h' : SchQ P N (QT Q fun a w => S w ∧ GoT P ops S Q t' a w) ops S [(i', false)] env w) :
    SchQ P N (QT Q fun a w => wpOp P ops Q i (fun a' w' => S w' ∧ GoT P ops S Q t a' w') a w ∧ wpOp P ops Q i' (fun a' w' => S w' ∧ GoT P ops S Q t' a' w') a w) ops S [] env w := fun a ha => by
  show wpOp P ops Q i (fun a' w' => S w' ∧ GoT P ops S Q t a' w') a w ∧ wpOp P ops Q i' (fun a' w' => S w' ∧ GoT P ops S Q t' a' w') a w
  exact ⟨wpOp_mono (fun a' w' g => g.2) (wpOp_QT (h a ha)), wpOp_mono (fun a' w' g => g.2) (wpOp_QT (h' a ha))⟩
theorem tr_next (hS : S w) (h : SchT P N Q ops S t env w) : SchQ P N (QT Q fun a w => S w ∧ GoT P ops S Q t a w) ops S' [] env w := fun a ha => ⟨hS, h a ha⟩
variable {f : FuncId} {k : List Item} {R : Value → World → Prop}
theorem run_tree {c : Code} {id : Nat} (I : List Nat) (C : Nat → Nat) (jb : Nat) (t : Tr) (hm : P.follows .mixedOrders = true) (hc : c = .region id ops true)
    (hn : Region.noSelect ops = true) (hk : chkT ops jb t ops.size (Array.replicate ops.size false) = true)
    (h : ∀ w₁, Stp [] w C w₁ C → SchT P N (QK P f k R) ops (fun w' => Ext (fun b => C b ∈ I) w₁ w') t env w₁) : Run P f N (.code c :: k) env w R := fun a ha => by
  subst hc
  exact runs_of_wp (wp_region_any hm (wpAny_of_bar _ _ _ _ (gol_tree hn (fun c a d v w h => h.elim) t _ _ a _ hk (closed_none ops) (Ext.refl _ _) (h _ (Stp.drew [] w C) a ha))))
end
end Go.K

/- Drawn regions with a bar: an operation that waits for all that comes before it in the order; behind it nothing is asked for any more. -/
set_option linter.unusedVariables false
set_option linter.unusedSimpArgs false
namespace Go.K
open Rep
def chkR (ops : Array Oper) (jb : Nat) (L2 : List (Nat × Bool)) : Nat → Array Bool → List (Nat × Bool) → Bool
  | 0, _, [] => false
  | n + 1, listed, [] => (Region.ready .any ops listed == [jb]) && (listed.setIfInBounds jb true).getD jb false && chkB ops (barOf ops.size L2) n (listed.setIfInBounds jb true) L2
  | 0, _, _ :: _ => false
  | n + 1, listed, (i, true) :: L => !Nat.beq i jb && needs ops 8 jb i && Region.free .any ops listed i && (Region.ready .any ops listed).contains i && chkR ops jb L2 n (listed.setIfInBounds i true) L
  | n + 1, listed, (i, false) :: L => (Region.ready .any ops listed == [i]) && !Nat.beq i jb && chkR ops jb L2 n (listed.setIfInBounds i true) L
section
variable {P : Program} {ops : Array Oper} {S : World → Prop} {Q : Exit → Act → World → Prop}
theorem bar_any {jb : Nat} : ∀ (fuel : Nat) (listed : Array Bool) (a : Act) (w : World), listed.getD jb false = true → wpAny P .any ops Q fuel listed a w → wpAnyB P ops Q S jb fuel listed a w
  | 0, listed, a, w, _, h => h
  | fuel + 1, listed, a, w, hj, h => ⟨h.1, fun i hi => wpOp_mono (fun a' w' h' => ⟨fun e => (by rw [getD_set_true hj] at e; cases e), bar_any fuel _ a' w' (getD_set_true hj) h'⟩) (h.2 i hi)⟩
theorem gol_bar (hs : Region.noSelect ops = true) (hQ : ∀ c a d v w, Q (.panic c) (Act.put a d v) w → Q (.panic c) a w) {jb : Nat} {L2 : List (Nat × Bool)} :
    ∀ (n : Nat) (listed : Array Bool) (L : List (Nat × Bool)) (a : Act) (w : World), chkR ops jb L2 n listed L = true → Closed ops listed → S w →
      GoL P ops S (QT Q fun a w => S w ∧ wpOp P ops Q jb (fun a' w' => GoL P ops (fun _ => True) Q L2 a' w') a w) L a w → wpAnyB P ops Q S jb n listed a w
  | 0, _, [], a, w, hc, _, _, _ => by cases hc
  | 0, _, _ :: _, a, w, hc, _, _, _ => by cases hc
  | n + 1, listed, [], a, w, hc, hcl, hS, h => by
    simp only [chkR, Bool.and_eq_true, beq_iff_eq] at hc
    obtain ⟨⟨h1, h2⟩, h3⟩ := hc
    have h : S w ∧ wpOp P ops Q jb (fun a' w' => GoL P ops (fun _ => True) Q L2 a' w') a w := h
    have hr : jb ∈ Region.ready .any ops listed := by rw [h1]; simp
    refine ⟨fun h0 => (by rw [h0] at h1; cases h1), fun j hj => ?_⟩
    rw [h1, List.mem_singleton] at hj
    subst hj
    exact wpOp_mono (fun a' w' h' => ⟨fun e => (by rw [h2] at e; cases e), bar_any n _ a' w' h2 (wpAny_of_bar _ _ _ _ (gol_drawn hs hQ n _ L2 a' w' h3 (closed_set hcl hr) (fun _ => trivial) h'))⟩) h.2
  | n + 1, listed, (i, true) :: L, a, w, hc, hcl, hS, h => by
    simp only [chkR, Bool.and_eq_true] at hc
    obtain ⟨⟨⟨⟨h1, h2⟩, h3⟩, h4⟩, h5⟩ := hc
    obtain ⟨o, v, hi, hy, h⟩ := h
    have hr : i ∈ Region.ready .any ops listed := by simpa using h4
    exact wpAnyB_first hi (Region.noSelect_spec hs) (fun c a w hq => hQ c a _ _ w hq) (fun e => by subst e; simp at h1) (hneed_of (by rw [h2, Bool.or_true])) n listed a w hcl (Region.free_spec hi h3) hr hy hS (gol_bar hs hQ n _ L _ w h5 (closed_set hcl hr) hS h)
  | n + 1, listed, (i, false) :: L, a, w, hc, hcl, hS, h => by
    simp only [chkR, Bool.and_eq_true, beq_iff_eq] at hc
    obtain ⟨⟨h1, h2⟩, h3⟩ := hc
    have hr : i ∈ Region.ready .any ops listed := by rw [h1]; simp
    have h := wpOp_QT (h : wpOp P ops (QT Q fun a w => S w ∧ wpOp P ops Q jb (fun a' w' => GoL P ops (fun _ => True) Q L2 a' w') a w) i (fun a' w' => (stab L = true → S w') ∧ GoL P ops S (QT Q fun a w => S w ∧ wpOp P ops Q jb (fun a' w' => GoL P ops (fun _ => True) Q L2 a' w') a w) L a' w') a w)
    refine ⟨fun h0 => (by rw [h0] at h1; cases h1), fun j hj => ?_⟩
    rw [h1, List.mem_singleton] at hj
    subst hj
    refine wpOp_mono (fun a' w' h' => ?_) h
    have hS' : S w' := by
      cases L with
      | nil => have : S w' ∧ wpOp P ops Q jb (fun a' w' => GoL P ops (fun _ => True) Q L2 a' w') a' w' := h'.2; exact this.1
      | cons x L => exact h'.1 rfl
    exact ⟨fun _ => hS', gol_bar hs hQ n _ L a' w' h3 (closed_set hcl hr) hS' h'.2⟩
end
section
variable {P : Program} {N : Nat} {Q : Exit → Act → World → Prop} {ops : Array Oper} {S S' : World → Prop} {jb : Nat} {L2 : List (Nat × Bool)} {env : Env} {w : World}
theorem bar_do (hS : S w) (h : SchQ P N (QT Q fun a w => GoL P ops (fun _ => True) Q L2 a w) ops (fun _ => True) [(jb, false)] env w) :
    SchQ P N (QT Q fun a w => S w ∧ wpOp P ops Q jb (fun a' w' => GoL P ops (fun _ => True) Q L2 a' w') a w) ops S [] env w := fun a ha => by
  show S w ∧ wpOp P ops Q jb (fun a' w' => GoL P ops (fun _ => True) Q L2 a' w') a w
  exact ⟨hS, wpOp_mono (fun a' w' g => g.2) (wpOp_QT (h a ha))⟩
theorem bar_next (h : SchQ P N Q ops (fun _ => True) L2 env w) : SchQ P N (QT Q fun a w => GoL P ops (fun _ => True) Q L2 a w) ops (fun _ => True) [] env w := fun a ha => h a ha
variable {f : FuncId} {k : List Item} {R : Value → World → Prop}
theorem run_bar {c : Code} {id : Nat} (I : List Nat) (C : Nat → Nat) (jb : Nat) (L L2 : List (Nat × Bool)) (hm : P.follows .mixedOrders = true) (hc : c = .region id ops true)
    (hn : Region.noSelect ops = true) (hk : chkR ops jb L2 ops.size (Array.replicate ops.size false) L = true)
    (h : ∀ w₁, Stp [] w C w₁ C → SchQ P N (QT (QK P f k R) fun a w => Ext (fun b => C b ∈ I) w₁ w ∧ wpOp P ops (QK P f k R) jb (fun a' w' => GoL P ops (fun _ => True) (QK P f k R) L2 a' w') a w) ops (fun w' => Ext (fun b => C b ∈ I) w₁ w') L env w₁) : Run P f N (.code c :: k) env w R := fun a ha => by
  subst hc
  exact runs_of_wp (wp_region_any hm (wpAny_of_bar _ _ _ _ (gol_bar hn (fun c a d v w h => h.elim) _ _ L a _ hk (closed_none ops) (Ext.refl _ _) (h _ (Stp.drew [] w C) a ha))))
end
end Go.K

/- Reviews: what reads as weights, records, reviews; the plain law of scores. -/
set_option linter.unusedVariables false
set_option linter.unusedSimpArgs false
namespace Go.K
open Rep
structure Wt where
  pr : Int
  ag : List Int
  df : List Int
instance : Rep Wt := Rep.via (fun x : Wt => (x.pr, (x.ag, x.df)))
section
variable {P : Program} {N : Nat} {env : Env} {y z : Operand} {t e : TypeId} {b o o' n len : Nat} {k : IntKind} {i : Int} {w : World} {v : Value} {M : Nat → Prop}
end
/-! ### Scores -/
def fitW (x : Int) : Prop := -65536 ≤ x ∧ x ≤ 65536
instance (x : Int) : Decidable (fitW x) := by unfold fitW; infer_instance
section
variable {P : Program} {f : FuncId} {N : Nat} {k : List Item} {env : Env} {w : World} {R : Value → World → Prop}
end
/-! ### What is dealt -/
end Go.K

/- Insertion sort of lists, and what stable sorting yields. Plain. -/
set_option linter.unusedVariables false
set_option linter.unusedSimpArgs false
namespace Go.K
open Rep
section
variable {α : Type} {ys zs : List α} {σ : Nat → Nat} {a b i j : Nat} {c : α → α → Int} {P : α → Prop}
end
section
variable {P : Program} {N : Nat} {env : Env} {y z : Operand} {t : TypeId} {k : IntKind} {n : Nat} {s : ByteArray} {b : UInt8} {w : World}
end
def isCk (c : Code) (b : Bool) : Bool := match c with | .cond (.const (.bool b')) _ _ => b == b' | _ => false
theorem isCk_eq {c : Code} {b : Bool} (h : isCk c b = true) : c = .cond (.const (.bool b)) (cl c) (cr c) := by
  unfold isCk at h
  split at h
  · rw [beq_iff_eq] at h; subst h; rfl
  · cases h
section
variable {P : Program} {f : FuncId} {N : Nat} {k : List Item} {env : Env} {w : World} {R : Value → World → Prop}
theorem run_ckF {c : Code} (hc : isCk c false = true) (h : Run P f N (.code (cr c) :: k) env w R) : Run P f N (.code c :: k) env w R :=
  run_cond (isCk_eq hc) rfl (fun h => by cases h) (fun _ => h)
end
/-! ### The list that stable sorting yields -/
section
variable {α : Type} {ys zs us : List α} {σ τ : Nat → Nat} {c : α → α → Int} {P : α → Prop}
end
/-! ### Gains -/
end Go.K

/- The fields that decide: plain. -/
set_option linter.unusedVariables false
set_option linter.unusedSimpArgs false
namespace Go.K
open Rep
section
variable {α : Type} {ys zs : List α} {c : α → α → Int}
end
end Go.K

/- What was shown, decisions, reviews: what reads as such, and what is valid. -/
set_option linter.unusedVariables false
set_option linter.unusedSimpArgs false
namespace Go.K
open Rep
structure Shw where
  r : Couple
  ver : Int
  fld : Int
  ch : Int
  deriving DecidableEq
instance : Rep Shw := Rep.via (fun x : Shw => (x.r, (x.ver, (x.fld, x.ch))))
instance : Inhabited Shw := ⟨⟨⟨0, 0⟩, 0, 0, 0⟩⟩
structure Dcs where
  A : Couple
  B : Couple
  va : Int
  vb : Int
  same : Bool
  deriving DecidableEq
instance : Rep Dcs := Rep.via (fun x : Dcs => (x.A, (x.B, (x.va, (x.vb, x.same)))))
instance : Inhabited Dcs := ⟨⟨⟨0, 0⟩, ⟨0, 0⟩, 0, 0, false⟩⟩
section
variable {w : World} {M : Nat → Prop} {b o : Nat} {v : Value}
end
end Go.K

/- append(s[:len(s):len(s)], list...): a list that others read is never written; the colours inside a function that may write what bears the colours 3 to 6. -/
set_option linter.unusedVariables false
set_option linter.unusedSimpArgs false
namespace Go.K
open Rep
section
variable {α : Type} [Rep α] {P : Program} {N : Nat} {env : Env} {w : World} {M : Nat → Prop} {t e e' : TypeId} {v s : Value} {x y z q : Operand} {xs ys zs : List α}
theorem cells_of {zs : List α} {sb so : Nat} {scs : Array Value} {sty : TypeId} {sfz : Nat × Nat} (hsc : w.heap[sb]? = some (.cells scs sty sfz)) (hsl : so + zs.length * sz α ≤ scs.size)
    (hsr : ∀ k (hk : k < zs.length), rep w.heap M zs[k] (cellsAt scs (so + k * sz α) (sz α))) :
    ∃ news : List Value, news.length = zs.length * sz α ∧ (∀ j v, news[j]? = some v → w.cell? ((⟨sb, so, none⟩ : Addr).add j) = some v) ∧ ∀ k (hk : k < zs.length), rep w.heap M zs[k] (cellsAt news.toArray (k * sz α) (sz α)) := by
  obtain ⟨news, hnews_def⟩ : ∃ news, news = cellsAt scs so (zs.length * sz α) := ⟨_, rfl⟩
  have hnl : news.length = zs.length * sz α := by
    rw [hnews_def]; simp only [cellsAt, List.length_take, List.length_drop, Array.length_toList]; omega
  have hget : ∀ j, j < zs.length * sz α → news[j]? = scs[so + j]? := fun j hj => by
    rw [hnews_def]; simp only [cellsAt, List.getElem?_take, if_pos hj, List.getElem?_drop]; simp
  refine ⟨news, hnl, fun j v hv => ?_, fun k hk => ?_⟩
  · have hj : j < zs.length * sz α := by rw [← hnl]; exact (List.getElem?_eq_some_iff.1 hv).1
    rw [addr_add, cell_of_row w sb (so + j) scs sty sfz hsc, ← hget j hj, hv]
  · have := hsr k hk
    rwa [show cellsAt scs (so + k * sz α) (sz α) = cellsAt news.toArray (k * sz α) (sz α) from cellsAt_ext (fun j hj => by
      have hb : k * sz α + j < zs.length * sz α := by
        have := Nat.mul_le_mul_right (sz α) (show k + 1 ≤ zs.length from hk); rw [Nat.succ_mul] at this; omega
      rw [show ∀ m, news.toArray[m]? = news[m]? from fun m => by simp, hget _ hb, Nat.add_assoc])] at this
theorem acts_appendR {bytes : Nat} {a : Option Addr} (hx : ev env x = some (.slice a ys.length ys.length)) (hy : ev env y = some s) (hrow : rowB P t e (sz α) bytes = true) (hsz : 0 < sz α)
    (hown : RV w M ys (.slice a ys.length ys.length)) (hsrc : RV w M zs s) (hz0 : zs ≠ []) (hlen : (ys.length + zs.length) * bytes ≤ 140737488355328) (h63 : ys.length + zs.length ≤ 140737488355328) :
    Acts P N env (.call { callee := .builtin .append, args := #[x, y], argTypes := #[t, t] }) w (fun v' w' =>
      OwnS w' (fun b => Ob v' b ∨ M b) e v' (ys ++ zs) ∧ Ext (fun _ => False) w w' ∧ (∀ b, Ob v' b → w.heap.size ≤ b)) := acts' fun ρ hρ oo hoo => by
  obtain ⟨i, z, hu, hi, rfl0, hby, hz, hzs⟩ := rowB_spec hrow
  obtain ⟨a2, c, rfl, hcap, hl0, hseg⟩ := rv_list.1 hsrc
  have key : ∃ v' w', (Builtin.append_ #[t, t] oo.type #[.slice a ys.length ys.length, .slice a2 zs.length c]).run P w = .ok v' w' ∧
      OwnS w' (fun b => Ob v' b ∨ M b) e v' (ys ++ zs) ∧ Ext (fun _ => False) w w' ∧ (∀ b, Ob v' b → w.heap.size ≤ b) := by
    rcases hseg with h | ⟨sb, so, rfl, hsb, scs, sty, sfz, hsc, hsl, hsr⟩
    · exact absurd h hz0
    · have hm0 : 0 < zs.length := List.length_pos_iff.2 hz0
      obtain ⟨news, hnl, hnews, hrepn⟩ := cells_of (w := w) (M := M) hsc hsl hsr
      have hnl' : news.length = zs.length * i.size := by rw [hnl, rfl0]
      have fresh : ∀ (olds : List Value) (cap : Nat) (o : Obj), olds.length = ys.length * sz α → (∀ k (hk : k < ys.length), rep w.heap M ys[k] (cellsAt olds.toArray (k * sz α) (sz α))) →
          o = .cells (olds.toArray ++ news.toArray ++ Builtin.zeroCells z.cells (cap - (ys.length + zs.length))) e (0, 0) → ys.length + zs.length ≤ cap →
          OwnS (w.drew.alloc o) (fun b => Ob (.slice (some ⟨w.heap.size, 0, none⟩) (ys.length + zs.length) cap) b ∨ M b) e (.slice (some ⟨w.heap.size, 0, none⟩) (ys.length + zs.length) cap) (ys ++ zs) := by
        intro olds cap o holds hrepo ho hcap'
        subst ho
        have hnew := new_alloc_drew w (.cells (olds.toArray ++ news.toArray ++ Builtin.zeroCells z.cells (cap - (ys.length + zs.length))) e (0, 0))
        refine .inr ⟨w.heap.size, cap, _, by rw [List.length_append], .inl rfl, hnew.at_, by rw [List.length_append]; exact hcap', ?_, ?_⟩
        · simp only [Array.size_append, List.size_toArray, size_zeroCells, hzs, holds, hnl, ← Nat.add_mul]
          congr 1; omega
        · intro k hk
          rw [List.length_append] at hk
          have hkeep : ∀ (x : α) (vs : List Value), rep w.heap M x vs → rep (w.drew.alloc (.cells (olds.toArray ++ news.toArray ++ Builtin.zeroCells z.cells (cap - (ys.length + zs.length))) e (0, 0))).heap
              (fun b => Ob (.slice (some ⟨w.heap.size, 0, none⟩) (ys.length + zs.length) cap) b ∨ M b) x vs := fun x vs hr =>
            Rep.keep (Rep.sub hr (fun b hb h => h.elim (fun e => by simp only [Ob, Value.ownBlock, Option.some.injEq] at e; omega) id)) (fun b hb _ => hnew.ext.block b hb (fun h => h))
          by_cases hky : k < ys.length
          · rw [List.getElem_append_left hky]
            have := hrepo k hky
            rw [show cellsAt olds.toArray (k * sz α) (sz α) = cellsAt (olds.toArray ++ news.toArray ++ Builtin.zeroCells z.cells (cap - (ys.length + zs.length))) (k * sz α) (sz α) from cellsAt_ext (fun j hj => by
              have hb : k * sz α + j < ys.length * sz α := by
                have := Nat.mul_le_mul_right (sz α) (show k + 1 ≤ ys.length from hky); rw [Nat.succ_mul] at this; omega
              rw [Array.append_assoc, Array.getElem?_append_left (by simpa [holds] using hb)])] at this
            exact hkeep _ _ this
          · rw [List.getElem_append_right (by omega)]
            have hkz : k - ys.length < zs.length := by omega
            have := hrepn (k - ys.length) hkz
            rw [show cellsAt news.toArray ((k - ys.length) * sz α) (sz α) = cellsAt (olds.toArray ++ news.toArray ++ Builtin.zeroCells z.cells (cap - (ys.length + zs.length))) (k * sz α) (sz α) from cellsAt_ext (fun j hj => by
              have hb : (k - ys.length) * sz α + j < zs.length * sz α := by
                have := Nat.mul_le_mul_right (sz α) (show k - ys.length + 1 ≤ zs.length from hkz); rw [Nat.succ_mul] at this; omega
              have he : k * sz α = ys.length * sz α + (k - ys.length) * sz α := by rw [← Nat.add_mul]; congr 1; omega
              rw [Array.getElem?_append_left (by simp only [Array.size_append, List.size_toArray, holds, hnl]; omega), Array.getElem?_append_right (by simp only [List.size_toArray, holds]; omega)]
              congr 1
              simp only [List.size_toArray, holds]; omega)] at this
            exact hkeep _ _ this
      by_cases hys : ys = []
      · subst hys
        rcases a with _ | ab
        case' some =>
          have hr := run_append_grow (P := P) w t oo.type e i z hu hi hz ab 0 0 [] (by simp) (fun j v hv => by simp at hv) ⟨sb, so, none⟩ zs.length c news hnl' hnews (by omega) (by omega)
            (growslice_fits (by omega) (by rw [hby]; exact hlen))
          have hfr := fresh [] (grownCap w (0 + zs.length) 0 e) _ (by simp) (fun k hk => by simp at hk) rfl (grownCap_ge w _ _ e)
          refine ⟨_, _, hr, hfr, ?_, ?_⟩
          · exact (new_alloc_drew w _).ext.mono (fun b hb h => h.elim)
          · intro b hb; simp only [Ob, Value.ownBlock, Option.some.injEq] at hb; omega
        have hr := run_append_nil (P := P) w t oo.type e i z hu hi hz ⟨sb, so, none⟩ zs.length c news hnl' hnews hm0 (by omega)
          (by rw [hby]; simp only [List.length_nil, Nat.zero_add] at hlen; omega)
        have hfr := fresh [] (grownCap w zs.length 0 e) _ (by simp) (fun k hk => by simp at hk) rfl (by simpa using grownCap_ge w zs.length 0 e)
        simp only [List.length_nil, Nat.zero_add, List.nil_append] at hfr
        refine ⟨_, _, hr, ?_, ?_, ?_⟩
        · simpa using hfr
        · exact (new_alloc_drew w _).ext.mono (fun b hb h => h.elim)
        · intro b hb; simp only [Ob, Value.ownBlock, Option.some.injEq] at hb; omega
      · obtain ⟨a3, c3, he3, _, _, hseg3⟩ := rv_list.1 hown
        injection he3 with h1 h2 h3
        subst h1
        rcases hseg3 with h | ⟨ob, oo', ha3, hob, ocs, oty, ofz, hoc, hol, hor⟩
        · exact absurd h hys
        · subst ha3
          obtain ⟨olds, hll, holds, hrepo⟩ := cells_of (w := w) (M := M) hoc hol hor
          have hr := run_append_grow (P := P) w t oo.type e i z hu hi hz ⟨ob, oo', none⟩ ys.length ys.length olds (by rw [rfl0]; exact hll) holds ⟨sb, so, none⟩ zs.length c news hnl' hnews (by omega) (by omega)
            (growslice_fits (by omega) (by rw [hby]; exact hlen))
          have hfr := fresh _ (grownCap w (ys.length + zs.length) ys.length e) _ hll hrepo rfl (grownCap_ge w _ _ e)
          refine ⟨_, _, hr, hfr, ?_, ?_⟩
          · exact (new_alloc_drew w _).ext.mono (fun b hb h => h.elim)
          · intro b hb; simp only [Ob, Value.ownBlock, Option.some.injEq] at hb; omega
  obtain ⟨v', w', hrun, hpost⟩ := key
  refine ⟨v', w', .inl ?_, hpost⟩
  unfold execOp; rw [hoo]
  simp [hρ _ _ hx, hρ _ _ hy, resolve, invoke, builtin, hrun]
end
section
variable {α : Type} [Rep α] {P : Program} {N : Nat} {env : Env} {w w' : World} {C C' : Nat → Nat} {I : List Nat} {t e e' : TypeId} {v s : Value} {y z : Operand} {xs ys zs : List α} {j b n ty : Nat} {ob ob0 : Obj}
theorem a_appendR {bytes : Nat} {a : Option Addr} (hF : Lim w C) (hj : j ≠ 0) (hx : ev env y = some (.slice a ys.length ys.length)) (hy : ev env z = some s) (hrow : rowB P t e (sz α) bytes = true) (hsz : 0 < sz α)
    (hown : RV w (Mc C) ys (.slice a ys.length ys.length)) (hsrc : RV w (Mc C) zs s) (hz0 : zs ≠ []) (hlen : (ys.length + zs.length) * bytes ≤ 140737488355328) (h63 : ys.length + zs.length ≤ 140737488355328) :
    Acts P N env (.call { callee := .builtin .append, args := #[y, z], argTypes := #[t, t] }) w (fun v' w' => ∃ C', Stp [] w C w' C' ∧ OwnL w' C' j e v' (ys ++ zs) ∧ Lim w' C') := fun a' ha' oo hoo => by
  obtain ⟨v', w', h1, h2, h3, h4⟩ := acts_appendR (P := P) (N := N) hx hy hrow hsz hown hsrc hz0 hlen h63 a' ha' oo hoo
  have hcol : ∀ b, b < w.heap.size → setB C v' j b = C b := fun b hb => by
    unfold setB
    split
    · rename_i e; have := h4 b e; omega
    · rfl
  refine ⟨v', w', h1, setB C v' j, ⟨h3.mono (fun b _ hb => hb.elim), hcol⟩, ⟨h2.sub (fun b hb hc => ?_) (fun b hb => ?_), fun b hb => ?_⟩, fun b hb => ?_⟩
  · by_cases ho : Ob v' b
    · exact .inl ho
    · right
      unfold Mc setB at hc
      rw [if_neg (show ¬ v'.ownBlock = some b from ho)] at hc
      exact hc
  · unfold Mc setB; rw [if_pos (show v'.ownBlock = some b from hb)]; exact hj
  · unfold setB; rw [if_pos (show v'.ownBlock = some b from hb)]
  · by_cases ho : Ob v' b
    · exact (h2.ob b ho).2
    · unfold setB at hb
      rw [if_neg (show ¬ v'.ownBlock = some b from ho)] at hb
      exact Nat.lt_of_lt_of_le (hF b hb) h3.size
/-! ### The colours 3 to 6 are the caller's, and may be written -/
end
end Go.K
namespace Go.K
open Rep
section
variable {α : Type} [Rep α] {w : World} {C : Nat → Nat} {P : Program} {f : FuncId} {N : Nat} {k : List Item} {R : Value → World → Prop} {Q : Exit → Act → World → Prop} {env : Env} {ops : Array Oper} {S : World → Prop} {i t : Nat} {L : List (Nat × Bool)} {v : Value} {y z q : Operand} {gd : Option (Nat × Bool)} {ty e e' : TypeId} {xs : List α} {kd kd2 : IntKind}
end
end Go.K

/- What is missing of a record: plain. -/
set_option linter.unusedVariables false
set_option linter.unusedSimpArgs false
namespace Go.K
open Rep
end Go.K

/- Copies of lists that may be nil or empty. -/
set_option linter.unusedVariables false
set_option linter.unusedSimpArgs false
namespace Go.K
open Rep
section
variable {α : Type} [Rep α] {P : Program} {N : Nat} {env : Env} {w w' : World} {C C' : Nat → Nat} {t e u : TypeId} {v s : Value} {x y z : Operand} {a b : Addr} {l c n : Nat} {M : Nat → Prop}
theorem val_eqNilX (hx : ev env x = some (.slice (some b) l c)) (ht : P.underlying t = some (.slice e)) : Val P N env (.binOp .eql t x (.const (.slice none 0 0)) u) w (.bool false) := mk' fun ρ hρ o ho => by
  unfold execOp; rw [ho]
  have hc : ρ (.const (.slice none 0 0)) = .slice none 0 0 := hρ _ _ rfl
  have h1 : (Op.equalIn Op.maxDepth t (.slice (some b) l c) (.slice none 0 0)).run P w = .ok false w := by rw [show Op.maxDepth = 9999 + 1 from rfl, Op.equalIn]; simp [run_underlying ht]
  simp [hρ _ _ hx, hc, go_sem, eqGuard, binOp, Op.equal, h1]
theorem val_eqNilN (hx : ev env x = some (.slice none l c)) (ht : P.underlying t = some (.slice e)) : Val P N env (.binOp .eql t x (.const (.slice none 0 0)) u) w (.bool true) := mk' fun ρ hρ o ho => by
  unfold execOp; rw [ho]
  have hc : ρ (.const (.slice none 0 0)) = .slice none 0 0 := hρ _ _ rfl
  have h1 : (Op.equalIn Op.maxDepth t (.slice none l c) (.slice none 0 0)).run P w = .ok true w := by rw [show Op.maxDepth = 9999 + 1 from rfl, Op.equalIn]; simp [run_underlying ht]
  simp [hρ _ _ hx, hc, go_sem, eqGuard, binOp, Op.equal, h1]
theorem a_buildEmptyX {bytes : Nat} (hF : Lim w C) (hrow : rowB P t e n bytes = true) : Acts P N env (.buildSlice t 0 #[]) w (fun v w' => (∃ a, v = .slice (some a) 0 0) ∧ Stp [] w C w' C ∧ Lim w' C) := acts' fun ρ hρ oo hoo => by
  obtain ⟨i, z, hu, hi, hsi, hby, hz, hzs⟩ := rowB_spec hrow
  have hsz' : (sizeOf e).run P w = .ok n w := by simp [sizeOf, typeInfo, hi, hsi]
  have hnew := new_alloc w (.cells #[] e)
  have hrun : (Instr.buildSlice t 0 #[]).run P w = .ok (.slice (some ⟨w.heap.size, 0, none⟩) 0 0) (w.alloc (.cells #[] e)) := by
    unfold Instr.buildSlice
    simp [run_underlying hu, hsz', Instr.fill, newRow, show Array.range 0 = (#[] : Array Nat) from by simp [Array.range]]
  refine ⟨.slice (some ⟨w.heap.size, 0, none⟩) 0 0, w.alloc (.cells #[] e), .inl ?_, ⟨_, rfl⟩, hnew.st C, hF.st (hnew.st C)⟩
  unfold execOp; rw [hoo]
  simp only [Sem.run_bind]
  rw [show Array.map (fun x : Nat × Operand => (x.fst, ρ x.snd)) #[] = #[] from by simp, hrun]
  rfl
theorem a_appendE {bytes : Nat} (hx : ev env x = some (.slice (some a) 0 0)) (hy : ev env y = some s) (hrow : rowB P t e (sz α) bytes = true) (hsrc : RV w M ([] : List α) s) :
    Acts P N env (.call { callee := .builtin .append, args := #[x, y], argTypes := #[t, t] }) w (fun v' w' => v' = .slice (some a) 0 0 ∧ Stp [] w C w' C) := acts' fun ρ hρ oo hoo => by
  obtain ⟨i, z, hu, hi, rfl0, hby, hz, hzs⟩ := rowB_spec hrow
  obtain ⟨a2, c, rfl, hcap, hl0, hseg⟩ := rv_list.1 hsrc
  have hf : (Builtin.firstCells i.size 0 (.slice a2 0 c)).run P w = .ok #[] w := by cases a2 <;> simp [Builtin.firstCells, loadCells, loadCellsFrom]
  have hrun : (Builtin.append_ #[t, t] oo.type #[.slice (some a) 0 0, .slice a2 0 c]).run P w = .ok (.slice (some a) 0 0) w := by
    simp [Builtin.append_, run_underlying hu, sizeOf, typeInfo, hi, Builtin.lenOf, hf, storeCells]
  refine ⟨_, w, .inl ?_, rfl, Stp.refl _ _ _⟩
  unfold execOp; rw [hoo]
  simp [hρ _ _ hx, hρ _ _ hy, resolve, invoke, builtin, hrun]
theorem rv_empX {a : Addr} : RV w M ([] : List α) (.slice (some a) 0 0) := rv_list.2 ⟨_, 0, rfl, Nat.le_refl _, by simp, .inl rfl⟩
end
section
variable {α : Type} [Rep α] {P : Program} {N : Nat} {env : Env} {w : World} {C : Nat → Nat} {t ti e j n l c : Nat} {y z : Operand} {a : Addr}
theorem a_appendZ0 {bytes : Nat} (hF : Lim w C) (hj : j ≠ 0) (hy : ev env y = some (.slice none 0 0)) (hz : ev env z = some (.int .i64 n)) (hrow : rowB P t e (sz α) bytes = true) (hsz : 0 < sz α) (hby : bytes ≤ 100000)
    (hti : P.underlying ti = some (.int .i64)) (h0 : 0 < n) (hn : n ≤ 1000000) :
    Acts P N env (.call { callee := .builtin .append, args := #[y, z], argTypes := #[t, ti] }) w (fun v w' => ∃ C' g cap, v = .slice (some ⟨g, 0, none⟩) n cap ∧ Stp [] w C w' C' ∧ OwnL w' C' j e (.slice (some ⟨g, 0, none⟩) 0 cap) ([] : List α) ∧ Lim w' C') := acts' fun ρ hρ oo hoo => by
  obtain ⟨i, zv, hu, hi, hsi, hb, hzi, hzs⟩ := rowB_spec hrow
  have hr := Lib.run_append_nil_zeros (P := P) w t ti oo.type e i zv .i64 .i64 hu hti hi hzi n h0 (by rw [hsi]; exact hsz) (by omega) (by rw [hb]; have := Nat.mul_le_mul hn hby; omega)
  have hge := grownCap_ge w n 0 e
  obtain ⟨cap, hcap⟩ : ∃ cap, cap = grownCap w n 0 e := ⟨_, rfl⟩
  rw [← hcap] at hr hge
  have hnw := new_alloc_drew w (.cells (Builtin.zeroCells zv.cells n ++ Builtin.zeroCells zv.cells (cap - n)) e (0, 0))
  obtain ⟨C', h1, h2, h3⟩ := hnw.own hF j
  refine ⟨_, _, .inl ?_, C', _, cap, rfl, h1, ⟨.inr ⟨w.heap.size, cap, _, rfl, ?_, h2.at_, Nat.zero_le _, ?_, fun k hk => by simp at hk⟩, fun b hb => ?_⟩, h3⟩
  · unfold execOp; rw [hoo]
    simp [hρ _ _ hy, hρ _ _ hz, resolve, invoke, builtin, hr]
  · unfold Mc; rw [h2.col]; exact hj
  · rw [Array.size_append, size_zeroCells, size_zeroCells, hzs, ← Nat.add_mul]
    congr 1; omega
  · simp only [Ob, Value.ownBlock, Option.some.injEq] at hb
    subst hb; exact h2.col
theorem val_capX {b : Option Addr} (hx : ev env y = some (.slice b l c)) (ht : P.underlying t = some (.slice e)) :
    Val P N env (.call { callee := .builtin .cap, args := #[y], argTypes := #[t] }) w (.int .i64 c) := mk' fun ρ hρ o ho => by
  unfold execOp; rw [ho]; simp [hρ _ _ hx, go_sem, resolve, invoke, builtin, Builtin.cap_, run_underlying ht, goInt]
theorem val_slNil (hx : ev env y = some (.slice none 0 0)) (hz : ev env z = some (.int .i64 0)) (hu : P.underlying t = some (.slice e)) (hi : (P.info? e).isSome = true) : Val P N env (.slice t y none (some z) none) w (.slice none 0 0) := mk' fun ρ hρ o ho => by
  obtain ⟨i, hi⟩ := Option.isSome_iff_exists.1 hi
  unfold execOp; rw [ho]
  simp [hρ _ _ hx, hρ _ _ hz, Instr.sliceAt, Instr.slice, run_underlying hu, Instr.sliceBounds, Instr.sliceBound, asIntOf, sizeOf, typeInfo, hi]
theorem val_sl0 {g : Nat} (hx : ev env y = some (.slice (some ⟨g, 0, none⟩) l c)) (hz : ev env z = some (.int .i64 0)) (hu : P.underlying t = some (.slice e)) (hi : (P.info? e).isSome = true) : Val P N env (.slice t y none (some z) none) w (.slice (some ⟨g, 0, none⟩) 0 c) := mk' fun ρ hρ o ho => by
  obtain ⟨i, hi⟩ := Option.isSome_iff_exists.1 hi
  unfold execOp; rw [ho]
  simp [hρ _ _ hx, hρ _ _ hz, Instr.sliceAt, Instr.slice, run_underlying hu, Instr.sliceBounds, Instr.sliceBound, asIntOf, sizeOf, typeInfo, hi]
  exact fun _ => rfl
end
section
variable {α : Type}
theorem flat_takeA {ll : List (List α)} {k : Nat} (h : k < ll.length) : (ll.take (k + 1)).flatten = (ll.take k).flatten ++ ll[k] := by
  rw [List.take_succ_eq_append_getElem h, List.flatten_append]; simp
theorem flat_leA {ll : List (List α)} (k : Nat) : (ll.take k).flatten.length ≤ ll.flatten.length := by
  have : ll.flatten.length = (ll.take k).flatten.length + (ll.drop k).flatten.length := by rw [← List.length_append, ← List.flatten_append, List.take_append_drop]
  omega
end
end Go.K

/- What the search for partners keeps; cells that hold one value. Plain Lean. -/
set_option linter.unusedVariables false
set_option linter.unusedSimpArgs false
namespace Go.K
open Rep
section
variable {P : Program} {N : Nat} {env : Env} {w : World} {x : Operand} {t u : TypeId}
end
/-! ### Feasible -/
section
variable {n m k : Nat} {wt : Nat → Nat → Int} {U V : Nat → Int} {st : Nat → Int} {us : List Bool}
end
end Go.K

/- Edges: valid ones, and the graph of them. Plain Lean; arrays of two ints as keys. -/
set_option linter.unusedVariables false
set_option linter.unusedSimpArgs false
namespace Go.K
open Rep
/-! ### Arrays of two ints -/
section
variable {P : Program} {t ti : TypeId}
end
/-! ### Valid edges -/
abbrev Edge.k (x : Edge) : Couple := ⟨x.a, x.b⟩
section
variable {n m : Int} {l : List Edge}
/-! ### Their weights -/
end
end Go.K

/- The least of the best choices, row by row. Plain Lean. -/
set_option linter.unusedVariables false
set_option linter.unusedSimpArgs false
namespace Go.K
open Rep
/-! ### Row by row -/
section
variable {n m : Nat} {T : (Nat → Nat) → Prop} {st st' st0 st1 : Nat → Int} {i j : Nat}
end
/-! ### What 'Solve' answers -/
/-! ### Search in halves -/
section
variable {l : List Edge} {c : Couple} {i j : Nat}
end
/-! ### There is one -/
/-! ### Prices -/
end Go.K

/- Choices and prices that someone hands in. Plain Lean. -/
set_option linter.unusedVariables false
set_option linter.unusedSimpArgs false
namespace Go.K
open Rep
def okC (l : List Edge) (cs : List Couple) (k : Nat) : Prop := (∃ x ∈ l, x.k = cs[k]! ∧ 0 < x.w) ∧ (∀ q, q < k → cs[q]!.b ≠ cs[k]!.b) ∧ (0 < k → cs[k-1]!.a < cs[k]!.a)
open Classical in
noncomputable instance (l : List Edge) (cs : List Couple) (k : Nat) : Decidable (okC l cs k) := propDecidable _
section
variable {l : List Edge} {cs : List Couple} {k : Nat} {c : Couple}
end
/-! ### Prices that are handed in -/
end Go.K

/- append(nil, make([]int, n)...): what 'slices.Grow' does. -/
set_option linter.unusedVariables false
set_option linter.unusedSimpArgs false
namespace Go.K
open Rep
section
variable {P : Program} {N : Nat} {env : Env} {w : World} {C : Nat → Nat} {t ti e j n : Nat} {y z : Operand}
end
end Go.K
