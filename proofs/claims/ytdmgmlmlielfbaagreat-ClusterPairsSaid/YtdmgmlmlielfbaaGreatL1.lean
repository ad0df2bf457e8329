/- A calculus of steps over the model: a frame is known by a list of slots, code is walked with what is left to do as a list. -/
import Derived.WalkKit
import Derived.OrdersHeld
import Derived.KernelRfl
import Derived.Laws.MakeOwn
import Derived.WideKeyRuns
import Derived.MapKept
import Derived.Laws.StructEq
import Derived.ChangeKeysEq
import Derived.Shelf.SlSortCmp.NoneTotal
set_option linter.unusedVariables false
set_option linter.unusedSimpArgs false
set_option linter.unusedSectionVars false
namespace Go.K
def fr0 (f : FuncId) : Frame := { (default : Frame) with fn := f, kind := .normal }
def Ret (R : Value → World → Prop) : Ending → World → Prop := fun e w => ∃ v, e = .returned v ∧ R v w
theorem Ret.mono {R R' : Value → World → Prop} (h : ∀ v w, R v w → R' v w) (e : Ending) (w : World) (hr : Ret R e w) : Ret R' e w :=
  let ⟨v, he, hv⟩ := hr; ⟨v, he, h v w hv⟩
def Runs (P : Program) (f : FuncId) (k : List Item) (a : Act) (w : World) (R : Value → World → Prop) : Prop :=
  ∀ cs, ∃ v w' fr, R v w' ∧ Steps P (lone ((fr0 f).at a k) cs w) (lone fr cs w') ∧ fr.fn = f ∧ fr.leaving P w' (.returned v)
theorem calls_of_runs {P : Program} {f : FuncId} {fn : Func} {c : Code} {args : Array Value} {w : World} {R : Value → World → Prop}
    (hf : P.funcs[f]? = some fn) (hb : fn.body = some c)
    (h : Runs P f [.code c] { tmps := args ++ Array.replicate (fn.ntmps - args.size) undef, defers := [] } w R) : Calls P f args w (Ret R) := by
  intro cs
  have henter : Frame.enter P f args .normal = (fr0 f).at { tmps := args ++ Array.replicate (fn.ntmps - args.size) undef, defers := [] } [.code c] := by
    simp [Frame.enter, Frame.at, hf, hb, fr0]
  obtain ⟨v, w', fr, hR, hs, hfn, hl⟩ := h cs
  exact ⟨.returned v, w', fr, ⟨v, rfl, hR⟩, by rw [henter]; exact hs, hfn, hl⟩
section
variable {P : Program} {f : FuncId} {k : List Item} {a : Act} {w : World} {R : Value → World → Prop}
theorem Runs.step {a' : Act} {k' : List Item} {w' : World}
    (hs : ∀ cs, step P (lone ((fr0 f).at a k) cs w) = .next (lone ((fr0 f).at a' k') cs w')) (h : Runs P f k' a' w' R) : Runs P f k a w R := fun cs =>
  let ⟨v, w'', fr, hR, hst, hfn, hl⟩ := h cs
  ⟨v, w'', fr, hR, .head (hs cs) hst, hfn, hl⟩
def QK (P : Program) (f : FuncId) (k : List Item) (R : Value → World → Prop) : Exit → Act → World → Prop
  | .normal, a, w => Runs P f k a w R
  | _, _, _ => False
theorem runs_of_wp {c : Code} (h : c.wp P (QK P f k R) a w) : Runs P f (.code c :: k) a w R := by
  intro cs
  obtain ⟨e, a', w', hq, harr⟩ := h (fr0 f) k cs
  cases e with
  | normal =>
    obtain ⟨v, w'', fr, hR, hst, hfn, hl⟩ := hq cs
    exact ⟨v, w'', fr, hR, Steps.trans harr hst, hfn, hl⟩
  | _ => exact hq.elim
theorem runs_ret {fn : Func} {v : Value} (hf : P.funcs[f]? = some fn) (hd : a.defers = []) (hr : (results fn a.tmps).run P w = .ok v w) (hR : R v w) :
    Runs P f (.code .ret :: k) a w R := fun cs =>
  ⟨v, w, _, hR, .one step_ret, rfl, rfl, hd, rfl, fn, hf, hr⟩
end
def stab : List (Nat × Bool) → Bool
  | [] => false
  | _ :: _ => true
def lastB : List (Nat × Bool) → Bool
  | [] => true
  | [(_, b)] => !b
  | _ :: _ :: _ => false
def GoL (P : Program) (ops : Array Oper) (S : World → Prop) (Q : Exit → Act → World → Prop) : List (Nat × Bool) → Act → World → Prop
  | [], a, w => Q .normal a w
  | (i, true) :: L, a, w => ∃ o v, ops[i]? = some o ∧ YieldsIf P ops S o v a ∧ GoL P ops S Q L (a.put o.dst v) w
  | (i, false) :: L, a, w => wpOp P ops Q i (fun a' w' => (stab L = true → S w') ∧ GoL P ops S Q L a' w') a w
section
variable {P : Program} {ops : Array Oper} {S : World → Prop} {Q : Exit → Act → World → Prop}
theorem gol_plain : ∀ (L : List (Nat × Bool)) (a : Act) (w : World), GoL P ops (fun _ => True) Q L a w → wpOps P ops Q (L.map (·.1)) a w
  | [], a, w, h => h
  | (i, true) :: L, a, w, h => by
    obtain ⟨o, v, hi, hy, h⟩ := h
    rw [List.map_cons, wpOps_cons]
    exact hy.wpOp hi trivial (gol_plain L _ _ h)
  | (i, false) :: L, a, w, h => by
    rw [List.map_cons, wpOps_cons]
    exact wpOp_mono (fun a' w' h' => gol_plain L a' w' h'.2) h
theorem gol_free : ∀ (L : List (Nat × Bool)) (a : Act) (w : World), lastB L = true → GoL P ops (fun _ => True) Q L a w → GoL P ops S Q L a w
  | [], a, w, _, h => h
  | [(i, true)], a, w, hs, h => by cases hs
  | [(i, false)], a, w, hs, h => wpOp_mono (fun a' w' h' => ⟨fun e => (by cases e), h'.2⟩) h
  | _ :: _ :: _, a, w, hs, h => by cases hs
def wpAnyB (P : Program) (ops : Array Oper) (Q : Exit → Act → World → Prop) (S : World → Prop) (jb : Nat) : Nat → Array Bool → Act → World → Prop
  | 0, listed, a, w => Region.ready .any ops listed = [] ∧ Q .normal a w
  | fuel + 1, listed, a, w =>
    (Region.ready .any ops listed = [] → Q .normal a w) ∧
    ∀ i ∈ Region.ready .any ops listed, wpOp P ops Q i (fun a' w' => ((listed.setIfInBounds i true).getD jb false = false → S w') ∧ wpAnyB P ops Q S jb fuel (listed.setIfInBounds i true) a' w') a w
theorem wpAny_of_bar {jb : Nat} : ∀ (fuel : Nat) (listed : Array Bool) (a : Act) (w : World), wpAnyB P ops Q S jb fuel listed a w → wpAny P .any ops Q fuel listed a w
  | 0, _, _, _, h => h
  | fuel + 1, _, _, _, h => ⟨h.1, fun i hi => wpOp_mono (fun a' w' h' => wpAny_of_bar fuel _ a' w' h'.2) (h.2 i hi)⟩
def Closed (ops : Array Oper) (listed : Array Bool) : Prop :=
  listed.size = ops.size ∧ ∀ k ok, ops[k]? = some ok → listed.getD k false = true → ∀ e ∈ ok.after, Region.binds .any e = true → listed.getD e.on false = true
theorem closed_set {j : Nat} {listed : Array Bool} (hc : Closed ops listed) (hj : j ∈ Region.ready .any ops listed) : Closed ops (listed.setIfInBounds j true) := by
  refine ⟨by simp [hc.1], fun k ok hk hl e he hb => ?_⟩
  by_cases hkj : k = j
  · subst hkj
    obtain ⟨_, o, ho, hall⟩ := mem_ready.1 hj
    rw [hk] at ho; cases ho
    exact getD_set_true (hall e he hb)
  · rw [getD_set_ne false (Ne.symm hkj)] at hl
    exact getD_set_true (hc.2 k ok hk hl e he hb)
def needs (ops : Array Oper) : Nat → Nat → Nat → Bool
  | 0, j, i => Nat.beq j i
  | n + 1, j, i => Nat.beq j i || (match ops[j]? with | some o => o.after.any (fun e => Region.binds .any e && Nat.beq e.on i) || o.after.any (fun e => Region.binds .any e && needs ops n e.on i) | none => false)
theorem needs_spec {i : Nat} {listed : Array Bool} (hc : Closed ops listed) : ∀ (n j : Nat), needs ops n j i = true → listed.getD j false = true → listed.getD i false = true
  | 0, j, h, hj => by rw [← Nat.eq_of_beq_eq_true h]; exact hj
  | n + 1, j, h, hj => by
    unfold needs at h
    rw [Bool.or_eq_true] at h
    rcases h with h | h
    · rw [← Nat.eq_of_beq_eq_true h]; exact hj
    · cases ho : ops[j]? with
      | none => rw [ho] at h; cases h
      | some o =>
        rw [ho] at h
        simp only [Bool.or_eq_true] at h
        rcases h with h | h
        · obtain ⟨e, he, hb⟩ := Array.any_eq_true'.1 h
          rw [Bool.and_eq_true] at hb
          rw [← Nat.eq_of_beq_eq_true hb.2]
          exact hc.2 j o ho hj e he hb.1
        · obtain ⟨e, he, hb⟩ := Array.any_eq_true'.1 h
          rw [Bool.and_eq_true] at hb
          exact needs_spec hc n e.on hb.2 (hc.2 j o ho hj e he hb.1)
theorem wpAnyB_first {jb i : Nat} {oi : Oper} {v : Value} (hi : ops[i]? = some oi) (hsel : ∀ (j : Nat) (o : Oper) cs b, ops[j]? = some o → o.op ≠ .select cs b)
    (hQ : ∀ c a w, Q (.panic c) (a.put oi.dst v) w → Q (.panic c) a w) (hne : i ≠ jb) (hneed : ∀ listed, Closed ops listed → listed.getD jb false = true → listed.getD i false = true) :
    ∀ (fuel : Nat) (listed : Array Bool) (a : Act) (w : World), Closed ops listed →
      (∀ j oj, ops[j]? = some oj → j ≠ i → listed.getD j true = false → (∀ e ∈ oj.after, Region.binds .any e = true → e.on ≠ i) → oi.apart ops oj = true) →
      i ∈ Region.ready .any ops listed → YieldsIf P ops S oi v a → S w →
      wpAnyB P ops Q S jb fuel (listed.setIfInBounds i true) (a.put oi.dst v) w → wpAnyB P ops Q S jb (fuel + 1) listed a w := by
  intro fuel
  induction fuel with
  | zero =>
    intro listed a w hcl _ hr hy hS H
    refine ⟨fun h => (by rw [h] at hr; cases hr), fun j hj => ?_⟩
    by_cases hji : j = i
    · subst hji; exact hy.wpOp hi hS ⟨fun _ => hS, H⟩
    · have := ready_mono hj hji
      rw [H.1] at this
      cases this
  | succ fuel ih =>
    intro listed a w hcl hfree hr hy hS H
    refine ⟨fun h => (by rw [h] at hr; cases hr), fun j hj => ?_⟩
    by_cases hji : j = i
    · subst hji; exact hy.wpOp hi hS ⟨fun _ => hS, H⟩
    · have h1 := H.2 j (ready_mono hj hji)
      obtain ⟨hjun, oj, hoj, hall⟩ := mem_ready.1 hj
      have hiun := (mem_ready.1 hr).1
      have hif : ∀ l : Array Bool, l.getD i true = false → l.getD i false = false := fun l h => by
        rcases Nat.lt_or_ge i l.size with h' | h'
        · simp [h'] at h ⊢; exact h
        · simp [Array.getElem?_eq_none h']
      have hnot : ∀ e ∈ oj.after, Region.binds .any e = true → e.on ≠ i := fun e he hb heq => by
        have h1 := hall e he hb
        rw [heq, hif _ hiun] at h1; cases h1
      have hcl' := closed_set hcl hj
      have hiun' : (listed.setIfInBounds j true).getD i true = false := by rw [getD_set_ne true hji]; exact hiun
      have hjbun : (listed.setIfInBounds j true).getD jb false = false := by
        cases hb : (listed.setIfInBounds j true).getD jb false with
        | false => rfl
        | true => have := hneed _ hcl' hb; rw [hif _ hiun'] at this; cases this
      have hjbun2 : ((listed.setIfInBounds i true).setIfInBounds j true).getD jb false = false := by
        rw [Array.setIfInBounds_comm _ _ (Ne.symm hji), getD_set_ne false hne]; exact hjbun
      have h2 := wpOp_putIf hoj (hfree j oj hoj hji hjun hnot) (fun cs b => hsel i oi cs b hi) (fun cs b => hsel j oj cs b hoj) hQ hy h1
      have hfree' : ∀ k ok, ops[k]? = some ok → k ≠ i → (listed.setIfInBounds j true).getD k true = false →
          (∀ e ∈ ok.after, Region.binds .any e = true → e.on ≠ i) → oi.apart ops ok = true := fun k ok hk hki hun hno => by
        refine hfree k ok hk hki ?_ hno
        by_cases hjk : j = k
        · subst hjk; exact hjun
        · rw [getD_set_ne true hjk] at hun; exact hun
      refine wpOp_mono (fun a' w' h3 => ⟨fun _ => h3.2.1 hjbun2, ih (listed.setIfInBounds j true) a' w' hcl' hfree' (ready_mono hr (Ne.symm hji)) h3.1 (h3.2.1 hjbun2) ?_⟩) h2
      rw [Array.setIfInBounds_comm _ _ hji]
      exact h3.2.2
def barOf (n : Nat) : List (Nat × Bool) → Nat
  | [] => n
  | [(i, b)] => if b then n else i
  | _ :: x :: L => barOf n (x :: L)
def chkB (ops : Array Oper) (jb : Nat) : Nat → Array Bool → List (Nat × Bool) → Bool
  | _, listed, [] => (Region.ready .any ops listed).isEmpty
  | 0, _, _ :: _ => false
  | n + 1, listed, (i, true) :: L => !Nat.beq i jb && (Nat.ble ops.size jb || needs ops 8 jb i) && Region.free .any ops listed i && (Region.ready .any ops listed).contains i && chkB ops jb n (listed.setIfInBounds i true) L
  | n + 1, listed, (i, false) :: L => (Region.ready .any ops listed == [i]) && ((listed.setIfInBounds i true).getD jb false || stab L) && chkB ops jb n (listed.setIfInBounds i true) L
def chk (ops : Array Oper) (n : Nat) (listed : Array Bool) (L : List (Nat × Bool)) : Bool := chkB ops (barOf ops.size L) n listed L
theorem hneed_of {jb i : Nat} (h : (Nat.ble ops.size jb || needs ops 8 jb i) = true) : ∀ listed, Closed ops listed → listed.getD jb false = true → listed.getD i false = true := fun listed hc hj => by
  rw [Bool.or_eq_true] at h
  rcases h with h | h
  · have := Nat.le_of_ble_eq_true h
    rw [Array.getD_eq_getD_getElem?, Array.getElem?_eq_none (by rw [hc.1]; exact this)] at hj
    cases hj
  · exact needs_spec hc _ _ h hj
theorem gol_drawn (hs : Region.noSelect ops = true) (hQ : ∀ c a d v w, Q (.panic c) (Act.put a d v) w → Q (.panic c) a w) {jb : Nat} :
    ∀ (n : Nat) (listed : Array Bool) (L : List (Nat × Bool)) (a : Act) (w : World), chkB ops jb n listed L = true → Closed ops listed → (stab L = true → S w) → GoL P ops S Q L a w →
      wpAnyB P ops Q S jb n listed a w
  | n, listed, [], a, w, hc, _, _, h => by
    have hr : Region.ready .any ops listed = [] := by simpa [chkB] using hc
    cases n with
    | zero => exact ⟨hr, h⟩
    | succ n => exact ⟨fun _ => h, by rw [hr]; simp⟩
  | 0, _, x :: L, a, w, hc, _, _, _ => by cases hc
  | n + 1, listed, (i, true) :: L, a, w, hc, hcl, hS, h => by
    simp only [chkB, Bool.and_eq_true] at hc
    obtain ⟨⟨⟨⟨h1, h2⟩, h3⟩, h4⟩, h5⟩ := hc
    obtain ⟨o, v, hi, hy, h⟩ := h
    have hr : i ∈ Region.ready .any ops listed := by simpa using h4
    have hSw := hS rfl
    refine wpAnyB_first hi (Region.noSelect_spec hs) (fun c a w hq => hQ c a _ _ w hq) (fun e => by subst e; simp at h1) (hneed_of h2) n listed a w hcl (Region.free_spec hi h3) hr hy hSw (gol_drawn hs hQ n _ L _ w h5 (closed_set hcl hr) (fun _ => hSw) h)
  | n + 1, listed, (i, false) :: L, a, w, hc, hcl, hS, h => by
    simp only [chkB, Bool.and_eq_true, beq_iff_eq] at hc
    obtain ⟨⟨h1, h2⟩, h3⟩ := hc
    have hr : i ∈ Region.ready .any ops listed := by rw [h1]; simp
    refine ⟨fun h0 => (by rw [h0] at h1; cases h1), fun j hj => ?_⟩
    rw [h1, List.mem_singleton] at hj
    subst hj
    refine wpOp_mono (fun a' w' h' => ⟨fun hb => h'.1 ?_, gol_drawn hs hQ n _ L a' w' h3 (closed_set hcl hr) h'.1 h'.2⟩) h
    rw [hb] at h2
    simpa using h2
theorem yieldsIf_det {o : Oper} {v v' : Value} {a : Act} {w : World} (h : YieldsIf P ops S o v a) (h' : YieldsIf P ops S o v' a) (hS : S w) : v = v' := by
  rcases h with ⟨h1, h2⟩ | ⟨h1, rfl⟩ <;> rcases h' with ⟨h3, h4⟩ | ⟨h3, rfl⟩
  · have := (h2 w hS).symm.trans (h4 w hS)
    simpa using this
  · rw [h1] at h3; cases h3
  · rw [h1] at h3; cases h3
  · rfl
def chk2B (ops : Array Oper) (jb i : Nat) (L : List (Nat × Bool)) (i' : Nat) (L' : List (Nat × Bool)) : Nat → Array Bool → List Nat → Bool
  | 0, _, _ => false
  | n + 1, listed, [] => (Region.ready .any ops listed == [i, i']) && ((listed.setIfInBounds i true).getD jb false || stab L) && chkB ops jb n (listed.setIfInBounds i true) L && ((listed.setIfInBounds i' true).getD jb false || stab L') && chkB ops jb n (listed.setIfInBounds i' true) L'
  | n + 1, listed, j :: A => !Nat.beq j jb && (Nat.ble ops.size jb || needs ops 8 jb j) && Region.free .any ops listed j && (Region.ready .any ops listed).contains j && chk2B ops jb i L i' L' n (listed.setIfInBounds j true) A
def chk2 (ops : Array Oper) (i : Nat) (L : List (Nat × Bool)) (i' : Nat) (L' : List (Nat × Bool)) (n : Nat) (listed : Array Bool) (A : List Nat) : Bool := chk2B ops (barOf ops.size ((i, false) :: L)) i L i' L' n listed A
theorem gol_fork (hs : Region.noSelect ops = true) (hQ : ∀ c a d v w, Q (.panic c) (Act.put a d v) w → Q (.panic c) a w) {jb i i' : Nat} {L L' : List (Nat × Bool)} :
    ∀ (n : Nat) (listed : Array Bool) (A : List Nat) (a : Act) (w : World), chk2B ops jb i L i' L' n listed A = true → Closed ops listed → S w →
      GoL P ops S Q (A.map (fun j => (j, true)) ++ (i, false) :: L) a w → GoL P ops S Q (A.map (fun j => (j, true)) ++ (i', false) :: L') a w → wpAnyB P ops Q S jb n listed a w
  | 0, _, _, _, _, hc, _, _, _, _ => by cases hc
  | n + 1, listed, [], a, w, hc, hcl, hS, h, h' => by
    simp only [chk2B, Bool.and_eq_true, beq_iff_eq] at hc
    obtain ⟨⟨⟨⟨h0, h1⟩, h2⟩, h3⟩, h4⟩ := hc
    have hr : i ∈ Region.ready .any ops listed := by rw [h0]; simp
    have hr' : i' ∈ Region.ready .any ops listed := by rw [h0]; simp
    refine ⟨fun h0' => (by rw [h0'] at h0; cases h0), fun j hj => ?_⟩
    rw [h0] at hj
    simp only [List.mem_cons, List.not_mem_nil, or_false] at hj
    rcases hj with rfl | rfl
    · exact wpOp_mono (fun a' w' g => ⟨fun hb => g.1 (by rw [hb] at h1; simpa using h1), gol_drawn hs hQ n _ L a' w' h2 (closed_set hcl hr) g.1 g.2⟩) h
    · exact wpOp_mono (fun a' w' g => ⟨fun hb => g.1 (by rw [hb] at h3; simpa using h3), gol_drawn hs hQ n _ L' a' w' h4 (closed_set hcl hr') g.1 g.2⟩) h'
  | n + 1, listed, j :: A, a, w, hc, hcl, hS, h, h' => by
    simp only [chk2B, Bool.and_eq_true] at hc
    obtain ⟨⟨⟨⟨h1, h2⟩, h3⟩, h4⟩, h5⟩ := hc
    obtain ⟨o, v, hi, hy, h⟩ := h
    obtain ⟨o', v', hi', hy', h'⟩ := h'
    rw [hi] at hi'
    cases hi'
    obtain rfl := yieldsIf_det hy hy' hS
    have hr : j ∈ Region.ready .any ops listed := by simpa using h4
    exact wpAnyB_first hi (Region.noSelect_spec hs) (fun c a w hq => hQ c a _ _ w hq) (fun e => by subst e; simp at h1) (hneed_of h2) n listed a w hcl (Region.free_spec hi h3) hr hy hS (gol_fork hs hQ n _ A _ w h5 (closed_set hcl hr) hS h h')
theorem closed_none (ops : Array Oper) : Closed ops (Array.replicate ops.size false) := ⟨by simp, fun k ok _ hl => by
  rcases Nat.lt_or_ge k ops.size with h | h
  · simp [h] at hl
  · simp [Array.getElem?_eq_none, h] at hl⟩
end
abbrev Env := List (Nat × Value)
def look : Env → Nat → Option Value
  | [], _ => none
  | (t, v) :: e, u => bif Nat.beq t u then some v else look e u
structure St (N : Nat) (env : Env) (a : Act) : Prop where
  size : a.tmps.size = N
  defers : a.defers = []
  slot : ∀ t v, look env t = some v → a.tmps[t]? = some v
def putE (d : Option Nat) (v : Value) (env : Env) : Env := match d with | some t => (t, v) :: env | none => env
def dOk (N : Nat) (d : Option Nat) : Bool := match d with | some t => Nat.blt t N | none => true
theorem St.put {N : Nat} {env : Env} {a : Act} (h : St N env a) {d : Option Nat} (hd : dOk N d = true) (v : Value) : St N (putE d v env) (a.put d v) := by
  cases d with
  | none => exact ⟨h.size, h.defers, h.slot⟩
  | some t =>
    have ht : t < N := by have h : t + 1 ≤ N := by simpa [dOk, Nat.blt] using hd
                          omega
    refine ⟨by simp [Act.put, h.size], h.defers, fun u x hx => ?_⟩
    simp only [putE, look] at hx
    simp only [Act.put, Array.getElem?_setIfInBounds]
    by_cases e : t = u
    · subst e
      simp at hx
      simp [h.size, ht, hx]
    · have e' : Nat.beq t u = false := by
        cases hb : Nat.beq t u with
        | false => rfl
        | true => exact absurd (Nat.eq_of_beq_eq_true hb) e
      rw [e'] at hx
      simp only [cond_false] at hx
      simp [e, h.slot u x hx]
def ev (env : Env) : Operand → Option Value
  | .tmp t => look env t
  | .const v => some v
  | .func g => some (.func (.func g) #[] #[])
  | .global g => some (.pointer (some ⟨g, 0, none⟩))
theorem St.ev {N : Nat} {env : Env} {a : Act} (h : St N env a) {x : Operand} {v : Value} (hx : ev env x = some v) : a.eval x = v := by
  cases x with
  | tmp t =>
    have := h.slot t v hx
    simp only [Act.eval]
    rw [Array.getD_eq_getD_getElem?, this]; rfl
  | const u => simpa [K.ev, Act.eval] using hx
  | func g => simpa [K.ev, Act.eval] using hx
  | global g => simpa [K.ev, Act.eval] using hx
def evs (env : Env) : List Operand → Option (List Value)
  | [] => some []
  | x :: l => match ev env x, evs env l with | some v, some r => some (v :: r) | _, _ => none
theorem St.evs {N : Nat} {env : Env} {a : Act} (h : St N env a) : ∀ {l : List Operand} {vs : List Value}, evs env l = some vs → l.map a.eval = vs
  | [], vs, hl => by simpa [K.evs] using hl
  | x :: l, vs, hl => by
    simp only [K.evs] at hl
    cases hx : K.ev env x with
    | none => rw [hx] at hl; cases hl
    | some v =>
      cases hr : K.evs env l with
      | none => rw [hx, hr] at hl; cases hl
      | some r =>
        rw [hx, hr] at hl
        simp only [Option.some.injEq] at hl
        subst hl
        simp [h.ev hx, h.evs hr]
def Sub (env' env : Env) : Prop := ∀ t v, look env' t = some v → look env t = some v
theorem sub_nil (env : Env) : Sub [] env := fun t v h => by cases h
theorem sub_cons (t : Nat) {u v : Value} {env' env : Env} (hl : look env t = some u) (hv : u = v) (h : Sub env' env) : Sub ((t, v) :: env') env := by
  subst hv
  intro s x hx
  simp only [look] at hx
  cases hb : Nat.beq t s with
  | true =>
    rw [hb] at hx
    simp only [cond_true, Option.some.injEq] at hx
    rw [← Nat.eq_of_beq_eq_true hb, hl, hx]
  | false => rw [hb] at hx; exact h s x hx
theorem Sub.refl (env : Env) : Sub env env := fun _ _ h => h
theorem St.sub {N : Nat} {env env' : Env} {a : Act} (h : St N env a) (hs : Sub env' env) : St N env' a := ⟨h.size, h.defers, fun t v ht => h.slot t v (hs t v ht)⟩
def Run (P : Program) (f : FuncId) (N : Nat) (k : List Item) (env : Env) (w : World) (R : Value → World → Prop) : Prop :=
  ∀ a, St N env a → Runs P f k a w R
def SchQ (P : Program) (N : Nat) (Q : Exit → Act → World → Prop) (ops : Array Oper) (S : World → Prop) (L : List (Nat × Bool)) (env : Env) (w : World) : Prop :=
  ∀ a, St N env a → GoL P ops S Q L a w
abbrev Sch (P : Program) (f : FuncId) (N : Nat) (k : List Item) (R : Value → World → Prop) (ops : Array Oper) (S : World → Prop) (L : List (Nat × Bool)) (env : Env) (w : World) : Prop :=
  SchQ P N (QK P f k R) ops S L env w
section
variable {P : Program} {f : FuncId} {N : Nat} {k : List Item} {env : Env} {w : World} {R : Value → World → Prop}
theorem Run.sub {env' : Env} (hs : Sub env' env) (h : Run P f N k env' w R) : Run P f N k env w R := fun a ha => h a (ha.sub hs)
theorem run_seq {c x y : Code} (hc : c = .seq x y) (h : Run P f N (.code x :: .code y :: k) env w R) : Run P f N (.code c :: k) env w R := fun a ha => by
  subst hc; exact Runs.step (fun _ => step_seq) (h a ha)
theorem run_block {c x : Code} {id : Nat} (hc : c = .block id x) (h : Run P f N (.code x :: .inBlock id :: k) env w R) : Run P f N (.code c :: k) env w R := fun a ha => by
  subst hc; exact Runs.step (fun _ => step_block) (h a ha)
theorem run_inBlock {id : Nat} (h : Run P f N k env w R) : Run P f N (.inBlock id :: k) env w R := fun a ha =>
  Runs.step (fun _ => step_inBlock) (h a ha)
theorem run_skip {c : Code} (hc : c = .skip) (h : Run P f N k env w R) : Run P f N (.code c :: k) env w R := fun a ha => by
  subst hc; exact Runs.step (fun _ => step_skip) (h a ha)
theorem run_exit {c : Code} {id : Nat} {k' : List Item} (hc : c = .exit id) (hk : exitTo id k = some k') (h : Run P f N k' env w R) : Run P f N (.code c :: k) env w R := fun a ha => by
  subst hc; exact Runs.step (fun _ => step_exit hk) (h a ha)
theorem run_cond {c x y : Code} {o : Operand} {b : Bool} (hc : c = .cond o x y) (hv : ev env o = some (.bool b))
    (ht : b = true → Run P f N (.code x :: k) env w R) (hf : b = false → Run P f N (.code y :: k) env w R) : Run P f N (.code c :: k) env w R := fun a ha => by
  subst hc
  have := ha.ev hv
  cases b with
  | true => exact Runs.step (fun _ => step_cond this) (ht rfl a ha)
  | false => exact Runs.step (fun _ => step_cond this) (hf rfl a ha)
theorem run_if {c x y : Code} {o : Operand} {p : Prop} [Decidable p] (hc : c = .cond o x y) (hv : ev env o = some (.bool (decide p)))
    (ht : p → Run P f N (.code x :: k) env w R) (hf : ¬ p → Run P f N (.code y :: k) env w R) : Run P f N (.code c :: k) env w R :=
  run_cond hc hv (fun h => ht (of_decide_eq_true h)) (fun h => hf (of_decide_eq_false h))
theorem run_loop {c body : Code} {ι : Type} (I : ι → World → Prop) (e : ι → Env) (m : ι → Nat) (x₀ : ι) (hc : c = .loop body)
    (hs : Sub (e x₀) env) (h0 : I x₀ w)
    (hr : ∀ x w, I x w → (∀ y w', I y w' → m y < m x → Run P f N (.inLoop body :: k) (e y) w' R) → Run P f N (.code body :: .inLoop body :: k) (e x) w R) :
    Run P f N (.code c :: k) env w R := by
  subst hc
  have main : ∀ n x w, m x ≤ n → I x w → Run P f N (.inLoop body :: k) (e x) w R := by
    intro n
    induction n with
    | zero =>
      intro x w hm hI a ha
      exact Runs.step (fun _ => step_inLoop) (hr x w hI (fun y w' hy hlt => by omega) a ha)
    | succ n ih =>
      intro x w hm hI a ha
      exact Runs.step (fun _ => step_inLoop) (hr x w hI (fun y w' hy hlt => ih y w' (by omega) hy) a ha)
  intro a ha
  exact Runs.step (fun _ => step_loop) (hr x₀ w h0 (fun y w' hy hlt => main (m y) y w' (Nat.le_refl _) hy) a (ha.sub hs))
theorem run_ret1 {c : Code} {fn : Func} {t : Nat} {v : Value} (hc : c = .ret) (hf : P.funcs[f]? = some fn) (hres : fn.results = #[.tmp t]) (hv : look env t = some v)
    (hR : R v w) : Run P f N (.code c :: k) env w R := fun a ha => by
  subst hc
  refine runs_ret hf ha.defers ?_ hR
  have := ha.slot t v hv
  simp only [results, hres]
  simp [this, Sem.run, pure, Array.getD_eq_getD_getElem?]
theorem run_ret0 {c : Code} {fn : Func} (hc : c = .ret) (hf : P.funcs[f]? = some fn) (hres : fn.results = #[])
    (hR : R (.tuple #[]) w) : Run P f N (.code c :: k) env w R := fun a ha => by
  subst hc
  refine runs_ret hf ha.defers ?_ hR
  simp [results, hres, Sem.run, pure]
theorem run_ret2 {c : Code} {fn : Func} {t u : Nat} {v x : Value} (hc : c = .ret) (hf : P.funcs[f]? = some fn) (hres : fn.results = #[.tmp t, .tmp u]) (hv : look env t = some v) (hx : look env u = some x)
    (hR : R (.tuple #[v, x]) w) : Run P f N (.code c :: k) env w R := fun a ha => by
  subst hc
  refine runs_ret hf ha.defers ?_ hR
  rw [results_tmp2 hres]
  have h1 := ha.slot t v hv
  have h2 := ha.slot u x hx
  simp [h1, h2, Array.getD_eq_getD_getElem?]
theorem run_plain {c : Code} {id : Nat} {ops : Array Oper} (L : List (Nat × Bool)) (hc : c = .region id ops false)
    (hL : L.map (·.1) = List.range ops.size) (h : Sch P f N k R ops (fun _ => True) L env w) : Run P f N (.code c :: k) env w R := fun a ha => by
  subst hc
  exact runs_of_wp (wp_region (by rw [← hL]; exact gol_plain L a w (h a ha)))
theorem run_drawn {c : Code} {id : Nat} {ops : Array Oper} (S : World → Prop) (L : List (Nat × Bool)) (hm : P.follows .mixedOrders = true) (hc : c = .region id ops true)
    (hn : Region.noSelect ops = true) (hk : chk ops ops.size (Array.replicate ops.size false) L = true) (hS : S { w with drawn := w.drawn + 1 })
    (h : Sch P f N k R ops S L env { w with drawn := w.drawn + 1 }) : Run P f N (.code c :: k) env w R := fun a ha => by
  subst hc
  exact runs_of_wp (wp_region_any hm (wpAny_of_bar _ _ _ _ (gol_drawn hn (fun c a d v w h => h.elim) _ _ L a _ hk (closed_none ops) (fun _ => hS) (h a ha))))
theorem run_drawn2 {c : Code} {id : Nat} {ops : Array Oper} (S : World → Prop) (A : List Nat) (i : Nat) (L : List (Nat × Bool)) (i' : Nat) (L' : List (Nat × Bool)) (hm : P.follows .mixedOrders = true) (hc : c = .region id ops true)
    (hn : Region.noSelect ops = true) (hk : chk2 ops i L i' L' ops.size (Array.replicate ops.size false) A = true) (hS : S { w with drawn := w.drawn + 1 })
    (h : Sch P f N k R ops S (A.map (fun j => (j, true)) ++ (i, false) :: L) env { w with drawn := w.drawn + 1 }) (h' : Sch P f N k R ops S (A.map (fun j => (j, true)) ++ (i', false) :: L') env { w with drawn := w.drawn + 1 }) : Run P f N (.code c :: k) env w R := fun a ha => by
  subst hc
  exact runs_of_wp (wp_region_any hm (wpAny_of_bar _ _ _ _ (gol_fork hn (fun c a d v w h => h.elim) _ _ A a _ hk (closed_none ops) hS (h a ha) (h' a ha))))
def opAt (ops : Array Oper) (i : Nat) : Option (Option Tmp × Op × Option (Nat × Bool)) := (ops[i]?).map fun o => (o.dst, o.op, o.guard)
def dstAt (ops : Array Oper) (i : Nat) : Option Tmp := (ops[i]?).bind (·.dst)
def Val (P : Program) (N : Nat) (env : Env) (op : Op) (w : World) (v : Value) : Prop :=
  ∀ a, St N env a → ∀ o : Oper, o.op = op → (execOp a.eval o).run P w = .ok (.value v) w
variable {Q : Exit → Act → World → Prop} {ops : Array Oper} {S : World → Prop} {i : Nat} {L : List (Nat × Bool)} {d : Option Nat} {op : Op} {v : Value}
theorem Sch.free (hs : lastB L = true) (h : SchQ P N Q ops (fun _ => True) L env w) : SchQ P N Q ops S L env w := fun a ha => gol_free L a w hs (h a ha)
theorem Sch.nil (h : Run P f N k env w R) : Sch P f N k R ops S [] env w := fun a ha => h a ha
theorem opAt_spec {g : Option (Nat × Bool)} (h : opAt ops i = some (d, op, g)) : ∃ o, ops[i]? = some o ∧ o.dst = d ∧ o.op = op ∧ o.guard = g := by
  unfold opAt at h
  cases ho : ops[i]? with
  | none => rw [ho] at h; cases h
  | some o =>
    rw [ho] at h
    simp only [Option.map_some, Option.some.injEq, Prod.mk.injEq] at h
    exact ⟨o, rfl, h⟩
def wantedE (ops : Array Oper) (env : Env) : Option (Nat × Bool) → Option Bool
  | none => some true
  | some (j, want) => match dstAt ops j with
    | none => some false
    | some t => match look env t with
      | none => none
      | some (.bool b) => some (b == want)
      | some _ => some false
theorem St.wanted {a : Act} (ha : St N env a) {o : Oper} {b : Bool} (h : wantedE ops env o.guard = some b) : Region.wanted o (yielded ops a.tmps) = b := by
  unfold Region.wanted
  cases hg : o.guard with
  | none => rw [hg] at h; simpa [wantedE] using h
  | some p =>
    obtain ⟨j, want⟩ := p
    rw [hg] at h
    simp only [wantedE, dstAt] at h
    simp only [yielded]
    cases hj : (ops[j]?).bind (·.dst) with
    | none => rw [hj] at h; simp only [Option.some.injEq] at h; subst h; rfl
    | some t =>
      rw [hj] at h
      simp only at h
      cases hl : look env t with
      | none => rw [hl] at h; cases h
      | some u =>
        rw [hl] at h
        have := ha.slot t u hl
        simp only [Option.bind_some, this]
        cases u <;> simp only [Option.some.injEq] at h <;> subst h <;> first | rfl | (rename_i x; cases x <;> cases want <;> rfl)
theorem Sch.yield {g : Option (Nat × Bool)} (hop : opAt ops i = some (d, op, g)) (hw : wantedE ops env g = some true) (hd : dOk N d = true)
    (hy : ∀ w', S w' → Val P N env op w' v) (h : SchQ P N Q ops S L (putE d v env) w) : SchQ P N Q ops S ((i, true) :: L) env w := fun a ha => by
  obtain ⟨o, ho, rfl, rfl, rfl⟩ := opAt_spec hop
  exact ⟨o, v, ho, .inl ⟨ha.wanted hw, fun w' hS => hy w' hS a ha o rfl⟩, h _ (ha.put hd v)⟩
theorem Sch.pass {g : Option (Nat × Bool)} (hop : opAt ops i = some (d, op, g)) (hw : wantedE ops env g = some false) (hd : dOk N d = true)
    (h : SchQ P N Q ops S L (putE d undef env) w) : SchQ P N Q ops S ((i, true) :: L) env w := fun a ha => by
  obtain ⟨o, ho, rfl, rfl, rfl⟩ := opAt_spec hop
  exact ⟨o, undef, ho, .inr ⟨ha.wanted hw, rfl⟩, h _ (ha.put hd undef)⟩
theorem Sch.passW {g : Option (Nat × Bool)} (hop : opAt ops i = some (d, op, g)) (hw : wantedE ops env g = some false) (hd : dOk N d = true) (hS : S w)
    (h : SchQ P N Q ops S L (putE d undef env) w) : SchQ P N Q ops S ((i, false) :: L) env w := fun a ha => by
  obtain ⟨o, ho, rfl, rfl, rfl⟩ := opAt_spec hop
  simp only [GoL, wpOp, ho, ha.wanted hw, Bool.false_eq_true, if_false]
  exact ⟨fun _ => hS, h _ (ha.put hd undef)⟩
def Acts (P : Program) (N : Nat) (env : Env) (op : Op) (w : World) (T : Value → World → Prop) : Prop :=
  ∀ a, St N env a → ∀ o : Oper, o.op = op → ∃ v w', ((execOp a.eval o).run P w = .ok (.value v) w' ∨ ((execOp a.eval o).run P w = .ok .skip w' ∧ v = undef)) ∧ T v w'
theorem Sch.act {g : Option (Nat × Bool)} {T : Value → World → Prop} (hop : opAt ops i = some (d, op, g)) (hw : wantedE ops env g = some true) (hd : dOk N d = true)
    (hy : Acts P N env op w T) (h : ∀ v w', T v w' → S w' ∧ SchQ P N Q ops S L (putE d v env) w') : SchQ P N Q ops S ((i, false) :: L) env w := fun a ha => by
  obtain ⟨o, ho, rfl, rfl, rfl⟩ := opAt_spec hop
  simp only [GoL, wpOp, ho, ha.wanted hw, if_true]
  obtain ⟨v, w', hrun, hT⟩ := hy a ha o rfl
  left
  unfold Oper.wp
  obtain ⟨h1, h2⟩ := h v w' hT
  rcases hrun with hrun | ⟨hrun, rfl⟩
  · rw [hrun]; exact ⟨fun _ => h1, h2 _ (ha.put hd v)⟩
  · rw [hrun]; exact ⟨fun _ => h1, h2 _ (ha.put hd undef)⟩
theorem Val.acts (h : Val P N env op w v) : Acts P N env op w (fun x w' => x = v ∧ w' = w) := fun a ha o ho => ⟨v, w, .inl (h a ha o ho), rfl, rfl⟩
theorem Sch.now {g : Option (Nat × Bool)} (hop : opAt ops i = some (d, op, g)) (hw : wantedE ops env g = some true) (hd : dOk N d = true) (hS : S w)
    (hy : Val P N env op w v) (h : SchQ P N Q ops S L (putE d v env) w) : SchQ P N Q ops S ((i, false) :: L) env w :=
  Sch.act hop hw hd hy.acts (by rintro _ _ ⟨rfl, rfl⟩; exact ⟨hS, h⟩)
def Enters (P : Program) (N : Nat) (env : Env) (op : Op) (w : World) (g : FuncId) (args : Array Value) : Prop :=
  ∀ a, St N env a → ∀ o : Oper, o.op = op → (execOp a.eval o).run P w = .ok (.enter g args) w
theorem Sch.call {gd : Option (Nat × Bool)} {g : FuncId} {args : Array Value} {T : Value → World → Prop} (hop : opAt ops i = some (d, op, gd)) (hw : wantedE ops env gd = some true) (hd : dOk N d = true)
    (hy : Enters P N env op w g args) (hc : Calls P g args w (Ret T))
    (h : ∀ v w', T v w' → S w' ∧ SchQ P N Q ops S L (putE d v env) w') : SchQ P N Q ops S ((i, false) :: L) env w := fun a ha => by
  obtain ⟨o, ho, rfl, rfl, rfl⟩ := opAt_spec hop
  simp only [GoL, wpOp, ho, ha.wanted hw, if_true]
  left
  unfold Oper.wp
  rw [hy a ha o rfl]
  simp only [Oper.upon]
  refine hc.mono fun e w' he => ?_
  obtain ⟨v, rfl, hT⟩ := he
  obtain ⟨h1, h2⟩ := h v w' hT
  exact ⟨fun _ => h1, h2 _ (ha.put hd v)⟩
end
theorem calls_body {P : Program} {f : FuncId} {fn : Func} {c : Code} {args : List Value} {N : Nat} {env : Env} {w : World} {R : Value → World → Prop}
    (hf : P.funcs[f]? = some fn) (hb : fn.body = some c) (hN : fn.ntmps = N) (hsz : Nat.ble args.length N = true) (he : ∀ t v, look env t = some v → args[t]? = some v)
    (h : Run P f N [.code c] env w R) : Calls P f args.toArray w (Ret R) := by
  refine calls_of_runs hf hb (h _ ?_)
  have : args.length ≤ N := Nat.le_of_ble_eq_true hsz
  refine ⟨by simp [hN]; omega, rfl, fun t v ht => ?_⟩
  have h1 := he t v ht
  have h2 : t < args.length := by
    rcases Nat.lt_or_ge t args.length with h | h
    · exact h
    · rw [List.getElem?_eq_none h] at h1; cases h1
  simp only
  rw [Array.getElem?_append_left (by simpa using h2)]
  simpa using h1
def argEnv : Nat → List Value → Env
  | _, [] => []
  | n, v :: l => (n, v) :: argEnv (n + 1) l
theorem look_argEnv : ∀ (l : List Value) (n t : Nat) (v : Value), look (argEnv n l) t = some v → n ≤ t ∧ l[t - n]? = some v
  | [], _, _, _, h => by cases h
  | x :: l, n, t, v, h => by
    simp only [argEnv, look] at h
    cases hb : Nat.beq n t with
    | true =>
      rw [hb] at h
      have e := Nat.eq_of_beq_eq_true hb
      subst e
      simp at h
      simp [h]
    | false =>
      rw [hb] at h
      have hne : n ≠ t := fun e => by subst e; simp at hb
      obtain ⟨h1, h2⟩ := look_argEnv l (n + 1) t v h
      refine ⟨by omega, ?_⟩
      have : t - n = (t - (n + 1)) + 1 := by omega
      rw [this]; simpa using h2
theorem calls_start {P : Program} {f : FuncId} {fn : Func} {c : Code} (args : List Value) {N : Nat} {w : World} {R : Value → World → Prop}
    (hf : P.funcs[f]? = some fn) (hb : fn.body = some c) (hN : fn.ntmps = N) (hsz : Nat.ble args.length N = true)
    (h : Run P f N [.code c] (argEnv 0 args) w R) : Calls P f args.toArray w (Ret R) :=
  calls_body hf hb hN hsz (fun t v ht => by simpa using (look_argEnv args 0 t v ht).2) h
end Go.K

/- What each operation yields: the ones that only compute. -/
namespace Go.K
section
variable {P : Program} {N : Nat} {env : Env} {w : World} {x y z : Operand} {t u : TypeId} {k : IntKind} {m n : Int} {v : Value}
theorem mk' {op : Op} (h : ∀ ρ : Operand → Value, (∀ x v, ev env x = some v → ρ x = v) → ∀ o : Oper, o.op = op → (execOp ρ o).run P w = .ok (.value v) w) : Val P N env op w v :=
  fun a ha o ho => h a.eval (fun x v hx => ha.ev hx) o ho
theorem val_move (hx : ev env x = some v) : Val P N env (.move x) w v := mk' fun ρ hρ o ho => by
  unfold execOp; rw [ho]; simp [hρ _ _ hx, go_sem]
theorem val_assign (hx : ev env x = some v) : Val P N env (.assign x) w v := mk' fun ρ hρ o ho => by
  unfold execOp; rw [ho]; simp [hρ _ _ hx, go_sem]
theorem val_pick_t {v₁ : Value} (hx : ev env x = some (.bool true)) (hy : ev env y = some v₁) :
    Val P N env (.pick x y z) w v₁ := mk' fun ρ hρ o ho => by
  unfold execOp; rw [ho]; simp [hρ _ _ hx, hρ _ _ hy, go_sem, asBool]
theorem val_pick_f {v₂ : Value} (hx : ev env x = some (.bool false)) (hz : ev env z = some v₂) :
    Val P N env (.pick x y z) w v₂ := mk' fun ρ hρ o ho => by
  unfold execOp; rw [ho]; simp [hρ _ _ hx, hρ _ _ hz, go_sem, asBool]
theorem val_nilCheck {a : Addr} (hx : ev env x = some (.pointer (some a))) : Val P N env (.nilCheck x) w (.pointer (some a)) := mk' fun ρ hρ o ho => by
  unfold execOp; rw [ho]; simp [hρ _ _ hx, go_sem]
theorem val_extract {vs : Array Value} {i : Nat} (hx : ev env x = some (.tuple vs)) (hv : vs[i]? = some v) : Val P N env (.extract x i) w v := mk' fun ρ hρ o ho => by
  unfold execOp; rw [ho]; simp [hρ _ _ hx, go_sem, Instr.extract, hv]
theorem run_eqGuard_int (op : BinOp) (t : TypeId) (x y : Operand) (k j : IntKind) (m n : Int) (w : World) :
    (eqGuard op t x y (.int k m) (.int j n)).run P w = .ok () w := by
  unfold eqGuard; simp [go_sem]
theorem val_add (hx : ev env x = some (.int k m)) (hy : ev env y = some (.int k n)) : Val P N env (.binOp .add t x y u) w (.int k (k.wrap (m + n))) := mk' fun ρ hρ o ho => by
  unfold execOp; rw [ho]; simp [hρ _ _ hx, hρ _ _ hy, go_sem, run_eqGuard_int, binOp, Op.intArith]
theorem val_sub (hx : ev env x = some (.int k m)) (hy : ev env y = some (.int k n)) : Val P N env (.binOp .sub t x y u) w (.int k (k.wrap (m - n))) := mk' fun ρ hρ o ho => by
  unfold execOp; rw [ho]; simp [hρ _ _ hx, hρ _ _ hy, go_sem, run_eqGuard_int, binOp, Op.intArith]
theorem val_mul (hx : ev env x = some (.int k m)) (hy : ev env y = some (.int k n)) : Val P N env (.binOp .mul t x y u) w (.int k (k.wrap (m * n))) := mk' fun ρ hρ o ho => by
  unfold execOp; rw [ho]; simp [hρ _ _ hx, hρ _ _ hy, go_sem, run_eqGuard_int, binOp, Op.intArith]
theorem val_quo (hx : ev env x = some (.int k m)) (hy : ev env y = some (.int k n)) (hn : n ≠ 0) : Val P N env (.binOp .quo t x y u) w (.int k (k.wrap (m.tdiv n))) := mk' fun ρ hρ o ho => by
  unfold execOp; rw [ho]; simp [hρ _ _ hx, hρ _ _ hy, go_sem, run_eqGuard_int, binOp, Op.intDiv, hn]
theorem val_rem (hx : ev env x = some (.int k m)) (hy : ev env y = some (.int k n)) (hn : n ≠ 0) : Val P N env (.binOp .rem t x y u) w (.int k (m.tmod n)) := mk' fun ρ hρ o ho => by
  unfold execOp; rw [ho]; simp [hρ _ _ hx, hρ _ _ hy, go_sem, run_eqGuard_int, binOp, Op.intDiv, hn]
theorem val_lss (hx : ev env x = some (.int k m)) (hy : ev env y = some (.int k n)) : Val P N env (.binOp .lss t x y u) w (.bool (decide (m < n))) := mk' fun ρ hρ o ho => by
  unfold execOp; rw [ho]; simp [hρ _ _ hx, hρ _ _ hy, go_sem, run_eqGuard_int, binOp, Op.intCmp]
theorem val_leq (hx : ev env x = some (.int k m)) (hy : ev env y = some (.int k n)) : Val P N env (.binOp .leq t x y u) w (.bool (decide (m ≤ n))) := mk' fun ρ hρ o ho => by
  unfold execOp; rw [ho]; simp [hρ _ _ hx, hρ _ _ hy, go_sem, run_eqGuard_int, binOp, Op.intCmp]
theorem val_gtr (hx : ev env x = some (.int k m)) (hy : ev env y = some (.int k n)) : Val P N env (.binOp .gtr t x y u) w (.bool (decide (n < m))) := mk' fun ρ hρ o ho => by
  unfold execOp; rw [ho]; simp [hρ _ _ hx, hρ _ _ hy, go_sem, run_eqGuard_int, binOp, Op.intCmp]
theorem val_geq (hx : ev env x = some (.int k m)) (hy : ev env y = some (.int k n)) : Val P N env (.binOp .geq t x y u) w (.bool (decide (n ≤ m))) := mk' fun ρ hρ o ho => by
  unfold execOp; rw [ho]; simp [hρ _ _ hx, hρ _ _ hy, go_sem, run_eqGuard_int, binOp, Op.intCmp]
theorem val_eql (hx : ev env x = some (.int k m)) (hy : ev env y = some (.int k n)) : Val P N env (.binOp .eql t x y u) w (.bool (decide (m = n))) := mk' fun ρ hρ o ho => by
  unfold execOp; rw [ho]; simp [hρ _ _ hx, hρ _ _ hy, go_sem, run_eqGuard_int, binOp, Op.intCmp]; rfl
theorem val_neq (hx : ev env x = some (.int k m)) (hy : ev env y = some (.int k n)) : Val P N env (.binOp .neq t x y u) w (.bool (decide (m ≠ n))) := mk' fun ρ hρ o ho => by
  unfold execOp; rw [ho]; simp [hρ _ _ hx, hρ _ _ hy, go_sem, run_eqGuard_int, binOp, Op.intCmp]
  by_cases h : m = n <;> simp [h]
def bitsOf (op : BinOp) (k : IntKind) (m n : Int) : Int :=
  k.wrap ((match op with
    | .and => BitVec.ofInt k.bits m &&& BitVec.ofInt k.bits n
    | .or => BitVec.ofInt k.bits m ||| BitVec.ofInt k.bits n
    | .xor => BitVec.ofInt k.bits m ^^^ BitVec.ofInt k.bits n
    | _ => BitVec.ofInt k.bits m &&& ~~~(BitVec.ofInt k.bits n) : BitVec k.bits).toNat)
theorem val_xor (hx : ev env x = some (.int k m)) (hy : ev env y = some (.int k n)) : Val P N env (.binOp .xor t x y u) w (.int k (bitsOf .xor k m n)) := mk' fun ρ hρ o ho => by
  unfold execOp; rw [ho]; simp [hρ _ _ hx, hρ _ _ hy, Sem.run_bind, Sem.run_pure, run_eqGuard_int, binOp, Op.intBits, bitsOf]
theorem val_shl {j : IntKind} (hx : ev env x = some (.int k m)) (hy : ev env y = some (.int j n)) (hn : 0 ≤ n) :
    Val P N env (.binOp .shl t x y u) w (.int k (k.wrap (m * 2 ^ min n.toNat k.bits))) := mk' fun ρ hρ o ho => by
  have : ¬ n < 0 := by omega
  unfold execOp; rw [ho]; simp [hρ _ _ hx, hρ _ _ hy, Sem.run_bind, Sem.run_pure, run_eqGuard_int, binOp, Op.shift, this]
theorem val_shr {j : IntKind} (hx : ev env x = some (.int k m)) (hy : ev env y = some (.int j n)) (hn : 0 ≤ n) :
    Val P N env (.binOp .shr t x y u) w (.int k (m.fdiv (2 ^ min n.toNat k.bits))) := mk' fun ρ hρ o ho => by
  have : ¬ n < 0 := by omega
  unfold execOp; rw [ho]; simp [hρ _ _ hx, hρ _ _ hy, Sem.run_bind, Sem.run_pure, run_eqGuard_int, binOp, Op.shift, this]
theorem val_not {b : Bool} (hx : ev env x = some (.bool b)) : Val P N env (.unOp .not t x) w (.bool (!b)) := mk' fun ρ hρ o ho => by
  unfold execOp; rw [ho]; simp [hρ _ _ hx, go_sem, Op.unary]
theorem val_notd {p : Prop} [Decidable p] (hx : ev env x = some (.bool (decide p))) : Val P N env (.unOp .not t x) w (.bool (decide (¬ p))) := mk' fun ρ hρ o ho => by
  unfold execOp; rw [ho]; simp [hρ _ _ hx, go_sem, Op.unary]
theorem val_neg (hx : ev env x = some (.int k m)) : Val P N env (.unOp .neg t x) w (.int k (k.wrap (0 - m))) := mk' fun ρ hρ o ho => by
  unfold execOp; rw [ho]; simp [hρ _ _ hx, go_sem, Op.unary, Op.intArith]
theorem val_conv_int {j : IntKind} (hx : ev env x = some (.int j m)) (ht : ∃ d, P.underlying t = some d) (hu : P.underlying u = some (.int k)) : Val P N env (.convert t u x) w (.int k (k.wrap m)) := mk' fun ρ hρ o ho => by
  obtain ⟨d, hd⟩ := ht
  unfold execOp; rw [ho]; simp [hρ _ _ hx, go_sem, convert, run_underlying hd, run_underlying hu, Conv.intToInt]
theorem val_len_slice {b : Option Addr} {c l : Nat} {e : TypeId} (hx : ev env x = some (.slice b l c)) (ht : P.underlying t = some (.slice e)) :
    Val P N env (.call { callee := .builtin .len, args := #[x], argTypes := #[t] }) w (.int .i64 l) := mk' fun ρ hρ o ho => by
  unfold execOp; rw [ho]; simp [hρ _ _ hx, go_sem, resolve, invoke, builtin, Builtin.len_, run_underlying ht, goInt]
theorem enters_func {g : FuncId} {xs : Array Operand} {ts : Array TypeId} {vs : List Value} {cap : Array Value} {w : World}
    (hcall : ∀ args w, (callFunc g args).run P w = .ok (.enter g args) w) (hx : ev env x = some (.func (.func g) #[] cap)) (hargs : evs env xs.toList = some vs) :
    Enters P N env (.call { callee := .value x, args := xs, argTypes := ts }) w g (vs ++ cap.toList).toArray := fun a ha o ho => by
  have h1 : xs.map a.eval = vs.toArray := by
    rw [← ha.evs hargs, ← List.map_toArray]
  unfold execOp; rw [ho]
  simp only [resolve, Deferred.ofValue, ha.ev hx, h1, Sem.run_bind, Sem.run_pure, Result.andThen_ok, invoke]
  rw [hcall]
  simp
end
theorem wrap_i64 {n : Int} (h1 : -9223372036854775808 ≤ n) (h2 : n ≤ 9223372036854775807) : IntKind.i64.wrap n = n := IntWalk.i64_in n ⟨h1, h2⟩
theorem eq_int {k : IntKind} {a b : Int} (h : a = b) : Value.int k a = Value.int k b := by rw [h]
section
variable {P : Program} {N : Nat} {env : Env} {w : World} {x y : Operand} {t u : TypeId} {m n : Int}
theorem val_addi (hx : ev env x = some (.int .i64 m)) (hy : ev env y = some (.int .i64 n)) (h1 : -9223372036854775808 ≤ m + n) (h2 : m + n ≤ 9223372036854775807) :
    Val P N env (.binOp .add t x y u) w (.int .i64 (m + n)) := by
  have := val_add (P := P) (N := N) (w := w) (t := t) (u := u) hx hy; rwa [wrap_i64 h1 h2] at this
theorem val_subi (hx : ev env x = some (.int .i64 m)) (hy : ev env y = some (.int .i64 n)) (h1 : -9223372036854775808 ≤ m - n) (h2 : m - n ≤ 9223372036854775807) :
    Val P N env (.binOp .sub t x y u) w (.int .i64 (m - n)) := by
  have := val_sub (P := P) (N := N) (w := w) (t := t) (u := u) hx hy; rwa [wrap_i64 h1 h2] at this
theorem val_divi (hx : ev env x = some (.int .i64 m)) (hy : ev env y = some (.int .i64 n)) (h0 : 0 ≤ m) (h1 : 1 ≤ n) (h2 : m ≤ 9223372036854775807) :
    Val P N env (.binOp .quo t x y u) w (.int .i64 (m / n)) := by
  have := val_quo (P := P) (N := N) (w := w) (t := t) (u := u) hx hy (by omega)
  have h3 : m / n ≤ m := Int.ediv_le_self _ h0
  have h4 : 0 ≤ m / n := Int.ediv_nonneg h0 (by omega)
  rwa [Int.tdiv_eq_ediv_of_nonneg h0, wrap_i64 (by omega) (by omega)] at this
theorem val_modi (hx : ev env x = some (.int .i64 m)) (hy : ev env y = some (.int .i64 n)) (h0 : 0 ≤ m) (h1 : 1 ≤ n) :
    Val P N env (.binOp .rem t x y u) w (.int .i64 (m % n)) := by
  have := val_rem (P := P) (N := N) (w := w) (t := t) (u := u) hx hy (by omega)
  rwa [Int.tmod_eq_emod_of_nonneg h0] at this
end
section
variable {P : Program} {N : Nat} {env : Env} {w : World} {x y : Operand} {t u : TypeId} {m n r : Int} {k j : IntKind}
theorem val_shrE (hx : ev env x = some (.int k m)) (hy : ev env y = some (.int j n)) (hn : 0 ≤ n) (h : m.fdiv (2 ^ min n.toNat k.bits) = r) : Val P N env (.binOp .shr t x y u) w (.int k r) := by
  subst h; exact val_shr hx hy hn
theorem val_convE (hx : ev env x = some (.int j m)) (ht : ∃ d, P.underlying t = some d) (hu : P.underlying u = some (.int k)) (h : k.wrap m = r) : Val P N env (.convert t u x) w (.int k r) := by
  subst h; exact val_conv_int hx ht hu
end
end Go.K

/- Memory: what may turn between two worlds, how data read, and the operations that touch memory. -/
namespace Go.K
def Dr (w w' : World) : Prop := w.drawn ≤ w'.drawn
theorem Dr.refl {w w' : World} (h : w'.drawn = w.drawn) : Dr w w' := Nat.le_of_eq h.symm
theorem Dr.succ {w w' : World} (h : w'.drawn = w.drawn + 1) : Dr w w' := by unfold Dr; omega
theorem Dr.trans {w w' w'' : World} (h : Dr w w') (h' : Dr w' w'') : Dr w w'' := Nat.le_trans h h'
structure Ext (A : Nat → Prop) (w w' : World) : Prop where
  os : w'.os = w.os
  tape : w'.tape = w.tape
  output : w'.output = w.output
  size : w.heap.size ≤ w'.heap.size
  block : ∀ b, b < w.heap.size → ¬ A b → w'.heap[b]? = w.heap[b]?
  drawn : Dr w w'
def No : Nat → Prop := fun _ => False
def One (b : Nat) : Nat → Prop := fun x => x = b
def Ob (v : Value) : Nat → Prop := fun x => v.ownBlock = some x
section
variable {A A' M M' : Nat → Prop} {w w' w'' : World}
theorem Ext.refl (A : Nat → Prop) (w : World) : Ext A w w := ⟨rfl, rfl, rfl, Nat.le_refl _, fun _ _ _ => rfl, Dr.refl rfl⟩
theorem Ext.trans (h : Ext A w w') (h' : Ext A' w' w'') (hA : ∀ b, b < w.heap.size → A' b → A b) : Ext A w w'' :=
  ⟨h'.os.trans h.os, h'.tape.trans h.tape, h'.output.trans h.output, Nat.le_trans h.size h'.size, fun b hb hn =>
    (h'.block b (Nat.lt_of_lt_of_le hb h.size) (fun ha => hn (hA b hb ha))).trans (h.block b hb hn), Dr.trans h.drawn h'.drawn⟩
theorem Ext.mono (h : Ext A w w') (hA : ∀ b, b < w.heap.size → A b → A' b) : Ext A' w w' :=
  ⟨h.os, h.tape, h.output, h.size, fun b hb hn => h.block b hb (fun ha => hn (hA b hb ha)), h.drawn⟩
theorem Ext.drew (A : Nat → Prop) (w : World) : Ext A w { w with drawn := w.drawn + 1 } := ⟨rfl, rfl, rfl, Nat.le_refl _, fun _ _ _ => rfl, Dr.succ rfl⟩
theorem Ext.below (h : Ext A w w') {B : Nat} (hB : B ≤ w.heap.size) (hA : ∀ b, A b → B ≤ b) : Go.RowKit.Below B w w' :=
  ⟨h.os, h.tape, h.output, h.size, fun k hk => h.block k (Nat.lt_of_lt_of_le hk hB) (fun ha => by have := hA k ha; omega)⟩
theorem Ext.at' (h : Ext A w w') {b : Nat} {o : Obj} (hb : w.heap[b]? = some o) (hn : ¬ A b) : w'.heap[b]? = some o :=
  (h.block b (Array.getElem?_eq_some_iff.1 hb).1 hn).trans hb
theorem lt_of_at {b : Nat} {o : Obj} (hb : w.heap[b]? = some o) : b < w.heap.size := (Array.getElem?_eq_some_iff.1 hb).1
end
class Rep (α : Type) where
  sz : Nat
  /-- Is it a struct or an array? -/
  agg : Bool
  flat : agg = false → sz = 1
  rep : Array Obj → (Nat → Prop) → α → List Value → Prop
  len : ∀ {h M x vs}, rep h M x vs → vs.length = sz
  one : ∀ {h M x vs}, rep h M x vs → ∀ v ∈ vs, v.oneCell' = true
  keep : ∀ {h h' M x vs}, rep h M x vs → (∀ b, b < h.size → ¬ M b → h'[b]? = h[b]?) → rep h' M x vs
  sub : ∀ {h M M' x vs}, rep h M x vs → (∀ b, b < h.size → M' b → M b) → rep h M' x vs
open Rep
instance : Rep Int where
  sz := 1
  agg := false
  flat _ := rfl
  rep _ _ x vs := vs = [.int .i64 x]
  len h := by subst h; rfl
  one h := by subst h; intro v hv; simp at hv; subst hv; rfl
  keep h _ := h
  sub h _ := h
instance : Rep Nat where
  sz := 1
  agg := false
  flat _ := rfl
  rep _ _ x vs := vs = [.int .i64 (x : Int)]
  len h := by subst h; rfl
  one h := by subst h; intro v hv; simp at hv; subst hv; rfl
  keep h _ := h
  sub h _ := h
structure Num (k : IntKind) where
  n : Int
abbrev U64 := Num .u64
instance {k : IntKind} : Rep (Num k) where
  sz := 1
  agg := false
  flat _ := rfl
  rep _ _ x vs := vs = [.int k x.n]
  len h := by subst h; rfl
  one h := by subst h; intro v hv; simp at hv; subst hv; rfl
  keep h _ := h
  sub h _ := h
instance : Rep Bool where
  sz := 1
  agg := false
  flat _ := rfl
  rep _ _ x vs := vs = [.bool x]
  len h := by subst h; rfl
  one h := by subst h; intro v hv; simp at hv; subst hv; rfl
  keep h _ := h
  sub h _ := h
instance : Rep ByteArray where
  sz := 1
  agg := false
  flat _ := rfl
  rep _ _ x vs := vs = [.string x] ∧ x.size ≤ 9223372036854775807
  len h := by obtain ⟨rfl, _⟩ := h; rfl
  one h := by obtain ⟨rfl, _⟩ := h; intro v hv; simp at hv; subst hv; rfl
  keep h _ := h
  sub h _ := h
instance {α β : Type} [Rep α] [Rep β] : Rep (α × β) where
  sz := sz α + sz β
  agg := true
  flat h := by cases h
  rep h M x vs := ∃ us ws, vs = us ++ ws ∧ rep h M x.1 us ∧ rep h M x.2 ws
  len h := by obtain ⟨us, ws, rfl, h1, h2⟩ := h; rw [List.length_append, len h1, len h2]
  one h := by
    obtain ⟨us, ws, rfl, h1, h2⟩ := h
    intro v hv
    rcases List.mem_append.1 hv with hv | hv
    · exact one h1 v hv
    · exact one h2 v hv
  keep h hk := by obtain ⟨us, ws, e, h1, h2⟩ := h; exact ⟨us, ws, e, keep h1 hk, keep h2 hk⟩
  sub h hk := by obtain ⟨us, ws, e, h1, h2⟩ := h; exact ⟨us, ws, e, sub h1 hk, sub h2 hk⟩
@[reducible] def Rep.via {α β : Type} [Rep β] (f : α → β) : Rep α where
  sz := sz β
  agg := true
  flat h := by cases h
  rep h M x vs := rep h M (f x) vs
  len h := len h
  one h := one h
  keep h hk := keep h hk
  sub h hk := sub h hk
def cellsAt (cs : Array Value) (o n : Nat) : List Value := (cs.toList.drop o).take n
def At {α : Type} [Rep α] (h : Array Obj) (M : Nat → Prop) (b o : Nat) (x : α) : Prop :=
  ¬ M b ∧ ∃ cs ty fz, h[b]? = some (.cells cs ty fz) ∧ rep h M x (cellsAt cs o (sz α))
def Seg {α : Type} [Rep α] (h : Array Obj) (M : Nat → Prop) (b o : Nat) (xs : List α) : Prop :=
  ¬ M b ∧ ∃ cs ty fz, h[b]? = some (.cells cs ty fz) ∧ o + xs.length * sz α ≤ cs.size ∧ ∀ i (hi : i < xs.length), rep h M xs[i] (cellsAt cs (o + i * sz α) (sz α))
section
variable {α : Type} [Rep α] {h h' : Array Obj} {M M' : Nat → Prop} {b o : Nat} {x : α} {xs : List α}
theorem At.keep (ha : At h M b o x) (hk : ∀ b, b < h.size → ¬ M b → h'[b]? = h[b]?) : At h' M b o x := by
  obtain ⟨hb, cs, ty, fz, hc, hr⟩ := ha
  exact ⟨hb, cs, ty, fz, (hk b (Array.getElem?_eq_some_iff.1 hc).1 hb).trans hc, Rep.keep hr hk⟩
theorem At.sub (ha : At h M b o x) (hk : ∀ b, b < h.size → M' b → M b) : At h M' b o x := by
  obtain ⟨hb, cs, ty, fz, hc, hr⟩ := ha
  exact ⟨fun h' => hb (hk b (Array.getElem?_eq_some_iff.1 hc).1 h'), cs, ty, fz, hc, Rep.sub hr hk⟩
theorem Seg.keep (ha : Seg h M b o xs) (hk : ∀ b, b < h.size → ¬ M b → h'[b]? = h[b]?) : Seg h' M b o xs := by
  obtain ⟨hb, cs, ty, fz, hc, hl, hr⟩ := ha
  exact ⟨hb, cs, ty, fz, (hk b (Array.getElem?_eq_some_iff.1 hc).1 hb).trans hc, hl, fun i hi => Rep.keep (hr i hi) hk⟩
theorem Seg.sub (ha : Seg h M b o xs) (hk : ∀ b, b < h.size → M' b → M b) : Seg h M' b o xs := by
  obtain ⟨hb, cs, ty, fz, hc, hl, hr⟩ := ha
  exact ⟨fun h' => hb (hk b (Array.getElem?_eq_some_iff.1 hc).1 h'), cs, ty, fz, hc, hl, fun i hi => Rep.sub (hr i hi) hk⟩
theorem Seg.at' (ha : Seg h M b o xs) (i : Nat) (hi : i < xs.length) : At h M b (o + i * sz α) xs[i] := by
  obtain ⟨hb, cs, ty, fz, hc, hl, hr⟩ := ha
  exact ⟨hb, cs, ty, fz, hc, hr i hi⟩
end
instance {α : Type} [Rep α] : Rep (List α) where
  sz := 1
  agg := false
  flat _ := rfl
  rep h M xs vs := ∃ a c, vs = [.slice a xs.length c] ∧ xs.length ≤ c ∧ xs.length ≤ 9223372036854775807 ∧ (xs = [] ∨ ∃ b o, a = some ⟨b, o, none⟩ ∧ Seg h M b o xs)
  len h := by obtain ⟨a, c, rfl, _⟩ := h; rfl
  one h := by obtain ⟨a, c, rfl, _⟩ := h; intro v hv; simp at hv; subst hv; rfl
  keep h hk := by
    obtain ⟨a, c, e, h1, h2, h3⟩ := h
    exact ⟨a, c, e, h1, h2, h3.imp id (fun ⟨b, o, ha, hs⟩ => ⟨b, o, ha, hs.keep hk⟩)⟩
  sub h hk := by
    obtain ⟨a, c, e, h1, h2, h3⟩ := h
    exact ⟨a, c, e, h1, h2, h3.imp id (fun ⟨b, o, ha, hs⟩ => ⟨b, o, ha, hs.sub hk⟩)⟩
def RV {α : Type} [Rep α] (w : World) (M : Nat → Prop) (x : α) (v : Value) : Prop := ∃ vs, rep w.heap M x vs ∧ v = if agg α then .agg vs.toArray else vs.headD undef
def RA {α : Type} [Rep α] (w : World) (M : Nat → Prop) (x : α) (b o : Nat) : Prop := At w.heap M b o x
section
variable {α β : Type} [Rep α] [Rep β] {w w' : World} {A M M' : Nat → Prop} {x : α} {xs : List α} {v : Value} {b o : Nat}
theorem RV.ext (hr : RV w M x v) (he : Ext A w w') (hA : ∀ b, b < w.heap.size → A b → M b) : RV w' M x v :=
  let ⟨vs, h1, h2⟩ := hr; ⟨vs, Rep.keep h1 (fun b hb hn => he.block b hb (fun ha => hn (hA b hb ha))), h2⟩
theorem RV.sub (hr : RV w M x v) (hA : ∀ b, b < w.heap.size → M' b → M b) : RV w M' x v := let ⟨vs, h1, h2⟩ := hr; ⟨vs, Rep.sub h1 hA, h2⟩
theorem RA.ext (hr : RA w M x b o) (he : Ext A w w') (hA : ∀ b, b < w.heap.size → A b → M b) : RA w' M x b o :=
  At.keep hr (fun b hb hn => he.block b hb (fun ha => hn (hA b hb ha)))
theorem RA.sub (hr : RA w M x b o) (hA : ∀ b, b < w.heap.size → M' b → M b) : RA w M' x b o := At.sub hr hA
theorem rv_int {n : Int} : RV w M n v ↔ v = .int .i64 n := ⟨fun ⟨vs, h, e⟩ => by subst h; exact e, fun h => ⟨_, rfl, h⟩⟩
theorem rv_nat {n : Nat} : RV w M n v ↔ v = .int .i64 (n : Int) := ⟨fun ⟨vs, h, e⟩ => by subst h; exact e, fun h => ⟨_, rfl, h⟩⟩
theorem rv_bool {n : Bool} : RV w M n v ↔ v = .bool n := ⟨fun ⟨vs, h, e⟩ => by subst h; exact e, fun h => ⟨_, rfl, h⟩⟩
theorem rv_list : RV w M xs v ↔ ∃ a c, v = .slice a xs.length c ∧ xs.length ≤ c ∧ xs.length ≤ 9223372036854775807 ∧ (xs = [] ∨ ∃ b o, a = some ⟨b, o, none⟩ ∧ Seg w.heap M b o xs) :=
  ⟨fun ⟨vs, h, e⟩ => by obtain ⟨a, c, rfl, h⟩ := h; exact ⟨a, c, e, h⟩, fun ⟨a, c, h⟩ => ⟨_, ⟨a, c, rfl, h.2⟩, h.1⟩⟩
theorem rv_nil : RV w M ([] : List α) (.slice none 0 0) := rv_list.2 ⟨none, 0, rfl, Nat.le_refl _, by simp, .inl rfl⟩
theorem RA.fst {p : α × β} (h : RA w M p b o) : RA w M p.1 b o := by
  obtain ⟨hb, cs, ty, fz, hc, us, ws, he, h1, h2⟩ := h
  refine ⟨hb, cs, ty, fz, hc, ?_⟩
  have : cellsAt cs o (sz α) = us := by
    have e : cellsAt cs o (sz (α × β)) = us ++ ws := he
    have hl := Rep.len h1
    have : cellsAt cs o (sz α) = (cellsAt cs o (sz (α × β))).take (sz α) := by
      simp only [cellsAt, List.take_take]
      congr 1
      exact (Nat.min_eq_left (Nat.le_add_right _ _)).symm
    rw [this, e, ← hl, List.take_left]
  rw [this]; exact h1
theorem RA.snd {p : α × β} (h : RA w M p b o) : RA w M p.2 b (o + sz α) := by
  obtain ⟨hb, cs, ty, fz, hc, us, ws, he, h1, h2⟩ := h
  refine ⟨hb, cs, ty, fz, hc, ?_⟩
  have : cellsAt cs (o + sz α) (sz β) = ws := by
    have e : cellsAt cs o (sz (α × β)) = us ++ ws := he
    have hl := Rep.len h1
    have : cellsAt cs (o + sz α) (sz β) = (cellsAt cs o (sz (α × β))).drop (sz α) := by
      simp only [cellsAt, List.drop_take, List.drop_drop]
      congr 1
      exact (Nat.add_sub_cancel_left _ _).symm
    rw [this, e, ← hl, List.drop_left]
  rw [this]; exact h2
theorem RV.rep1 (h : RV w M x v) (hx : Rep.agg α = false) : rep w.heap M x [v] := by
  obtain ⟨vs, hr, hv⟩ := h
  have hl := Rep.len hr
  rw [Rep.flat hx] at hl
  obtain ⟨u, rfl⟩ := List.length_eq_one_iff.1 hl
  simp only [hx, Bool.false_eq_true, if_false, List.headD_cons] at hv
  subst hv
  exact hr
theorem rep1_rv (h : rep w.heap M x [v]) (hx : Rep.agg α = false) : RV w M x v := ⟨[v], h, by simp [hx]⟩
def aggB (P : Program) (t : TypeId) : Option Bool := match P.underlying t with | some (.struct _) => some true | some (.array _ _) => some true | some _ => some false | none => none
def szB (P : Program) (t : TypeId) : Option Nat := (P.info? t).map (·.size)
variable {P : Program} {N : Nat} {env : Env} {t u : TypeId} {y z : Operand}
theorem run_isAggB {b : Bool} (h : aggB P t = some b) (w : World) : (isAgg t).run P w = .ok b w := by
  unfold aggB at h
  split at h <;> rename_i hu <;> first | (simp only [Option.some.injEq] at h; subst h) | cases h
  all_goals simp [isAgg, run_underlying hu]
theorem run_sizeOfB {n : Nat} (h : szB P t = some n) (w : World) : (sizeOf t).run P w = .ok n w := by
  unfold szB at h
  cases hi : P.info? t with
  | none => rw [hi] at h; cases h
  | some i => rw [hi] at h; simp only [Option.map_some, Option.some.injEq] at h; subst h; simp [sizeOf, typeInfo, hi]
theorem cellsAt_get {cs : Array Value} {o n : Nat} {vs : List Value} (h : cellsAt cs o n = vs) (hl : vs.length = n) {j : Nat} (hj : j < n) : cs[o + j]? = vs[j]? := by
  subst h
  simp only [cellsAt, List.getElem?_take, List.getElem?_drop, if_pos hj]
  simp
theorem addr_add (b o n : Nat) : (⟨b, o, none⟩ : Addr).add n = ⟨b, o + n, none⟩ := by unfold Addr.add; split <;> simp_all
theorem RA.load (h : RA w M x b o) (ha : aggB P t = some false) (hx : Rep.agg α = false) (hy : ev env y = some (.pointer (some ⟨b, o, none⟩))) :
    ∃ v, RV w M x v ∧ ∀ w', w'.heap[b]? = w.heap[b]? → Val P N env (.load t y) w' v := by
  obtain ⟨hb, cs, ty, fz, hc, hr⟩ := h
  have h1 : sz α = 1 := Rep.flat hx
  obtain ⟨v, hv⟩ : ∃ v, cellsAt cs o (sz α) = [v] := List.length_eq_one_iff.1 (by rw [len hr, h1])
  rw [hv] at hr
  refine ⟨v, ⟨[v], hr, by simp [hx]⟩, fun w' hw => mk' fun ρ hρ oo ho => ?_⟩
  rw [← hw] at hc
  have h2 : cs[o]? = some v := by have := cellsAt_get (j := 0) hv (by simp [h1]) (by omega); simpa using this
  unfold execOp; rw [ho]
  simp [hρ _ _ hy, go_sem, Instr.loadAt, Instr.sureAddr, loadVar, run_isAggB ha, World.cell?, hc, h2]
theorem RA.loadAgg (h : RA w M x b o) (ha : aggB P t = some true) (hs : szB P t = some (sz α)) (hx : Rep.agg α = true) (hy : ev env y = some (.pointer (some ⟨b, o, none⟩))) :
    ∃ v, RV w M x v ∧ ∀ w', w'.heap[b]? = w.heap[b]? → Val P N env (.load t y) w' v := by
  obtain ⟨hb, cs, ty, fz, hc, hr⟩ := h
  refine ⟨.agg (cellsAt cs o (sz α)).toArray, ⟨_, hr, by simp only [hx, if_true]⟩, fun w' hw => mk' fun ρ hρ oo ho => ?_⟩
  rw [← hw] at hc
  have hl := len hr
  have hcells : (loadCells ⟨b, o, none⟩ (sz α)).run P w' = .ok (cellsAt cs o (sz α)).toArray w' := by
    have := run_loadCells_list (P := P) w' ⟨b, o, none⟩ (cellsAt cs o (sz α)) (fun j v hv => by
      have hj : j < sz α := by rw [← hl]; exact (List.getElem?_eq_some_iff.1 hv).1
      rw [addr_add, cell_of_row w' b (o + j) cs ty fz hc, cellsAt_get rfl hl hj, hv])
    rwa [hl] at this
  simp only [loadCells] at hcells
  unfold execOp; rw [ho]
  simp [hρ _ _ hy, go_sem, Instr.loadAt, Instr.sureAddr, loadVar, run_isAggB ha, run_sizeOfB hs, loadCells, hcells]
theorem val_loadOwn {cs : List Value} {ty : TypeId} {fz : Nat × Nat} (hc : w.heap[b]? = some (.cells cs.toArray ty fz)) (ha : aggB P t = some false) (hv : cs[o]? = some v)
    (hy : ev env y = some (.pointer (some ⟨b, o, none⟩))) : Val P N env (.load t y) w v := mk' fun ρ hρ oo ho => by
  have h2 : cs.toArray[o]? = some v := by simpa using hv
  unfold execOp; rw [ho]
  simp [hρ _ _ hy, go_sem, Instr.loadAt, Instr.sureAddr, loadVar, run_isAggB ha, World.cell?, hc, h2]
theorem val_loadOwnAgg {cs : List Value} {ty : TypeId} {fz : Nat × Nat} {n : Nat} {vs : List Value} (hc : w.heap[b]? = some (.cells cs.toArray ty fz)) (ha : aggB P t = some true) (hs : szB P t = some n)
    (hv : (cs.drop o).take n = vs) (hl : vs.length = n) (hy : ev env y = some (.pointer (some ⟨b, o, none⟩))) : Val P N env (.load t y) w (.agg vs.toArray) := mk' fun ρ hρ oo ho => by
  have hcells : (loadCells ⟨b, o, none⟩ n).run P w = .ok vs.toArray w := by
    have := run_loadCells_list (P := P) w ⟨b, o, none⟩ vs (fun j u hu => by
      have hj : j < n := by rw [← hl]; exact (List.getElem?_eq_some_iff.1 hu).1
      rw [addr_add, cell_of_row w b (o + j) cs.toArray ty fz hc]
      rw [← hu, ← hv, List.getElem?_take, if_pos hj, List.getElem?_drop]; simp)
    rwa [hl] at this
  simp only [loadCells] at hcells
  unfold execOp; rw [ho]
  simp [hρ _ _ hy, go_sem, Instr.loadAt, Instr.sureAddr, loadVar, run_isAggB ha, run_sizeOfB hs, loadCells, hcells]
def fieldB (P : Program) (t : TypeId) (f : Nat) : Option Nat := match P.underlying t with
  | some (.struct fs) => match fs[f]? with
    | some fl => match szB P fl.type with | some (_ + 1) => some fl.offset | _ => none
    | none => none
  | _ => none
theorem val_fieldAddr {f off : Nat} (hf : fieldB P t f = some off) (hy : ev env y = some (.pointer (some ⟨b, o, none⟩))) :
    Val P N env (.fieldAddr t y f) w (.pointer (some ⟨b, o + off, none⟩)) := mk' fun ρ hρ oo ho => by
  unfold fieldB at hf
  split at hf
  · rename_i fs hu
    split at hf
    · rename_i fl hfl
      split at hf
      · rename_i n hn
        simp only [Option.some.injEq] at hf
        subst hf
        unfold execOp; rw [ho]
        simp [hρ _ _ hy, go_sem, Instr.fieldAt, run_underlying hu, hfl, Instr.sureAddr, fieldPlace, run_sizeOfB hn, addr_add]
      · cases hf
    · cases hf
  · cases hf
def elemB (P : Program) (t : TypeId) : Option (TypeId × Nat) := match P.underlying t with
  | some (.slice e) => match szB P e with | some n => some (e, n) | none => none
  | _ => none
theorem val_indexAddr {e n l c : Nat} {k : IntKind} {i : Int} (hf : elemB P t = some (e, n)) (hy : ev env y = some (.slice (some ⟨b, o, none⟩) l c)) (hz : ev env z = some (.int k i))
    (h0 : 0 ≤ i) (h1 : i < l) : Val P N env (.indexAddr t y z) w (.pointer (some ⟨b, o + i.toNat * n, none⟩)) := mk' fun ρ hρ oo ho => by
  unfold elemB at hf
  split at hf
  · rename_i e' hu
    split at hf
    · rename_i n' hn
      simp only [Option.some.injEq, Prod.mk.injEq] at hf
      obtain ⟨rfl, rfl⟩ := hf
      unfold execOp; rw [ho]
      simp only [hρ _ _ hy, hρ _ _ hz]
      simp [go_sem, Instr.indexAt, run_underlying hu, asIntOf, run_sizeOfB hn, h0, h1, addr_add]
    · cases hf
  · cases hf
theorem RV.index (h : RV w M xs v) (hy : ev env y = some v) {e : Nat} {k : IntKind} {i : Int} (hf : elemB P t = some (e, sz α)) (hz : ev env z = some (.int k i))
    (h0 : 0 ≤ i) (h1 : i < xs.length) : ∃ b o, RA w M (xs[i.toNat]'(by omega)) b o ∧ ∀ w', Val P N env (.indexAddr t y z) w' (.pointer (some ⟨b, o, none⟩)) := by
  obtain ⟨a, c, rfl, hc, hm, hs⟩ := rv_list.1 h
  rcases hs with rfl | ⟨b, o, rfl, hs⟩
  · simp at h1; omega
  · exact ⟨b, o + i.toNat * sz α, hs.at' _ _, fun w' => val_indexAddr hf hy hz h0 h1⟩
theorem RV.len (h : RV w M xs v) : ∃ a c, v = .slice a xs.length c := let ⟨a, c, e, _⟩ := rv_list.1 h; ⟨a, c, e⟩
theorem RV.le (h : RV w M xs v) : xs.length ≤ 9223372036854775807 := let ⟨a, c, _, _, e, _⟩ := rv_list.1 h; e
theorem RV.lenV (h : RV w M xs v) (hy : ev env y = some v) {e : TypeId} (ht : P.underlying t = some (.slice e)) :
    ∀ w', Val P N env (.call { callee := .builtin .len, args := #[y], argTypes := #[t] }) w' (.int .i64 xs.length) := fun w' => by
  obtain ⟨a, c, rfl⟩ := h.len
  exact val_len_slice hy ht
theorem RV.one (h : RV w M x v) (hx : Rep.agg α = false) : v.cells = #[v] ∧ v.oneCell' = true := by
  obtain ⟨vs, h1, h2⟩ := h
  have hl := Rep.len h1
  rw [Rep.flat hx] at hl
  obtain ⟨u, rfl⟩ := List.length_eq_one_iff.1 hl
  simp only [hx, Bool.false_eq_true, if_false, List.headD_cons] at h2
  subst h2
  have h3 := Rep.one h1 v (by simp)
  refine ⟨?_, h3⟩
  cases v <;> first | rfl | simp [Value.oneCell'] at h3
theorem RV.many (h : RV w M x v) (hx : Rep.agg α = true) : ∃ vs, v = .agg vs.toArray ∧ vs.length = sz α ∧ (∀ u ∈ vs, u.oneCell' = true) ∧ rep w.heap M x vs := by
  obtain ⟨vs, h1, h2⟩ := h
  simp only [hx, if_true] at h2
  exact ⟨vs, h2, Rep.len h1, Rep.one h1, h1⟩
end
end Go.K

/- The operations that make memory or write it. -/
namespace Go.K
open Rep
structure New (w w' : World) (o : Obj) : Prop where
  ext : Ext No w w'
  at_ : w'.heap[w.heap.size]? = some o
  size : w'.heap.size = w.heap.size + 1
structure Upd (w w' : World) (b : Nat) (o : Obj) : Prop where
  ext : Ext (One b) w w'
  at_ : w'.heap[b]? = some o
  size : w'.heap.size = w.heap.size
theorem new_alloc (w : World) (o : Obj) : New w (w.alloc o) o :=
  ⟨⟨rfl, rfl, rfl, by simp, fun b hb _ => heap_alloc_old w o hb, Dr.refl rfl⟩, heap_alloc_new w o, by simp⟩
theorem new_alloc_drew (w : World) (o : Obj) : New w (w.drew.alloc o) o :=
  ⟨⟨rfl, rfl, rfl, by simp, fun b hb _ => heap_alloc_old w.drew o hb, Dr.succ rfl⟩, heap_alloc_new w.drew o, by simp⟩
theorem upd_setRow {w : World} {b : Nat} {old cs : Array Value} {t : TypeId} {fr : Nat × Nat} (h : w.heap[b]? = some (.cells old t fr)) : Upd w (w.setRow b cs) b (.cells cs t fr) :=
  ⟨⟨rfl, rfl, rfl, by simp [World.setRow], fun k _ hk => setRow_other w b k cs (fun e => hk e), Dr.refl rfl⟩, setRow_heap w b old cs t fr h, by simp [World.setRow]⟩
def zeroB (P : Program) (t : TypeId) : Option (List Value) := ((P.info? t).bind (·.zero)).map (·.cells.toList)
section
variable {P : Program} {N : Nat} {env : Env} {w : World} {x y z : Operand} {t u e : TypeId} {v : Value}
theorem run_zeroB {l : List Value} (h : zeroB P t = some l) (w : World) : ∃ z, (zeroValue t).run P w = .ok z w ∧ z.cells = l.toArray := by
  unfold zeroB at h
  cases hi : P.info? t with
  | none => rw [hi] at h; cases h
  | some i =>
    rw [hi] at h
    cases hz : i.zero with
    | none => simp [hz] at h
    | some z => simp [hz] at h; subst h; exact ⟨z, by simp [zeroValue, typeInfo, hi, hz], by simp⟩
theorem acts' {op : Op} {T : Value → World → Prop} (h : ∀ ρ : Operand → Value, (∀ x v, ev env x = some v → ρ x = v) → ∀ o : Oper, o.op = op →
    ∃ v w', ((execOp ρ o).run P w = .ok (.value v) w' ∨ ((execOp ρ o).run P w = .ok .skip w' ∧ v = undef)) ∧ T v w') : Acts P N env op w T :=
  fun a ha o ho => h a.eval (fun x v hx => ha.ev hx) o ho
theorem acts_alloc {l : List Value} (hz : zeroB P t = some l) :
    Acts P N env (.alloc t) w (fun v w' => v = .pointer (some ⟨w.heap.size, 0, none⟩) ∧ New w w' (.cells l.toArray t)) := acts' fun ρ hρ o ho => by
  obtain ⟨zv, h1, h2⟩ := run_zeroB hz w
  refine ⟨_, _, .inl ?_, rfl, new_alloc w _⟩
  unfold execOp; rw [ho]
  simp [go_sem, Instr.alloc, h1, newVar, newRow]
  exact congrArg (fun c => w.alloc (.cells c t)) h2
theorem acts_box {cs : List Value} (hx : ev env x = some v) (hc : v.cells = cs.toArray) :
    Acts P N env (.box t x) w (fun u w' => u = .pointer (some ⟨w.heap.size, 0, none⟩) ∧ New w w' (.cells cs.toArray t)) := acts' fun ρ hρ o ho => by
  refine ⟨_, _, .inl ?_, rfl, new_alloc w _⟩
  unfold execOp; rw [ho]
  simp [hρ _ _ hx, go_sem, Instr.box, newVar, newRow]
  exact congrArg (fun c => w.alloc (.cells c t)) hc
theorem run_storeVarL {b o n : Nat} {cs vs : List Value} {ty : TypeId} (hs : szB P t = some n) (hv : v.cells = vs.toArray) (hl : vs.length = n) (h1 : ∀ u ∈ vs, u.oneCell' = true)
    (hb : w.heap[b]? = some (.cells cs.toArray ty (0, 0))) (ho : o + n ≤ cs.length) :
    (storeVar t ⟨b, o, none⟩ v).run P w = .ok () (w.setRow b (cs.take o ++ vs ++ cs.drop (o + n)).toArray) := by
  have hst := run_storeCells_at P b o ty vs 0 cs.toArray w hb (by simpa [hl] using ho) h1
  simp only [Nat.add_zero, hl] at hst
  unfold storeVar
  simp [run_sizeOfB hs, hv, hl, hst]
theorem acts_store {b o n : Nat} {cs vs : List Value} {ty : TypeId} (hx : ev env x = some (.pointer (some ⟨b, o, none⟩))) (hy : ev env y = some v) (hs : szB P t = some n)
    (hv : v.cells = vs.toArray) (hl : vs.length = n) (h1 : ∀ u ∈ vs, u.oneCell' = true) (hb : w.heap[b]? = some (.cells cs.toArray ty (0, 0))) (ho : o + n ≤ cs.length) :
    Acts P N env (.store t x y) w (fun u w' => u = undef ∧ Upd w w' b (.cells (cs.take o ++ vs ++ cs.drop (o + n)).toArray ty (0, 0))) := acts' fun ρ hρ oo hoo => by
  refine ⟨undef, _, .inr ⟨?_, rfl⟩, rfl, upd_setRow hb⟩
  unfold execOp; rw [hoo]
  simp only [hρ _ _ hx, hρ _ _ hy, Instr.storeAt, Instr.sureAddr, Sem.run_bind, Sem.run_pure, Result.andThen_ok]
  rw [run_storeVarL hs hv hl h1 hb ho]
  rfl
theorem acts_store1 {b o : Nat} {cs : List Value} {ty : TypeId} (hx : ev env x = some (.pointer (some ⟨b, o, none⟩))) (hy : ev env y = some v) (hs : szB P t = some 1)
    (hv : v.cells = #[v]) (h1 : v.oneCell' = true) (hb : w.heap[b]? = some (.cells cs.toArray ty (0, 0))) (ho : o < cs.length) :
    Acts P N env (.store t x y) w (fun u w' => u = undef ∧ Upd w w' b (.cells (cs.set o v).toArray ty (0, 0))) := by
  have h := acts_store (P := P) (N := N) (w := w) (vs := [v]) (n := 1) hx hy hs (by simpa using hv) rfl (by simpa using h1) hb ho
  have e : cs.take o ++ [v] ++ cs.drop (o + 1) = cs.set o v := by
    rw [List.set_eq_take_append_cons_drop, if_pos ho]; simp
  rwa [e] at h
end
def OwnS {α : Type} [Rep α] (w : World) (M : Nat → Prop) (e : TypeId) (v : Value) (ys : List α) : Prop :=
  (v = .slice none 0 0 ∧ ys = []) ∨
  ∃ g cap cs, v = .slice (some ⟨g, 0, none⟩) ys.length cap ∧ M g ∧ w.heap[g]? = some (.cells cs e (0, 0)) ∧ ys.length ≤ cap ∧ cs.size = cap * sz α ∧
    ∀ i (hi : i < ys.length), rep w.heap M ys[i] (cellsAt cs (i * sz α) (sz α))
section
variable {α : Type} [Rep α] {w w' : World} {A M M' : Nat → Prop} {e : TypeId} {v : Value} {ys zs : List α}
theorem OwnS.nil : OwnS w M e (.slice none 0 0) ([] : List α) := .inl ⟨rfl, rfl⟩
theorem OwnS.ext (h : OwnS w M e v ys) (he : Ext A w w') (hA : ∀ b, b < w.heap.size → A b → M b) (hv : ∀ b, Ob v b → ¬ A b) : OwnS w' M e v ys := by
  rcases h with h | ⟨g, cap, cs, hv', hg, hc, h1, h2, h3⟩
  · exact .inl h
  · refine .inr ⟨g, cap, cs, hv', hg, he.at' hc (hv g (by subst hv'; rfl)), h1, h2, fun i hi => Rep.keep (h3 i hi) (fun b hb hn => he.block b hb (fun ha => hn (hA b hb ha)))⟩
theorem OwnS.sub (h : OwnS w M e v ys) (hM : ∀ b, b < w.heap.size → M' b → M b) (hv : ∀ b, Ob v b → M' b) : OwnS w M' e v ys := by
  rcases h with h | ⟨g, cap, cs, hv', hg, hc, h1, h2, h3⟩
  · exact .inl h
  · exact .inr ⟨g, cap, cs, hv', hv g (by subst hv'; rfl), hc, h1, h2, fun i hi => Rep.sub (h3 i hi) hM⟩
theorem OwnS.ob (h : OwnS w M e v ys) : ∀ b, Ob v b → M b ∧ b < w.heap.size := by
  intro b hb
  rcases h with ⟨rfl, _⟩ | ⟨g, cap, cs, rfl, hg, hc, _⟩
  · cases hb
  · simp only [Ob, Value.ownBlock, Option.some.injEq] at hb
    subst hb
    exact ⟨hg, lt_of_at hc⟩
theorem OwnS.len (h : OwnS w M e v ys) : ∃ a c, v = .slice a ys.length c := by
  rcases h with ⟨rfl, rfl⟩ | ⟨g, cap, cs, rfl, _⟩
  · exact ⟨none, 0, rfl⟩
  · exact ⟨_, _, rfl⟩
theorem OwnS.read (h : OwnS w M e v ys) (hM : ∀ b, b < w.heap.size → M' b → M b ∧ ¬ Ob v b) (hl : ys.length ≤ 9223372036854775807) : RV w M' ys v := by
  rcases h with ⟨rfl, rfl⟩ | ⟨g, cap, cs, rfl, hg, hc, h1, h2, h3⟩
  · exact rv_nil
  · refine rv_list.2 ⟨_, cap, rfl, h1, hl, .inr ⟨g, 0, rfl, ?_⟩⟩
    refine ⟨fun hm => (hM g (lt_of_at hc) hm).2 rfl, cs, e, _, hc, ?_, fun i hi => ?_⟩
    · rw [Nat.zero_add, h2]; exact Nat.mul_le_mul_right _ h1
    · rw [Nat.zero_add]; exact Rep.sub (h3 i hi) (fun b hb hm => (hM b hb hm).1)
theorem cellsAt_ext {cs cs' : Array Value} {o o' n : Nat} (h : ∀ j, j < n → cs[o + j]? = cs'[o' + j]?) : cellsAt cs o n = cellsAt cs' o' n := by
  apply List.ext_getElem?
  intro j
  simp only [cellsAt, List.getElem?_take, List.getElem?_drop]
  split
  · rename_i hj; simpa using h j hj
  · rfl
variable {P : Program} {N : Nat} {env : Env} {x y : Operand} {t u : TypeId} {s : Value}
def rowB (P : Program) (t e n bytes : Nat) : Bool := match P.underlying t, P.info? e with
  | some (.slice e'), some i => e' == e && i.size == n && i.bytes == bytes && (match i.zero with | some z => z.cells.size == n | none => false)
  | _, _ => false
theorem rowB_spec {n bytes : Nat} (h : rowB P t e n bytes = true) : ∃ i z, P.underlying t = some (.slice e) ∧ P.info? e = some i ∧ i.size = n ∧ i.bytes = bytes ∧ i.zero = some z ∧ z.cells.size = n := by
  unfold rowB at h
  split at h
  · rename_i e' i hu hi
    simp only [Bool.and_eq_true, beq_iff_eq] at h
    obtain ⟨⟨⟨rfl, h1⟩, h2⟩, h3⟩ := h
    cases hz : i.zero with
    | none => rw [hz] at h3; cases h3
    | some z => rw [hz] at h3; exact ⟨i, z, hu, hi, h1, h2, hz, by simpa using h3⟩
  · cases h
theorem acts_append {bytes : Nat} (hx : ev env x = some v) (hy : ev env y = some s) (hrow : rowB P t e (sz α) bytes = true) (hsz : 0 < sz α)
    (hown : OwnS w M e v ys) (hsrc : RV w M zs s) (hlen : (ys.length + zs.length) * bytes ≤ 140737488355328) (h63 : ys.length + zs.length ≤ 140737488355328) :
    Acts P N env (.call { callee := .builtin .append, args := #[x, y], argTypes := #[t, t] }) w (fun v' w' =>
      OwnS w' (fun b => Ob v' b ∨ M b) e v' (ys ++ zs) ∧ Ext (Ob v) w w' ∧ (∀ b, Ob v' b → Ob v b ∨ w.heap.size ≤ b)) := acts' fun ρ hρ oo hoo => by
  obtain ⟨i, z, hu, hi, rfl0, hby, hz, hzs⟩ := rowB_spec hrow
  obtain ⟨a, c, rfl, hcap, hl0, hseg⟩ := rv_list.1 hsrc
  have key : ∃ v' w', (Builtin.append_ #[t, t] oo.type #[v, .slice a zs.length c]).run P w = .ok v' w' ∧
      OwnS w' (fun b => Ob v' b ∨ M b) e v' (ys ++ zs) ∧ Ext (Ob v) w w' ∧ (∀ b, Ob v' b → Ob v b ∨ w.heap.size ≤ b) := by
    by_cases hzs0 : zs = []
    · subst hzs0
      refine ⟨v, w, ?_, ?_, Ext.refl _ _, fun b hb => .inl hb⟩
      · have hf : (Builtin.firstCells i.size 0 (.slice a 0 c)).run P w = .ok #[] w := by cases a <;> simp [Builtin.firstCells, loadCells, loadCellsFrom]
        rcases hown with ⟨rfl, _⟩ | ⟨g, cap, cs, rfl, hg, hc, h1, h2, h3⟩
        · simp [Builtin.append_, run_underlying hu, sizeOf, typeInfo, hi, Builtin.lenOf, hf]
        · simp [Builtin.append_, run_underlying hu, sizeOf, typeInfo, hi, Builtin.lenOf, hf, h1, storeCells]
      · rw [List.append_nil]
        exact hown.sub (fun b hb h => h.elim (fun ho => (hown.ob b ho).1) id) (fun b hb => .inl hb)
    · rcases hseg with h | ⟨sb, so, rfl, hsb, scs, sty, sfz, hsc, hsl, hsr⟩
      · exact absurd h hzs0
      · have hm0 : 0 < zs.length := List.length_pos_iff.2 hzs0
        obtain ⟨news, hnews_def⟩ : ∃ news, news = cellsAt scs so (zs.length * sz α) := ⟨_, rfl⟩
        have hnl : news.length = zs.length * i.size := by
          rw [hnews_def, rfl0]; simp only [cellsAt, List.length_take, List.length_drop, Array.length_toList]; omega
        have hnl' : news.length = zs.length * sz α := by rw [hnl, rfl0]
        have hget : ∀ j, j < zs.length * sz α → news[j]? = scs[so + j]? := fun j hj => by
          rw [hnews_def]; simp only [cellsAt, List.getElem?_take, if_pos hj, List.getElem?_drop]; simp
        have hnews : ∀ j v, news[j]? = some v → w.cell? ((⟨sb, so, none⟩ : Addr).add j) = some v := fun j v hv => by
          have hj : j < zs.length * sz α := by rw [← hnl']; exact (List.getElem?_eq_some_iff.1 hv).1
          rw [addr_add, cell_of_row w sb (so + j) scs sty sfz hsc, ← hget j hj, hv]
        have hrepn : ∀ k (hk : k < zs.length), rep w.heap M zs[k] (cellsAt news.toArray (k * sz α) (sz α)) := fun k hk => by
          have := hsr k hk
          rwa [show cellsAt scs (so + k * sz α) (sz α) = cellsAt news.toArray (k * sz α) (sz α) from cellsAt_ext (fun j hj => by
            have hb : k * sz α + j < zs.length * sz α := by
              have := Nat.mul_le_mul_right (sz α) (show k + 1 ≤ zs.length from hk); rw [Nat.succ_mul] at this; omega
            rw [show ∀ m, news.toArray[m]? = news[m]? from fun m => by simp, hget _ hb, Nat.add_assoc])] at this
        have h1c : ∀ u ∈ news, u.oneCell' = true := fun u hu' => by
          obtain ⟨j, hj, rfl⟩ := List.mem_iff_getElem.1 hu'
          have hjl : j < zs.length * sz α := by rw [← hnl']; exact hj
          have hk : j / sz α < zs.length := (Nat.div_lt_iff_lt_mul hsz).2 hjl
          refine Rep.one (hrepn (j / sz α) hk) _ ?_
          apply List.mem_iff_getElem?.2
          refine ⟨j % sz α, ?_⟩
          have hmod := Nat.mod_lt j hsz
          simp only [cellsAt, List.getElem?_take, if_pos hmod, List.getElem?_drop]
          rw [Nat.mul_comm, Nat.div_add_mod]
          simp [hj]
        -- a block made anew
        have fresh : ∀ (olds : List Value) (cap : Nat) (o : Obj), olds.length = ys.length * sz α → (∀ k (hk : k < ys.length), rep w.heap M ys[k] (cellsAt olds.toArray (k * sz α) (sz α))) →
            o = .cells (olds.toArray ++ news.toArray ++ Builtin.zeroCells z.cells (cap - (ys.length + zs.length))) e (0, 0) → ys.length + zs.length ≤ cap →
            OwnS (w.drew.alloc o) (fun b => Ob (.slice (some ⟨w.heap.size, 0, none⟩) (ys.length + zs.length) cap) b ∨ M b) e (.slice (some ⟨w.heap.size, 0, none⟩) (ys.length + zs.length) cap) (ys ++ zs) := by
          intro olds cap o holds hrepo ho hcap'
          subst ho
          have hnew := new_alloc_drew w (.cells (olds.toArray ++ news.toArray ++ Builtin.zeroCells z.cells (cap - (ys.length + zs.length))) e (0, 0))
          refine .inr ⟨w.heap.size, cap, _, by rw [List.length_append], .inl rfl, hnew.at_, by rw [List.length_append]; exact hcap', ?_, ?_⟩
          · simp only [Array.size_append, List.size_toArray, size_zeroCells, hzs, holds, hnl', ← Nat.add_mul]
            congr 1; omega
          · intro k hk
            rw [List.length_append] at hk
            have hkeep : ∀ (x : α) (vs : List Value), rep w.heap M x vs → rep (w.drew.alloc (.cells (olds.toArray ++ news.toArray ++ Builtin.zeroCells z.cells (cap - (ys.length + zs.length))) e (0, 0))).heap
                (fun b => Ob (.slice (some ⟨w.heap.size, 0, none⟩) (ys.length + zs.length) cap) b ∨ M b) x vs := fun x vs hr =>
              Rep.keep (Rep.sub hr (fun b hb h => h.elim (fun e => by simp only [Ob, Value.ownBlock, Option.some.injEq] at e; omega) id)) (fun b hb _ => hnew.ext.block b hb (fun h => h))
            by_cases hky : k < ys.length
            · rw [List.getElem_append_left hky]
              have := hrepo k hky
              rw [show cellsAt olds.toArray (k * sz α) (sz α) = cellsAt (olds.toArray ++ news.toArray ++ Builtin.zeroCells z.cells (cap - (ys.length + zs.length))) (k * sz α) (sz α) from cellsAt_ext (fun j hj => by
                have hb : k * sz α + j < ys.length * sz α := by
                  have := Nat.mul_le_mul_right (sz α) (show k + 1 ≤ ys.length from hky); rw [Nat.succ_mul] at this; omega
                rw [Array.append_assoc, Array.getElem?_append_left (by simpa [holds] using hb)])] at this
              exact hkeep _ _ this
            · rw [List.getElem_append_right (by omega)]
              have hkz : k - ys.length < zs.length := by omega
              have := hrepn (k - ys.length) hkz
              rw [show cellsAt news.toArray ((k - ys.length) * sz α) (sz α) = cellsAt (olds.toArray ++ news.toArray ++ Builtin.zeroCells z.cells (cap - (ys.length + zs.length))) (k * sz α) (sz α) from cellsAt_ext (fun j hj => by
                have hb : (k - ys.length) * sz α + j < zs.length * sz α := by
                  have := Nat.mul_le_mul_right (sz α) (show k - ys.length + 1 ≤ zs.length from hkz); rw [Nat.succ_mul] at this; omega
                have he : k * sz α = ys.length * sz α + (k - ys.length) * sz α := by rw [← Nat.add_mul]; congr 1; omega
                rw [Array.getElem?_append_left (by simp only [Array.size_append, List.size_toArray, holds, hnl']; omega), Array.getElem?_append_right (by simp only [List.size_toArray, holds]; omega)]
                congr 1
                simp only [List.size_toArray, holds]; omega)] at this
              exact hkeep _ _ this
        rcases hown with ⟨rfl, rfl⟩ | ⟨g, cap, cs, rfl, hg, hc, h1, h2, h3⟩
        · have hr := run_append_nil (P := P) w t oo.type e i z hu hi hz ⟨sb, so, none⟩ zs.length c news hnl hnews hm0 (by omega)
            (by rw [hby]; simp only [List.length_nil, Nat.zero_add] at hlen; omega)
          have hfr := fresh [] (grownCap w zs.length 0 e) _ (by simp) (fun k hk => by simp at hk) rfl (by simpa using grownCap_ge w zs.length 0 e)
          simp only [List.length_nil, Nat.zero_add, List.nil_append] at hfr
          refine ⟨_, _, hr, ?_, ?_, ?_⟩
          · simpa using hfr
          · exact (new_alloc_drew w _).ext.mono (fun b hb h => h.elim)
          · intro b hb; simp only [Ob, Value.ownBlock, Option.some.injEq] at hb; exact .inr (by omega)
        · have hcsl : (cellsAt cs 0 (ys.length * sz α)).length = ys.length * sz α := by
            have := Nat.mul_le_mul_right (sz α) h1
            simp only [cellsAt, List.length_take, List.length_drop, Array.length_toList]; omega
          have hcsg : ∀ j, j < ys.length * sz α → (cellsAt cs 0 (ys.length * sz α))[j]? = cs[j]? := fun j hj => by
            simp only [cellsAt, List.getElem?_take, if_pos hj, List.getElem?_drop]; simp
          have hrepo : ∀ k (hk : k < ys.length), rep w.heap M ys[k] (cellsAt (cellsAt cs 0 (ys.length * sz α)).toArray (k * sz α) (sz α)) := fun k hk => by
            have := h3 k hk
            rwa [show cellsAt cs (k * sz α) (sz α) = cellsAt (cellsAt cs 0 (ys.length * sz α)).toArray (k * sz α) (sz α) from cellsAt_ext (fun j hj => by
              have hb : k * sz α + j < ys.length * sz α := by
                have := Nat.mul_le_mul_right (sz α) (show k + 1 ≤ ys.length from hk); rw [Nat.succ_mul] at this; omega
              rw [show ∀ m, (cellsAt cs 0 (ys.length * sz α)).toArray[m]? = (cellsAt cs 0 (ys.length * sz α))[m]? from fun m => by simp, hcsg _ hb])] at this
          by_cases hroom : ys.length + zs.length ≤ cap
          · have hbound : ys.length * i.size + news.length ≤ cs.size := by
              rw [hnl, rfl0, h2, ← Nat.add_mul]; exact Nat.mul_le_mul_right _ hroom
            have hr := run_append_room (P := P) w t oo.type e i hu hi g ys.length cap cs hc ⟨sb, so, none⟩ zs.length c news hnl hnews h1c hroom hbound
            have hupd := upd_setRow (w := w) (cs := (cs.toList.take (ys.length * i.size) ++ news ++ cs.toList.drop (ys.length * i.size + news.length)).toArray) hc
            refine ⟨_, _, hr, .inr ⟨g, cap, _, by rw [List.length_append], .inr hg, hupd.at_, by rw [List.length_append]; exact hroom, ?_, ?_⟩, ?_, ?_⟩
            · simp only [List.size_toArray, List.length_append, List.length_take, List.length_drop, Array.length_toList, hnl, rfl0] at hbound ⊢
              omega
            · intro k hk
              rw [List.length_append] at hk
              have hkeep : ∀ (x : α) (vs : List Value), rep w.heap M x vs → rep (w.setRow g (cs.toList.take (ys.length * i.size) ++ news ++ cs.toList.drop (ys.length * i.size + news.length)).toArray).heap
                  (fun b => Ob (.slice (some ⟨g, 0, none⟩) (ys.length + zs.length) cap) b ∨ M b) x vs := fun x vs hr' =>
                Rep.keep (Rep.sub hr' (fun b hb h => h.elim (fun e => by simp only [Ob, Value.ownBlock, Option.some.injEq] at e; subst e; exact hg) id))
                  (fun b hb hn => hupd.ext.block b hb (fun h => hn (.inr (by rw [show b = g from h]; exact hg))))
              rw [rfl0] at hbound
              by_cases hky : k < ys.length
              · rw [List.getElem_append_left hky]
                have := h3 k hky
                rw [show cellsAt cs (k * sz α) (sz α) = cellsAt (cs.toList.take (ys.length * i.size) ++ news ++ cs.toList.drop (ys.length * i.size + news.length)).toArray (k * sz α) (sz α) from cellsAt_ext (fun j hj => by
                  have hb : k * sz α + j < ys.length * sz α := by
                    have := Nat.mul_le_mul_right (sz α) (show k + 1 ≤ ys.length from hky); rw [Nat.succ_mul] at this; omega
                  conv => rhs; rw [List.getElem?_toArray, List.append_assoc, List.getElem?_append_left (by simp only [List.length_take, Array.length_toList, rfl0]; omega), List.getElem?_take, if_pos (by rw [rfl0]; exact hb)]
                  simp)] at this
                exact hkeep _ _ this
              · rw [List.getElem_append_right (by omega)]
                have hkz : k - ys.length < zs.length := by omega
                have := hrepn (k - ys.length) hkz
                rw [show cellsAt news.toArray ((k - ys.length) * sz α) (sz α) = cellsAt (cs.toList.take (ys.length * i.size) ++ news ++ cs.toList.drop (ys.length * i.size + news.length)).toArray (k * sz α) (sz α) from cellsAt_ext (fun j hj => by
                  have hb : (k - ys.length) * sz α + j < zs.length * sz α := by
                    have := Nat.mul_le_mul_right (sz α) (show k - ys.length + 1 ≤ zs.length from hkz); rw [Nat.succ_mul] at this; omega
                  have he : k * sz α = ys.length * sz α + (k - ys.length) * sz α := by rw [← Nat.add_mul]; congr 1; omega
                  have htl : (cs.toList.take (ys.length * i.size)).length = ys.length * sz α := by simp only [List.length_take, Array.length_toList, rfl0]; omega
                  rw [show ∀ m, news.toArray[m]? = news[m]? from fun m => by simp, show ∀ (l : List Value) m, l.toArray[m]? = l[m]? from fun l m => by simp, List.getElem?_append_left (by rw [List.length_append, htl]; omega), List.getElem?_append_right (by rw [htl]; omega), htl]
                  congr 1; omega)] at this
                exact hkeep _ _ this
            · exact hupd.ext.mono (fun b hb h => by rw [show b = g from h]; rfl)
            · intro b hb; exact .inl hb
          · have holds : ∀ j v, (cellsAt cs 0 (ys.length * sz α))[j]? = some v → w.cell? ((⟨g, 0, none⟩ : Addr).add j) = some v := fun j v hv => by
              have hj : j < ys.length * sz α := by rw [← hcsl]; exact (List.getElem?_eq_some_iff.1 hv).1
              rw [addr_add, cell_of_row w g (0 + j) cs e (0, 0) hc, Nat.zero_add, ← hcsg j hj, hv]
            have hr := run_append_grow (P := P) w t oo.type e i z hu hi hz ⟨g, 0, none⟩ ys.length cap (cellsAt cs 0 (ys.length * sz α)) (by rw [rfl0]; exact hcsl) holds ⟨sb, so, none⟩ zs.length c news hnl hnews (by omega) (by omega)
              (growslice_fits (by omega) (by rw [hby]; exact hlen))
            have hfr := fresh _ (grownCap w (ys.length + zs.length) cap e) _ hcsl hrepo rfl (grownCap_ge w _ _ e)
            refine ⟨_, _, hr, hfr, ?_, ?_⟩
            · exact (new_alloc_drew w _).ext.mono (fun b hb h => h.elim)
            · intro b hb; simp only [Ob, Value.ownBlock, Option.some.injEq] at hb; exact .inr (by omega)
  obtain ⟨v', w', hrun, hpost⟩ := key
  refine ⟨v', w', .inl ?_, hpost⟩
  unfold execOp; rw [hoo]
  simp [hρ _ _ hx, hρ _ _ hy, resolve, invoke, builtin, hrun]
end
end Go.K

/- The rules as the scripts use them. -/
namespace Go.K
open Rep
def cl : Code → Code | .seq a _ => a | .cond _ a _ => a | .block _ b => b | .loop b => b | .scope b => b | c => c
def cr : Code → Code | .seq _ b => b | .cond _ _ b => b | c => c
def rops : Code → Array Oper | .region _ ops _ => ops | _ => #[]
def bodyOf (fn : Func) : Code := match fn.body with | some c => c | none => .skip
section
variable {P : Program} {f : FuncId} {N : Nat} {k : List Item} {env : Env} {w w' : World} {R : Value → World → Prop} {Q : Exit → Act → World → Prop}
variable {ops : Array Oper} {S : World → Prop} {i t : Nat} {L : List (Nat × Bool)} {op : Op} {v : Value} {x y z : Operand} {g : Option (Nat × Bool)}
theorem yS (hop : opAt ops i = some (some t, op, g)) (hw : wantedE ops env g = some true) (ht : Nat.blt t N = true)
    (hy : ∀ w', S w' → Val P N env op w' v) (h : SchQ P N Q ops S L ((t, v) :: env) w) : SchQ P N Q ops S ((i, true) :: L) env w := Sch.yield hop hw ht hy h
theorem pS (hop : opAt ops i = some (some t, op, g)) (hw : wantedE ops env g = some false) (ht : Nat.blt t N = true)
    (h : SchQ P N Q ops S L ((t, undef) :: env) w) : SchQ P N Q ops S ((i, true) :: L) env w := Sch.pass hop hw ht h
theorem pW (hop : opAt ops i = some (some t, op, g)) (hw : wantedE ops env g = some false) (ht : Nat.blt t N = true) (hS : S w)
    (h : SchQ P N Q ops S L ((t, undef) :: env) w) : SchQ P N Q ops S ((i, false) :: L) env w := Sch.passW hop hw ht hS h
theorem nS (hop : opAt ops i = some (some t, op, g)) (hw : wantedE ops env g = some true) (ht : Nat.blt t N = true) (hS : S w)
    (hy : Val P N env op w v) (h : SchQ P N Q ops S L ((t, v) :: env) w) : SchQ P N Q ops S ((i, false) :: L) env w := Sch.now hop hw ht hS hy h
theorem aS {T : Value → World → Prop} (hop : opAt ops i = some (some t, op, g)) (hw : wantedE ops env g = some true) (ht : Nat.blt t N = true)
    (hy : Acts P N env op w T) (h : ∀ v w', T v w' → S w' ∧ SchQ P N Q ops S L ((t, v) :: env) w') : SchQ P N Q ops S ((i, false) :: L) env w := Sch.act hop hw ht hy h
theorem aN {T : Value → World → Prop} (hop : opAt ops i = some (none, op, g)) (hw : wantedE ops env g = some true)
    (hy : Acts P N env op w T) (h : ∀ v w', T v w' → S w' ∧ SchQ P N Q ops S L env w') : SchQ P N Q ops S ((i, false) :: L) env w := Sch.act hop hw rfl hy h
theorem cS {gf : FuncId} {args : Array Value} {T : Value → World → Prop} (hop : opAt ops i = some (some t, op, g)) (hw : wantedE ops env g = some true) (ht : Nat.blt t N = true)
    (hy : Enters P N env op w gf args) (hc : Calls P gf args w (Ret T))
    (h : ∀ v w', T v w' → S w' ∧ SchQ P N Q ops S L ((t, v) :: env) w') : SchQ P N Q ops S ((i, false) :: L) env w := Sch.call hop hw ht hy hc h
theorem cN {gf : FuncId} {args : Array Value} {T : Value → World → Prop} (hop : opAt ops i = some (none, op, g)) (hw : wantedE ops env g = some true)
    (hy : Enters P N env op w gf args) (hc : Calls P gf args w (Ret T))
    (h : ∀ v w', T v w' → S w' ∧ SchQ P N Q ops S L env w') : SchQ P N Q ops S ((i, false) :: L) env w := Sch.call hop hw rfl hy hc h
theorem ent {gf : FuncId} {xs : Array Operand} {ts : Array TypeId} {vs : List Value}
    (hcall : ∀ args w, (callFunc gf args).run P w = .ok (.enter gf args) w) (hargs : evs env xs.toList = some vs) :
    Enters P N env (.call { callee := .value (.func gf), args := xs, argTypes := ts }) w gf vs.toArray := by
  have := enters_func (P := P) (N := N) (env := env) (w := w) (ts := ts) (x := .func gf) (cap := #[]) hcall rfl hargs
  simpa using this
theorem kp {env' : Env} (hs : Sub env' env) (h : Run P f N k env' w R) : Run P f N k env w R := h.sub hs
end
def Mc (C : Nat → Nat) : Nat → Prop := fun b => C b ≠ 0
def Lim (w : World) (C : Nat → Nat) : Prop := ∀ b, C b ≠ 0 → b < w.heap.size
structure Stp (I : List Nat) (w : World) (C : Nat → Nat) (w' : World) (C' : Nat → Nat) : Prop where
  ext : Ext (fun b => C b ∈ I) w w'
  col : ∀ b, b < w.heap.size → C' b = C b
structure OwnB (w : World) (C : Nat → Nat) (j b : Nat) (o : Obj) : Prop where
  col : C b = j
  at_ : w.heap[b]? = some o
structure OwnL {α : Type} [Rep α] (w : World) (C : Nat → Nat) (j : Nat) (e : TypeId) (v : Value) (ys : List α) : Prop where
  own : OwnS w (Mc C) e v ys
  col : ∀ b, Ob v b → C b = j
section
variable {α β : Type} [Rep α] [Rep β] {w w' w'' : World} {I J : List Nat} {C C' C'' D : Nat → Nat} {x : α} {xs ys zs : List α} {v u : Value} {b o j n : Nat} {ob ob' : Obj} {e : TypeId}
theorem Stp.refl (I : List Nat) (w : World) (C : Nat → Nat) : Stp I w C w C := ⟨Ext.refl _ _, fun _ _ => rfl⟩
theorem Stp.reflF (h : Lim w C) : Stp [] w C w C := Stp.refl [] w C
theorem Stp.trans (h : Stp I w C w' C') (h' : Stp J w' C' w'' C'') (hJ : ∀ c ∈ J, c ∈ I) : Stp I w C w'' C'' :=
  ⟨h.ext.trans h'.ext (fun b hb hc => by rw [h.col b hb] at hc; exact hJ _ hc), fun b hb => (h'.col b (Nat.lt_of_lt_of_le hb h.ext.size)).trans (h.col b hb)⟩
theorem Stp.mono (h : Stp I w C w' C') (hI : ∀ c ∈ I, c ∈ J) : Stp J w C w' C' := ⟨h.ext.mono (fun b _ hc => hI _ hc), h.col⟩
theorem Stp.drew (I : List Nat) (w : World) (C : Nat → Nat) : Stp I w C { w with drawn := w.drawn + 1 } C := ⟨Ext.drew _ _, fun _ _ => rfl⟩
theorem Stp.size (h : Stp I w C w' C') : w.heap.size ≤ w'.heap.size := h.ext.size
theorem Lim.st (h : Lim w C) (hs : Stp I w C w' C) : Lim w' C := fun b hb => Nat.lt_of_lt_of_le (h b hb) hs.size
theorem RV.st (h : RV w (Mc C) x v) (hs : Stp I w C w' C') (h0 : 0 ∉ I) : RV w' (Mc C') x v :=
  RV.ext (h.sub (M' := Mc C') (fun b hb hc => by unfold Mc at *; rwa [hs.col b hb] at hc)) hs.ext (fun b hb hc => by unfold Mc; rw [hs.col b hb]; intro e; rw [e] at hc; exact h0 hc)
theorem RA.st (h : RA w (Mc C) x b o) (hs : Stp I w C w' C') (h0 : 0 ∉ I) : RA w' (Mc C') x b o :=
  RA.ext (h.sub (M' := Mc C') (fun b hb hc => by unfold Mc at *; rwa [hs.col b hb] at hc)) hs.ext (fun b hb hc => by unfold Mc; rw [hs.col b hb]; intro e; rw [e] at hc; exact h0 hc)
theorem OwnB.st (h : OwnB w C j b ob) (hs : Stp I w C w' C') (hj : j ∉ I) : OwnB w' C' j b ob :=
  ⟨(hs.col b (lt_of_at h.at_)).trans h.col, hs.ext.at' h.at_ (by rw [h.col]; exact hj)⟩
theorem OwnL.st (h : OwnL w C j e v ys) (hs : Stp I w C w' C') (h0 : 0 ∉ I) (hj : j ∉ I) : OwnL w' C' j e v ys :=
  ⟨OwnS.ext (h.own.sub (M' := Mc C') (fun b hb hc => by unfold Mc at *; rwa [hs.col b hb] at hc) (fun b hb => by have := h.own.ob b hb; unfold Mc at *; rw [hs.col b this.2]; exact this.1))
      hs.ext (fun b hb hc => by unfold Mc; rw [hs.col b hb]; intro e; rw [e] at hc; exact h0 hc) (fun b hb hc => by rw [h.col b hb] at hc; exact hj hc),
    fun b hb => (hs.col b (h.own.ob b hb).2).trans (h.col b hb)⟩
theorem OwnL.nil : OwnL w C j e (.slice none 0 0) ([] : List α) := ⟨OwnS.nil, fun b hb => by cases hb⟩
def setC (C : Nat → Nat) (b j : Nat) : Nat → Nat := fun x => if x = b then j else C x
def setB (C : Nat → Nat) (v : Value) (j : Nat) : Nat → Nat := fun x => if v.ownBlock = some x then j else C x
theorem New.st (h : New w w' ob) (C : Nat → Nat) : Stp [] w C w' C := ⟨h.ext.mono (fun b _ h => h.elim), fun _ _ => rfl⟩
theorem New.own (h : New w w' ob) (hF : Lim w C) (j : Nat) : ∃ C', Stp [] w C w' C' ∧ OwnB w' C' j w.heap.size ob ∧ Lim w' C' :=
  ⟨setC C w.heap.size j, ⟨h.ext.mono (fun b _ h => h.elim), fun b hb => by unfold setC; rw [if_neg (by omega)]⟩, ⟨by simp [setC], h.at_⟩, fun b hb => by
    unfold setC at hb
    rw [h.size]
    split at hb
    · omega
    · have := hF b hb; omega⟩
theorem Upd.own (h : Upd w w' b ob') (ho : OwnB w C j b ob) : Stp [j] w C w' C ∧ OwnB w' C j b ob' :=
  ⟨⟨h.ext.mono (fun c _ hc => by rw [show c = b from hc, ho.col]; simp), fun _ _ => rfl⟩, ⟨ho.col, h.at_⟩⟩
variable {P : Program} {N : Nat} {env : Env} {y z q : Operand} {t : TypeId}
theorem a_box {cs : List Value} (hF : Lim w C) (j : Nat) (hx : ev env y = some v) (hc : v.cells = cs.toArray) :
    Acts P N env (.box t y) w (fun u w' => ∃ C' b, u = .pointer (some ⟨b, 0, none⟩) ∧ Stp [] w C w' C' ∧ OwnB w' C' j b (.cells cs.toArray t) ∧ Lim w' C') := fun a ha o ho => by
  obtain ⟨u, w', h1, rfl, h2⟩ := acts_box (P := P) (N := N) (t := t) (w := w) hx hc a ha o ho
  obtain ⟨C', h3, h4, h5⟩ := h2.own hF j
  exact ⟨_, w', h1, C', _, rfl, h3, h4, h5⟩
theorem a_alloc {cs : List Value} (hF : Lim w C) (j : Nat) (hz : zeroB P t = some cs) :
    Acts P N env (.alloc t) w (fun u w' => ∃ C' b, u = .pointer (some ⟨b, 0, none⟩) ∧ Stp [] w C w' C' ∧ OwnB w' C' j b (.cells cs.toArray t) ∧ Lim w' C') := fun a ha o ho => by
  obtain ⟨u, w', h1, rfl, h2⟩ := acts_alloc (P := P) (N := N) (env := env) (t := t) (w := w) hz a ha o ho
  obtain ⟨C', h3, h4, h5⟩ := h2.own hF j
  exact ⟨_, w', h1, C', _, rfl, h3, h4, h5⟩
theorem a_store1 {cs : List Value} {ty : TypeId} (hx : ev env y = some (.pointer (some ⟨b, o, none⟩))) (hy : ev env z = some v) (hs : szB P t = some 1)
    (hv : v.cells = #[v]) (h1 : v.oneCell' = true) (hb : OwnB w C j b (.cells cs.toArray ty)) (ho : o < cs.length) :
    Acts P N env (.store t y z) w (fun u w' => u = undef ∧ Stp [j] w C w' C ∧ OwnB w' C j b (.cells (cs.set o v).toArray ty)) := fun a ha oo hoo => by
  obtain ⟨u, w', h2, h3, h4⟩ := acts_store1 (P := P) (N := N) (w := w) hx hy hs hv h1 hb.at_ ho a ha oo hoo
  exact ⟨u, w', h2, h3, h4.own hb⟩
theorem a_store {cs vs : List Value} {ty : TypeId} (hx : ev env y = some (.pointer (some ⟨b, o, none⟩))) (hy : ev env z = some v) (hs : szB P t = some n)
    (hv : v.cells = vs.toArray) (hl : vs.length = n) (h1 : ∀ u ∈ vs, u.oneCell' = true) (hb : OwnB w C j b (.cells cs.toArray ty)) (ho : o + n ≤ cs.length) :
    Acts P N env (.store t y z) w (fun u w' => u = undef ∧ Stp [j] w C w' C ∧ OwnB w' C j b (.cells (cs.take o ++ vs ++ cs.drop (o + n)).toArray ty)) := fun a ha oo hoo => by
  obtain ⟨u, w', h2, h3, h4⟩ := acts_store (P := P) (N := N) (w := w) hx hy hs hv hl h1 hb.at_ ho a ha oo hoo
  exact ⟨u, w', h2, h3, h4.own hb⟩
theorem a_append {bytes : Nat} {s : Value} (hF : Lim w C) (hj : j ≠ 0) (hx : ev env y = some v) (hy : ev env z = some s) (hrow : rowB P t e (sz α) bytes = true) (hsz : 0 < sz α)
    (hown : OwnL w C j e v ys) (hsrc : RV w (Mc C) zs s) (hlen : (ys.length + zs.length) * bytes ≤ 140737488355328) (h63 : ys.length + zs.length ≤ 140737488355328) :
    Acts P N env (.call { callee := .builtin .append, args := #[y, z], argTypes := #[t, t] }) w (fun v' w' => ∃ C', Stp [j] w C w' C' ∧ OwnL w' C' j e v' (ys ++ zs) ∧ Lim w' C') := fun a ha oo hoo => by
  obtain ⟨v', w', h1, h2, h3, h4⟩ := acts_append (P := P) (N := N) hx hy hrow hsz hown.own hsrc hlen h63 a ha oo hoo
  have hcol : ∀ b, b < w.heap.size → setB C v' j b = C b := fun b hb => by
    unfold setB
    split
    · rename_i e
      rcases h4 b e with h | h
      · exact (hown.col b h).symm
      · omega
    · rfl
  refine ⟨v', w', h1, setB C v' j, ⟨h3.mono (fun b _ hb => by rw [hown.col b hb]; simp), hcol⟩, ⟨h2.sub (fun b hb hc => ?_) (fun b hb => ?_), fun b hb => ?_⟩, fun b hb => ?_⟩
  · by_cases ho : Ob v' b
    · exact .inl ho
    · right
      unfold Mc setB at hc
      rw [if_neg (show ¬ v'.ownBlock = some b from ho)] at hc
      exact hc
  · unfold Mc setB; rw [if_pos (show v'.ownBlock = some b from hb)]; exact hj
  · unfold setB; rw [if_pos (show v'.ownBlock = some b from hb)]
  · by_cases ho : Ob v' b
    · exact (h2.ob b ho).2
    · unfold setB at hb
      rw [if_neg (show ¬ v'.ownBlock = some b from ho)] at hb
      exact Nat.lt_of_lt_of_le (hF b hb) h3.size
def col1 (C : Nat → Nat) : Nat → Nat := fun b => if C b = 0 then 0 else 1
def col2 (C : Nat → Nat) (i : Nat) : Nat → Nat := fun b => if C b = 0 then 0 else if C b = i then 2 else 1
theorem col1_ne (C : Nat → Nat) (b : Nat) : col1 C b ≠ 0 ↔ C b ≠ 0 := by unfold col1; split <;> simp_all
theorem col2_ne (C : Nat → Nat) (i b : Nat) : col2 C i b ≠ 0 ↔ C b ≠ 0 := by unfold col2; split <;> (try split) <;> simp_all
theorem Mc_col1 (C : Nat → Nat) : Mc (col1 C) = Mc C := by funext b; exact propext (col1_ne C b)
theorem Mc_col2 (C : Nat → Nat) (i : Nat) : Mc (col2 C i) = Mc C := by funext b; exact propext (col2_ne C i b)
theorem Lim.col1 (h : Lim w C) : Lim w (col1 C) := fun b hb => h b ((col1_ne C b).1 hb)
theorem Lim.col2 (h : Lim w C) (i : Nat) : Lim w (col2 C i) := fun b hb => h b ((col2_ne C i b).1 hb)
theorem OwnB.col2 {i : Nat} (h : OwnB w C i b ob) (hi : i ≠ 0) : OwnB w (col2 C i) 2 b ob := ⟨by unfold K.col2; rw [if_neg (by rw [h.col]; exact hi), if_pos h.col], h.at_⟩
theorem Stp.out1 (h : Stp I w (col1 C) w' C') (hI : ∀ c ∈ I, 2 ≤ c) : Stp [] w C w' C := ⟨h.ext.mono (fun b _ hc => by
  have := hI _ hc
  unfold K.col1 at this
  split at this <;> omega), fun _ _ => rfl⟩
theorem Stp.out2 {i : Nat} (h : Stp I w (col2 C i) w' C') (hI : ∀ c ∈ I, 2 ≤ c) : Stp [i] w C w' C := ⟨h.ext.mono (fun b _ hc => by
  have := hI _ hc
  simp only [List.mem_singleton]
  unfold K.col2 at this
  split at this
  · omega
  · split at this
    · assumption
    · omega), fun _ _ => rfl⟩
theorem Stp.fin_sub (hs : Stp I w D w' C') (hF : Lim w C) (hD : Mc D = Mc C) : ∀ b, C b ≠ 0 → b < w.heap.size ∧ C' b = D b ∧ D b ≠ 0 := fun b hb => by
  have h1 := hF b hb
  refine ⟨h1, hs.col b h1, ?_⟩
  have : Mc D b := by rw [hD]; exact hb
  exact this
theorem RV.out (h : RV w' (Mc C') x v) (hs : Stp I w D w' C') (hF : Lim w C) (hD : Mc D = Mc C) : RV w' (Mc C) x v :=
  h.sub (fun b _ hb => by obtain ⟨h1, h2, h3⟩ := hs.fin_sub hF hD b hb; unfold Mc; rw [h2]; exact h3)
theorem OwnL.out (h : OwnL w' C' j e v ys) (hs : Stp I w D w' C') (hF : Lim w C) (hD : Mc D = Mc C) (hj : ∀ b, b < w.heap.size → D b ≠ j) (hl : ys.length ≤ 9223372036854775807) : RV w' (Mc C) ys v :=
  h.own.read (fun b _ hb => by
    obtain ⟨h1, h2, h3⟩ := hs.fin_sub hF hD b hb
    exact ⟨by unfold Mc; rw [h2]; exact h3, fun ho => hj b h1 (by rw [← h2]; exact h.col b ho)⟩) hl
theorem col1_lt (C : Nat → Nat) {j : Nat} (hj : 2 ≤ j) (b : Nat) : col1 C b ≠ j := by unfold col1; split <;> omega
theorem col2_lt (C : Nat → Nat) (i : Nat) {j : Nat} (hj : 3 ≤ j) (b : Nat) : col2 C i b ≠ j := by unfold col2; split <;> (try split) <;> omega
theorem RA.stay (h : RA w (Mc C) x b o) (hS : Ext (fun b => C b ∈ I) w w') (h0 : 0 ∉ I) : w'.heap[b]? = w.heap[b]? := by
  obtain ⟨hb, cs, ty, fz, hc, _⟩ := h
  exact hS.block b (lt_of_at hc) (fun hm => hb (fun e => h0 (by rw [e] at hm; exact hm)))
theorem OwnB.stay (h : OwnB w C j b ob) (hS : Ext (fun b => C b ∈ I) w w') (hj : j ∉ I) : w'.heap[b]? = some ob :=
  hS.at' h.at_ (by rw [h.col]; exact hj)
theorem OwnL.lenV (h : OwnL w C j e v ys) (hy : ev env y = some v) {d : TypeId} (ht : P.underlying t = some (.slice d)) :
    ∀ w', Val P N env (.call { callee := .builtin .len, args := #[y], argTypes := #[t] }) w' (.int .i64 ys.length) := fun w' => by
  obtain ⟨a, c, rfl⟩ := h.own.len
  exact val_len_slice hy ht
end
section
variable {P : Program} {f : FuncId} {N : Nat} {k : List Item} {env : Env} {w : World} {R : Value → World → Prop} {Q : Exit → Act → World → Prop}
theorem run_draw {c : Code} {id : Nat} {ops : Array Oper} (I : List Nat) (C : Nat → Nat) (L : List (Nat × Bool)) (hm : P.follows .mixedOrders = true) (hc : c = .region id ops true)
    (hn : Region.noSelect ops = true) (hk : chk ops ops.size (Array.replicate ops.size false) L = true)
    (h : ∀ w₁, Stp [] w C w₁ C → Sch P f N k R ops (fun w' => Ext (fun b => C b ∈ I) w₁ w') L env w₁) : Run P f N (.code c :: k) env w R :=
  run_drawn _ L hm hc hn hk (Ext.refl _ _) (h _ (Stp.drew [] w C))
theorem run_draw2 {c : Code} {id : Nat} {ops : Array Oper} (I : List Nat) (C : Nat → Nat) (A : List Nat) (i : Nat) (L : List (Nat × Bool)) (i' : Nat) (L' : List (Nat × Bool)) (hm : P.follows .mixedOrders = true) (hc : c = .region id ops true)
    (hn : Region.noSelect ops = true) (hk : chk2 ops i L i' L' ops.size (Array.replicate ops.size false) A = true)
    (h : ∀ w₁, Stp [] w C w₁ C → Sch P f N k R ops (fun w' => Ext (fun b => C b ∈ I) w₁ w') (A.map (fun j => (j, true)) ++ (i, false) :: L) env w₁)
    (h' : ∀ w₁, Stp [] w C w₁ C → Sch P f N k R ops (fun w' => Ext (fun b => C b ∈ I) w₁ w') (A.map (fun j => (j, true)) ++ (i', false) :: L') env w₁) : Run P f N (.code c :: k) env w R :=
  run_drawn2 _ A i L i' L' hm hc hn hk (Ext.refl _ _) (h _ (Stp.drew [] w C)) (h' _ (Stp.drew [] w C))
end
section
variable {α : Type} [Rep α] {P : Program} {f : FuncId} {N : Nat} {k : List Item} {env : Env} {w : World} {R : Value → World → Prop} {Q : Exit → Act → World → Prop}
variable {ops : Array Oper} {S : World → Prop} {i t : Nat} {L : List (Nat × Bool)} {v : Value} {y z : Operand} {g : Option (Nat × Bool)} {ty e : TypeId} {M : Nat → Prop} {x : α} {xs : List α} {b o : Nat} {kd : IntKind} {n : Int}
theorem iS {w1 : World} (hop : opAt ops i = some (some t, .indexAddr ty y z, g)) (hw : wantedE ops env g = some true) (ht : Nat.blt t N = true) (hl : RV w1 M xs v) (hy : ev env y = some v)
    (hf : elemB P ty = some (e, sz α)) (hz : ev env z = some (.int kd n)) (h0 : 0 ≤ n) (h1 : n < xs.length)
    (h : ∀ b o, RA w1 M (xs[n.toNat]'(by omega)) b o → SchQ P N Q ops S L ((t, .pointer (some ⟨b, o, none⟩)) :: env) w) : SchQ P N Q ops S ((i, true) :: L) env w := by
  obtain ⟨b, o, h2, h3⟩ := hl.index (P := P) (N := N) hy hf hz h0 h1
  exact yS hop hw ht (fun w' _ => h3 w') (h b o h2)
theorem lN (hop : opAt ops i = some (some t, .load ty y, g)) (hw : wantedE ops env g = some true) (ht : Nat.blt t N = true) (hS : S w) (hr : RA w M x b o) (ha : aggB P ty = some false) (hx : Rep.agg α = false)
    (hy : ev env y = some (.pointer (some ⟨b, o, none⟩))) (h : ∀ v, RV w M x v → SchQ P N Q ops S L ((t, v) :: env) w) : SchQ P N Q ops S ((i, false) :: L) env w := by
  obtain ⟨v, h2, h3⟩ := hr.load (P := P) (N := N) ha hx hy
  exact nS hop hw ht hS (h3 w rfl) (h v h2)
theorem lS {w1 : World} (hop : opAt ops i = some (some t, .load ty y, g)) (hw : wantedE ops env g = some true) (ht : Nat.blt t N = true) (hst : ∀ w', S w' → w'.heap[b]? = w1.heap[b]?) (hr : RA w1 M x b o) (ha : aggB P ty = some false) (hx : Rep.agg α = false)
    (hy : ev env y = some (.pointer (some ⟨b, o, none⟩))) (h : ∀ v, RV w1 M x v → SchQ P N Q ops S L ((t, v) :: env) w) : SchQ P N Q ops S ((i, true) :: L) env w := by
  obtain ⟨v, h2, h3⟩ := hr.load (P := P) (N := N) ha hx hy
  exact yS hop hw ht (fun w' hS => h3 w' (hst w' hS)) (h v h2)
theorem lNA (hop : opAt ops i = some (some t, .load ty y, g)) (hw : wantedE ops env g = some true) (ht : Nat.blt t N = true) (hS : S w) (hr : RA w M x b o) (ha : aggB P ty = some true) (hs : szB P ty = some (sz α)) (hx : Rep.agg α = true)
    (hy : ev env y = some (.pointer (some ⟨b, o, none⟩))) (h : ∀ v, RV w M x v → SchQ P N Q ops S L ((t, v) :: env) w) : SchQ P N Q ops S ((i, false) :: L) env w := by
  obtain ⟨v, h2, h3⟩ := hr.loadAgg (P := P) (N := N) ha hs hx hy
  exact nS hop hw ht hS (h3 w rfl) (h v h2)
theorem lSA {w1 : World} (hop : opAt ops i = some (some t, .load ty y, g)) (hw : wantedE ops env g = some true) (ht : Nat.blt t N = true) (hst : ∀ w', S w' → w'.heap[b]? = w1.heap[b]?) (hr : RA w1 M x b o) (ha : aggB P ty = some true) (hs : szB P ty = some (sz α)) (hx : Rep.agg α = true)
    (hy : ev env y = some (.pointer (some ⟨b, o, none⟩))) (h : ∀ v, RV w1 M x v → SchQ P N Q ops S L ((t, v) :: env) w) : SchQ P N Q ops S ((i, true) :: L) env w := by
  obtain ⟨v, h2, h3⟩ := hr.loadAgg (P := P) (N := N) ha hs hx hy
  exact yS hop hw ht (fun w' hS => h3 w' (hst w' hS)) (h v h2)
end
def frz (n : Nat) (C : Nat → Nat) : Nat → Nat := fun b => if n ≤ C b then 0 else C b
section
variable {α : Type} [Rep α] {w w' w₀ : World} {I : List Nat} {C C' C₀ : Nat → Nat} {x : α} {ys : List α} {v : Value} {b o j n : Nat} {ob : Obj} {e : TypeId}
theorem Mc_frz (h : Mc (frz n C) b) : Mc C b ∧ C b < n := by
  unfold Mc frz at *
  split at h
  · exact absurd rfl h
  · exact ⟨h, by omega⟩
theorem Lim.frz (h : Lim w C) (n : Nat) : Lim w (frz n C) := fun b hb => h b (Mc_frz hb).1
theorem RV.frz (h : RV w (Mc C) x v) (n : Nat) : RV w (Mc (K.frz n C)) x v := h.sub (fun b _ hb => (Mc_frz hb).1)
theorem RA.frz (h : RA w (Mc C) x b o) (n : Nat) : RA w (Mc (K.frz n C)) x b o := h.sub (fun b _ hb => (Mc_frz hb).1)
theorem OwnL.frz (h : OwnL w C j e v ys) (hj : n ≤ j) (hl : ys.length ≤ 9223372036854775807) : RV w (Mc (K.frz n C)) ys v :=
  h.own.read (fun b _ hb => ⟨(Mc_frz hb).1, fun ho => by have := (Mc_frz hb).2; rw [h.col b ho] at this; omega⟩) hl
theorem OwnL.frzK (h : OwnL w C j e v ys) (hj : j < n) : OwnL w (K.frz n C) j e v ys :=
  ⟨h.own.sub (fun b _ hb => (Mc_frz hb).1) (fun b hb => by unfold Mc K.frz; rw [h.col b hb, if_neg (by omega)]; have := (h.own.ob b hb).1; unfold Mc at this; rw [h.col b hb] at this; exact this),
   fun b hb => by unfold K.frz; rw [h.col b hb, if_neg (by omega)]⟩
theorem OwnB.frz (h : OwnB w C j b ob) (hj : j < n) : OwnB w (K.frz n C) j b ob := ⟨by unfold K.frz; rw [h.col, if_neg (by omega)], h.at_⟩
theorem OwnB.frzM (h : OwnB w C j b ob) (hj : n ≤ j) : ¬ Mc (K.frz n C) b := fun hm => by have := (Mc_frz hm).2; rw [h.col] at this; omega
theorem Stp.frz (h : Stp I w₀ C₀ w C) (h0 : ∀ b, C₀ b < n) : Stp I w₀ C₀ w (K.frz n C) :=
  ⟨h.ext, fun b hb => by unfold K.frz; rw [h.col b hb, if_neg (by have := h0 b; omega)]⟩
theorem col1_lt2 (C : Nat → Nat) (b : Nat) : col1 C b < 2 := by unfold col1; split <;> omega
theorem OwnL.one (h : OwnL w C j e v ys) : v.cells = #[v] ∧ v.oneCell' = true := by
  obtain ⟨a, c, rfl⟩ := h.own.len; exact ⟨rfl, rfl⟩
end
theorem sub_skip {env env' : Env} {t : Nat} {v : Value} (h : look env t = none) (hs : Sub env env') : Sub env ((t, v) :: env') := fun s x hx => by
  simp only [look]
  cases hb : Nat.beq t s with
  | true => rw [Nat.eq_of_beq_eq_true hb, hx] at h; cases h
  | false => exact hs s x hx
section
variable {P : Program} {f : FuncId} {N : Nat} {k : List Item} {env : Env} {w : World} {R : Value → World → Prop} {Q : Exit → Act → World → Prop} {p : Prop} [Decidable p] {op : Op}
theorem run_cut (t : Nat) (b : Bool) (C : Nat → Nat) {c : Code}
    (hreg : (∀ w' env' v, Stp [] w C w' C → look env' t = some v → v = .bool b → Sub env env' → Run P f N k env' w' R) → Run P f N (.code c :: k) env w R)
    (hcont : ∀ w', Stp [] w C w' C → Run P f N k ((t, .bool b) :: env) w' R) : Run P f N (.code c :: k) env w R :=
  hreg fun w' env' v hs hl hv hsub => (hcont w' hs).sub fun s x hx => by
    simp only [look] at hx
    cases hb : Nat.beq t s with
    | true =>
      rw [hb] at hx
      simp only [cond_true, Option.some.injEq] at hx
      rw [← Nat.eq_of_beq_eq_true hb, hl, hv, hx]
    | false => rw [hb] at hx; exact hsub s x hx
theorem val_is {v v' : Value} (h : Val P N env op w v) (e : v = v') : Val P N env op w v' := e ▸ h
theorem val_T (h : Val P N env op w (.bool (decide p))) (hp : p) : Val P N env op w (.bool true) := by rwa [decide_eq_true hp] at h
theorem val_F (h : Val P N env op w (.bool (decide p))) (hp : ¬ p) : Val P N env op w (.bool false) := by rwa [decide_eq_false hp] at h
end
abbrev yy (i : Nat) : Nat × Bool := (i, true)
abbrev nn (i : Nat) : Nat × Bool := (i, false)
section
variable {ops : Array Oper} {i : Nat}
theorem kq (t : Nat) (op : Op) (h : opAt ops i = some (some t, op, none) := by kernel_rfl) : opAt ops i = some (some t, op, none) := h
theorem kg (t : Nat) (op : Op) (g : Nat) (b : Bool) (h : opAt ops i = some (some t, op, some (g, b)) := by kernel_rfl) : opAt ops i = some (some t, op, some (g, b)) := h
theorem k0 (op : Op) (h : opAt ops i = some (none, op, none) := by kernel_rfl) : opAt ops i = some (none, op, none) := h
end
def isReg (c : Code) (d : Bool) : Bool := match c with | .region _ _ d' => d' == d | _ => false
theorem isReg_eq {c : Code} {d : Bool} (h : isReg c d = true) : ∃ id, c = .region id (rops c) d := by
  cases c with
  | region id ops d' => exact ⟨id, by unfold isReg at h; simp only [beq_iff_eq] at h; subst h; rfl⟩
  | _ => cases h
section
variable {P : Program} {f : FuncId} {N : Nat} {k : List Item} {env : Env} {w w' : World} {R : Value → World → Prop} {Q : Exit → Act → World → Prop}
variable {ops : Array Oper} {S : World → Prop} {i t : Nat} {L : List (Nat × Bool)} {op : Op} {v : Value} {x y z : Operand} {g : Option (Nat × Bool)}
theorem yV (hop : opAt ops i = some (some t, op, g)) (hy : ∀ w', Val P N env op w' v) (h : SchQ P N Q ops S L ((t, v) :: env) w) (hw : wantedE ops env g = some true := by rfl) (ht : Nat.blt t N = true := by rfl) :
    SchQ P N Q ops S ((i, true) :: L) env w := yS hop hw ht (fun w' _ => hy w') h
theorem run_pl {c : Code} (L : List (Nat × Bool)) (h : Sch P f N k R (rops c) (fun _ => True) L env w) (hc : isReg c false = true := by kernel_rfl) (hL : L.map (·.1) = List.range (rops c).size := by kernel_rfl) : Run P f N (.code c :: k) env w R := by
  obtain ⟨id, e⟩ := isReg_eq hc
  exact run_plain L e hL h
def isSq (c : Code) : Bool := match c with | .seq _ _ => true | _ => false
def isBk (c : Code) (i : Nat) : Bool := match c with | .block j _ => Nat.beq j i | _ => false
def isSk (c : Code) : Bool := match c with | .skip => true | _ => false
def isEx (c : Code) (i : Nat) : Bool := match c with | .exit j => Nat.beq j i | _ => false
def isLp (c : Code) : Bool := match c with | .loop _ => true | _ => false
def cnd (c : Code) : Operand := match c with | .cond o _ _ => o | _ => .tmp 0
def isCd (c : Code) (i : Nat) : Bool := match c with | .cond (.tmp j) _ _ => Nat.beq j i | _ => false
theorem run_sq {c : Code} (h : Run P f N (.code (cl c) :: .code (cr c) :: k) env w R) (hc : isSq c = true := by kernel_rfl) : Run P f N (.code c :: k) env w R :=
  run_seq (by cases c with | seq a b => rfl | _ => cases hc) h
theorem run_bk {c : Code} (id : Nat) (h : Run P f N (.code (cl c) :: .inBlock id :: k) env w R) (hc : isBk c id = true := by kernel_rfl) : Run P f N (.code c :: k) env w R :=
  run_block (by cases c with | block a b => simp only [isBk] at hc; rw [Nat.eq_of_beq_eq_true hc]; rfl | _ => cases hc) h
theorem run_sk {c : Code} (h : Run P f N k env w R) (hc : isSk c = true := by kernel_rfl) : Run P f N (.code c :: k) env w R :=
  run_skip (by cases c with | skip => rfl | _ => cases hc) h
theorem run_ex {c : Code} (id : Nat) {k' : List Item} (h : Run P f N k' env w R) (hc : isEx c id = true := by kernel_rfl) (hk : exitTo id k = some k' := by exact rfl) : Run P f N (.code c :: k) env w R :=
  run_exit (by cases c with | exit a => simp only [isEx] at hc; rw [Nat.eq_of_beq_eq_true hc] | _ => cases hc) hk h
theorem isCd_eq {c : Code} {t : Nat} (hc : isCd c t = true) : c = .cond (.tmp t) (cl c) (cr c) := by
  cases c with
  | cond o a b => cases o with | tmp j => simp only [isCd] at hc; rw [Nat.eq_of_beq_eq_true hc]; rfl | _ => cases hc
  | _ => cases hc
theorem run_i {c : Code} (t : Nat) {p : Prop} [Decidable p] (hv : look env t = some (.bool (decide p))) (ht : p → Run P f N (.code (cl c) :: k) env w R) (hf : ¬ p → Run P f N (.code (cr c) :: k) env w R) (hc : isCd c t = true := by kernel_rfl) : Run P f N (.code c :: k) env w R :=
  run_if (isCd_eq hc) hv ht hf
theorem run_c {c : Code} (t : Nat) {b : Bool} (hv : look env t = some (.bool b)) (ht : b = true → Run P f N (.code (cl c) :: k) env w R) (hf : b = false → Run P f N (.code (cr c) :: k) env w R) (hc : isCd c t = true := by kernel_rfl) : Run P f N (.code c :: k) env w R :=
  run_cond (isCd_eq hc) hv ht hf
theorem run_cT {c : Code} (t : Nat) (h : Run P f N (.code (cl c) :: k) env w R) (hc : isCd c t = true := by kernel_rfl) (hv : look env t = some (.bool true) := by exact rfl) : Run P f N (.code c :: k) env w R :=
  run_cond (isCd_eq hc) hv (fun _ => h) (fun h => by cases h)
theorem run_cF {c : Code} (t : Nat) (h : Run P f N (.code (cr c) :: k) env w R) (hc : isCd c t = true := by kernel_rfl) (hv : look env t = some (.bool false) := by exact rfl) : Run P f N (.code c :: k) env w R :=
  run_cond (isCd_eq hc) hv (fun h => by cases h) (fun _ => h)
theorem run_lp {c : Code} {ι : Type} (I : ι → World → Prop) (e : ι → Env) (m : ι → Nat) (x₀ : ι) (hs : Sub (e x₀) env) (h0 : I x₀ w)
    (hr : ∀ x w, I x w → (∀ y w', I y w' → m y < m x → Run P f N (.inLoop (cl c) :: k) (e y) w' R) → Run P f N (.code (cl c) :: .inLoop (cl c) :: k) (e x) w R) (hc : isLp c = true := by kernel_rfl) :
    Run P f N (.code c :: k) env w R := run_loop I e m x₀ (by cases c with | loop b => rfl | _ => cases hc) hs h0 hr
theorem yM (t a : Nat) (h : SchQ P N Q ops S L ((t, v) :: env) w) (hop : opAt ops i = some (some t, .move (.tmp a), none) := by kernel_rfl) (hy : look env a = some v := by exact rfl) (ht : Nat.blt t N = true := by rfl) :
    SchQ P N Q ops S ((i, true) :: L) env w := yV hop (fun _ => val_move hy) h rfl ht
theorem yA (t a : Nat) (h : SchQ P N Q ops S L ((t, v) :: env) w) (hop : opAt ops i = some (some t, .assign (.tmp a), none) := by kernel_rfl) (hy : look env a = some v := by exact rfl) (ht : Nat.blt t N = true := by rfl) :
    SchQ P N Q ops S ((i, true) :: L) env w := yV hop (fun _ => val_assign hy) h rfl ht
theorem yAc (t : Nat) (v : Value) (h : SchQ P N Q ops S L ((t, v) :: env) w) (hop : opAt ops i = some (some t, .assign (.const v), none) := by kernel_rfl) (ht : Nat.blt t N = true := by rfl) :
    SchQ P N Q ops S ((i, true) :: L) env w := yV hop (fun _ => val_assign rfl) h rfl ht
theorem yN (t a : Nat) {q : Addr} (h : SchQ P N Q ops S L ((t, .pointer (some q)) :: env) w) (hop : opAt ops i = some (some t, .nilCheck (.tmp a), none) := by kernel_rfl) (hy : look env a = some (.pointer (some q)) := by exact rfl) (ht : Nat.blt t N = true := by rfl) :
    SchQ P N Q ops S ((i, true) :: L) env w := yV hop (fun _ => val_nilCheck hy) h rfl ht
theorem yMg (t a : Nat) (j : Nat) (b : Bool) (h : SchQ P N Q ops S L ((t, v) :: env) w) (hop : opAt ops i = some (some t, .move (.tmp a), some (j, b)) := by kernel_rfl) (hy : look env a = some v := by exact rfl) (hw : wantedE ops env (some (j, b)) = some true := by rfl) (ht : Nat.blt t N = true := by rfl) :
    SchQ P N Q ops S ((i, true) :: L) env w := yV hop (fun _ => val_move hy) h hw ht
theorem yOf (t a b : Nat) (h : SchQ P N Q ops S L ((t, v) :: env) w) (hop : opAt ops i = some (some t, .pick (.tmp a) (.const (.bool true)) (.tmp b), none) := by kernel_rfl) (ha : look env a = some (.bool false) := by exact rfl) (hy : look env b = some v := by exact rfl) (ht : Nat.blt t N = true := by rfl) :
    SchQ P N Q ops S ((i, true) :: L) env w := yV hop (fun _ => val_pick_f ha hy) h rfl ht
theorem yOt (t a b : Nat) (h : SchQ P N Q ops S L ((t, .bool true) :: env) w) (hop : opAt ops i = some (some t, .pick (.tmp a) (.const (.bool true)) (.tmp b), none) := by kernel_rfl) (ha : look env a = some (.bool true) := by exact rfl) (ht : Nat.blt t N = true := by rfl) :
    SchQ P N Q ops S ((i, true) :: L) env w := yV hop (fun _ => val_pick_t ha rfl) h rfl ht
theorem yAt (t a b : Nat) (h : SchQ P N Q ops S L ((t, v) :: env) w) (hop : opAt ops i = some (some t, .pick (.tmp a) (.tmp b) (.const (.bool false)), none) := by kernel_rfl) (ha : look env a = some (.bool true) := by exact rfl) (hy : look env b = some v := by exact rfl) (ht : Nat.blt t N = true := by rfl) :
    SchQ P N Q ops S ((i, true) :: L) env w := yV hop (fun _ => val_pick_t ha hy) h rfl ht
theorem yAf (t a b : Nat) (h : SchQ P N Q ops S L ((t, .bool false) :: env) w) (hop : opAt ops i = some (some t, .pick (.tmp a) (.tmp b) (.const (.bool false)), none) := by kernel_rfl) (ha : look env a = some (.bool false) := by exact rfl) (ht : Nat.blt t N = true := by rfl) :
    SchQ P N Q ops S ((i, true) :: L) env w := yV hop (fun _ => val_pick_f ha rfl) h rfl ht
theorem yF (t T a q off : Nat) {b o : Nat} (h : SchQ P N Q ops S L ((t, .pointer (some ⟨b, o + off, none⟩)) :: env) w) (hop : opAt ops i = some (some t, .fieldAddr T (.tmp a) q, none) := by kernel_rfl) (hf : fieldB P T q = some off := by kernel_rfl) (hy : look env a = some (.pointer (some ⟨b, o, none⟩)) := by exact rfl) (ht : Nat.blt t N = true := by rfl) :
    SchQ P N Q ops S ((i, true) :: L) env w := yV hop (fun _ => val_fieldAddr (off := off) hf hy) h rfl ht
theorem yFg (t T a q off : Nat) (j : Nat) (bb : Bool) {b o : Nat} (h : SchQ P N Q ops S L ((t, .pointer (some ⟨b, o + off, none⟩)) :: env) w) (hop : opAt ops i = some (some t, .fieldAddr T (.tmp a) q, some (j, bb)) := by kernel_rfl) (hf : fieldB P T q = some off := by kernel_rfl) (hy : look env a = some (.pointer (some ⟨b, o, none⟩)) := by exact rfl) (hw : wantedE ops env (some (j, bb)) = some true := by rfl) (ht : Nat.blt t N = true := by rfl) :
    SchQ P N Q ops S ((i, true) :: L) env w := yV hop (fun _ => val_fieldAddr (off := off) hf hy) h hw ht
def opG (ops : Array Oper) (i : Nat) : Option (Option Nat × Option (Nat × Bool)) := (opAt ops i).map (fun x => (x.1, x.2.2))
theorem opG_eq {t : Option Nat} (h : opG ops i = some (t, g)) : ∃ op, opAt ops i = some (t, op, g) := by
  unfold opG at h
  cases hx : opAt ops i with
  | none => rw [hx] at h; cases h
  | some y => obtain ⟨p, q, r⟩ := y; rw [hx] at h; simp only [Option.map_some, Option.some.injEq, Prod.mk.injEq] at h; exact ⟨q, by rw [h.1, h.2]⟩
theorem pX (t j : Nat) (b : Bool) (h : SchQ P N Q ops S L ((t, undef) :: env) w) (hop : opG ops i = some (some t, some (j, b)) := by kernel_rfl) (hw : wantedE ops env (some (j, b)) = some false := by rfl) (ht : Nat.blt t N = true := by rfl) :
    SchQ P N Q ops S ((i, true) :: L) env w := by
  obtain ⟨op, e⟩ := opG_eq hop
  exact pS e hw ht h
theorem sr (t : Nat) {v : Value} {env' env : Env} (h : Sub env' env) (hl : look env t = some v := by exact rfl) : Sub ((t, v) :: env') env := sub_cons t hl rfl h
def skB (z : Env) : Nat → Env → Bool
  | 0, _ => true
  | n + 1, (t, _) :: e => (match look z t with | none => true | some _ => false) && skB z n e
  | _ + 1, [] => false
theorem skB_ok (z : Env) : ∀ (n : Nat) (e : Env), e.drop n = z → skB z n e = true → Sub z e
  | 0, e, he, _ => by rw [← he]; exact Sub.refl _
  | n + 1, (t, v) :: e, he, h => by
    simp only [skB, Bool.and_eq_true] at h
    exact sub_skip (by have := h.1; split at this <;> first | assumption | cases this) (skB_ok z n e he h.2)
  | _ + 1, [], _, h => by cases h
theorem sk (n : Nat) {env env' : Env} (he : env'.drop n = env := by exact rfl) (h : skB env n env' = true := by kernel_rfl) : Sub env env' := skB_ok env n env' he h
end
section
variable {α : Type} [Rep α] {w w' w'' : World} {I J : List Nat} {C C' C'' : Nat → Nat} {x : α} {ys : List α} {v : Value} {b o j : Nat} {ob : Obj} {e : TypeId}
theorem RV.t (h : RV w (Mc C) x v) (hs : Stp I w C w' C') (h0 : 0 ∉ I := by first | decide | (simp <;> omega)) : RV w' (Mc C') x v := h.st hs h0
theorem RA.t (h : RA w (Mc C) x b o) (hs : Stp I w C w' C') (h0 : 0 ∉ I := by first | decide | (simp <;> omega)) : RA w' (Mc C') x b o := h.st hs h0
theorem OwnB.t (h : OwnB w C j b ob) (hs : Stp I w C w' C') (hj : j ∉ I := by first | decide | (simp <;> omega)) : OwnB w' C' j b ob := h.st hs hj
theorem OwnL.t (h : OwnL w C j e v ys) (hs : Stp I w C w' C') (h0 : 0 ∉ I := by first | decide | (simp <;> omega)) (hj : j ∉ I := by first | decide | (simp <;> omega)) : OwnL w' C' j e v ys := h.st hs h0 hj
theorem Stp.t (h : Stp I w C w' C') (h' : Stp J w' C' w'' C'') (hJ : ∀ c ∈ J, c ∈ I := by simp) : Stp I w C w'' C'' := h.trans h' hJ
theorem RA.sy (h : RA w (Mc C) x b o) (hS : Ext (fun b => C b ∈ I) w w') (h0 : 0 ∉ I := by first | decide | (simp <;> omega)) : w'.heap[b]? = w.heap[b]? := h.stay hS h0
theorem OwnB.sy (h : OwnB w C j b ob) (hS : Ext (fun b => C b ∈ I) w w') (hj : j ∉ I := by first | decide | (simp <;> omega)) : w'.heap[b]? = some ob := h.stay hS hj
end
section
variable {P : Program} {f : FuncId} {N : Nat} {k : List Item} {env : Env} {w w' : World} {R : Value → World → Prop} {Q : Exit → Act → World → Prop}
variable {ops : Array Oper} {S : World → Prop} {i t : Nat} {L : List (Nat × Bool)} {op : Op} {v : Value} {x y z : Operand} {g : Option (Nat × Bool)}
theorem yI (t T a : Nat) (c : Int) {m : Int} (h : SchQ P N Q ops S L ((t, .int .i64 (m + c)) :: env) w) (hop : opAt ops i = some (some t, .binOp .add T (.tmp a) (.const (.int .i64 c)) T, none) := by kernel_rfl) (hy : look env a = some (.int .i64 m) := by exact rfl)
    (h1 : -9223372036854775808 ≤ m + c := by omega) (h2 : m + c ≤ 9223372036854775807 := by omega) (ht : Nat.blt t N = true := by rfl) : SchQ P N Q ops S ((i, true) :: L) env w := yV hop (fun _ => val_addi hy rfl h1 h2) h rfl ht
theorem yL (t T a b : Nat) {kd : IntKind} {m n : Int} (h : SchQ P N Q ops S L ((t, .bool (decide (m < n))) :: env) w) (hop : opAt ops i = some (some t, .binOp .lss T (.tmp a) (.tmp b) T, none) := by kernel_rfl) (hy : look env a = some (.int kd m) := by exact rfl) (hz : look env b = some (.int kd n) := by exact rfl)
    (ht : Nat.blt t N = true := by rfl) : SchQ P N Q ops S ((i, true) :: L) env w := yV hop (fun _ => val_lss hy hz) h rfl ht
theorem yE (t a q : Nat) {vs : Array Value} (h : SchQ P N Q ops S L ((t, v) :: env) w) (hop : opAt ops i = some (some t, .extract (.tmp a) q, none) := by kernel_rfl) (hy : look env a = some (.tuple vs) := by exact rfl) (hz : vs[q]? = some v := by exact rfl)
    (ht : Nat.blt t N = true := by rfl) : SchQ P N Q ops S ((i, true) :: L) env w := yV hop (fun _ => val_extract hy hz) h rfl ht
theorem yC (t : Nat) (v : Value) (h : SchQ P N Q ops S L ((t, v) :: env) w) (hop : opAt ops i = some (some t, .move (.const v), none) := by kernel_rfl) (ht : Nat.blt t N = true := by rfl) :
    SchQ P N Q ops S ((i, true) :: L) env w := yV hop (fun _ => val_move rfl) h rfl ht
theorem cF (t gf : Nat) (az tys : List Nat) {vs : List Value} {T : Value → World → Prop} (hcall : ∀ args w, (callFunc gf args).run P w = .ok (.enter gf args) w) (hargs : evs env (az.map .tmp) = some vs) (hc : Calls P gf vs.toArray w (Ret T))
    (h : ∀ v w', T v w' → S w' ∧ SchQ P N Q ops S L ((t, v) :: env) w') (hop : opAt ops i = some (some t, .call { callee := .value (.func gf), args := (az.map .tmp).toArray, argTypes := tys.toArray }, none) := by kernel_rfl) (ht : Nat.blt t N = true := by rfl) : SchQ P N Q ops S ((i, false) :: L) env w :=
  cS hop rfl ht (ent hcall (by simpa using hargs)) hc h
end
section
variable {P : Program} {N : Nat} {env : Env} {w : World} {Q : Exit → Act → World → Prop} {ops : Array Oper} {i t : Nat} {L : List (Nat × Bool)} {op : Op} {g : Option (Nat × Bool)} {T : Value → World → Prop}
theorem aT (hop : opAt ops i = some (some t, op, g)) (hw : wantedE ops env g = some true) (ht : Nat.blt t N = true) (hy : Acts P N env op w T) (h : ∀ v w', T v w' → SchQ P N Q ops (fun _ => True) L ((t, v) :: env) w') :
    SchQ P N Q ops (fun _ => True) ((i, false) :: L) env w := aS hop hw ht hy fun v w' hT => ⟨trivial, h v w' hT⟩
theorem aU (hop : opAt ops i = some (none, op, g)) (hw : wantedE ops env g = some true) (hy : Acts P N env op w T) (h : ∀ v w', T v w' → SchQ P N Q ops (fun _ => True) L env w') :
    SchQ P N Q ops (fun _ => True) ((i, false) :: L) env w := aN hop hw hy fun v w' hT => ⟨trivial, h v w' hT⟩
theorem cT {gf : FuncId} {args : Array Value} (hop : opAt ops i = some (some t, op, g)) (hw : wantedE ops env g = some true) (ht : Nat.blt t N = true) (hy : Enters P N env op w gf args) (hc : Calls P gf args w (Ret T))
    (h : ∀ v w', T v w' → SchQ P N Q ops (fun _ => True) L ((t, v) :: env) w') : SchQ P N Q ops (fun _ => True) ((i, false) :: L) env w := cS hop hw ht hy hc fun v w' hT => ⟨trivial, h v w' hT⟩
theorem cU {gf : FuncId} {args : Array Value} (hop : opAt ops i = some (none, op, g)) (hw : wantedE ops env g = some true) (hy : Enters P N env op w gf args) (hc : Calls P gf args w (Ret T))
    (h : ∀ v w', T v w' → SchQ P N Q ops (fun _ => True) L env w') : SchQ P N Q ops (fun _ => True) ((i, false) :: L) env w := cN hop hw hy hc fun v w' hT => ⟨trivial, h v w' hT⟩
theorem cG (t gf : Nat) (az tys : List Nat) {vs : List Value} (hcall : ∀ args w, (callFunc gf args).run P w = .ok (.enter gf args) w) (hargs : evs env (az.map .tmp) = some vs) (hc : Calls P gf vs.toArray w (Ret T))
    (h : ∀ v w', T v w' → SchQ P N Q ops (fun _ => True) L ((t, v) :: env) w') (hop : opAt ops i = some (some t, .call { callee := .value (.func gf), args := (az.map .tmp).toArray, argTypes := tys.toArray }, none) := by kernel_rfl) (ht : Nat.blt t N = true := by rfl) :
    SchQ P N Q ops (fun _ => True) ((i, false) :: L) env w := cF t gf az tys hcall hargs hc (fun v w' hT => ⟨trivial, h v w' hT⟩) hop ht
end
theorem c_st {P : Program} {f : FuncId} {fn : Func} (c : Code) (N : Nat) (args : List Value) {w : World} {R : Value → World → Prop} (hf : P.funcs[f]? = some fn) (h : Run P f N [.code c] (argEnv 0 args) w R)
    (hb : fn.body = some c := by kernel_rfl) (hN : fn.ntmps = N := by kernel_rfl) (hsz : Nat.ble args.length N = true := by kernel_rfl) : Calls P f args.toArray w (Ret R) := calls_start args hf hb hN hsz h
theorem rt1 {P : Program} {f : FuncId} {N : Nat} {k : List Item} {env : Env} {w : World} {R : Value → World → Prop} {c : Code} {fn : Func} {t : Nat} {v : Value} (hf : P.funcs[f]? = some fn) (hres : fn.results = #[.tmp t]) (hR : R v w) (hv : look env t = some v := by exact rfl) (hc : c = .ret := by kernel_rfl) : Run P f N (.code c :: k) env w R := run_ret1 hc hf hres hv hR
end Go.K

/- Building structs and slices. -/
namespace Go.K
open Rep
def fillL (place : Nat → Option (Nat × Nat)) : List Value → List (Nat × List Value) → Option (List Value)
  | cells, [] => some cells
  | cells, (i, vs) :: rest => match place i with
    | none => none
    | some (off, size) => if vs.length = size ∧ off + vs.length ≤ cells.length then fillL place (cells.take off ++ vs ++ cells.drop (off + vs.length)) rest else none
theorem foldl_set : ∀ (vs : List Value) (k off : Nat) (cs : List Value), off + k + vs.length ≤ cs.length →
    ((vs.zipIdx k).foldl (fun (acc : Array Value) (p : Value × Nat) => acc.setIfInBounds (off + p.2) p.1) cs.toArray) = (cs.take (off + k) ++ vs ++ cs.drop (off + k + vs.length)).toArray
  | [], k, off, cs, h => by simp
  | v :: vs, k, off, cs, h => by
    rw [List.length_cons] at h
    rw [List.zipIdx_cons, List.foldl_cons]
    have e1 : cs.toArray.setIfInBounds (off + k) v = (cs.set (off + k) v).toArray := by simp
    rw [e1, foldl_set vs (k + 1) off (cs.set (off + k) v) (by simp; omega)]
    congr 1
    have hlt : off + k < cs.length := by omega
    rw [List.set_eq_take_append_cons_drop, if_pos hlt]
    have e2 : off + (k + 1) = (cs.take (off + k)).length + 1 := by simp; omega
    have e3 : off + (k + 1) + vs.length = (cs.take (off + k)).length + (1 + vs.length) := by simp; omega
    rw [show List.take (off + (k + 1)) (cs.take (off + k) ++ v :: cs.drop (off + k + 1)) = cs.take (off + k) ++ [v] from by
      rw [e2, List.take_append]; simp [Nat.min_eq_left (Nat.le_of_lt hlt), List.take_take, Nat.min_eq_right (Nat.le_succ (off + k))]]
    rw [show List.drop (off + (k + 1) + vs.length) (cs.take (off + k) ++ v :: cs.drop (off + k + 1)) = cs.drop (off + k + (vs.length + 1)) from by
      rw [e3, List.drop_append]
      simp only [Nat.add_sub_cancel_left]
      rw [List.drop_eq_nil_of_le (by omega), List.nil_append, Nat.add_comm 1, List.drop_succ_cons, List.drop_drop]
      congr 1; omega]
    simp
theorem fill_eq (place : Nat → Option (Nat × Nat)) : ∀ (ps : List (Nat × Value)) (qs : List (Nat × List Value)) (cs cs' : List Value),
    ps.map (fun p => (p.1, p.2.cells)) = qs.map (fun q => (q.1, q.2.toArray)) → fillL place cs qs = some cs' → Instr.fill place cs.toArray ps = some cs'.toArray
  | [], [], cs, cs', _, h => by simp only [fillL, Option.some.injEq] at h; subst h; rfl
  | [], q :: qs, _, _, h, _ => by simp at h
  | p :: ps, [], _, _, h, _ => by simp at h
  | (i, v) :: ps, (j, vs) :: qs, cs, cs', h, hf => by
    simp only [List.map_cons, List.cons.injEq, Prod.mk.injEq] at h
    obtain ⟨⟨rfl, hv⟩, hr⟩ := h
    simp only [fillL] at hf
    unfold Instr.fill
    cases hp : place i with
    | none => rw [hp] at hf; cases hf
    | some os =>
      obtain ⟨off, size⟩ := os
      rw [hp] at hf
      simp only at hf ⊢
      split at hf
      · rename_i hc
        rw [hv]
        have hn : ¬ (vs.toArray.size ≠ size ∨ off + vs.toArray.size > cs.toArray.size) := by simp; omega
        simp only [List.size_toArray] at hn ⊢
        rw [if_neg (by simpa using hn)]
        have e : (vs.toArray.zipIdx.foldl (fun (acc : Array Value) (p : Value × Nat) => acc.setIfInBounds (off + p.2) p.1) cs.toArray) = (cs.take off ++ vs ++ cs.drop (off + vs.length)).toArray := by
          have := foldl_set vs 0 off cs (by simpa using hc.2)
          simpa using this
        rw [show (vs.toArray.zipIdx.foldl (fun cs (x : Value × Nat) => match x with | (c, j) => cs.setIfInBounds (off + j) c) cs.toArray) = _ from e]
        exact fill_eq place ps qs _ cs' hr hf
      · cases hf
def Parts (env : Env) : List (Nat × Operand) → List (Nat × List Value) → Prop
  | [], [] => True
  | (i, x) :: ps, (j, vs) :: qs => i = j ∧ (∃ v, ev env x = some v ∧ v.cells = vs.toArray) ∧ Parts env ps qs
  | _, _ => False
def placesB (P : Program) (t : TypeId) : Option (List (Nat × Nat)) := match P.underlying t with
  | some (.struct fs) => fs.toList.mapM fun f => (szB P f.type).map fun n => (f.offset, n)
  | _ => none
section
variable {P : Program} {N : Nat} {env : Env} {w : World} {t : TypeId} {ρ : Operand → Value}
theorem Parts.map (hρ : ∀ x v, ev env x = some v → ρ x = v) : ∀ {ps : List (Nat × Operand)} {qs : List (Nat × List Value)}, Parts env ps qs →
    (ps.map fun p => (p.1, ρ p.2)).map (fun p => (p.1, p.2.cells)) = qs.map (fun q => (q.1, q.2.toArray))
  | [], [], _ => rfl
  | [], _ :: _, h => h.elim
  | _ :: _, [], h => h.elim
  | (i, x) :: ps, (j, vs) :: qs, h => by
    obtain ⟨rfl, ⟨v, hv, hc⟩, hr⟩ := h
    simp only [List.map_cons, hρ x v hv, hc]
    rw [Parts.map hρ hr]
theorem run_map {α β : Type} (g : α → β) (s : Sem α) (w : World) : (g <$> s).run P w = (s.run P w).andThen fun a w' => .ok (g a) w' := by
  show (Sem.run P (Sem.bind s (fun a => Sem.pure (g a))) w) = _
  exact Sem.run_bind _ _ _ _
theorem run_places {ps : List (Nat × Nat)} {fs : Array Field} (h : fs.toList.mapM (fun f => (szB P f.type).map fun n => (f.offset, n)) = some ps) (w : World) :
    (fs.mapM fun f => do pure (f.offset, ← sizeOf f.type) : Sem (Array (Nat × Nat))).run P w = .ok ps.toArray w := by
  rw [Array.mapM_eq_mapM_toList]
  have main : ∀ (l : List Field) (ps : List (Nat × Nat)), l.mapM (fun f => (szB P f.type).map fun n => (f.offset, n)) = some ps →
      (l.mapM fun f => do pure (f.offset, ← sizeOf f.type) : Sem (List (Nat × Nat))).run P w = .ok ps w := by
    intro l
    induction l with
    | nil => intro ps h; simp at h; subst h; rfl
    | cons f l ih =>
      intro ps h
      rw [List.mapM_cons] at h
      simp only [Option.bind_eq_bind, Option.bind_eq_some_iff, Option.map_eq_some_iff, Option.pure_def, Option.some.injEq] at h
      obtain ⟨p, ⟨n, hn, rfl⟩, qs, hq, rfl⟩ := h
      rw [List.mapM_cons]
      rw [Sem.run_bind, Sem.run_bind, run_sizeOfB hn, Result.andThen_ok, Sem.run_pure, Result.andThen_ok, Sem.run_bind, ih qs hq, Result.andThen_ok, Sem.run_pure]
  rw [run_map, main _ _ h]
  rfl
theorem val_build {parts : Array (Nat × Operand)} {zs cs : List Value} {ps : List (Nat × Nat)} {qs : List (Nat × List Value)} (hz : zeroB P t = some zs) (hp : placesB P t = some ps)
    (hq : Parts env parts.toList qs) (hf : fillL (ps[·]?) zs qs = some cs) : Val P N env (.build t parts) w (.agg cs.toArray) := mk' fun ρ hρ o ho => by
  obtain ⟨z, h1, h2⟩ := run_zeroB hz w
  unfold placesB at hp
  split at hp
  · rename_i fs hu
    have hpl := run_places hp w
    have hmap := Parts.map hρ hq
    have hfill := fill_eq (ps[·]?) (parts.toList.map fun p => (p.1, ρ p.2)) qs zs cs (by rw [← hmap]) hf
    have hfill' : Instr.fill (fun x => ps.toArray[x]?) z.cells (parts.map fun x => (x.1, ρ x.2)).toList = some cs.toArray := by
      rw [h2]
      have : (parts.map fun x => (x.1, ρ x.2)).toList = parts.toList.map fun p => (p.1, ρ p.2) := by simp
      rw [this, ← hfill]
      congr 1
      funext x
      simp
    unfold execOp; rw [ho]
    simp only [Instr.build, Sem.run_bind, h1, Result.andThen_ok, run_underlying hu, hpl]
    rw [show (parts.map fun x => match x with | (i, x) => (i, ρ x)).toList = (parts.map fun x => (x.1, ρ x.2)).toList from rfl, hfill']
    rfl
  · cases hp
end
section
variable {α : Type} [Rep α] {P : Program} {N : Nat} {env : Env} {w : World} {M : Nat → Prop} {C : Nat → Nat} {t e : TypeId}
def Elems (env : Env) (w : World) (M : Nat → Prop) : Nat → List (Nat × Operand) → List α → Prop
  | _, [], [] => True
  | k, (i, x) :: ps, y :: ys => i = k ∧ (∃ v, ev env x = some v ∧ RV w M y v) ∧ Elems env w M (k + 1) ps ys
  | _, _, _ => False
theorem RV.cells {x : α} {v : Value} (h : RV w M x v) : ∃ vs, v.cells = vs.toArray ∧ Rep.rep w.heap M x vs := by
  cases hx : Rep.agg α with
  | true => obtain ⟨vs, rfl, _, _, hr⟩ := h.many hx; exact ⟨vs, rfl, hr⟩
  | false =>
    have h1 := (h.one hx).1
    obtain ⟨vs, hr, hv⟩ := h
    have hl := Rep.len hr
    rw [Rep.flat hx] at hl
    obtain ⟨u, rfl⟩ := List.length_eq_one_iff.1 hl
    simp only [hx, Bool.false_eq_true, if_false, List.headD_cons] at hv
    subst hv
    exact ⟨[v], h1, hr⟩
theorem elems_fill : ∀ {ps : List (Nat × Operand)} {ys : List α} {k : Nat} (pre post : List Value), Elems env w M k ps ys → pre.length = k * sz α → post.length = ys.length * sz α →
    ∃ qs news, Parts env ps qs ∧ fillL (fun i => some (i * sz α, sz α)) (pre ++ post) qs = some (pre ++ news) ∧ news.length = ys.length * sz α ∧
      ∀ i (hi : i < ys.length), Rep.rep w.heap M ys[i] ((news.drop (i * sz α)).take (sz α))
  | [], [], k, pre, post, _, _, hpost => by
    have : post = [] := List.eq_nil_of_length_eq_zero (by simpa using hpost)
    subst this
    exact ⟨[], [], trivial, by simp [fillL], by simp, fun i hi => by simp at hi⟩
  | [], _ :: _, _, _, _, h, _, _ => h.elim
  | _ :: _, [], _, _, _, h, _, _ => h.elim
  | (i, x) :: ps, y :: ys, k, pre, post, h, hpre, hpost => by
    obtain ⟨rfl, ⟨v, hv, hr⟩, hrest⟩ := h
    obtain ⟨vs, hc, hrep⟩ := hr.cells
    have hl := Rep.len hrep
    rw [List.length_cons, Nat.succ_mul] at hpost
    obtain ⟨qs, news, h1, h2, h3, h4⟩ := elems_fill (k := i + 1) (pre ++ vs) (post.drop (sz α)) hrest (by rw [List.length_append, hpre, hl, Nat.succ_mul]) (by rw [List.length_drop, hpost]; omega)
    refine ⟨(i, vs) :: qs, vs ++ news, ⟨rfl, ⟨v, hv, hc⟩, h1⟩, ?_, ?_, ?_⟩
    · simp only [fillL]
      rw [if_pos ⟨hl, by rw [List.length_append, hpre, hl, hpost]; omega⟩]
      rw [show List.take (i * sz α) (pre ++ post) = pre from by rw [← hpre]; exact List.take_left, show List.drop (i * sz α + vs.length) (pre ++ post) = post.drop (sz α) from by rw [← hpre, hl, List.drop_append]; simp]
      rw [h2, List.append_assoc]
    · rw [List.length_append, hl, h3, List.length_cons, Nat.succ_mul]; omega
    · intro j hj
      cases j with
      | zero => simpa [← hl] using hrep
      | succ j =>
        have := h4 j (by simpa using hj)
        rw [show (j + 1) * sz α = vs.length + j * sz α from by rw [hl, Nat.succ_mul]; omega, List.drop_append, List.drop_eq_nil_of_le (Nat.le_add_right vs.length (j * sz α))]
        simpa using this
theorem a_buildSlice {n bytes : Nat} {parts : Array (Nat × Operand)} {ys : List α} (hF : Lim w C) (hrow : rowB P t e (sz α) bytes = true) (hn : n = ys.length) (hsm : n * sz α ≤ 16777216) (hsz : 0 < sz α)
    (hp : Elems env w (Mc C) 0 parts.toList ys) :
    Acts P N env (.buildSlice t n parts) w (fun v w' => Stp [] w C w' C ∧ RV w' (Mc C) ys v ∧ Lim w' C) := acts' fun ρ hρ oo hoo => by
  subst hn
  obtain ⟨i, z, hu, hi, hsi, hby, hz, hzs⟩ := rowB_spec hrow
  let zs : List Value := ((Array.range (ys.length * sz α)).map fun j => (if ys.length * sz α = 0 then (#[] : Array Value) else z.cells)[j % (if ys.length * sz α = 0 then (#[] : Array Value) else z.cells).size]!).toList
  obtain ⟨qs, news, h1, h2, h3, h4⟩ := elems_fill (k := 0) [] zs hp (by simp) (by simp [zs])
  simp only [List.nil_append] at h2
  have hmap := Parts.map hρ h1
  have hfill := fill_eq _ (parts.toList.map fun p => (p.1, ρ p.2)) qs zs news (by rw [← hmap]) h2
  have hnew := new_alloc w (.cells news.toArray e)
  have hrun : (Instr.buildSlice t ys.length (parts.map fun x => (x.1, ρ x.2))).run P w = .ok (.slice (some ⟨w.heap.size, 0, none⟩) ys.length ys.length) (w.alloc (.cells news.toArray e)) := by
    have hle : ¬ (ys.length * sz α > 2 ^ 24) := by omega
    have hpl : (parts.map fun x => (x.1, ρ x.2)).toList = parts.toList.map fun p => (p.1, ρ p.2) := by simp
    have hsz' : (sizeOf e).run P w = .ok (sz α) w := by simp [sizeOf, typeInfo, hi, hsi]
    unfold Instr.buildSlice
    simp only [Sem.run_bind, run_underlying hu, Result.andThen_ok, hsz', if_neg hle, Sem.run_pure, hpl]
    by_cases h0 : ys.length * sz α = 0
    · have hzs0 : zs = ((Array.range (ys.length * sz α)).map fun j => (#[] : Array Value)[j % (#[] : Array Value).size]!).toList := by simp only [zs, h0, if_true]
      rw [hzs0] at hfill
      simp only [h0, if_true, Sem.run_bind, Sem.run_pure, Result.andThen_ok] at hfill ⊢
      simp only [Array.toArray_toList] at hfill
      rw [hfill]
      simp [newRow]
    · have hzs0 : zs = ((Array.range (ys.length * sz α)).map fun j => z.cells[j % z.cells.size]!).toList := by simp only [zs, h0, if_false]
      rw [hzs0] at hfill
      have hzv : (zeroValue e).run P w = .ok z w := by simp [zeroValue, typeInfo, hi, hz]
      simp only [h0, if_false, Sem.run_bind, hzv, Sem.run_pure, Result.andThen_ok]
      simp only [Array.toArray_toList] at hfill
      rw [hfill]
      simp [newRow]
  refine ⟨.slice (some ⟨w.heap.size, 0, none⟩) ys.length ys.length, w.alloc (.cells news.toArray e), .inl ?_, hnew.st C, ?_, hF.st (hnew.st C)⟩
  · unfold execOp; rw [hoo]
    simp only [Sem.run_bind]
    rw [show (parts.map fun x => match x with | (i, x) => (i, ρ x)) = (parts.map fun x => (x.1, ρ x.2)) from rfl, hrun]
    rfl
  · refine rv_list.2 ⟨_, _, rfl, Nat.le_refl _, ?_, .inr ⟨w.heap.size, 0, rfl, fun hm => ?_, news.toArray, e, (0, 0), hnew.at_, ?_, fun i hi => ?_⟩⟩
    · have : ys.length ≤ ys.length * sz α := Nat.le_mul_of_pos_right _ hsz
      omega
    · have := hF _ hm; omega
    · simp only [Nat.zero_add, List.size_toArray, h3]; exact Nat.le_refl _
    · have := h4 i hi
      rw [Nat.zero_add]
      exact Rep.keep this (fun b hb hm => hnew.ext.block b hb (fun h => h))
end
section
variable {P : Program} {N : Nat} {env : Env} {w : World} {C : Nat → Nat} {y z : Operand} {t ty : TypeId} {v : Value} {b j n : Nat}
theorem a_storeAll {cs vs : List Value} (hx : ev env y = some (.pointer (some ⟨b, 0, none⟩))) (hy : ev env z = some v) (hs : szB P t = some n)
    (hv : v.cells = vs.toArray) (hl : vs.length = n) (h1 : ∀ u ∈ vs, u.oneCell' = true) (hb : OwnB w C j b (.cells cs.toArray ty)) (ho : cs.length = n) :
    Acts P N env (.store t y z) w (fun u w' => u = undef ∧ Stp [j] w C w' C ∧ OwnB w' C j b (.cells vs.toArray ty)) := fun a ha oo hoo => by
  obtain ⟨u, w', h2, h3, h4, h5⟩ := a_store (P := P) (N := N) (w := w) (o := 0) hx hy hs hv hl h1 hb (by omega) a ha oo hoo
  have e : List.take 0 cs ++ vs ++ List.drop (0 + n) cs = vs := by
    rw [List.drop_eq_nil_of_le (by omega)]; simp
  rw [e] at h5
  exact ⟨u, w', h2, h3, h4, h5⟩
end
end Go.K

/- The program's types as Lean types. -/
namespace Go.K
open Rep
structure Raw (n : Nat) where
  vals : List Value
  len : vals.length = n
  one : ∀ v ∈ vals, v.oneCell' = true
instance {n : Nat} : Rep (Raw n) where
  sz := n
  agg := true
  flat h := by cases h
  rep _ _ x vs := vs = x.vals
  len h := by subst h; rename_i x; exact x.len
  one h := by subst h; rename_i x; exact x.one
  keep h _ := h
  sub h _ := h
structure Block where
  hash : Int
  ids : List Int
instance : Rep Block := Rep.via (fun b : Block => ((⟨b.hash⟩ : U64), b.ids))
structure Couple where
  a : Int
  b : Int
  deriving DecidableEq
instance : Rep Couple := Rep.via (fun c : Couple => (c.a, c.b))
section
variable {w : World} {M : Nat → Prop} {b o : Nat} {v : Value}
theorem RA.ca {x : Couple} (h : RA w M x b o) : RA w M x.a b o := RA.fst (p := (x.a, x.b)) h
theorem rv_couple {x : Couple} : RV w M x v ↔ v = .agg #[.int .i64 x.a, .int .i64 x.b] :=
  ⟨fun h => by
    obtain ⟨vs, ⟨us, ws, rfl, h1, h2⟩, hv⟩ := h
    have h1' : us = [.int .i64 x.a] := h1
    have h2' : ws = [.int .i64 x.b] := h2
    subst h1'; subst h2'; exact hv,
   fun h => ⟨[.int .i64 x.a, .int .i64 x.b], ⟨_, _, rfl, rfl, rfl⟩, h⟩⟩
end
end Go.K

/- The deck: plain. -/
namespace Go.K
open Rep
structure Dk where
  list : List Int
  at_ : Nat
  state : Int
def Dk.x (d : Dk) : Int := if h : d.at_ < d.list.length then IntKind.u64.wrap d.list[d.at_] else 0
def mix (s x : Int) : Int := IntKind.u64.wrap (IntKind.u64.wrap (IntKind.u64.wrap (s + x) * 6364136223846793005) + 1442695040888963407)
def stir1 (s : Int) : Int := bitsOf .xor .u64 s (s.fdiv (2 ^ min (33 : Int).toNat IntKind.u64.bits))
def stir2 (y : Int) : Int := bitsOf .xor .u64 y (y.fdiv (2 ^ min (29 : Int).toNat IntKind.u64.bits))
def Dk.next (d : Dk) : Dk := { list := d.list, at_ := if d.at_ < d.list.length then d.at_ + 1 else d.at_, state := mix d.state d.x }
def Dk.word (d : Dk) : Int := stir2 (IntKind.u64.wrap (stir1 d.next.state * 18397679294719823053))
theorem wrap_u64_range (n : Int) : 0 ≤ IntKind.u64.wrap n ∧ IntKind.u64.wrap n < 18446744073709551616 := by
  have h : IntKind.u64.wrap n = n % 18446744073709551616 := by simp [IntKind.wrap, IntKind.signed, IntKind.bits]
  rw [h]; exact ⟨Int.emod_nonneg _ (by decide), Int.emod_lt_of_pos _ (by decide)⟩
theorem Dk.word_range (d : Dk) : 0 ≤ d.word ∧ d.word < 18446744073709551616 := wrap_u64_range _
def Dk.num (d : Dk) (n : Int) : Int := if n < 1 then 0 else (d.word / 2) % n
def Dk.after (d : Dk) (n : Int) : Dk := if n < 1 then d else d.next
theorem Dk.num_range (d : Dk) {n : Int} (h : 1 ≤ n) : 0 ≤ d.num n ∧ d.num n < n := by
  unfold Dk.num; rw [if_neg (by omega)]
  exact ⟨Int.emod_nonneg _ (by omega), Int.emod_lt_of_pos _ (by omega)⟩
theorem Dk.after_list (d : Dk) (n : Int) : (d.after n).list = d.list := by unfold Dk.after; split <;> rfl
def DeckAt (t : TypeId) (w : World) (C : Nat → Nat) (i b : Nat) (d : Dk) : Prop :=
  d.at_ ≤ d.list.length ∧ ∃ v, RV w (Mc C) d.list v ∧ OwnB w C i b (.cells [v, .int .i64 d.at_, .int .u64 d.state].toArray t)
section
variable {t : TypeId} {w w' : World} {C C' : Nat → Nat} {i b : Nat} {d : Dk} {I : List Nat}
theorem DeckAt.st (h : DeckAt t w C i b d) (hs : Stp I w C w' C') (h0 : 0 ∉ I) (hi : i ∉ I) : DeckAt t w' C' i b d := by
  obtain ⟨h1, v, h2, h3⟩ := h
  exact ⟨h1, v, h2.st hs h0, h3.st hs hi⟩
theorem DeckAt.col2 (h : DeckAt t w C i b d) (hi : i ≠ 0) : DeckAt t w (col2 C i) 2 b d := by
  obtain ⟨h1, v, h2, h3⟩ := h
  exact ⟨h1, v, by rw [Mc_col2]; exact h2, h3.col2 hi⟩
theorem DeckAt.out {w₀ : World} {C₀ : Nat → Nat} (h : DeckAt t w' C' 2 b d) (hs : Stp I w₀ (K.col2 C₀ i) w' C') (hF : Lim w₀ C₀) (hb : C₀ b = i) : DeckAt t w' C₀ i b d := by
  obtain ⟨h1, v, h2, h3⟩ := h
  exact ⟨h1, v, h2.out hs hF (Mc_col2 C₀ i), ⟨hb, h3.at_⟩⟩
end
end Go.K

/- Own lists that are made with their length, and read and written in place. -/
namespace Go.K
open Rep
section
variable {α : Type} [Rep α] {w w' : World} {C C' : Nat → Nat} {P : Program} {N : Nat} {env : Env} {x y z q : Operand} {t ty e : TypeId} {v u : Value} {xs : List α} {j b g n : Nat}
theorem cellsAt_made {zs : List Value} {s : Nat} (hz : zs.length = s) {c i : Nat} (h : i < c) : cellsAt (madeCells zs.toArray (c * s)) (i * s) s = zs := by
  apply List.ext_getElem?
  intro k
  have hb : (i + 1) * s ≤ c * s := Nat.mul_le_mul_right s h
  rw [Nat.succ_mul] at hb
  simp only [cellsAt, List.getElem?_take, List.getElem?_drop]
  split
  · rename_i hk
    have h1 : i * s + k < c * s := by omega
    have h2 : (i * s + k) % s = k := by rw [Nat.mul_comm, Nat.mul_add_mod]; exact Nat.mod_eq_of_lt hk
    simp [madeCells, h1, hz, h2, List.getElem?_eq_getElem (show k < zs.length by omega)]
  · rename_i hk
    rw [List.getElem?_eq_none (by omega)]
theorem a_make {bytes l c : Nat} {kl kc : IntKind} {x0 : α} {zs : List Value} (hF : Lim w C) (hj : j ≠ 0) (hrow : rowB P t e (sz α) bytes = true) (hzz : zeroB P e = some zs)
    (hy : ev env y = some (.int kl l)) (hz : ev env z = some (.int kc c)) (hlc : l ≤ c) (hlen : bytes * c ≤ 140737488355328) (h63 : c ≤ 140737488355328) (h0 : ∀ h M, rep h M x0 zs) :
    Acts P N env (.makeSlice t y z) w (fun v w' => ∃ C', Stp [] w C w' C' ∧ OwnL w' C' j e v (List.replicate l x0) ∧ Lim w' C') := acts' fun ρ hρ oo hoo => by
  obtain ⟨i, zv, hu, hi, hsi, hby, hzi, hzs⟩ := rowB_spec hrow
  have hzc : zv.cells = zs.toArray := by
    unfold zeroB at hzz; rw [hi] at hzz; simp [hzi] at hzz; rw [← hzz]
  have hzl : zs.length = sz α := by rw [← hzs, hzc]; simp
  have hbc : (i.bytes : Int) * c ≤ 281474976710656 := by
    have : ((bytes * c : Nat) : Int) ≤ 140737488355328 := by omega
    rw [Int.natCast_mul] at this; rw [hby]; omega
  have hr := run_make (P := P) w t e i zv hu hi hzi kl kc l c (by omega) (by omega) hbc (by omega)
  simp only [Int.toNat_natCast, hsi, hzc] at hr
  have hn := new_alloc w (.cells (madeCells zs.toArray (c * sz α)) e (0, 0))
  obtain ⟨C', h1, h2, h3⟩ := hn.own hF j
  refine ⟨_, _, .inl ?_, C', h1, ⟨.inr ⟨w.heap.size, c, madeCells zs.toArray (c * sz α), by rw [List.length_replicate], ?_, h2.at_, by rw [List.length_replicate]; exact hlc, by simp [madeCells], fun k hk => ?_⟩, fun b hb => ?_⟩, h3⟩
  · unfold execOp; rw [hoo]
    simp only [hρ _ _ hy, hρ _ _ hz, Sem.run_bind]
    rw [hr]; rfl
  · unfold Mc; rw [h2.col]; exact hj
  · rw [List.length_replicate] at hk
    rw [cellsAt_made hzl (show k < c by omega), List.getElem_replicate]; exact h0 _ _
  · simp only [Ob, Value.ownBlock, Option.some.injEq] at hb
    subst hb; exact h2.col
theorem OwnL.at_own (h : OwnL w C j e v xs) (hne : 0 < xs.length) : ∃ g cap cs, v = .slice (some ⟨g, 0, none⟩) xs.length cap ∧ C g = j ∧ Mc C g ∧ w.heap[g]? = some (.cells cs e (0, 0)) ∧ xs.length ≤ cap ∧ cs.size = cap * sz α ∧
    ∀ i (hi : i < xs.length), rep w.heap (Mc C) xs[i] (cellsAt cs (i * sz α) (sz α)) := by
  rcases h.own with ⟨_, rfl⟩ | ⟨g, cap, cs, hv, hg, hc, h1, h2, h3⟩
  · simp at hne
  · exact ⟨g, cap, cs, hv, h.col g (by subst hv; rfl), hg, hc, h1, h2, h3⟩
theorem OwnL.index (h : OwnL w C j e v xs) (hy : ev env y = some v) {e' : Nat} {kd : IntKind} {i : Int} (hf : elemB P t = some (e', sz α)) (hz : ev env z = some (.int kd i)) (h0 : 0 ≤ i) (h1 : i < xs.length) :
    ∃ g, Ob v g ∧ ∀ w', Val P N env (.indexAddr t y z) w' (.pointer (some ⟨g, i.toNat * sz α, none⟩)) := by
  obtain ⟨g, cap, cs, rfl, _, _, hc, _⟩ := h.at_own (by omega)
  refine ⟨g, rfl, fun w' => ?_⟩
  have := val_indexAddr (P := P) (N := N) (w := w') hf hy hz h0 h1
  rwa [Nat.zero_add] at this
theorem OwnL.load (h : OwnL w C j e v xs) (hg : Ob v g) {i : Nat} (hi : i < xs.length) (ha : aggB P t = some false) (hx : Rep.agg α = false) (hy : ev env y = some (.pointer (some ⟨g, i * sz α, none⟩))) :
    ∃ u, RV w (Mc C) xs[i] u ∧ ∀ w', w'.heap[g]? = w.heap[g]? → Val P N env (.load t y) w' u := by
  obtain ⟨g', cap, cs, rfl, _, _, hc, h1, h2, h3⟩ := h.at_own (by omega)
  simp only [Ob, Value.ownBlock, Option.some.injEq] at hg
  subst hg
  have hr := h3 i hi
  have hl := Rep.len hr
  rw [Rep.flat hx] at hr hl
  obtain ⟨u, hu⟩ := List.length_eq_one_iff.1 hl
  rw [hu] at hr
  refine ⟨u, rep1_rv hr hx, fun w' hw => ?_⟩
  have hcu : cs[i * 1]? = some u := by
    have := congrArg (fun l => l[0]?) hu
    simpa [cellsAt] using this
  refine val_loadOwn (cs := cs.toList) (by rw [hw]; simpa using hc) ha ?_ hy
  rw [Rep.flat hx]; simpa using hcu
theorem OwnL.loadAgg (h : OwnL w C j e v xs) (hg : Ob v g) {i : Nat} (hi : i < xs.length) (ha : aggB P t = some true) (hs : szB P t = some (sz α)) (hx : Rep.agg α = true) (hy : ev env y = some (.pointer (some ⟨g, i * sz α, none⟩))) :
    ∃ u, RV w (Mc C) xs[i] u ∧ ∀ w', w'.heap[g]? = w.heap[g]? → Val P N env (.load t y) w' u := by
  obtain ⟨g', cap, cs, rfl, _, _, hc, h1, h2, h3⟩ := h.at_own (by omega)
  simp only [Ob, Value.ownBlock, Option.some.injEq] at hg
  subst hg
  have hr := h3 i hi
  refine ⟨.agg (cellsAt cs (i * sz α) (sz α)).toArray, ⟨_, hr, by simp [hx]⟩, fun w' hw => ?_⟩
  exact val_loadOwnAgg (cs := cs.toList) (by rw [hw]; simpa using hc) ha hs rfl (Rep.len hr) hy
theorem a_storeO {x0 : α} {i : Nat} (h : OwnL w C j e v xs) (hg : Ob v g) (hi : i < xs.length) (hy : ev env y = some (.pointer (some ⟨g, i * sz α, none⟩))) (hz : ev env z = some u) (hs : szB P t = some (sz α)) (hr : RV w (Mc C) x0 u) :
    Acts P N env (.store t y z) w (fun u' w' => u' = undef ∧ Stp [j] w C w' C ∧ OwnL w' C j e v (xs.set i x0)) := fun a ha oo hoo => by
  obtain ⟨g', cap, cs, rfl, hcol, hM, hc, h1, h2, h3⟩ := h.at_own (by omega)
  simp only [Ob, Value.ownBlock, Option.some.injEq] at hg
  subst hg
  obtain ⟨vs, hv, hrep⟩ := hr.cells
  have hb : (i + 1) * sz α ≤ cap * sz α := Nat.mul_le_mul_right _ (by omega)
  rw [Nat.succ_mul] at hb
  have hvl := Rep.len hrep
  obtain ⟨u', w', k1, k2, k3⟩ := acts_store (P := P) (N := N) (cs := cs.toList) (n := sz α) (vs := vs) hy hz hs hv hvl (Rep.one hrep) (by simpa using hc) (by simp only [Array.length_toList]; omega) a ha oo hoo
  have hst : Stp [j] w C w' C := ⟨k3.ext.mono (fun b _ hb => by rw [show b = g' from hb, hcol]; simp), fun _ _ => rfl⟩
  have keep : ∀ {x : α} {vs : List Value}, rep w.heap (Mc C) x vs → rep w'.heap (Mc C) x vs := fun hr => Rep.keep hr (fun b hb hn => k3.ext.block b hb (fun e => hn (by rw [show b = g' from e]; exact hM)))
  refine ⟨u', w', k1, k2, hst, ⟨.inr ⟨g', cap, _, by rw [List.length_set], hM, k3.at_, by rw [List.length_set]; exact h1, ?_, fun k hk => ?_⟩, h.col⟩⟩
  · simp only [List.size_toArray, List.length_append, List.length_take, List.length_drop, Array.length_toList, hvl]; omega
  · rw [List.length_set] at hk
    rw [List.getElem_set]
    split
    · rename_i hik
      subst hik
      have : cellsAt (cs.toList.take (i * sz α) ++ vs ++ cs.toList.drop (i * sz α + sz α)).toArray (i * sz α) (sz α) = vs := by
        unfold cellsAt
        simp only [List.append_assoc]
        rw [List.drop_append_of_le_length (by simp only [List.length_take, Array.length_toList]; omega), List.drop_eq_nil_of_le (by simp only [List.length_take]; omega), List.nil_append, ← hvl, List.take_left]
      rw [this]; exact keep hrep
    · rename_i hik
      have : cellsAt (cs.toList.take (i * sz α) ++ vs ++ cs.toList.drop (i * sz α + sz α)).toArray (k * sz α) (sz α) = cellsAt cs (k * sz α) (sz α) := cellsAt_ext (fun m hm => by
        rw [show ∀ (l : List Value) (p : Nat), l.toArray[p]? = l[p]? from fun l p => by simp, ← Array.getElem?_toList]
        rcases Nat.lt_or_ge k i with hlt | hge
        · have := Nat.mul_le_mul_right (sz α) (show k + 1 ≤ i from hlt)
          rw [Nat.succ_mul] at this
          rw [List.append_assoc, List.getElem?_append_left (by simp only [List.length_take, Array.length_toList]; omega), List.getElem?_take, if_pos (by omega)]
        · have := Nat.mul_le_mul_right (sz α) (show i + 1 ≤ k by omega)
          rw [Nat.succ_mul] at this
          rw [List.getElem?_append_right (by simp only [List.length_append, List.length_take, Array.length_toList, hvl]; omega), List.getElem?_drop]
          congr 1
          simp only [List.length_append, List.length_take, Array.length_toList, hvl]; omega)
      rw [this]; exact keep (h3 k hk)
end
section
variable {α : Type} [Rep α] {w : World} {C : Nat → Nat} {P : Program} {f : FuncId} {N : Nat} {k : List Item} {R : Value → World → Prop} {Q : Exit → Act → World → Prop} {env : Env} {ops : Array Oper} {S : World → Prop} {i t : Nat} {L : List (Nat × Bool)} {v : Value} {y z : Operand} {gd : Option (Nat × Bool)} {ty e e' : TypeId} {xs : List α} {j g : Nat} {kd : IntKind} {n : Int}
theorem oI (hop : opAt ops i = some (some t, .indexAddr ty y z, gd)) (hw : wantedE ops env gd = some true) (ht : Nat.blt t N = true) (hl : OwnL w C j e v xs) (hy : ev env y = some v)
    (hf : elemB P ty = some (e', sz α)) (hz : ev env z = some (.int kd n)) (h0 : 0 ≤ n) (h1 : n < xs.length)
    (h : ∀ g, Ob v g → SchQ P N Q ops S L ((t, .pointer (some ⟨g, n.toNat * sz α, none⟩)) :: env) w) : SchQ P N Q ops S ((i, true) :: L) env w := by
  obtain ⟨g, h2, h3⟩ := hl.index (P := P) (N := N) hy hf hz h0 h1
  exact yS hop hw ht (fun w' _ => h3 w') (h g h2)
theorem oN {i' : Nat} (hop : opAt ops i = some (some t, .load ty y, gd)) (hw : wantedE ops env gd = some true) (ht : Nat.blt t N = true) (hS : S w) (hl : OwnL w C j e v xs) (hg : Ob v g) (hi : i' < xs.length) (ha : aggB P ty = some false) (hx : Rep.agg α = false)
    (hy : ev env y = some (.pointer (some ⟨g, i' * sz α, none⟩))) (h : ∀ v, RV w (Mc C) xs[i'] v → SchQ P N Q ops S L ((t, v) :: env) w) : SchQ P N Q ops S ((i, false) :: L) env w := by
  obtain ⟨v, h2, h3⟩ := hl.load (P := P) (N := N) hg hi ha hx hy
  exact nS hop hw ht hS (h3 w rfl) (h v h2)
theorem oNA {i' : Nat} (hop : opAt ops i = some (some t, .load ty y, gd)) (hw : wantedE ops env gd = some true) (ht : Nat.blt t N = true) (hS : S w) (hl : OwnL w C j e v xs) (hg : Ob v g) (hi : i' < xs.length) (ha : aggB P ty = some true) (hs : szB P ty = some (sz α)) (hx : Rep.agg α = true)
    (hy : ev env y = some (.pointer (some ⟨g, i' * sz α, none⟩))) (h : ∀ v, RV w (Mc C) xs[i'] v → SchQ P N Q ops S L ((t, v) :: env) w) : SchQ P N Q ops S ((i, false) :: L) env w := by
  obtain ⟨v, h2, h3⟩ := hl.loadAgg (P := P) (N := N) hg hi ha hs hx hy
  exact nS hop hw ht hS (h3 w rfl) (h v h2)
theorem OwnL.stay {w' : World} {I : List Nat} (h : OwnL w C j e v xs) (hg : Ob v g) (hS : Ext (fun b => C b ∈ I) w w') (hj : j ∉ I) : w'.heap[g]? = w.heap[g]? :=
  hS.block g (h.own.ob g hg).2 (by rw [h.col g hg]; exact hj)
theorem OwnL.sy {w' : World} {I : List Nat} (h : OwnL w C j e v xs) (hg : Ob v g) (hS : Ext (fun b => C b ∈ I) w w') (hj : j ∉ I := by first | decide | (simp <;> omega)) : w'.heap[g]? = w.heap[g]? := h.stay hg hS hj
theorem oS {i' : Nat} {I : List Nat} (hop : opAt ops i = some (some t, .load ty y, gd)) (hw : wantedE ops env gd = some true) (ht : Nat.blt t N = true) (hl : OwnL w C j e v xs) (hg : Ob v g) (hst : ∀ w', S w' → w'.heap[g]? = w.heap[g]?) (hi : i' < xs.length) (ha : aggB P ty = some false) (hx : Rep.agg α = false)
    (hy : ev env y = some (.pointer (some ⟨g, i' * sz α, none⟩))) (h : ∀ v, RV w (Mc C) xs[i'] v → SchQ P N Q ops S L ((t, v) :: env) w) : SchQ P N Q ops S ((i, true) :: L) env w := by
  obtain ⟨v, h2, h3⟩ := hl.load (P := P) (N := N) hg hi ha hx hy
  exact yS hop hw ht (fun w' hS => h3 w' (hst w' hS)) (h v h2)
theorem oSA {i' : Nat} {I : List Nat} (hop : opAt ops i = some (some t, .load ty y, gd)) (hw : wantedE ops env gd = some true) (ht : Nat.blt t N = true) (hl : OwnL w C j e v xs) (hg : Ob v g) (hst : ∀ w', S w' → w'.heap[g]? = w.heap[g]?) (hi : i' < xs.length) (ha : aggB P ty = some true) (hs : szB P ty = some (sz α)) (hx : Rep.agg α = true)
    (hy : ev env y = some (.pointer (some ⟨g, i' * sz α, none⟩))) (h : ∀ v, RV w (Mc C) xs[i'] v → SchQ P N Q ops S L ((t, v) :: env) w) : SchQ P N Q ops S ((i, true) :: L) env w := by
  obtain ⟨v, h2, h3⟩ := hl.loadAgg (P := P) (N := N) hg hi ha hs hx hy
  exact yS hop hw ht (fun w' hS => h3 w' (hst w' hS)) (h v h2)
end
theorem zero_int {h : Array Obj} {M : Nat → Prop} : rep h M (0 : Int) [.int .i64 0] := rfl
end Go.K

/- Short rules for squeezed texts. -/
namespace Go.K
open Rep
section
variable {α : Type} [Rep α] {w w1 : World} {M : Nat → Prop} {C : Nat → Nat} {P : Program} {N : Nat} {Q : Exit → Act → World → Prop} {env : Env} {ops : Array Oper} {S : World → Prop} {i : Nat} {L : List (Nat × Bool)} {v : Value} {e1 : TypeId} {xs : List α} {j : Nat} {kd : IntKind} {n : Int}
theorem iR (e t ty a b : Nat) (hl : RV w1 M xs v) (hz : look env b = some (.int kd n)) (hop : opAt ops i = some (some t, .indexAddr ty (.tmp a) (.tmp b), none) := by kernel_rfl) (hy : look env a = some v := by exact rfl) (hf : elemB P ty = some (e, sz α) := by kernel_rfl)
    (h0 : 0 ≤ n := by omega) (h1 : n < xs.length := by omega) (ht : Nat.blt t N = true := by rfl) (h : ∀ b o, RA w1 M (xs[n.toNat]'(by omega)) b o → SchQ P N Q ops S L ((t, .pointer (some ⟨b, o, none⟩)) :: env) w) : SchQ P N Q ops S ((i, true) :: L) env w := iS hop rfl ht hl hy hf hz h0 h1 h
theorem oR (e' t ty a b : Nat) (hl : OwnL w C j e1 v xs) (hz : look env b = some (.int kd n)) (h1 : n < xs.length) (hop : opAt ops i = some (some t, .indexAddr ty (.tmp a) (.tmp b), none) := by kernel_rfl) (hy : look env a = some v := by exact rfl) (hf : elemB P ty = some (e', sz α) := by kernel_rfl)
    (h0 : 0 ≤ n := by omega) (ht : Nat.blt t N = true := by rfl) (h : ∀ g, Ob v g → SchQ P N Q ops S L ((t, .pointer (some ⟨g, n.toNat * sz α, none⟩)) :: env) w) : SchQ P N Q ops S ((i, true) :: L) env w := oI hop rfl ht hl hy hf hz h0 h1 h
theorem nO (t T a : Nat) {b o : Nat} {cs : List Value} {ty : TypeId} {fz : Nat × Nat} (hc : w.heap[b]? = some (.cells cs.toArray ty fz)) (hy : look env a = some (.pointer (some ⟨b, o, none⟩))) (hv : cs[o]? = some v) (h : SchQ P N Q ops (fun _ => True) L ((t, v) :: env) w)
    (hop : opAt ops i = some (some t, .load T (.tmp a), none) := by kernel_rfl) (ha : aggB P T = some false := by kernel_rfl) (ht : Nat.blt t N = true := by rfl) : SchQ P N Q ops (fun _ => True) ((i, false) :: L) env w := nS hop rfl ht trivial (val_loadOwn hc ha hv hy) h
end
theorem RV.c1 {α : Type} [Rep α] {w : World} {C : Nat → Nat} {x : α} {v : Value} (h : RV w (Mc C) x v) : RV w (Mc (col1 C)) x v := by rw [Mc_col1]; exact h
end Go.K

/- Parts of lists; clearing; results that lie in memory. -/
namespace Go.K
open Rep
def SubS (n : Nat) (v v2 : Value) (k m : Nat) : Prop := ∃ g l c c', v = .slice (some ⟨g, 0, none⟩) l c ∧ v2 = .slice (some ⟨g, k * n, none⟩) m c'
section
variable {α : Type} [Rep α] {w w' : World} {C C' : Nat → Nat} {P : Program} {N : Nat} {env : Env} {x y z q : Operand} {t ty e : TypeId} {v v2 u : Value} {xs : List α} {j b g n k m e' : Nat}
theorem run_sliceBound_ok {kd : IntKind} {i : Int} {y : Nat} {code : BoundsCode} {w : World} (h0 : 0 ≤ i) (h1 : i ≤ y) : (Instr.sliceBound (.int kd i) y code).run P w = .ok i.toNat w := by
  simp [Instr.sliceBound, asIntOf, h0, h1]
theorem OwnL.from_ (h : OwnL w C j e v xs) (hy : ev env y = some v) {kd : IntKind} {i : Int} (hf : elemB P t = some (e', sz α)) (hz : ev env z = some (.int kd i)) (h0 : 0 ≤ i) (h1 : i < xs.length) :
    ∃ v2, SubS (sz α) v v2 i.toNat (xs.length - i.toNat) ∧ ∀ w', Val P N env (.slice t y (some z) none none) w' v2 := by
  obtain ⟨g, cap, cs, rfl, _, _, hc, hle, _⟩ := h.at_own (by omega)
  refine ⟨.slice (some ⟨g, i.toNat * sz α, none⟩) (xs.length - i.toNat) (cap - i.toNat), ⟨g, _, _, _, rfl, rfl⟩, fun w' => mk' fun ρ hρ oo ho => ?_⟩
  unfold elemB at hf
  split at hf
  · rename_i e1 hu
    split at hf
    · rename_i n' hn
      simp only [Option.some.injEq, Prod.mk.injEq] at hf
      obtain ⟨rfl, rfl⟩ := hf
      have hb := run_sliceBound_ok (P := P) (kd := kd) (y := xs.length) (code := .sliceB) (w := w') h0 (by omega)
      have hne : ¬ cap = i.toNat := by omega
      unfold execOp; rw [ho]
      simp [hρ _ _ hy, hρ _ _ hz, Instr.sliceAt, Instr.slice, Instr.sliceBounds, run_underlying hu, run_sizeOfB hn, hb, hne, addr_add]
    · cases hf
  · cases hf
theorem OwnL.to_ (h : OwnL w C j e v xs) (hy : ev env y = some v) {kd : IntKind} {i : Int} (hf : elemB P t = some (e', sz α)) (hz : ev env z = some (.int kd i)) (h0 : 0 ≤ i) (h1 : i ≤ xs.length) (hne : 0 < xs.length) :
    ∃ v2, OwnL w C j e v2 (xs.take i.toNat) ∧ ∀ w', Val P N env (.slice t y none (some z) none) w' v2 := by
  obtain ⟨g, cap, cs, rfl, hcol, hM, hc, hle, hsz, hr⟩ := h.at_own hne
  have hl : (xs.take i.toNat).length = i.toNat := by rw [List.length_take]; omega
  refine ⟨.slice (some ⟨g, 0, none⟩) (xs.take i.toNat).length cap, ⟨.inr ⟨g, cap, cs, rfl, hM, hc, by omega, hsz, fun k hk => ?_⟩, h.col⟩, fun w' => mk' fun ρ hρ oo ho => ?_⟩
  · rw [List.getElem_take]; exact hr k (by omega)
  · unfold elemB at hf
    split at hf
    · rename_i e1 hu
      split at hf
      · rename_i n' hn
        simp only [Option.some.injEq, Prod.mk.injEq] at hf
        obtain ⟨rfl, rfl⟩ := hf
        have hb := run_sliceBound_ok (P := P) (kd := kd) (y := cap) (code := .sliceAcap) (w := w') h0 (by omega)
        unfold execOp; rw [ho]
        rw [hl]
        simp [hρ _ _ hy, hρ _ _ hz, Instr.sliceAt, Instr.slice, Instr.sliceBounds, run_underlying hu, run_sizeOfB hn, hb, addr_add]
      · cases hf
    · cases hf
theorem RV.from_ {M : Nat → Prop} (h : RV w M xs v) (hy : ev env y = some v) {kd : IntKind} {i : Int} (hf : elemB P t = some (e', sz α)) (hz : ev env z = some (.int kd i)) (h0 : 0 ≤ i) (h1 : i ≤ xs.length) :
    ∃ v2, RV w M (xs.drop i.toNat) v2 ∧ ∀ w', Val P N env (.slice t y (some z) none none) w' v2 := by
  obtain ⟨a, c, rfl, hc, hm, hs⟩ := rv_list.1 h
  have hval : ∀ w', Val P N env (.slice t y (some z) none none) w' (.slice (if c = i.toNat then a else a.map (·.add (i.toNat * sz α))) (xs.length - i.toNat) (c - i.toNat)) := fun w' => mk' fun ρ hρ oo ho => by
    unfold elemB at hf
    split at hf
    · rename_i e1 hu
      split at hf
      · rename_i n' hn
        simp only [Option.some.injEq, Prod.mk.injEq] at hf
        obtain ⟨rfl, rfl⟩ := hf
        have hb := run_sliceBound_ok (P := P) (kd := kd) (y := xs.length) (code := .sliceB) (w := w') h0 (by omega)
        unfold execOp; rw [ho]
        simp [hρ _ _ hy, hρ _ _ hz, Instr.sliceAt, Instr.slice, Instr.sliceBounds, run_underlying hu, run_sizeOfB hn, hb]
      · cases hf
    · cases hf
  refine ⟨_, ?_, hval⟩
  rw [← List.length_drop]
  refine rv_list.2 ⟨_, _, rfl, by rw [List.length_drop]; omega, by rw [List.length_drop]; omega, ?_⟩
  by_cases hd : xs.drop i.toNat = []
  · exact .inl hd
  · have hlt : i.toNat < xs.length := by
      rcases Nat.lt_or_ge i.toNat xs.length with h | h
      · exact h
      · exact absurd (List.drop_eq_nil_of_le h) hd
    rcases hs with rfl | ⟨b, o, rfl, hs⟩
    · simp at hlt
    · refine .inr ⟨b, o + i.toNat * sz α, ?_, ?_⟩
      · rw [if_neg (by omega)]; simp [addr_add]
      · obtain ⟨hb, cs, ty, fz, hc', hl, hr⟩ := hs
        refine ⟨hb, cs, ty, fz, hc', ?_, fun k hk => ?_⟩
        · rw [List.length_drop]
          have : i.toNat * sz α + (xs.length - i.toNat) * sz α = xs.length * sz α := by rw [← Nat.add_mul]; congr 1; omega
          omega
        · rw [List.length_drop] at hk
          have := hr (i.toNat + k) (by omega)
          rw [List.getElem_drop, show o + i.toNat * sz α + k * sz α = o + (i.toNat + k) * sz α from by rw [Nat.add_mul]; omega]
          exact this
theorem RV.to_ {M : Nat → Prop} (h : RV w M xs v) (hy : ev env y = some v) {kd : IntKind} {i : Int} (hf : elemB P t = some (e', sz α)) (hz : ev env z = some (.int kd i)) (h0 : 0 ≤ i) (h1 : i ≤ xs.length) :
    ∃ v2, RV w M (xs.take i.toNat) v2 ∧ ∀ w', Val P N env (.slice t y none (some z) none) w' v2 := by
  obtain ⟨a, c, rfl, hc, hm, hs⟩ := rv_list.1 h
  have hl : (xs.take i.toNat).length = i.toNat := by rw [List.length_take]; omega
  have hval : ∀ w', Val P N env (.slice t y none (some z) none) w' (.slice a (xs.take i.toNat).length c) := fun w' => mk' fun ρ hρ oo ho => by
    unfold elemB at hf
    split at hf
    · rename_i e1 hu
      split at hf
      · rename_i n' hn
        simp only [Option.some.injEq, Prod.mk.injEq] at hf
        obtain ⟨rfl, rfl⟩ := hf
        have hb := run_sliceBound_ok (P := P) (kd := kd) (y := c) (code := .sliceAcap) (w := w') h0 (by omega)
        have ha' : (if c = 0 then a else a.map (·.add 0)) = a := by
          cases a with
          | none => simp
          | some a => simp [Addr.add]
        unfold execOp; rw [ho, hl]
        simp [hρ _ _ hy, hρ _ _ hz, Instr.sliceAt, Instr.slice, Instr.sliceBounds, run_underlying hu, run_sizeOfB hn, hb, ha']
      · cases hf
    · cases hf
  refine ⟨_, ?_, hval⟩
  refine rv_list.2 ⟨_, _, rfl, by omega, by omega, ?_⟩
  rcases hs with rfl | ⟨b, o, rfl, hb, cs, ty, fz, hc', hl', hr⟩
  · left; simp
  · refine .inr ⟨b, o, rfl, hb, cs, ty, fz, hc', ?_, fun k hk => ?_⟩
    · rw [hl]
      have := Nat.mul_le_mul_right (sz α) (show i.toNat ≤ xs.length by omega)
      omega
    · rw [List.getElem_take]; exact hr k (by omega)
theorem val_indexSub {e' : Nat} {kd : IntKind} {i : Int} (hs : SubS n v v2 k m) (hg : Ob v g) (hf : elemB P t = some (e', n)) (hy : ev env y = some v2) (hz : ev env z = some (.int kd i))
    (h0 : 0 ≤ i) (h1 : i < m) : Val P N env (.indexAddr t y z) w (.pointer (some ⟨g, (k + i.toNat) * n, none⟩)) := by
  obtain ⟨g', l, c, c', rfl, rfl⟩ := hs
  simp only [Ob, Value.ownBlock, Option.some.injEq] at hg
  subst hg
  have := val_indexAddr (P := P) (N := N) (w := w) hf hy hz h0 h1
  rwa [← Nat.add_mul] at this
theorem SubS.lenV (hs : SubS n v v2 k m) (hy : ev env y = some v2) {d : TypeId} (ht : P.underlying t = some (.slice d)) :
    ∀ w', Val P N env (.call { callee := .builtin .len, args := #[y], argTypes := #[t] }) w' (.int .i64 m) := fun w' => by
  obtain ⟨g', l, c, c', rfl, rfl⟩ := hs
  exact val_len_slice hy ht
theorem OwnL.ob_ex (h : OwnL w C j e v xs) (hne : 0 < xs.length) : ∃ g, Ob v g := by
  obtain ⟨g, cap, cs, rfl, _⟩ := h.at_own hne
  exact ⟨g, rfl⟩
theorem a_clear {x0 : α} {zs : List Value} (h : OwnL w C j e v xs) (hs : SubS (sz α) v v2 k m) (hkm : k + m = xs.length) (hm : 0 < m) (hu : P.underlying t = some (.slice ty)) (hz : zeroB P ty = some zs) (h0 : ∀ h M, rep h M x0 zs) (hy : ev env y = some v2) :
    Acts P N env (.call { callee := .builtin .clear, args := #[y], argTypes := #[t] }) w (fun u' w' => Stp [j] w C w' C ∧ OwnL w' C j e v (xs.take k ++ List.replicate m x0)) := acts' fun ρ hρ oo hoo => by
  obtain ⟨g, cap, cs, rfl, hcol, hM, hc, h1, h2, h3⟩ := h.at_own (by omega)
  obtain ⟨g', l, c, c', e1, rfl⟩ := hs
  simp only [Value.slice.injEq, Option.some.injEq, Addr.mk.injEq, and_true] at e1
  obtain ⟨rfl, rfl, rfl⟩ := e1
  obtain ⟨zv, hz1, hz2⟩ := run_zeroB hz w
  have hzl : zs.length = sz α := Rep.len (h0 w.heap (Mc C))
  have hzsz : zv.cells.size = sz α := by rw [hz2]; simpa using hzl
  have hzc : (Builtin.zeroCells zv.cells m).toList.length = m * sz α := by rw [Array.length_toList, size_zeroCells, hzsz]
  have hb : (k + m) * sz α ≤ cap * sz α := Nat.mul_le_mul_right _ (by omega)
  rw [Nat.add_mul] at hb
  have hcell : ∀ i, i < m → cellsAt (Builtin.zeroCells zv.cells m) (i * sz α) (sz α) = zs := fun i hi => by
    have := cellsAt_made hzl hi
    rw [hz2]
    unfold madeCells at this
    unfold Builtin.zeroCells
    first | exact this | (rw [List.size_toArray, hzl]; exact this) | simpa [hzl] using this
  have hone : ∀ u ∈ (Builtin.zeroCells zv.cells m).toList, u.oneCell' = true := fun u hu' => by
    obtain ⟨p, hp, rfl⟩ := List.mem_iff_getElem.1 hu'
    rw [hzc] at hp
    by_cases hs0 : sz α = 0
    · rw [hs0] at hp; omega
    · have hk : p / sz α < m := (Nat.div_lt_iff_lt_mul (by omega)).2 hp
      refine Rep.one (h0 w.heap (Mc C)) _ ?_
      rw [← hcell _ hk]
      apply List.mem_iff_getElem?.2
      refine ⟨p % sz α, ?_⟩
      have hmod := Nat.mod_lt p (show 0 < sz α by omega)
      simp only [cellsAt, List.getElem?_take, if_pos hmod, List.getElem?_drop]
      rw [Nat.mul_comm, Nat.div_add_mod]
      simp [hp, hzc]
  have hst := run_storeCells_at P g (k * sz α) e (Builtin.zeroCells zv.cells m).toList 0 cs w hc (by rw [hzc]; omega) hone
  simp only [Nat.add_zero, hzc] at hst
  have hu3 := upd_setRow (cs := (List.take (k * sz α) cs.toList ++ (Builtin.zeroCells zv.cells m).toList ++ List.drop (k * sz α + m * sz α) cs.toList).toArray) hc
  have hstp : Stp [j] w C _ C := ⟨hu3.ext.mono (fun b _ hb => by rw [show b = g from hb, hcol]; simp), fun _ _ => rfl⟩
  have keep : ∀ {x : α} {vs : List Value}, rep w.heap (Mc C) x vs → rep _ (Mc C) x vs := fun hr => Rep.keep hr (fun b hb hn => hu3.ext.block b hb (fun e => hn (by rw [show b = g from e]; exact hM)))
  refine ⟨.tuple #[], _, .inl ?_, hstp, ⟨.inr ⟨g, cap, _, ?_, hM, hu3.at_, ?_, ?_, fun i hi => ?_⟩, h.col⟩⟩
  · unfold execOp; rw [hoo]
    have hm0 : m ≠ 0 := by omega
    have hrun : (Builtin.clear_ #[t] oo.type #[.slice (some ⟨g, k * sz α, none⟩) m c']).run P w = .ok (.tuple #[]) (w.setRow g (List.take (k * sz α) cs.toList ++ (Builtin.zeroCells zv.cells m).toList ++ List.drop (k * sz α + m * sz α) cs.toList).toArray) := by
      cases m with
      | zero => exact absurd rfl hm0
      | succ m => simp [Builtin.clear_, run_underlying hu, hz1, hst]
    simp [hρ _ _ hy, resolve, invoke, builtin, hrun]
  · simp; omega
  · simp; omega
  · simp only [List.size_toArray, List.length_append, List.length_take, List.length_drop, hzc, Array.length_toList]; omega
  · have hget : ∀ (l : List Value) (p : Nat), l.toArray[p]? = l[p]? := fun l p => by simp
    by_cases hik : i < k
    · have hik2 : i < (xs.take k).length := by rw [List.length_take]; omega
      rw [List.getElem_append_left hik2, List.getElem_take]
      have hb2 := Nat.mul_le_mul_right (sz α) (show i + 1 ≤ k from hik)
      rw [Nat.succ_mul] at hb2
      have hce : cellsAt (List.take (k * sz α) cs.toList ++ (Builtin.zeroCells zv.cells m).toList ++ List.drop (k * sz α + m * sz α) cs.toList).toArray (i * sz α) (sz α) = cellsAt cs (i * sz α) (sz α) := cellsAt_ext (fun r hr => by
        rw [hget, List.append_assoc, List.getElem?_append_left (by simp only [List.length_take, Array.length_toList]; omega), List.getElem?_take, if_pos (by omega), Array.getElem?_toList])
      rw [hce]; exact keep (h3 i (by omega))
    · have htl : (xs.take k).length = k := by rw [List.length_take]; omega
      rw [List.getElem_append_right (by omega), List.getElem_replicate]
      have him : i - k < m := by simp at hi; omega
      have hb3 := Nat.mul_le_mul_right (sz α) (show i - k + 1 ≤ m from him)
      rw [Nat.succ_mul] at hb3
      have hik3 : i * sz α = k * sz α + (i - k) * sz α := by rw [← Nat.add_mul]; congr 1; omega
      have hce : cellsAt (List.take (k * sz α) cs.toList ++ (Builtin.zeroCells zv.cells m).toList ++ List.drop (k * sz α + m * sz α) cs.toList).toArray (i * sz α) (sz α) = cellsAt (Builtin.zeroCells zv.cells m) ((i - k) * sz α) (sz α) := cellsAt_ext (fun r hr => by
        rw [hget, List.append_assoc, List.getElem?_append_right (by simp only [List.length_take, Array.length_toList]; omega), List.getElem?_append_left (by simp only [List.length_take, Array.length_toList, hzc]; omega), Array.getElem?_toList]
        congr 1
        simp only [List.length_take, Array.length_toList]; omega)
      rw [hce, hcell _ him]; exact h0 _ _
end
section
variable {α : Type} [Rep α] {w : World} {C : Nat → Nat} {P : Program} {f : FuncId} {N : Nat} {k : List Item} {R : Value → World → Prop} {Q : Exit → Act → World → Prop} {env : Env} {ops : Array Oper} {S : World → Prop} {i t : Nat} {L : List (Nat × Bool)} {v v2 : Value} {y z : Operand} {gd : Option (Nat × Bool)} {ty e e' : TypeId} {xs : List α} {j g : Nat} {kd : IntKind} {n : Int}
theorem sFO (hop : opAt ops i = some (some t, .slice ty y (some z) none none, gd)) (hw : wantedE ops env gd = some true) (ht : Nat.blt t N = true) (hl : OwnL w C j e v xs) (hy : ev env y = some v)
    (hf : elemB P ty = some (e', sz α)) (hz : ev env z = some (.int kd n)) (h0 : 0 ≤ n) (h1 : n < xs.length)
    (h : ∀ v2, SubS (sz α) v v2 n.toNat (xs.length - n.toNat) → SchQ P N Q ops S L ((t, v2) :: env) w) : SchQ P N Q ops S ((i, true) :: L) env w := by
  obtain ⟨v2, h2, h3⟩ := hl.from_ (P := P) (N := N) hy hf hz h0 h1
  exact yS hop hw ht (fun w' _ => h3 w') (h v2 h2)
theorem sTO (hop : opAt ops i = some (some t, .slice ty y none (some z) none, gd)) (hw : wantedE ops env gd = some true) (ht : Nat.blt t N = true) (hl : OwnL w C j e v xs) (hy : ev env y = some v)
    (hf : elemB P ty = some (e', sz α)) (hz : ev env z = some (.int kd n)) (h0 : 0 ≤ n) (h1 : n ≤ xs.length) (hne : 0 < xs.length)
    (h : ∀ v2, OwnL w C j e v2 (xs.take n.toNat) → SchQ P N Q ops S L ((t, v2) :: env) w) : SchQ P N Q ops S ((i, true) :: L) env w := by
  obtain ⟨v2, h2, h3⟩ := hl.to_ (P := P) (N := N) hy hf hz h0 h1 hne
  exact yS hop hw ht (fun w' _ => h3 w') (h v2 h2)
theorem sFR {M : Nat → Prop} (hop : opAt ops i = some (some t, .slice ty y (some z) none none, gd)) (hw : wantedE ops env gd = some true) (ht : Nat.blt t N = true) (hl : RV w M xs v) (hy : ev env y = some v)
    (hf : elemB P ty = some (e', sz α)) (hz : ev env z = some (.int kd n)) (h0 : 0 ≤ n) (h1 : n ≤ xs.length)
    (h : ∀ v2, RV w M (xs.drop n.toNat) v2 → SchQ P N Q ops S L ((t, v2) :: env) w) : SchQ P N Q ops S ((i, true) :: L) env w := by
  obtain ⟨v2, h2, h3⟩ := hl.from_ (P := P) (N := N) hy hf hz h0 h1
  exact yS hop hw ht (fun w' _ => h3 w') (h v2 h2)
theorem sTR {M : Nat → Prop} (hop : opAt ops i = some (some t, .slice ty y none (some z) none, gd)) (hw : wantedE ops env gd = some true) (ht : Nat.blt t N = true) (hl : RV w M xs v) (hy : ev env y = some v)
    (hf : elemB P ty = some (e', sz α)) (hz : ev env z = some (.int kd n)) (h0 : 0 ≤ n) (h1 : n ≤ xs.length)
    (h : ∀ v2, RV w M (xs.take n.toNat) v2 → SchQ P N Q ops S L ((t, v2) :: env) w) : SchQ P N Q ops S ((i, true) :: L) env w := by
  obtain ⟨v2, h2, h3⟩ := hl.to_ (P := P) (N := N) hy hf hz h0 h1
  exact yS hop hw ht (fun w' _ => h3 w') (h v2 h2)
end
section
variable {P : Program} {f : FuncId} {N : Nat} {k : List Item} {env : Env} {w : World} {R : Value → World → Prop} {Q : Exit → Act → World → Prop}
theorem run_cellAgg {b ty0 : Nat} {cs : List Value} {fz : Nat × Nat} {ty n : Nat} (hc : w.heap[b]? = some (.cells cs.toArray ty0 fz)) (ha : aggB P ty = some true) (hs : szB P ty = some n) (hl : cs.length = n) :
    (loadVar ty ⟨b, 0, none⟩).run P w = .ok (.agg cs.toArray) w := by
  have hcells : (loadCells ⟨b, 0, none⟩ n).run P w = .ok cs.toArray w := by
    have := run_loadCells_list (P := P) w ⟨b, 0, none⟩ cs (fun j u hu => by
      rw [addr_add, cell_of_row w b (0 + j) cs.toArray ty0 fz hc]
      rw [← hu]; simp)
    rwa [hl] at this
  simp only [loadCells] at hcells
  simp [loadVar, run_isAggB ha, run_sizeOfB hs, loadCells, hcells]
theorem run_retC1 {c : Code} {fn : Func} {a ty b : Nat} {ty0 : Nat} {cs : List Value} {fz : Nat × Nat} {n : Nat} (hc : c = .ret) (hf : P.funcs[f]? = some fn) (hres : fn.results = #[.cell a ty]) (hv : look env a = some (.pointer (some ⟨b, 0, none⟩)))
    (hb : w.heap[b]? = some (.cells cs.toArray ty0 fz)) (ha : aggB P ty = some true) (hs : szB P ty = some n) (hl : cs.length = n)
    (hR : R (.agg cs.toArray) w) : Run P f N (.code c :: k) env w R := fun a' ha' => by
  subst hc
  refine runs_ret hf ha'.defers ?_ hR
  have h1 := ha'.slot a _ hv
  have h2 := run_cellAgg hb ha hs hl
  simp only [results, hres]
  simp [h1, Array.getD_eq_getD_getElem?, asAddr, h2]
theorem run_retC2 {c : Code} {fn : Func} {a ty b u : Nat} {x : Value} {ty0 : Nat} {cs : List Value} {fz : Nat × Nat} {n : Nat} (hc : c = .ret) (hf : P.funcs[f]? = some fn) (hres : fn.results = #[.cell a ty, .tmp u]) (hv : look env a = some (.pointer (some ⟨b, 0, none⟩)))
    (hx : look env u = some x) (hb : w.heap[b]? = some (.cells cs.toArray ty0 fz)) (ha : aggB P ty = some true) (hs : szB P ty = some n) (hl : cs.length = n)
    (hR : R (.tuple #[.agg cs.toArray, x]) w) : Run P f N (.code c :: k) env w R := fun a' ha' => by
  subst hc
  refine runs_ret hf ha'.defers ?_ hR
  have h1 := ha'.slot a _ hv
  have h3 := ha'.slot u _ hx
  have h2 := run_cellAgg hb ha hs hl
  simp only [results, hres]
  simp [h1, h3, Array.getD_eq_getD_getElem?, asAddr, h2]
end
section
variable {P : Program} {N : Nat} {env : Env} {w : World} {x y : Operand} {t u : TypeId} {m n r : Int}
theorem val_max (hx : ev env x = some (.int .i64 m)) (hy : ev env y = some (.int .i64 n)) (ht : P.underlying t = some (.int .i64)) :
    Val P N env (.call { callee := .builtin .max, args := #[x, y], argTypes := #[t, t] }) w (.int .i64 (max m n)) := mk' fun ρ hρ o ho => by
  unfold execOp; rw [ho]
  simp [hρ _ _ hx, hρ _ _ hy, go_sem, resolve, invoke, builtin, Builtin.max_, Builtin.max2]
  by_cases h : m < n
  · rw [if_pos h]; exact (Int.max_eq_right (by omega)).symm
  · rw [if_neg h]; exact (Int.max_eq_left (by omega)).symm
end
section
variable {P : Program} {f : FuncId} {N : Nat} {k : List Item} {env : Env} {w : World} {R : Value → World → Prop} {Q : Exit → Act → World → Prop}
theorem run_end0 {fn : Func} (hf : P.funcs[f]? = some fn) (hres : fn.results = #[]) (hR : R (.tuple #[]) w) : Run P f N [] env w R := fun a ha cs =>
  ⟨.tuple #[], w, _, hR, .one step_end, rfl, rfl, ha.defers, rfl, fn, hf, by simp [results, hres, Sem.run, pure]⟩
theorem val_makeFunc {fn : Fn} {xs ys : Array Operand} {us vs : List Value} (hx : evs env xs.toList = some us) (hy : evs env ys.toList = some vs) :
    Val P N env (.makeFunc fn xs ys) w (.func fn us.toArray vs.toArray) := fun a ha o ho => by
  have h1 : xs.map a.eval = us.toArray := by rw [← ha.evs hx, ← List.map_toArray]
  have h2 : ys.map a.eval = vs.toArray := by rw [← ha.evs hy, ← List.map_toArray]
  unfold execOp; rw [ho]
  simp only [h1, h2]
  rfl
end
end Go.K

/- Maps. -/
namespace Go.K
open Rep
def EqOK (P : Program) (t : TypeId) {κ : Type} [DecidableEq κ] (kv : κ → Value) : Prop :=
  ∀ d a b w, (Op.equalIn (d + 8) t (kv a) (kv b)).run P w = .ok (decide (a = b)) w
structure KeyOK (P : Program) (t : TypeId) {κ : Type} [DecidableEq κ] (kv : κ → Value) : Prop where
  check : ∀ e k w, (Instr.checkKey e 10000 t (kv k)).run P w = .ok () w
  find : ∀ k (es : List MapEntry) (ks : List κ) w, es.map (·.key) = ks.map kv →
    (Instr.findKey t (kv k) es).run P w = .ok ((ks.findIdx? (fun x => decide (x = k))).bind fun i => (es[i]?).map fun e => (i, e.val)) w
  bits : ∀ k, Instr.sameBits 10000 (kv k) (kv k) = true
  inj : ∀ a b, kv a = kv b → a = b
theorem find_now {kind : TypeDesc} {κ : Type} [DecidableEq κ] {kv : κ → Value} (hs : ∀ a b, Instr.sameNow kind (kv a) (kv b) = some (decide (a = b))) (k : κ) :
    ∀ (es : List MapEntry) (ks : List κ) (n : Nat), es.map (·.key) = ks.map kv →
      Instr.findNow kind (kv k) es n = some ((ks.findIdx? (fun x => decide (x = k))).bind fun i => (es[i]?).map fun e => (n + i, e.val))
  | [], [], n, _ => by simp [Instr.findNow]
  | [], _ :: _, n, h => by simp at h
  | _ :: _, [], n, h => by simp at h
  | e :: es, x :: ks, n, h => by
    simp only [List.map_cons, List.cons.injEq] at h
    obtain ⟨h1, h2⟩ := h
    unfold Instr.findNow
    rw [h1, hs]
    by_cases hx : k = x
    · subst hx; simp [List.findIdx?_cons]
    · simp only [hx, decide_false]
      rw [find_now hs k es ks (n + 1) h2, List.findIdx?_cons]
      have : ¬ x = k := fun e => hx e.symm
      simp only [this, decide_false, Bool.false_eq_true, if_false]
      cases ks.findIdx? (fun x => decide (x = k)) with
      | none => rfl
      | some i => simp [Nat.add_assoc, Nat.add_comm 1]
theorem find_asking {P : Program} {t : TypeId} {κ : Type} [DecidableEq κ] {kv : κ → Value} (heq : EqOK P t kv) (k : κ) (w : World) :
    ∀ (es : List MapEntry) (ks : List κ) (n : Nat), es.map (·.key) = ks.map kv →
      (Instr.findAsking t (kv k) es n).run P w = .ok ((ks.findIdx? (fun x => decide (x = k))).bind fun i => (es[i]?).map fun e => (n + i, e.val)) w
  | [], [], n, _ => by simp [Instr.findAsking]
  | [], _ :: _, n, h => by simp at h
  | _ :: _, [], n, h => by simp at h
  | e :: es, x :: ks, n, h => by
    simp only [List.map_cons, List.cons.injEq] at h
    obtain ⟨h1, h2⟩ := h
    unfold Instr.findAsking Op.equal
    rw [h1, Sem.run_bind, show Op.maxDepth = 9992 + 8 from rfl, heq]
    simp only [Result.andThen_ok]
    by_cases hx : k = x
    · subst hx; simp [List.findIdx?_cons]
    · simp only [hx, decide_false, Bool.false_eq_true, if_false]
      rw [find_asking heq k w es ks (n + 1) h2, List.findIdx?_cons]
      have : ¬ x = k := fun e => hx e.symm
      simp only [this, decide_false, Bool.false_eq_true, if_false]
      cases ks.findIdx? (fun x => decide (x = k)) with
      | none => rfl
      | some i => simp [Nat.add_assoc, Nat.add_comm 1]
theorem keyOK_struct {P : Program} {t : TypeId} {fs : Array Field} {κ : Type} [DecidableEq κ] {kv : κ → Value} (h : P.underlying t = some (.struct fs)) (heq : EqOK P t kv)
    (hc : ∀ e k w, (Instr.checkKey e 10000 t (kv k)).run P w = .ok () w) (hb : ∀ k, Instr.sameBits 10000 (kv k) (kv k) = true) (hi : ∀ a b, kv a = kv b → a = b) : KeyOK P t kv where
  check := hc
  find k es ks w hk := by
    rw [run_findKey_eq w (by rw [h]) (kv k) es]
    simpa using find_asking heq k w es ks 0 hk
  bits := hb
  inj := hi
section
variable {κ β : Type} [DecidableEq κ]
def mget : List (κ × β) → κ → Option β
  | [], _ => none
  | (x, v) :: m, k => if x = k then some v else mget m k
def mput : List (κ × β) → κ → β → List (κ × β)
  | [], k, v => [(k, v)]
  | (x, u) :: m, k, v => if x = k then (k, v) :: m else (x, u) :: mput m k v
def keys (m : List (κ × β)) : List κ := m.map (·.1)
theorem mget_mput (m : List (κ × β)) (k : κ) (v : β) (j : κ) : mget (mput m k v) j = if k = j then some v else mget m j := by
  induction m with
  | nil => simp [mput, mget]
  | cons p m ih =>
    obtain ⟨x, u⟩ := p
    unfold mput
    split
    · rename_i h; subst h
      simp only [mget]; split <;> rfl
    · rename_i h
      simp only [mget, ih]
      by_cases h1 : x = j
      · subst h1; rw [if_pos rfl, if_neg (fun e => h e.symm), if_pos rfl]
      · rw [if_neg h1, if_neg h1]
theorem mem_keys_mput (m : List (κ × β)) (k : κ) (v : β) (j : κ) : j ∈ keys (mput m k v) ↔ j = k ∨ j ∈ keys m := by
  induction m with
  | nil => simp [mput, keys]
  | cons p m ih =>
    obtain ⟨x, u⟩ := p
    unfold mput
    split
    · rename_i h; subst h; simp [keys]
    · simp only [keys, List.map_cons, List.mem_cons] at ih ⊢
      rw [ih]
      constructor
      · rintro (h | h | h)
        · exact .inr (.inl h)
        · exact .inl h
        · exact .inr (.inr h)
      · rintro (h | h | h)
        · exact .inr (.inl h)
        · exact .inl h
        · exact .inr (.inr h)
theorem nodup_mput {m : List (κ × β)} (h : (keys m).Nodup) (k : κ) (v : β) : (keys (mput m k v)).Nodup := by
  induction m with
  | nil => simp [mput, keys]
  | cons p m ih =>
    obtain ⟨x, u⟩ := p
    unfold mput
    simp only [keys, List.map_cons, List.nodup_cons] at h
    split
    · rename_i hx; subst hx; simpa [keys] using h
    · rename_i hx
      simp only [keys, List.map_cons, List.nodup_cons]
      refine ⟨fun hm => ?_, ih h.2⟩
      rcases (mem_keys_mput m k v x).1 hm with e | e
      · exact hx e
      · exact h.1 e
theorem findIdx_mget (m : List (κ × β)) (k : κ) : ((keys m).findIdx? (fun x => decide (x = k))).bind (fun i => (m[i]?).map (·.2)) = mget m k := by
  induction m with
  | nil => simp [mget, keys]
  | cons p m ih =>
    obtain ⟨x, u⟩ := p
    simp only [mget, keys, List.map_cons, List.findIdx?_cons] at ih ⊢
    split
    · rename_i h; rw [if_pos (by simpa using h)]; simp
    · rename_i h
      rw [if_neg (by simpa using h), ← ih]
      cases (m.map (·.1)).findIdx? (fun x => decide (x = k)) <;> simp
theorem mput_none {m : List (κ × β)} {k : κ} (h : (keys m).findIdx? (fun x => decide (x = k)) = none) (v : β) : mput m k v = m ++ [(k, v)] := by
  induction m with
  | nil => rfl
  | cons p m ih =>
    obtain ⟨x, u⟩ := p
    simp only [keys, List.map_cons, List.findIdx?_cons] at h
    split at h
    · cases h
    · rename_i hx
      simp only [Option.map_eq_none_iff] at h
      unfold mput
      rw [if_neg (by simpa using hx), ih h]; rfl
theorem findIdx_at {m : List (κ × β)} {k : κ} {i : Nat} (h : (keys m).findIdx? (fun x => decide (x = k)) = some i) : ∃ u, m[i]? = some (k, u) := by
  obtain ⟨hlt, h1, _⟩ := List.findIdx?_eq_some_iff_getElem.1 h
  simp only [keys, List.getElem_map, decide_eq_true_eq] at h1
  simp only [keys, List.length_map] at hlt
  exact ⟨m[i].2, by rw [List.getElem?_eq_getElem hlt, ← h1]⟩
theorem mput_some {m : List (κ × β)} {k : κ} {i : Nat} (h : (keys m).findIdx? (fun x => decide (x = k)) = some i) (v : β) : mput m k v = m.set i (k, v) ∧ ∃ u, m[i]? = some (k, u) := by
  induction m generalizing i with
  | nil => simp [keys] at h
  | cons p m ih =>
    obtain ⟨x, u⟩ := p
    simp only [keys, List.map_cons, List.findIdx?_cons] at h
    unfold mput
    split at h
    · rename_i hx
      simp only [Option.some.injEq] at h
      subst h
      have hx' : x = k := by simpa using hx
      subst hx'
      rw [if_pos rfl]
      exact ⟨rfl, u, rfl⟩
    · rename_i hx
      simp only [Option.map_eq_some_iff] at h
      obtain ⟨j, hj, rfl⟩ := h
      obtain ⟨h1, u', h2⟩ := ih hj
      rw [if_neg (by simpa using hx), h1]
      exact ⟨rfl, u', by simpa using h2⟩
end
section
variable {κ β : Type} [DecidableEq κ] {kv : κ → Value} {vv : β → Value} {m : List (κ × β)}
structure MapIs (kv : κ → Value) (vv : β → Value) (m : List (κ × β)) (es : Array MapEntry) (clock : Nat) : Prop where
  key : es.toList.map (·.key) = (keys m).map kv
  val : es.toList.map (·.val) = m.map (fun p => vv p.2)
  nodup : (keys m).Nodup
  born : ∀ e ∈ es.toList, e.born < clock
  rise : es.toList.Pairwise (fun a b => a.born < b.born)
def OwnM (w : World) (C : Nat → Nat) (j b : Nat) (kv : κ → Value) (vv : β → Value) (m : List (κ × β)) : Prop :=
  C b = j ∧ ∃ es clock, w.heap[b]? = some (.map es clock) ∧ MapIs kv vv m es clock
def RM (w : World) (M : Nat → Prop) (kv : κ → Value) (vv : β → Value) (m : List (κ × β)) (v : Value) : Prop :=
  ∃ b, v = .map (some b) ∧ ¬ M b ∧ ∃ es clock, w.heap[b]? = some (.map es clock) ∧ MapIs kv vv m es clock
variable {w w' : World} {I : List Nat} {C C' : Nat → Nat} {j b n : Nat} {v : Value}
theorem OwnM.st (h : OwnM w C j b kv vv m) (hs : Stp I w C w' C') (hj : j ∉ I) : OwnM w' C' j b kv vv m := by
  obtain ⟨hc, es, clock, hb, hm⟩ := h
  exact ⟨(hs.col b (lt_of_at hb)).trans hc, es, clock, hs.ext.at' hb (by rw [hc]; exact hj), hm⟩
theorem RM.st (h : RM w (Mc C) kv vv m v) (hs : Stp I w C w' C') (h0 : 0 ∉ I) : RM w' (Mc C') kv vv m v := by
  obtain ⟨b, e, hn, es, clock, hb, hm⟩ := h
  have hc : C b = 0 := by by_cases hz : C b = 0; exact hz; exact absurd hz hn
  refine ⟨b, e, ?_, es, clock, hs.ext.at' hb (by rw [hc]; exact h0), hm⟩
  unfold Mc; rw [hs.col b (lt_of_at hb)]; exact hn
theorem OwnM.t (h : OwnM w C j b kv vv m) (hs : Stp I w C w' C') (hj : j ∉ I := by first | decide | (simp <;> omega)) : OwnM w' C' j b kv vv m := h.st hs hj
theorem RM.t (h : RM w (Mc C) kv vv m v) (hs : Stp I w C w' C') (h0 : 0 ∉ I := by first | decide | (simp <;> omega)) : RM w' (Mc C') kv vv m v := h.st hs h0
theorem OwnM.frz (h : OwnM w C j b kv vv m) (hj : n ≤ j) : RM w (Mc (K.frz n C)) kv vv m (.map (some b)) := by
  obtain ⟨hc, r⟩ := h
  exact ⟨b, rfl, fun hm => by have := (Mc_frz hm).2; omega, r⟩
theorem OwnM.out {w₀ : World} {C₀ D : Nat → Nat} (h : OwnM w' C' j b kv vv m) (hs : Stp I w₀ D w' C') (hF : Lim w₀ C₀) (hD : Mc D = Mc C₀) (hj : ∀ b, b < w₀.heap.size → D b ≠ j) : RM w' (Mc C₀) kv vv m (.map (some b)) := by
  obtain ⟨hc, r⟩ := h
  refine ⟨b, rfl, fun hm => ?_, r⟩
  obtain ⟨h1, h2, h3⟩ := hs.fin_sub hF hD b hm
  exact hj b h1 (by rw [← h2]; exact hc)
variable {P : Program} {N : Nat} {env : Env} {x y z q : Operand} {t kt et : TypeId}
theorem find_get {es : Array MapEntry} {clock : Nat} (hm : MapIs kv vv m es clock) (k : κ) :
    ((keys m).findIdx? (fun x => decide (x = k))).bind (fun i => (es.toList[i]?).map fun e => (i, e.val)) =
      ((keys m).findIdx? (fun x => decide (x = k))).bind (fun i => (m[i]?).map fun p => (i, vv p.2)) := by
  cases (keys m).findIdx? (fun x => decide (x = k)) with
  | none => rfl
  | some i =>
    simp only [Option.bind_some]
    have h1 : (es.toList.map (·.val))[i]? = (m.map (fun p => vv p.2))[i]? := by rw [hm.val]
    simp only [List.getElem?_map] at h1
    cases h2 : es.toList[i]? with
    | none => rw [h2] at h1; cases h3 : m[i]? with
      | none => rfl
      | some p => rw [h3] at h1; cases h1
    | some e => rw [h2] at h1; cases h3 : m[i]? with
      | none => rw [h3] at h1; cases h1
      | some p => rw [h3] at h1; simp only [Option.map_some, Option.some.injEq] at h1 ⊢; rw [h1]
theorem run_lookup {es : Array MapEntry} {clock : Nat} (ht : P.underlying t = some (.map kt et)) (hk : KeyOK P kt kv) {z0 : β} (hz : zeroB P et = some [vv z0]) (hagg : ∀ z : Value, z.cells = #[vv z0] → z = vv z0)
    (hb : w.heap[b]? = some (.map es clock)) (hm : MapIs kv vv m es clock) (k : κ) (ok : Bool) :
    (Instr.lookup t (.map (some b)) (kv k) ok).run P w = .ok (if ok then .tuple #[vv ((mget m k).getD z0), .bool (mget m k).isSome] else vv ((mget m k).getD z0)) w := by
  obtain ⟨zv, h1, h2⟩ := run_zeroB hz w
  have h3 := hagg zv (by simpa using h2)
  subst h3
  have hf := hk.find k es.toList (keys m) w hm.key
  rw [find_get hm] at hf
  have hg := findIdx_mget m k
  have hget : (getObj b).run P w = .ok (.map es clock) w := by simp [getObj, Sem.run, hb]
  unfold Instr.lookup
  simp only [Sem.run_bind, run_underlying ht, Result.andThen_ok, hget, Sem.run_pure, hk.check, hf]
  cases hi : (keys m).findIdx? (fun x => decide (x = k)) with
  | none =>
    rw [hi] at hg
    simp only [Option.bind_none] at hg ⊢
    simp only [Sem.run_bind, h1, Result.andThen_ok, Sem.run_pure, ← hg]
    cases ok <;> rfl
  | some i =>
    rw [hi] at hg
    simp only [Option.bind_some] at hg ⊢
    cases hp : m[i]? with
    | none =>
      have := (List.findIdx?_eq_some_iff_getElem.1 hi).1
      simp only [keys, List.length_map] at this
      rw [List.getElem?_eq_none_iff] at hp; omega
    | some p =>
      rw [hp] at hg
      simp only [Option.map_some] at hg ⊢
      simp only [Sem.run_pure, Result.andThen_ok, ← hg]
      cases ok <;> rfl
end
section
variable {κ β : Type} [DecidableEq κ] {kv : κ → Value} {vv : β → Value} {m : List (κ × β)} {es : Array MapEntry} {clock : Nat}
theorem MapIs.push (h : MapIs kv vv m es clock) {k : κ} (hk : (keys m).findIdx? (fun x => decide (x = k)) = none) (x : β) :
    MapIs kv vv (mput m k x) (es.push { key := kv k, val := vv x, born := clock }) (clock + 1) where
  key := by rw [mput_none hk]; simp [keys, h.key]
  val := by rw [mput_none hk]; simp [h.val]
  nodup := nodup_mput h.nodup k x
  born e he := by
    simp only [Array.toList_push, List.mem_append, List.mem_singleton] at he
    rcases he with he | rfl
    · have := h.born e he; omega
    · exact Nat.lt_succ_self _
  rise := by
    rw [Array.toList_push, List.pairwise_append]
    refine ⟨h.rise, List.pairwise_singleton _ _, fun a ha b hb => ?_⟩
    simp only [List.mem_singleton] at hb
    subst hb
    exact h.born a ha
theorem map_modify {γ : Type} (f : MapEntry → γ) (g : MapEntry → MapEntry) (i : Nat) (l : List MapEntry) (hg : ∀ e, l[i]? = some e → f (g e) = f e) : (l.modify i g).map f = l.map f := by
  apply List.ext_getElem?
  intro j
  simp only [List.getElem?_map, List.getElem?_modify]
  cases hj : l[j]? with
  | none => rfl
  | some e =>
    simp only [Option.map_some]
    split
    · rename_i h; subst h; simp [hg e hj]
    · simp
theorem MapIs.modify (h : MapIs kv vv m es clock) {k : κ} {i : Nat} (hk : (keys m).findIdx? (fun x => decide (x = k)) = some i) (x : β) :
    MapIs kv vv (mput m k x) (es.modify i fun e => { e with key := kv k, val := vv x }) clock := by
  obtain ⟨h1, u, h2⟩ := mput_some hk x
  have hkeys : keys (mput m k x) = keys m := by
    rw [h1]
    apply List.ext_getElem?
    intro j
    simp only [keys, List.getElem?_map, List.getElem?_set]
    split
    · rename_i e; subst e
      split
      · rw [h2]; rfl
      · rename_i hlt; rw [List.getElem?_eq_none (by omega)]
    · rfl
  have hmem : ∀ e, e ∈ (es.modify i fun e => { e with key := kv k, val := vv x }).toList → ∃ e' ∈ es.toList, e'.born = e.born := fun e he => by
    rw [Array.toList_modify] at he
    obtain ⟨j, hj⟩ := List.mem_iff_getElem?.1 he
    rw [List.getElem?_modify] at hj
    cases hjj : es.toList[j]? with
    | none => rw [hjj] at hj; cases hj
    | some e' =>
      rw [hjj] at hj
      refine ⟨e', List.mem_of_getElem? hjj, ?_⟩
      simp only [Option.map_eq_map, Option.map_some, Option.some.injEq] at hj
      split at hj <;> subst hj <;> rfl
  refine ⟨?_, ?_, by rw [hkeys]; exact h.nodup, fun e he => ?_, ?_⟩
  · rw [Array.toList_modify, hkeys, ← h.key]
    refine map_modify _ _ _ _ (fun e he => ?_)
    have : (es.toList.map (·.key))[i]? = ((keys m).map kv)[i]? := by rw [h.key]
    simp only [List.getElem?_map, he, Option.map_some, keys, h2] at this
    simpa using this.symm
  · rw [Array.toList_modify, h1]
    apply List.ext_getElem?
    intro j
    have hval : (es.toList.map (·.val))[j]? = (m.map (fun p => vv p.2))[j]? := by rw [h.val]
    simp only [List.getElem?_map] at hval
    simp only [List.getElem?_map, List.getElem?_modify, List.getElem?_set]
    by_cases hij : i = j
    · subst hij
      have hlt : i < m.length := (List.getElem?_eq_some_iff.1 h2).1
      rw [h2] at hval
      cases he : es.toList[i]? with
      | none => rw [he] at hval; cases hval
      | some e => simp [hlt]
    · simp only [if_neg hij, Option.map_id', id_eq]
      simpa using hval
  · obtain ⟨e', he', hb⟩ := hmem e he
    rw [← hb]; exact h.born e' he'
  · rw [Array.toList_modify]
    have hp : (es.toList.map (·.born)).Pairwise (· < ·) := by rw [List.pairwise_map]; exact h.rise
    have hq : ((es.toList.modify i fun e => { e with key := kv k, val := vv x }).map (·.born)).Pairwise (· < ·) := by
      rw [map_modify (fun e => e.born) (fun e => { e with key := kv k, val := vv x }) i es.toList (fun e _ => rfl)]; exact hp
    rw [List.pairwise_map] at hq
    exact hq
variable {w w' : World} {I : List Nat} {C C' : Nat → Nat} {M : Nat → Prop} {j b n : Nat} {v : Value} {P : Program} {N : Nat} {env : Env} {x y z q : Operand} {t kt et : TypeId}
theorem setObj_run {o o' : Obj} (hb : w.heap[b]? = some o) (hno : ∀ c e f, o ≠ .cells c e f) : (setObj b o').run P w = .ok () { w with heap := w.heap.setIfInBounds b o' } := by
  unfold setObj Sem.run
  rw [hb]
  cases o with
  | cells c e f => exact absurd rfl (hno c e f)
  | _ => rfl
theorem upd_setObj {o : Obj} (o' : Obj) (hb : w.heap[b]? = some o) : Upd w { w with heap := w.heap.setIfInBounds b o' } b o' := by
  have hlt := lt_of_at hb
  refine ⟨⟨rfl, rfl, rfl, by simp, fun c _ hc => ?_, Dr.refl rfl⟩, ?_, by simp⟩
  · simp only [Array.getElem?_setIfInBounds]
    rw [if_neg (fun e => hc e.symm)]
  · simp [Array.getElem?_setIfInBounds, hlt]
theorem upd_step {o o' : Obj} (h : Upd w w' b o') (hc : C b = j) : Stp [j] w C w' C := ⟨h.ext.mono (fun c _ hcb => by rw [show c = b from hcb, hc]; simp), fun _ _ => rfl⟩
theorem key_at (h : MapIs kv vv m es clock) {k : κ} {i : Nat} (hk : (keys m).findIdx? (fun x => decide (x = k)) = some i) : (es[i]?).map (·.key) = some (kv k) := by
  obtain ⟨u, h2⟩ := findIdx_at hk
  have : (es.toList.map (·.key))[i]? = ((keys m).map kv)[i]? := by rw [h.key]
  simp only [List.getElem?_map, keys, h2, Option.map_some] at this
  rw [← this]
  simp
theorem a_makeMap (hF : Lim w C) (j : Nat) (kv : κ → Value) (vv : β → Value) : Acts P N env (.makeMap t none) w (fun v w' => ∃ C' b, v = .map (some b) ∧ Stp [] w C w' C' ∧ OwnM w' C' j b kv vv [] ∧ Lim w' C') := acts' fun ρ hρ o ho => by
  have hn := new_alloc w (.map #[] 0)
  obtain ⟨C', h1, h2, h3⟩ := hn.own hF j
  refine ⟨.map (some w.heap.size), w.alloc (.map #[] 0), .inl ?_, C', _, rfl, h1, ⟨h2.col, #[], 0, h2.at_, ⟨rfl, rfl, by simp [keys], fun e he => by simp at he, by simp⟩⟩, h3⟩
  unfold execOp; rw [ho]
  simp [go_sem, Instr.makeMap]
variable {z0 : β}
def ZeroIs (P : Program) (et : TypeId) (v : Value) : Prop := ∀ w, (zeroValue et).run P w = .ok v w
theorem val_lookup (ht : P.underlying t = some (.map kt et)) (hk : KeyOK P kt kv) (hz : ZeroIs P et (vv z0)) (hb : w.heap[b]? = some (.map es clock)) (hm : MapIs kv vv m es clock) {k : κ} {ok : Bool}
    (hx : ev env x = some (.map (some b))) (hy : ev env y = some (kv k)) :
    Val P N env (.lookup t x y ok) w (if ok then .tuple #[vv ((mget m k).getD z0), .bool (mget m k).isSome] else vv ((mget m k).getD z0)) := mk' fun ρ hρ o ho => by
  have hf := hk.find k es.toList (keys m) w hm.key
  rw [find_get hm] at hf
  have hg := findIdx_mget m k
  have hget : (getObj b).run P w = .ok (.map es clock) w := by simp [getObj, Sem.run, hb]
  unfold execOp; rw [ho]
  simp only [hρ _ _ hx, hρ _ _ hy]
  unfold Instr.lookup
  simp only [Sem.run_bind, run_underlying ht, Result.andThen_ok, hget, Sem.run_pure, hk.check, hf]
  cases hi : (keys m).findIdx? (fun x => decide (x = k)) with
  | none =>
    rw [hi] at hg
    simp only [Option.bind_none] at hg ⊢
    simp only [Sem.run_bind, hz w, Result.andThen_ok, Sem.run_pure, ← hg]
    cases ok <;> rfl
  | some i =>
    rw [hi] at hg
    simp only [Option.bind_some] at hg ⊢
    cases hp : m[i]? with
    | none =>
      have := (List.findIdx?_eq_some_iff_getElem.1 hi).1
      simp only [keys, List.length_map] at this
      rw [List.getElem?_eq_none_iff] at hp; omega
    | some p =>
      rw [hp] at hg
      simp only [Option.map_some] at hg ⊢
      simp only [Sem.run_pure, Result.andThen_ok, ← hg]
      cases ok <;> rfl
theorem OwnM.lookup (h : OwnM w C j b kv vv m) (ht : P.underlying t = some (.map kt et)) (hk : KeyOK P kt kv) (hz : ZeroIs P et (vv z0)) {k : κ}
    (hx : ev env x = some (.map (some b))) (hy : ev env y = some (kv k)) : Val P N env (.lookup t x y false) w (vv ((mget m k).getD z0)) := by
  obtain ⟨_, es, clock, hb, hm⟩ := h
  exact val_lookup (ok := false) ht hk hz hb hm hx hy
theorem OwnM.lookupOk (h : OwnM w C j b kv vv m) (ht : P.underlying t = some (.map kt et)) (hk : KeyOK P kt kv) (hz : ZeroIs P et (vv z0)) {k : κ}
    (hx : ev env x = some (.map (some b))) (hy : ev env y = some (kv k)) : Val P N env (.lookup t x y true) w (.tuple #[vv ((mget m k).getD z0), .bool (mget m k).isSome]) := by
  obtain ⟨_, es, clock, hb, hm⟩ := h
  exact val_lookup (ok := true) ht hk hz hb hm hx hy
theorem RM.lookup (h : RM w M kv vv m v) (ht : P.underlying t = some (.map kt et)) (hk : KeyOK P kt kv) (hz : ZeroIs P et (vv z0)) {k : κ}
    (hx : ev env x = some v) (hy : ev env y = some (kv k)) : Val P N env (.lookup t x y false) w (vv ((mget m k).getD z0)) := by
  obtain ⟨b, rfl, _, es, clock, hb, hm⟩ := h
  exact val_lookup (ok := false) ht hk hz hb hm hx hy
theorem a_mapUpdate (h : OwnM w C j b kv vv m) (ht : P.underlying t = some (.map kt et)) (hk : KeyOK P kt kv) {k : κ} {u : β}
    (hx : ev env x = some (.map (some b))) (hy : ev env y = some (kv k)) (hz : ev env z = some (vv u)) :
    Acts P N env (.mapUpdate t x y z) w (fun v w' => v = undef ∧ Stp [j] w C w' C ∧ OwnM w' C j b kv vv (mput m k u)) := acts' fun ρ hρ o ho => by
  obtain ⟨hc, es, clock, hb, hm⟩ := h
  have hf := hk.find k es.toList (keys m) w hm.key
  have hget : (getObj b).run P w = .ok (.map es clock) w := by simp [getObj, Sem.run, hb]
  cases hi : (keys m).findIdx? (fun x => decide (x = k)) with
  | none =>
    rw [hi] at hf
    have hu := upd_setObj (.map (es.push { key := kv k, val := vv u, born := clock }) (clock + 1)) hb
    refine ⟨undef, _, .inr ⟨?_, rfl⟩, rfl, upd_step (o := .map #[] 0) hu hc, hc, _, _, hu.at_, hm.push hi u⟩
    unfold execOp; rw [ho]
    simp only [hρ _ _ hx, hρ _ _ hy, hρ _ _ hz]
    unfold Instr.mapUpdate
    simp only [Sem.run_bind, run_underlying ht, Result.andThen_ok, hget, hk.check, hf, Option.bind_none]
    rw [setObj_run hb (fun _ _ _ h => by cases h)]
    rfl
  | some i =>
    rw [hi] at hf
    have hu := upd_setObj (.map (es.modify i fun e => { e with key := kv k, val := vv u }) clock) hb
    have hke := key_at hm hi
    have hlt : i < es.size := by
      have := (List.findIdx?_eq_some_iff_getElem.1 hi).1
      have h2 := congrArg List.length hm.key
      simp only [List.length_map, Array.length_toList] at h2
      omega
    have hke' : ((es[i]?).map (·.key)).getD (kv k) = kv k := by rw [hke]; rfl
    refine ⟨undef, _, .inr ⟨?_, rfl⟩, rfl, upd_step (o := .map #[] 0) hu hc, hc, _, _, hu.at_, hm.modify hi u⟩
    unfold execOp; rw [ho]
    simp only [hρ _ _ hx, hρ _ _ hy, hρ _ _ hz]
    unfold Instr.mapUpdate
    have hel : es.toList[i]? = some es[i] := by simp [hlt]
    simp only [Sem.run_bind, run_underlying ht, Result.andThen_ok, hget, hk.check, hf, Option.bind_some, hel, Option.map_some]
    simp only [Sem.run_bind, Instr.keyThatStays, hke', hk.bits, if_true, Sem.run_pure, Result.andThen_ok]
    rw [setObj_run hb (fun _ _ _ h => by cases h)]
    rfl
end
end Go.K

/- Maps: an entry that is written in two steps, and ranging. -/
namespace Go.K
open Rep
section
variable {κ β : Type} [DecidableEq κ] {kv : κ → Value} {vv : β → Value} {m : List (κ × β)} {es : Array MapEntry} {clock : Nat}
variable {w w' : World} {I : List Nat} {C C' : Nat → Nat} {M : Nat → Prop} {j b n : Nat} {v : Value} {P : Program} {N : Nat} {env : Env} {x y z q : Operand} {t kt et : TypeId} {z0 : β}
variable {it jb : Nat} {left : List (κ × β)} {cur : Option (κ × β)}
end
end Go.K

/- Couples (and other structs of two ints): as keys, compared, in order; what stands twice side by side. -/
namespace Go.K
open Rep
abbrev kvI : Int → Value := fun n => .int .i64 n
abbrev vvB : Bool → Value := fun b => .bool b
abbrev kvC : Couple → Value := fun c => .agg #[.int .i64 c.a, .int .i64 c.b]
abbrev vvN : Nat → Value := fun n => .int .i64 (n : Int)
theorem foldl_take {γ δ : Type} (f : γ → δ → γ) (a : γ) (l : List δ) (i : Nat) (h : i < l.length) : (l.take (i + 1)).foldl f a = f ((l.take i).foldl f a) l[i] := by
  rw [List.take_succ_eq_append_getElem h, List.foldl_append]; rfl
def orL : List Int → Int
  | [] => 0
  | a :: l => if a = 0 then orL l else a
def cmpI (x y : Int) : Int := if x < y then -1 else if y < x then 1 else 0
def cmpC (x y : Couple) : Int := orL [cmpI x.a y.a, cmpI x.b y.b]
theorem orL_drop {l : List Int} {i : Nat} (h : i < l.length) : orL (l.drop i) = if l[i] = 0 then orL (l.drop (i + 1)) else l[i] := by
  rw [List.drop_eq_getElem_cons h]; rfl
section
variable {P : Program} {t ti : TypeId} {n0 n1 tg0 tg1 pk0 pk1 : String} {e0 e1 : Bool} {y0 y1 : Nat}
theorem part_couple (hi : P.underlying ti = some (.int .i64)) (a b : Int) (i : Nat) (v : Value) (w : World) (hv : (#[Value.int .i64 a, Value.int .i64 b])[i]? = some v) : (part ti #[.int .i64 a, .int .i64 b] i).run P w = .ok v w :=
  run_part_plain w (by simp [Program.plainKey, hi]) hv
theorem eqOK_couple (h : P.underlying t = some (.struct #[⟨n0, ti, 0, e0, tg0, pk0, y0⟩, ⟨n1, ti, 1, e1, tg1, pk1, y1⟩])) (h0 : n0 ≠ "_") (h1 : n1 ≠ "_") (hS : P.stoodInHeld t = false)
    (hi : P.underlying ti = some (.int .i64)) : EqOK P t kvC := fun d a b w => by
  have hpt := fun a b i v w => part_couple (P := P) hi a b i v w
  have hf : P.fieldsOf t = #[⟨n0, ti, 0, e0, tg0, pk0, y0⟩, ⟨n1, ti, 1, e1, tg1, pk1, y1⟩] := by simp [Program.fieldsOf, h]
  have he := fun (x y : Int) => run_equalIn_int (P := P) w (d + 6) ti .i64 .i64 x y hi
  rw [show d + 8 = (d + 7) + 1 from rfl, run_equalIn_struct w (d + 7) t _ _ (by rw [hf]; exact h) hS, hf]
  have p0 : ∀ c : Couple, (part ti #[.int .i64 c.a, .int .i64 c.b] 0).run P w = .ok (.int .i64 c.a) w := fun c => hpt _ _ 0 _ w rfl
  have p1 : ∀ c : Couple, (part ti #[.int .i64 c.a, .int .i64 c.b] 1).run P w = .ok (.int .i64 c.b) w := fun c => hpt _ _ 1 _ w rfl
  have hd : (decide (a = b)) = ((a.a == b.a) && (a.b == b.b)) := by
    cases a; cases b; simp only [Couple.mk.injEq, Bool.decide_and]; rfl
  simp only [Op.eqFields, Sem.run_bind, Sem.run_ite, h0, h1, ne_eq, not_false_eq_true, if_true, p0, p1, Result.andThen_ok, he, hd]
  cases (a.a == b.a) <;> cases (a.b == b.b) <;> simp
theorem keyOK_couple (h : P.underlying t = some (.struct #[⟨n0, ti, 0, e0, tg0, pk0, y0⟩, ⟨n1, ti, 1, e1, tg1, pk1, y1⟩])) (h0 : n0 ≠ "_") (h1 : n1 ≠ "_") (hS : P.stoodInHeld t = false)
    (hi : P.underlying ti = some (.int .i64)) : KeyOK P t kvC := by
  have hpt := fun a b i v w => part_couple (P := P) hi a b i v w
  refine keyOK_struct h (eqOK_couple h h0 h1 hS hi) (fun e k w => ?_) (fun k => by simp [Instr.sameBits]) (fun a b hab => ?_)
  · have p0 : (part ti #[.int .i64 k.a, .int .i64 k.b] 0).run P w = .ok (.int .i64 k.a) w := hpt _ _ 0 _ w rfl
    have p1 : (part ti #[.int .i64 k.a, .int .i64 k.b] 1).run P w = .ok (.int .i64 k.b) w := hpt _ _ 1 _ w rfl
    have q : ∀ (x : Int), (Instr.checkKey e 9999 ti (.int .i64 x)).run P w = .ok () w := fun x => by unfold Instr.checkKey; simp [run_underlying hi]
    rw [show (10000 : Nat) = 9999 + 1 from rfl, Instr.checkKey]
    simp only [Sem.run_bind, run_underlying h, Result.andThen_ok]
    rw [← Array.forIn_toList]
    simp only [List.forIn_cons, List.forIn_nil, Sem.run_bind, Sem.run_ite, h0, h1, ne_eq, not_false_eq_true, if_true, p0, p1, q, Result.andThen_ok, Sem.run_pure]
  · cases a; cases b; simp at hab; simp [hab]
theorem eqGuard_couple (h : P.underlying t = some (.struct #[⟨n0, ti, 0, e0, tg0, pk0, y0⟩, ⟨n1, ti, 1, e1, tg1, pk1, y1⟩])) (h0 : n0 ≠ "_") (h1 : n1 ≠ "_")
    (hi : P.underlying ti = some (.int .i64)) (d : Nat) (a b : Couple) (w : World) : (Op.eqGuardIn (d + 2) t (kvC a) (kvC b)).run P w = .ok false w := by
  have hpt := fun a b i v w => part_couple (P := P) hi a b i v w
  have p0 : ∀ c : Couple, (part ti #[.int .i64 c.a, .int .i64 c.b] 0).run P w = .ok (.int .i64 c.a) w := fun c => hpt _ _ 0 _ w rfl
  have p1 : ∀ c : Couple, (part ti #[.int .i64 c.a, .int .i64 c.b] 1).run P w = .ok (.int .i64 c.b) w := fun c => hpt _ _ 1 _ w rfl
  have q : ∀ (x y : Int), (Op.eqGuardIn (d + 1) ti (.int .i64 x) (.int .i64 y)).run P w = .ok false w := fun x y => by unfold Op.eqGuardIn; simp [run_underlying hi]
  rw [show d + 2 = (d + 1) + 1 from rfl, Op.eqGuardIn]
  simp only [Sem.run_bind, run_underlying h, Result.andThen_ok]
  rw [← Array.forIn_toList]
  simp only [List.forIn_cons, List.forIn_nil, Sem.run_bind, Sem.run_ite, h0, h1, ne_eq, not_false_eq_true, if_true, p0, p1, q, Result.andThen_ok, Sem.run_pure, Bool.false_eq_true, if_false]
variable {N : Nat} {env : Env} {x y : Operand} {u : TypeId} {a b : Couple} {w : World}
theorem val_eqC (h : P.underlying t = some (.struct #[⟨n0, ti, 0, e0, tg0, pk0, y0⟩, ⟨n1, ti, 1, e1, tg1, pk1, y1⟩])) (h0 : n0 ≠ "_") (h1 : n1 ≠ "_") (hS : P.stoodInHeld t = false)
    (hi : P.underlying ti = some (.int .i64)) (hx : ev env x = some (kvC a)) (hy : ev env y = some (kvC b)) : Val P N env (.binOp .eql t x y u) w (.bool (decide (a = b))) := mk' fun ρ hρ o ho => by
  have h5 := eqOK_couple h h0 h1 hS hi (Op.maxDepth - 8) a b w
  have h6 := eqGuard_couple h h0 h1 hi (Op.maxDepth - 2) a b w
  have h7 : (Op.equal t (kvC a) (kvC b)).run P w = .ok (decide (a = b)) w := h5
  have h8 : (Op.eqGuardIn Op.maxDepth t (kvC a) (kvC b)).run P w = .ok false w := h6
  have h9 : (eqGuard .eql t x y (kvC a) (kvC b)).run P w = .ok () w := by
    unfold eqGuard
    simp only [Sem.run_bind, Sem.run_pure, Sem.run_ite, run_program, Result.andThen_ok, h8, Bool.not_true, Bool.false_eq_true, if_false]
    cases P.eqGuardType P.depth t <;> simp [h8]
  have h10 : (binOp .eql t (kvC a) (kvC b)).run P w = .ok (.bool (decide (a = b))) w := by
    show (Op.equal t (kvC a) (kvC b) >>= fun z => pure (Value.bool z)).run P w = _
    rw [Sem.run_bind, h7]; rfl
  unfold execOp; rw [ho]
  simp only [hρ _ _ hx, hρ _ _ hy]
  simp [Sem.run_bind, h9, h10]
theorem val_neC (h : P.underlying t = some (.struct #[⟨n0, ti, 0, e0, tg0, pk0, y0⟩, ⟨n1, ti, 1, e1, tg1, pk1, y1⟩])) (h0 : n0 ≠ "_") (h1 : n1 ≠ "_") (hS : P.stoodInHeld t = false)
    (hi : P.underlying ti = some (.int .i64)) (hx : ev env x = some (kvC a)) (hy : ev env y = some (kvC b)) : Val P N env (.binOp .neq t x y u) w (.bool (decide (a ≠ b))) := mk' fun ρ hρ o ho => by
  have h5 := eqOK_couple h h0 h1 hS hi (Op.maxDepth - 8) a b w
  have h6 := eqGuard_couple h h0 h1 hi (Op.maxDepth - 2) a b w
  have h7 : (Op.equal t (kvC a) (kvC b)).run P w = .ok (decide (a = b)) w := h5
  have h8 : (Op.eqGuardIn Op.maxDepth t (kvC a) (kvC b)).run P w = .ok false w := h6
  have h9 : (eqGuard .neq t x y (kvC a) (kvC b)).run P w = .ok () w := by
    unfold eqGuard
    simp only [Sem.run_bind, Sem.run_pure, Sem.run_ite, run_program, Result.andThen_ok, h8, Bool.not_true, Bool.false_eq_true, if_false]
    cases P.eqGuardType P.depth t <;> simp [h8]
  have h10 : (binOp .neq t (kvC a) (kvC b)).run P w = .ok (.bool (decide (a ≠ b))) w := by
    show (Op.equal t (kvC a) (kvC b) >>= fun z => pure (Value.bool (!z))).run P w = _
    rw [Sem.run_bind, h7]; simp
  unfold execOp; rw [ho]
  simp only [hρ _ _ hx, hρ _ _ hy]
  simp [Sem.run_bind, h9, h10]
end
def leC (x y : Couple) : Bool := !decide (cmpC y x < 0)
def sortC (l : List Couple) : List Couple := l.mergeSort leC
theorem cmpC_val (x y : Couple) : cmpC x y = if x.a < y.a then -1 else if y.a < x.a then 1 else if x.b < y.b then -1 else if y.b < x.b then 1 else 0 := by
  unfold cmpC orL orL orL cmpI
  by_cases h1 : x.a < y.a <;> by_cases h2 : y.a < x.a <;> by_cases h3 : x.b < y.b <;> by_cases h4 : y.b < x.b <;> simp [h1, h2, h3, h4]
theorem leC_iff (x y : Couple) : leC x y = true ↔ x.a < y.a ∨ x.a = y.a ∧ x.b ≤ y.b := by
  unfold leC; rw [cmpC_val]
  simp only [Bool.not_eq_true', decide_eq_false_iff_not]
  split
  · omega
  · split
    · omega
    · split
      · omega
      · split <;> omega
theorem leC_trans (x y z : Couple) (h : leC x y = true) (h' : leC y z = true) : leC x z = true := by rw [leC_iff] at *; omega
theorem leC_total (x y : Couple) : (leC x y || leC y x) = true := by rw [Bool.or_eq_true, leC_iff, leC_iff]; omega
theorem leC_anti (x y : Couple) (h : leC x y = true) (h' : leC y x = true) : x = y := by
  rw [leC_iff] at *
  have h1 : x.a = y.a := by omega
  have h2 : x.b = y.b := by omega
  cases x; cases y; simp only at h1 h2; rw [h1, h2]
theorem sortC_sorted (l : List Couple) : (sortC l).Pairwise (fun x y => leC x y = true) := List.pairwise_mergeSort leC_trans leC_total l
theorem sortC_perm (l : List Couple) : (sortC l).Perm l := List.mergeSort_perm l leC
theorem sorted_unique {γ : Type} {le : γ → γ → Bool} (ha : ∀ x y, le x y = true → le y x = true → x = y) : ∀ {l l' : List γ}, l.Perm l' → l.Pairwise (fun x y => le x y = true) → l'.Pairwise (fun x y => le x y = true) → l = l'
  | [], l', hp, _, _ => by simpa using hp.symm.eq_nil.symm
  | a :: l, [], hp, _, _ => by simpa using hp.eq_nil
  | a :: l, b :: l', hp, h1, h2 => by
    have hab : a = b := by
      by_cases e : a = b
      · exact e
      · have hb : b ∈ a :: l := hp.symm.subset (by simp)
        have ha' : a ∈ b :: l' := hp.subset (by simp)
        rcases List.mem_cons.1 hb with hb | hb
        · exact hb.symm
        · rcases List.mem_cons.1 ha' with ha' | ha'
          · exact ha'
          · exact ha _ _ ((List.pairwise_cons.1 h1).1 b hb) ((List.pairwise_cons.1 h2).1 a ha')
    subst hab
    rw [sorted_unique ha hp.cons_inv (List.pairwise_cons.1 h1).2 (List.pairwise_cons.1 h2).2]
section
variable {α : Type} [DecidableEq α]
def compactS : List α → List α
  | [] => []
  | [a] => [a]
  | a :: b :: l => if a = b then compactS (b :: l) else a :: compactS (b :: l)
theorem compactS_snoc (b : α) : ∀ (l : List α) (h : l ≠ []), compactS (l ++ [b]) = if l.getLast h = b then compactS l else compactS l ++ [b]
  | [], h => absurd rfl h
  | [a], _ => by
    by_cases e : a = b
    · subst e; simp [compactS]
    · simp [compactS, e]
  | a :: c :: l, h => by
    have ih := compactS_snoc b (c :: l) (by simp)
    simp only [List.cons_append, compactS] at ih ⊢
    rw [List.getLast_cons (by simp)]
    by_cases hac : a = c
    · rw [if_pos hac, if_pos hac]; exact ih
    · rw [if_neg hac, if_neg hac, ih]; split <;> simp
theorem compactS_take {l : List α} {k : Nat} (h0 : 0 < k) (h : k < l.length) : compactS (l.take (k + 1)) = if l[k - 1]'(by omega) = l[k] then compactS (l.take k) else compactS (l.take k) ++ [l[k]] := by
  have hne : l.take k ≠ [] := by
    intro e
    have : (l.take k).length = 0 := by rw [e]; rfl
    rw [List.length_take] at this; omega
  rw [List.take_succ_eq_append_getElem h, compactS_snoc _ _ hne]
  have : (l.take k).getLast hne = l[k - 1]'(by omega) := by
    rw [List.getLast_eq_getElem]
    simp only [List.length_take, List.getElem_take]
    congr 1; omega
  rw [this]
theorem compactS_mem {a : α} : ∀ {l : List α}, a ∈ compactS l ↔ a ∈ l
  | [] => by simp [compactS]
  | [b] => by simp [compactS]
  | b :: c :: l => by
    have ih := compactS_mem (a := a) (l := c :: l)
    unfold compactS
    split
    · rename_i e; subst e; rw [ih]; simp
    · rw [List.mem_cons, ih, List.mem_cons (a := a) (b := b)]
theorem compactS_sub : ∀ l : List α, (compactS l).Sublist l
  | [] => by simp [compactS]
  | [b] => by simp [compactS]
  | b :: c :: l => by
    have ih := compactS_sub (c :: l)
    unfold compactS
    split
    · exact ih.cons b
    · exact ih.cons_cons b
theorem compactS_len (l : List α) : (compactS l).length ≤ l.length := (compactS_sub l).length_le
theorem compactS_nodup {le : α → α → Prop} (ha : ∀ x y, le x y → le y x → x = y) : ∀ {l : List α}, l.Pairwise le → (compactS l).Nodup
  | [], _ => by simp [compactS]
  | [b], _ => by simp [compactS]
  | b :: c :: l, h => by
    have h2 := (List.pairwise_cons.1 h).2
    have ih := compactS_nodup ha h2
    unfold compactS
    split
    · exact ih
    · rename_i hne
      refine List.nodup_cons.2 ⟨fun hm => ?_, ih⟩
      rw [compactS_mem] at hm
      have hbc := (List.pairwise_cons.1 h).1 c (by simp)
      rcases List.mem_cons.1 hm with e | hm
      · exact hne e
      · exact hne (ha _ _ hbc ((List.pairwise_cons.1 h2).1 b hm))
end
def encC : Couple → List Value := fun c => [.int .i64 c.a, .int .i64 c.b]
instance : Inhabited Couple := ⟨⟨0, 0⟩⟩
theorem zero_couple {h : Array Obj} {M : Nat → Prop} : rep h M (⟨0, 0⟩ : Couple) [.int .i64 0, .int .i64 0] := ⟨[_], [_], rfl, rfl, rfl⟩
end Go.K

/- Bonds and what hangs together: plain. -/
namespace Go.K
open Rep
structure Bond where
  A : Couple
  B : Couple
  w : Int
  deriving DecidableEq
instance : Rep Bond := Rep.via (fun x : Bond => (x.A, (x.B, x.w)))
instance : Inhabited Bond := ⟨⟨⟨0, 0⟩, ⟨0, 0⟩, 0⟩⟩
abbrev encB (x : Bond) : List Value := [.int .i64 x.A.a, .int .i64 x.A.b, .int .i64 x.B.a, .int .i64 x.B.b, .int .i64 x.w]
abbrev encR (x : Couple) : List Value := [.int .i64 x.a, .int .i64 x.b]
section
variable {w : World} {M : Nat → Prop} {b o : Nat} {v : Value}
theorem RA.bA {x : Bond} (h : RA w M x b o) : RA w M x.A b o := RA.fst (p := (x.A, (x.B, x.w))) h
theorem RA.bB {x : Bond} (h : RA w M x b o) : RA w M x.B b (o + 2) := RA.fst (p := (x.B, x.w)) (RA.snd (p := (x.A, (x.B, x.w))) h)
theorem rep_couple {h : Array Obj} {x : Couple} {vs : List Value} : rep h M x vs ↔ vs = encR x :=
  ⟨fun hr => by
    obtain ⟨us, ws, rfl, h1, h2⟩ := hr
    rw [show us = [.int .i64 x.a] from h1, show ws = [.int .i64 x.b] from h2]; rfl,
   fun hr => by subst hr; exact ⟨[_], [_], rfl, rfl, rfl⟩⟩
theorem rep_bond {h : Array Obj} {x : Bond} {vs : List Value} : rep h M x vs ↔ vs = encB x :=
  ⟨fun hr => by
    obtain ⟨us, ws, rfl, h1, us2, ws2, rfl, h2, h3⟩ := hr
    have e1 := (rep_couple (M := M) (h := h) (x := x.A)).1 h1
    have e2 := (rep_couple (M := M) (h := h) (x := x.B)).1 h2
    have e3 : ws2 = [.int .i64 x.w] := h3
    subst e1 e2 e3; rfl,
   fun hr => by
    subst hr
    exact ⟨encR x.A, encR x.B ++ [.int .i64 x.w], rfl, (rep_couple (M := M)).2 rfl, encR x.B, [.int .i64 x.w], rfl, (rep_couple (M := M)).2 rfl, rfl⟩⟩
theorem rv_bond {x : Bond} : RV w M x v ↔ v = .agg (encB x).toArray :=
  ⟨fun h => by obtain ⟨vs, h1, h2⟩ := h; rw [rep_bond.1 h1] at h2; exact h2, fun h => ⟨_, rep_bond.2 rfl, h⟩⟩
end
structure Sv where
  v : Value
instance : Inhabited Sv := ⟨⟨.slice none 0 0⟩⟩
instance : Rep Sv where
  sz := 1
  agg := false
  flat _ := rfl
  rep _ _ x vs := vs = [x.v] ∧ x.v.oneCell' = true
  len h := by obtain ⟨rfl, _⟩ := h; rfl
  one h := by obtain ⟨rfl, h1⟩ := h; intro v hv; simp at hv; subst hv; exact h1
  keep h _ := h
  sub h _ := h
section
variable {w : World} {M : Nat → Prop} {v : Value} {β : Type} [Rep β]
theorem rv_sv {x : Sv} : RV w M x v ↔ v = x.v ∧ x.v.oneCell' = true := ⟨fun ⟨vs, h, e⟩ => by obtain ⟨rfl, h⟩ := h; exact ⟨e, h⟩, fun h => ⟨_, ⟨rfl, h.2⟩, h.1⟩⟩
theorem RV.svs {xs : List Sv} {ys : List β} (h : RV w M xs v) (hb : Rep.agg β = false) (hl : ys.length = xs.length) (he : ∀ i (h1 : i < ys.length) (h2 : i < xs.length), RV w M ys[i] xs[i].v) : RV w M ys v := by
  obtain ⟨a, c, rfl, hc, h63, h0⟩ := rv_list.1 h
  refine rv_list.2 ⟨a, c, by rw [hl], by rw [hl]; exact hc, by rw [hl]; exact h63, ?_⟩
  rcases h0 with h0 | ⟨b, o, rfl, hb2, cs, ty, fz, hcs, hsz, hr⟩
  · left; subst h0; exact List.eq_nil_of_length_eq_zero hl
  · right
    have s1 : sz β = 1 := Rep.flat hb
    refine ⟨b, o, rfl, hb2, cs, ty, fz, hcs, by rw [hl, s1]; exact hsz, fun i hi => ?_⟩
    have hi2 : i < xs.length := by omega
    have hv : cellsAt cs (o + i * 1) 1 = [xs[i].v] := (hr i hi2).1
    rw [s1, hv]
    exact (he i hi hi2).rep1 hb
end
def ltP (x y : Couple) : Prop := x.a < y.a ∨ x.a = y.a ∧ x.b < y.b
instance (x y : Couple) : Decidable (ltP x y) := by unfold ltP; infer_instance
theorem ltP_irrefl (x : Couple) : ¬ ltP x x := by unfold ltP; omega
theorem ltP_trans {x y z : Couple} (h : ltP x y) (h' : ltP y z) : ltP x z := by unfold ltP at *; omega
theorem ltP_le {x y : Couple} : leC x y = true ↔ ¬ ltP y x := by rw [leC_iff]; unfold ltP; omega
theorem couple_ext {x y : Couple} (h1 : x.a = y.a) (h2 : x.b = y.b) : x = y := by cases x; cases y; simp_all
theorem ltP_tri (x y : Couple) : ltP x y ∨ x = y ∨ ltP y x := by
  unfold ltP
  by_cases h1 : x.a = y.a <;> by_cases h2 : x.b = y.b
  · exact .inr (.inl (couple_ext h1 h2))
  all_goals omega
theorem cmpC_zero {x y : Couple} : cmpC x y = 0 ↔ x = y := by
  rw [cmpC_val]
  constructor
  · intro h; apply couple_ext <;> (split at h <;> first | omega | (split at h <;> first | omega | (split at h <;> first | omega | (split at h <;> omega))))
  · intro h; subst h; simp
theorem cmpC_neg {x y : Couple} : cmpC x y < 0 ↔ ltP x y := by
  rw [cmpC_val]; unfold ltP
  split
  · omega
  · split
    · omega
    · split
      · omega
      · split <;> omega
def lt2 (x y : Bond) : Prop := ltP x.A y.A ∨ x.A = y.A ∧ ltP x.B y.B
instance (x y : Bond) : Decidable (lt2 x y) := by unfold lt2; infer_instance
def cmp2 (a b c d : Couple) : Int := orL [cmpC a c, cmpC b d]
theorem cmp2_ge {x y : Bond} : 0 ≤ cmp2 x.A x.B y.A y.B ↔ ¬ lt2 x y := by
  unfold cmp2 lt2 orL orL orL
  have h1 := @cmpC_zero x.A y.A; have h2 := @cmpC_neg x.A y.A; have h3 := @cmpC_zero x.B y.B; have h4 := @cmpC_neg x.B y.B
  split
  · rename_i h; have e := h1.1 h; rw [← h4, e]
    have : ¬ ltP y.A y.A := ltP_irrefl _
    split
    · simp_all
    · simp only [this, false_or, true_and, ← h4]; omega
  · rename_i h
    have : ¬ x.A = y.A := fun e => h (h1.2 e)
    rw [← h2]; simp [this]
def refOK (r : Couple) : Bool := decide (0 ≤ r.a) && decide (r.a < 4) && decide (1 ≤ r.b) && decide (r.b ≤ 1048576)
def cplOK (a b : Couple) : Bool := refOK a && refOK b && decide (a.a < b.a)
def errAt (l : List Bond) (i : Nat) : Int :=
  if cplOK l[i]!.A l[i]!.B = false then 41 else if l[i]!.w < 1 ∨ 1048576 < l[i]!.w then 40 else if 0 < i ∧ ¬ lt2 l[i-1]! l[i]! then 12 else 0
def checkS (l : List Bond) : Int := if 4096 < l.length then 1 else orL ((List.range l.length).map (errAt l))
theorem orL_app (a b : List Int) : orL (a ++ b) = if orL a = 0 then orL b else orL a := by
  induction a with
  | nil => simp [orL]
  | cons x a ih => simp only [List.cons_append, orL]; split <;> simp_all
theorem orL_zero {l : List Int} (h : ∀ x ∈ l, x = 0) : orL l = 0 := by
  induction l with
  | nil => rfl
  | cons x l ih => simp only [orL]; rw [if_pos (h x (by simp))]; exact ih (fun y hy => h y (by simp [hy]))
theorem orL_zero' {l : List Int} (h : orL l = 0) : ∀ x ∈ l, x = 0 := by
  induction l with
  | nil => simp
  | cons x l ih =>
    simp only [orL] at h
    split at h
    · rename_i e; intro y hy; rcases List.mem_cons.1 hy with rfl | hy
      · exact e
      · exact ih h y hy
    · rename_i e; exact absurd h e
theorem checkS_lim {l : List Bond} (h : 4096 < l.length) : checkS l = 1 := by unfold checkS; rw [if_pos h]
theorem checkS_ok {l : List Bond} (hl : l.length ≤ 4096) (h0 : ∀ k, k < l.length → errAt l k = 0) : checkS l = 0 := by
  unfold checkS; rw [if_neg (by omega)]
  refine orL_zero fun x hx => ?_
  obtain ⟨k, hk, rfl⟩ := List.mem_map.1 hx
  exact h0 k (List.mem_range.1 hk)
theorem range_split {i n : Nat} (h : i < n) : List.range n = List.range i ++ (i :: (List.range n).drop (i + 1)) := by
  have h1 : (List.range n).take i = List.range i := by rw [List.take_range, Nat.min_eq_left (by omega)]
  have h2 : (List.range n).drop i = i :: (List.range n).drop (i + 1) := by
    rw [List.drop_eq_getElem_cons (by simpa using h)]; simp
  rw [← h1, ← h2, List.take_append_drop]
theorem checkS_at {l : List Bond} {i : Nat} (hl : l.length ≤ 4096) (h : i < l.length) (h0 : ∀ k, k < i → errAt l k = 0) (he : errAt l i ≠ 0) : checkS l = errAt l i := by
  unfold checkS; rw [if_neg (by omega), range_split h, List.map_append, orL_app, if_pos]
  · simp only [List.map_cons, orL]; rw [if_neg he]
  · refine orL_zero fun x hx => ?_
    obtain ⟨k, hk, rfl⟩ := List.mem_map.1 hx
    exact h0 k (List.mem_range.1 hk)
theorem checkS_zero {l : List Bond} (h : checkS l = 0) : l.length ≤ 4096 ∧ ∀ k, k < l.length → errAt l k = 0 := by
  unfold checkS at h
  split at h
  · cases h
  · exact ⟨by omega, fun k hk => orL_zero' h _ (List.mem_map.2 ⟨k, List.mem_range.2 hk, rfl⟩)⟩
theorem checkS_len {l : List Bond} (h : checkS l = 0) : l.length ≤ 4096 := (checkS_zero h).1
theorem errAt_val {l : List Bond} {i : Nat} (h : i < l.length) : errAt l i = if cplOK l[i].A l[i].B = false then 41 else if l[i].w < 1 ∨ 1048576 < l[i].w then 40 else if 0 < i ∧ ¬ lt2 (l[i-1]'(by omega)) l[i] then 12 else 0 := by
  unfold errAt; rw [getElem!_pos l i h, getElem!_pos l (i - 1) (by omega)]
def okB (x : Bond) : Prop := cplOK x.A x.B = true ∧ 1 ≤ x.w ∧ x.w ≤ 1048576
def Vld (l : List Bond) : Prop := l.length ≤ 4096 ∧ (∀ x ∈ l, okB x) ∧ l.Pairwise lt2
theorem Vld.check {l : List Bond} (h : Vld l) : checkS l = 0 := by
  obtain ⟨h1, h2, h3⟩ := h
  refine checkS_ok h1 fun k hk => ?_
  have hx := h2 l[k] (List.getElem_mem hk)
  unfold errAt
  rw [getElem!_pos l k hk, if_neg (by simp [hx.1]), if_neg (by have := hx.2; omega)]
  split
  · rename_i h; exfalso
    obtain ⟨h0, hn⟩ := h
    rw [getElem!_pos l (k - 1) (by omega)] at hn
    exact hn (List.pairwise_iff_getElem.1 h3 (k - 1) k (by omega) hk (by omega))
  · rfl
theorem Vld.sub {l l' : List Bond} (h : Vld l) (hs : l'.Sublist l) : Vld l' := ⟨Nat.le_trans hs.length_le h.1, fun x hx => h.2.1 x (hs.subset hx), h.2.2.sublist hs⟩
def endsS (l : List Bond) : List Couple := l.flatMap fun x => [x.A, x.B]
def refsS (l : List Bond) : List Couple := compactS (sortC (endsS l))
theorem endsS_snoc (l : List Bond) (x : Bond) : endsS (l ++ [x]) = endsS l ++ [x.A, x.B] := by simp [endsS]
theorem endsS_take {l : List Bond} {i : Nat} (h : i < l.length) : endsS (l.take (i + 1)) = endsS (l.take i) ++ [l[i].A, l[i].B] := by
  rw [List.take_succ_eq_append_getElem h, endsS_snoc]
theorem endsS_len (l : List Bond) : (endsS l).length = 2 * l.length := by
  induction l with
  | nil => rfl
  | cons x l ih => simp only [endsS, List.flatMap_cons, List.length_append, List.length_cons, List.length_nil] at *; omega
theorem sortC_len (l : List Couple) : (sortC l).length = l.length := (sortC_perm l).length_eq
theorem refsS_len (l : List Bond) : (refsS l).length ≤ 2 * l.length := by
  unfold refsS
  have := compactS_len (sortC (endsS l))
  rw [sortC_len, endsS_len] at this; exact this
theorem mem_refsS {l : List Bond} {r : Couple} : r ∈ refsS l ↔ ∃ x ∈ l, r = x.A ∨ r = x.B := by
  unfold refsS
  rw [compactS_mem, (sortC_perm _).mem_iff]
  simp [endsS, List.mem_flatMap]
theorem refsS_sorted (l : List Bond) : (refsS l).Pairwise ltP := by
  unfold refsS
  have h1 := sortC_sorted (endsS l)
  have h2 := compactS_nodup (le := fun x y => leC x y = true) leC_anti h1
  have h3 := h1.sublist (compactS_sub _)
  refine (h3.and h2).imp fun {x y} ⟨h4, h5⟩ => ?_
  rcases ltP_tri x y with h | h | h
  · exact h
  · exact absurd h h5
  · exact absurd h (ltP_le.1 h4)
theorem sorted_nodup {l : List Couple} (h : l.Pairwise ltP) : l.Nodup := h.imp fun {x y} hxy e => by subst e; exact ltP_irrefl _ hxy
theorem refsS_nodup (l : List Bond) : (refsS l).Nodup := sorted_nodup (refsS_sorted l)
theorem sorted_ext {l l' : List Couple} (h : l.Pairwise ltP) (h' : l'.Pairwise ltP) (hm : ∀ r, r ∈ l ↔ r ∈ l') : l = l' := by
  have hp : l.Perm l' := (List.perm_ext_iff_of_nodup (sorted_nodup h) (sorted_nodup h')).2 hm
  refine sorted_unique leC_anti hp (h.imp fun {x y} hxy => ltP_le.2 fun h2 => ltP_irrefl _ (ltP_trans hxy h2)) (h'.imp fun {x y} hxy => ltP_le.2 fun h2 => ltP_irrefl _ (ltP_trans hxy h2))
def joinF (ρ : Couple → Couple) (a b : Couple) : Couple → Couple := fun r => if ρ r = ρ a then ρ b else ρ r
def rhoF (ρ : Couple → Couple) (l : List Bond) : Couple → Couple := l.foldl (fun ρ x => joinF ρ x.A x.B) ρ
def rhoS (l : List Bond) : Couple → Couple := rhoF id l
theorem rhoS_snoc (l : List Bond) (x : Bond) : rhoS (l ++ [x]) = joinF (rhoS l) x.A x.B := by unfold rhoS rhoF; rw [List.foldl_append]; rfl
theorem rhoS_nil : rhoS [] = id := rfl
theorem rhoF_inv {γ : Type} (p : Couple → γ) : ∀ (l : List Bond) (ρ : Couple → Couple), (∀ x ∈ l, p x.A = p x.B) → (∀ r, p (ρ r) = p r) → ∀ r, p (rhoF ρ l r) = p r
  | [], ρ, _, h, r => h r
  | x :: l, ρ, hx, h, r => by
    show p (rhoF (joinF ρ x.A x.B) l r) = p r
    refine rhoF_inv p l _ (fun y hy => hx y (by simp [hy])) (fun s => ?_) r
    unfold joinF
    split
    · rename_i e; rw [h, ← hx x (by simp), ← h x.A, ← e, h]
    · exact h s
theorem rho_inv {γ : Type} {p : Couple → γ} {l : List Bond} (hx : ∀ x ∈ l, p x.A = p x.B) (r : Couple) : p (rhoS l r) = p r := rhoF_inv p l id hx (fun _ => rfl) r
theorem rhoF_keep : ∀ (l : List Bond) (ρ : Couple → Couple) {r s : Couple}, ρ r = ρ s → rhoF ρ l r = rhoF ρ l s
  | [], _, _, _, h => h
  | x :: l, ρ, r, s, h => rhoF_keep l (joinF ρ x.A x.B) (by unfold joinF; rw [h])
theorem rhoF_edge : ∀ (l : List Bond) (ρ : Couple → Couple) {x : Bond}, x ∈ l → rhoF ρ l x.A = rhoF ρ l x.B
  | y :: l, ρ, x, h => by
    rcases List.mem_cons.1 h with rfl | h
    · exact rhoF_keep l (joinF ρ x.A x.B) (by unfold joinF; rw [if_pos rfl]; split <;> rfl)
    · exact rhoF_edge l _ h
theorem rho_edge {l : List Bond} {x : Bond} (h : x ∈ l) : rhoS l x.A = rhoS l x.B := rhoF_edge l id h
theorem rho_ker {l l' : List Bond} (h : ∀ x ∈ l, x ∈ l') {r s : Couple} (e : rhoS l r = rhoS l s) : rhoS l' r = rhoS l' s := by
  have hp : ∀ x ∈ l, rhoS l' x.A = rhoS l' x.B := fun x hx => rho_edge (h x hx)
  rw [← rho_inv hp r, ← rho_inv hp s, e]
theorem rho_mem {l : List Bond} {r : Couple} : rhoS l r ∈ refsS l ↔ r ∈ refsS l := by
  have := rho_inv (p := fun r => decide (r ∈ refsS l)) (l := l) (fun x hx => by
    rw [decide_eq_true (mem_refsS.2 ⟨x, hx, .inl rfl⟩), decide_eq_true (mem_refsS.2 ⟨x, hx, .inr rfl⟩)]) r
  simpa using this
theorem rho_out {l : List Bond} {r : Couple} (h : r ∉ refsS l) : rhoS l r = r := by
  have := rho_inv (p := fun s => if s ∈ refsS l then none else some s) (l := l) (fun x hx => by
    rw [if_pos (mem_refsS.2 ⟨x, hx, .inl rfl⟩), if_pos (mem_refsS.2 ⟨x, hx, .inr rfl⟩)]) r
  rw [if_neg h, if_neg (fun hm => h (rho_mem.1 hm))] at this
  simpa using this
section
variable {α β : Type} [DecidableEq β]
def firstsS (f : α → β) (xs : List α) : List α := xs.foldl (fun acc r => if acc.any (fun q => decide (f q = f r)) then acc else acc ++ [r]) []
def groupS (f : α → β) (xs : List α) : List (List α) := (firstsS f xs).map fun q => xs.filter fun r => decide (f r = f q)
theorem firstsS_snoc (f : α → β) (xs : List α) (r : α) : firstsS f (xs ++ [r]) = if (firstsS f xs).any (fun q => decide (f q = f r)) then firstsS f xs else firstsS f xs ++ [r] := by
  unfold firstsS; rw [List.foldl_append]; rfl
theorem snoc_ind {p : List α → Prop} (h0 : p []) (h1 : ∀ l a, p l → p (l ++ [a])) (l : List α) : p l := by
  rw [← List.reverse_reverse l]
  induction l.reverse with
  | nil => exact h0
  | cons a l ih => rw [List.reverse_cons]; exact h1 _ a ih
theorem firsts_sub (f : α → β) (xs : List α) : (firstsS f xs).Sublist xs := by
  induction xs using snoc_ind with
  | h0 => exact List.Sublist.refl _
  | h1 l a ih =>
    rw [firstsS_snoc]; split
    · exact ih.trans (List.sublist_append_left _ _)
    · exact ih.append (List.Sublist.refl _)
theorem firsts_any {f : α → β} {xs : List α} {r : α} : (firstsS f xs).any (fun q => decide (f q = f r)) = true ↔ ∃ q ∈ xs, f q = f r := by
  induction xs using snoc_ind with
  | h0 => simp [firstsS]
  | h1 l a ih =>
    rw [firstsS_snoc]; split
    · rename_i h
      rw [ih]
      constructor
      · rintro ⟨q, hq, e⟩; exact ⟨q, by simp [hq], e⟩
      · rintro ⟨q, hq, e⟩
        rcases List.mem_append.1 hq with hq | hq
        · exact ⟨q, hq, e⟩
        · simp only [List.mem_singleton] at hq; subst hq
          obtain ⟨s, hs, e2⟩ := List.any_eq_true.1 h
          exact ⟨s, (firsts_sub f l).subset hs, by simpa [e] using e2⟩
    · simp only [List.any_append, Bool.or_eq_true, ih, List.any_cons, List.any_nil, Bool.or_false, decide_eq_true_eq]
      constructor
      · rintro (⟨q, hq, e⟩ | e)
        · exact ⟨q, by simp [hq], e⟩
        · exact ⟨a, by simp, e⟩
      · rintro ⟨q, hq, e⟩
        rcases List.mem_append.1 hq with hq | hq
        · exact .inl ⟨q, hq, e⟩
        · simp only [List.mem_singleton] at hq; subst hq; exact .inr e
theorem firsts_cover {f : α → β} {xs : List α} {r : α} (h : r ∈ xs) : ∃ q ∈ firstsS f xs, f q = f r := by
  have := (firsts_any (f := f) (xs := xs) (r := r)).2 ⟨r, h, rfl⟩
  obtain ⟨q, hq, e⟩ := List.any_eq_true.1 this
  exact ⟨q, hq, by simpa using e⟩
theorem firsts_nodup (f : α → β) (xs : List α) : ((firstsS f xs).map f).Nodup := by
  induction xs using snoc_ind with
  | h0 => simp [firstsS]
  | h1 l a ih =>
    rw [firstsS_snoc]; split
    · exact ih
    · rename_i h
      rw [List.map_append, List.nodup_append]
      refine ⟨ih, by simp, fun x hx y hy e => h ?_⟩
      obtain ⟨q, hq, rfl⟩ := List.mem_map.1 hx
      simp only [List.map_cons, List.map_nil, List.mem_singleton] at hy
      exact List.any_eq_true.2 ⟨q, hq, by simp [e, hy]⟩
theorem groupS_length (f : α → β) (xs : List α) : (groupS f xs).length = (firstsS f xs).length := by simp [groupS]
theorem groupS_get {f : α → β} {xs : List α} {i : Nat} (h : i < (groupS f xs).length) : (groupS f xs)[i] = xs.filter fun r => decide (f r = f ((firstsS f xs)[i]'(by rwa [groupS_length] at h))) := by simp [groupS]
theorem groupS_old {f : α → β} {xs : List α} {r : α} {i : Nat} (hi : i < (firstsS f xs).length) (e : f (firstsS f xs)[i] = f r) :
    firstsS f (xs ++ [r]) = firstsS f xs ∧ groupS f (xs ++ [r]) = (groupS f xs).modify i (· ++ [r]) := by
  have h1 : firstsS f (xs ++ [r]) = firstsS f xs := by
    rw [firstsS_snoc, if_pos (List.any_eq_true.2 ⟨_, List.getElem_mem hi, by simp [e]⟩)]
  refine ⟨h1, ?_⟩
  apply List.ext_getElem?
  intro j
  unfold groupS
  rw [h1, List.getElem?_modify, List.getElem?_map, List.getElem?_map]
  by_cases hj : j < (firstsS f xs).length
  · rw [List.getElem?_eq_getElem hj]
    simp only [Option.map_some, Option.some.injEq]
    by_cases hij : i = j
    · subst hij
      simp [List.filter_append, e]
    · rw [List.filter_append]
      have : ¬ f r = f (firstsS f xs)[j] := fun h2 => hij (by
        have hn := List.pairwise_iff_getElem.1 (firsts_nodup f xs)
        rcases Nat.lt_trichotomy i j with h3 | h3 | h3
        · exact absurd (by rw [List.getElem_map, List.getElem_map, e, h2]) (hn i j (by simpa using hi) (by simpa using hj) h3)
        · exact h3
        · exact absurd (by rw [List.getElem_map, List.getElem_map, e, h2]) (hn j i (by simpa using hj) (by simpa using hi) h3))
      simp [hij, this]
  · rw [List.getElem?_eq_none (by omega)]; simp
theorem groupS_new {f : α → β} {xs : List α} {r : α} (h : ∀ q ∈ firstsS f xs, f q ≠ f r) :
    firstsS f (xs ++ [r]) = firstsS f xs ++ [r] ∧ groupS f (xs ++ [r]) = groupS f xs ++ [[r]] := by
  have h0 : ¬ (firstsS f xs).any (fun q => decide (f q = f r)) = true := fun ha => by
    obtain ⟨q, hq, e⟩ := List.any_eq_true.1 ha
    exact h q hq (by simpa using e)
  have h1 : firstsS f (xs ++ [r]) = firstsS f xs ++ [r] := by rw [firstsS_snoc, if_neg h0]
  refine ⟨h1, ?_⟩
  unfold groupS
  rw [h1, List.map_append]
  congr 1
  · refine List.map_congr_left fun q hq => ?_
    rw [List.filter_append]
    simp [Ne.symm (h q hq)]
  · simp only [List.map_cons, List.map_nil, List.filter_append, List.cons.injEq, and_true]
    have : xs.filter (fun r_1 => decide (f r_1 = f r)) = [] := by
      rw [List.filter_eq_nil_iff]
      intro q hq hd
      exact h0 (firsts_any.2 ⟨q, hq, by simpa using hd⟩)
    rw [this]; simp
end
def partsS (l : List Bond) : List (List Couple) := groupS (rhoS l) (refsS l)
def splitS (l : List Bond) : List (List Bond) := (firstsS (rhoS l) (refsS l)).map fun q => l.filter fun x => decide (rhoS l x.A = rhoS l q)
theorem partsS_len (l : List Bond) : (partsS l).length ≤ 2 * l.length := by
  unfold partsS; rw [groupS_length]; exact Nat.le_trans (firsts_sub _ _).length_le (refsS_len l)
theorem splitS_len (l : List Bond) : (splitS l).length = (partsS l).length := by simp [splitS, partsS, groupS]
def Frst (u : List (Couple × Couple)) (ρ : Couple → Couple) (d : Couple → Nat) : Prop :=
  ∀ r v, mget u r = some v → (∃ v', mget u v = some v') ∧ ρ v = ρ r ∧ (v ≠ r → d v < d r) ∧ (v = r → ρ r = r)
def Dom (u : List (Couple × Couple)) (xs : List Couple) : Prop := ∀ r ∈ xs, ∃ v, mget u r = some v
theorem Dom.put {u : List (Couple × Couple)} {xs : List Couple} (h : Dom u xs) (a b : Couple) : Dom (mput u a b) xs := fun r hr => by
  rw [mget_mput]; split
  · exact ⟨_, rfl⟩
  · exact h r hr
theorem Dom.putIn {u : List (Couple × Couple)} {xs : List Couple} (h : Dom u xs) (a b : Couple) : Dom (mput u a b) (xs ++ [a]) := fun r hr => by
  rw [mget_mput]; split
  · exact ⟨_, rfl⟩
  · rename_i e
    rcases List.mem_append.1 hr with hr | hr
    · exact h r hr
    · simp only [List.mem_singleton] at hr; exact absurd hr.symm e
theorem Frst.self {u : List (Couple × Couple)} {d : Couple → Nat} (h : Frst u id d) (r : Couple) : Frst (mput u r r) id d := fun s v hs => by
  rw [mget_mput] at hs
  split at hs
  · rename_i e; obtain rfl : r = v := by simpa using hs
    subst e
    exact ⟨⟨r, by rw [mget_mput, if_pos rfl]⟩, rfl, fun h => absurd rfl h, fun _ => rfl⟩
  · obtain ⟨⟨v', h1⟩, h2, h3, h4⟩ := h s v hs
    refine ⟨?_, h2, h3, h4⟩
    rw [mget_mput]; split
    · exact ⟨_, rfl⟩
    · exact ⟨_, h1⟩
theorem Frst.halve {u : List (Couple × Couple)} {ρ : Couple → Couple} {d : Couple → Nat} (h : Frst u ρ d) {r v v2 : Couple} (hr : mget u r = some v) (hv : mget u v = some v2) (hne : v ≠ r) : Frst (mput u r v2) ρ d := fun s x hs => by
  have hd : ∀ {y : Couple}, (∃ v', mget u y = some v') → ∃ v', mget (mput u r v2) y = some v' := fun {y} hy => by
    rw [mget_mput]; split
    · exact ⟨_, rfl⟩
    · exact hy
  rw [mget_mput] at hs
  split at hs
  · rename_i e; obtain rfl : v2 = x := by simpa using hs
    subst e
    obtain ⟨_, h2, h3, h4⟩ := h r v hr
    obtain ⟨g1, g2, g3, g4⟩ := h v v2 hv
    refine ⟨hd g1, g2.trans h2, fun _ => ?_, fun e => ?_⟩
    · have := h3 hne
      by_cases e : v2 = v
      · rw [e]; exact this
      · have := g3 e; omega
    · exfalso
      have a1 := h3 hne
      by_cases e2 : v2 = v
      · exact hne (e2.symm.trans e)
      · have := g3 e2; rw [e] at this; omega
  · obtain ⟨h1, h2⟩ := h s x hs
    exact ⟨hd h1, h2⟩
theorem Frst.join {u : List (Couple × Couple)} {ρ : Couple → Couple} {d : Couple → Nat} (h : Frst u ρ d) {a b : Couple} (ha : mget u (ρ a) = some (ρ a)) (hb : mget u (ρ b) = some (ρ b)) : ∃ d', Frst (mput u (ρ a) (ρ b)) (joinF ρ a b) d' := by
  have ia := (h _ _ ha).2.2.2 rfl
  have ib := (h _ _ hb).2.2.2 rfl
  refine ⟨fun x => if ρ x = ρ a ∧ ρ a ≠ ρ b then d x + d (ρ b) + 1 else d x, fun s x hs => ?_⟩
  have hd : ∀ {y : Couple}, (∃ v', mget u y = some v') → ∃ v', mget (mput u (ρ a) (ρ b)) y = some v' := fun {y} hy => by
    rw [mget_mput]; split
    · exact ⟨_, rfl⟩
    · exact hy
  rw [mget_mput] at hs
  split at hs
  · rename_i e; obtain rfl : ρ b = x := by simpa using hs
    subst e
    refine ⟨hd ⟨_, hb⟩, ?_, fun hne => ?_, fun e => ?_⟩
    · unfold joinF; rw [ia, ib]; simp
    · simp only; rw [if_neg (fun h => hne (ib.symm.trans h.1)), if_pos ⟨ia, fun e => hne e.symm⟩]; omega
    · unfold joinF; rw [ia, if_pos rfl, e]
  · rename_i hne
    obtain ⟨h1, h2, h3, h4⟩ := h s x hs
    refine ⟨hd h1, ?_, fun hx => ?_, fun e => ?_⟩
    · unfold joinF; rw [h2]
    · have := h3 hx
      simp only [h2]; split <;> omega
    · have := h4 e
      unfold joinF; rw [if_neg (fun e2 => hne (by rw [← e2, this])), this]
end Go.K

/- Handing out what the call may still write. -/
namespace Go.K
open Rep
section
variable {α : Type} [Rep α] {w w' : World} {C C1 D D' : Nat → Nat} {I : List Nat} {e : TypeId} {v : Value} {ys : List α} {x : α} {j j1 i b : Nat} {t : TypeId}
theorem OwnL.give (h : OwnL w' C1 j1 e v ys) (hs : Stp I w D w' C1) (hF : Lim w C) (hD : Mc D = Mc C) (hj : ∀ b, b < w.heap.size → D b ≠ j1) (h1 : j1 ≠ 0) (j : Nat) (hjj : j ≠ 0) :
    ∃ C', (∀ b, b < w.heap.size → C' b = C b) ∧ Lim w' C' ∧ (∀ b, Mc C' b → Mc C1 b) ∧ OwnL w' C' j e v ys := by
  have old : ∀ b, Mc C b → Mc C1 b := fun b hb => by
    have hlt := hF b hb
    unfold Mc
    rw [hs.col b hlt]
    have : Mc D b := by rw [hD]; exact hb
    exact this
  have fresh : ∀ b, Ob v b → ¬ b < w.heap.size := fun b hb hlt => hj b hlt (by rw [← hs.col b hlt]; exact h.col b hb)
  refine ⟨setB C v j, fun b hb => ?_, fun b hb => ?_, fun b hb => ?_, ⟨h.own.sub (fun b _ hb => ?_) (fun b hb => ?_), fun b hb => ?_⟩⟩
  · unfold setB; rw [if_neg (show ¬ v.ownBlock = some b from fun e => fresh b e hb)]
  · by_cases ho : Ob v b
    · exact (h.own.ob b ho).2
    · unfold setB at hb; rw [if_neg (show ¬ v.ownBlock = some b from ho)] at hb
      exact Nat.lt_of_lt_of_le (hF b hb) hs.size
  · by_cases ho : Ob v b
    · unfold Mc; rw [h.col b ho]; exact h1
    · unfold Mc setB at hb; rw [if_neg (show ¬ v.ownBlock = some b from ho)] at hb; exact old b hb
  · by_cases ho : Ob v b
    · unfold Mc; rw [h.col b ho]; exact h1
    · unfold Mc setB at hb; rw [if_neg (show ¬ v.ownBlock = some b from ho)] at hb; exact old b hb
  · unfold Mc setB; rw [if_pos (show v.ownBlock = some b from hb)]; exact hjj
  · unfold setB; rw [if_pos (show v.ownBlock = some b from hb)]
theorem Stp.give {C' : Nat → Nat} (h : Stp I w C w' D') (hc : ∀ b, b < w.heap.size → C' b = C b) : Stp I w C w' C' := ⟨h.ext, hc⟩
theorem Stp.unfrz (h : Stp [] w D w' D') (C : Nat → Nat) : Stp [] w C w' C := ⟨h.ext.mono (fun b _ hb => (by cases hb)), fun _ _ => rfl⟩
theorem RV.give {C' : Nat → Nat} (h : RV w' (Mc C1) x v) (hM : ∀ b, Mc C' b → Mc C1 b) : RV w' (Mc C') x v := h.sub (fun b _ hb => hM b hb)
end
end Go.K

/- 'slices.SortFunc' on an own list. -/
namespace Go.K
open Rep Go.Proofs Go.Shelf Go.Sort
theorem ext_grow {W w' : World} (h : Ext (fun _ => False) W w') : ∃ q os', w' = grow (W.drewN q) os' := by
  refine ⟨w'.drawn - W.drawn, w'.heap.extract W.heap.size w'.heap.size, ?_⟩
  obtain ⟨h1, h2, h3, h4, h5, h6⟩ := h
  obtain ⟨hp, tp, dr, os, out⟩ := w'
  simp only at h1 h2 h3 h4 h5 h6
  unfold Dr at h6
  simp only at h6
  subst h1 h2 h3
  simp only [grow, World.drewN, World.mk.injEq, and_true, true_and]
  refine ⟨?_, by omega⟩
  apply Array.ext_getElem?
  intro b
  rw [Array.getElem?_append]
  split
  · rename_i hb; exact h5 b hb (fun h => h)
  · rename_i hb
    rw [Array.getElem?_extract]
    simp only [Nat.min_self]
    split
    · congr 1; omega
    · rw [Array.getElem?_eq_none (by omega)]
section
variable {P : Program} {ρ : Ren} {α : Type} [Inhabited α] [Rep α] {enc : α → List Value} {cf : α → α → Int} {w : World} {C : Nat → Nat} {j g0 : Nat} {e : TypeId} {v : Value} {ys : List α}
def leOf (cf : α → α → Int) : α → α → Bool := fun x y => !(ltOf cf) y x
theorem putCells_get {F cs : Array Value} (h : F.size ≤ cs.size) (t : Nat) : (putCells id 0 F cs)[t]? = if t < F.size then F[t]? else cs[t]? := by
  unfold putCells
  rw [Array.getElem?_mapIdx]
  by_cases ht : t < cs.size
  · rw [Array.getElem?_eq_getElem ht]
    simp only [Option.map_some, Nat.zero_le, true_and, Nat.zero_add, Nat.sub_zero, id]
    split
    · rename_i h1; rw [Array.getElem?_eq_getElem h1, getElem!_pos F t h1]
    · rfl
  · rw [Array.getElem?_eq_none (by omega), if_neg (by omega)]; rfl
theorem flatK_get {k : Nat} (hk : ∀ x, (enc x).length = k) (d : Array α) {i r : Nat} (hi : i < d.size) (hr : r < k) : (flatK enc k d)[i * k + r]? = (enc d[i])[r]? := by
  have hlt : i * k + r < d.size * k := by
    have := Nat.mul_le_mul_right k (show i + 1 ≤ d.size from hi)
    rw [Nat.succ_mul] at this; omega
  have hdiv : (i * k + r) / k = i := by rw [Nat.mul_comm, Nat.mul_add_div (by omega), Nat.div_eq_of_lt hr]; rfl
  have hmod : (i * k + r) % k = r := by rw [Nat.mul_comm, Nat.mul_add_mod, Nat.mod_eq_of_lt hr]
  have h := get_flatK enc k d (i * k + r) hlt
  rw [hdiv, hmod, getElem!_pos d i hi, getElem!_pos (flatK enc k d) _ (by rw [size_flatK]; exact hlt), getElem!_pos (enc d[i]) r (by rw [hk]; exact hr)] at h
  rw [Array.getElem?_eq_getElem (by rw [size_flatK]; exact hlt), h, List.getElem?_eq_getElem]
theorem sort_own (L : SlLaysF0.n6 P ρ) (aE : ∀ w, (isAgg (ρ.t 24)).run P w = .ok true w) (zE : ∀ w, (Go.sizeOf (ρ.t 24)).run P w = .ok (sz α) w)
    (henc : ∀ h M x vs, rep h M x vs ↔ vs = enc x) (hk : ∀ x : α, (enc x).length = sz α) (h0 : 0 < sz α) (h1 : ∀ x, ∀ u ∈ enc x, u.oneCell' = true) (hO : SWO (ltOf cf)) (hT : ∀ x y, (ltOf cf) x y = false → (ltOf cf) y x = false → x = y)
    (eg : ∀ args w, (callFunc g0 args).run P w = .ok (.enter g0 args) w)
    (hcmp : ∀ W x y, Calls P g0 #[.agg (enc x).toArray, .agg (enc y).toArray] W (Ret fun u w' => u = .int .i64 (cf x y) ∧ Ext (fun _ => False) W w'))
    (hF : Lim w C) (ho : OwnL w C j e v ys) (hlen : ys.length ≤ 140737488355328) :
    Calls P (ρ.f 6) #[v, .func (.func g0) #[] #[]] w (Ret fun u w' => u = .tuple #[] ∧ Stp [j] w C w' C ∧ OwnL w' C j e v (ys.mergeSort (leOf cf)) ∧ Lim w' C) := by
  obtain ⟨hown, hcol⟩ := ho
  rcases hown with ⟨rfl, rfl⟩ | ⟨g, cap, cs, rfl, hg, hc, hcap, h2, h3⟩
  · refine (AnyF.slices_SortFunc_none (P := P) (ρ := ρ) { L with } none 0 (.func (.func g0) #[] #[]) w).mono ?_
    rintro e' w' ⟨rfl, rfl⟩
    exact ⟨_, rfl, rfl, Stp.refl _ _ _, by simpa using (OwnL.nil (α := α)), hF⟩
  · have hcell : ∀ i (hi : i < ys.length) r, r < sz α → cs[i * sz α + r]? = (enc ys[i])[r]? := fun i hi r hr => by
      have h := (henc _ _ _ _).1 (h3 i hi)
      have := congrArg (fun l => l[r]?) h
      simp only [cellsAt, List.getElem?_take, if_pos hr, List.getElem?_drop, Array.getElem?_toList] at this
      exact this
    have hH : HoldsK enc (sz α) w g 0 ys.toArray := fun t ht => by
      rw [size_flatK] at ht
      simp only [List.size_toArray] at ht
      have hi : t / sz α < ys.length := Nat.div_lt_of_lt_mul (by rwa [Nat.mul_comm] at ht)
      have hr := Nat.mod_lt t h0
      have hsum : t / sz α * sz α + t % sz α = t := by rw [Nat.mul_comm]; exact Nat.div_add_mod t (sz α)
      have h5 := hcell _ hi _ hr
      have h6 := flatK_get hk ys.toArray (i := t / sz α) (r := t % sz α) (by simpa using hi) hr
      rw [hsum] at h5 h6
      refine ⟨?_, ?_⟩
      · rw [cell_of_row w g (0 + t) cs e (0, 0) hc, Nat.zero_add, h5]
        simp only [List.getElem_toArray] at h6
        rw [← h6, id]
        rw [getElem!_pos _ t (by rw [size_flatK]; simpa using ht), Array.getElem?_eq_getElem]
      · simp [World.frozen?, hc]
    have hlays : CmpLays P g0 #[] enc (sz α) cf g 0 ys.toArray.size w := fun m os dk hd x y => by
      have h := hcmp (sortWorldK enc (sz α) w g 0 m dk os) x y
      rw [Array.append_empty]
      refine h.mono ?_
      rintro e' w' ⟨u, rfl, rfl, hx⟩
      exact ⟨rfl, ext_grow hx⟩
    have hsort := AnyQ.slices_SortFunc_total L (sz α) aE zE enc hk h1 cf hO g0 #[] g 0 cap ys.toArray w eg hlays hH (lt_of_at hc) (by simp; omega) hT
    refine hsort.mono ?_
    rintro e' w' ⟨rfl, n, os, hw⟩
    have hperm := List.mergeSort_perm ys (leOf cf)
    have hl := hperm.length_eq
    have hle : (flatK enc (sz α) (ys.mergeSort (leOf cf)).toArray).size ≤ cs.size := by
      rw [size_flatK, h2]; simp only [List.size_toArray, hl]; exact Nat.mul_le_mul_right _ hcap
    have hat : w'.heap[g]? = some (.cells (putCells id 0 (flatK enc (sz α) (ys.mergeSort (leOf cf)).toArray) cs) e (0, 0)) := by
      rw [hw]
      show (grow (putRow id (Sort.ahead w n) g 0 (flatK enc (sz α) (ys.mergeSort (leOf cf)).toArray)) os).heap[g]? = _
      simp only [grow, putRow, mapBlock, Sort.ahead]
      rw [Array.getElem?_append_left (by simpa using lt_of_at hc), Array.getElem?_modify, if_pos rfl, hc]
      rfl
    have hstp : Stp [j] w C w' C := ⟨⟨by rw [hw]; rfl, by rw [hw]; rfl, by rw [hw]; rfl, by
        rw [hw]
        show w.heap.size ≤ (grow (putRow id (Sort.ahead w n) g 0 _) os).heap.size
        simp [grow, putRow, mapBlock, Sort.ahead], fun b hb hn => by
        have hbg : g ≠ b := fun e => hn (by rw [← e, hcol g rfl]; simp)
        rw [hw]
        show (grow (putRow id (Sort.ahead w n) g 0 _) os).heap[b]? = _
        simp only [grow, putRow, mapBlock, Sort.ahead]
        rw [Array.getElem?_append_left (by simpa using hb), Array.getElem?_modify, if_neg hbg], by
        rw [hw]
        unfold Dr
        exact Nat.le_add_right _ _⟩, fun _ _ => rfl⟩
    refine ⟨_, rfl, rfl, hstp, ⟨.inr ⟨g, cap, _, by rw [hl], hg, hat, by rw [hl]; exact hcap, ?_, ?_⟩, hcol⟩, hF.st hstp⟩
    · simp only [putCells, Array.size_mapIdx]; exact h2
    · intro i hi
      refine (henc _ _ _ _).2 ?_
      apply List.ext_getElem?
      intro r
      simp only [cellsAt, List.getElem?_take, List.getElem?_drop, Array.getElem?_toList]
      split
      · rename_i hr
        have hlt : i * sz α + r < (flatK enc (sz α) (ys.mergeSort (leOf cf)).toArray).size := by
          rw [size_flatK]; simp only [List.size_toArray]
          have := Nat.mul_le_mul_right (sz α) (show i + 1 ≤ _ from hi)
          rw [Nat.succ_mul] at this; omega
        rw [putCells_get hle, if_pos hlt, flatK_get hk _ (by simpa using hi) hr]
        simp
      · rename_i hr
        rw [List.getElem?_eq_none (by rw [hk]; omega)]
end
end Go.K

/- Maps that a function is handed to write; groups as they grow. -/
namespace Go.K
open Rep
section
variable {κ β : Type} {kv : κ → Value} {vv : β → Value} {m : List (κ × β)} {w w' w₀ : World} {I : List Nat} {C C' C₀ : Nat → Nat} {i j b : Nat}
theorem OwnM.col2 (h : OwnM w C i b kv vv m) (hi : i ≠ 0) : OwnM w (K.col2 C i) 2 b kv vv m := ⟨by unfold K.col2; rw [if_neg (by rw [h.1]; exact hi), if_pos h.1], h.2⟩
theorem OwnM.outM (h : OwnM w' C' j b kv vv m) (hb : C₀ b = i) : OwnM w' C₀ i b kv vv m := ⟨hb, h.2⟩
theorem OwnM.stay [DecidableEq κ] (h : OwnM w C j b kv vv m) (hS : Ext (fun b => C b ∈ I) w w') (hj : j ∉ I) : OwnM w' C j b kv vv m := h.st (I := I) ⟨hS, fun _ _ => rfl⟩ hj
theorem OwnM.give {D : Nat → Nat} (h : OwnM w' C' j b kv vv m) (hs : Stp I w₀ D w' C') (hF : Lim w₀ C₀) (hj : ∀ b, b < w₀.heap.size → D b ≠ j) (i : Nat) :
    ∃ C1, (∀ b, b < w₀.heap.size → C1 b = C₀ b) ∧ OwnM w' C1 i b kv vv m ∧ Lim w' C1 := by
  obtain ⟨hc, es, clock, hb, hm⟩ := h
  have hge : w₀.heap.size ≤ b := by
    rcases Nat.lt_or_ge b w₀.heap.size with h1 | h1
    · exact absurd (by rw [← hs.col b h1]; exact hc) (hj b h1)
    · exact h1
  refine ⟨setC C₀ b i, fun c hc => by unfold setC; rw [if_neg (by omega)], ⟨by simp [setC], es, clock, hb, hm⟩, fun c hc => ?_⟩
  unfold setC at hc
  split at hc
  · rename_i e; rw [e]; exact lt_of_at hb
  · exact Nat.lt_of_lt_of_le (hF c hc) hs.size
end
theorem Frst.idem {u : List (Couple × Couple)} {ρ : Couple → Couple} {d : Couple → Nat} (h : Frst u ρ d) {r : Couple} (hr : mget u r = some r) : ρ r = r := (h r r hr).2.2.2 rfl
def AtIs (m : List (Couple × Nat)) (ts : List Couple) : Prop := ∀ t i, mget m t = some i ↔ ts[i]? = some t
theorem AtIs.nil : AtIs [] [] := fun t i => by simp [mget]
theorem AtIs.new {m : List (Couple × Nat)} {ts : List Couple} (h : AtIs m ts) {t : Couple} (hn : mget m t = none) : AtIs (mput m t ts.length) (ts ++ [t]) := fun s i => by
  rw [mget_mput]
  split
  · rename_i e; subst e
    constructor
    · intro hi; obtain rfl : ts.length = i := by simpa using hi
      simp
    · intro hi
      rw [List.getElem?_append] at hi
      split at hi
      · have := (h t i).2 hi; rw [hn] at this; cases this
      · rename_i hlt
        have : i - ts.length = 0 := by
          rcases Nat.lt_or_ge (i - ts.length) 1 with h1 | h1
          · omega
          · rw [List.getElem?_eq_none (by simpa using h1)] at hi; cases hi
        simp; omega
  · rename_i e
    rw [h s i, List.getElem?_append]
    split
    · exact Iff.rfl
    · rename_i hlt
      rw [List.getElem?_eq_none (by omega)]
      constructor
      · intro h; cases h
      · intro h3
        exfalso
        rcases Nat.lt_or_ge (i - ts.length) 1 with h1 | h1
        · have : i - ts.length = 0 := by omega
          rw [this] at h3; simp at h3; exact e h3
        · rw [List.getElem?_eq_none (by simpa using h1)] at h3; cases h3
theorem AtIs.lt {m : List (Couple × Nat)} {ts : List Couple} (h : AtIs m ts) {t : Couple} {i : Nat} (hi : mget m t = some i) : ∃ hl : i < ts.length, ts[i] = t := List.getElem?_eq_some_iff.1 ((h t i).1 hi)
theorem AtIs.none {m : List (Couple × Nat)} {ts : List Couple} (h : AtIs m ts) {t : Couple} (hn : mget m t = none) : t ∉ ts := fun hm => by
  obtain ⟨i, hi, e⟩ := List.mem_iff_getElem.1 hm
  have := (h t i).2 (by rw [List.getElem?_eq_getElem hi, e])
  rw [hn] at this; cases this
theorem big_ge {n : Nat} : ∀ c ∈ ([2, 3, 4, 5, 6, 7, 8, 9] ++ List.range' 10 n : List Nat), 2 ≤ c := by
  intro c hc
  simp only [List.mem_append, List.mem_cons, List.not_mem_nil, or_false, List.mem_range'_1] at hc
  omega
def updV (f : Nat → Value) (k : Nat) (y : Value) : Nat → Value := fun x => if x = k then y else f x
def svsF (vf : Nat → Value) (n : Nat) : List Sv := (List.range n).map fun i => ⟨vf i⟩
theorem svsF_len (vf : Nat → Value) (n : Nat) : (svsF vf n).length = n := by simp [svsF]
theorem svsF_get {vf : Nat → Value} {n i : Nat} (h : i < (svsF vf n).length) : (svsF vf n)[i].v = vf i := by simp [svsF]
theorem svsF_set {vf : Nat → Value} {n i : Nat} (y : Value) : (svsF vf n).set i ⟨y⟩ = svsF (updV vf i y) n := by
  apply List.ext_getElem?
  intro j
  rw [List.getElem?_set]
  simp only [svsF_len]
  by_cases hj : j < n
  · have e1 : (svsF vf n)[j]? = some ⟨vf j⟩ := by simp [svsF, hj]
    have e2 : (svsF (updV vf i y) n)[j]? = some ⟨updV vf i y j⟩ := by simp [svsF, hj]
    rw [e1, e2]
    by_cases h : i = j
    · subst h; simp [updV, hj]
    · rw [if_neg h]; simp [updV, Ne.symm h]
  · have e1 : (svsF vf n)[j]? = none := by simp [svsF]; omega
    have e2 : (svsF (updV vf i y) n)[j]? = none := by simp [svsF]; omega
    rw [e1, e2]
    split
    · rw [if_neg (by omega)]
    · rfl
theorem svsF_snoc {vf : Nat → Value} {n : Nat} (y : Value) : svsF vf n ++ [⟨y⟩] = svsF (updV vf n y) (n + 1) := by
  unfold svsF
  rw [List.range_succ, List.map_append]
  congr 1
  · refine List.map_congr_left fun i hi => ?_
    have := List.mem_range.1 hi
    simp only [updV]; rw [if_neg (by omega)]
  · simp [updV]
theorem svsF_rep (n : Nat) (y : Value) : List.replicate n (⟨y⟩ : Sv) = svsF (fun _ => y) n := by
  unfold svsF
  apply List.ext_getElem
  · simp
  · intro i h1 h2; simp
section
variable {α β : Type} [DecidableEq β] {f : α → β} {xs : List α} {r : α} {i0 : Nat}
theorem groupS_stepO (hi : i0 < (firstsS f xs).length) (e : f (firstsS f xs)[i0] = f r) :
    firstsS f (xs ++ [r]) = firstsS f xs ∧ ∀ i, (groupS f (xs ++ [r])).getD i [] = if i = i0 then (groupS f xs).getD i0 [] ++ [r] else (groupS f xs).getD i [] := by
  obtain ⟨h1, h2⟩ := groupS_old hi e
  refine ⟨h1, fun i => ?_⟩
  rw [h2]
  simp only [List.getD_eq_getElem?_getD, List.getElem?_modify]
  by_cases h : i = i0
  · subst h
    have : i < (groupS f xs).length := by rw [groupS_length]; exact hi
    simp [this]
  · rw [if_neg h]
    have : ¬ i0 = i := fun e => h e.symm
    simp [this]
theorem groupS_stepN (h : ∀ q ∈ firstsS f xs, f q ≠ f r) (h0 : i0 = (firstsS f xs).length) :
    firstsS f (xs ++ [r]) = firstsS f xs ++ [r] ∧ ∀ i, (groupS f (xs ++ [r])).getD i [] = if i = i0 then (groupS f xs).getD i0 [] ++ [r] else (groupS f xs).getD i [] := by
  obtain ⟨h1, h2⟩ := groupS_new h
  refine ⟨h1, fun i => ?_⟩
  subst h0
  rw [h2, ← groupS_length]
  simp only [List.getD_eq_getElem?_getD, List.getElem?_append]
  by_cases h : i = (groupS f xs).length
  · subst h; simp
  · rw [if_neg h]
    by_cases h3 : i < (groupS f xs).length
    · rw [if_pos h3]
    · rw [if_neg h3, List.getElem?_eq_none (by simp; omega), List.getElem?_eq_none (by omega)]
theorem getD_group_len (f : α → β) (xs : List α) (i : Nat) {n : Nat} (h : xs.length ≤ n) : ((groupS f xs).getD i []).length ≤ n := by
  rw [List.getD_eq_getElem?_getD]
  by_cases hi : i < (groupS f xs).length
  · rw [List.getElem?_eq_getElem hi, groupS_get]; exact Nat.le_trans (List.length_filter_le _ _) h
  · rw [List.getElem?_eq_none (by omega)]; simp
theorem groupS_none {i : Nat} (h : (firstsS f xs).length ≤ i) : (groupS f xs).getD i [] = [] := by
  rw [List.getD_eq_getElem?_getD, List.getElem?_eq_none (by rw [groupS_length]; exact h)]; rfl
end
theorem rv_lists {α : Type} [Rep α] {w : World} {M : Nat → Prop} {vf : Nat → Value} {ls : List (List α)} {v : Value} (h : RV w M (svsF vf ls.length) v) (he : ∀ i, i < ls.length → RV w M (ls.getD i []) (vf i)) : RV w M ls v :=
  RV.svs h rfl (by rw [svsF_len]) fun i h1 h2 => by
    rw [svsF_get]
    have := he i h1
    rwa [List.getD_eq_getElem?_getD, List.getElem?_eq_getElem h1] at this
def Ix (um : List (Couple × Nat)) (P : List (List Couple)) (k j : Nat) : Prop := ∀ i r, (i < k ∧ r ∈ P.getD i []) ∨ (i = k ∧ r ∈ (P.getD k []).take j) → mget um r = some i
theorem Ix.nil (P : List (List Couple)) : Ix [] P 0 0 := fun i r h => by
  rcases h with ⟨h, _⟩ | ⟨_, h⟩
  · omega
  · simp at h
theorem Ix.next {um : List (Couple × Nat)} {P : List (List Couple)} {k j : Nat} (h : Ix um P k j) (hj : (P.getD k []).length ≤ j) : Ix um P (k + 1) 0 := fun i r hi => by
  rcases hi with ⟨h1, h2⟩ | ⟨_, h2⟩
  · by_cases e : i = k
    · subst e; exact h i r (.inr ⟨rfl, by rw [List.take_of_length_le hj]; exact h2⟩)
    · exact h i r (.inl ⟨by omega, h2⟩)
  · simp at h2
theorem parts_getD {l : List Bond} {i : Nat} {r : Couple} : r ∈ (partsS l).getD i [] ↔ ∃ hi : i < (firstsS (rhoS l) (refsS l)).length, r ∈ refsS l ∧ rhoS l r = rhoS l (firstsS (rhoS l) (refsS l))[i] := by
  rw [List.getD_eq_getElem?_getD]
  by_cases hi : i < (partsS l).length
  · rw [List.getElem?_eq_getElem hi]
    have hi2 : i < (firstsS (rhoS l) (refsS l)).length := by unfold partsS at hi; rwa [groupS_length] at hi
    have : (partsS l)[i] = (refsS l).filter fun r => decide (rhoS l r = rhoS l (firstsS (rhoS l) (refsS l))[i]) := groupS_get hi
    rw [Option.getD_some, this, List.mem_filter, decide_eq_true_eq]
    exact ⟨fun h => ⟨hi2, h⟩, fun ⟨_, h⟩ => h⟩
  · rw [List.getElem?_eq_none (by omega)]
    simp only [Option.getD_none, List.not_mem_nil, false_iff]
    rintro ⟨h, _⟩
    exact hi (by unfold partsS; rwa [groupS_length])
theorem firsts_uniq {α β : Type} [DecidableEq β] {f : α → β} {xs : List α} {i j : Nat} (hi : i < (firstsS f xs).length) (hj : j < (firstsS f xs).length) (e : f (firstsS f xs)[i] = f (firstsS f xs)[j]) : i = j := by
  have hn := List.pairwise_iff_getElem.1 (firsts_nodup f xs)
  rcases Nat.lt_trichotomy i j with h3 | h3 | h3
  · exact absurd (by rw [List.getElem_map, List.getElem_map, e]) (hn i j (by simpa using hi) (by simpa using hj) h3)
  · exact h3
  · exact absurd (by rw [List.getElem_map, List.getElem_map, e]) (hn j i (by simpa using hj) (by simpa using hi) h3)
theorem parts_disj {l : List Bond} {i j : Nat} {r : Couple} (h : r ∈ (partsS l).getD i []) (h' : r ∈ (partsS l).getD j []) : i = j := by
  obtain ⟨hi, _, h1⟩ := parts_getD.1 h
  obtain ⟨hj, _, h2⟩ := parts_getD.1 h'
  exact firsts_uniq hi hj (h1.symm.trans h2)
theorem Ix.put {um : List (Couple × Nat)} {l : List Bond} {k j : Nat} (h : Ix um (partsS l) k j) (hk : k < (partsS l).length) (hj : j < (partsS l)[k].length) : Ix (mput um (partsS l)[k][j] k) (partsS l) k (j + 1) := fun i r hi => by
  have hg : (partsS l).getD k [] = (partsS l)[k] := by rw [List.getD_eq_getElem?_getD, List.getElem?_eq_getElem hk]; rfl
  rw [mget_mput]
  split
  · rename_i e; subst e
    have hm : (partsS l)[k][j] ∈ (partsS l).getD k [] := by rw [hg]; exact List.getElem_mem hj
    rcases hi with ⟨h1, h2⟩ | ⟨h1, _⟩
    · exact absurd (parts_disj h2 hm) (by omega)
    · rw [h1]
  · rename_i e
    refine h i r ?_
    rcases hi with hi | ⟨h1, h2⟩
    · exact .inl hi
    · refine .inr ⟨h1, ?_⟩
      rw [hg] at h2 ⊢
      rw [List.take_succ_eq_append_getElem hj] at h2
      rcases List.mem_append.1 h2 with h2 | h2
      · exact h2
      · simp only [List.mem_singleton] at h2; exact absurd h2.symm e
theorem parts_cover {l : List Bond} {r : Couple} (h : r ∈ refsS l) : ∃ i, r ∈ (partsS l).getD i [] := by
  obtain ⟨q, hq, e⟩ := firsts_cover (f := rhoS l) h
  obtain ⟨i, hi, rfl⟩ := List.mem_iff_getElem.1 hq
  exact ⟨i, parts_getD.2 ⟨hi, h, e.symm⟩⟩
def splitK (l : List Bond) (k : Nat) : List (List Bond) := (firstsS (rhoS l) (refsS l)).map fun q => (l.take k).filter fun x => decide (rhoS l x.A = rhoS l q)
theorem splitK_all (l : List Bond) : splitK l l.length = splitS l := by unfold splitK splitS; rw [List.take_length]
theorem splitK_getD {l : List Bond} {k i : Nat} (hi : i < (firstsS (rhoS l) (refsS l)).length) : (splitK l k).getD i [] = (l.take k).filter fun x => decide (rhoS l x.A = rhoS l (firstsS (rhoS l) (refsS l))[i]) := by
  rw [List.getD_eq_getElem?_getD, List.getElem?_eq_getElem (by simpa [splitK] using hi)]; simp [splitK]
theorem splitK_zero (l : List Bond) (i : Nat) : (splitK l 0).getD i [] = [] := by
  rw [List.getD_eq_getElem?_getD]; unfold splitK
  by_cases hi : i < (firstsS (rhoS l) (refsS l)).length
  · rw [List.getElem?_eq_getElem (by simpa using hi)]; simp
  · rw [List.getElem?_eq_none (by simp; omega)]; rfl
theorem splitK_glen (l : List Bond) (k i : Nat) : ((splitK l k).getD i []).length ≤ l.length := by
  by_cases hi : i < (firstsS (rhoS l) (refsS l)).length
  · rw [splitK_getD hi]; exact Nat.le_trans (List.length_filter_le _ _) (by rw [List.length_take]; omega)
  · rw [List.getD_eq_getElem?_getD, List.getElem?_eq_none (by simp [splitK]; omega)]; simp
theorem splitK_step {l : List Bond} {k i0 i : Nat} (hk : k < l.length) (h0 : l[k].A ∈ (partsS l).getD i0 []) (hi : i < (partsS l).length) :
    (splitK l (k + 1)).getD i [] = if i = i0 then (splitK l k).getD i0 [] ++ [l[k]] else (splitK l k).getD i [] := by
  have hi2 : i < (firstsS (rhoS l) (refsS l)).length := by unfold partsS at hi; rwa [groupS_length] at hi
  obtain ⟨hf0, _, e⟩ := parts_getD.1 h0
  rw [splitK_getD hi2, List.take_succ_eq_append_getElem hk, List.filter_append]
  by_cases h : i = i0
  · subst h; rw [if_pos rfl, splitK_getD hi2]; simp [e]
  · rw [if_neg h, splitK_getD hi2]
    have : ¬ rhoS l l[k].A = rhoS l (firstsS (rhoS l) (refsS l))[i] := fun e2 => h (firsts_uniq hi2 hf0 (e2.symm.trans e))
    simp [this]
end Go.K

/- The bonds that a deck deals. -/
namespace Go.K
open Rep
theorem asc_len {α : Type} (f : α → Nat) (N : Nat) : ∀ (l : List α) (lo : Nat), l.Pairwise (fun x y => f x < f y) → (∀ x ∈ l, lo ≤ f x ∧ f x < N) → l.length ≤ N - lo
  | [], _, _, _ => Nat.zero_le _
  | x :: l, lo, hp, h => by
    obtain ⟨h1, h2⟩ := List.pairwise_cons.1 hp
    have hx := h x (by simp)
    have ih := asc_len f N l (f x + 1) h2 (fun y hy => ⟨h1 y hy, (h y (by simp [hy])).2⟩)
    simp only [List.length_cons]; omega
def okR (R I : Nat) (x : Bond) : Prop := 0 ≤ x.A.a ∧ x.A.a < x.B.a ∧ x.B.a < R ∧ 1 ≤ x.A.b ∧ x.A.b ≤ I ∧ 1 ≤ x.B.b ∧ x.B.b ≤ I ∧ 1 ≤ x.w ∧ x.w ≤ 9
def Cur (r i s k : Nat) (x : Bond) : Prop := x.A.a < r ∨ x.A.a = r ∧ (x.A.b < i ∨ x.A.b = i ∧ (x.B.a < s ∨ x.B.a = s ∧ x.B.b < k))
def Dl (R I r i s k : Nat) (l : List Bond) : Prop := (∀ x ∈ l, okR R I x ∧ Cur r i s k x) ∧ l.Pairwise lt2
def Dlt (R I : Nat) (l : List Bond) : Prop := (∀ x ∈ l, okR R I x) ∧ l.Pairwise lt2 ∧ l.length ≤ 4096
theorem Dl.nil (R I r i s k : Nat) : Dl R I r i s k [] := ⟨fun x h => by simp at h, List.Pairwise.nil⟩
theorem Dl.to {R I r i s k r' i' s' k' : Nat} {l : List Bond} (h : Dl R I r i s k l) (hc : ∀ x, okR R I x → Cur r i s k x → Cur r' i' s' k' x) : Dl R I r' i' s' k' l :=
  ⟨fun x hx => ⟨(h.1 x hx).1, hc x (h.1 x hx).1 (h.1 x hx).2⟩, h.2⟩
theorem Dl.len {R I r i s k : Nat} {l : List Bond} (h : Dl R I r i s k l) (hR : R ≤ 7) (hI : I ≤ 7) : l.length ≤ 4096 := by
  have hb : ∀ x ∈ l, okR R I x := fun x hx => (h.1 x hx).1
  have := asc_len (fun x : Bond => (x.A.a * 512 + x.A.b * 64 + x.B.a * 8 + x.B.b).toNat) 4096 l 0 (h.2.imp_of_mem fun {x y} hx hy hxy => by
    have h1 := hb x hx; have h2 := hb y hy
    unfold okR at h1 h2
    unfold lt2 ltP at hxy
    show (x.A.a * 512 + x.A.b * 64 + x.B.a * 8 + x.B.b).toNat < (y.A.a * 512 + y.A.b * 64 + y.B.a * 8 + y.B.b).toNat
    rcases hxy with (h3 | ⟨h3, h4⟩) | ⟨h3, h4 | ⟨h4, h5⟩⟩
    · omega
    · omega
    · rw [h3] at *; omega
    · rw [h3] at *; omega) (fun x hx => by
    have h1 := hb x hx
    unfold okR at h1
    show 0 ≤ _ ∧ (x.A.a * 512 + x.A.b * 64 + x.B.a * 8 + x.B.b).toNat < 4096
    omega)
  simpa using this
theorem Dl.push {R I r i s k : Nat} {l : List Bond} {q : Nat} (h : Dl R I r i s k l) (hr : r < s) (hs : s < R) (hi : 1 ≤ i ∧ i ≤ I) (hk : 1 ≤ k ∧ k ≤ I) (hq : (q : Int) < 9) : Dl R I r i s (k + 1) (l ++ [⟨⟨r, i⟩, ⟨s, k⟩, 1 + q⟩]) := by
  refine ⟨fun x hx => ?_, ?_⟩
  · rcases List.mem_append.1 hx with hx | hx
    · obtain ⟨h1, h2⟩ := h.1 x hx
      refine ⟨h1, ?_⟩
      unfold Cur at *; omega
    · simp only [List.mem_singleton] at hx; subst hx
      refine ⟨?_, ?_⟩
      · unfold okR; refine ⟨by show (0 : Int) ≤ r; omega, by show (r : Int) < s; omega, by show (s : Int) < R; omega, by show (1 : Int) ≤ i; omega, by show (i : Int) ≤ I; omega, by show (1 : Int) ≤ k; omega, by show (k : Int) ≤ I; omega, by show (1 : Int) ≤ 1 + q; omega, by show (1 : Int) + q ≤ 9; omega⟩
      · exact .inr ⟨rfl, .inr ⟨rfl, .inr ⟨rfl, by show (k : Int) < (k + 1 : Nat); omega⟩⟩⟩
  · rw [List.pairwise_append]
    refine ⟨h.2, by simp, fun x hx y hy => ?_⟩
    simp only [List.mem_singleton] at hy; subst hy
    obtain ⟨h1, h2⟩ := h.1 x hx
    unfold Cur at h2; unfold okR at h1; unfold lt2 ltP
    rcases h2 with h2 | ⟨h2, h3 | ⟨h3, h4⟩⟩
    · exact .inl (.inl h2)
    · exact .inl (.inr ⟨h2, h3⟩)
    · exact .inr ⟨couple_ext h2 h3, h4⟩
theorem Dl.fin {R I r i s k : Nat} {l : List Bond} (h : Dl R I r i s k l) (hR : R ≤ 7) (hI : I ≤ 7) : Dlt R I l := ⟨fun x hx => (h.1 x hx).1, h.2, h.len hR hI⟩
theorem Dlt.vld {R I : Nat} {l : List Bond} (h : Dlt R I l) (hR : R ≤ 4) (hI : I ≤ 7) : Vld l := ⟨h.2.2, fun x hx => by
  have h1 := h.1 x hx
  unfold okR at h1
  refine ⟨?_, by omega, by omega⟩
  unfold cplOK refOK
  simp only [Bool.and_eq_true, decide_eq_true_eq]
  omega, h.2.1⟩
end Go.K

/- Missed matches: plain. -/
namespace Go.K
open Rep
structure Key where
  comps : List Couple
instance : Rep Key where
  sz := 1
  agg := true
  flat h := by cases h
  rep h M x vs := rep h M x.comps vs
  len h := Rep.len (α := List Couple) h
  one h := Rep.one (α := List Couple) h
  keep h hk := Rep.keep (α := List Couple) h hk
  sub h hk := Rep.sub (α := List Couple) h hk
structure Fv where
  val : Value
  one : val.oneCell' = true
instance : Rep Fv where
  sz := 1
  agg := false
  flat _ := rfl
  rep _ _ x vs := vs = [x.val]
  len h := by subst h; rfl
  one h := by subst h; rename_i x; intro v hv; simp at hv; subst hv; exact x.one
  keep h _ := h
  sub h _ := h
section
variable {w : World} {M : Nat → Prop} {b o : Nat} {v : Value}
end
def idxOf {α : Type} (p : α → Bool) (l : List α) : Int := if l.any p then (l.findIdx p : Int) else -1
theorem idxOf_at {α : Type} {p : α → Bool} {l : List α} {k : Nat} (h : k < l.length) (h0 : ∀ i (hi : i < k), p (l[i]'(by omega)) = false) (hp : p l[k] = true) : idxOf p l = k := by
  unfold idxOf
  rw [if_pos (List.any_eq_true.2 ⟨l[k], List.getElem_mem h, hp⟩)]
  have : l.findIdx p = k := (List.findIdx_eq h).2 ⟨hp, fun j hj => by simpa using h0 j hj⟩
  rw [this]
theorem idxOf_none {α : Type} {p : α → Bool} {l : List α} (h0 : ∀ i (hi : i < l.length), p l[i] = false) : idxOf p l = -1 := by
  unfold idxOf
  rw [if_neg]
  intro h
  obtain ⟨x, hx, hp⟩ := List.any_eq_true.1 h
  obtain ⟨i, hi, rfl⟩ := List.mem_iff_getElem.1 hx
  rw [h0 i hi] at hp; cases hp
theorem idxOf_ge {α : Type} {p : α → Bool} {l : List α} : decide (0 ≤ idxOf p l) = l.any p := by
  unfold idxOf
  cases h : l.any p
  · rfl
  · simp only [if_true]; exact decide_eq_true (by omega)
def bitsL (mask n : Nat) : List Int := ((List.range n).filter fun i => mask.testBit i).map fun i : Nat => (i : Int)
def bestS (f q : Nat → Int) (budget : Int) : Nat → Option Nat
  | 0 => none
  | n + 1 => if budget < q n then bestS f q budget n else match bestS f q budget n with
    | none => some n
    | some m => if f n < f m ∨ (f n = f m ∧ q n < q m) then some n else some m
def pk (bm : Option Nat) : List Int := match bm with | none => [] | some m => bitsL m 8
end Go.K

/- The plain laws of chapter 30. -/
namespace Go.K
open Rep
theorem getD_at {α : Type} {l : List (List α)} {i : Nat} (h : i < l.length) : l.getD i [] = l[i] := by rw [List.getD_eq_getElem?_getD, List.getElem?_eq_getElem h]; rfl
theorem any_is {l : List Couple} {c : Couple} : (l.any fun x => decide (c = x)) = true ↔ c ∈ l := by
  rw [List.any_eq_true]
  exact ⟨fun ⟨x, hx, e⟩ => by rw [of_decide_eq_true e]; exact hx, fun h => ⟨c, h, by simp⟩⟩
theorem firsts_img {α β : Type} [DecidableEq β] {f : α → β} {xs : List α} {t : β} : t ∈ (firstsS f xs).map f ↔ ∃ r ∈ xs, f r = t := by
  rw [List.mem_map]
  constructor
  · rintro ⟨q, hq, e⟩; exact ⟨q, (firsts_sub f xs).subset hq, e⟩
  · rintro ⟨r, hr, e⟩
    obtain ⟨q, hq, e2⟩ := firsts_cover (f := f) hr
    exact ⟨q, hq, e2.trans e⟩
theorem splitS_get {l : List Bond} {i : Nat} (h : i < (splitS l).length) : (splitS l)[i] = l.filter fun x => decide (rhoS l x.A = rhoS l ((firstsS (rhoS l) (refsS l))[i]'(by simpa [splitS] using h))) := by simp [splitS]
theorem partsS_get {l : List Bond} {i : Nat} (h : i < (partsS l).length) : (partsS l)[i] = (refsS l).filter fun r => decide (rhoS l r = rhoS l ((firstsS (rhoS l) (refsS l))[i]'(by unfold partsS at h; rwa [groupS_length] at h))) := groupS_get h
theorem split_refs {l : List Bond} {i : Nat} (h : i < (splitS l).length) (h' : i < (partsS l).length) : refsS (splitS l)[i] = (partsS l)[i] := by
  rw [splitS_get, partsS_get]
  refine sorted_ext (refsS_sorted _) ((refsS_sorted l).filter _) fun r => ?_
  rw [mem_refsS, List.mem_filter, mem_refsS, decide_eq_true_eq]
  constructor
  · rintro ⟨x, hx, e⟩
    obtain ⟨hx, h2⟩ := List.mem_filter.1 hx
    refine ⟨⟨x, hx, e⟩, ?_⟩
    have h2 := of_decide_eq_true h2
    rcases e with rfl | rfl
    · exact h2
    · rw [← rho_edge hx]; exact h2
  · rintro ⟨⟨x, hx, e⟩, h2⟩
    refine ⟨x, List.mem_filter.2 ⟨hx, decide_eq_true ?_⟩, e⟩
    rcases e with rfl | rfl
    · exact h2
    · rw [rho_edge hx]; exact h2
theorem split_vld {l : List Bond} (hv : Vld l) {i : Nat} (h : i < (splitS l).length) : Vld (splitS l)[i] := by
  rw [splitS_get]; exact hv.sub List.filter_sublist
end Go.K
