/- Operations that chapter 30 needs: bools compared, entries of a map that is spelt, fields of elements of own lists. -/
import Derived.Test.YtfkggfmibpigpaaGreatDoorL1
import Derived.Laws.Small
import Derived.WalkKit
import Derived.ProofKit
import Derived.OpenShut
import Derived.ChangeSlices
import Derived.Below
import Derived.Carry
import Derived.Deep.Slices
import Derived.WideShapes
import Derived.ChangeArms
set_option linter.unusedVariables false
set_option linter.unusedSimpArgs false
set_option linter.unusedSectionVars false
namespace Go.K
open Rep
section
variable {P : Program} {N : Nat} {env : Env} {x y : Operand} {t u : TypeId} {a b : Bool} {w : World}
end
section
variable {κ β : Type} [DecidableEq κ] {kv : κ → Value} {vv : β → Value} {m : List (κ × β)} {w : World} {C : Nat → Nat} {j b : Nat}
variable {P : Program} {N : Nat} {env : Env} {x y z : Operand} {t kt et : TypeId}
end
section
variable {α : Type} [Rep α] {w : World} {C : Nat → Nat} {j : Nat} {xs : List α} {v : Value} {e : TypeId} {g i off k : Nat}
variable {P : Program} {N : Nat} {env : Env} {y z : Operand} {t : TypeId} {u : Value} {us : List Value}
theorem cellsAt_put {cs : List Value} {p s : Nat} (hp : p + s ≤ cs.length) (hl : us.length = k) (ho : off + k ≤ s) :
    cellsAt (cs.take (p + off) ++ us ++ cs.drop (p + off + k)).toArray p s = (cellsAt cs.toArray p s).take off ++ us ++ (cellsAt cs.toArray p s).drop (off + k) := by
  have l1 : (cs.take (p + off)).length = p + off := by rw [List.length_take]; omega
  have l2 : (cellsAt cs.toArray p s).length = s := by simp only [cellsAt, List.length_take, List.length_drop]; omega
  have hA : ∀ m, m < s → (cellsAt cs.toArray p s)[m]? = cs[p + m]? := fun m hm => by simp only [cellsAt, List.getElem?_take, List.getElem?_drop, if_pos hm]
  generalize hAA : cellsAt cs.toArray p s = A at *
  have l3 : (A.take off).length = off := by rw [List.length_take]; omega
  apply List.ext_getElem?
  intro m
  simp only [cellsAt, List.getElem?_take, List.getElem?_drop]
  by_cases h3 : m < s
  · rw [if_pos h3]
    by_cases h1 : m < off
    · rw [List.append_assoc, List.append_assoc, List.getElem?_append_left (by omega), List.getElem?_append_left (by omega), List.getElem?_take, if_pos (by omega), List.getElem?_take, if_pos h1, hA m h3]
    · by_cases h2 : m < off + k
      · rw [List.append_assoc, List.append_assoc, List.getElem?_append_right (by omega), List.getElem?_append_right (l₁ := A.take off) (by omega), List.getElem?_append_left (by omega), List.getElem?_append_left (by omega)]
        congr 1; omega
      · rw [List.getElem?_append_right (by rw [List.length_append]; omega), List.getElem?_append_right (l₁ := A.take off ++ us) (by rw [List.length_append]; omega), List.getElem?_drop, List.getElem?_drop, List.length_append, List.length_append, l1, l3, hl, hA _ (by omega)]
        congr 1; omega
  · rw [if_neg h3, List.getElem?_eq_none]
    simp only [List.length_append, List.length_drop]; omega
theorem a_storeF {x0 : α} (h : OwnL w C j e v xs) (hg : Ob v g) (hi : i < xs.length) (hy : ev env y = some (.pointer (some ⟨g, i * sz α + off, none⟩))) (hz : ev env z = some u) (hs : szB P t = some k)
    (hv : u.cells = us.toArray) (hl : us.length = k) (h1 : ∀ u ∈ us, u.oneCell' = true) (ho : off + k ≤ sz α)
    (hr : ∀ vs, rep w.heap (Mc C) xs[i] vs → rep w.heap (Mc C) x0 (vs.take off ++ us ++ vs.drop (off + k))) :
    Acts P N env (.store t y z) w (fun u' w' => u' = undef ∧ Stp [j] w C w' C ∧ OwnL w' C j e v (xs.set i x0)) := fun a ha oo hoo => by
  obtain ⟨g', cap, cs, rfl, hcol, hM, hc, hcap, h2, h3⟩ := h.at_own (by omega)
  simp only [Ob, Value.ownBlock, Option.some.injEq] at hg
  subst hg
  have hb : (i + 1) * sz α ≤ cap * sz α := Nat.mul_le_mul_right _ (by omega)
  rw [Nat.succ_mul] at hb
  obtain ⟨u', w', k1, k2, k3⟩ := acts_store (P := P) (N := N) (cs := cs.toList) (n := k) (vs := us) hy hz hs hv hl h1 (by simpa using hc) (by simp only [Array.length_toList]; omega) a ha oo hoo
  have hst : Stp [j] w C w' C := ⟨k3.ext.mono (fun b _ hb => by rw [show b = g' from hb, hcol]; simp), fun _ _ => rfl⟩
  have keep : ∀ {x : α} {vs : List Value}, rep w.heap (Mc C) x vs → rep w'.heap (Mc C) x vs := fun hr => Rep.keep hr (fun b hb hn => k3.ext.block b hb (fun e => hn (by rw [show b = g' from e]; exact hM)))
  refine ⟨u', w', k1, k2, hst, ⟨.inr ⟨g', cap, _, by rw [List.length_set], hM, k3.at_, by rw [List.length_set]; exact hcap, ?_, fun q hk => ?_⟩, h.col⟩⟩
  · simp only [List.size_toArray, List.length_append, List.length_take, List.length_drop, Array.length_toList, hl]; omega
  · rw [List.length_set] at hk
    rw [List.getElem_set]
    split
    · rename_i hik
      subst hik
      rw [cellsAt_put (by simp only [Array.length_toList]; omega) hl ho]
      exact keep (hr _ (by simpa using h3 i hi))
    · rename_i hik
      have : cellsAt (cs.toList.take (i * sz α + off) ++ us ++ cs.toList.drop (i * sz α + off + k)).toArray (q * sz α) (sz α) = cellsAt cs (q * sz α) (sz α) := cellsAt_ext (fun m hm => by
        rw [show ∀ (l : List Value) (p : Nat), l.toArray[p]? = l[p]? from fun l p => by simp, ← Array.getElem?_toList]
        rcases Nat.lt_or_ge q i with hlt | hge
        · have := Nat.mul_le_mul_right (sz α) (show q + 1 ≤ i from hlt)
          rw [Nat.succ_mul] at this
          rw [List.append_assoc, List.getElem?_append_left (by simp only [List.length_take, Array.length_toList]; omega), List.getElem?_take, if_pos (by omega)]
        · have := Nat.mul_le_mul_right (sz α) (show i + 1 ≤ q by omega)
          rw [Nat.succ_mul] at this
          rw [List.getElem?_append_right (by simp only [List.length_append, List.length_take, Array.length_toList, hl]; omega), List.getElem?_drop]
          congr 1
          simp only [List.length_append, List.length_take, Array.length_toList, hl]; omega)
      rw [this]; exact keep (h3 q hk)
theorem OwnL.cell (h : OwnL w C j e v xs) (hg : Ob v g) (hi : i < xs.length) (ho : off < sz α) (ha : aggB P t = some false) (hr : ∀ vs, rep w.heap (Mc C) xs[i] vs → vs[off]? = some u)
    (hy : ev env y = some (.pointer (some ⟨g, i * sz α + off, none⟩))) : ∀ w', w'.heap[g]? = w.heap[g]? → Val P N env (.load t y) w' u := by
  obtain ⟨g', cap, cs, rfl, _, _, hc, h1, h2, h3⟩ := h.at_own (by omega)
  simp only [Ob, Value.ownBlock, Option.some.injEq] at hg
  subst hg
  intro w' hw
  refine val_loadOwn (cs := cs.toList) (by rw [hw]; simpa using hc) ha ?_ hy
  have := hr _ (h3 i hi)
  simp only [cellsAt, List.getElem?_take, List.getElem?_drop, if_pos ho] at this
  exact this
end
section
variable {P : Program} {t tr ti : TypeId} {n0 n1 n2 tg0 tg1 tg2 pk0 pk1 pk2 : String} {e0 e1 e2 : Bool} {y0 y1 y2 : Nat} {N : Nat} {env : Env} {x y : Operand} {u : TypeId} {w : World}
end
end Go.K

/- A region whose operations come up in whatever order their edges allow: each one is shown once. -/
set_option linter.unusedVariables false
set_option linter.unusedSimpArgs false
namespace Go.K
open Rep
structure Nd where
  i : Nat
  t : Option Nat
  sup : List (Nat × Nat)
  W : List Nat
  bad : List Nat
  kill : List Nat
  dep : List Nat
  use : List Nat
  killV : List Nat
  F : Value → List Value → World → (Nat → Nat) → Prop
structure Vf where
  bad : List Nat
  F : World → (Nat → Nat) → Prop
def vF (V : List Vf) (u : Nat) (w : World) (C : Nat → Nat) : Prop := match V[u]? with | some v => v.F w C | none => True
def vB (V : List Vf) (u : Nat) : List Nat := match V[u]? with | some v => v.bad | none => []
def supE (val : Nat → Value) : List (Nat × Nat) → Env → Env
  | [], e => e
  | (i, t) :: l, e => (t, val i) :: supE val l e
def vals (val : Nat → Value) (l : List (Nat × Nat)) : List Value := l.map fun p => val p.1
def putsD (val : Nat → Value) : List Nd → Env → Env
  | [], e => e
  | m :: ms, e => match m.t with | some t => (t, val m.i) :: putsD val ms e | none => putsD val ms e
def MadeD (val : Nat → Value) (w : World) (C : Nat → Nat) (ks : List Nat) : List Nd → Prop
  | [] => True
  | m :: ms => (bif ks.contains m.i then True else m.F (val m.i) (vals val m.sup) w C) ∧ MadeD val w C ks ms
theorem madeD_all {val : Nat → Value} {w : World} {C : Nat → Nat} {ks : List Nat} : ∀ {ms : List Nd}, (∀ m ∈ ms, m.i ∉ ks → m.F (val m.i) (vals val m.sup) w C) → MadeD val w C ks ms
  | [], _ => trivial
  | m :: ms, h => by
    refine ⟨?_, madeD_all fun n hn => h n (List.mem_cons_of_mem _ hn)⟩
    cases hc : ks.contains m.i with
    | true => trivial
    | false => exact h m (by simp) fun hm => (by rw [List.contains_iff_mem.2 hm] at hc; cases hc)
def Does (P : Program) (N : Nat) (ops : Array Oper) (i : Nat) (env : Env) (w : World) (T : Value → World → Prop) : Prop :=
  ∀ (Q : Exit → Act → World → Prop) a, St N env a → wpOp P ops Q i (fun a' w' => ∃ v, a' = a.put ((ops[i]?).bind (·.dst)) v ∧ T v w') a w
section
variable {P : Program} {N : Nat} {ops : Array Oper} {i : Nat} {env : Env} {w : World} {T T' : Value → World → Prop} {d : Option Nat} {op : Op}
theorem Does.act (hop : opAt ops i = some (d, op, none)) (hy : Acts P N env op w T) : Does P N ops i env w T := fun Q a ha => by
  obtain ⟨o, ho, rfl, rfl, hg⟩ := opAt_spec hop
  have hw : Region.wanted o (yielded ops a.tmps) = true := by unfold Region.wanted; rw [hg]
  simp only [wpOp, ho, hw, if_true, Option.bind_some]
  obtain ⟨v, w', hrun, hT⟩ := hy a ha o rfl
  left
  unfold Oper.wp
  rcases hrun with hrun | ⟨hrun, rfl⟩
  · rw [hrun]; exact ⟨v, rfl, hT⟩
  · rw [hrun]; exact ⟨undef, rfl, hT⟩
theorem Does.val {v : Value} (hop : opAt ops i = some (d, op, none)) (hy : Val P N env op w v) : Does P N ops i env w (fun x w' => x = v ∧ w' = w) := Does.act hop hy.acts
theorem Does.call {g : FuncId} {args : Array Value} (hop : opAt ops i = some (d, op, none)) (hy : Enters P N env op w g args) (hc : Calls P g args w (Ret T)) : Does P N ops i env w T := fun Q a ha => by
  obtain ⟨o, ho, rfl, rfl, hg⟩ := opAt_spec hop
  have hw : Region.wanted o (yielded ops a.tmps) = true := by unfold Region.wanted; rw [hg]
  simp only [wpOp, ho, hw, if_true, Option.bind_some]
  left
  unfold Oper.wp
  rw [hy a ha o rfl]
  simp only [Oper.upon]
  refine hc.mono fun e w' he => ?_
  obtain ⟨v, rfl, hT⟩ := he
  exact ⟨v, rfl, hT⟩
theorem Does.mono (h : Does P N ops i env w T) (hT : ∀ v w', T v w' → T' v w') : Does P N ops i env w T' := fun Q a ha => wpOp_mono (fun a' w' ⟨v, e, h⟩ => ⟨v, e, hT v w' h⟩) (h Q a ha)
end
def afterB (ops : Array Oper) (i j : Nat) : Bool := match ops[i]? with | some o => o.after.any (fun e => Region.binds .any e && Nat.beq e.on j) | none => false
def chkDag (ops : Array Oper) (I : List Nat) (A : List Nat) (ms : List Nd) (V : List (List Nat)) : Bool :=
  chkA ops ops.size (Array.replicate ops.size false) A &&
  (List.range ops.size).all (fun u => A.contains u || ms.any (fun m => Nat.beq m.i u)) &&
  ms.all (fun m => Nat.blt m.i ops.size && !(A.contains m.i) && m.W.all (fun c => I.contains c) &&
    m.sup.all (fun p => ms.any (fun n => Nat.beq n.i p.1 && n.t == some p.2)) && (m.sup.map (·.1) ++ m.dep).all (fun j => afterB ops m.i j && Nat.blt j m.i && ms.all (fun k => !(k.kill.contains j) || Nat.beq k.i m.i || afterB ops k.i m.i)) &&
    ms.all (fun n => Nat.beq n.i m.i || afterB ops n.i m.i || (m.kill.contains n.i || m.W.all (fun c => !(n.bad.contains c))))) &&
  (List.range ops.size).all (fun u => match ops[u]? with | some o => o.after.all (fun e => Nat.blt e.on u) | none => true) &&
  ms.all (fun m => m.use.all (fun u => Nat.blt u V.length && ms.all (fun k => !(k.killV.contains u) || Nat.beq k.i m.i || afterB ops k.i m.i)) && (List.range V.length).all (fun u => m.killV.contains u || m.W.all (fun c => !((V.getD u []).contains c))))
theorem after_closed {ops : Array Oper} {l : Array Bool} (hc : Closed ops l) {i j : Nat} (h : afterB ops i j = true) (hi : l.getD i false = true) : l.getD j false = true := by
  unfold afterB at h
  cases ho : ops[i]? with
  | none => rw [ho] at h; cases h
  | some o =>
    rw [ho] at h
    obtain ⟨e, he, hb⟩ := Array.any_eq_true'.1 h
    rw [Bool.and_eq_true] at hb
    rw [← Nat.eq_of_beq_eq_true hb.2]
    exact hc.2 i o ho hi e he hb.1
theorem after_ready {ops : Array Oper} {l : Array Bool} {i j : Nat} (h : afterB ops i j = true) (hr : i ∈ Region.ready .any ops l) : l.getD j false = true := by
  obtain ⟨_, o, ho, hall⟩ := mem_ready.1 hr
  unfold afterB at h
  rw [ho] at h
  obtain ⟨e, he, hb⟩ := Array.any_eq_true'.1 h
  rw [Bool.and_eq_true] at hb
  rw [← Nat.eq_of_beq_eq_true hb.2]
  exact hall e he hb.1
theorem look_supE {N : Nat} {val : Nat → Value} {env : Env} {a : Act} (ha : St N env a) : ∀ (l : List (Nat × Nat)), (∀ p ∈ l, a.tmps[p.2]? = some (val p.1)) → St N (supE val l env) a
  | [], _ => ha
  | (i, t) :: l, h => by
    have ih := look_supE ha l fun p hp => h p (by simp [hp])
    refine ⟨ih.size, ih.defers, fun u v hl => ?_⟩
    simp only [supE, look] at hl
    cases hb : Nat.beq t u with
    | true =>
      rw [hb] at hl
      simp only [cond_true, Option.some.injEq] at hl
      rw [← Nat.eq_of_beq_eq_true hb, ← hl]; exact h (i, t) (by simp)
    | false => rw [hb] at hl; exact ih.slot u v hl
theorem getD_tf {l : Array Bool} {i : Nat} (h : i < l.size) : l.getD i true = l.getD i false := by simp [Array.getD, h]
theorem chkA_lt {ops : Array Oper} : ∀ (A : List Nat) (n : Nat) (l : Array Bool), chkA ops n l A = true → ∀ j ∈ A, j < ops.size
  | [], _, _, _, j, hj => by simp at hj
  | a :: A, 0, _, h, _, _ => by cases h
  | a :: A, n + 1, l, h, j, hj => by
    simp only [chkA, Bool.and_eq_true] at h
    rcases List.mem_cons.1 hj with rfl | hj
    · obtain ⟨_, o, ho, _⟩ := mem_ready.1 (show j ∈ Region.ready .any ops l by simpa using h.1.1.2)
      exact (Array.getElem?_eq_some_iff.1 ho).1
    · exact chkA_lt A n _ h.2 j hj
theorem chkA_free {ops : Array Oper} : ∀ (A : List Nat) (n : Nat) (l : Array Bool), chkA ops n l A = true → ∀ j ∈ A, l.getD j true = false
  | [], _, _, _, j, hj => by simp at hj
  | a :: A, 0, _, h, _, _ => by cases h
  | a :: A, n + 1, l, h, j, hj => by
    simp only [chkA, Bool.and_eq_true] at h
    have ha := (mem_ready.1 (show a ∈ Region.ready .any ops l by simpa using h.1.1.2)).1
    rcases List.mem_cons.1 hj with rfl | hj
    · exact ha
    · have := chkA_free A n _ h.2 j hj
      by_cases e : a = j
      · subst e; exact ha
      · rw [getD_set_ne true e] at this; exact this
theorem chkA_nodup {ops : Array Oper} : ∀ (A : List Nat) (n : Nat) (l : Array Bool), chkA ops n l A = true → A.Nodup
  | [], _, _, _ => List.nodup_nil
  | a :: A, 0, _, h => by cases h
  | a :: A, n + 1, l, h => by
    have h0 := h
    simp only [chkA, Bool.and_eq_true] at h
    refine List.nodup_cons.2 ⟨fun hm => ?_, chkA_nodup A n _ h.2⟩
    have h1 := chkA_free A n _ h.2 a hm
    have ha := (mem_ready.1 (show a ∈ Region.ready .any ops l by simpa using h.1.1.2)).1
    have hs : a < l.size := by
      rcases Nat.lt_or_ge a l.size with h | h
      · exact h
      · simp [Array.getElem?_eq_none h] at ha
    simp [Array.getD, hs] at h1
theorem run_dag {P : Program} {f : FuncId} {N : Nat} {k : List Item} {env : Env} {w : World} {R : Value → World → Prop} {c : Code} {id : Nat} {ops : Array Oper} {C : Nat → Nat} (I : List Nat) (J : World → (Nat → Nat) → Prop) (V : List Vf) (A : List Nat) (ms : List Nd) (hm : P.follows .mixedOrders = true) (hc : c = .region id ops true)
    (hn : Region.noSelect ops = true) (hk : chkDag ops I A ms (V.map (·.bad)) = true) (hF : Lim w C) (hJ : J { w with drawn := w.drawn + 1 } C)
    (hV : ∀ v ∈ V, v.F w C ∧ ∀ w1 C1 w2 C2 W, (∀ c ∈ W, c ∉ v.bad) → v.F w1 C1 → Stp W w1 C1 w2 C2 → v.F w2 C2)
    (h : PreE P N ops A env fun env2 =>
      (∀ m ∈ ms, opG ops m.i = some (m.t, none) ∧ dOk N m.t = true ∧ (∀ t, m.t = some t → look env2 t = none) ∧
        (∀ v vs w1 C1 w2 C2 W, (∀ c ∈ W, c ∉ m.bad) → m.F v vs w1 C1 → Stp W w1 C1 w2 C2 → m.F v vs w2 C2) ∧
        (∀ val w1 C1, Stp I w C w1 C1 → Lim w1 C1 → J w1 C1 → (∀ n ∈ ms, n.i ∈ m.sup.map (·.1) ++ m.dep → n.F (val n.i) (vals val n.sup) w1 C1) → (∀ u ∈ m.use, vF V u w1 C1) →
          Does P N ops m.i (supE val m.sup env2) w1 (fun v w' => ∃ C', Stp m.W w1 C1 w' C' ∧ Lim w' C' ∧ J w' C' ∧ m.F v (vals val m.sup) w' C'))) ∧
      (ms.map (·.i)).Nodup ∧ (ms.filterMap (·.t)).Nodup ∧
      ∀ val w' C', Stp I w C w' C' → Lim w' C' → J w' C' → MadeD val w' C' (ms.flatMap (·.kill)) ms → (∀ u, u < V.length → u ∉ ms.flatMap (·.killV) → vF V u w' C') → Sch P f N k R ops (fun _ => True) [] (putsD val ms env2) w') :
    Run P f N (.code c :: k) env w R := fun a ha => by
  subst hc
  unfold chkDag at hk
  rw [Bool.and_eq_true, Bool.and_eq_true, Bool.and_eq_true, Bool.and_eq_true] at hk
  obtain ⟨⟨⟨⟨hk1, hk2⟩, hk3⟩, hk4⟩, hk5⟩ := hk
  rw [List.all_eq_true] at hk2 hk3 hk4 hk5
  have hVstay : ∀ u w1 C1 w2 C2 W, (∀ c ∈ W, c ∉ vB V u) → vF V u w1 C1 → Stp W w1 C1 w2 C2 → vF V u w2 C2 := fun u w1 C1 w2 C2 W hW h1 hs => by
    unfold vF vB at *
    cases e : V[u]? with
    | none => trivial
    | some v => rw [e] at h1 hW; exact (hV v (List.mem_of_getElem? e)).2 _ _ _ _ _ hW h1 hs
  have specV : ∀ m ∈ ms, (∀ u ∈ m.use, u < V.length ∧ ∀ q ∈ ms, u ∈ q.killV → q.i = m.i ∨ afterB ops q.i m.i = true) ∧ ∀ u, u < V.length → u ∈ m.killV ∨ ∀ c ∈ m.W, c ∉ vB V u := fun m hmm => by
    have h0 := hk5 m hmm
    simp only [Bool.and_eq_true, Bool.not_eq_true', List.all_eq_true, List.contains_iff_mem, Bool.or_eq_true, Bool.eq_false_iff, ne_eq, List.length_map, List.mem_range] at h0
    refine ⟨fun u hu => ⟨by have : u + 1 ≤ V.length := by simpa [Nat.blt] using (h0.1 u hu).1
                            omega, fun q hq hqk => ?_⟩, fun u hu => ?_⟩
    · rcases (h0.1 u hu).2 q hq with (b | b) | b
      · exact absurd hqk b
      · exact .inl (Nat.eq_of_beq_eq_true b)
      · exact .inr b
    · rcases h0.2 u hu with b | b
      · exact .inl b
      · right
        intro c hc hcb
        refine b c hc ?_
        unfold vB at hcb
        rw [List.getD_eq_getElem?_getD, List.getElem?_map]
        rw [List.getElem?_eq_getElem hu] at hcb ⊢
        exact hcb
  refine runs_of_wp (wp_region_any hm (wpAny_of_bar (S := fun _ => True) (jb := ops.size) _ _ _ _ ?_))
  have hQ : ∀ c (a : Act) d v w, QK P f k R (.panic c) (Act.put a d v) w → QK P f k R (.panic c) a w := fun c a d v w h => h.elim
  have hdr : Stp I w C { w with drawn := w.drawn + 1 } C := Stp.drew I w C
  refine any_pre (N := N) (w := { w with drawn := w.drawn + 1 }) hn hQ A ops.size _ env a hk1 (closed_none ops) h ha (fun env2 a2 hK ha2 hcl => ?_)
  obtain ⟨hms, hni, hnt, hfin⟩ := hK
  have sameI : ∀ (l : List Nd), (l.map (·.i)).Nodup → ∀ m ∈ l, ∀ m' ∈ l, m.i = m'.i → m = m' := by
    intro l
    induction l with
    | nil => intro _ m hm; simp at hm
    | cons x l ih =>
      intro hnd m hm m' hm' e
      rw [List.map_cons, List.nodup_cons] at hnd
      rcases List.mem_cons.1 hm with e1 | h1
      · rcases List.mem_cons.1 hm' with e2 | h2
        · rw [e1, e2]
        · subst e1; exact absurd (List.mem_map.2 ⟨m', h2, e.symm⟩) hnd.1
      · rcases List.mem_cons.1 hm' with e2 | h2
        · subst e2; exact absurd (List.mem_map.2 ⟨m, h1, e⟩) hnd.1
        · exact ih hnd.2 m h1 m' h2 e
  have sameT : ∀ (l : List Nd), (l.filterMap (·.t)).Nodup → ∀ m ∈ l, ∀ m' ∈ l, ∀ t, m.t = some t → m'.t = some t → m = m' := by
    intro l
    induction l with
    | nil => intro _ m hm; simp at hm
    | cons x l ih =>
      intro hnd m hm m' hm' t e1 e2
      have hx : ∀ t, x.t = some t → ∀ y ∈ l, y.t ≠ some t := fun t hxt y hy hyt => by
        rw [List.filterMap_cons_some hxt, List.nodup_cons] at hnd
        exact hnd.1 (List.mem_filterMap.2 ⟨y, hy, hyt⟩)
      have hnd' : (l.filterMap (·.t)).Nodup := by
        cases hxt : x.t with
        | none => rwa [List.filterMap_cons_none hxt] at hnd
        | some u => rw [List.filterMap_cons_some hxt, List.nodup_cons] at hnd; exact hnd.2
      rcases List.mem_cons.1 hm with q1 | h1
      · rcases List.mem_cons.1 hm' with q2 | h2
        · rw [q1, q2]
        · subst q1; exact absurd e2 (hx t e1 m' h2)
      · rcases List.mem_cons.1 hm' with q2 | h2
        · subst q2; exact absurd e1 (hx t e2 m h1)
        · exact ih hnd' m h1 m' h2 t e1 e2
  have spec : ∀ m ∈ ms, m.i < ops.size ∧ m.i ∉ A ∧ (∀ c ∈ m.W, c ∈ I) ∧
      (∀ p ∈ m.sup, ∃ n ∈ ms, n.i = p.1 ∧ n.t = some p.2) ∧ (∀ j ∈ m.sup.map (·.1) ++ m.dep, afterB ops m.i j = true ∧ j < m.i ∧ ∀ q ∈ ms, j ∈ q.kill → q.i = m.i ∨ afterB ops q.i m.i = true) ∧
      ∀ n ∈ ms, n.i ≠ m.i → afterB ops n.i m.i = true ∨ n.i ∈ m.kill ∨ ∀ c ∈ m.W, c ∉ n.bad := fun m hmm => by
    have h0 := hk3 m hmm
    simp only [Bool.and_eq_true, Bool.not_eq_true', List.all_eq_true, List.contains_iff_mem, List.any_eq_true, Bool.or_eq_true, beq_iff_eq, Bool.eq_false_iff, ne_eq] at h0
    obtain ⟨⟨⟨⟨⟨h1, h2⟩, h3⟩, h6⟩, h4⟩, h5⟩ := h0
    refine ⟨by have : m.i + 1 ≤ ops.size := by simpa [Nat.blt] using h1
               omega, h2, h3, fun p hp => ?_, fun p hp => ?_, fun n hn' hne => ?_⟩
    · obtain ⟨n, hn1, hn2, hn3⟩ := h6 p hp
      exact ⟨n, hn1, Nat.eq_of_beq_eq_true hn2, hn3⟩
    · obtain ⟨⟨a1, a2⟩, a4⟩ := h4 p hp
      refine ⟨a1, by have : p + 1 ≤ m.i := by simpa [Nat.blt] using a2
                     omega, fun q hq hqk => ?_⟩
      rcases a4 q hq with (b | b) | b
      · exact absurd hqk b
      · exact .inl (Nat.eq_of_beq_eq_true b)
      · exact .inr b
    · rcases h5 n hn' with (b | b) | b | b
      · exact absurd (Nat.eq_of_beq_eq_true b) hne
      · exact .inl b
      · exact .inr (.inl b)
      · exact .inr (.inr b)
  have hord : ∀ u (o : Oper), ops[u]? = some o → ∀ e ∈ o.after, e.on < u := fun u o ho e he => by
    have hu := (Array.getElem?_eq_some_iff.1 ho).1
    have := hk4 u (List.mem_range.2 hu)
    rw [ho] at this
    have h2 := (Array.all_eq_true'.1 this) e he
    have : e.on + 1 ≤ u := by simpa [Nat.blt] using h2
    omega
  have hcov : ∀ u, u < ops.size → u ∈ A ∨ ∃ m ∈ ms, m.i = u := fun u hu => by
    have := hk2 u (List.mem_range.2 hu)
    simp only [Bool.or_eq_true, List.contains_iff_mem, List.any_eq_true] at this
    rcases this with h1 | ⟨m, h1, h2⟩
    · exact .inl h1
    · exact .inr ⟨m, h1, Nat.eq_of_beq_eq_true h2⟩
  -- the invariant
  have main : ∀ (n : Nat) (l : Array Bool) (a : Act) (w' : World), l.size = ops.size → Closed ops l → (∀ j ∈ A, l.getD j false = true) → (ms.filter fun m => !(l.getD m.i false)).length ≤ n →
      (∃ (C' : Nat → Nat) (val : Nat → Value), St N env2 a ∧ Stp I { w with drawn := w.drawn + 1 } C w' C' ∧ Lim w' C' ∧ J w' C' ∧
        (∀ u, u < V.length → (∀ q ∈ ms, l.getD q.i false = true → u ∉ q.killV) → vF V u w' C') ∧ ∀ m ∈ ms, l.getD m.i false = true → (∀ t, m.t = some t → a.tmps[t]? = some (val m.i)) ∧ ((∀ q ∈ ms, l.getD q.i false = true → m.i ∉ q.kill) → m.F (val m.i) (vals val m.sup) w' C')) →
      wpAnyB P ops (QK P f k R) (fun _ => True) ops.size n l a w' := by
    intro n
    have stop : ∀ (l : Array Bool) (a : Act) (w' : World), l.size = ops.size → (∀ j ∈ A, l.getD j false = true) → Region.ready .any ops l = [] →
        (∃ (C' : Nat → Nat) (val : Nat → Value), St N env2 a ∧ Stp I { w with drawn := w.drawn + 1 } C w' C' ∧ Lim w' C' ∧ J w' C' ∧
        (∀ u, u < V.length → (∀ q ∈ ms, l.getD q.i false = true → u ∉ q.killV) → vF V u w' C') ∧ ∀ m ∈ ms, l.getD m.i false = true → (∀ t, m.t = some t → a.tmps[t]? = some (val m.i)) ∧ ((∀ q ∈ ms, l.getD q.i false = true → m.i ∉ q.kill) → m.F (val m.i) (vals val m.sup) w' C')) → QK P f k R .normal a w' := by
      intro l a w' hl hA hr ⟨C', val, hst, hstp, hlim, hj, hvv, hall⟩
      have full : ∀ u, u < ops.size → l.getD u false = true := by
        intro u
        induction u using Nat.strongRecOn with
        | ind u ih =>
          intro hu
          apply Classical.byContradiction
          intro hno
          have : u ∈ Region.ready .any ops l := mem_ready.2 ⟨by rw [getD_tf (by omega)]; simpa using hno, ops[u], Array.getElem?_eq_getElem hu, fun e he _ => ih e.on (hord u _ (Array.getElem?_eq_getElem hu) e he) (by have := hord u _ (Array.getElem?_eq_getElem hu) e he; omega)⟩
          rw [hr] at this; cases this
      have hall2 := fun m hmm => hall m hmm (full m.i (spec m hmm).1)
      have hslots : ∀ (q : List Nd), (∀ m ∈ q, m ∈ ms) → ∀ t v, look (putsD val q env2) t = some v → a.tmps[t]? = some v := by
        intro q
        induction q with
        | nil => intro _ t v h; exact hst.slot t v h
        | cons m q ih =>
          intro hq t v h
          simp only [putsD] at h
          cases hmt : m.t with
          | none => rw [hmt] at h; exact ih (fun x hx => hq x (by simp [hx])) t v h
          | some u =>
            rw [hmt] at h
            simp only [look] at h
            cases hb : Nat.beq u t with
            | true =>
              rw [hb] at h
              simp only [cond_true, Option.some.injEq] at h
              rw [← Nat.eq_of_beq_eq_true hb, ← h]
              exact (hall2 m (hq m (by simp))).1 u hmt
            | false => rw [hb] at h; exact ih (fun x hx => hq x (by simp [hx])) t v h
      exact hfin val w' C' (hdr.trans hstp (fun c hc => hc)) hlim hj (madeD_all fun m hmm hkl => (hall2 m hmm).2 (fun q hq _ hqk => hkl (List.mem_flatMap.2 ⟨q, hq, hqk⟩))) (fun u hu hno => hvv u hu fun q hq _ hqk => hno (List.mem_flatMap.2 ⟨q, hq, hqk⟩)) a ⟨hst.size, hst.defers, hslots ms (fun m h => h)⟩
    induction n with
    | zero =>
      intro l a w' hl hcl hA hcnt hinv
      have hr : Region.ready .any ops l = [] := by
        rw [List.eq_nil_iff_forall_not_mem]
        intro i hi
        obtain ⟨hun, o, ho, _⟩ := mem_ready.1 hi
        have hio := (Array.getElem?_eq_some_iff.1 ho).1
        rw [getD_tf (by omega)] at hun
        rcases hcov i hio with hiA | ⟨m, hmm, rfl⟩
        · rw [hA i hiA] at hun; cases hun
        · have : m ∈ ms.filter fun m => !(l.getD m.i false) := List.mem_filter.2 ⟨hmm, by rw [hun]; rfl⟩
          rw [List.eq_nil_of_length_eq_zero (Nat.le_zero.1 hcnt)] at this; cases this
      exact ⟨hr, stop l a w' hl hA hr hinv⟩
    | succ n ih =>
      intro l a w' hl hcl hA hcnt hinv
      refine ⟨fun hr => stop l a w' hl hA hr hinv, fun i hi => ?_⟩
      obtain ⟨C1, val, hst, hstp, hlim, hj, hvv, hall⟩ := hinv
      obtain ⟨hun, o, ho, _⟩ := mem_ready.1 hi
      have hio := (Array.getElem?_eq_some_iff.1 ho).1
      rw [getD_tf (by omega)] at hun
      rcases hcov i hio with hiA | ⟨m, hmm, rfl⟩
      · rw [hA i hiA] at hun; cases hun
      obtain ⟨s1, s2, s3, s6, s4, s5⟩ := spec m hmm
      have insup : ∀ p ∈ m.sup, p.1 ∈ m.sup.map (·.1) ++ m.dep := fun p hp => List.mem_append_left _ (List.mem_map.2 ⟨p, hp, rfl⟩)
      obtain ⟨hop, hdk, hlk, hstay, hact⟩ := hms m hmm
      obtain ⟨op, hop⟩ := opG_eq hop
      obtain ⟨oo, hoo, hd, _, hg⟩ := opAt_spec hop
      rw [ho] at hoo; cases hoo
      have supdone : ∀ j ∈ m.sup.map (·.1) ++ m.dep, l.getD j false = true := fun j hj => after_ready (s4 j hj).1 hi
      have hsupF : ∀ q ∈ ms, q.i ∈ m.sup.map (·.1) ++ m.dep → q.F (val q.i) (vals val q.sup) w' C1 := fun q hq hp => by
        obtain ⟨a1, a2, a4⟩ := s4 q.i hp
        refine (hall q hq (supdone q.i hp)).2 fun z hz hzl hzk => ?_
        rcases a4 z hz hzk with b | b
        · rw [b, hun] at hzl; cases hzl
        · have := after_closed hcl b hzl; rw [hun] at this; cases this
      have hsupV : ∀ u ∈ m.use, vF V u w' C1 := fun u hu => by
        obtain ⟨a1, a2⟩ := (specV m hmm).1 u hu
        refine hvv u a1 fun z hz hzl hzk => ?_
        rcases a2 z hz hzk with b | b
        · rw [b, hun] at hzl; cases hzl
        · have := after_closed hcl b hzl; rw [hun] at this; cases this
      have hsupS : St N (supE val m.sup env2) a := look_supE hst m.sup fun p hp => by
        obtain ⟨q, hq, e1, e2⟩ := s6 p hp
        have := (hall q hq (by rw [e1]; exact supdone _ (insup p hp))).1 p.2 e2
        rw [this, e1]
      refine wpOp_mono (fun a' w2 hdone => ⟨fun _ => trivial, ?_⟩) (hact val w' C1 (hdr.trans hstp (fun c hc => hc)) hlim hj hsupF hsupV (QK P f k R) a hsupS)
      obtain ⟨v, rfl, C2, hs2, hl2, hj2, hF2⟩ := hdone
      rw [ho, Option.bind_some, hd]
      have hput := hst.put hdk v
      have hne : St N env2 (a.put m.t v) := by
        cases hmt : m.t with
        | none => rw [hmt] at hput; exact hput
        | some t =>
          rw [hmt] at hput
          refine ⟨hput.size, hput.defers, fun t' v' hlt => hput.slot t' v' ?_⟩
          have : t ≠ t' := fun e => by subst e; rw [hlk t hmt] at hlt; cases hlt
          simp only [putE, look]
          cases hb : Nat.beq t t' with
          | true => exact absurd (Nat.eq_of_beq_eq_true hb) this
          | false => exact hlt
      have hcl2 := closed_set hcl hi
      have getset : ∀ j, (l.setIfInBounds m.i true).getD j false = true → j = m.i ∨ l.getD j false = true := fun j hj => by
        by_cases e : m.i = j
        · exact .inl e.symm
        · rw [getD_set_ne false e] at hj; exact .inr hj
      have setT : ∀ j, l.getD j false = true → (l.setIfInBounds m.i true).getD j false = true := fun j hj => getD_set_true hj
      have selfT : (l.setIfInBounds m.i true).getD m.i false = true := by simp [Array.getD, hl, s1]
      refine ih _ _ _ (by simp [hl]) hcl2 (fun j hj => setT j (hA j hj)) ?_ ?_
      · have hlt : (ms.filter fun q => !((l.setIfInBounds m.i true).getD q.i false)).length < (ms.filter fun q => !(l.getD q.i false)).length := by
          have hsub : (ms.filter fun q => !((l.setIfInBounds m.i true).getD q.i false)) = (ms.filter fun q => !(l.getD q.i false)).filter fun q => !(Nat.beq q.i m.i) := by
            rw [List.filter_filter]
            refine List.filter_congr fun q _ => ?_
            by_cases e : m.i = q.i
            · rw [← e, selfT]; simp
            · rw [getD_set_ne false e]
              have : Nat.beq q.i m.i = false := by
                cases hb : Nat.beq q.i m.i with
                | false => rfl
                | true => exact absurd (Nat.eq_of_beq_eq_true hb).symm e
              rw [this]; simp
          rw [hsub]
          have hmem : m ∈ ms.filter fun q => !(l.getD q.i false) := List.mem_filter.2 ⟨hmm, by rw [hun]; rfl⟩
          refine Nat.lt_of_le_of_ne (List.length_filter_le _ _) fun e => ?_
          have := List.length_filter_eq_length_iff.1 e m hmem
          simp at this
        omega
      · refine ⟨C2, fun j => if j = m.i then v else val j, hne, hstp.trans hs2 s3, hl2, hj2, fun u hu hno => ?_, fun q hq hql => ?_⟩
        · have hold := hvv u hu fun z hz hzl => hno z hz (setT z.i hzl)
          rcases (specV m hmm).2 u hu with b | b
          · exact absurd b (hno m hmm selfT)
          · exact hVstay u _ _ _ _ m.W b hold hs2
        have supq : ∀ z ∈ ms, l.getD z.i false = true → vals (fun j => if j = m.i then v else val j) z.sup = vals val z.sup := fun z hz hzl => by
          unfold vals
          refine List.map_congr_left fun p hp => ?_
          show (if p.1 = m.i then v else val p.1) = val p.1
          rw [if_neg]
          intro e
          have := after_closed hcl ((spec z hz).2.2.2.2.1 p.1 (List.mem_append_left _ (List.mem_map.2 ⟨p, hp, rfl⟩))).1 hzl
          rw [e, hun] at this; cases this
        by_cases e : q.i = m.i
        · have := sameI ms hni q hq m hmm e
          subst this
          refine ⟨fun t ht => ?_, fun _ => ?_⟩
          · show _ = some (if q.i = q.i then v else val q.i)
            rw [if_pos rfl]
            rw [ht] at hput ⊢
            exact hput.slot t v (by simp [putE, look])
          · show q.F (if q.i = q.i then v else val q.i) _ _ _
            rw [if_pos rfl]
            have : vals (fun j => if j = q.i then v else val j) q.sup = vals val q.sup := by
              unfold vals
              refine List.map_congr_left fun p hp => ?_
              show (if p.1 = q.i then v else val p.1) = val p.1
              rw [if_neg (by have := (s4 p.1 (insup p hp)).2.1; omega)]
            rw [this]; exact hF2
        · rcases getset q.i hql with h1 | h1
          · exact absurd h1 e
          obtain ⟨q1, q2⟩ := hall q hq h1
          refine ⟨fun t ht => ?_, fun hno => ?_⟩
          · show _ = some (if q.i = m.i then v else val q.i)
            rw [if_neg e, ← q1 t ht]
            cases hmt : m.t with
            | none => rfl
            | some u =>
              have hut : u ≠ t := fun e2 => by subst e2; exact e (by rw [sameT ms hnt q hq m hmm u ht hmt])
              simp only [Act.put, Array.getElem?_setIfInBounds, if_neg hut]
          · show q.F (if q.i = m.i then v else val q.i) _ _ _
            rw [if_neg e, supq q hq h1]
            have hold := q2 fun z hz hzl => hno z hz (setT z.i hzl)
            rcases s5 q hq e with b | b | b
            · have := after_closed hcl b h1; rw [hun] at this; cases this
            · exact absurd b (hno m hmm selfT)
            · exact (hms q hq).2.2.2.1 _ _ _ _ _ _ m.W b hold hs2
  have hAs : ∀ j ∈ A, j < ops.size := chkA_lt A _ _ hk1
  have hcnt0 : (ms.filter fun m => !((allSet (Array.replicate ops.size false) A).getD m.i false)).length ≤ ops.size - A.length := by
    refine Nat.le_trans (List.length_filter_le _ _) ?_
    have hnd : (A ++ ms.map (·.i)).Nodup := by
      rw [List.nodup_append]
      refine ⟨chkA_nodup A _ _ hk1, hni, fun a ha b hb e => ?_⟩
      obtain ⟨m, hmm, rfl⟩ := List.mem_map.1 hb
      exact (spec m hmm).2.1 (e ▸ ha)
    have hle := hnd.length_le_of_subset (l₂ := List.range ops.size) fun j hj => by
      rcases List.mem_append.1 hj with h | h
      · exact List.mem_range.2 (hAs j h)
      · obtain ⟨m, hmm, rfl⟩ := List.mem_map.1 h
        exact List.mem_range.2 (spec m hmm).1
    rw [List.length_append, List.length_map, List.length_range] at hle
    omega
  have := main (ops.size - A.length) (allSet (Array.replicate ops.size false) A) a2 { w with drawn := w.drawn + 1 } (by rw [allSet_size]; simp) hcl (fun j hj => by
    have hjs : j < ops.size := hAs j hj
    rw [allSet_get A _ j (by simpa using hjs), if_pos hj]) ?_ ⟨C, fun _ => undef, ha2, Stp.refl I _ C, hF.st hdr, hJ, fun u hu _ => ?_, fun m hmm hl => ?_⟩
  · exact this
  · exact hcnt0
  · have hd0 : Stp [] w C { w with drawn := w.drawn + 1 } C := Stp.drew [] w C
    refine hVstay u w C _ _ [] (by simp) ?_ hd0
    unfold vF
    rw [List.getElem?_eq_getElem hu]
    exact (hV _ (List.getElem_mem hu)).1
  · rw [allSet_get A _ m.i (by simpa using (spec m hmm).1), if_neg (spec m hmm).2.1] at hl
    simp [Array.getD, (spec m hmm).1] at hl
end Go.K

/- Arrays that are built. -/
set_option linter.unusedVariables false
set_option linter.unusedSimpArgs false
namespace Go.K
open Rep
section
variable {P : Program} {N : Nat} {env : Env} {y z : Operand} {t e : TypeId} {b o o' n len : Nat} {k : IntKind} {i : Int} {w : World}
theorem val_mkArr4 {parts : Array (Nat × Operand)} {zs cs : List Value} {qs : List (Nat × List Value)} (hu : P.underlying t = some (.array len e)) (hn : szB P e = some n) (hz : zeroB P t = some zs)
    (hq : Parts env parts.toList qs) (hf : fillL (fun i => some (i * n, n)) zs qs = some cs) : Val P N env (.build t parts) w (.agg cs.toArray) := mk' fun ρ hρ o ho => by
  obtain ⟨z, h1, h2⟩ := run_zeroB hz w
  have hmap := Parts.map hρ hq
  have hfill := fill_eq (fun i => some (i * n, n)) (parts.toList.map fun p => (p.1, ρ p.2)) qs zs cs (by rw [← hmap]) hf
  have hfill' : Instr.fill (fun i => some (i * n, n)) z.cells (parts.map fun x => (x.1, ρ x.2)).toList = some cs.toArray := by
    rw [h2]
    have : (parts.map fun x => (x.1, ρ x.2)).toList = parts.toList.map fun p => (p.1, ρ p.2) := by simp
    rw [this, ← hfill]
  unfold execOp; rw [ho]
  simp only [Instr.build, Sem.run_bind, h1, Result.andThen_ok, run_underlying hu, run_sizeOfB hn]
  rw [show (parts.map fun x => match x with | (i, x) => (i, ρ x)).toList = (parts.map fun x => (x.1, ρ x.2)).toList from rfl, hfill']
  rfl
end
end Go.K

/- From the row's reading of an argument to what the steps ask. -/
set_option linter.unusedVariables false
namespace Go.K
open Rep
def Cn0 : Nat → Nat := fun _ => 0
theorem lim0 (w : World) : Lim w Cn0 := fun b h => absurd rfl h
theorem Stp.below {w w' : World} (h : Stp [] w Cn0 w' Cn0) : Go.RowKit.Below w.heap.size w w' := h.ext.below (Nat.le_refl _) (fun b hb => by simp at hb)
end Go.K

/- From the row's reading of an argument, of whatever make, to what the steps ask. -/
set_option linter.unusedVariables false
set_option linter.unusedSimpArgs false
namespace Go.K
open Rep
def Opens {H : Type} (enc : TypeId × Value → H) (P : Program) (w : World) (base : Nat) (spare : Nat → Bool) (held : Bool) (α : Type) [Rep α] (t : TypeId) : Prop :=
  P.cellsOf t = sz α ∧ ∀ (fuel : Nat) (cs : List Value) (x : DataW H × List MemPlace), DataW.trod enc P w base spare held fuel t cs = some x → ∃ a : α, rep w.heap (Mc Cn0) a cs
section
variable {H : Type} {enc : TypeId × Value → H} {P : Program} {w : World} {base : Nat} {spare : Nat → Bool} {held : Bool} {α β γ : Type} [Rep α] [Rep β] [Rep γ] {t e : TypeId}
theorem opens_int (ht : P.underlying t = some (.int .i64)) (hc : P.cellsOf t = 1) : Opens enc P w base spare held Int t := ⟨hc, fun fuel cs x h => by
  obtain ⟨n, rfl, _⟩ := DataW.trod_int ht h
  exact ⟨n, rfl⟩⟩
theorem opens_slice (ht : P.underlying t = some (.slice e)) (hc : P.cellsOf t = 1) (hsz : 0 < sz α) (he : Opens enc P w base spare held α e) : Opens enc P w base spare held (List α) t := ⟨hc, fun fuel cs x h => by
  rcases Go.Deep.open_slice ht h with ⟨rfl, _⟩ | ⟨a, len, cap, m, n, D, Pl, rfl, hb, hl, hm, hmm, hx, hcell⟩
  · exact ⟨[], none, 0, rfl, Nat.le_refl _, by simp, .inl rfl⟩
  · have hlm : len ≤ m := by rw [hmm]; split <;> omega
    have key : ∀ k, k ≤ len → ∃ xs : List α, xs.length = k ∧ ∀ i (hi : i < xs.length), ∃ cs', w.cells? base (a.add (i * sz α)) (sz α) = some cs' ∧ rep w.heap (Mc Cn0) xs[i] cs' := by
      intro k
      induction k with
      | zero => exact fun _ => ⟨[], rfl, fun i hi => by simp at hi⟩
      | succ k ih =>
        intro hk
        obtain ⟨xs, hxl, hxs⟩ := ih (by omega)
        obtain ⟨cs', h1, h2⟩ := hcell k (by omega)
        obtain ⟨y, hy⟩ := he.2 _ _ _ h2
        rw [he.1] at h1
        refine ⟨xs ++ [y], by simp [hxl], fun i hi => ?_⟩
        by_cases hik : i < xs.length
        · rw [List.getElem_append_left hik]; exact hxs i hik
        · have hik2 : i = k := by simp at hi; omega
          subst hik2
          rw [List.getElem_append_right (by omega)]
          exact ⟨cs', h1, by simpa [hxl] using hy⟩
    obtain ⟨xs, hxl, hxs⟩ := key len (Nat.le_refl _)
    refine ⟨xs, some a, cap, by rw [hxl], by omega, by unfold maxLen at hm; omega, ?_⟩
    by_cases h0 : len = 0
    · left; exact List.length_eq_zero_iff.1 (by omega)
    · right
      have hall : ∀ i (hi : i < xs.length), ∃ cs', cs'.length = sz α ∧ (∀ j (hj : j < cs'.length), w.cell? (a.add (i * sz α + j)) = some cs'[j]) ∧ rep w.heap (Mc Cn0) xs[i] cs' := fun i hi => by
        obtain ⟨cs', h1, h2⟩ := hxs i hi
        obtain ⟨_, h3, h4⟩ := World.cells?_some h1
        refine ⟨cs', h3, fun j hj => ?_, h2⟩
        have h5 := h4 j (by omega)
        rw [Addr.add_add] at h5
        rw [h5]; exact List.getElem?_eq_getElem hj
      obtain ⟨c0, hc0l, hc0, _⟩ := hall 0 (by omega)
      have hfirst := hc0 0 (by omega)
      obtain ⟨b, off, spot⟩ := a
      have hspot : spot = none := by simpa [Addr.add] using World.cell?_spot hfirst
      subst hspot
      refine ⟨b, off, rfl, ?_⟩
      simp only [addr_add] at hall hfirst
      unfold World.cell? at hfirst
      simp only at hfirst
      cases hbk : w.heap[b]? with
      | none => rw [hbk] at hfirst; cases hfirst
      | some ob =>
        cases ob with
        | cells c ty fz =>
          have hget : ∀ i (hi : i < xs.length), ∃ cs', cs'.length = sz α ∧ (∀ j (hj : j < cs'.length), c[off + (i * sz α + j)]? = some cs'[j]) ∧ rep w.heap (Mc Cn0) xs[i] cs' := fun i hi => by
            obtain ⟨cs', h1, h2, h3⟩ := hall i hi
            refine ⟨cs', h1, fun j hj => ?_, h3⟩
            have h4 := h2 j hj
            unfold World.cell? at h4
            simp only [hbk] at h4
            simpa using h4
          refine ⟨fun h => h rfl, c, ty, fz, hbk, ?_, fun i hi => ?_⟩
          · obtain ⟨cs', h1, h2, _⟩ := hget (len - 1) (by omega)
            have h3 := (Array.getElem?_eq_some_iff.1 (h2 (sz α - 1) (by omega))).1
            have h4 : len * sz α = (len - 1) * sz α + sz α := by
              have : len = (len - 1) + 1 := by omega
              rw [this, Nat.succ_mul]; simp
            rw [hxl, h4]; omega
          · obtain ⟨cs', h1, h2, h3⟩ := hget i hi
            have : cellsAt c (off + i * sz α) (sz α) = cs' := by
              apply List.ext_getElem?
              intro r
              simp only [cellsAt, List.getElem?_take, List.getElem?_drop, Array.getElem?_toList]
              by_cases hr : r < sz α
              · rw [if_pos hr, List.getElem?_eq_getElem (by omega), Nat.add_assoc]; exact h2 r (by omega)
              · rw [if_neg hr, List.getElem?_eq_none (by omega)]
            rw [this]; exact h3
        | _ => rw [hbk] at hfirst; cases hfirst⟩
theorem Opens.rv (h : Opens enc P w base spare held α t) (hx : Rep.agg α = false) {fuel : Nat} {v : Value} {x : DataW H × List MemPlace} (ht : DataW.trod enc P w base spare held fuel t [v] = some x) : ∃ a : α, RV w (Mc Cn0) a v := by
  obtain ⟨a, ha⟩ := h.2 _ _ _ ht
  exact ⟨a, rep1_rv ha hx⟩
end
theorem okWide_range {P : Program} {w : World} {r : Reach} {base : Nat} {t : TypeId} {v : Value} {k : IntKind} (ht : P.underlying t = some (.int k)) (h : Value.okWide P w r base t v) : ∃ n, v = .int k n ∧ k.min ≤ n ∧ n ≤ k.max := by
  obtain ⟨n, rfl⟩ := Go.WideShapes.okWide_int ht h
  refine ⟨n, rfl, ?_⟩
  simpa [Value.okWide, ht, Cell.okWide, Cell.ok, IntKind.has] using h
theorem okWide_u8 {P : Program} {w : World} {r : Reach} {base : Nat} {t : TypeId} {v : Value} (ht : P.underlying t = some (.int .u8)) (h : Value.okWide P w r base t v) : ∃ m : Nat, v = .int .u8 (m : Int) ∧ m < 256 := by
  obtain ⟨n, rfl, h1, h2⟩ := okWide_range ht h
  have h3 : (0 : Int) ≤ n := h1
  have h4 : n ≤ 255 := h2
  exact ⟨n.toNat, by rw [Int.toNat_of_nonneg h3], by omega⟩
end Go.K
