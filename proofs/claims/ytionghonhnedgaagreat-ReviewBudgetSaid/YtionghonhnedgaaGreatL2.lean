/- What was shown, decisions, reviews: what reads as such, and what is valid. -/
import Derived.Test.YtionghonhnedgaaGreatL1
import Derived.Lib.AppendZeros
import Derived.Shelf.SlSortCmp.NoneTotal
import Derived.Laws.Small
import Derived.WalkKit
import Derived.ProofKit
import Derived.OpenShut
import Derived.ChangeSlices
import Derived.Below
import Derived.Carry
import Derived.Deep.Slices
import Derived.WideShapes
import Derived.ChangeArms
set_option linter.unusedVariables false
set_option linter.unusedSimpArgs false
namespace Go.K
open Rep
structure Shw where
  r : Couple
  ver : Int
  fld : Int
  ch : Int
  deriving DecidableEq
instance : Rep Shw := Rep.via (fun x : Shw => (x.r, (x.ver, (x.fld, x.ch))))
instance : Inhabited Shw := ⟨⟨⟨0, 0⟩, 0, 0, 0⟩⟩
abbrev encS (x : Shw) : List Value := [.int .i64 x.r.a, .int .i64 x.r.b, .int .i64 x.ver, .int .i64 x.fld, .int .i64 x.ch]
structure Dcs where
  A : Couple
  B : Couple
  va : Int
  vb : Int
  same : Bool
  deriving DecidableEq
instance : Rep Dcs := Rep.via (fun x : Dcs => (x.A, (x.B, (x.va, (x.vb, x.same)))))
instance : Inhabited Dcs := ⟨⟨⟨0, 0⟩, ⟨0, 0⟩, 0, 0, false⟩⟩
abbrev encD (x : Dcs) : List Value := [.int .i64 x.A.a, .int .i64 x.A.b, .int .i64 x.B.a, .int .i64 x.B.b, .int .i64 x.va, .int .i64 x.vb, .bool x.same]
section
variable {w : World} {M : Nat → Prop} {b o : Nat} {v : Value}
theorem rep_shw {h : Array Obj} {x : Shw} {vs : List Value} : rep h M x vs ↔ vs = encS x :=
  ⟨fun hr => by
    obtain ⟨us, ws, rfl, h1, us2, ws2, rfl, h2, us3, ws3, rfl, h3, h4⟩ := hr
    have e1 := (rep_couple (M := M) (h := h) (x := x.r)).1 h1
    have e2 : us2 = [.int .i64 x.ver] := h2
    have e3 : us3 = [.int .i64 x.fld] := h3
    have e4 : ws3 = [.int .i64 x.ch] := h4
    subst e1 e2 e3 e4; rfl,
   fun hr => by
    subst hr
    exact ⟨encR x.r, [.int .i64 x.ver, .int .i64 x.fld, .int .i64 x.ch], rfl, (rep_couple (M := M)).2 rfl, [_], [_, _], rfl, rfl, [_], [_], rfl, rfl, rfl⟩⟩
theorem rv_shw {x : Shw} : RV w M x v ↔ v = .agg (encS x).toArray :=
  ⟨fun h => by obtain ⟨vs, h1, h2⟩ := h; rw [rep_shw.1 h1] at h2; exact h2, fun h => ⟨_, rep_shw.2 rfl, h⟩⟩
theorem rep_dcs {h : Array Obj} {x : Dcs} {vs : List Value} : rep h M x vs ↔ vs = encD x :=
  ⟨fun hr => by
    obtain ⟨us, ws, rfl, h1, us2, ws2, rfl, h2, us3, ws3, rfl, h3, us4, ws4, rfl, h4, h5⟩ := hr
    have e1 := (rep_couple (M := M) (h := h) (x := x.A)).1 h1
    have e2 := (rep_couple (M := M) (h := h) (x := x.B)).1 h2
    have e3 : us3 = [.int .i64 x.va] := h3
    have e4 : us4 = [.int .i64 x.vb] := h4
    have e5 : ws4 = [.bool x.same] := h5
    subst e1 e2 e3 e4 e5; rfl,
   fun hr => by
    subst hr
    exact ⟨encR x.A, encR x.B ++ [.int .i64 x.va, .int .i64 x.vb, .bool x.same], rfl, (rep_couple (M := M)).2 rfl, encR x.B, [_, _, _], rfl, (rep_couple (M := M)).2 rfl, [_], [_, _], rfl, rfl, [_], [_], rfl, rfl, rfl⟩⟩
theorem rv_dcs {x : Dcs} : RV w M x v ↔ v = .agg (encD x).toArray :=
  ⟨fun h => by obtain ⟨vs, h1, h2⟩ := h; rw [rep_dcs.1 h1] at h2; exact h2, fun h => ⟨_, rep_dcs.2 rfl, h⟩⟩
end
def cmpS (x y : Shw) : Int := orL [cmpC x.r y.r, cmpI x.ver y.ver, cmpI x.fld y.fld]
def cmpD (x y : Dcs) : Int := orL [cmp2 x.A x.B y.A y.B, cmpI x.va y.va, cmpI x.vb y.vb]
def verOK (n : Int) : Bool := decide (1 ≤ n ∧ n ≤ 1048576)
def shwOK (x : Shw) : Prop := refOK x.r = true ∧ verOK x.ver = true ∧ 0 ≤ x.fld ∧ x.fld < 5 ∧ 0 ≤ x.ch ∧ x.ch ≤ 64
def dcsOK (x : Dcs) : Prop := cplOK x.A x.B = true ∧ verOK x.va = true ∧ verOK x.vb = true
structure ROK (bud : Int) (sh : List Shw) (ds : List Dcs) : Prop where
  b0 : 0 ≤ bud
  b1 : bud ≤ 65536
  ls : sh.length ≤ 4096
  ld : ds.length ≤ 4096
  so : ∀ i (h : i < sh.length), shwOK sh[i]
  sa : ∀ i (h : i + 1 < sh.length), cmpS sh[i] sh[i + 1] < 0
  dO : ∀ i (h : i < ds.length), dcsOK ds[i]
  da : ∀ i (h : i + 1 < ds.length), cmpD ds[i] ds[i + 1] < 0
end Go.K

/- Missed matches: plain. -/
set_option linter.unusedVariables false
set_option linter.unusedSimpArgs false
namespace Go.K
open Rep

/-! ### The probability that all sets of a mask have an atom that disagrees -/
/-! ### Types -/
structure Key where
  comps : List Couple
instance : Rep Key where
  sz := 1
  agg := true
  flat h := by cases h
  rep h M x vs := rep h M x.comps vs
  len h := Rep.len (α := List Couple) h
  one h := Rep.one (α := List Couple) h
  keep h hk := Rep.keep (α := List Couple) h hk
  sub h hk := Rep.sub (α := List Couple) h hk
structure Fv where
  val : Value
  one : val.oneCell' = true
instance : Rep Fv where
  sz := 1
  agg := false
  flat _ := rfl
  rep _ _ x vs := vs = [x.val]
  len h := by subst h; rfl
  one h := by subst h; rename_i x; intro v hv; simp at hv; subst hv; exact x.one
  keep h _ := h
  sub h _ := h
section
variable {w : World} {M : Nat → Prop} {b o : Nat} {v : Value}
theorem RA.comps {x : Key} (h : RA w M x b o) : RA w M x.comps b o := h
end

/-! ### The first that is found -/
def idxOf {α : Type} (p : α → Bool) (l : List α) : Int := if l.any p then (l.findIdx p : Int) else -1
theorem idxOf_at {α : Type} {p : α → Bool} {l : List α} {k : Nat} (h : k < l.length) (h0 : ∀ i (hi : i < k), p (l[i]'(by omega)) = false) (hp : p l[k] = true) : idxOf p l = k := by
  unfold idxOf
  rw [if_pos (List.any_eq_true.2 ⟨l[k], List.getElem_mem h, hp⟩)]
  have : l.findIdx p = k := (List.findIdx_eq h).2 ⟨hp, fun j hj => by simpa using h0 j hj⟩
  rw [this]
theorem idxOf_none {α : Type} {p : α → Bool} {l : List α} (h0 : ∀ i (hi : i < l.length), p l[i] = false) : idxOf p l = -1 := by
  unfold idxOf
  rw [if_neg]
  intro h
  obtain ⟨x, hx, hp⟩ := List.any_eq_true.1 h
  obtain ⟨i, hi, rfl⟩ := List.mem_iff_getElem.1 hx
  rw [h0 i hi] at hp; cases hp
theorem idxOf_ge {α : Type} {p : α → Bool} {l : List α} : decide (0 ≤ idxOf p l) = l.any p := by
  unfold idxOf
  cases h : l.any p
  · rfl
  · simp only [if_true]; exact decide_eq_true (by omega)
/-! ### Atoms -/
def KeysSm (ks : List Key) : Prop := ks.length ≤ 12 ∧ ∀ k ∈ ks, k.comps.length ≤ 12
def compsS (ks : List Key) : List Couple := ks.flatMap (·.comps)
theorem compsS_len {ks : List Key} (h : ∀ k ∈ ks, k.comps.length ≤ 12) : (compsS ks).length ≤ ks.length * 12 := by
  induction ks with
  | nil => simp [compsS]
  | cons k ks ih =>
    have h1 := h k (by simp)
    have h2 := ih (fun x hx => h x (by simp [hx]))
    unfold compsS at *
    simp only [List.flatMap_cons, List.length_append, List.length_cons]
    omega
theorem KeysSm.len {ks : List Key} (h : KeysSm ks) (i : Nat) : (compsS (ks.take i)).length ≤ 144 := by
  have h1 := compsS_len (ks := ks.take i) (fun k hk => h.2 k (List.mem_of_mem_take hk))
  have h2 := h.1
  rw [List.length_take] at h1
  have := Nat.mul_le_mul_right 12 (Nat.min_le_right i ks.length)
  omega
theorem KeysSm.all {ks : List Key} (h : KeysSm ks) : (compsS ks).length ≤ 144 := by have := h.len ks.length; rwa [List.take_length] at this
/-! ### Checking -/
/-! ### Sets of atoms -/
/-! ### The walk's bounds -/
/-! ### Plans -/
def bitsL (mask n : Nat) : List Int := ((List.range n).filter fun i => mask.testBit i).map fun i : Nat => (i : Int)
/-! ### The best plan -/
structure PlanT where
  keys : List Int
  pairs : Int
  missed : Int
def pk (bm : Option Nat) : List Int := match bm with | none => [] | some m => bitsL m 8
end Go.K

/- Handing out what the call may still write. -/
set_option linter.unusedVariables false
set_option linter.unusedSimpArgs false
namespace Go.K
open Rep

/-! ### Handing out what the call may still write -/
section
variable {α : Type} [Rep α] {w w' : World} {C C1 D D' : Nat → Nat} {I : List Nat} {e : TypeId} {v : Value} {ys : List α} {x : α} {j j1 i b : Nat} {t : TypeId}
/-- An own list gets a colour that the caller knows. -/
theorem OwnL.give (h : OwnL w' C1 j1 e v ys) (hs : Stp I w D w' C1) (hF : Lim w C) (hD : Mc D = Mc C) (hj : ∀ b, b < w.heap.size → D b ≠ j1) (h1 : j1 ≠ 0) (j : Nat) (hjj : j ≠ 0) :
    ∃ C', (∀ b, b < w.heap.size → C' b = C b) ∧ Lim w' C' ∧ (∀ b, Mc C' b → Mc C1 b) ∧ OwnL w' C' j e v ys := by
  have old : ∀ b, Mc C b → Mc C1 b := fun b hb => by
    have hlt := hF b hb
    unfold Mc
    rw [hs.col b hlt]
    have : Mc D b := by rw [hD]; exact hb
    exact this
  have fresh : ∀ b, Ob v b → ¬ b < w.heap.size := fun b hb hlt => hj b hlt (by rw [← hs.col b hlt]; exact h.col b hb)
  refine ⟨setB C v j, fun b hb => ?_, fun b hb => ?_, fun b hb => ?_, ⟨h.own.sub (fun b _ hb => ?_) (fun b hb => ?_), fun b hb => ?_⟩⟩
  · unfold setB; rw [if_neg (show ¬ v.ownBlock = some b from fun e => fresh b e hb)]
  · by_cases ho : Ob v b
    · exact (h.own.ob b ho).2
    · unfold setB at hb; rw [if_neg (show ¬ v.ownBlock = some b from ho)] at hb
      exact Nat.lt_of_lt_of_le (hF b hb) hs.size
  · by_cases ho : Ob v b
    · unfold Mc; rw [h.col b ho]; exact h1
    · unfold Mc setB at hb; rw [if_neg (show ¬ v.ownBlock = some b from ho)] at hb; exact old b hb
  · by_cases ho : Ob v b
    · unfold Mc; rw [h.col b ho]; exact h1
    · unfold Mc setB at hb; rw [if_neg (show ¬ v.ownBlock = some b from ho)] at hb; exact old b hb
  · unfold Mc setB; rw [if_pos (show v.ownBlock = some b from hb)]; exact hjj
  · unfold setB; rw [if_pos (show v.ownBlock = some b from hb)]
theorem Stp.give {C' : Nat → Nat} (h : Stp I w C w' D') (hc : ∀ b, b < w.heap.size → C' b = C b) : Stp I w C w' C' := ⟨h.ext, hc⟩
theorem RV.give {C' : Nat → Nat} (h : RV w' (Mc C1) x v) (hM : ∀ b, Mc C' b → Mc C1 b) : RV w' (Mc C') x v := h.sub (fun b _ hb => hM b hb)
end
end Go.K

/- append(s[:len(s):len(s)], list...): a list that others read is never written; the colours inside a function that may write what bears the colours 3 to 6. -/
set_option linter.unusedVariables false
set_option linter.unusedSimpArgs false
namespace Go.K
open Rep
section
variable {α : Type} [Rep α] {P : Program} {N : Nat} {env : Env} {w : World} {M : Nat → Prop} {t e e' : TypeId} {v s : Value} {x y z q : Operand} {xs ys zs : List α}
/-- 's[:len(s):len(s)]'. -/
theorem RV.full (h : RV w M xs v) (hy : ev env y = some v) {kd kd2 : IntKind} (hf : elemB P t = some (e', sz α)) (hz : ev env z = some (.int kd xs.length)) (hq : ev env q = some (.int kd2 xs.length)) :
    ∃ a c, v = .slice a xs.length c ∧ RV w M xs (.slice a xs.length xs.length) ∧ ∀ w', Val P N env (.slice t y none (some z) (some q)) w' (.slice a xs.length xs.length) := by
  obtain ⟨a, c, rfl, hc, hm, hs⟩ := rv_list.1 h
  refine ⟨a, c, rfl, rv_list.2 ⟨a, _, rfl, Nat.le_refl _, hm, hs⟩, fun w' => mk' fun ρ hρ oo ho => ?_⟩
  unfold elemB at hf
  split at hf
  · rename_i e1 hu
    split at hf
    · rename_i n' hn
      have hb := run_sliceBound_ok (P := P) (kd := kd2) (y := c) (code := .slice3Acap) (w := w') (i := (xs.length : Int)) (by omega) (by omega)
      have hb2 := run_sliceBound_ok (P := P) (kd := kd) (y := xs.length) (code := .slice3B) (w := w') (i := (xs.length : Int)) (by omega) (by omega)
      have ha' : a.map (·.add 0) = a := by
        cases a with
        | none => simp
        | some a => simp [Addr.add]
      simp only [Int.toNat_natCast] at hb hb2
      unfold execOp; rw [ho]
      simp [hρ _ _ hy, hρ _ _ hz, hρ _ _ hq, Instr.sliceAt, Instr.slice, Instr.sliceBounds, run_underlying hu, run_sizeOfB hn, hb, hb2, ha']
    · cases hf
  · cases hf
/-- The cells of a list that is read. -/
theorem cells_of {zs : List α} {sb so : Nat} {scs : Array Value} {sty : TypeId} {sfz : Nat × Nat} (hsc : w.heap[sb]? = some (.cells scs sty sfz)) (hsl : so + zs.length * sz α ≤ scs.size)
    (hsr : ∀ k (hk : k < zs.length), rep w.heap M zs[k] (cellsAt scs (so + k * sz α) (sz α))) :
    ∃ news : List Value, news.length = zs.length * sz α ∧ (∀ j v, news[j]? = some v → w.cell? ((⟨sb, so, none⟩ : Addr).add j) = some v) ∧ ∀ k (hk : k < zs.length), rep w.heap M zs[k] (cellsAt news.toArray (k * sz α) (sz α)) := by
  obtain ⟨news, hnews_def⟩ : ∃ news, news = cellsAt scs so (zs.length * sz α) := ⟨_, rfl⟩
  have hnl : news.length = zs.length * sz α := by
    rw [hnews_def]; simp only [cellsAt, List.length_take, List.length_drop, Array.length_toList]; omega
  have hget : ∀ j, j < zs.length * sz α → news[j]? = scs[so + j]? := fun j hj => by
    rw [hnews_def]; simp only [cellsAt, List.getElem?_take, if_pos hj, List.getElem?_drop]; simp
  refine ⟨news, hnl, fun j v hv => ?_, fun k hk => ?_⟩
  · have hj : j < zs.length * sz α := by rw [← hnl]; exact (List.getElem?_eq_some_iff.1 hv).1
    rw [addr_add, cell_of_row w sb (so + j) scs sty sfz hsc, ← hget j hj, hv]
  · have := hsr k hk
    rwa [show cellsAt scs (so + k * sz α) (sz α) = cellsAt news.toArray (k * sz α) (sz α) from cellsAt_ext (fun j hj => by
      have hb : k * sz α + j < zs.length * sz α := by
        have := Nat.mul_le_mul_right (sz α) (show k + 1 ≤ zs.length from hk); rw [Nat.succ_mul] at this; omega
      rw [show ∀ m, news.toArray[m]? = news[m]? from fun m => by simp, hget _ hb, Nat.add_assoc])] at this
theorem acts_appendR {bytes : Nat} {a : Option Addr} (hx : ev env x = some (.slice a ys.length ys.length)) (hy : ev env y = some s) (hrow : rowB P t e (sz α) bytes = true) (hsz : 0 < sz α)
    (hown : RV w M ys (.slice a ys.length ys.length)) (hsrc : RV w M zs s) (hz0 : zs ≠ []) (hlen : (ys.length + zs.length) * bytes ≤ 140737488355328) (h63 : ys.length + zs.length ≤ 140737488355328) :
    Acts P N env (.call { callee := .builtin .append, args := #[x, y], argTypes := #[t, t] }) w (fun v' w' =>
      OwnS w' (fun b => Ob v' b ∨ M b) e v' (ys ++ zs) ∧ Ext (fun _ => False) w w' ∧ (∀ b, Ob v' b → w.heap.size ≤ b)) := acts' fun ρ hρ oo hoo => by
  obtain ⟨i, z, hu, hi, rfl0, hby, hz, hzs⟩ := rowB_spec hrow
  obtain ⟨a2, c, rfl, hcap, hl0, hseg⟩ := rv_list.1 hsrc
  have key : ∃ v' w', (Builtin.append_ #[t, t] oo.type #[.slice a ys.length ys.length, .slice a2 zs.length c]).run P w = .ok v' w' ∧
      OwnS w' (fun b => Ob v' b ∨ M b) e v' (ys ++ zs) ∧ Ext (fun _ => False) w w' ∧ (∀ b, Ob v' b → w.heap.size ≤ b) := by
    rcases hseg with h | ⟨sb, so, rfl, hsb, scs, sty, sfz, hsc, hsl, hsr⟩
    · exact absurd h hz0
    · have hm0 : 0 < zs.length := List.length_pos_iff.2 hz0
      obtain ⟨news, hnl, hnews, hrepn⟩ := cells_of (w := w) (M := M) hsc hsl hsr
      have hnl' : news.length = zs.length * i.size := by rw [hnl, rfl0]
      have fresh : ∀ (olds : List Value) (cap : Nat) (o : Obj), olds.length = ys.length * sz α → (∀ k (hk : k < ys.length), rep w.heap M ys[k] (cellsAt olds.toArray (k * sz α) (sz α))) →
          o = .cells (olds.toArray ++ news.toArray ++ Builtin.zeroCells z.cells (cap - (ys.length + zs.length))) e (0, 0) → ys.length + zs.length ≤ cap →
          OwnS (w.drew.alloc o) (fun b => Ob (.slice (some ⟨w.heap.size, 0, none⟩) (ys.length + zs.length) cap) b ∨ M b) e (.slice (some ⟨w.heap.size, 0, none⟩) (ys.length + zs.length) cap) (ys ++ zs) := by
        intro olds cap o holds hrepo ho hcap'
        subst ho
        have hnew := new_alloc_drew w (.cells (olds.toArray ++ news.toArray ++ Builtin.zeroCells z.cells (cap - (ys.length + zs.length))) e (0, 0))
        refine .inr ⟨w.heap.size, cap, _, by rw [List.length_append], .inl rfl, hnew.at_, by rw [List.length_append]; exact hcap', ?_, ?_⟩
        · simp only [Array.size_append, List.size_toArray, size_zeroCells, hzs, holds, hnl, ← Nat.add_mul]
          congr 1; omega
        · intro k hk
          rw [List.length_append] at hk
          have hkeep : ∀ (x : α) (vs : List Value), rep w.heap M x vs → rep (w.drew.alloc (.cells (olds.toArray ++ news.toArray ++ Builtin.zeroCells z.cells (cap - (ys.length + zs.length))) e (0, 0))).heap
              (fun b => Ob (.slice (some ⟨w.heap.size, 0, none⟩) (ys.length + zs.length) cap) b ∨ M b) x vs := fun x vs hr =>
            Rep.keep (Rep.sub hr (fun b hb h => h.elim (fun e => by simp only [Ob, Value.ownBlock, Option.some.injEq] at e; omega) id)) (fun b hb _ => hnew.ext.block b hb (fun h => h))
          by_cases hky : k < ys.length
          · rw [List.getElem_append_left hky]
            have := hrepo k hky
            rw [show cellsAt olds.toArray (k * sz α) (sz α) = cellsAt (olds.toArray ++ news.toArray ++ Builtin.zeroCells z.cells (cap - (ys.length + zs.length))) (k * sz α) (sz α) from cellsAt_ext (fun j hj => by
              have hb : k * sz α + j < ys.length * sz α := by
                have := Nat.mul_le_mul_right (sz α) (show k + 1 ≤ ys.length from hky); rw [Nat.succ_mul] at this; omega
              rw [Array.append_assoc, Array.getElem?_append_left (by simpa [holds] using hb)])] at this
            exact hkeep _ _ this
          · rw [List.getElem_append_right (by omega)]
            have hkz : k - ys.length < zs.length := by omega
            have := hrepn (k - ys.length) hkz
            rw [show cellsAt news.toArray ((k - ys.length) * sz α) (sz α) = cellsAt (olds.toArray ++ news.toArray ++ Builtin.zeroCells z.cells (cap - (ys.length + zs.length))) (k * sz α) (sz α) from cellsAt_ext (fun j hj => by
              have hb : (k - ys.length) * sz α + j < zs.length * sz α := by
                have := Nat.mul_le_mul_right (sz α) (show k - ys.length + 1 ≤ zs.length from hkz); rw [Nat.succ_mul] at this; omega
              have he : k * sz α = ys.length * sz α + (k - ys.length) * sz α := by rw [← Nat.add_mul]; congr 1; omega
              rw [Array.getElem?_append_left (by simp only [Array.size_append, List.size_toArray, holds, hnl]; omega), Array.getElem?_append_right (by simp only [List.size_toArray, holds]; omega)]
              congr 1
              simp only [List.size_toArray, holds]; omega)] at this
            exact hkeep _ _ this
      by_cases hys : ys = []
      · subst hys
        rcases a with _ | ab
        case' some =>
          have hr := run_append_grow (P := P) w t oo.type e i z hu hi hz ab 0 0 [] (by simp) (fun j v hv => by simp at hv) ⟨sb, so, none⟩ zs.length c news hnl' hnews (by omega) (by omega)
            (growslice_fits (by omega) (by rw [hby]; exact hlen))
          have hfr := fresh [] (grownCap w (0 + zs.length) 0 e) _ (by simp) (fun k hk => by simp at hk) rfl (grownCap_ge w _ _ e)
          refine ⟨_, _, hr, hfr, ?_, ?_⟩
          · exact (new_alloc_drew w _).ext.mono (fun b hb h => h.elim)
          · intro b hb; simp only [Ob, Value.ownBlock, Option.some.injEq] at hb; omega
        have hr := run_append_nil (P := P) w t oo.type e i z hu hi hz ⟨sb, so, none⟩ zs.length c news hnl' hnews hm0 (by omega)
          (by rw [hby]; simp only [List.length_nil, Nat.zero_add] at hlen; omega)
        have hfr := fresh [] (grownCap w zs.length 0 e) _ (by simp) (fun k hk => by simp at hk) rfl (by simpa using grownCap_ge w zs.length 0 e)
        simp only [List.length_nil, Nat.zero_add, List.nil_append] at hfr
        refine ⟨_, _, hr, ?_, ?_, ?_⟩
        · simpa using hfr
        · exact (new_alloc_drew w _).ext.mono (fun b hb h => h.elim)
        · intro b hb; simp only [Ob, Value.ownBlock, Option.some.injEq] at hb; omega
      · obtain ⟨a3, c3, he3, _, _, hseg3⟩ := rv_list.1 hown
        injection he3 with h1 h2 h3
        subst h1
        rcases hseg3 with h | ⟨ob, oo', ha3, hob, ocs, oty, ofz, hoc, hol, hor⟩
        · exact absurd h hys
        · subst ha3
          obtain ⟨olds, hll, holds, hrepo⟩ := cells_of (w := w) (M := M) hoc hol hor
          have hr := run_append_grow (P := P) w t oo.type e i z hu hi hz ⟨ob, oo', none⟩ ys.length ys.length olds (by rw [rfl0]; exact hll) holds ⟨sb, so, none⟩ zs.length c news hnl' hnews (by omega) (by omega)
            (growslice_fits (by omega) (by rw [hby]; exact hlen))
          have hfr := fresh _ (grownCap w (ys.length + zs.length) ys.length e) _ hll hrepo rfl (grownCap_ge w _ _ e)
          refine ⟨_, _, hr, hfr, ?_, ?_⟩
          · exact (new_alloc_drew w _).ext.mono (fun b hb h => h.elim)
          · intro b hb; simp only [Ob, Value.ownBlock, Option.some.injEq] at hb; omega
  obtain ⟨v', w', hrun, hpost⟩ := key
  refine ⟨v', w', .inl ?_, hpost⟩
  unfold execOp; rw [hoo]
  simp [hρ _ _ hx, hρ _ _ hy, resolve, invoke, builtin, hrun]
end
section
variable {α : Type} [Rep α] {P : Program} {N : Nat} {env : Env} {w w' : World} {C C' : Nat → Nat} {I : List Nat} {t e e' : TypeId} {v s : Value} {y z : Operand} {xs ys zs : List α} {j b n ty : Nat} {ob ob0 : Obj}
theorem a_appendR {bytes : Nat} {a : Option Addr} (hF : Lim w C) (hj : j ≠ 0) (hx : ev env y = some (.slice a ys.length ys.length)) (hy : ev env z = some s) (hrow : rowB P t e (sz α) bytes = true) (hsz : 0 < sz α)
    (hown : RV w (Mc C) ys (.slice a ys.length ys.length)) (hsrc : RV w (Mc C) zs s) (hz0 : zs ≠ []) (hlen : (ys.length + zs.length) * bytes ≤ 140737488355328) (h63 : ys.length + zs.length ≤ 140737488355328) :
    Acts P N env (.call { callee := .builtin .append, args := #[y, z], argTypes := #[t, t] }) w (fun v' w' => ∃ C', Stp [] w C w' C' ∧ OwnL w' C' j e v' (ys ++ zs) ∧ Lim w' C') := fun a' ha' oo hoo => by
  obtain ⟨v', w', h1, h2, h3, h4⟩ := acts_appendR (P := P) (N := N) hx hy hrow hsz hown hsrc hz0 hlen h63 a' ha' oo hoo
  have hcol : ∀ b, b < w.heap.size → setB C v' j b = C b := fun b hb => by
    unfold setB
    split
    · rename_i e; have := h4 b e; omega
    · rfl
  refine ⟨v', w', h1, setB C v' j, ⟨h3.mono (fun b _ hb => hb.elim), hcol⟩, ⟨h2.sub (fun b hb hc => ?_) (fun b hb => ?_), fun b hb => ?_⟩, fun b hb => ?_⟩
  · by_cases ho : Ob v' b
    · exact .inl ho
    · right
      unfold Mc setB at hc
      rw [if_neg (show ¬ v'.ownBlock = some b from ho)] at hc
      exact hc
  · unfold Mc setB; rw [if_pos (show v'.ownBlock = some b from hb)]; exact hj
  · unfold setB; rw [if_pos (show v'.ownBlock = some b from hb)]
  · by_cases ho : Ob v' b
    · exact (h2.ob b ho).2
    · unfold setB at hb
      rw [if_neg (show ¬ v'.ownBlock = some b from ho)] at hb
      exact Nat.lt_of_lt_of_le (hF b hb) h3.size
/-! ### The colours 3 to 6 are the caller's, and may be written -/
/-- An own struct is only read from here on. -/
theorem OwnB.fra {x : α} {vs : List Value} (h : OwnB w C j b (.cells vs.toArray ty)) (hj : n ≤ j) (hr : rep w.heap (Mc (K.frz n C)) x vs) : RA w (Mc (K.frz n C)) x b 0 := by
  refine ⟨h.frzM hj, _, _, _, h.at_, ?_⟩
  have hl := Rep.len hr
  have : cellsAt vs.toArray 0 (sz α) = vs := by simp [cellsAt, ← hl]
  rw [this]; exact hr
end
end Go.K
namespace Go.K
open Rep
section
variable {α : Type} [Rep α] {w : World} {C : Nat → Nat} {P : Program} {f : FuncId} {N : Nat} {k : List Item} {R : Value → World → Prop} {Q : Exit → Act → World → Prop} {env : Env} {ops : Array Oper} {S : World → Prop} {i t : Nat} {L : List (Nat × Bool)} {v : Value} {y z q : Operand} {gd : Option (Nat × Bool)} {ty e e' : TypeId} {xs : List α} {kd kd2 : IntKind}
end
end Go.K

/- What is missing of a record: plain. -/
set_option linter.unusedVariables false
set_option linter.unusedSimpArgs false
namespace Go.K
open Rep
theorem any_mem {l : List Int} {u : Int} : (l.any fun y => decide (u = y)) = decide (u ∈ l) := by
  rw [Bool.eq_iff_iff]
  simp only [List.any_eq_true, decide_eq_true_eq]
  exact ⟨fun ⟨y, h, e⟩ => by rw [e]; exact h, fun h => ⟨u, h, rfl⟩⟩
def isS (r : Couple) (ver fld : Int) (s : Shw) : Bool := decide (s.r = r ∧ s.ver = ver ∧ s.fld = fld)
/-- Was the field shown? -/
def hasS (sh : List Shw) (r : Couple) (ver fld : Int) : Bool := sh.any (isS r ver fld)
theorem rv_ver {w : World} {M : Nat → Prop} {x : Int} : rep w.heap M x [.int .i64 x] := rfl
/-- What is missing among the first values. -/
def misL (sh : List Shw) (r : Couple) (ver : Int) (vals : List ByteArray) (fl : List Int) : Nat → List Shw
  | 0 => []
  | k + 1 => misL sh r ver vals fl k ++ if (k : Int) ∈ fl ∧ hasS sh r ver k = false then [⟨r, ver, k, ((vals.getD k ByteArray.empty).size : Nat)⟩] else []
def sumCh (l : List Shw) : Int := (l.map (·.ch)).sum
theorem sumCh_app (l m : List Shw) : sumCh (l ++ m) = sumCh l + sumCh m := by simp [sumCh]
theorem misL_len (sh : List Shw) (r : Couple) (ver : Int) (vals : List ByteArray) (fl : List Int) : ∀ k, (misL sh r ver vals fl k).length ≤ k
  | 0 => by simp [misL]
  | k + 1 => by
    have := misL_len sh r ver vals fl k
    rw [misL, List.length_append]
    split <;> simp only [List.length_cons, List.length_nil] <;> omega
theorem misL_sum {sh : List Shw} {r : Couple} {ver : Int} {vals : List ByteArray} {fl : List Int} (h : ∀ i (hi : i < vals.length), (vals[i]).size ≤ 64) : ∀ k, k ≤ vals.length → 0 ≤ sumCh (misL sh r ver vals fl k) ∧ sumCh (misL sh r ver vals fl k) ≤ 64 * (k : Int)
  | 0, _ => by simp [misL, sumCh]
  | k + 1, hk => by
    have h1 := misL_sum (sh := sh) (r := r) (ver := ver) (fl := fl) h k (by omega)
    have h2 := h k (by omega)
    rw [misL, sumCh_app]
    split
    · rw [getD_in (show k < vals.length by omega)]
      simp only [sumCh, List.map_cons, List.map_nil, List.sum_cons, List.sum_nil]
      unfold sumCh at h1
      constructor <;> omega
    · simp only [sumCh, List.map_nil, List.sum_nil]
      unfold sumCh at h1
      constructor <;> omega
end Go.K

/- Copies of lists that may be nil or empty. -/
set_option linter.unusedVariables false
set_option linter.unusedSimpArgs false
namespace Go.K
open Rep
section
variable {α : Type} [Rep α] {P : Program} {N : Nat} {env : Env} {w w' : World} {C C' : Nat → Nat} {t e u : TypeId} {v s : Value} {x y z : Operand} {a b : Addr} {l c n : Nat} {M : Nat → Prop}
theorem val_eqNilX (hx : ev env x = some (.slice (some b) l c)) (ht : P.underlying t = some (.slice e)) : Val P N env (.binOp .eql t x (.const (.slice none 0 0)) u) w (.bool false) := mk' fun ρ hρ o ho => by
  unfold execOp; rw [ho]
  have hc : ρ (.const (.slice none 0 0)) = .slice none 0 0 := hρ _ _ rfl
  have h1 : (Op.equalIn Op.maxDepth t (.slice (some b) l c) (.slice none 0 0)).run P w = .ok false w := by rw [show Op.maxDepth = 9999 + 1 from rfl, Op.equalIn]; simp [run_underlying ht]
  simp [hρ _ _ hx, hc, go_sem, eqGuard, binOp, Op.equal, h1]
theorem val_eqNilN (hx : ev env x = some (.slice none l c)) (ht : P.underlying t = some (.slice e)) : Val P N env (.binOp .eql t x (.const (.slice none 0 0)) u) w (.bool true) := mk' fun ρ hρ o ho => by
  unfold execOp; rw [ho]
  have hc : ρ (.const (.slice none 0 0)) = .slice none 0 0 := hρ _ _ rfl
  have h1 : (Op.equalIn Op.maxDepth t (.slice none l c) (.slice none 0 0)).run P w = .ok true w := by rw [show Op.maxDepth = 9999 + 1 from rfl, Op.equalIn]; simp [run_underlying ht]
  simp [hρ _ _ hx, hc, go_sem, eqGuard, binOp, Op.equal, h1]
theorem a_buildEmptyX {bytes : Nat} (hF : Lim w C) (hrow : rowB P t e n bytes = true) : Acts P N env (.buildSlice t 0 #[]) w (fun v w' => (∃ a, v = .slice (some a) 0 0) ∧ Stp [] w C w' C ∧ Lim w' C) := acts' fun ρ hρ oo hoo => by
  obtain ⟨i, z, hu, hi, hsi, hby, hz, hzs⟩ := rowB_spec hrow
  have hsz' : (sizeOf e).run P w = .ok n w := by simp [sizeOf, typeInfo, hi, hsi]
  have hnew := new_alloc w (.cells #[] e)
  have hrun : (Instr.buildSlice t 0 #[]).run P w = .ok (.slice (some ⟨w.heap.size, 0, none⟩) 0 0) (w.alloc (.cells #[] e)) := by
    unfold Instr.buildSlice
    simp [run_underlying hu, hsz', Instr.fill, newRow, show Array.range 0 = (#[] : Array Nat) from by simp [Array.range]]
  refine ⟨.slice (some ⟨w.heap.size, 0, none⟩) 0 0, w.alloc (.cells #[] e), .inl ?_, ⟨_, rfl⟩, hnew.st C, hF.st (hnew.st C)⟩
  unfold execOp; rw [hoo]
  simp only [Sem.run_bind]
  rw [show Array.map (fun x : Nat × Operand => (x.fst, ρ x.snd)) #[] = #[] from by simp, hrun]
  rfl
theorem a_appendE {bytes : Nat} (hx : ev env x = some (.slice (some a) 0 0)) (hy : ev env y = some s) (hrow : rowB P t e (sz α) bytes = true) (hsrc : RV w M ([] : List α) s) :
    Acts P N env (.call { callee := .builtin .append, args := #[x, y], argTypes := #[t, t] }) w (fun v' w' => v' = .slice (some a) 0 0 ∧ Stp [] w C w' C) := acts' fun ρ hρ oo hoo => by
  obtain ⟨i, z, hu, hi, rfl0, hby, hz, hzs⟩ := rowB_spec hrow
  obtain ⟨a2, c, rfl, hcap, hl0, hseg⟩ := rv_list.1 hsrc
  have hf : (Builtin.firstCells i.size 0 (.slice a2 0 c)).run P w = .ok #[] w := by cases a2 <;> simp [Builtin.firstCells, loadCells, loadCellsFrom]
  have hrun : (Builtin.append_ #[t, t] oo.type #[.slice (some a) 0 0, .slice a2 0 c]).run P w = .ok (.slice (some a) 0 0) w := by
    simp [Builtin.append_, run_underlying hu, sizeOf, typeInfo, hi, Builtin.lenOf, hf, storeCells]
  refine ⟨_, w, .inl ?_, rfl, Stp.refl _ _ _⟩
  unfold execOp; rw [hoo]
  simp [hρ _ _ hx, hρ _ _ hy, resolve, invoke, builtin, hrun]
theorem rv_empX {a : Addr} : RV w M ([] : List α) (.slice (some a) 0 0) := rv_list.2 ⟨_, 0, rfl, Nat.le_refl _, by simp, .inl rfl⟩
end
section
variable {α : Type} [Rep α] {P : Program} {N : Nat} {env : Env} {w : World} {C : Nat → Nat} {t ti e j n l c : Nat} {y z : Operand} {a : Addr}
/-- append(nil, make([]T, n)...): its room alone. -/
theorem a_appendZ0 {bytes : Nat} (hF : Lim w C) (hj : j ≠ 0) (hy : ev env y = some (.slice none 0 0)) (hz : ev env z = some (.int .i64 n)) (hrow : rowB P t e (sz α) bytes = true) (hsz : 0 < sz α) (hby : bytes ≤ 100000)
    (hti : P.underlying ti = some (.int .i64)) (h0 : 0 < n) (hn : n ≤ 1000000) :
    Acts P N env (.call { callee := .builtin .append, args := #[y, z], argTypes := #[t, ti] }) w (fun v w' => ∃ C' g cap, v = .slice (some ⟨g, 0, none⟩) n cap ∧ Stp [] w C w' C' ∧ OwnL w' C' j e (.slice (some ⟨g, 0, none⟩) 0 cap) ([] : List α) ∧ Lim w' C') := acts' fun ρ hρ oo hoo => by
  obtain ⟨i, zv, hu, hi, hsi, hb, hzi, hzs⟩ := rowB_spec hrow
  have hr := Lib.run_append_nil_zeros (P := P) w t ti oo.type e i zv .i64 .i64 hu hti hi hzi n h0 (by rw [hsi]; exact hsz) (by omega) (by rw [hb]; have := Nat.mul_le_mul hn hby; omega)
  have hge := grownCap_ge w n 0 e
  obtain ⟨cap, hcap⟩ : ∃ cap, cap = grownCap w n 0 e := ⟨_, rfl⟩
  rw [← hcap] at hr hge
  have hnw := new_alloc_drew w (.cells (Builtin.zeroCells zv.cells n ++ Builtin.zeroCells zv.cells (cap - n)) e (0, 0))
  obtain ⟨C', h1, h2, h3⟩ := hnw.own hF j
  refine ⟨_, _, .inl ?_, C', _, cap, rfl, h1, ⟨.inr ⟨w.heap.size, cap, _, rfl, ?_, h2.at_, Nat.zero_le _, ?_, fun k hk => by simp at hk⟩, fun b hb => ?_⟩, h3⟩
  · unfold execOp; rw [hoo]
    simp [hρ _ _ hy, hρ _ _ hz, resolve, invoke, builtin, hr]
  · unfold Mc; rw [h2.col]; exact hj
  · rw [Array.size_append, size_zeroCells, size_zeroCells, hzs, ← Nat.add_mul]
    congr 1; omega
  · simp only [Ob, Value.ownBlock, Option.some.injEq] at hb
    subst hb; exact h2.col
theorem val_capX {b : Option Addr} (hx : ev env y = some (.slice b l c)) (ht : P.underlying t = some (.slice e)) :
    Val P N env (.call { callee := .builtin .cap, args := #[y], argTypes := #[t] }) w (.int .i64 c) := mk' fun ρ hρ o ho => by
  unfold execOp; rw [ho]; simp [hρ _ _ hx, go_sem, resolve, invoke, builtin, Builtin.cap_, run_underlying ht, goInt]
theorem val_slNil (hx : ev env y = some (.slice none 0 0)) (hz : ev env z = some (.int .i64 0)) (hu : P.underlying t = some (.slice e)) (hi : (P.info? e).isSome = true) : Val P N env (.slice t y none (some z) none) w (.slice none 0 0) := mk' fun ρ hρ o ho => by
  obtain ⟨i, hi⟩ := Option.isSome_iff_exists.1 hi
  unfold execOp; rw [ho]
  simp [hρ _ _ hx, hρ _ _ hz, Instr.sliceAt, Instr.slice, run_underlying hu, Instr.sliceBounds, Instr.sliceBound, asIntOf, sizeOf, typeInfo, hi]
theorem val_sl0 {g : Nat} (hx : ev env y = some (.slice (some ⟨g, 0, none⟩) l c)) (hz : ev env z = some (.int .i64 0)) (hu : P.underlying t = some (.slice e)) (hi : (P.info? e).isSome = true) : Val P N env (.slice t y none (some z) none) w (.slice (some ⟨g, 0, none⟩) 0 c) := mk' fun ρ hρ o ho => by
  obtain ⟨i, hi⟩ := Option.isSome_iff_exists.1 hi
  unfold execOp; rw [ho]
  simp [hρ _ _ hx, hρ _ _ hz, Instr.sliceAt, Instr.slice, run_underlying hu, Instr.sliceBounds, Instr.sliceBound, asIntOf, sizeOf, typeInfo, hi]
  exact fun _ => rfl
end
section
variable {α : Type}
theorem flat_takeA {ll : List (List α)} {k : Nat} (h : k < ll.length) : (ll.take (k + 1)).flatten = (ll.take k).flatten ++ ll[k] := by
  rw [List.take_succ_eq_append_getElem h, List.flatten_append]; simp
theorem flat_leA {ll : List (List α)} (k : Nat) : (ll.take k).flatten.length ≤ ll.flatten.length := by
  have : ll.flatten.length = (ll.take k).flatten.length + (ll.drop k).flatten.length := by rw [← List.length_append, ← List.flatten_append, List.take_append_drop]
  omega
end
end Go.K

/- The order of what was shown. Plain. -/
set_option linter.unusedVariables false
set_option linter.unusedSimpArgs false
namespace Go.K
open Rep
def ltS (x y : Shw) : Prop := x.r.a < y.r.a ∨ (x.r.a = y.r.a ∧ (x.r.b < y.r.b ∨ (x.r.b = y.r.b ∧ (x.ver < y.ver ∨ (x.ver = y.ver ∧ x.fld < y.fld)))))
theorem cmpI_z {x y : Int} : cmpI x y = 0 ↔ x = y := by unfold cmpI; split <;> (try split) <;> omega
theorem cmpI_gt {x y : Int} : 0 < cmpI x y ↔ y < x := by unfold cmpI; split <;> (try split) <;> omega
theorem orL3 (a b c : Int) : orL [a, b, c] = if a ≠ 0 then a else if b ≠ 0 then b else c := by
  unfold orL; by_cases h : a = 0
  · simp [h]; unfold orL; by_cases h2 : b = 0
    · simp [h2, orL]; exact fun e => e.symm
    · simp [h2]
  · simp [h]
theorem orL2 (a b : Int) : orL [a, b] = if a ≠ 0 then a else b := by
  unfold orL; by_cases h : a = 0
  · simp [h, orL]; exact fun e => e.symm
  · simp [h]
theorem cmpS_lt {x y : Shw} : cmpS x y < 0 ↔ ltS x y := by
  unfold cmpS cmpC ltS
  rw [orL3, orL2]
  have a1 := @cmpI_lt x.r.a y.r.a; have a2 := @cmpI_z x.r.a y.r.a
  have b1 := @cmpI_lt x.r.b y.r.b; have b2 := @cmpI_z x.r.b y.r.b
  have c1 := @cmpI_lt x.ver y.ver; have c2 := @cmpI_z x.ver y.ver
  have d1 := @cmpI_lt x.fld y.fld
  by_cases h1 : cmpI x.r.a y.r.a = 0
  · rw [if_neg (show ¬ (cmpI x.r.a y.r.a ≠ 0) by omega)]
    by_cases h2 : cmpI x.r.b y.r.b = 0
    · rw [if_neg (by omega)]
      by_cases h3 : cmpI x.ver y.ver = 0
      · rw [if_neg (by omega)]; omega
      · rw [if_pos h3]; omega
    · rw [if_pos h2]; omega
  · rw [if_pos h1, if_pos h1]; omega
theorem cmpS_gt {x y : Shw} : 0 < cmpS x y ↔ ltS y x := by
  unfold cmpS cmpC ltS
  rw [orL3, orL2]
  have a1 := @cmpI_gt x.r.a y.r.a; have a2 := @cmpI_z x.r.a y.r.a
  have b1 := @cmpI_gt x.r.b y.r.b; have b2 := @cmpI_z x.r.b y.r.b
  have c1 := @cmpI_gt x.ver y.ver; have c2 := @cmpI_z x.ver y.ver
  have d1 := @cmpI_gt x.fld y.fld
  by_cases h1 : cmpI x.r.a y.r.a = 0
  · rw [if_neg (show ¬ (cmpI x.r.a y.r.a ≠ 0) by omega)]
    by_cases h2 : cmpI x.r.b y.r.b = 0
    · rw [if_neg (by omega)]
      by_cases h3 : cmpI x.ver y.ver = 0
      · rw [if_neg (by omega)]; omega
      · rw [if_pos h3]; omega
    · rw [if_pos h2]; omega
  · rw [if_pos h1, if_pos h1]; omega
theorem cmpS_3 : Cmp3 cmpS (fun _ => True) := ⟨fun x y _ _ => by rw [cmpS_lt, cmpS_gt], fun x y z _ _ _ h1 h2 => by
  have a : ¬ ltS y x := fun e => by have := cmpS_gt.2 e; omega
  have b : ¬ ltS z y := fun e => by have := cmpS_gt.2 e; omega
  have c : ¬ ltS z x := by unfold ltS at *; omega
  have := @cmpS_gt x z
  apply Classical.byContradiction
  intro hn
  exact c (this.1 (by omega))⟩
/-- A record that fits. -/
def QOK (ag : List Int) (vals : List ByteArray) (ver : Int) : Prop := vals.length = ag.length ∧ verOK ver = true ∧ ∀ i (h : i < vals.length), (vals[i]).size ≤ 64
theorem FldS.no {pr : Int} {ag df : List Int} {lo hi : Int} {p : Nat} {fl : List Int} (h : FldS pr ag df lo hi p fl false) : fl = [] := by
  rcases h with ⟨_, _, h⟩ | ⟨_, gs, k, _, _, _, ⟨_, _, _, h⟩ | ⟨_, h, _⟩⟩
  · exact h
  · exact h
  · cases h
section
variable {P : Program} {f : FuncId} {N : Nat} {k : List Item} {env : Env} {w : World} {R : Value → World → Prop}
theorem run_retCTT {c : Code} {fn : Func} {a ty b u u2 : Nat} {x x2 : Value} {ty0 : Nat} {cs : List Value} {fz : Nat × Nat} {n : Nat} (hc : c = .ret) (hf : P.funcs[f]? = some fn) (hres : fn.results = #[.cell a ty, .tmp u, .tmp u2]) (hv : look env a = some (.pointer (some ⟨b, 0, none⟩)))
    (hx : look env u = some x) (hx2 : look env u2 = some x2) (hb : w.heap[b]? = some (.cells cs.toArray ty0 fz)) (ha : aggB P ty = some true) (hs : szB P ty = some n) (hl : cs.length = n)
    (hR : R (.tuple #[.agg cs.toArray, x, x2]) w) : Run P f N (.code c :: k) env w R := fun a' ha' => by
  subst hc
  refine runs_ret hf ha'.defers ?_ hR
  have h1 := ha'.slot a _ hv
  have h3 := ha'.slot u _ hx
  have h4 := ha'.slot u2 _ hx2
  have h2 := run_cellAgg hb ha hs hl
  simp only [results, hres]
  simp [h1, h3, h4, Array.getD_eq_getD_getElem?, asAddr, h2]
end
/-- What 'Ask' answers. -/
def AskS (pr : Int) (ag df : List Int) (lo hh : Int) (p : Nat) (bud : Int) (sh : List Shw) (A B : Couple) (vals1 vals2 : List ByteArray) (ver1 ver2 : Int) (bud' : Int) (sh' now : List Shw) (e : Int) : Prop :=
  ∃ fl ok, FldS pr ag df lo hh p fl ok ∧
    ((ok = false ∧ e = 13) ∨
     (ok = true ∧ ∃ z1 z2, StS cmpS (sh ++ misL sh A ver1 vals1 fl vals1.length) z1 ∧ StS cmpS (z1 ++ misL z1 B ver2 vals2 fl vals2.length) z2 ∧
      ((bud < sumCh (misL sh A ver1 vals1 fl vals1.length) + sumCh (misL z1 B ver2 vals2 fl vals2.length) ∧ e = 45) ∨
       (sumCh (misL sh A ver1 vals1 fl vals1.length) + sumCh (misL z1 B ver2 vals2 fl vals2.length) ≤ bud ∧ e = 0 ∧ sh' = z2 ∧ now = misL sh A ver1 vals1 fl vals1.length ++ misL z1 B ver2 vals2 fl vals2.length ∧
        bud' = bud - (sumCh (misL sh A ver1 vals1 fl vals1.length) + sumCh (misL z1 B ver2 vals2 fl vals2.length))))))
end Go.K

/- The order of decisions, and their search. Plain. -/
set_option linter.unusedVariables false
set_option linter.unusedSimpArgs false
namespace Go.K
open Rep
def ltD (x y : Dcs) : Prop := x.A.a < y.A.a ∨ (x.A.a = y.A.a ∧ (x.A.b < y.A.b ∨ (x.A.b = y.A.b ∧ (x.B.a < y.B.a ∨ (x.B.a = y.B.a ∧ (x.B.b < y.B.b ∨ (x.B.b = y.B.b ∧ (x.va < y.va ∨ (x.va = y.va ∧ x.vb < y.vb)))))))))
def ltC2 (x y : Couple) : Prop := x.a < y.a ∨ (x.a = y.a ∧ x.b < y.b)
def eqC2 (x y : Couple) : Prop := x.a = y.a ∧ x.b = y.b
theorem cmpC_3 {x y : Couple} : (cmpC x y < 0 ↔ ltC2 x y) ∧ (cmpC x y = 0 ↔ eqC2 x y) ∧ (0 < cmpC x y ↔ ltC2 y x) := by
  unfold cmpC ltC2 eqC2
  rw [orL2]
  have a1 := @cmpI_lt x.a y.a; have a2 := @cmpI_z x.a y.a; have a3 := @cmpI_gt x.a y.a
  have b1 := @cmpI_lt x.b y.b; have b2 := @cmpI_z x.b y.b; have b3 := @cmpI_gt x.b y.b
  by_cases h1 : cmpI x.a y.a = 0
  · rw [if_neg (by omega)]; refine ⟨?_, ?_, ?_⟩ <;> omega
  · rw [if_pos h1]; refine ⟨?_, ?_, ?_⟩ <;> omega
set_option maxHeartbeats 4000000 in
theorem cmpD_all {x y : Dcs} : (cmpD x y < 0 ↔ ltD x y) ∧ (0 < cmpD x y ↔ ltD y x) := by
  unfold cmpD cmp2
  obtain ⟨a1, a2, a3⟩ := @cmpC_3 x.A y.A
  obtain ⟨b1, b2, b3⟩ := @cmpC_3 x.B y.B
  have c1 := @cmpI_lt x.va y.va; have c2 := @cmpI_z x.va y.va; have c3 := @cmpI_gt x.va y.va
  have d1 := @cmpI_lt x.vb y.vb; have d3 := @cmpI_gt x.vb y.vb
  rw [orL3, orL2]
  unfold ltC2 eqC2 at *
  unfold ltD
  by_cases h1 : cmpC x.A y.A = 0
  · rw [if_neg (show ¬ (cmpC x.A y.A ≠ 0) by omega)]
    by_cases h2 : cmpC x.B y.B = 0
    · rw [if_neg (by omega)]
      by_cases h3 : cmpI x.va y.va = 0
      · rw [if_neg (by omega)]; constructor <;> omega
      · rw [if_pos h3]; constructor <;> omega
    · rw [if_pos h2]; constructor <;> omega
  · rw [if_pos h1, if_pos h1]; constructor <;> omega
theorem lexT {a b c : Int} {P Q R : Prop} (h : P → Q → R) : (a < b ∨ (a = b ∧ P)) → (b < c ∨ (b = c ∧ Q)) → (a < c ∨ (a = c ∧ R)) := by
  rintro (h1 | ⟨h1, p⟩) (h2 | ⟨h2, q⟩)
  · exact .inl (by omega)
  · exact .inl (by omega)
  · exact .inl (by omega)
  · exact .inr ⟨by omega, h p q⟩
theorem ltD_trans {x y z : Dcs} (h1 : ltD x y) (h2 : ltD y z) : ltD x z := lexT (lexT (lexT (lexT (lexT (fun p q => Int.lt_trans p q))))) h1 h2
theorem ltD_asc {l : List Dcs} (h : ∀ i (h : i + 1 < l.length), cmpD l[i] l[i + 1] < 0) : ∀ k i (hk : i + k + 1 < l.length), ltD (l[i]'(by omega)) (l[i + k + 1]'hk)
  | 0, i, hk => cmpD_all.1.1 (h i hk)
  | k + 1, i, hk => ltD_trans (ltD_asc h k i (by omega)) (cmpD_all.1.1 (h (i + k + 1) (by omega)))
theorem ltD_lt {l : List Dcs} (h : ∀ i (h : i + 1 < l.length), cmpD l[i] l[i + 1] < 0) {i j : Nat} (hij : i < j) (hj : j < l.length) : ltD (l[i]'(by omega)) l[j] := by
  have := ltD_asc h (j - i - 1) i (by omega)
  simp only [show i + (j - i - 1) + 1 = j from by omega] at this
  exact this
/-- The search: those before i are less, those from j on are not. -/
structure BSD (l : List Dcs) (y : Dcs) (i j : Nat) : Prop where
  ij : i ≤ j
  jl : j ≤ l.length
  lo : ∀ k, k < i → (h : k < l.length) → cmpD l[k] y < 0
  hi : ∀ k, j ≤ k → (h : k < l.length) → 0 ≤ cmpD l[k] y
theorem BSD.start {l : List Dcs} {y : Dcs} : BSD l y 0 l.length := ⟨Nat.zero_le _, Nat.le_refl _, fun k h => by omega, fun k h h' => by omega⟩
theorem BSD.low {l : List Dcs} {y : Dcs} {i j k : Nat} (h : BSD l y i j) (ha : ∀ i (h : i + 1 < l.length), cmpD l[i] l[i + 1] < 0) (h1 : i ≤ k) (h2 : k < j) (hk : k < l.length) (hc : cmpD l[k] y < 0) : BSD l y (k + 1) j :=
  ⟨by omega, h.jl, fun m hm hl => by
    by_cases e : m = k
    · subst e; exact hc
    · exact cmpD_all.1.2 (ltD_trans (ltD_lt ha (show m < k by omega) hk) (cmpD_all.1.1 hc)), h.hi⟩
theorem BSD.high {l : List Dcs} {y : Dcs} {i j k : Nat} (h : BSD l y i j) (ha : ∀ i (h : i + 1 < l.length), cmpD l[i] l[i + 1] < 0) (h1 : i ≤ k) (h2 : k < j) (hk : k < l.length) (hc : ¬ cmpD l[k] y < 0) : BSD l y i k :=
  ⟨h1, by omega, h.lo, fun m hm hl => by
    by_cases e : m = k
    · subst e; omega
    · apply Classical.byContradiction
      intro hn
      have h3 := cmpD_all.1.1 (show cmpD l[m] y < 0 by omega)
      exact hc (cmpD_all.1.2 (ltD_trans (ltD_lt ha (show k < m by omega) hl) h3))⟩
end Go.K

/- Appending to a clone: a list of its own, or empty but not nil; what 'Decide' answers. -/
set_option linter.unusedVariables false
set_option linter.unusedSimpArgs false
namespace Go.K
open Rep
def AppL {α : Type} [Rep α] (w : World) (C : Nat → Nat) (j : Nat) (e : TypeId) (v : Value) (ys : List α) : Prop := OwnL w C j e v ys ∨ (ys = [] ∧ ∃ a, v = .slice (some a) 0 0)
section
variable {α : Type} [Rep α] {P : Program} {N : Nat} {env : Env} {w w' : World} {C C' C1 D : Nat → Nat} {I : List Nat} {t e : TypeId} {v s : Value} {x y z : Operand} {xs ys zs : List α} {j j1 n : Nat}
theorem AppL.st (h : AppL w C j e v ys) (hs : Stp I w C w' C') (h0 : 0 ∉ I) (hj : j ∉ I) : AppL w' C' j e v ys := h.imp (fun h => h.st hs h0 hj) id
theorem AppL.lenV (h : AppL w C j e v ys) (hy : ev env y = some v) {d : TypeId} (ht : P.underlying t = some (.slice d)) :
    ∀ w', Val P N env (.call { callee := .builtin .len, args := #[y], argTypes := #[t] }) w' (.int .i64 ys.length) := fun w' => by
  rcases h with h | ⟨rfl, a, rfl⟩
  · exact h.lenV hy ht w'
  · exact val_len_slice hy ht
theorem AppL.one (h : AppL w C j e v ys) : v.cells = #[v] ∧ v.oneCell' = true := by
  rcases h with h | ⟨rfl, a, rfl⟩
  · exact h.one
  · exact ⟨rfl, rfl⟩
theorem AppL.frz (h : AppL w C j e v ys) (hj : n ≤ j) (hl : ys.length ≤ 9223372036854775807) : RV w (Mc (K.frz n C)) ys v := by
  rcases h with h | ⟨rfl, a, rfl⟩
  · exact h.frz hj hl
  · exact rv_empX
theorem AppL.out (h : AppL w' C' j e v ys) (hs : Stp I w D w' C') (hF : Lim w C) (hD : Mc D = Mc C) (hj : ∀ b, b < w.heap.size → D b ≠ j) (hl : ys.length ≤ 9223372036854775807) : RV w' (Mc C) ys v := by
  rcases h with h | ⟨rfl, a, rfl⟩
  · exact h.out hs hF hD hj hl
  · exact rv_empX
theorem AppL.give (h : AppL w' C1 j1 e v ys) (hs : Stp I w D w' C1) (hF : Lim w C) (hD : Mc D = Mc C) (hj : ∀ b, b < w.heap.size → D b ≠ j1) (h1 : j1 ≠ 0) (j : Nat) (hjj : j ≠ 0) :
    ∃ C', (∀ b, b < w.heap.size → C' b = C b) ∧ Lim w' C' ∧ (∀ b, Mc C' b → Mc C1 b) ∧ AppL w' C' j e v ys := by
  rcases h with h | ⟨rfl, a, rfl⟩
  · obtain ⟨C', a1, a2, a3, a4⟩ := h.give hs hF hD hj h1 j hjj
    exact ⟨C', a1, a2, a3, .inl a4⟩
  · refine ⟨C, fun _ _ => rfl, fun b hb => Nat.lt_of_lt_of_le (hF b hb) hs.size, fun b hb => ?_, .inr ⟨rfl, a, rfl⟩⟩
    have hlt := hF b hb
    unfold Mc
    rw [hs.col b hlt]
    have : Mc D b := by rw [hD]; exact hb
    exact this
theorem a_appendA {bytes : Nat} (hF : Lim w C) (hj : j ≠ 0) (hx : ev env y = some v) (hy : ev env z = some s) (hrow : rowB P t e (sz α) bytes = true) (hsz : 0 < sz α)
    (hown : AppL w C j e v ys) (hsrc : RV w (Mc C) zs s) (hz0 : zs ≠ []) (hlen : (ys.length + zs.length) * bytes ≤ 140737488355328) (h63 : ys.length + zs.length ≤ 140737488355328) :
    Acts P N env (.call { callee := .builtin .append, args := #[y, z], argTypes := #[t, t] }) w (fun v' w' => ∃ C', Stp [j] w C w' C' ∧ OwnL w' C' j e v' (ys ++ zs) ∧ Lim w' C') := by
  rcases hown with h | ⟨rfl, a, rfl⟩
  · exact a_append hF hj hx hy hrow hsz h hsrc hlen h63
  · intro a' ha' oo hoo
    obtain ⟨v', w', h1, C', h2, h3, h4⟩ := a_appendR (j := j) (P := P) (N := N) (a := some a) (ys := ([] : List α)) hF hj hx hy hrow hsz rv_empX hsrc hz0 hlen h63 a' ha' oo hoo
    exact ⟨v', w', h1, C', h2.mono (fun c hc => by cases hc), h3, h4⟩
end
section
variable {α : Type} [Rep α] {w : World} {C : Nat → Nat} {P : Program} {f : FuncId} {N : Nat} {k : List Item} {R : Value → World → Prop} {Q : Exit → Act → World → Prop} {env : Env} {ops : Array Oper} {S : World → Prop} {i t : Nat} {L : List (Nat × Bool)} {v v2 : Value} {y z : Operand} {gd : Option (Nat × Bool)} {ty e e' : TypeId} {xs : List α} {j g : Nat} {kd : IntKind} {n : Int}
theorem sFA (hop : opAt ops i = some (some t, .slice ty y (some z) none none, gd)) (hw : wantedE ops env gd = some true) (ht : Nat.blt t N = true) (hl : AppL w C j e v xs) (hl63 : xs.length ≤ 9223372036854775807) (hy : ev env y = some v)
    (hf : elemB P ty = some (e', sz α)) (hz : ev env z = some (.int kd n)) (h0 : 0 ≤ n) (h1 : n ≤ xs.length)
    (h : ∀ v2, SchQ P N Q ops S L ((t, v2) :: env) w) : SchQ P N Q ops S ((i, true) :: L) env w :=
  sFR hop hw ht (hl.frz (n := j) (Nat.le_refl _) hl63) hy hf hz h0 h1 (fun v2 _ => h v2)
end
section
variable {α : Type} [Rep α] {w w' : World} {C C' : Nat → Nat} {I : List Nat} {e : TypeId} {v : Value} {ys : List α} {j : Nat}
theorem AppL.t (h : AppL w C j e v ys) (hs : Stp I w C w' C') (h0 : 0 ∉ I := by first | decide | (simp <;> omega)) (hj : j ∉ I := by first | decide | (simp <;> omega)) : AppL w' C' j e v ys := h.st hs h0 hj
end
theorem half64D {i j : Nat} (h1 : (i : Int) ≤ 4611686018427387904) (h2 : (j : Int) ≤ 4611686018427387904) : IntKind.i64.wrap ((IntKind.u64.wrap ((i : Int) + j)).fdiv (2 ^ min (1 : Int).toNat IntKind.u64.bits)) = (((i + j) / 2 : Nat) : Int) := by
  rw [wrap_u64 (by omega) (by omega), show min (1 : Int).toNat IntKind.u64.bits = 1 from by decide, show (2 : Int) ^ 1 = 2 from rfl, Int.fdiv_eq_ediv_of_nonneg _ (by decide), wrap_i64 (by omega) (by omega)]
  omega
/-! ### Decisions -/
def AllS (sh : List Shw) (A B : Couple) (ver1 ver2 : Int) (fl : List Int) : Prop := ∀ f ∈ fl, hasS sh A ver1 f = true ∧ hasS sh B ver2 f = true
def DecS (pr : Int) (ag df : List Int) (lo hh : Int) (p : Nat) (bud : Int) (sh : List Shw) (ds : List Dcs) (A B : Couple) (ver1 ver2 : Int) (same : Bool) (bud' : Int) (sh' : List Shw) (ds' : List Dcs) (e : Int) : Prop :=
  ∃ fl ok, FldS pr ag df lo hh p fl ok ∧
    ((ok = false ∧ e = 13) ∨
     (ok = true ∧ ((¬ AllS sh A B ver1 ver2 fl ∧ e = 50) ∨
      (AllS sh A B ver1 ver2 fl ∧ ∃ i, BSD ds ⟨A, B, ver1, ver2, same⟩ i i ∧
        (((∃ h : i < ds.length, cmpD ds[i] ⟨A, B, ver1, ver2, same⟩ = 0) ∧ e = 42) ∨
         ((¬ ∃ h : i < ds.length, cmpD ds[i] ⟨A, B, ver1, ver2, same⟩ = 0) ∧
           ((ds.length = 4096 ∧ e = 1) ∨ (ds.length ≠ 4096 ∧ e = 0 ∧ bud' = bud ∧ sh' = sh ∧ ds' = ds.take i ++ [⟨A, B, ver1, ver2, same⟩] ++ ds.drop i))))))))
theorem BSD.end_ {l : List Dcs} {y : Dcs} {i : Nat} (h : BSD l y i i) (hend : ∀ k (h : k < l.length), cmpD l[k] y ≤ 0) (hn : ¬ ∃ h : i < l.length, cmpD l[i] y = 0) : i = l.length := by
  have h1 := h.jl
  apply Classical.byContradiction
  intro hne
  have hlt : i < l.length := by omega
  have h2 := h.hi i (Nat.le_refl _) hlt
  have h3 := hend i hlt
  exact hn ⟨hlt, by omega⟩
end Go.K

/- The plain law of reviews: what is shown and asked again. -/
set_option linter.unusedVariables false
set_option linter.unusedSimpArgs false
namespace Go.K
open Rep
/-! ### Stable sorting: a permutation, and strict where no two are equal -/
section
variable {α : Type} {ys zs us : List α} {σ τ : Nat → Nat} {c : α → α → Int} {P : α → Prop}
theorem range_perm {n : Nat} (h : Within σ 0 n) : ((List.range n).map σ).Perm (List.range n) := by
  have hnd : ((List.range n).map σ).Nodup := by
    rw [List.nodup_iff_pairwise_ne, List.pairwise_map]
    exact (List.nodup_iff_pairwise_ne.1 List.nodup_range).imp (fun hne e => hne (h.inj _ _ e))
  have hsub : (List.range n).map σ ⊆ List.range n := fun x hx => by
    obtain ⟨i, hi, rfl⟩ := List.mem_map.1 hx
    exact List.mem_range.2 (h.in_ i (by omega) (List.mem_range.1 hi)).2
  refine (List.perm_ext_iff_of_nodup hnd List.nodup_range).2 fun a => ⟨fun ha => hsub ha, fun ha => ?_⟩
  apply Classical.byContradiction
  intro hn
  have h1 : (a :: (List.range n).map σ).Nodup := List.nodup_cons.2 ⟨hn, hnd⟩
  have h2 := h1.length_le_of_subset (l₂ := List.range n) (fun x hx => by
    rcases List.mem_cons.1 hx with rfl | hx
    · exact ha
    · exact hsub hx)
  simp at h2
  omega
theorem StS.perm (h : StS c ys zs) : zs.Perm ys := by
  obtain ⟨σ, h1, h2, h3⟩ := h
  have e1 : zs.map some = ((List.range ys.length).map σ).map (fun i => ys[i]?) := by
    apply List.ext_getElem
    · simp [h1.len]
    · intro i hi hj
      have hlt : i < ys.length := by simpa [h1.len] using hi
      simp only [List.getElem_map, List.getElem_range]
      rw [← (h1.at_ i hlt).2, List.getElem?_eq_getElem (by rw [h1.len]; exact hlt)]
  have e2 : ys.map some = (List.range ys.length).map (fun i => ys[i]?) := by
    apply List.ext_getElem
    · simp
    · intro i hi hj
      simp only [List.getElem_map, List.getElem_range]
      rw [List.getElem?_eq_getElem (by simpa using hi)]
  have e3 : (zs.map some).Perm (ys.map some) := by rw [e1, e2]; exact (range_perm h2).map _
  have e4 := e3.filterMap id
  simpa using e4
theorem StS.le (h : StS c ys zs) {i j : Nat} (hij : i < j) (hj : j < zs.length) : c (zs[i]'(by omega)) zs[j] ≤ 0 := by
  obtain ⟨σ, h1, h2, h3⟩ := h
  have hl := h1.len
  rw [h1.get (show i < ys.length by omega), h1.get (show j < ys.length by omega)]
  obtain ⟨_, _, h4⟩ := h3 i j (by omega) hij (by omega)
  omega
theorem StS.self (h : ∀ i j (hij : i < j) (hj : j < ys.length), c (ys[i]'(by omega)) ys[j] < 0) : StS c ys ys :=
  ⟨fun i => i, PL.id ys, Within.id _ _, fun i j h1 h2 h3 => ⟨Nat.lt_trans h2 h3, h3, .inl (h i j h2 h3)⟩⟩
end
theorem cmpS_z {x y : Shw} : cmpS x y = 0 ↔ x.r = y.r ∧ x.ver = y.ver ∧ x.fld = y.fld := by
  have h1 := @cmpS_lt x y; have h2 := @cmpS_gt x y
  unfold ltS at h1 h2
  have e : x.r = y.r ↔ x.r.a = y.r.a ∧ x.r.b = y.r.b := ⟨fun e => by rw [e]; exact ⟨rfl, rfl⟩, fun e => by
    obtain ⟨⟨a, b⟩, _, _, _⟩ := x; obtain ⟨⟨a', b'⟩, _, _, _⟩ := y; obtain ⟨h, h'⟩ := e; simp only at h h'; subst h h'; rfl⟩
  rw [e]
  constructor
  · intro h; refine ⟨⟨?_, ?_⟩, ?_, ?_⟩ <;> omega
  · rintro ⟨⟨_, _⟩, _, _⟩; omega
theorem ltS_trans {x y z : Shw} (h1 : ltS x y) (h2 : ltS y z) : ltS x z := lexT (lexT (lexT (fun p q => Int.lt_trans p q))) h1 h2
theorem ltS_asc {l : List Shw} (h : ∀ i (h : i + 1 < l.length), cmpS l[i] l[i + 1] < 0) : ∀ k i (hk : i + k + 1 < l.length), ltS (l[i]'(by omega)) (l[i + k + 1]'hk)
  | 0, i, hk => cmpS_lt.1 (h i hk)
  | k + 1, i, hk => ltS_trans (ltS_asc h k i (by omega)) (cmpS_lt.1 (h (i + k + 1) (by omega)))
theorem ltS_lt {l : List Shw} (h : ∀ i (h : i + 1 < l.length), cmpS l[i] l[i + 1] < 0) {i j : Nat} (hij : i < j) (hj : j < l.length) : cmpS (l[i]'(by omega)) l[j] < 0 := by
  have := ltS_asc h (j - i - 1) i (by omega)
  simp only [show i + (j - i - 1) + 1 = j from by omega] at this
  exact cmpS_lt.2 this
/-- No two are the same. -/
def Dist (l : List Shw) : Prop := l.Pairwise fun x y => ¬ (x.r = y.r ∧ x.ver = y.ver ∧ x.fld = y.fld)
theorem Dist.of_asc {l : List Shw} (h : ∀ i (h : i + 1 < l.length), cmpS l[i] l[i + 1] < 0) : Dist l :=
  List.pairwise_iff_getElem.2 fun i j hi hj hij => by
    have := ltS_lt h hij hj
    rw [← cmpS_z]; omega
theorem Dist.sts {l z : List Shw} (h : Dist l) (hs : StS cmpS l z) : ∀ i (h : i + 1 < z.length), cmpS z[i] z[i + 1] < 0 := fun i hi => by
  have h1 : Dist z := (hs.perm.pairwise_iff (fun {x y} hxy e => hxy ⟨e.1.symm, e.2.1.symm, e.2.2.symm⟩)).2 h
  have h2 := List.pairwise_iff_getElem.1 h1 i (i + 1) (by omega) hi (by omega)
  rw [← cmpS_z] at h2
  have := hs.le (show i < i + 1 by omega) hi
  omega
theorem Dist.ne {l : List Shw} (h : Dist l) {i k : Nat} (hi : i < l.length) (hk : k < l.length) (hne : i ≠ k) : cmpS l[i] l[k] ≠ 0 := fun e => by
  rw [cmpS_z] at e
  rcases Nat.lt_or_gt_of_ne hne with h1 | h1
  · exact List.pairwise_iff_getElem.1 h i k hi hk h1 e
  · exact List.pairwise_iff_getElem.1 h k i hk hi h1 ⟨e.1.symm, e.2.1.symm, e.2.2.symm⟩
theorem sts_self {z z' : List Shw} (h : ∀ i (h : i + 1 < z.length), cmpS z[i] z[i + 1] < 0) (hs : StS cmpS z z') : z' = z :=
  hs.uniq cmpS_3 (fun _ _ => trivial) (StS.self fun i j hij hj => ltS_lt h hij hj)
/-! ### What is missing -/
section
variable {sh z : List Shw} {r r2 : Couple} {ver ver2 : Int} {vals : List ByteArray} {fl : List Int} {k : Nat}
theorem misL_mem {x : Shw} : ∀ {k : Nat}, x ∈ misL sh r ver vals fl k ↔ ∃ f, f < k ∧ (f : Int) ∈ fl ∧ hasS sh r ver f = false ∧ x = ⟨r, ver, f, ((vals.getD f ByteArray.empty).size : Nat)⟩
  | 0 => by simp [misL]
  | k + 1 => by
    rw [misL, List.mem_append, misL_mem]
    constructor
    · rintro (⟨f, h1, h2⟩ | h)
      · exact ⟨f, by omega, h2⟩
      · split at h
        · rename_i hp; rw [List.mem_singleton] at h; exact ⟨k, by omega, hp.1, hp.2, h⟩
        · simp at h
    · rintro ⟨f, h1, h2, h3, h4⟩
      by_cases e : f = k
      · right; subst e; rw [if_pos ⟨h2, h3⟩, List.mem_singleton]; exact h4
      · exact .inl ⟨f, by omega, h2, h3, h4⟩
theorem misL_dist : ∀ k, Dist (misL sh r ver vals fl k)
  | 0 => by simp [misL, Dist]
  | k + 1 => by
    rw [misL]
    refine List.pairwise_append.2 ⟨misL_dist k, ?_, fun x hx y hy => ?_⟩
    · split <;> simp
    · split at hy
      · rw [List.mem_singleton] at hy
        obtain ⟨f, h1, _, _, rfl⟩ := misL_mem.1 hx
        subst hy
        rintro ⟨_, _, h⟩
        simp only at h
        omega
      · simp at hy
theorem hasS_iff {f : Int} : hasS sh r ver f = true ↔ ∃ x ∈ sh, x.r = r ∧ x.ver = ver ∧ x.fld = f := by
  unfold hasS isS; simp [List.any_eq_true]
theorem hasS_perm {sh z : List Shw} (h : z.Perm sh) (f : Int) : hasS z r ver f = hasS sh r ver f := by
  rw [Bool.eq_iff_iff, hasS_iff, hasS_iff]
  exact ⟨fun ⟨x, h1, h2⟩ => ⟨x, h.mem_iff.1 h1, h2⟩, fun ⟨x, h1, h2⟩ => ⟨x, h.mem_iff.2 h1, h2⟩⟩
theorem hasS_app {m : List Shw} {f : Int} : hasS (sh ++ m) r ver f = (hasS sh r ver f || hasS m r ver f) := by unfold hasS; exact List.any_append
theorem dist_add (h : Dist sh) (k : Nat) : Dist (sh ++ misL sh r ver vals fl k) := by
  refine List.pairwise_append.2 ⟨h, misL_dist k, fun x hx y hy e => ?_⟩
  obtain ⟨f, h1, _, h3, rfl⟩ := misL_mem.1 hy
  have := hasS_iff.2 ⟨x, hx, e.1, e.2.1, e.2.2⟩
  simp only at this
  rw [h3] at this; cases this
/-- The fields of a list lie within the record. -/
def FIn (fl : List Int) (n : Nat) : Prop := ∀ f ∈ fl, ∃ i : Nat, i < n ∧ f = i
theorem has_add (h : FIn fl k) {f : Int} (hf : f ∈ fl) : hasS (sh ++ misL sh r ver vals fl k) r ver f = true := by
  obtain ⟨i, hi, rfl⟩ := h f hf
  rw [hasS_app]
  cases e : hasS sh r ver i with
  | true => rfl
  | false =>
    rw [Bool.false_or, hasS_iff]
    exact ⟨_, misL_mem.2 ⟨i, hi, hf, e, rfl⟩, rfl, rfl, rfl⟩
theorem misL_none (h : ∀ f ∈ fl, hasS sh r ver f = true) : ∀ k, misL sh r ver vals fl k = []
  | 0 => rfl
  | k + 1 => by
    rw [misL, misL_none h k, if_neg]
    · rfl
    · rintro ⟨h1, h2⟩; rw [h _ h1] at h2; cases h2
theorem sumCh_perm {l m : List Shw} (h : l.Perm m) : sumCh l = sumCh m := by
  unfold sumCh
  induction h with
  | nil => rfl
  | cons x _ ih => simp only [List.map_cons, List.sum_cons, ih]
  | swap x y l => simp only [List.map_cons, List.sum_cons]; omega
  | trans _ _ h1 h2 => rw [h1, h2]
theorem misL_ok (h1 : refOK r = true) (h2 : verOK ver = true) (h5 : k ≤ 5) (hk : k ≤ vals.length) (h64 : ∀ i (h : i < vals.length), (vals[i]).size ≤ 64) : ∀ x ∈ misL sh r ver vals fl k, shwOK x := fun x hx => by
  obtain ⟨f, hf, _, _, rfl⟩ := misL_mem.1 hx
  have := h64 f (by omega)
  refine ⟨h1, h2, by simp only; omega, by simp only; omega, by simp only; omega, ?_⟩
  simp only
  rw [getD_in (show f < vals.length by omega)]
  omega
end
/-! ### The deciding fields -/
section
variable {pr : Int} {ag df : List Int} {lo hi : Int} {p : Nat} {fl fl' : List Int} {ok ok' : Bool}
theorem FldS.uniq (h : FldS pr ag df lo hi p fl ok) (h' : FldS pr ag df lo hi p fl' ok') : fl = fl' ∧ ok = ok' := by
  rcases h with ⟨g, rfl, rfl⟩ | ⟨g, gs, k, hS, hk, hlt, hc⟩
  · rcases h' with ⟨_, rfl, rfl⟩ | ⟨g', _⟩
    · exact ⟨rfl, rfl⟩
    · exact absurd g' g
  · rcases h' with ⟨g', _⟩ | ⟨_, gs', k', hS', hk', hlt', hc'⟩
    · exact absurd g g'
    · obtain rfl := hS.uniq cmpG_3 (fun _ _ => trivial) hS'
      rcases hc with ⟨a1, a2, rfl, rfl⟩ | ⟨a1, rfl, a3⟩
      · rcases hc' with ⟨b1, b2, rfl, rfl⟩ | ⟨b1, rfl, b3⟩
        · exact ⟨rfl, rfl⟩
        · exfalso
          rcases Nat.lt_or_ge k' k with h | h
          · have := hlt k' h; omega
          · have : k' = k := by omega
            subst this; omega
      · rcases hc' with ⟨b1, b2, rfl, rfl⟩ | ⟨b1, rfl, b3⟩
        · exfalso
          rcases Nat.lt_or_ge k k' with h | h
          · have := hlt' k h; omega
          · have : k = k' := by omega
            subst this; omega
        · have hkk : k = k' := by
            rcases Nat.lt_trichotomy k k' with h | h | h
            · have := hlt' k h; omega
            · exact h
            · have := hlt k' h; omega
          subst hkk
          exact ⟨a3.uniq cmpI_3 (fun _ _ => trivial) b3, rfl⟩
theorem FldS.mem (h : FldS pr ag df lo hi p fl ok) {f : Int} (hf : f ∈ fl) : ∃ i : Nat, i < ag.length ∧ f = i ∧ 0 < ag.getD i 0 - amt ag df p i := by
  rcases h with ⟨_, _, rfl⟩ | ⟨_, gs, k, hS, _, _, ⟨_, _, _, rfl⟩ | ⟨_, _, h3⟩⟩
  · simp at hf
  · simp at hf
  · have h1 := h3.perm.mem_iff.1 hf
    obtain ⟨x, hx, rfl⟩ := List.mem_map.1 h1
    have h2 := hS.perm.mem_iff.1 (List.mem_of_mem_take hx)
    obtain ⟨i, a, rfl, b⟩ := gnL_mem h2
    exact ⟨i, a, rfl, b⟩
theorem FldS.fin (h : FldS pr ag df lo hi p fl ok) {n : Nat} (hn : n = ag.length) : FIn fl n := fun f hf => by
  obtain ⟨i, h1, h2, _⟩ := h.mem hf; exact ⟨i, by omega, h2⟩
theorem FldS.le (h : FldS pr ag df lo hi p fl ok) : fl.length ≤ ag.length := by
  have hg := gnL_len ag df p ag.length
  rcases h with ⟨_, _, rfl⟩ | ⟨_, gs, k, hS, _, _, ⟨_, _, _, rfl⟩ | ⟨_, _, h3⟩⟩
  · simp
  · simp
  · have := h3.len; have := hS.len; simp only [List.length_map, List.length_take] at *; omega
end
/-! ### Asking -/
section
variable {pr : Int} {ag df : List Int} {lo hh : Int} {p : Nat} {bud : Int} {sh : List Shw} {ds : List Dcs} {A B : Couple} {vals1 vals2 : List ByteArray} {ver1 ver2 bud' e : Int} {sh' now : List Shw}
theorem cplOK_ref (h : cplOK A B = true) : refOK A = true ∧ refOK B = true := by
  unfold cplOK at h
  simp only [Bool.and_eq_true] at h
  first | exact ⟨h.1, h.2.1⟩ | exact ⟨h.1.1, h.1.2⟩
theorem AskS.code (h : AskS pr ag df lo hh p bud sh A B vals1 vals2 ver1 ver2 bud' sh' now e) : e = 0 ∨ e = 13 ∨ e = 45 := by
  obtain ⟨fl, ok, _, ⟨_, h⟩ | ⟨_, z1, z2, _, _, ⟨_, h⟩ | ⟨_, h, _⟩⟩⟩ := h
  · exact .inr (.inl h)
  · exact .inr (.inr h)
  · exact .inl h
/-- What holds behind what was asked. -/
theorem AskS.law (hR : ROK bud sh ds) (hAB : cplOK A B = true) (hW : WOK pr ag df) (hQ1 : QOK ag vals1 ver1) (hQ2 : QOK ag vals2 ver2) (hlen : sh.length + 2 * ag.length ≤ 4096)
    (h : AskS pr ag df lo hh p bud sh A B vals1 vals2 ver1 ver2 bud' sh' now 0) :
    ROK bud' sh' ds ∧ sh'.length = sh.length + now.length ∧ now.length ≤ 2 * ag.length ∧ bud' + sumCh sh' = bud + sumCh sh ∧ (∃ fl, FldS pr ag df lo hh p fl true ∧ AllS sh' A B ver1 ver2 fl) ∧ (∀ x ∈ sh, x ∈ sh') ∧ (∀ x ∈ sh', x ∈ sh ∨ (x.r = A ∧ x.ver = ver1) ∨ (x.r = B ∧ x.ver = ver2)) := by
  obtain ⟨fl, ok, hFl, ⟨_, h⟩ | ⟨rfl, z1, z2, hS1, hS2, ⟨_, h⟩ | ⟨hle, _, rfl, rfl, rfl⟩⟩⟩ := h
  · cases h
  · cases h
  have hn1 := hQ1.1; have hn2 := hQ2.1; have hw5 := hW.l5
  have d0 := Dist.of_asc hR.sa
  have d1 : Dist (sh ++ misL sh A ver1 vals1 fl vals1.length) := dist_add d0 _
  have d1' := Dist.of_asc (d1.sts hS1)
  have d2 : Dist (z1 ++ misL z1 B ver2 vals2 fl vals2.length) := dist_add d1' _
  have m1 := misL_len sh A ver1 vals1 fl vals1.length
  have m2 := misL_len z1 B ver2 vals2 fl vals2.length
  have l1 := hS1.len; have l2 := hS2.len
  rw [List.length_append] at l1 l2
  have s1 := sumCh_perm hS1.perm; have s2 := sumCh_perm hS2.perm
  rw [sumCh_app] at s1 s2
  have n1 := (misL_sum (sh := sh) (r := A) (ver := ver1) (fl := fl) hQ1.2.2 vals1.length (Nat.le_refl _)).1
  have n2 := (misL_sum (sh := z1) (r := B) (ver := ver2) (fl := fl) hQ2.2.2 vals2.length (Nat.le_refl _)).1
  have hb0 := hR.b0; have hb1 := hR.b1
  obtain ⟨hA, hB⟩ := cplOK_ref hAB
  have hmem : ∀ x ∈ sh', x ∈ sh ∨ x ∈ misL sh A ver1 vals1 fl vals1.length ∨ x ∈ misL z1 B ver2 vals2 fl vals2.length := fun x hx => by
    rcases List.mem_append.1 (hS2.perm.mem_iff.1 hx) with h | h
    · rcases List.mem_append.1 (hS1.perm.mem_iff.1 h) with h | h
      · exact .inl h
      · exact .inr (.inl h)
    · exact .inr (.inr h)
  refine ⟨⟨by omega, by omega, by omega, hR.ld, fun i hi => ?_, d2.sts hS2, hR.dO, hR.da⟩, by simp only [List.length_append]; omega, by simp only [List.length_append]; omega, by omega, ⟨fl, hFl, fun f hf => ⟨?_, ?_⟩⟩, fun x hx => ?_, fun x hx => ?_⟩
  · rcases hmem _ (List.getElem_mem hi) with h | h | h
    · obtain ⟨k, hk, e⟩ := List.getElem_of_mem h; rw [← e]; exact hR.so k hk
    · exact misL_ok hA hQ1.2.1 (by omega) (Nat.le_refl _) hQ1.2.2 _ h
    · exact misL_ok hB hQ2.2.1 (by omega) (Nat.le_refl _) hQ2.2.2 _ h
  · rw [hasS_perm hS2.perm, hasS_app, hasS_perm hS1.perm, has_add (hFl.fin hn1) hf]; rfl
  · rw [hasS_perm hS2.perm, has_add (hFl.fin hn2) hf]
  · exact hS2.perm.mem_iff.2 (List.mem_append.2 (.inl (hS1.perm.mem_iff.2 (List.mem_append.2 (.inl hx)))))
  · rcases hmem x hx with h | h | h
    · exact .inl h
    · obtain ⟨f, _, _, _, rfl⟩ := misL_mem.1 h; exact .inr (.inl ⟨rfl, rfl⟩)
    · obtain ⟨f, _, _, _, rfl⟩ := misL_mem.1 h; exact .inr (.inr ⟨rfl, rfl⟩)
/-- Asking again what was asked costs nothing. -/
theorem AskS.again {fl : List Int} {bud2 e2 : Int} {sh2 now2 : List Shw} (hF : FldS pr ag df lo hh p fl true) (hA : AllS sh A B ver1 ver2 fl) (hs : ∀ i (h : i + 1 < sh.length), cmpS sh[i] sh[i + 1] < 0) (hb : 0 ≤ bud)
    (h : AskS pr ag df lo hh p bud sh A B vals1 vals2 ver1 ver2 bud2 sh2 now2 e2) : e2 = 0 ∧ bud2 = bud ∧ sh2 = sh ∧ now2 = [] := by
  obtain ⟨fl', ok, hF', h⟩ := h
  obtain ⟨rfl, rfl⟩ := hF.uniq hF'
  have e1 : misL sh A ver1 vals1 fl vals1.length = [] := misL_none (fun f hf => (hA f hf).1) _
  obtain ⟨h, _⟩ | ⟨_, z1, z2, hS1, hS2, h⟩ := h
  · cases h
  rw [e1, List.append_nil] at hS1
  have := sts_self hs hS1
  subst this
  have e2 : misL z1 B ver2 vals2 fl vals2.length = [] := misL_none (fun f hf => (hA f hf).2) _
  rw [e2, List.append_nil] at hS2
  have := sts_self hs hS2
  subst this
  rw [e1, e2] at h
  obtain ⟨h, _⟩ | ⟨_, rfl, rfl, rfl, rfl⟩ := h
  · simp [sumCh] at h; omega
  · refine ⟨rfl, ?_, rfl, rfl⟩
    simp [sumCh]
end
end Go.K

/- 'slices.SortFunc' on an own list. -/
set_option linter.unusedVariables false
set_option linter.unusedSimpArgs false
set_option linter.unusedSectionVars false
namespace Go.K
open Rep Go.Proofs Go.Shelf Go.Sort

theorem ext_grow {W w' : World} (h : Ext (fun _ => False) W w') : ∃ q os', w' = grow (W.drewN q) os' := by
  refine ⟨w'.drawn - W.drawn, w'.heap.extract W.heap.size w'.heap.size, ?_⟩
  obtain ⟨h1, h2, h3, h4, h5, h6⟩ := h
  obtain ⟨hp, tp, dr, os, out⟩ := w'
  simp only at h1 h2 h3 h4 h5 h6
  unfold Dr at h6
  simp only at h6
  subst h1 h2 h3
  simp only [grow, World.drewN, World.mk.injEq, and_true, true_and]
  refine ⟨?_, by omega⟩
  apply Array.ext_getElem?
  intro b
  rw [Array.getElem?_append]
  split
  · rename_i hb; exact h5 b hb (fun h => h)
  · rename_i hb
    rw [Array.getElem?_extract]
    simp only [Nat.min_self]
    split
    · congr 1; omega
    · rw [Array.getElem?_eq_none (by omega)]

section
variable {P : Program} {ρ : Ren} {α : Type} [Inhabited α] [Rep α] {enc : α → List Value} {cf : α → α → Int} {w : World} {C : Nat → Nat} {j g0 : Nat} {e : TypeId} {v : Value} {ys : List α}
/-- The order of the sort. -/
def leOf (cf : α → α → Int) : α → α → Bool := fun x y => !(ltOf cf) y x

theorem putCells_get {F cs : Array Value} (h : F.size ≤ cs.size) (t : Nat) : (putCells id 0 F cs)[t]? = if t < F.size then F[t]? else cs[t]? := by
  unfold putCells
  rw [Array.getElem?_mapIdx]
  by_cases ht : t < cs.size
  · rw [Array.getElem?_eq_getElem ht]
    simp only [Option.map_some, Nat.zero_le, true_and, Nat.zero_add, Nat.sub_zero, id]
    split
    · rename_i h1; rw [Array.getElem?_eq_getElem h1, getElem!_pos F t h1]
    · rfl
  · rw [Array.getElem?_eq_none (by omega), if_neg (by omega)]; rfl
theorem flatK_get {k : Nat} (hk : ∀ x, (enc x).length = k) (d : Array α) {i r : Nat} (hi : i < d.size) (hr : r < k) : (flatK enc k d)[i * k + r]? = (enc d[i])[r]? := by
  have hlt : i * k + r < d.size * k := by
    have := Nat.mul_le_mul_right k (show i + 1 ≤ d.size from hi)
    rw [Nat.succ_mul] at this; omega
  have hdiv : (i * k + r) / k = i := by rw [Nat.mul_comm, Nat.mul_add_div (by omega), Nat.div_eq_of_lt hr]; rfl
  have hmod : (i * k + r) % k = r := by rw [Nat.mul_comm, Nat.mul_add_mod, Nat.mod_eq_of_lt hr]
  have h := get_flatK enc k d (i * k + r) hlt
  rw [hdiv, hmod, getElem!_pos d i hi, getElem!_pos (flatK enc k d) _ (by rw [size_flatK]; exact hlt), getElem!_pos (enc d[i]) r (by rw [hk]; exact hr)] at h
  rw [Array.getElem?_eq_getElem (by rw [size_flatK]; exact hlt), h, List.getElem?_eq_getElem]

/-- An own list is sorted. -/
theorem sort_own (L : SlLaysF0.n6 P ρ) (aE : ∀ w, (isAgg (ρ.t 24)).run P w = .ok true w) (zE : ∀ w, (Go.sizeOf (ρ.t 24)).run P w = .ok (sz α) w)
    (henc : ∀ h M x vs, rep h M x vs ↔ vs = enc x) (hk : ∀ x : α, (enc x).length = sz α) (h0 : 0 < sz α) (h1 : ∀ x, ∀ u ∈ enc x, u.oneCell' = true) (hO : SWO (ltOf cf)) (hT : ∀ x y, (ltOf cf) x y = false → (ltOf cf) y x = false → x = y)
    (eg : ∀ args w, (callFunc g0 args).run P w = .ok (.enter g0 args) w)
    (hcmp : ∀ W x y, Calls P g0 #[.agg (enc x).toArray, .agg (enc y).toArray] W (Ret fun u w' => u = .int .i64 (cf x y) ∧ Ext (fun _ => False) W w'))
    (hF : Lim w C) (ho : OwnL w C j e v ys) (hlen : ys.length ≤ 140737488355328) :
    Calls P (ρ.f 6) #[v, .func (.func g0) #[] #[]] w (Ret fun u w' => u = .tuple #[] ∧ Stp [j] w C w' C ∧ OwnL w' C j e v (ys.mergeSort (leOf cf)) ∧ Lim w' C) := by
  obtain ⟨hown, hcol⟩ := ho
  rcases hown with ⟨rfl, rfl⟩ | ⟨g, cap, cs, rfl, hg, hc, hcap, h2, h3⟩
  · refine (AnyF.slices_SortFunc_none (P := P) (ρ := ρ) { L with } none 0 (.func (.func g0) #[] #[]) w).mono ?_
    rintro e' w' ⟨rfl, rfl⟩
    exact ⟨_, rfl, rfl, Stp.refl _ _ _, by simpa using (OwnL.nil (α := α)), hF⟩
  · have hcell : ∀ i (hi : i < ys.length) r, r < sz α → cs[i * sz α + r]? = (enc ys[i])[r]? := fun i hi r hr => by
      have h := (henc _ _ _ _).1 (h3 i hi)
      have := congrArg (fun l => l[r]?) h
      simp only [cellsAt, List.getElem?_take, if_pos hr, List.getElem?_drop, Array.getElem?_toList] at this
      exact this
    have hH : HoldsK enc (sz α) w g 0 ys.toArray := fun t ht => by
      rw [size_flatK] at ht
      simp only [List.size_toArray] at ht
      have hi : t / sz α < ys.length := Nat.div_lt_of_lt_mul (by rwa [Nat.mul_comm] at ht)
      have hr := Nat.mod_lt t h0
      have hsum : t / sz α * sz α + t % sz α = t := by rw [Nat.mul_comm]; exact Nat.div_add_mod t (sz α)
      have h5 := hcell _ hi _ hr
      have h6 := flatK_get hk ys.toArray (i := t / sz α) (r := t % sz α) (by simpa using hi) hr
      rw [hsum] at h5 h6
      refine ⟨?_, ?_⟩
      · rw [cell_of_row w g (0 + t) cs e (0, 0) hc, Nat.zero_add, h5]
        simp only [List.getElem_toArray] at h6
        rw [← h6, id]
        rw [getElem!_pos _ t (by rw [size_flatK]; simpa using ht), Array.getElem?_eq_getElem]
      · simp [World.frozen?, hc]
    have hlays : CmpLays P g0 #[] enc (sz α) cf g 0 ys.toArray.size w := fun m os dk hd x y => by
      have h := hcmp (sortWorldK enc (sz α) w g 0 m dk os) x y
      rw [Array.append_empty]
      refine h.mono ?_
      rintro e' w' ⟨u, rfl, rfl, hx⟩
      exact ⟨rfl, ext_grow hx⟩
    have hsort := AnyQ.slices_SortFunc_total L (sz α) aE zE enc hk h1 cf hO g0 #[] g 0 cap ys.toArray w eg hlays hH (lt_of_at hc) (by simp; omega) hT
    refine hsort.mono ?_
    rintro e' w' ⟨rfl, n, os, hw⟩
    have hperm := List.mergeSort_perm ys (leOf cf)
    have hl := hperm.length_eq
    have hle : (flatK enc (sz α) (ys.mergeSort (leOf cf)).toArray).size ≤ cs.size := by
      rw [size_flatK, h2]; simp only [List.size_toArray, hl]; exact Nat.mul_le_mul_right _ hcap
    have hat : w'.heap[g]? = some (.cells (putCells id 0 (flatK enc (sz α) (ys.mergeSort (leOf cf)).toArray) cs) e (0, 0)) := by
      rw [hw]
      show (grow (putRow id (Sort.ahead w n) g 0 (flatK enc (sz α) (ys.mergeSort (leOf cf)).toArray)) os).heap[g]? = _
      simp only [grow, putRow, mapBlock, Sort.ahead]
      rw [Array.getElem?_append_left (by simpa using lt_of_at hc), Array.getElem?_modify, if_pos rfl, hc]
      rfl
    have hstp : Stp [j] w C w' C := ⟨⟨by rw [hw]; rfl, by rw [hw]; rfl, by rw [hw]; rfl, by
        rw [hw]
        show w.heap.size ≤ (grow (putRow id (Sort.ahead w n) g 0 _) os).heap.size
        simp [grow, putRow, mapBlock, Sort.ahead], fun b hb hn => by
        have hbg : g ≠ b := fun e => hn (by rw [← e, hcol g rfl]; simp)
        rw [hw]
        show (grow (putRow id (Sort.ahead w n) g 0 _) os).heap[b]? = _
        simp only [grow, putRow, mapBlock, Sort.ahead]
        rw [Array.getElem?_append_left (by simpa using hb), Array.getElem?_modify, if_neg hbg], by
        rw [hw]
        unfold Dr
        exact Nat.le_add_right _ _⟩, fun _ _ => rfl⟩
    refine ⟨_, rfl, rfl, hstp, ⟨.inr ⟨g, cap, _, by rw [hl], hg, hat, by rw [hl]; exact hcap, ?_, ?_⟩, hcol⟩, hF.st hstp⟩
    · simp only [putCells, Array.size_mapIdx]; exact h2
    · intro i hi
      refine (henc _ _ _ _).2 ?_
      apply List.ext_getElem?
      intro r
      simp only [cellsAt, List.getElem?_take, List.getElem?_drop, Array.getElem?_toList]
      split
      · rename_i hr
        have hlt : i * sz α + r < (flatK enc (sz α) (ys.mergeSort (leOf cf)).toArray).size := by
          rw [size_flatK]; simp only [List.size_toArray]
          have := Nat.mul_le_mul_right (sz α) (show i + 1 ≤ _ from hi)
          rw [Nat.succ_mul] at this; omega
        rw [putCells_get hle, if_pos hlt, flatK_get hk _ (by simpa using hi) hr]
        simp
      · rename_i hr
        rw [List.getElem?_eq_none (by rw [hk]; omega)]
end
end Go.K

/- The deciding fields are the fewest; a higher threshold takes at least as many. Plain. -/
set_option linter.unusedVariables false
set_option linter.unusedSimpArgs false
namespace Go.K
open Rep
section
variable {pr : Int} {ag df : List Int} {lo hi hi' : Int} {p : Nat} {fl fl' : List Int} {ok : Bool}
theorem FldS.dg (h : FldS pr ag df lo hi p fl ok) {i : Nat} (hf : (i : Int) ∈ fl) : dg p i ≠ 2 := fun e => by
  obtain ⟨k, h1, h2, h3⟩ := h.mem hf
  obtain rfl : i = k := by omega
  unfold amt cntL at h3
  rw [e] at h3
  simp at h3
end
/-! ### All sets of fields -/
def gnv (ag df : List Int) (p i : Nat) : Int := ag.getD i 0 - amt ag df p i
section
variable {ag df : List Int} {p n k st : Nat} {s t hi : Int} {gs l m : List Couple}
theorem gnL_asc : ∀ n, (gnL ag df p n).Pairwise fun x y => x.a < y.a
  | 0 => by simp [gnL]
  | n + 1 => by
    rw [gnL]
    refine List.pairwise_append.2 ⟨gnL_asc n, ?_, fun x hx y hy => ?_⟩
    · split <;> simp
    · split at hy
      · rw [List.mem_singleton] at hy; subst hy
        obtain ⟨i, hi, rfl, _⟩ := gnL_mem hx
        simp only; omega
      · simp at hy
theorem gs_nodup (h : StS cmpG (gnL ag df p n) gs) : (gs.map (·.a)).Nodup := by
  have h1 : ((gnL ag df p n).map (·.a)).Nodup := by
    rw [List.nodup_iff_pairwise_ne, List.pairwise_map]
    exact (gnL_asc n).imp (fun h => by omega)
  exact ((h.perm.map (·.a)).nodup_iff).2 h1
end
section
variable {pr : Int} {ag df : List Int} {lo hi : Int} {p n : Nat} {fl : List Int} {ok : Bool} {s : Int}
end
section
variable {pr : Int} {ag df : List Int} {lo hi : Int} {p n : Nat} {fl : List Int} {s : Int}
end
end Go.K

/- A list can be sorted stably; taking the greatest gain again and again takes the first of the sorted gains. Plain. -/
set_option linter.unusedVariables false
set_option linter.unusedSimpArgs false
namespace Go.K
open Rep
section
variable {α : Type} {c : α → α → Int}
theorem StS.of_fin {ys : List α} {L : List (Fin ys.length)} (hperm : L.Perm (List.finRange ys.length)) (hpw : L.Pairwise fun i j => ordT c ys i.val j.val) : StS c ys (L.map fun i => ys[i.val]) := by
  have hlen : L.length = ys.length := by rw [hperm.length_eq, List.length_finRange]
  have hnd : L.Nodup := hperm.nodup_iff.2 (List.nodup_finRange _)
  refine ⟨fun i => if h : i < L.length then L[i].val else i, ⟨by rw [List.length_map, hlen], fun i hi => ?_⟩, ⟨fun i hi => ?_, fun i h1 h2 => ?_, fun i j e => ?_⟩, fun i j h1 h2 h3 => ?_⟩
  · have hi2 : i < L.length := by omega
    rw [dif_pos hi2]
    refine ⟨L[i].isLt, ?_⟩
    rw [List.getElem?_map, List.getElem?_eq_getElem hi2, List.getElem?_eq_getElem L[i].isLt]
    rfl
  · rw [dif_neg (by omega)]
  · rw [dif_pos (show i < L.length by omega)]
    exact ⟨Nat.zero_le _, L[i].isLt⟩
  · by_cases hi : i < L.length
    · by_cases hj : j < L.length
      · simp only [dif_pos hi, dif_pos hj] at e
        rcases Nat.lt_trichotomy i j with h | h | h
        · exact absurd (Fin.ext e) (List.pairwise_iff_getElem.1 (List.nodup_iff_pairwise_ne.1 hnd) i j hi hj h)
        · exact h
        · exact absurd (Fin.ext e.symm) (List.pairwise_iff_getElem.1 (List.nodup_iff_pairwise_ne.1 hnd) j i hj hi h)
      · simp only [dif_pos hi, dif_neg hj] at e
        have := L[i].isLt; omega
    · by_cases hj : j < L.length
      · simp only [dif_neg hi, dif_pos hj] at e
        have := L[j].isLt; omega
      · simp only [dif_neg hi, dif_neg hj] at e; exact e
  · simp only [dif_pos (show i < L.length by omega), dif_pos (show j < L.length by omega)]
    exact List.pairwise_iff_getElem.1 hpw i j (by omega) (by omega) h2
theorem StS.ex (hc : Cmp3 c (fun _ => True)) (ys : List α) : ∃ zs, StS c ys zs := by
  classical
  have hP : ∀ x ∈ ys, (fun _ : α => True) x := fun _ _ => trivial
  obtain ⟨L, hL⟩ : ∃ L, L = (List.finRange ys.length).mergeSort (fun i j => decide (¬ ordT c ys j.val i.val)) := ⟨_, rfl⟩
  have hperm : L.Perm (List.finRange ys.length) := by rw [hL]; exact List.mergeSort_perm _ _
  have hnd : L.Nodup := hperm.nodup_iff.2 (List.nodup_finRange _)
  have hpw : L.Pairwise fun i j => ordT c ys i.val j.val := by
    have h1 : L.Pairwise fun i j => (decide (¬ ordT c ys j.val i.val)) = true := by
      rw [hL]
      refine List.pairwise_mergeSort (fun i j k h1 h2 => ?_) (fun i j => ?_) _
      · simp only [decide_eq_true_eq] at *
        intro h3
        by_cases e1 : i = j
        · subst e1; exact h2 h3
        · have h4 := (ordT_total hc hP i.isLt j.isLt (fun e => e1 (Fin.ext e))).resolve_right h1
          exact h2 (ordT_trans hc hP h3 h4)
      · simp only [Bool.or_eq_true, decide_eq_true_eq]
        by_cases h : ordT c ys j.val i.val
        · exact .inr (fun h' => ordT_asym hc hP h h')
        · exact .inl h
    refine (h1.and (List.nodup_iff_pairwise_ne.1 hnd)).imp fun {i j} ⟨h2, h3⟩ => ?_
    simp only [decide_eq_true_eq] at h2
    exact (ordT_total hc hP i.isLt j.isLt (fun e => h3 (Fin.ext e))).resolve_right h2
  exact ⟨_, StS.of_fin hperm hpw⟩
end
section
variable {ag df : List Int} {p n : Nat} {gs : List Couple}
theorem gs_ord (h : StS cmpG (gnL ag df p n) gs) {i j : Nat} (hij : i < j) (hj : j < gs.length) : gs[j].b < (gs[i]'(by omega)).b ∨ (gs[j].b = (gs[i]'(by omega)).b ∧ (gs[i]'(by omega)).a < gs[j].a) := by
  obtain ⟨σ, h1, h2, h3⟩ := h
  have hl := h1.len
  obtain ⟨a, b, h4⟩ := h3 i j (by omega) hij (by omega)
  rw [h1.get (show i < (gnL ag df p n).length by omega), h1.get (show j < (gnL ag df p n).length by omega)]
  have hpw := gnL_asc (ag := ag) (df := df) (p := p) n
  unfold cmpG at h4
  have e1 := @cmpI_lt ((gnL ag df p n)[σ j]).b ((gnL ag df p n)[σ i]).b
  have e2 := @cmpI_z ((gnL ag df p n)[σ j]).b ((gnL ag df p n)[σ i]).b
  rcases h4 with h4 | ⟨h4, h5⟩
  · exact .inl (e1.1 h4)
  · exact .inr ⟨e2.1 h4, List.pairwise_iff_getElem.1 hpw (σ i) (σ j) a b h5⟩
/-- Those that are taken after k rounds. -/
def tkn (gs : List Couple) (k i : Nat) : Bool := decide ((i : Int) ∈ (gs.take k).map (·.a))
/-- The best of those before i that are not taken, or none. -/
structure Best (ag df : List Int) (p : Nat) (gs : List Couple) (k i : Nat) (b : Int) : Prop where
  none_ : b < 0 → b = -1 ∧ ∀ q, q < i → tkn gs k q = true ∨ gnv ag df p q ≤ 0
  some_ : 0 ≤ b → b.toNat < i ∧ tkn gs k b.toNat = false ∧ 0 < gnv ag df p b.toNat ∧ ∀ q, q < i → tkn gs k q = true ∨ gnv ag df p q ≤ 0 ∨ gnv ag df p q < gnv ag df p b.toNat ∨ (gnv ag df p q = gnv ag df p b.toNat ∧ b.toNat ≤ q)
theorem Best.start {k : Nat} : Best ag df p gs k 0 (-1) := ⟨fun _ => ⟨rfl, fun q h => by omega⟩, fun h => by omega⟩
theorem Best.take {k i : Nat} {b : Int} (h : Best ag df p gs k i b) (h1 : tkn gs k i = false) (h2 : 0 < gnv ag df p i) (h3 : b < 0 ∨ gnv ag df p b.toNat < gnv ag df p i) : Best ag df p gs k (i + 1) i := by
  refine ⟨fun e => by omega, fun _ => ?_⟩
  rw [Int.toNat_natCast]
  refine ⟨by omega, h1, h2, fun q hq => ?_⟩
  by_cases e : q = i
  · subst e; exact .inr (.inr (.inr ⟨rfl, Nat.le_refl _⟩))
  · by_cases hb : b < 0
    · rcases (h.none_ hb).2 q (by omega) with h4 | h4
      · exact .inl h4
      · exact .inr (.inl h4)
    · have h3 := h3.resolve_left hb
      rcases (h.some_ (by omega)).2.2.2 q (by omega) with h4 | h4 | h4 | ⟨h4, _⟩
      · exact .inl h4
      · exact .inr (.inl h4)
      · exact .inr (.inr (.inl (by omega)))
      · exact .inr (.inr (.inl (by omega)))
theorem Best.skip {k i : Nat} {b : Int} (h : Best ag df p gs k i b) (h1 : tkn gs k i = true ∨ gnv ag df p i ≤ 0 ∨ (0 ≤ b ∧ gnv ag df p i ≤ gnv ag df p b.toNat)) : Best ag df p gs k (i + 1) b := by
  refine ⟨fun e => ⟨(h.none_ e).1, fun q hq => ?_⟩, fun e => ?_⟩
  · by_cases eq : q = i
    · subst eq
      rcases h1 with h1 | h1 | h1
      · exact .inl h1
      · exact .inr h1
      · omega
    · exact (h.none_ e).2 q (by omega)
  · obtain ⟨a1, a2, a3, a4⟩ := h.some_ e
    refine ⟨by omega, a2, a3, fun q hq => ?_⟩
    by_cases eq : q = i
    · subst eq
      rcases h1 with h1 | h1 | ⟨_, h1⟩
      · exact .inl h1
      · exact .inr (.inl h1)
      · by_cases e3 : gnv ag df p q < gnv ag df p b.toNat
        · exact .inr (.inr (.inl e3))
        · exact .inr (.inr (.inr ⟨by omega, by omega⟩))
    · exact a4 q (by omega)
theorem gs_mem (h : StS cmpG (gnL ag df p n) gs) {i : Nat} : (⟨(i : Int), gnv ag df p i⟩ : Couple) ∈ gs ↔ i < n ∧ 0 < gnv ag df p i := by
  rw [h.perm.mem_iff]
  have key : ∀ n, (⟨(i : Int), gnv ag df p i⟩ : Couple) ∈ gnL ag df p n ↔ i < n ∧ 0 < gnv ag df p i := by
    intro n
    induction n with
    | zero => simp [gnL]
    | succ n ih =>
      rw [gnL, List.mem_append, ih]
      by_cases e : i = n
      · subst e
        unfold gnv
        split
        · rename_i hp; exact ⟨fun _ => ⟨by omega, hp⟩, fun _ => .inr (List.mem_singleton.2 rfl)⟩
        · rename_i hp; exact ⟨fun h => by (rcases h with h | h); omega; simp at h, fun h => by omega⟩
      · constructor
        · rintro (h1 | h1)
          · exact ⟨by omega, h1.2⟩
          · split at h1
            · rw [List.mem_singleton] at h1; injection h1 with h2 _; omega
            · simp at h1
        · rintro ⟨h1, h2⟩; exact .inl ⟨by omega, h2⟩
  exact key n
theorem gs_at (h : StS cmpG (gnL ag df p n) gs) {j : Nat} (hj : j < gs.length) : ∃ i : Nat, i < n ∧ gs[j] = ⟨(i : Int), gnv ag df p i⟩ ∧ 0 < gnv ag df p i := by
  obtain ⟨i, h1, h2, h3⟩ := gnL_mem (h.perm.mem_iff.1 (List.getElem_mem hj))
  exact ⟨i, h1, h2, h3⟩
theorem tkn_at {k i : Nat} (hk : k ≤ gs.length) : tkn gs k i = true ↔ ∃ j, ∃ h : j < k, (gs[j]'(by omega)).a = i := by
  unfold tkn
  rw [decide_eq_true_eq, List.mem_map]
  constructor
  · rintro ⟨x, hx, e⟩
    obtain ⟨j, hj, rfl⟩ := List.getElem_of_mem hx
    rw [List.length_take] at hj
    exact ⟨j, by omega, by rw [← e, List.getElem_take]⟩
  · rintro ⟨j, hj, e⟩
    refine ⟨gs[j]'(by omega), ?_, e⟩
    rw [List.mem_take_iff_getElem]
    exact ⟨j, by omega, rfl⟩
theorem tkn_next (h : StS cmpG (gnL ag df p n) gs) {k j : Nat} (hk : k ≤ j) (hj : j < gs.length) {i : Nat} (e : gs[j].a = i) : tkn gs k i = false := by
  rw [Bool.eq_false_iff]
  intro ht
  obtain ⟨q, hq, e2⟩ := (tkn_at (by omega)).1 ht
  have hnd := gs_nodup h
  have := List.pairwise_iff_getElem.1 (List.nodup_iff_pairwise_ne.1 hnd) q j (by rw [List.length_map]; omega) (by rw [List.length_map]; omega) (by omega)
  rw [List.getElem_map, List.getElem_map] at this
  exact this (by rw [e, e2])
/-- The best is the next of the sorted gains. -/
theorem Best.fin (h : StS cmpG (gnL ag df p n) gs) {k : Nat} (hk : k ≤ gs.length) {b : Int} (hb : Best ag df p gs k n b) (h0 : 0 ≤ b) : ∃ hk' : k < gs.length, gs[k] = ⟨b, gnv ag df p b.toNat⟩ := by
  obtain ⟨a1, a2, a3, a4⟩ := hb.some_ h0
  obtain ⟨m, rfl⟩ : ∃ m : Nat, b = m := ⟨b.toNat, by omega⟩
  rw [Int.toNat_natCast] at *
  obtain ⟨j, hj, ej⟩ := List.getElem_of_mem ((gs_mem h).2 ⟨a1, a3⟩)
  have hkj : k ≤ j := by
    apply Classical.byContradiction
    intro hn
    have := (tkn_at hk).2 ⟨j, by omega, by rw [ej]⟩
    rw [this] at a2; cases a2
  refine ⟨by omega, ?_⟩
  by_cases e : k = j
  · subst e; exact ej
  · exfalso
    obtain ⟨i, h1, h2, h3⟩ := gs_at h (show k < gs.length by omega)
    have ho := gs_ord h (show k < j by omega) hj
    rw [h2, ej] at ho
    simp only at ho
    rcases a4 i h1 with h4 | h4 | h4 | ⟨h4, h5⟩
    · rw [tkn_next h (Nat.le_refl k) (by omega) (by rw [h2])] at h4; cases h4
    · omega
    · omega
    · omega
end
end Go.K

/- 'slices.SortFunc' on an own list of which no two elements are equal by the comparison. -/
set_option linter.unusedVariables false
set_option linter.unusedSimpArgs false
set_option linter.unusedSectionVars false
namespace Go.K
open Rep Go.Proofs Go.Shelf Go.Sort
/-- Positions, read as the elements that stand there. -/
@[reducible] def repAt {β : Type} [Rep β] (ys : List β) (enc : β → List Value) (hk : ∀ x, (enc x).length = sz β) (h1 : ∀ x, ∀ u ∈ enc x, u.oneCell' = true) : Rep (Fin ys.length) where
  sz := sz β
  agg := true
  flat h := by cases h
  rep _ _ i vs := vs = enc ys[i.val]
  len h := by subst h; exact hk _
  one h := by subst h; exact h1 _
  keep h _ := h
  sub h _ := h
section
variable {P : Program} {ρ : Ren} {β : Type} [Rep β] {enc : β → List Value} {cf : β → β → Int} {w : World} {C : Nat → Nat} {j g0 : Nat} {e : TypeId} {v : Value} {ys : List β}
theorem own_at (hk : ∀ x, (enc x).length = sz β) (h1 : ∀ x, ∀ u ∈ enc x, u.oneCell' = true) (henc : ∀ h M x vs, rep (α := β) h M x vs ↔ vs = enc x) (h : OwnL w C j e v ys) : @OwnL _ (repAt ys enc hk h1) w C j e v (List.finRange ys.length) := by
  letI : Rep (Fin ys.length) := repAt ys enc hk h1
  obtain ⟨hown, hcol⟩ := h
  refine ⟨?_, hcol⟩
  rcases hown with ⟨hv, hy⟩ | ⟨g, cap, cs, hv, hg, hc, hcap, h2, h3⟩
  · left; refine ⟨hv, ?_⟩; rw [hy]; rfl
  · refine .inr ⟨g, cap, cs, by rw [List.length_finRange]; exact hv, hg, hc, by rw [List.length_finRange]; exact hcap, h2, fun i hi => ?_⟩
    have hi2 : i < ys.length := by rwa [List.length_finRange] at hi
    have := (henc _ _ _ _).1 (h3 i hi2)
    show cellsAt cs (i * sz β) (sz β) = enc _
    rw [this]
    congr 1
    simp
theorem own_of (hk : ∀ x, (enc x).length = sz β) (h1 : ∀ x, ∀ u ∈ enc x, u.oneCell' = true) (henc : ∀ h M x vs, rep (α := β) h M x vs ↔ vs = enc x) {L : List (Fin ys.length)} (h : @OwnL _ (repAt ys enc hk h1) w C j e v L) : OwnL w C j e v (L.map fun i => ys[i.val]) := by
  letI : Rep (Fin ys.length) := repAt ys enc hk h1
  obtain ⟨hown, hcol⟩ := h
  refine ⟨?_, hcol⟩
  rcases hown with ⟨hv, hy⟩ | ⟨g, cap, cs, hv, hg, hc, hcap, h2, h3⟩
  · left; exact ⟨hv, by rw [hy]; rfl⟩
  · refine .inr ⟨g, cap, cs, by rw [List.length_map]; exact hv, hg, hc, by rw [List.length_map]; exact hcap, h2, fun i hi => ?_⟩
    have hi2 : i < L.length := by rwa [List.length_map] at hi
    have := h3 i hi2
    refine (henc _ _ _ _).2 ?_
    rw [List.getElem_map]
    exact this
theorem sort_dist (L : SlLaysF0.n6 P ρ) (aE : ∀ w, (isAgg (ρ.t 24)).run P w = .ok true w) (zE : ∀ w, (Go.sizeOf (ρ.t 24)).run P w = .ok (sz β) w)
    (henc : ∀ h M x vs, rep (α := β) h M x vs ↔ vs = enc x) (hk : ∀ x : β, (enc x).length = sz β) (h0 : 0 < sz β) (h1 : ∀ x, ∀ u ∈ enc x, u.oneCell' = true)
    (hc3 : Cmp3 cf (fun _ => True)) (hd : ∀ i k (hi : i < ys.length) (hk : k < ys.length), i ≠ k → cf ys[i] ys[k] ≠ 0)
    (eg : ∀ args w, (callFunc g0 args).run P w = .ok (.enter g0 args) w)
    (hcmp : ∀ W x y, Calls P g0 #[.agg (enc x).toArray, .agg (enc y).toArray] W (Ret fun u w' => u = .int .i64 (cf x y) ∧ Ext (fun _ => False) W w'))
    (hF : Lim w C) (ho : OwnL w C j e v ys) (hlen : ys.length ≤ 140737488355328) :
    Calls P (ρ.f 6) #[v, .func (.func g0) #[] #[]] w (Ret fun u w' => u = .tuple #[] ∧ ∃ zs, StS cf ys zs ∧ Stp [j] w C w' C ∧ OwnL w' C j e v zs ∧ Lim w' C) := by
  by_cases hne : ys = []
  · subst hne
    obtain ⟨hown, hcol⟩ := ho
    have hst : StS cf ([] : List β) [] := StS.self fun i j hij hj => by simp at hj
    rcases hown with ⟨rfl, _⟩ | ⟨g, cap, cs, rfl, hg, hc, hcap, h2, h3⟩
    · refine (AnyF.slices_SortFunc_none (P := P) (ρ := ρ) { L with } none 0 (.func (.func g0) #[] #[]) w).mono ?_
      rintro e' w' ⟨rfl, rfl⟩
      exact ⟨_, rfl, rfl, [], hst, Stp.refl _ _ _, OwnL.nil, hF⟩
    · refine (AnyF.slices_SortFunc_none (P := P) (ρ := ρ) { L with } (some ⟨g, 0, none⟩) cap (.func (.func g0) #[] #[]) w).mono ?_
      rintro e' w' ⟨rfl, rfl⟩
      exact ⟨_, rfl, rfl, [], hst, Stp.refl _ _ _, ⟨.inr ⟨g, cap, cs, rfl, hg, hc, hcap, h2, h3⟩, hcol⟩, hF⟩
  have hpos : 0 < ys.length := List.length_pos_iff.2 hne
  letI : Rep (Fin ys.length) := repAt ys enc hk h1
  haveI : Inhabited (Fin ys.length) := ⟨⟨0, hpos⟩⟩
  obtain ⟨cf', hcf'⟩ : ∃ cf' : Fin ys.length → Fin ys.length → Int, cf' = fun i k => cf ys[i.val] ys[k.val] := ⟨_, rfl⟩
  have hlt : ∀ i k : Fin ys.length, (ltOf cf') i k = decide (cf ys[i.val] ys[k.val] < 0) := fun i k => by unfold ltOf; rw [hcf']
  have anti : ∀ x y : β, cf x y < 0 ↔ 0 < cf y x := fun x y => hc3.anti x y trivial trivial
  have refl0 : ∀ x : β, cf x x = 0 := fun x => by have := anti x x; omega
  have hO : SWO (ltOf cf') := ⟨fun x => by rw [hlt, refl0]; rfl, fun x y z h h' => by
      rw [hlt] at *; simp only [decide_eq_true_eq] at *
      exact hc3.lt_le trivial trivial trivial h (by omega), fun x y z h h' => by
      rw [hlt] at *; simp only [decide_eq_false_iff_not] at *
      have a := anti ys[x.val] ys[y.val]; have a2 := anti ys[y.val] ys[x.val]; have b := anti ys[y.val] ys[z.val]; have b2 := anti ys[z.val] ys[y.val]
      have c := hc3.trans ys[z.val] ys[y.val] ys[x.val] trivial trivial trivial (by omega) (by omega)
      have d := anti ys[x.val] ys[z.val]
      omega⟩
  have hT : ∀ x y, (ltOf cf') x y = false → (ltOf cf') y x = false → x = y := fun x y h h' => by
    rw [hlt] at h h'; simp only [decide_eq_false_iff_not] at h h'
    apply Classical.byContradiction
    intro hxy
    have h2 := hd x.val y.val x.isLt y.isLt (fun e => hxy (Fin.ext e))
    have := anti ys[y.val] ys[x.val]
    omega
  have key := sort_own (P := P) (ρ := ρ) (α := Fin ys.length) (enc := fun i => enc ys[i.val]) (cf := cf') L aE zE (fun h M x vs => Iff.rfl) (fun x => hk _) h0 (fun x => h1 _) hO hT eg (fun W x y => by rw [hcf']; exact hcmp W _ _) hF (own_at hk h1 henc ho) (by rw [List.length_finRange]; exact hlen)
  refine key.mono (Ret.mono ?_)
  rintro u w' ⟨rfl, hs, ho', hF'⟩
  refine ⟨rfl, _, StS.of_fin (List.mergeSort_perm _ _) ?_, hs, own_of hk h1 henc ho', hF'⟩
  have hpw : ((List.finRange ys.length).mergeSort (leOf cf')).Pairwise fun a b => leOf cf' a b = true := by
    refine List.pairwise_mergeSort (fun i k l h h' => ?_) (fun i k => ?_) _
    · unfold leOf at *
      rw [hlt] at *
      simp only [Bool.not_eq_true', decide_eq_false_iff_not] at *
      have a := anti ys[k.val] ys[i.val]; have a2 := anti ys[i.val] ys[k.val]; have b := anti ys[l.val] ys[k.val]; have b2 := anti ys[k.val] ys[l.val]
      have c := hc3.trans ys[i.val] ys[k.val] ys[l.val] trivial trivial trivial (by omega) (by omega)
      have d := anti ys[l.val] ys[i.val]
      omega
    · unfold leOf
      rw [hlt, hlt]
      simp only [Bool.or_eq_true, Bool.not_eq_true', decide_eq_false_iff_not]
      have a := anti ys[k.val] ys[i.val]; have a2 := anti ys[i.val] ys[k.val]
      omega
  have hnd : ((List.finRange ys.length).mergeSort (leOf cf')).Nodup := (List.mergeSort_perm _ _).nodup_iff.2 (List.nodup_finRange _)
  refine (hpw.and (List.nodup_iff_pairwise_ne.1 hnd)).imp fun {i k} ⟨h, hne⟩ => ⟨i.isLt, k.isLt, .inl ?_⟩
  unfold leOf at h
  rw [hlt] at h
  simp only [Bool.not_eq_true', decide_eq_false_iff_not] at h
  have h2 := hd i.val k.val i.isLt k.isLt (fun e => hne (Fin.ext e))
  have a := anti ys[k.val] ys[i.val]; have a2 := anti ys[i.val] ys[k.val]
  omega
end
end Go.K

/- What decisions keep, and the sanity check of reviews. Plain. -/
set_option linter.unusedVariables false
set_option linter.unusedSimpArgs false
namespace Go.K
open Rep
section
variable {w : World} {M : Nat → Prop} {b o : Nat}
theorem RA.dvb {x : Dcs} (h : RA w M x b o) : RA w M x.vb b (o + 5) := RA.fst (p := (x.vb, x.same)) (RA.snd (p := (x.va, (x.vb, x.same))) (RA.snd (p := (x.B, (x.va, (x.vb, x.same)))) (RA.snd (p := (x.A, (x.B, (x.va, (x.vb, x.same))))) h)))
theorem RA.cast {α : Type} [Rep α] {x y : α} (h : RA w M x b o) (e : y = x) : RA w M y b o := e ▸ h
end
theorem ascD_pw {l : List Dcs} : (∀ i (h : i + 1 < l.length), cmpD l[i] l[i + 1] < 0) ↔ l.Pairwise ltD :=
  ⟨fun h => List.pairwise_iff_getElem.2 fun i j hi hj hij => ltD_lt h hij hj, fun h i hi => cmpD_all.1.2 (List.pairwise_iff_getElem.1 h i (i + 1) (by omega) hi (by omega))⟩
section
variable {pr : Int} {ag df : List Int} {lo hh : Int} {p : Nat} {bud : Int} {sh : List Shw} {ds : List Dcs} {A B : Couple} {ver1 ver2 bud' e : Int} {same : Bool} {sh' : List Shw} {ds' : List Dcs} {fl : List Int}
/-- What holds behind a decision. -/
theorem DecS.law (hR : ROK bud sh ds) (hAB : cplOK A B = true) (h1 : verOK ver1 = true) (h2 : verOK ver2 = true)
    (h : DecS pr ag df lo hh p bud sh ds A B ver1 ver2 same bud' sh' ds' 0) : ROK bud' sh' ds' ∧ bud' = bud ∧ sh' = sh ∧ ds'.length = ds.length + 1 := by
  obtain ⟨fl, ok, _, ⟨_, h⟩ | ⟨_, ⟨_, h⟩ | ⟨_, i, hbs, ⟨_, h⟩ | ⟨hno, ⟨_, h⟩ | ⟨hl, _, rfl, rfl, rfl⟩⟩⟩⟩⟩ := h
  · cases h
  · cases h
  · cases h
  · cases h
  have hjl := hbs.jl; have hld := hR.ld
  have hlen : (ds.take i ++ ([⟨A, B, ver1, ver2, same⟩] : List Dcs) ++ ds.drop i).length = ds.length + 1 := by simp only [List.length_append, List.length_take, List.length_drop, List.length_cons, List.length_nil]; omega
  have hpw := ascD_pw.1 hR.da
  refine ⟨⟨hR.b0, hR.b1, hR.ls, by omega, hR.so, hR.sa, fun k hk => ?_, ascD_pw.2 ?_⟩, rfl, rfl, hlen⟩
  · have hm := List.getElem_mem hk
    rw [List.mem_append, List.mem_append, List.mem_singleton] at hm
    rcases hm with (h | h) | h
    · obtain ⟨q, hq, e⟩ := List.getElem_of_mem (List.mem_of_mem_take h); rw [← e]; exact hR.dO q hq
    · rw [h]; exact ⟨hAB, h1, h2⟩
    · obtain ⟨q, hq, e⟩ := List.getElem_of_mem (List.mem_of_mem_drop h); rw [← e]; exact hR.dO q hq
  · have hlt : ∀ x ∈ ds.take i, ltD x ⟨A, B, ver1, ver2, same⟩ := fun x hx => by
      obtain ⟨q, hq, e⟩ := List.getElem_of_mem hx
      rw [List.length_take] at hq
      rw [List.getElem_take] at e
      subst e
      exact cmpD_all.1.1 (hbs.lo q (by omega) (by omega))
    have hgt : ∀ x ∈ ds.drop i, ltD ⟨A, B, ver1, ver2, same⟩ x := fun x hx => by
      obtain ⟨q, hq, e⟩ := List.getElem_of_mem hx
      rw [List.length_drop] at hq
      rw [List.getElem_drop] at e
      subst e
      have hi : i < ds.length := by omega
      have h3 := hbs.hi i (Nat.le_refl _) hi
      have h4 : ltD ⟨A, B, ver1, ver2, same⟩ ds[i] := cmpD_all.2.1 (by
        have : ¬ cmpD ds[i] ⟨A, B, ver1, ver2, same⟩ = 0 := fun e => hno ⟨hi, e⟩
        omega)
      by_cases e : q = 0
      · subst e; exact h4
      · exact ltD_trans h4 (List.pairwise_iff_getElem.1 hpw i (i + q) hi (by omega) (by omega))
    rw [List.append_assoc]
    refine List.pairwise_append.2 ⟨hpw.sublist (List.take_sublist _ _), List.pairwise_append.2 ⟨List.pairwise_singleton _ _, hpw.sublist (List.drop_sublist _ _), fun x hx y hy => ?_⟩, fun x hx y hy => ?_⟩
    · rw [List.mem_singleton] at hx; subst hx; exact hgt y hy
    · rcases List.mem_append.1 hy with h | h
      · rw [List.mem_singleton] at h; subst h; exact hlt x hx
      · exact ltD_trans (hlt x hx) (hgt y h)
theorem DecS.unshown (hF : FldS pr ag df lo hh p fl true) (hn : ¬ AllS sh A B ver1 ver2 fl) (h : DecS pr ag df lo hh p bud sh ds A B ver1 ver2 same bud' sh' ds' e) : e = 50 := by
  obtain ⟨fl', ok, hF', ⟨h, _⟩ | ⟨_, ⟨_, h⟩ | ⟨hA, _⟩⟩⟩ := h
  · obtain ⟨rfl, rfl⟩ := hF.uniq hF'; cases h
  · exact h
  · obtain ⟨rfl, rfl⟩ := hF.uniq hF'; exact absurd hA hn
/-- A decision that comes last is added. -/
theorem DecS.added (hF : FldS pr ag df lo hh p fl true) (hA : AllS sh A B ver1 ver2 fl) (hend : ∀ k (h : k < ds.length), cmpD ds[k] ⟨A, B, ver1, ver2, same⟩ < 0) (hl : ds.length < 4096) (h : DecS pr ag df lo hh p bud sh ds A B ver1 ver2 same bud' sh' ds' e) :
    e = 0 ∧ bud' = bud ∧ sh' = sh ∧ ds' = ds ++ [⟨A, B, ver1, ver2, same⟩] := by
  obtain ⟨fl', ok, hF', ⟨h, _⟩ | ⟨_, ⟨h, _⟩ | ⟨_, i, hbs, ⟨⟨h1, h2⟩, _⟩ | ⟨hno, ⟨h, _⟩ | ⟨_, rfl, rfl, rfl, rfl⟩⟩⟩⟩⟩ := h
  · obtain ⟨rfl, rfl⟩ := hF.uniq hF'; cases h
  · obtain ⟨rfl, rfl⟩ := hF.uniq hF'; exact absurd hA h
  · have := hend i h1; omega
  · omega
  · have := hbs.end_ (fun k hk => by have := hend k hk; omega) hno
    subst this
    exact ⟨rfl, rfl, rfl, by rw [List.take_length, List.drop_length, List.append_nil]⟩
end
/-! ### The sanity check -/
abbrev awV1 : List ByteArray := [⟨#[120]⟩, ⟨#[97, 98, 99]⟩]
abbrev awV2 : List ByteArray := [⟨#[121]⟩, ⟨#[97, 98]⟩]
theorem aw_W : WOK 0 [20, 30] [0, 0] := ⟨by decide, by decide, rfl, by decide, fun i h => (by decide : ∀ x ∈ ([20, 30] : List Int), fitW x) _ (List.getElem_mem h), fun i h => (by decide : ∀ x ∈ ([0, 0] : List Int), fitW x) _ (List.getElem_mem h)⟩
theorem aw_K : TOK 0 25 := ⟨by decide, by decide, by decide, by decide⟩
theorem aw_R0 : ROK 9 [] [] := ⟨by decide, by decide, by decide, by decide, fun i h => by simp at h, fun i h => by simp at h, fun i h => by simp at h, fun i h => by simp at h⟩
theorem aw_Q1 : QOK [20, 30] awV1 1 := ⟨rfl, by decide, fun i h => (by decide : ∀ x ∈ awV1, x.size ≤ 64) _ (List.getElem_mem h)⟩
theorem aw_Q2 : QOK [20, 30] awV2 3 := ⟨rfl, by decide, fun i h => (by decide : ∀ x ∈ awV2, x.size ≤ 64) _ (List.getElem_mem h)⟩
theorem aw_F : FldS 0 [20, 30] [0, 0] 0 25 4 [1] true := by
  have hs : scN 0 [20, 30] [0, 0] 4 ([20, 30] : List Int).length = 0 := by decide
  have hg : gnL [20, 30] [0, 0] 4 ([20, 30] : List Int).length = [⟨0, 20⟩, ⟨1, 30⟩] := by decide
  refine .inr ⟨by rw [hs]; decide, [⟨1, 30⟩, ⟨0, 20⟩], 1, ?_, by decide, fun j hj => ?_, .inr ⟨?_, rfl, ?_⟩⟩
  · rw [hg]
    refine ⟨fun i => if i = 0 then 1 else if i = 1 then 0 else i, ⟨rfl, fun i hi => ?_⟩, ⟨fun i hi => ?_, fun i h1 h2 => ?_, fun i j e => ?_⟩, fun i j h1 h2 h3 => ?_⟩
    · rcases i with _ | _ | i
      · exact ⟨by decide, rfl⟩
      · exact ⟨by decide, rfl⟩
      · simp at hi; omega
    · simp only [List.length_cons, List.length_nil] at hi; split <;> (try split) <;> omega
    · simp only [List.length_cons, List.length_nil] at *; split <;> (try split) <;> omega
    · replace e : (if i = 0 then 1 else if i = 1 then 0 else i) = (if j = 0 then 1 else if j = 1 then 0 else j) := e
      split at e <;> (try split at e) <;> (try split at e) <;> (try split at e) <;> omega
    · simp only [List.length_cons, List.length_nil] at h3
      obtain rfl : i = 0 := by omega
      obtain rfl : j = 1 := by omega
      exact ⟨by decide, by decide, .inl (by decide)⟩
  · obtain rfl : j = 0 := by omega
    rw [hs]; decide
  · rw [hs]; decide
  · exact StS.self fun i j hij hj => by simp at hj; omega
theorem aw_no : ¬ AllS [] ⟨0, 1⟩ ⟨1, 2⟩ 1 3 [1] := fun h => by have := (h 1 (by simp)).1; simp [hasS] at this
theorem aw_ask {bud' e : Int} {sh' now : List Shw} (h : AskS 0 [20, 30] [0, 0] 0 25 4 9 [] ⟨0, 1⟩ ⟨1, 2⟩ awV1 awV2 1 3 bud' sh' now e) : e = 0 ∧ bud' = 4 ∧ now.length = 2 := by
  obtain ⟨fl, ok, hF, h⟩ := h
  obtain ⟨rfl, rfl⟩ := aw_F.uniq hF
  obtain ⟨h, _⟩ | ⟨_, z1, z2, hS1, hS2, h⟩ := h
  · cases h
  have e1 : misL [] ⟨0, 1⟩ 1 awV1 [1] awV1.length = [⟨⟨0, 1⟩, 1, 1, 3⟩] := by decide
  have hz : hasS z1 ⟨1, 2⟩ 3 1 = false := by rw [hasS_perm hS1.perm, e1]; decide
  have e2 : misL z1 ⟨1, 2⟩ 3 awV2 [1] awV2.length = [⟨⟨1, 2⟩, 3, 1, 2⟩] := by
    show misL z1 ⟨1, 2⟩ 3 awV2 [1] 2 = _
    rw [misL, misL, misL, if_neg (by rintro ⟨h, _⟩; revert h; decide), if_pos ⟨by decide, hz⟩]
    decide
  rw [e1, e2] at h
  obtain ⟨h, _⟩ | ⟨_, h1, h2, h3, h4⟩ := h
  · simp [sumCh] at h
  · exact ⟨h1, by rw [h4]; decide, by rw [h3]; rfl⟩
end Go.K

/- A couple is decided once for its versions. Plain. -/
set_option linter.unusedVariables false
set_option linter.unusedSimpArgs false
namespace Go.K
open Rep
section
variable {pr : Int} {ag df : List Int} {lo hh : Int} {p : Nat} {fl : List Int} {bud : Int} {sh : List Shw} {A B : Couple} {vals1 vals2 : List ByteArray} {ver1 ver2 bud' e : Int} {sh' now : List Shw}
theorem FldS.ne (h : FldS pr ag df lo hh p fl true) : ∃ f, f ∈ fl := by
  rcases h with ⟨_, h, _⟩ | ⟨hg, gs, k, hS, hk, hlt, ⟨_, _, h, _⟩ | ⟨h1, _, h2⟩⟩
  · cases h
  · cases h
  have e1 := h2.len
  simp only [List.length_map, List.length_take] at e1
  have : k ≠ 0 := fun e => by subst e; unfold preG at h1; omega
  exact ⟨fl[0]'(by omega), List.getElem_mem _⟩
theorem qok9 (hl : vals1.length = ag.length) (h1 : 1 ≤ ver1) (h3 : ver1 ≤ 3) (h9 : ∀ s ∈ vals1, s.size ≤ 9) : QOK ag vals1 ver1 := ⟨hl, by unfold verOK; rw [decide_eq_true_eq]; omega, fun i hi => by have := h9 _ (List.getElem_mem hi); omega⟩
end
theorem start_R {b : Int} (h0 : 0 ≤ b) (h1 : b ≤ 65536) : ROK b [] [] := ⟨h0, h1, by decide, by decide, fun i h => by simp at h, fun i h => by simp at h, fun i h => by simp at h, fun i h => by simp at h⟩
end Go.K

/- Budgets: sums of what was shown. Plain. -/
set_option linter.unusedVariables false
set_option linter.unusedSimpArgs false
namespace Go.K
open Rep
theorem cpl01 {a b : Nat} (ha : a < 2) (hb : b < 2) : cplOK ⟨0, 1 + (a : Int)⟩ ⟨1, 1 + (b : Int)⟩ = true := by
  obtain rfl | rfl : a = 0 ∨ a = 1 := by omega
  · obtain rfl | rfl : b = 0 ∨ b = 1 := by omega
    · decide
    · decide
  · obtain rfl | rfl : b = 0 ∨ b = 1 := by omega
    · decide
    · decide
theorem sumCh_take {l : List Shw} {j : Nat} (h : j < l.length) : sumCh (l.take (j + 1)) = sumCh (l.take j) + l[j].ch := by
  rw [List.take_succ_eq_append_getElem h, sumCh_app]; simp [sumCh]
theorem sumCh_b {l : List Shw} (h : ∀ i (h : i < l.length), shwOK l[i]) : ∀ j, j ≤ l.length → 0 ≤ sumCh (l.take j) ∧ sumCh (l.take j) ≤ 64 * (j : Int)
  | 0, _ => by simp [sumCh]
  | j + 1, hj => by
    have h1 := sumCh_b h j (by omega)
    obtain ⟨_, _, _, _, h2, h3⟩ := h j (by omega)
    rw [sumCh_take (by omega)]
    omega
end Go.K

/- Operations that chapter 30 needs: bools compared, entries of a map that is spelt, fields of elements of own lists. -/
set_option linter.unusedVariables false
set_option linter.unusedSimpArgs false
set_option linter.unusedSectionVars false
namespace Go.K
open Rep

section
variable {P : Program} {N : Nat} {env : Env} {x y : Operand} {t u : TypeId} {a b : Bool} {w : World}
end

section
variable {κ β : Type} [DecidableEq κ] {kv : κ → Value} {vv : β → Value} {m : List (κ × β)} {w : World} {C : Nat → Nat} {j b : Nat}
variable {P : Program} {N : Nat} {env : Env} {x y z : Operand} {t kt et : TypeId}
end

section
variable {α : Type} [Rep α] {w : World} {C : Nat → Nat} {j : Nat} {xs : List α} {v : Value} {e : TypeId} {g i off k : Nat}
variable {P : Program} {N : Nat} {env : Env} {y z : Operand} {t : TypeId} {u : Value} {us : List Value}
/-- A cell of an element is read. -/
theorem OwnL.cell (h : OwnL w C j e v xs) (hg : Ob v g) (hi : i < xs.length) (ho : off < sz α) (ha : aggB P t = some false) (hr : ∀ vs, rep w.heap (Mc C) xs[i] vs → vs[off]? = some u)
    (hy : ev env y = some (.pointer (some ⟨g, i * sz α + off, none⟩))) : ∀ w', w'.heap[g]? = w.heap[g]? → Val P N env (.load t y) w' u := by
  obtain ⟨g', cap, cs, rfl, _, _, hc, h1, h2, h3⟩ := h.at_own (by omega)
  simp only [Ob, Value.ownBlock, Option.some.injEq] at hg
  subst hg
  intro w' hw
  refine val_loadOwn (cs := cs.toList) (by rw [hw]; simpa using hc) ha ?_ hy
  have := hr _ (h3 i hi)
  simp only [cellsAt, List.getElem?_take, List.getElem?_drop, if_pos ho] at this
  exact this
end
section
variable {P : Program} {t tr ti : TypeId} {n0 n1 n2 tg0 tg1 tg2 pk0 pk1 pk2 : String} {e0 e1 e2 : Bool} {y0 y1 y2 : Nat} {N : Nat} {env : Env} {x y : Operand} {u : TypeId} {w : World}
end
end Go.K

/- Comparing what was shown, and decisions, as structs; lists that are equal. -/
set_option linter.unusedVariables false
set_option linter.unusedSimpArgs false
namespace Go.K
open Rep
section
variable {P : Program} {t tr ti tb : TypeId} {n0 n1 n2 n3 n4 tg0 tg1 tg2 tg3 tg4 pk0 pk1 pk2 pk3 pk4 : String} {e0 e1 e2 e3 e4 : Bool} {y0 y1 y2 y3 y4 : Nat} {N : Nat} {env : Env} {x y : Operand} {u : TypeId} {w : World}
theorem run_eq_shw (h : P.underlying t = some (.struct #[⟨n0, tr, 0, e0, tg0, pk0, y0⟩, ⟨n1, ti, 2, e1, tg1, pk1, y1⟩, ⟨n2, ti, 3, e2, tg2, pk2, y2⟩, ⟨n3, ti, 4, e3, tg3, pk3, y3⟩])) (h0 : n0 ≠ "_") (h1 : n1 ≠ "_") (h2 : n2 ≠ "_") (h3 : n3 ≠ "_") (hS : P.stoodInHeld t = false)
    (hE : EqOK P tr kvC) (hi : P.underlying ti = some (.int .i64)) (ha : aggB P tr = some true) (hs : szB P tr = some 2) (a b : Shw) :
    (Op.equalIn 10000 t (.agg (encS a).toArray) (.agg (encS b).toArray)).run P w = .ok (decide (a = b)) w := by
  have hf : P.fieldsOf t = #[⟨n0, tr, 0, e0, tg0, pk0, y0⟩, ⟨n1, ti, 2, e1, tg1, pk1, y1⟩, ⟨n2, ti, 3, e2, tg2, pk2, y2⟩, ⟨n3, ti, 4, e3, tg3, pk3, y3⟩] := by simp [Program.fieldsOf, h]
  have p0 : ∀ c : Shw, (part tr (encS c).toArray 0).run P w = .ok (kvC c.r) w := fun c => by
    unfold part; simp only [Sem.run_bind, run_isAggB ha, Result.andThen_ok, if_true, run_sizeOfB hs, Sem.run_pure]; rfl
  have p1 : ∀ c : Shw, (part ti (encS c).toArray 2).run P w = .ok (.int .i64 c.ver) w := fun c => run_part_plain w (by simp [Program.plainKey, hi]) rfl
  have p2 : ∀ c : Shw, (part ti (encS c).toArray 3).run P w = .ok (.int .i64 c.fld) w := fun c => run_part_plain w (by simp [Program.plainKey, hi]) rfl
  have p3 : ∀ c : Shw, (part ti (encS c).toArray 4).run P w = .ok (.int .i64 c.ch) w := fun c => run_part_plain w (by simp [Program.plainKey, hi]) rfl
  have he : ∀ a b : Couple, (Op.equalIn 9999 tr (kvC a) (kvC b)).run P w = .ok (decide (a = b)) w := fun (a b : Couple) => hE 9991 a b w
  have hn : ∀ x y : Int, (Op.equalIn 9999 ti (.int .i64 x) (.int .i64 y)).run P w = .ok (x == y) w := fun (x y : Int) => run_equalIn_int (P := P) w 9998 ti .i64 .i64 x y hi
  rw [show (10000 : Nat) = 9999 + 1 from rfl, run_equalIn_struct w 9999 t _ _ (by rw [hf]; exact h) hS, hf]
  have hd : (decide (a = b)) = (((decide (a.r = b.r) && (a.ver == b.ver)) && (a.fld == b.fld)) && (a.ch == b.ch)) := by
    cases a; cases b; simp only [Shw.mk.injEq, Bool.decide_and, Bool.and_assoc]; rfl
  simp only [Op.eqFields, Sem.run_bind, Sem.run_ite, h0, h1, h2, h3, ne_eq, not_false_eq_true, if_true, p0, p1, p2, p3, Result.andThen_ok, hd, he, hn]
  cases decide (a.r = b.r) <;> cases (a.ver == b.ver) <;> cases (a.fld == b.fld) <;> cases (a.ch == b.ch) <;> simp [p0, p1, p2, p3, he, hn]
theorem val_neShw (h : P.underlying t = some (.struct #[⟨n0, tr, 0, e0, tg0, pk0, y0⟩, ⟨n1, ti, 2, e1, tg1, pk1, y1⟩, ⟨n2, ti, 3, e2, tg2, pk2, y2⟩, ⟨n3, ti, 4, e3, tg3, pk3, y3⟩])) (h0 : n0 ≠ "_") (h1 : n1 ≠ "_") (h2 : n2 ≠ "_") (h3 : n3 ≠ "_") (hS : P.stoodInHeld t = false)
    (hE : EqOK P tr kvC) (hi : P.underlying ti = some (.int .i64)) (ha : aggB P tr = some true) (hs : szB P tr = some 2) (hg : P.eqGuardType P.depth t = false) {a b : Shw} (hx : ev env x = some (.agg (encS a).toArray)) (hy : ev env y = some (.agg (encS b).toArray)) :
    Val P N env (.binOp .neq t x y u) w (.bool (decide (a ≠ b))) := mk' fun ρ hρ o ho => by
  unfold execOp; rw [ho]
  simp only [hρ _ _ hx, hρ _ _ hy, Sem.run_bind, run_eqGuard_agg _ _ _ _ _ _ _ hg, Result.andThen_ok, run_neq_struct, run_eq_shw h h0 h1 h2 h3 hS hE hi ha hs, Sem.run_pure]
  simp
theorem run_equalIn_bool (d : Nat) (p r : Bool) (ht : P.underlying tb = some .bool) : (Op.equalIn (d + 1) tb (.bool p) (.bool r)).run P w = .ok (decide (p = r)) w := by
  unfold Op.equalIn
  cases p <;> cases r <;> simp [run_underlying ht, go_sem]
theorem run_eq_dcs (h : P.underlying t = some (.struct #[⟨n0, tr, 0, e0, tg0, pk0, y0⟩, ⟨n1, tr, 2, e1, tg1, pk1, y1⟩, ⟨n2, ti, 4, e2, tg2, pk2, y2⟩, ⟨n3, ti, 5, e3, tg3, pk3, y3⟩, ⟨n4, tb, 6, e4, tg4, pk4, y4⟩])) (h0 : n0 ≠ "_") (h1 : n1 ≠ "_") (h2 : n2 ≠ "_") (h3 : n3 ≠ "_") (h4 : n4 ≠ "_") (hS : P.stoodInHeld t = false)
    (hE : EqOK P tr kvC) (hi : P.underlying ti = some (.int .i64)) (hb : P.underlying tb = some .bool) (ha : aggB P tr = some true) (hs : szB P tr = some 2) (a b : Dcs) :
    (Op.equalIn 10000 t (.agg (encD a).toArray) (.agg (encD b).toArray)).run P w = .ok (decide (a = b)) w := by
  have hf : P.fieldsOf t = #[⟨n0, tr, 0, e0, tg0, pk0, y0⟩, ⟨n1, tr, 2, e1, tg1, pk1, y1⟩, ⟨n2, ti, 4, e2, tg2, pk2, y2⟩, ⟨n3, ti, 5, e3, tg3, pk3, y3⟩, ⟨n4, tb, 6, e4, tg4, pk4, y4⟩] := by simp [Program.fieldsOf, h]
  have p0 : ∀ c : Dcs, (part tr (encD c).toArray 0).run P w = .ok (kvC c.A) w := fun c => by
    unfold part; simp only [Sem.run_bind, run_isAggB ha, Result.andThen_ok, if_true, run_sizeOfB hs, Sem.run_pure]; rfl
  have p1 : ∀ c : Dcs, (part tr (encD c).toArray 2).run P w = .ok (kvC c.B) w := fun c => by
    unfold part; simp only [Sem.run_bind, run_isAggB ha, Result.andThen_ok, if_true, run_sizeOfB hs, Sem.run_pure]; rfl
  have p2 : ∀ c : Dcs, (part ti (encD c).toArray 4).run P w = .ok (.int .i64 c.va) w := fun c => run_part_plain w (by simp [Program.plainKey, hi]) rfl
  have p3 : ∀ c : Dcs, (part ti (encD c).toArray 5).run P w = .ok (.int .i64 c.vb) w := fun c => run_part_plain w (by simp [Program.plainKey, hi]) rfl
  have p4 : ∀ c : Dcs, (part tb (encD c).toArray 6).run P w = .ok (.bool c.same) w := fun c => run_part_plain w (by simp [Program.plainKey, hb]) rfl
  have he : ∀ a b : Couple, (Op.equalIn 9999 tr (kvC a) (kvC b)).run P w = .ok (decide (a = b)) w := fun (a b : Couple) => hE 9991 a b w
  have hn : ∀ x y : Int, (Op.equalIn 9999 ti (.int .i64 x) (.int .i64 y)).run P w = .ok (x == y) w := fun (x y : Int) => run_equalIn_int (P := P) w 9998 ti .i64 .i64 x y hi
  have hbl : ∀ x y : Bool, (Op.equalIn 9999 tb (.bool x) (.bool y)).run P w = .ok (decide (x = y)) w := fun x y => run_equalIn_bool (P := P) 9998 x y hb
  rw [show (10000 : Nat) = 9999 + 1 from rfl, run_equalIn_struct w 9999 t _ _ (by rw [hf]; exact h) hS, hf]
  have hd : (decide (a = b)) = ((((decide (a.A = b.A) && decide (a.B = b.B)) && (a.va == b.va)) && (a.vb == b.vb)) && decide (a.same = b.same)) := by
    cases a; cases b; simp only [Dcs.mk.injEq, Bool.decide_and, Bool.and_assoc]; rfl
  simp only [Op.eqFields, Sem.run_bind, Sem.run_ite, h0, h1, h2, h3, h4, ne_eq, not_false_eq_true, if_true, p0, p1, p2, p3, p4, Result.andThen_ok, hd, he, hn, hbl]
  cases decide (a.A = b.A) <;> cases decide (a.B = b.B) <;> cases (a.va == b.va) <;> cases (a.vb == b.vb) <;> cases decide (a.same = b.same) <;> simp [p0, p1, p2, p3, p4, he, hn, hbl]
theorem val_neDcs (h : P.underlying t = some (.struct #[⟨n0, tr, 0, e0, tg0, pk0, y0⟩, ⟨n1, tr, 2, e1, tg1, pk1, y1⟩, ⟨n2, ti, 4, e2, tg2, pk2, y2⟩, ⟨n3, ti, 5, e3, tg3, pk3, y3⟩, ⟨n4, tb, 6, e4, tg4, pk4, y4⟩])) (h0 : n0 ≠ "_") (h1 : n1 ≠ "_") (h2 : n2 ≠ "_") (h3 : n3 ≠ "_") (h4 : n4 ≠ "_") (hS : P.stoodInHeld t = false)
    (hE : EqOK P tr kvC) (hi : P.underlying ti = some (.int .i64)) (hb : P.underlying tb = some .bool) (ha : aggB P tr = some true) (hs : szB P tr = some 2) (hg : P.eqGuardType P.depth t = false) {a b : Dcs} (hx : ev env x = some (.agg (encD a).toArray)) (hy : ev env y = some (.agg (encD b).toArray)) :
    Val P N env (.binOp .neq t x y u) w (.bool (decide (a ≠ b))) := mk' fun ρ hρ o ho => by
  unfold execOp; rw [ho]
  simp only [hρ _ _ hx, hρ _ _ hy, Sem.run_bind, run_eqGuard_agg _ _ _ _ _ _ _ hg, Result.andThen_ok, run_neq_struct, run_eq_dcs h h0 h1 h2 h3 h4 hS hE hi hb ha hs, Sem.run_pure]
  simp
end
end Go.K

/- From the row's reading of an argument to what the steps ask. -/
set_option linter.unusedVariables false
namespace Go.K
open Rep
/-- Nobody writes anything that stood at the start. -/
def C0 : Nat → Nat := fun _ => 0
theorem lim0 (w : World) : Lim w C0 := fun b h => absurd rfl h
theorem Stp.below {w w' : World} (h : Stp [] w C0 w' C0) : Go.RowKit.Below w.heap.size w w' := h.ext.below (Nat.le_refl _) (fun b hb => by simp at hb)

end Go.K

/- From the row's reading of an argument, of whatever make, to what the steps ask. -/
set_option linter.unusedVariables false
set_option linter.unusedSimpArgs false
namespace Go.K
open Rep

/-- Whatever the row reads at this type reads as a Lean value. -/
def Opens {H : Type} (enc : TypeId × Value → H) (P : Program) (w : World) (base : Nat) (spare : Nat → Bool) (held : Bool) (α : Type) [Rep α] (t : TypeId) : Prop :=
  P.cellsOf t = sz α ∧ ∀ (fuel : Nat) (cs : List Value) (x : DataW H × List MemPlace), DataW.trod enc P w base spare held fuel t cs = some x → ∃ a : α, rep w.heap (Mc C0) a cs

section
variable {H : Type} {enc : TypeId × Value → H} {P : Program} {w : World} {base : Nat} {spare : Nat → Bool} {held : Bool} {α β γ : Type} [Rep α] [Rep β] [Rep γ] {t e : TypeId}

theorem opens_int (ht : P.underlying t = some (.int .i64)) (hc : P.cellsOf t = 1) : Opens enc P w base spare held Int t := ⟨hc, fun fuel cs x h => by
  obtain ⟨n, rfl, _⟩ := DataW.trod_int ht h
  exact ⟨n, rfl⟩⟩
theorem opens_slice (ht : P.underlying t = some (.slice e)) (hc : P.cellsOf t = 1) (hsz : 0 < sz α) (he : Opens enc P w base spare held α e) : Opens enc P w base spare held (List α) t := ⟨hc, fun fuel cs x h => by
  rcases Go.Deep.open_slice ht h with ⟨rfl, _⟩ | ⟨a, len, cap, m, n, D, Pl, rfl, hb, hl, hm, hmm, hx, hcell⟩
  · exact ⟨[], none, 0, rfl, Nat.le_refl _, by simp, .inl rfl⟩
  · have hlm : len ≤ m := by rw [hmm]; split <;> omega
    have key : ∀ k, k ≤ len → ∃ xs : List α, xs.length = k ∧ ∀ i (hi : i < xs.length), ∃ cs', w.cells? base (a.add (i * sz α)) (sz α) = some cs' ∧ rep w.heap (Mc C0) xs[i] cs' := by
      intro k
      induction k with
      | zero => exact fun _ => ⟨[], rfl, fun i hi => by simp at hi⟩
      | succ k ih =>
        intro hk
        obtain ⟨xs, hxl, hxs⟩ := ih (by omega)
        obtain ⟨cs', h1, h2⟩ := hcell k (by omega)
        obtain ⟨y, hy⟩ := he.2 _ _ _ h2
        rw [he.1] at h1
        refine ⟨xs ++ [y], by simp [hxl], fun i hi => ?_⟩
        by_cases hik : i < xs.length
        · rw [List.getElem_append_left hik]; exact hxs i hik
        · have hik2 : i = k := by simp at hi; omega
          subst hik2
          rw [List.getElem_append_right (by omega)]
          exact ⟨cs', h1, by simpa [hxl] using hy⟩
    obtain ⟨xs, hxl, hxs⟩ := key len (Nat.le_refl _)
    refine ⟨xs, some a, cap, by rw [hxl], by omega, by unfold maxLen at hm; omega, ?_⟩
    by_cases h0 : len = 0
    · left; exact List.length_eq_zero_iff.1 (by omega)
    · right
      have hall : ∀ i (hi : i < xs.length), ∃ cs', cs'.length = sz α ∧ (∀ j (hj : j < cs'.length), w.cell? (a.add (i * sz α + j)) = some cs'[j]) ∧ rep w.heap (Mc C0) xs[i] cs' := fun i hi => by
        obtain ⟨cs', h1, h2⟩ := hxs i hi
        obtain ⟨_, h3, h4⟩ := World.cells?_some h1
        refine ⟨cs', h3, fun j hj => ?_, h2⟩
        have h5 := h4 j (by omega)
        rw [Addr.add_add] at h5
        rw [h5]; exact List.getElem?_eq_getElem hj
      obtain ⟨c0, hc0l, hc0, _⟩ := hall 0 (by omega)
      have hfirst := hc0 0 (by omega)
      obtain ⟨b, off, spot⟩ := a
      have hspot : spot = none := by simpa [Addr.add] using World.cell?_spot hfirst
      subst hspot
      refine ⟨b, off, rfl, ?_⟩
      simp only [addr_add] at hall hfirst
      unfold World.cell? at hfirst
      simp only at hfirst
      cases hbk : w.heap[b]? with
      | none => rw [hbk] at hfirst; cases hfirst
      | some ob =>
        cases ob with
        | cells c ty fz =>
          have hget : ∀ i (hi : i < xs.length), ∃ cs', cs'.length = sz α ∧ (∀ j (hj : j < cs'.length), c[off + (i * sz α + j)]? = some cs'[j]) ∧ rep w.heap (Mc C0) xs[i] cs' := fun i hi => by
            obtain ⟨cs', h1, h2, h3⟩ := hall i hi
            refine ⟨cs', h1, fun j hj => ?_, h3⟩
            have h4 := h2 j hj
            unfold World.cell? at h4
            simp only [hbk] at h4
            simpa using h4
          refine ⟨fun h => h rfl, c, ty, fz, hbk, ?_, fun i hi => ?_⟩
          · obtain ⟨cs', h1, h2, _⟩ := hget (len - 1) (by omega)
            have h3 := (Array.getElem?_eq_some_iff.1 (h2 (sz α - 1) (by omega))).1
            have h4 : len * sz α = (len - 1) * sz α + sz α := by
              have : len = (len - 1) + 1 := by omega
              rw [this, Nat.succ_mul]; simp
            rw [hxl, h4]; omega
          · obtain ⟨cs', h1, h2, h3⟩ := hget i hi
            have : cellsAt c (off + i * sz α) (sz α) = cs' := by
              apply List.ext_getElem?
              intro r
              simp only [cellsAt, List.getElem?_take, List.getElem?_drop, Array.getElem?_toList]
              by_cases hr : r < sz α
              · rw [if_pos hr, List.getElem?_eq_getElem (by omega), Nat.add_assoc]; exact h2 r (by omega)
              · rw [if_neg hr, List.getElem?_eq_none (by omega)]
            rw [this]; exact h3
        | _ => rw [hbk] at hfirst; cases hfirst⟩

theorem Opens.rv (h : Opens enc P w base spare held α t) (hx : Rep.agg α = false) {fuel : Nat} {v : Value} {x : DataW H × List MemPlace} (ht : DataW.trod enc P w base spare held fuel t [v] = some x) : ∃ a : α, RV w (Mc C0) a v := by
  obtain ⟨a, ha⟩ := h.2 _ _ _ ht
  exact ⟨a, rep1_rv ha hx⟩
end
end Go.K
