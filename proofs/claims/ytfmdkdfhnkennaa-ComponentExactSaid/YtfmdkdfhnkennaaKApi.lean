/- The program's types as Lean types. -/
import Derived.Test.YtfmdkdfhnkennaaK6
set_option linter.unusedVariables false
set_option linter.unusedSimpArgs false
namespace Go.K
open Rep

/-- Cells as they are. -/
structure Raw (n : Nat) where
  vals : List Value
  len : vals.length = n
  one : ∀ v ∈ vals, v.oneCell' = true
instance {n : Nat} : Rep (Raw n) where
  sz := n
  agg := true
  flat h := by cases h
  rep _ _ x vs := vs = x.vals
  len h := by subst h; rename_i x; exact x.len
  one h := by subst h; rename_i x; exact x.one
  keep h _ := h
  sub h _ := h
theorem rv_raw {n : Nat} {w : World} {M : Nat → Prop} {x : Raw n} : RV w M x (.agg x.vals.toArray) := ⟨x.vals, rfl, rfl⟩

structure Block where
  hash : Int
  ids : List Int
instance : Rep Block := Rep.via (fun b : Block => ((⟨b.hash⟩ : U64), b.ids))
structure Couple where
  a : Int
  b : Int
  deriving DecidableEq
instance : Rep Couple := Rep.via (fun c : Couple => (c.a, c.b))

section
variable {w : World} {M : Nat → Prop} {b o : Nat} {v : Value}
theorem RA.hash {x : Block} (h : RA w M x b o) : RA w M (⟨x.hash⟩ : U64) b o := RA.fst (p := ((⟨x.hash⟩ : U64), x.ids)) h
theorem RA.ids {x : Block} (h : RA w M x b o) : RA w M x.ids b (o + 1) := RA.snd (p := ((⟨x.hash⟩ : U64), x.ids)) h
theorem rv_block {h : Int} {ids : List Int} (hv : RV w M ids v) : RV w M (⟨h, ids⟩ : Block) (.agg #[.int .u64 h, v]) :=
  ⟨[.int .u64 h, v], rv_pair (p := ((⟨h⟩ : U64), ids)) (us := [.int .u64 h]) (ws := [v]) rfl (hv.rep1 rfl), rfl⟩
theorem rv_block' {x : Block} (h : RV w M x v) : ∃ u, v = .agg #[.int .u64 x.hash, u] ∧ RV w M x.ids u := by
  obtain ⟨vs, ⟨us, ws, rfl, h1, h2⟩, hv⟩ := h
  have hl := Rep.len h2
  obtain ⟨u, rfl⟩ := List.length_eq_one_iff.1 hl
  have h1' : us = [.int .u64 x.hash] := h1
  subst h1'
  exact ⟨u, hv, rep1_rv h2 rfl⟩
theorem RA.ca {x : Couple} (h : RA w M x b o) : RA w M x.a b o := RA.fst (p := (x.a, x.b)) h
theorem RA.cb {x : Couple} (h : RA w M x b o) : RA w M x.b b (o + 1) := RA.snd (p := (x.a, x.b)) h
theorem rv_couple {x : Couple} : RV w M x v ↔ v = .agg #[.int .i64 x.a, .int .i64 x.b] :=
  ⟨fun h => by
    obtain ⟨vs, ⟨us, ws, rfl, h1, h2⟩, hv⟩ := h
    have h1' : us = [.int .i64 x.a] := h1
    have h2' : ws = [.int .i64 x.b] := h2
    subst h1'; subst h2'; exact hv,
   fun h => ⟨[.int .i64 x.a, .int .i64 x.b], ⟨_, _, rfl, rfl, rfl⟩, h⟩⟩
end
end Go.K
