/- Walks and plain laws that the claim stands on (part 30). -/
import Derived.Test.YtabcnplfkfdeaaaGreatDoorL10
import Derived.WalkKit
import Derived.ProofKit
import Derived.OpenShut
import Derived.ChangeOld
import Derived.Below
import Derived.Deep.SlicePairs
namespace Go.Proofs.YtabcnplfkfdeaaaGreatDoor
open Go.RowKit Go.Proofs.YtabcnplfkfdeaaaGreatDoorW.PrintWords Go.Proofs.YtabcnplfkfdeaaaGreatDoorW.PrintLast
set_option linter.unusedVariables false
theorem rows_list {α : Type} (Q : Nat → α → Prop) : ∀ m, (∀ i, i < m → ∃ p, Q i p) → ∃ l : List α, l.length = m ∧ ∀ j p, l[j]? = some p → Q j p := by
  intro m
  induction m with
  | zero => intro _; exact ⟨[], rfl, fun j p h => by simp at h⟩
  | succ m ih =>
    intro h
    obtain ⟨l, hl, hq⟩ := ih (fun i hi => h i (by omega))
    obtain ⟨p, hp⟩ := h m (by omega)
    refine ⟨l ++ [p], by simp [hl], fun j q hj => ?_⟩
    by_cases hjl : j < l.length
    · rw [List.getElem?_append_left hjl] at hj
      exact hq j q hj
    · have : j = m := by
        have := (List.getElem?_eq_some_iff.1 hj).1
        simp at this
        omega
      subst this
      rw [List.getElem?_append_right (by omega)] at hj
      have : p = q := by simpa [hl] using hj
      subst this
      exact hp
section
variable {H : Type} {enc : TypeId × Value → H} {w : World} {base : Nat} {spare : Nat → Bool} {held : Bool}
theorem C_of {α : Type} (d : Kd α) {t e : TypeId} {fuel : Nat} {cs : List Value} {x : DataW H × List MemPlace} (ht : Tryz.prog.underlying t = some (.slice e)) (hce : Tryz.prog.cellsOf e = d.sz)
    (elem : ∀ n, n < fuel → ∀ cs (y : DataW H × List MemPlace), DataW.trod enc Tryz.prog w base spare held n e cs = some y → ∃ p : α, d.K w p cs) (h : DataW.trod enc Tryz.prog w base spare held fuel t cs = some x) :
    ∃ A cap, ∃ l : List α, cs = [.slice A l.length cap] ∧ l.length ≤ cap ∧ d.C w A l.length l := by
  rcases DataW.trod_slice ht h with ⟨rfl, _⟩ | ⟨a, len, cap, elems, rest, n, hn, rfl, _, hb, hl, hm, hlen, hel, _, _⟩
  · exact ⟨none, 0, [], rfl, Nat.le_refl _, Kd.C_nil d w⟩
  · obtain ⟨l, hll, hq⟩ := rows_list (fun i (p : α) => ∃ c, c.length = d.sz ∧ d.K w p c ∧ ∀ j u, c[j]? = some u → w.cell? (a.add (i * d.sz + j)) = some u) len (fun i hi => by
      have h1 := hel i hi
      rw [List.getElem?_eq_getElem (show i < elems.length by omega)] at h1
      obtain ⟨c, hc, hy⟩ := Option.bind_eq_some_iff.1 h1
      obtain ⟨p, hp⟩ := elem n (by omega) c _ hy
      rw [hce] at hc
      obtain ⟨_, h3, h4⟩ := World.cells?_some hc
      refine ⟨p, c, h3, hp, fun j u hj => ?_⟩
      have hjl := (List.getElem?_eq_some_iff.1 hj).1
      have := h4 j (by omega)
      rw [hj] at this
      rw [← this, Addr.add_add])
    exact ⟨some a, cap, l, by rw [hll], by omega, rfl, by rw [hll]; simpa [maxLen] using Nat.le_trans hl hm, fun _ => ⟨a, rfl, hq⟩⟩
end
theorem len2 : ∀ l : List Value, l.length = 2 → ∃ u0 u1, l = [u0, u1]
  | [u0, u1], _ => ⟨u0, u1, rfl⟩
theorem cells_Dif : Tryz.prog.cellsOf 34 = 2 := by kernel_rfl
theorem cells_string : Tryz.prog.cellsOf 9 = 1 := by kernel_rfl
theorem cells_int : Tryz.prog.cellsOf 3 = 1 := by kernel_rfl
section
variable {H : Type} {enc : TypeId × Value → H} {w : World} {base : Nat} {spare : Nat → Bool} {held : Bool}
theorem dif_of (n : Nat) (cs : List Value) (y : DataW H × List MemPlace) (h : DataW.trod enc Tryz.prog w base spare held n 34 cs = some y) : ∃ p : S34, k34.K w p cs := by
  obtain ⟨xs, m, _, _, hl, hlen, hf⟩ := DataW.trod_struct Tryz.underlying34 h
  rw [cells_Dif] at hl
  have hx : xs.length = 2 := hlen
  have h0 := hf 0 _ rfl
  have h1 := hf 1 _ rfl
  rw [List.getElem?_eq_getElem (show 0 < xs.length by omega)] at h0
  rw [List.getElem?_eq_getElem (show 1 < xs.length by omega)] at h1
  change DataW.trod enc Tryz.prog w base spare held m 3 ((cs.drop 0).take (Tryz.prog.cellsOf 3)) = _ at h0
  rw [cells_int] at h0
  change DataW.trod enc Tryz.prog w base spare held m 9 ((cs.drop 1).take (Tryz.prog.cellsOf 9)) = _ at h1
  rw [cells_string] at h1
  obtain ⟨s0, e0, _⟩ := DataW.trod_int Tryz.underlying3 h0
  obtain ⟨s1, e1, _⟩ := DataW.trod_string Tryz.underlying9 h1
  refine ⟨⟨s0, s1⟩, ?_⟩
  have e : cs = [.int .i64 s0, .string s1] := by
    obtain ⟨u0, u1, rfl⟩ := len2 cs hl
    have a0 : u0 = .int .i64 s0 := by simpa using e0
    have a1 : u1 = .string s1 := by simpa using e1
    rw [a0, a1]
  rw [e]
  exact k34_mk w ⟨s0, s1⟩
end
end Go.Proofs.YtabcnplfkfdeaaaGreatDoor
