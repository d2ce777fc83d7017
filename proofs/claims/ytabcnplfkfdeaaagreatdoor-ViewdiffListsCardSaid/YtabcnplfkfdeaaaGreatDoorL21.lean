/- Walks and plain laws that the claim stands on (part 21). -/
import Derived.Test.YtabcnplfkfdeaaaGreatDoorL20
namespace Go.Proofs.YtabcnplfkfdeaaaGreatDoor
open Go.RowKit Go.Proofs.YtabcnplfkfdeaaaGreatDoorW.PrintWords Go.Proofs.YtabcnplfkfdeaaaGreatDoorW.PrintLast Go.Proofs.YtabcnplfkfdeaaaGreatDoorW.PrintMore
set_option linter.unusedVariables false
set_option linter.unusedSimpArgs false
theorem long_enters (args : Array Value) (w : World) : (callFunc 33 args).run Tryz.prog w = .ok (.enter 33 args) w :=
  enters_of Tryz.func33 (by kernel_rfl) rfl args w
theorem long_calls (x : S34) (w : World) : Calls Tryz.prog 33 #[.agg #[.int .i64 x.f0, .string x.f1]] w fun e w' => e = .returned (.bool (decide (1000 < x.f1.size))) ∧ Below w.heap.size w w' := by
  have hu34 := Tryz.underlying34
  go_enter Tryz.func33, Tryz.ntmps33
  go_wp2
  go_ret
  exact ⟨by first | rfl | (simp; done) | (simp; omega), below_alloc (Below.refl _ _) _⟩
def idxGo (l : List S34) (i : Int) : Nat → Int
  | 0 => -1
  | k + 1 => if 1000 < (rd_T34 l i).f1.size then i else idxGo l (i + 1) k
def idxOf (l : List S34) : Int := idxGo l 0 l.length
set_option maxRecDepth 100000 in
set_option maxHeartbeats 4000000 in
theorem index_calls (l : List S34) (A : Option Addr) (c : Nat) (w : World) (h1 : Kd.C k34 w A l.length l) (h2 : l.length ≤ c) :
    Calls Tryz.prog 55 #[.slice A l.length c, .func (.func 33) #[] #[]] w fun e w' => e = .returned (.int .i64 (idxOf l)) ∧ Below w.heap.size w w' := by
  have H1 := Aside0.mk h1
  have H2 := Aside0.mk h2
  have hu34 := Tryz.underlying34
  clear h1 h2
  go_enter Tryz.func55, Tryz.ntmps55
  go_wp2
  go_loopg [8] l.length (fun kq v8 W => ∃ i : Int, v8 = .int .i64 i ∧ Aside0 (0 ≤ i ∧ i + kq = l.length) ∧ Aside0 (idxGo l i kq = idxOf l) ∧ Aside0 (Below w.heap.size w W))
  case atStart => exact ⟨0, rfl, ⟨by omega⟩, ⟨rfl⟩, ⟨Below.refl _ _⟩⟩
  case round =>
    obtain ⟨i, rfl, HN, HG, HB⟩ := hrel
    have hn := HN.out
    have hg := HG.out
    cases gk with
    | zero =>
      have hi : ¬ i < (l.length : Int) := by omega
      have di : decide (i < (l.length : Int)) = false := decide_eq_false hi
      simp only [idxGo] at hg
      have HG1 := Aside0.mk hg
      clear hn HN HG hg
      go_wp2
      go_ret
      exact ⟨by have hg := HG1.out; simp [← hg], HB.out⟩
    | succ k1 =>
      have hi : i < (l.length : Int) := by omega
      have hi0 : 0 ≤ i := hn.1
      have di : decide (i < (l.length : Int)) = true := decide_eq_true hi
      have HN1 := Aside0.mk (show 0 ≤ i + 1 ∧ i + 1 + k1 = l.length by omega)
      have HW := Aside0.mk (show wrap64 (i + 1) = i + 1 by have := Kd.C_max H1.out; unfold wrap64; omega)
      obtain ⟨ad, eA, x0, x1⟩ := at_T34 (Kd.C_below H1.out HB.out) i hi0 hi
      subst eA
      have heg := long_enters
      simp only [idxGo] at hg
      have HG1 := Aside0.mk hg
      clear hn HN HG hg
      replace hi0 := eq_true hi0
      replace hi := eq_true hi
      go_wp2_with fail
      refine (long_calls (rd_T34 l i) _).mono ?_
      rintro e w3 ⟨rfl, hb⟩
      have HB3 := Aside0.mk (below_step HB.out hb)
      clear hb x0 x1 HB heg
      by_cases hc : 1000 < (rd_T34 l i).f1.size
      · have hg := HG1.out
        rw [if_pos hc] at hg
        have HG2 := Aside0.mk hg
        have dc : decide (1000 < (rd_T34 l i).f1.size) = true := decide_eq_true hc
        clear hg HG1 hc
        go_wp2
        go_ret
        exact ⟨by have hg := HG2.out; simp [← hg], HB3.out⟩
      · have hg := HG1.out
        rw [if_neg hc] at hg
        have HG2 := Aside0.mk hg
        have dc : decide (1000 < (rd_T34 l i).f1.size) = false := decide_eq_false hc
        clear hg HG1 hc
        go_wp2
        go_roundg k1
        case measure => omega
        case rel => exact ⟨i + 1, (by rw [HW.out]), HN1, HG2, HB3⟩
theorem contains_calls (l : List S34) (A : Option Addr) (c : Nat) (w : World) (h1 : Kd.C k34 w A l.length l) (h2 : l.length ≤ c) :
    Calls Tryz.prog 32 #[.slice A l.length c, .func (.func 33) #[] #[]] w fun e w' => e = .returned (.bool (decide (0 ≤ idxOf l))) ∧ Below w.heap.size w w' := by
  have H1 := Aside0.mk h1
  have H2 := Aside0.mk h2
  clear h1 h2
  go_enter Tryz.func32, Tryz.ntmps32
  go_wp2_with fail
  refine (index_calls l A c _ H1.out H2.out).mono ?_
  rintro e w3 ⟨rfl, hb⟩
  have HB := Aside0.mk hb
  clear hb
  go_wp2
  go_ret
  exact ⟨by first | rfl | (simp; done), HB.out⟩
end Go.Proofs.YtabcnplfkfdeaaaGreatDoor
