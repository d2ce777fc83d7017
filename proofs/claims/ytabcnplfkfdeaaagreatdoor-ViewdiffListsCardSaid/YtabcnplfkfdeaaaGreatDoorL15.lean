/- Walks and plain laws that the claim stands on (part 15). -/
import Derived.Test.YtabcnplfkfdeaaaGreatDoorL3
namespace Go.Proofs.YtabcnplfkfdeaaaGreatDoor
open Go.RowKit Go.Proofs.YtabcnplfkfdeaaaGreatDoorW.PrintWords Go.Proofs.YtabcnplfkfdeaaaGreatDoorW.PrintLast
set_option linter.unusedVariables false
set_option linter.unusedSimpArgs false
def inRange (a lo hi : Int) : Bool := decide (lo ≤ a) && decide (a ≤ hi)
theorem numbers1_calls (a lo hi : Int) (w : World) :
    Calls Tryz.prog 102 #[.int .i64 a, .int .i64 lo, .int .i64 hi] w fun e w' => e = .returned (.bool (inRange a lo hi)) ∧ Drawn0 w w' := by
  by_cases h1 : lo ≤ a
  · go_enter Tryz.func102, Tryz.ntmps102
    go_wp2
    go_ret
    exact ⟨by simp [inRange, h1], Drawn0.refl _⟩
  · go_enter Tryz.func102, Tryz.ntmps102
    go_wp2
    go_ret
    exact ⟨by simp [inRange]; omega, Drawn0.refl _⟩
theorem numbers1_calls' (a lo hi : Int) (r : Bool) (w : World) (h : inRange a lo hi = r) :
    Calls Tryz.prog 102 #[.int .i64 a, .int .i64 lo, .int .i64 hi] w fun e w' => e = .returned (.bool r) ∧ Drawn0 w w' := h ▸ numbers1_calls a lo hi w
def numsOk (n : S25) : Bool := inRange n.f4 0 4095 && (inRange n.f5 0 65535 && (inRange n.f6 0 65535 && (inRange n.f7 315532800 4102444799 && (inRange n.f8 (-1048576) 1048576 && inRange n.f9 0 15))))
def sourcetree_rule_numbers.f (a0_0 : ByteArray) (a0_1 : Int) (a0_2 : ByteArray) (a0_3 : ByteArray) (a0_4 : Int) (a0_5 : Int) (a0_6 : Int) (a0_7 : Int) (a0_8 : Int) (a0_9 : Int) (l0_10 : List S25) (l0_11 : List S44) (a0_12 : Int) : Option Int :=
  some (if numsOk ⟨a0_0, a0_1, a0_2, a0_3, a0_4, a0_5, a0_6, a0_7, a0_8, a0_9, l0_10, l0_11⟩ then 0 else 2)
set_option maxRecDepth 100000 in
set_option maxHeartbeats 4000000 in
theorem sourcetree_rule_numbers.calls (a0_0 : ByteArray) (a0_1 : Int) (a0_2 : ByteArray) (a0_3 : ByteArray) (a0_4 : Int) (a0_5 : Int) (a0_6 : Int) (a0_7 : Int) (a0_8 : Int) (a0_9 : Int) (A0_10 : Option Addr) (c0_10 : Nat) (l0_10 : List S25) (A0_11 : Option Addr) (c0_11 : Nat) (l0_11 : List S44) (a0_12 : Int) (r : Int) (w : World) (hr0_10 : Kd.C k25 w A0_10 l0_10.length l0_10) (hc0_10 : l0_10.length ≤ c0_10) (hr0_11 : Kd.C k44 w A0_11 l0_11.length l0_11) (hc0_11 : l0_11.length ≤ c0_11) (h : sourcetree_rule_numbers.f a0_0 a0_1 a0_2 a0_3 a0_4 a0_5 a0_6 a0_7 a0_8 a0_9 l0_10 l0_11 a0_12 = some r) :
    Calls Tryz.prog 82 #[.agg #[.string a0_0, .int .i64 a0_1, .string a0_2, .string a0_3, .int .i64 a0_4, .int .i64 a0_5, .int .i64 a0_6, .int .i64 a0_7, .int .i64 a0_8, .int .i64 a0_9, .slice A0_10 l0_10.length c0_10, .slice A0_11 l0_11.length c0_11, .int .i64 a0_12]] w fun e w' => e = .returned (.int .i64 r) ∧ Below w.heap.size w w' := by
  have hc : (inRange a0_4 0 4095 = false) ∨ (inRange a0_4 0 4095 = true ∧ inRange a0_5 0 65535 = false) ∨ (inRange a0_4 0 4095 = true ∧ inRange a0_5 0 65535 = true ∧ inRange a0_6 0 65535 = false) ∨ (inRange a0_4 0 4095 = true ∧ inRange a0_5 0 65535 = true ∧ inRange a0_6 0 65535 = true ∧ inRange a0_7 315532800 4102444799 = false) ∨ (inRange a0_4 0 4095 = true ∧ inRange a0_5 0 65535 = true ∧ inRange a0_6 0 65535 = true ∧ inRange a0_7 315532800 4102444799 = true ∧ inRange a0_8 (-1048576) 1048576 = false) ∨ (inRange a0_4 0 4095 = true ∧ inRange a0_5 0 65535 = true ∧ inRange a0_6 0 65535 = true ∧ inRange a0_7 315532800 4102444799 = true ∧ inRange a0_8 (-1048576) 1048576 = true ∧ inRange a0_9 0 15 = false) ∨ (inRange a0_4 0 4095 = true ∧ inRange a0_5 0 65535 = true ∧ inRange a0_6 0 65535 = true ∧ inRange a0_7 315532800 4102444799 = true ∧ inRange a0_8 (-1048576) 1048576 = true ∧ inRange a0_9 0 15 = true) := by
    cases h4 : inRange a0_4 0 4095 <;> cases h5 : inRange a0_5 0 65535 <;> cases h6 : inRange a0_6 0 65535 <;> cases h7 : inRange a0_7 315532800 4102444799 <;> cases h8 : inRange a0_8 (-1048576) 1048576 <;> cases h9 : inRange a0_9 0 15 <;> simp
  clear hr0_10 hr0_11 hc0_10 hc0_11
  have hu97 := Tryz.underlying97
  have hu25 := Tryz.underlying25
  have HB := Aside0.mk (Below.refl w.heap.size w)
  have HR := Aside0.mk h
  clear h
  rcases hc with h4 | ⟨h4, h5⟩ | ⟨h4, h5, h6⟩ | ⟨h4, h5, h6, h7⟩ | ⟨h4, h5, h6, h7, h8⟩ | ⟨h4, h5, h6, h7, h8, h9⟩ | ⟨h4, h5, h6, h7, h8, h9⟩
  · obtain rfl : r = 2 := by
      have := HR.out
      simp only [sourcetree_rule_numbers.f, numsOk, h4, Bool.true_and, Bool.false_and, Bool.and_false, Option.some.injEq] at this
      exact this.symm
    clear HR
    have H4 := Aside0.mk h4
    clear h4
    go_enter Tryz.func82, Tryz.ntmps82
    go_wp2_with (first | ((with_reducible refine (numbers1_calls' a0_4 0 4095 _ _ H4.out).mono ?_); rintro e w' ⟨rfl, ⟨nd, rfl⟩⟩))
    go_ret
    exact ⟨rfl, by repeat (first | exact HB.out | apply below_alloc | apply pw_below_drewN | apply below_drew1)⟩
  · obtain rfl : r = 2 := by
      have := HR.out
      simp only [sourcetree_rule_numbers.f, numsOk, h4, h5, Bool.true_and, Bool.false_and, Bool.and_false, Option.some.injEq] at this
      exact this.symm
    clear HR
    have H4 := Aside0.mk h4
    clear h4
    have H5 := Aside0.mk h5
    clear h5
    go_enter Tryz.func82, Tryz.ntmps82
    go_wp2_with (first | ((with_reducible refine (numbers1_calls' a0_4 0 4095 _ _ H4.out).mono ?_); rintro e w' ⟨rfl, ⟨nd, rfl⟩⟩) | ((with_reducible refine (numbers1_calls' a0_5 0 65535 _ _ H5.out).mono ?_); rintro e w' ⟨rfl, ⟨nd, rfl⟩⟩))
    go_ret
    exact ⟨rfl, by repeat (first | exact HB.out | apply below_alloc | apply pw_below_drewN | apply below_drew1)⟩
  · obtain rfl : r = 2 := by
      have := HR.out
      simp only [sourcetree_rule_numbers.f, numsOk, h4, h5, h6, Bool.true_and, Bool.false_and, Bool.and_false, Option.some.injEq] at this
      exact this.symm
    clear HR
    have H4 := Aside0.mk h4
    clear h4
    have H5 := Aside0.mk h5
    clear h5
    have H6 := Aside0.mk h6
    clear h6
    go_enter Tryz.func82, Tryz.ntmps82
    go_wp2_with (first | ((with_reducible refine (numbers1_calls' a0_4 0 4095 _ _ H4.out).mono ?_); rintro e w' ⟨rfl, ⟨nd, rfl⟩⟩) | ((with_reducible refine (numbers1_calls' a0_5 0 65535 _ _ H5.out).mono ?_); rintro e w' ⟨rfl, ⟨nd, rfl⟩⟩) | ((with_reducible refine (numbers1_calls' a0_6 0 65535 _ _ H6.out).mono ?_); rintro e w' ⟨rfl, ⟨nd, rfl⟩⟩))
    go_ret
    exact ⟨rfl, by repeat (first | exact HB.out | apply below_alloc | apply pw_below_drewN | apply below_drew1)⟩
  · obtain rfl : r = 2 := by
      have := HR.out
      simp only [sourcetree_rule_numbers.f, numsOk, h4, h5, h6, h7, Bool.true_and, Bool.false_and, Bool.and_false, Option.some.injEq] at this
      exact this.symm
    clear HR
    have H4 := Aside0.mk h4
    clear h4
    have H5 := Aside0.mk h5
    clear h5
    have H6 := Aside0.mk h6
    clear h6
    have H7 := Aside0.mk h7
    clear h7
    go_enter Tryz.func82, Tryz.ntmps82
    go_wp2_with (first | ((with_reducible refine (numbers1_calls' a0_4 0 4095 _ _ H4.out).mono ?_); rintro e w' ⟨rfl, ⟨nd, rfl⟩⟩) | ((with_reducible refine (numbers1_calls' a0_5 0 65535 _ _ H5.out).mono ?_); rintro e w' ⟨rfl, ⟨nd, rfl⟩⟩) | ((with_reducible refine (numbers1_calls' a0_6 0 65535 _ _ H6.out).mono ?_); rintro e w' ⟨rfl, ⟨nd, rfl⟩⟩) | ((with_reducible refine (numbers1_calls' a0_7 315532800 4102444799 _ _ H7.out).mono ?_); rintro e w' ⟨rfl, ⟨nd, rfl⟩⟩))
    go_ret
    exact ⟨rfl, by repeat (first | exact HB.out | apply below_alloc | apply pw_below_drewN | apply below_drew1)⟩
  · obtain rfl : r = 2 := by
      have := HR.out
      simp only [sourcetree_rule_numbers.f, numsOk, h4, h5, h6, h7, h8, Bool.true_and, Bool.false_and, Bool.and_false, Option.some.injEq] at this
      exact this.symm
    clear HR
    have H4 := Aside0.mk h4
    clear h4
    have H5 := Aside0.mk h5
    clear h5
    have H6 := Aside0.mk h6
    clear h6
    have H7 := Aside0.mk h7
    clear h7
    have H8 := Aside0.mk h8
    clear h8
    go_enter Tryz.func82, Tryz.ntmps82
    go_wp2_with (first | ((with_reducible refine (numbers1_calls' a0_4 0 4095 _ _ H4.out).mono ?_); rintro e w' ⟨rfl, ⟨nd, rfl⟩⟩) | ((with_reducible refine (numbers1_calls' a0_5 0 65535 _ _ H5.out).mono ?_); rintro e w' ⟨rfl, ⟨nd, rfl⟩⟩) | ((with_reducible refine (numbers1_calls' a0_6 0 65535 _ _ H6.out).mono ?_); rintro e w' ⟨rfl, ⟨nd, rfl⟩⟩) | ((with_reducible refine (numbers1_calls' a0_7 315532800 4102444799 _ _ H7.out).mono ?_); rintro e w' ⟨rfl, ⟨nd, rfl⟩⟩) | ((with_reducible refine (numbers1_calls' a0_8 (-1048576) 1048576 _ _ H8.out).mono ?_); rintro e w' ⟨rfl, ⟨nd, rfl⟩⟩))
    go_ret
    exact ⟨rfl, by repeat (first | exact HB.out | apply below_alloc | apply pw_below_drewN | apply below_drew1)⟩
  · obtain rfl : r = 2 := by
      have := HR.out
      simp only [sourcetree_rule_numbers.f, numsOk, h4, h5, h6, h7, h8, h9, Bool.true_and, Bool.false_and, Bool.and_false, Option.some.injEq] at this
      exact this.symm
    clear HR
    have H4 := Aside0.mk h4
    clear h4
    have H5 := Aside0.mk h5
    clear h5
    have H6 := Aside0.mk h6
    clear h6
    have H7 := Aside0.mk h7
    clear h7
    have H8 := Aside0.mk h8
    clear h8
    have H9 := Aside0.mk h9
    clear h9
    go_enter Tryz.func82, Tryz.ntmps82
    go_wp2_with (first | ((with_reducible refine (numbers1_calls' a0_4 0 4095 _ _ H4.out).mono ?_); rintro e w' ⟨rfl, ⟨nd, rfl⟩⟩) | ((with_reducible refine (numbers1_calls' a0_5 0 65535 _ _ H5.out).mono ?_); rintro e w' ⟨rfl, ⟨nd, rfl⟩⟩) | ((with_reducible refine (numbers1_calls' a0_6 0 65535 _ _ H6.out).mono ?_); rintro e w' ⟨rfl, ⟨nd, rfl⟩⟩) | ((with_reducible refine (numbers1_calls' a0_7 315532800 4102444799 _ _ H7.out).mono ?_); rintro e w' ⟨rfl, ⟨nd, rfl⟩⟩) | ((with_reducible refine (numbers1_calls' a0_8 (-1048576) 1048576 _ _ H8.out).mono ?_); rintro e w' ⟨rfl, ⟨nd, rfl⟩⟩) | ((with_reducible refine (numbers1_calls' a0_9 0 15 _ _ H9.out).mono ?_); rintro e w' ⟨rfl, ⟨nd, rfl⟩⟩))
    go_ret
    exact ⟨rfl, by repeat (first | exact HB.out | apply below_alloc | apply pw_below_drewN | apply below_drew1)⟩
  · obtain rfl : r = 0 := by
      have := HR.out
      simp only [sourcetree_rule_numbers.f, numsOk, h4, h5, h6, h7, h8, h9, Bool.true_and, Bool.false_and, Bool.and_false, Option.some.injEq] at this
      exact this.symm
    clear HR
    have H4 := Aside0.mk h4
    clear h4
    have H5 := Aside0.mk h5
    clear h5
    have H6 := Aside0.mk h6
    clear h6
    have H7 := Aside0.mk h7
    clear h7
    have H8 := Aside0.mk h8
    clear h8
    have H9 := Aside0.mk h9
    clear h9
    go_enter Tryz.func82, Tryz.ntmps82
    go_wp2_with (first | ((with_reducible refine (numbers1_calls' a0_4 0 4095 _ _ H4.out).mono ?_); rintro e w' ⟨rfl, ⟨nd, rfl⟩⟩) | ((with_reducible refine (numbers1_calls' a0_5 0 65535 _ _ H5.out).mono ?_); rintro e w' ⟨rfl, ⟨nd, rfl⟩⟩) | ((with_reducible refine (numbers1_calls' a0_6 0 65535 _ _ H6.out).mono ?_); rintro e w' ⟨rfl, ⟨nd, rfl⟩⟩) | ((with_reducible refine (numbers1_calls' a0_7 315532800 4102444799 _ _ H7.out).mono ?_); rintro e w' ⟨rfl, ⟨nd, rfl⟩⟩) | ((with_reducible refine (numbers1_calls' a0_8 (-1048576) 1048576 _ _ H8.out).mono ?_); rintro e w' ⟨rfl, ⟨nd, rfl⟩⟩) | ((with_reducible refine (numbers1_calls' a0_9 0 15 _ _ H9.out).mono ?_); rintro e w' ⟨rfl, ⟨nd, rfl⟩⟩))
    go_ret
    exact ⟨rfl, by repeat (first | exact HB.out | apply below_alloc | apply pw_below_drewN | apply below_drew1)⟩
end Go.Proofs.YtabcnplfkfdeaaaGreatDoor
