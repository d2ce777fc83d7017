/- Walks and plain laws that the claim stands on (part 7). -/
import Derived.Test.YtabcnplfkfdeaaaGreatDoorL1
import Derived.Test.YtabcnplfkfdeaaaGreatDoorL3
import Derived.Test.YtabcnplfkfdeaaaGreatDoorL6
import Derived.Test.YtabcnplfkfdeaaaGreatDoorL0
namespace Go.Proofs.YtabcnplfkfdeaaaGreatDoor.Q7
open Go.RowKit Go.Proofs.YtabcnplfkfdeaaaGreatDoorW.PrintWords Go.Proofs.YtabcnplfkfdeaaaGreatDoorW.PrintLast Go.Proofs.YtabcnplfkfdeaaaGreatDoorW.PrintMore
attribute [local go_sem] max2_int min2_int max_two min_two max_three min_three max_four min_four   -- for this text's walks alone
set_option linter.unusedVariables false
set_option linter.unusedSimpArgs false
def errW : Option Int → Value
  | none => .nilIface
  | some c => .iface 0 (.int .i64 c)
theorem errW_none : errW none = .nilIface := rfl
theorem errW_some (c : Int) : errW (some c) = .iface 0 (.int .i64 c) := rfl
end Go.Proofs.YtabcnplfkfdeaaaGreatDoor.Q7
namespace Go.Proofs.YtabcnplfkfdeaaaGreatDoor.Q7
open Go.RowKit Go.Proofs.YtabcnplfkfdeaaaGreatDoorW.PrintWords Go.Proofs.YtabcnplfkfdeaaaGreatDoorW.PrintLast Go.Proofs.YtabcnplfkfdeaaaGreatDoorW.PrintMore
attribute [local go_sem] max2_int min2_int max_two min_two max_three min_three max_four min_four   -- for this text's walks alone
set_option linter.unusedVariables false
set_option linter.unusedSimpArgs false
def naming_exists.f (a0 : Int) : Option (Bool) := if a0 ≥ 0 then (some (decide (a0 < 4))) else (some false)
set_option maxHeartbeats 8000000 in
set_option maxRecDepth 100000 in
theorem naming_exists.calls (a0 : Int) (r : Bool) (w : World) (h : naming_exists.f a0 = some r) :
    Calls Tryz.prog 91 #[.int .i64 a0] w fun e w' => e = .returned (.bool r) ∧ Drawn0 w w' := by
  have H : (if a0 ≥ 0 then (some (decide (a0 < 4))) else (some false)) = some r := h
  clear h
  by_cases c2 : a0 ≥ 0
  · rw [if_pos c2] at H
    have c2b0 : decide (0 ≤ a0) = true := decide_eq_true c2
    clear c2
    obtain rfl := Option.some.inj H
    go_enter Tryz.func91, Tryz.ntmps91
    go_wp2
    go_ret
    exact ⟨by first | rfl | (simp; done) | (simp [*]; done), by repeat (first | exact Drawn0.refl _ | apply Drawn0.step)⟩
  · rw [if_neg c2] at H
    have c2b0 : decide (0 ≤ a0) = false := decide_eq_false c2
    clear c2
    obtain rfl := Option.some.inj H
    go_enter Tryz.func91, Tryz.ntmps91
    go_wp2
    go_ret
    exact ⟨by first | rfl | (simp; done) | (simp [*]; done), by repeat (first | exact Drawn0.refl _ | apply Drawn0.step)⟩
end Go.Proofs.YtabcnplfkfdeaaaGreatDoor.Q7
namespace Go.Proofs.YtabcnplfkfdeaaaGreatDoor.Q7
open Go.RowKit Go.Proofs.YtabcnplfkfdeaaaGreatDoorW.PrintWords Go.Proofs.YtabcnplfkfdeaaaGreatDoorW.PrintLast Go.Proofs.YtabcnplfkfdeaaaGreatDoorW.PrintMore
attribute [local go_sem] max2_int min2_int max_two min_two max_three min_three max_four min_four   -- for this text's walks alone
set_option linter.unusedVariables false
set_option linter.unusedSimpArgs false
def naming_Shown.j0 : Nat → Int → Int → Bool → ByteArray → Int → ByteArray → ByteArray → Int → Int → Int → Int → Int → Int → List (S25) → List (S44) → Option (Bool)
  | 0, _, _, _, _, _, _, _, _, _, _, _, _, _, _, _ => none
  | k + 1, x0, x2, x17, x102000, x102001, x102002, x102003, x102004, x102005, x102006, x102007, x102008, x102009, x102010, x102011 => if x17 = true then (some false) else (if x0 = 0 then (if x102001 = 0 then (if x2 > 8 then (some false) else (if x102001 = 2 then (if x0 = 2 then (some true) else (some (x0 == 3))) else (some true))) else (if x102001 = 2 then (if x0 = 2 then (some true) else (some (x0 == 3))) else (some true))) else (if x102001 = 2 then (if x0 = 2 then (some true) else (some (x0 == 3))) else (some true)))
def naming_Shown.f (k : Nat) (a0 : Int) (a1_0 : ByteArray) (a1_1 : Int) (a1_2 : ByteArray) (a1_3 : ByteArray) (a1_4 : Int) (a1_5 : Int) (a1_6 : Int) (a1_7 : Int) (a1_8 : Int) (a1_9 : Int) (l1_10 : List (S25)) (l1_11 : List (S44)) (a2 : Int) : Option (Bool) := (naming_exists.f a0).bind fun t102 => (if t102 = true then (if 0 ≤ a0 then (naming_Shown.j0 k a0 a2 ((Go.bits .and .i64 (shr .i64 a1_9 a0) 1) == 1) a1_0 a1_1 a1_2 a1_3 a1_4 a1_5 a1_6 a1_7 a1_8 a1_9 l1_10 l1_11) else (none)) else (naming_Shown.j0 k a0 a2 true a1_0 a1_1 a1_2 a1_3 a1_4 a1_5 a1_6 a1_7 a1_8 a1_9 l1_10 l1_11))
set_option maxHeartbeats 8000000 in
set_option maxRecDepth 100000 in
theorem naming_Shown.calls (k : Nat) (a0 : Int) (a1_0 : ByteArray) (a1_1 : Int) (a1_2 : ByteArray) (a1_3 : ByteArray) (a1_4 : Int) (a1_5 : Int) (a1_6 : Int) (a1_7 : Int) (a1_8 : Int) (a1_9 : Int) (A1_10 : Option Addr) (c1_10 : Nat) (l1_10 : List (S25)) (A1_11 : Option Addr) (c1_11 : Nat) (l1_11 : List (S44)) (a2 : Int) (r : Bool) (w : World) (hr1_10 : Kd.C k25 w A1_10 l1_10.length l1_10) (hc1_10 : l1_10.length ≤ c1_10) (hr1_11 : Kd.C k44 w A1_11 l1_11.length l1_11) (hc1_11 : l1_11.length ≤ c1_11) (h : naming_Shown.f k a0 a1_0 a1_1 a1_2 a1_3 a1_4 a1_5 a1_6 a1_7 a1_8 a1_9 l1_10 l1_11 a2 = some r) :
    Calls Tryz.prog 106 #[.int .i64 a0, .agg #[.string a1_0, .int .i64 a1_1, .string a1_2, .string a1_3, .int .i64 a1_4, .int .i64 a1_5, .int .i64 a1_6, .int .i64 a1_7, .int .i64 a1_8, .int .i64 a1_9, .slice A1_10 l1_10.length c1_10, .slice A1_11 l1_11.length c1_11], .int .i64 a2] w fun e w' => e = .returned (.bool r) ∧ Below w.heap.size w w' := by
  have hu25 := Tryz.underlying25
  have HR1_10 := Aside0.mk hr1_10
  have HC1_10 := Aside0.mk hc1_10
  clear hr1_10 hc1_10
  have HR1_11 := Aside0.mk hr1_11
  have HC1_11 := Aside0.mk hc1_11
  clear hr1_11 hc1_11
  have HB := Aside0.mk (Below.refl w.heap.size w)
  have H : ((naming_exists.f a0).bind fun t102 => (if t102 = true then (if 0 ≤ a0 then (naming_Shown.j0 k a0 a2 ((Go.bits .and .i64 (shr .i64 a1_9 a0) 1) == 1) a1_0 a1_1 a1_2 a1_3 a1_4 a1_5 a1_6 a1_7 a1_8 a1_9 l1_10 l1_11) else (none)) else (naming_Shown.j0 k a0 a2 true a1_0 a1_1 a1_2 a1_3 a1_4 a1_5 a1_6 a1_7 a1_8 a1_9 l1_10 l1_11))) = some r := h
  clear h
  have HC4 := Aside0.mk H
  clear H
  go_enter Tryz.func106, Tryz.ntmps106
  go_upto_region 1 with (first | ((with_reducible refine gate_dst (N := 4) rfl ?_); refine box_event ?hg (N := 4) ?hd (cs := #[.string a1_0, .int .i64 a1_1, .string a1_2, .string a1_3, .int .i64 a1_4, .int .i64 a1_5, .int .i64 a1_6, .int .i64 a1_7, .int .i64 a1_8, .int .i64 a1_9, .slice A1_10 l1_10.length c1_10, .slice A1_11 l1_11.length c1_11]) (t := 25) ?hr ?_; (case hd => rfl); (case hg => rfl); (case hr => first | (go_simp; done) | (go_simp; rfl)); intro gb101 hg w5 hbox hb; have n0_ := Aside0.mk (below_step (by repeat (first | (with_reducible first | exact HB.out | apply below_alloc | apply pw_below_drewN | apply below_drew1) | exact HB.out)) hb); have n1_ := Aside0.mk (hbox); have n2_ := Aside0.mk ((by rw [hg]; exact (below_size (by repeat (first | (with_reducible first | exact HB.out | apply below_alloc | apply pw_below_drewN | apply below_drew1) | exact HB.out))) : w.heap.size ≤ gb101)); have n3_ := Aside0.mk ((by rw [hg]; exact (below_size (by repeat (first | (with_reducible first | exact HB.out | apply below_alloc | apply pw_below_drewN | apply below_drew1) | exact HB.out))) : w.heap.size ≤ gb101)); clear HB; have HB := n0_; have BK101 := n1_; have GW101 := n2_; have GE101 := n3_; clear n0_ n1_ n2_ n3_; clear hb hbox hg))
  (try simp only [Act.put, List.setIfInBounds_toArray, List.set_cons_zero, List.set_cons_succ])
  go_cut [17] (fun v17 wc => ∃ (kq : Nat) (x17_3 : Bool), v17 = .bool x17_3 ∧ Aside0 (naming_Shown.j0 kq a0 a2 x17_3 a1_0 a1_1 a1_2 a1_3 a1_4 a1_5 a1_6 a1_7 a1_8 a1_9 l1_10 l1_11 = some r) ∧ Aside0 (kq ≤ k) ∧ Aside0 (wc.heap[gb101]? = some (.cells #[.string a1_0, .int .i64 a1_1, .string a1_2, .string a1_3, .int .i64 a1_4, .int .i64 a1_5, .int .i64 a1_6, .int .i64 a1_7, .int .i64 a1_8, .int .i64 a1_9, (.slice A1_10 l1_10.length c1_10), (.slice A1_11 l1_11.length c1_11)] 25 (0, 0))) ∧ Aside0 (Below w.heap.size w wc))
  case first =>
    have H := HC4.out
    clear HC4
    replace H := Option.bind_eq_some_iff.mp H
    obtain ⟨t102, A60, H⟩ := H
    replace H : (if t102 = true then (if 0 ≤ a0 then (naming_Shown.j0 k a0 a2 ((Go.bits .and .i64 (shr .i64 a1_9 a0) 1) == 1) a1_0 a1_1 a1_2 a1_3 a1_4 a1_5 a1_6 a1_7 a1_8 a1_9 l1_10 l1_11) else (none)) else (naming_Shown.j0 k a0 a2 true a1_0 a1_1 a1_2 a1_3 a1_4 a1_5 a1_6 a1_7 a1_8 a1_9 l1_10 l1_11)) = some r := H
    have A6 := Aside0.mk A60
    clear A60
    by_cases c7 : t102 = true
    · subst c7
      have H1 : (if 0 ≤ a0 then (naming_Shown.j0 k a0 a2 ((Go.bits .and .i64 (shr .i64 a1_9 a0) 1) == 1) a1_0 a1_1 a1_2 a1_3 a1_4 a1_5 a1_6 a1_7 a1_8 a1_9 l1_10 l1_11) else (none)) = some r := by rw [if_pos rfl] at H; exact H
      clear H
      have H := H1
      clear H1
      by_cases c8 : 0 ≤ a0
      · rw [if_pos c8] at H
        have c8b0 := eq_true c8
        have c8b1 : decide (0 ≤ a0) = true := decide_eq_true c8
        clear c8
        obtain ⟨ji9, hji9⟩ : ∃ j_ : Int, (shr .i64 a1_9 a0) = j_ := ⟨_, rfl⟩
        replace H : (naming_Shown.j0 k a0 a2 ((Go.bits .and .i64 (ji9) 1) == 1) a1_0 a1_1 a1_2 a1_3 a1_4 a1_5 a1_6 a1_7 a1_8 a1_9 l1_10 l1_11) = some r := by first | (rw [hji9] at H; exact H) | (simp only [hji9] at H ⊢; exact H)
        (try rw [hji9] at A6)
        have hji9_ : (a1_9 / 2 ^ min a0.toNat 64) = ji9 := hji9
        have hji9z : a0 ≤ 64 → (a1_9 / 2 ^ a0.toNat) = ji9 := shr_small hji9
        have H' := Aside0.mk H
        clear H
        go_wp2_with (first | ((with_reducible refine gate_callee (f := 91) rfl ?_); refine goesL_ (some 8) rfl rfl Tryz.func91 (by kernel_rfl) rfl #[.int .i64 a0] rfl (by (try simp only [List.map_toArray, List.map_cons, List.map_nil]); first | done | rfl | (simp only [List.length_drop, List.length_take]; rfl)) ?_; (with_reducible refine (naming_exists.calls a0 true _ A6.out).mono ?_); rintro e w' ⟨rfl, ⟨nd, rfl⟩⟩; refine ⟨_, rfl, ?_⟩; have hcz10_0 : w5.cell? ⟨gb101, 0, none⟩ = some (.string a1_0) := (blk_cell BK101.out 0).trans rfl; have hcz10_1 : w5.cell? ⟨gb101, 1, none⟩ = some (.int .i64 a1_1) := (blk_cell BK101.out 1).trans rfl; have hcz10_2 : w5.cell? ⟨gb101, 2, none⟩ = some (.string a1_2) := (blk_cell BK101.out 2).trans rfl; have hcz10_3 : w5.cell? ⟨gb101, 3, none⟩ = some (.string a1_3) := (blk_cell BK101.out 3).trans rfl; have hcz10_4 : w5.cell? ⟨gb101, 4, none⟩ = some (.int .i64 a1_4) := (blk_cell BK101.out 4).trans rfl; have hcz10_5 : w5.cell? ⟨gb101, 5, none⟩ = some (.int .i64 a1_5) := (blk_cell BK101.out 5).trans rfl; have hcz10_6 : w5.cell? ⟨gb101, 6, none⟩ = some (.int .i64 a1_6) := (blk_cell BK101.out 6).trans rfl; have hcz10_7 : w5.cell? ⟨gb101, 7, none⟩ = some (.int .i64 a1_7) := (blk_cell BK101.out 7).trans rfl; have hcz10_8 : w5.cell? ⟨gb101, 8, none⟩ = some (.int .i64 a1_8) := (blk_cell BK101.out 8).trans rfl; have hcz10_9 : w5.cell? ⟨gb101, 9, none⟩ = some (.int .i64 a1_9) := (blk_cell BK101.out 9).trans rfl; have hcz10_10 : w5.cell? ⟨gb101, 10, none⟩ = some (.slice A1_10 l1_10.length c1_10) := (blk_cell BK101.out 10).trans rfl; have hcz10_11 : w5.cell? ⟨gb101, 11, none⟩ = some (.slice A1_11 l1_11.length c1_11) := (blk_cell BK101.out 11).trans rfl; have hfz10_0 := blk_frozen BK101.out 0; have hfz10_1 := blk_frozen BK101.out 1; have hfz10_2 := blk_frozen BK101.out 2; have hfz10_3 := blk_frozen BK101.out 3; have hfz10_4 := blk_frozen BK101.out 4; have hfz10_5 := blk_frozen BK101.out 5; have hfz10_6 := blk_frozen BK101.out 6; have hfz10_7 := blk_frozen BK101.out 7; have hfz10_8 := blk_frozen BK101.out 8; have hfz10_9 := blk_frozen BK101.out 9; have hfz10_10 := blk_frozen BK101.out 10; have hfz10_11 := blk_frozen BK101.out 11))
        go_meet
        case rel => exact ⟨_, (((Go.bits .and .i64 (ji9) 1) == 1)), (by first | rfl | (simp; done) | (simp only [← hji9] <;> (first | rfl | simp)) | (simp [*]; done)), H', ⟨by first | omega | exact Nat.le_refl _⟩, ⟨by (with_reducible repeat (first | refine blk_drewN ?_ _ | refine blk_drew ?_ | refine blk_alloc ?_ _)); exact BK101.out⟩, ⟨by repeat (first | (with_reducible first | exact HB.out | apply below_alloc | apply pw_below_drewN | apply below_drew1 | refine below_set ?_ GE101.out) | exact HB.out)⟩⟩
      · rw [if_neg c8] at H
        exact absurd H (by simp)
    · replace c7 := Bool.eq_false_iff.mpr c7
      subst c7
      have H1 : (naming_Shown.j0 k a0 a2 true a1_0 a1_1 a1_2 a1_3 a1_4 a1_5 a1_6 a1_7 a1_8 a1_9 l1_10 l1_11) = some r := by rw [if_neg (show ¬ (false = true) by decide)] at H; exact H
      clear H
      have H := H1
      clear H1
      have H' := Aside0.mk H
      clear H
      go_wp2_with (first | ((with_reducible refine gate_callee (f := 91) rfl ?_); refine goesL_ (some 8) rfl rfl Tryz.func91 (by kernel_rfl) rfl #[.int .i64 a0] rfl (by (try simp only [List.map_toArray, List.map_cons, List.map_nil]); first | done | rfl | (simp only [List.length_drop, List.length_take]; rfl)) ?_; (with_reducible refine (naming_exists.calls a0 false _ A6.out).mono ?_); rintro e w' ⟨rfl, ⟨nd, rfl⟩⟩; refine ⟨_, rfl, ?_⟩))
      go_meet
      case rel => exact ⟨_, (true), (by first | rfl | (simp; done) | (simp [*]; done)), H', ⟨by first | omega | exact Nat.le_refl _⟩, ⟨by (with_reducible repeat (first | refine blk_drewN ?_ _ | refine blk_drew ?_ | refine blk_alloc ?_ _)); exact BK101.out⟩, ⟨by repeat (first | (with_reducible first | exact HB.out | apply below_alloc | apply pw_below_drewN | apply below_drew1 | refine below_set ?_ GE101.out) | exact HB.out)⟩⟩
  case rest =>
    clear HC4
    try clear c1
    try clear p2
    try clear c7
    try clear c8
    try clear c8b0
    try clear c8b1
    try clear c9
    try clear c10
    try clear hcz10_0
    try clear hcz10_1
    try clear hcz10_10
    try clear hcz10_11
    try clear hcz10_2
    try clear hcz10_3
    try clear hcz10_4
    try clear hcz10_5
    try clear hcz10_6
    try clear hcz10_7
    try clear hcz10_8
    try clear hcz10_9
    try clear hfz10_0
    try clear hfz10_1
    try clear hfz10_10
    try clear hfz10_11
    try clear hfz10_2
    try clear hfz10_3
    try clear hfz10_4
    try clear hfz10_5
    try clear hfz10_6
    try clear hfz10_7
    try clear hfz10_8
    try clear hfz10_9
    obtain ⟨kq, x17_3, rfl, HA, HJ3, BK101, HB⟩ := hcut
    cases kq with
    | zero => exact absurd HA.out (by simp [naming_Shown.j0])
    | succ kj3 =>
      have H := HA.out
      clear HA
      simp only [naming_Shown.j0] at H
      by_cases c11 : x17_3 = true
      · subst c11
        have H1 : (some false) = some r := by rw [if_pos rfl] at H; exact H
        clear H
        have H := H1
        clear H1
        obtain rfl := Option.some.inj H
        go_wp2
        go_ret
        exact ⟨by first | rfl | (simp [errW_none, errW_some] <;> rfl) | (simp [*, errW_none, errW_some] <;> rfl), by repeat (first | (with_reducible first | exact HB.out | apply below_alloc | apply pw_below_drewN | apply below_drew1 | refine below_set ?_ GE101.out) | exact HB.out)⟩
      · replace c11 := Bool.eq_false_iff.mpr c11
        subst c11
        have H1 : (if a0 = 0 then (if a1_1 = 0 then (if a2 > 8 then (some false) else (if a1_1 = 2 then (if a0 = 2 then (some true) else (some (a0 == 3))) else (some true))) else (if a1_1 = 2 then (if a0 = 2 then (some true) else (some (a0 == 3))) else (some true))) else (if a1_1 = 2 then (if a0 = 2 then (some true) else (some (a0 == 3))) else (some true))) = some r := by rw [if_neg (show ¬ (false = true) by decide)] at H; exact H
        clear H
        have H := H1
        clear H1
        by_cases c12 : a0 = 0
        · rw [if_pos c12] at H
          have c12b0 : (a0 == 0) = true := beq_iff_eq.mpr c12
          have c12b1 : (a0 != 0) = false := bne_eq_false_iff_eq.mpr c12
          clear c12
          by_cases c13 : a1_1 = 0
          · rw [if_pos c13] at H
            have c13b0 : (a1_1 == 0) = true := beq_iff_eq.mpr c13
            have c13b1 : (a1_1 != 0) = false := bne_eq_false_iff_eq.mpr c13
            clear c13
            by_cases c14 : a2 > 8
            · rw [if_pos c14] at H
              have c14b0 : decide (8 < a2) = true := decide_eq_true c14
              clear c14
              obtain rfl := Option.some.inj H
              have hcz15_0 : wc.cell? ⟨gb101, 0, none⟩ = some (.string a1_0) := (blk_cell BK101.out 0).trans rfl
              have hcz15_1 : wc.cell? ⟨gb101, 1, none⟩ = some (.int .i64 a1_1) := (blk_cell BK101.out 1).trans rfl
              have hcz15_2 : wc.cell? ⟨gb101, 2, none⟩ = some (.string a1_2) := (blk_cell BK101.out 2).trans rfl
              have hcz15_3 : wc.cell? ⟨gb101, 3, none⟩ = some (.string a1_3) := (blk_cell BK101.out 3).trans rfl
              have hcz15_4 : wc.cell? ⟨gb101, 4, none⟩ = some (.int .i64 a1_4) := (blk_cell BK101.out 4).trans rfl
              have hcz15_5 : wc.cell? ⟨gb101, 5, none⟩ = some (.int .i64 a1_5) := (blk_cell BK101.out 5).trans rfl
              have hcz15_6 : wc.cell? ⟨gb101, 6, none⟩ = some (.int .i64 a1_6) := (blk_cell BK101.out 6).trans rfl
              have hcz15_7 : wc.cell? ⟨gb101, 7, none⟩ = some (.int .i64 a1_7) := (blk_cell BK101.out 7).trans rfl
              have hcz15_8 : wc.cell? ⟨gb101, 8, none⟩ = some (.int .i64 a1_8) := (blk_cell BK101.out 8).trans rfl
              have hcz15_9 : wc.cell? ⟨gb101, 9, none⟩ = some (.int .i64 a1_9) := (blk_cell BK101.out 9).trans rfl
              have hcz15_10 : wc.cell? ⟨gb101, 10, none⟩ = some (.slice A1_10 l1_10.length c1_10) := (blk_cell BK101.out 10).trans rfl
              have hcz15_11 : wc.cell? ⟨gb101, 11, none⟩ = some (.slice A1_11 l1_11.length c1_11) := (blk_cell BK101.out 11).trans rfl
              have hfz15_0 := blk_frozen BK101.out 0
              have hfz15_1 := blk_frozen BK101.out 1
              have hfz15_2 := blk_frozen BK101.out 2
              have hfz15_3 := blk_frozen BK101.out 3
              have hfz15_4 := blk_frozen BK101.out 4
              have hfz15_5 := blk_frozen BK101.out 5
              have hfz15_6 := blk_frozen BK101.out 6
              have hfz15_7 := blk_frozen BK101.out 7
              have hfz15_8 := blk_frozen BK101.out 8
              have hfz15_9 := blk_frozen BK101.out 9
              have hfz15_10 := blk_frozen BK101.out 10
              have hfz15_11 := blk_frozen BK101.out 11
              go_wp2
              go_ret
              exact ⟨by first | rfl | (simp [errW_none, errW_some] <;> rfl) | (simp [*, errW_none, errW_some] <;> rfl), by repeat (first | (with_reducible first | exact HB.out | apply below_alloc | apply pw_below_drewN | apply below_drew1 | refine below_set ?_ GE101.out) | exact HB.out)⟩
            · rw [if_neg c14] at H
              have c14b0 : decide (8 < a2) = false := decide_eq_false c14
              clear c14
              by_cases c16 : a1_1 = 2
              · rw [if_pos c16] at H
                have c16b0 : (a1_1 == 2) = true := beq_iff_eq.mpr c16
                have c16b1 : (a1_1 != 2) = false := bne_eq_false_iff_eq.mpr c16
                clear c16
                by_cases c17 : a0 = 2
                · rw [if_pos c17] at H
                  have c17b0 : (a0 == 2) = true := beq_iff_eq.mpr c17
                  have c17b1 : (a0 != 2) = false := bne_eq_false_iff_eq.mpr c17
                  clear c17
                  obtain rfl := Option.some.inj H
                  have hcz18_0 : wc.cell? ⟨gb101, 0, none⟩ = some (.string a1_0) := (blk_cell BK101.out 0).trans rfl
                  have hcz18_1 : wc.cell? ⟨gb101, 1, none⟩ = some (.int .i64 a1_1) := (blk_cell BK101.out 1).trans rfl
                  have hcz18_2 : wc.cell? ⟨gb101, 2, none⟩ = some (.string a1_2) := (blk_cell BK101.out 2).trans rfl
                  have hcz18_3 : wc.cell? ⟨gb101, 3, none⟩ = some (.string a1_3) := (blk_cell BK101.out 3).trans rfl
                  have hcz18_4 : wc.cell? ⟨gb101, 4, none⟩ = some (.int .i64 a1_4) := (blk_cell BK101.out 4).trans rfl
                  have hcz18_5 : wc.cell? ⟨gb101, 5, none⟩ = some (.int .i64 a1_5) := (blk_cell BK101.out 5).trans rfl
                  have hcz18_6 : wc.cell? ⟨gb101, 6, none⟩ = some (.int .i64 a1_6) := (blk_cell BK101.out 6).trans rfl
                  have hcz18_7 : wc.cell? ⟨gb101, 7, none⟩ = some (.int .i64 a1_7) := (blk_cell BK101.out 7).trans rfl
                  have hcz18_8 : wc.cell? ⟨gb101, 8, none⟩ = some (.int .i64 a1_8) := (blk_cell BK101.out 8).trans rfl
                  have hcz18_9 : wc.cell? ⟨gb101, 9, none⟩ = some (.int .i64 a1_9) := (blk_cell BK101.out 9).trans rfl
                  have hcz18_10 : wc.cell? ⟨gb101, 10, none⟩ = some (.slice A1_10 l1_10.length c1_10) := (blk_cell BK101.out 10).trans rfl
                  have hcz18_11 : wc.cell? ⟨gb101, 11, none⟩ = some (.slice A1_11 l1_11.length c1_11) := (blk_cell BK101.out 11).trans rfl
                  have hfz18_0 := blk_frozen BK101.out 0
                  have hfz18_1 := blk_frozen BK101.out 1
                  have hfz18_2 := blk_frozen BK101.out 2
                  have hfz18_3 := blk_frozen BK101.out 3
                  have hfz18_4 := blk_frozen BK101.out 4
                  have hfz18_5 := blk_frozen BK101.out 5
                  have hfz18_6 := blk_frozen BK101.out 6
                  have hfz18_7 := blk_frozen BK101.out 7
                  have hfz18_8 := blk_frozen BK101.out 8
                  have hfz18_9 := blk_frozen BK101.out 9
                  have hfz18_10 := blk_frozen BK101.out 10
                  have hfz18_11 := blk_frozen BK101.out 11
                  go_wp2
                  go_ret
                  exact ⟨by first | rfl | (simp [errW_none, errW_some] <;> rfl) | (simp [*, errW_none, errW_some] <;> rfl), by repeat (first | (with_reducible first | exact HB.out | apply below_alloc | apply pw_below_drewN | apply below_drew1 | refine below_set ?_ GE101.out) | exact HB.out)⟩
                · rw [if_neg c17] at H
                  have c17b0 : (a0 == 2) = false := beq_eq_false_iff_ne.mpr c17
                  have c17b1 : (a0 != 2) = true := bne_iff_ne.mpr c17
                  obtain rfl := Option.some.inj H
                  have hcz19_0 : wc.cell? ⟨gb101, 0, none⟩ = some (.string a1_0) := (blk_cell BK101.out 0).trans rfl
                  have hcz19_1 : wc.cell? ⟨gb101, 1, none⟩ = some (.int .i64 a1_1) := (blk_cell BK101.out 1).trans rfl
                  have hcz19_2 : wc.cell? ⟨gb101, 2, none⟩ = some (.string a1_2) := (blk_cell BK101.out 2).trans rfl
                  have hcz19_3 : wc.cell? ⟨gb101, 3, none⟩ = some (.string a1_3) := (blk_cell BK101.out 3).trans rfl
                  have hcz19_4 : wc.cell? ⟨gb101, 4, none⟩ = some (.int .i64 a1_4) := (blk_cell BK101.out 4).trans rfl
                  have hcz19_5 : wc.cell? ⟨gb101, 5, none⟩ = some (.int .i64 a1_5) := (blk_cell BK101.out 5).trans rfl
                  have hcz19_6 : wc.cell? ⟨gb101, 6, none⟩ = some (.int .i64 a1_6) := (blk_cell BK101.out 6).trans rfl
                  have hcz19_7 : wc.cell? ⟨gb101, 7, none⟩ = some (.int .i64 a1_7) := (blk_cell BK101.out 7).trans rfl
                  have hcz19_8 : wc.cell? ⟨gb101, 8, none⟩ = some (.int .i64 a1_8) := (blk_cell BK101.out 8).trans rfl
                  have hcz19_9 : wc.cell? ⟨gb101, 9, none⟩ = some (.int .i64 a1_9) := (blk_cell BK101.out 9).trans rfl
                  have hcz19_10 : wc.cell? ⟨gb101, 10, none⟩ = some (.slice A1_10 l1_10.length c1_10) := (blk_cell BK101.out 10).trans rfl
                  have hcz19_11 : wc.cell? ⟨gb101, 11, none⟩ = some (.slice A1_11 l1_11.length c1_11) := (blk_cell BK101.out 11).trans rfl
                  have hfz19_0 := blk_frozen BK101.out 0
                  have hfz19_1 := blk_frozen BK101.out 1
                  have hfz19_2 := blk_frozen BK101.out 2
                  have hfz19_3 := blk_frozen BK101.out 3
                  have hfz19_4 := blk_frozen BK101.out 4
                  have hfz19_5 := blk_frozen BK101.out 5
                  have hfz19_6 := blk_frozen BK101.out 6
                  have hfz19_7 := blk_frozen BK101.out 7
                  have hfz19_8 := blk_frozen BK101.out 8
                  have hfz19_9 := blk_frozen BK101.out 9
                  have hfz19_10 := blk_frozen BK101.out 10
                  have hfz19_11 := blk_frozen BK101.out 11
                  go_wp2
                  go_ret
                  exact ⟨by first | rfl | (simp [errW_none, errW_some] <;> rfl) | (simp [*, errW_none, errW_some] <;> rfl), by repeat (first | (with_reducible first | exact HB.out | apply below_alloc | apply pw_below_drewN | apply below_drew1 | refine below_set ?_ GE101.out) | exact HB.out)⟩
              · rw [if_neg c16] at H
                have c16b0 : (a1_1 == 2) = false := beq_eq_false_iff_ne.mpr c16
                have c16b1 : (a1_1 != 2) = true := bne_iff_ne.mpr c16
                obtain rfl := Option.some.inj H
                have hcz20_0 : wc.cell? ⟨gb101, 0, none⟩ = some (.string a1_0) := (blk_cell BK101.out 0).trans rfl
                have hcz20_1 : wc.cell? ⟨gb101, 1, none⟩ = some (.int .i64 a1_1) := (blk_cell BK101.out 1).trans rfl
                have hcz20_2 : wc.cell? ⟨gb101, 2, none⟩ = some (.string a1_2) := (blk_cell BK101.out 2).trans rfl
                have hcz20_3 : wc.cell? ⟨gb101, 3, none⟩ = some (.string a1_3) := (blk_cell BK101.out 3).trans rfl
                have hcz20_4 : wc.cell? ⟨gb101, 4, none⟩ = some (.int .i64 a1_4) := (blk_cell BK101.out 4).trans rfl
                have hcz20_5 : wc.cell? ⟨gb101, 5, none⟩ = some (.int .i64 a1_5) := (blk_cell BK101.out 5).trans rfl
                have hcz20_6 : wc.cell? ⟨gb101, 6, none⟩ = some (.int .i64 a1_6) := (blk_cell BK101.out 6).trans rfl
                have hcz20_7 : wc.cell? ⟨gb101, 7, none⟩ = some (.int .i64 a1_7) := (blk_cell BK101.out 7).trans rfl
                have hcz20_8 : wc.cell? ⟨gb101, 8, none⟩ = some (.int .i64 a1_8) := (blk_cell BK101.out 8).trans rfl
                have hcz20_9 : wc.cell? ⟨gb101, 9, none⟩ = some (.int .i64 a1_9) := (blk_cell BK101.out 9).trans rfl
                have hcz20_10 : wc.cell? ⟨gb101, 10, none⟩ = some (.slice A1_10 l1_10.length c1_10) := (blk_cell BK101.out 10).trans rfl
                have hcz20_11 : wc.cell? ⟨gb101, 11, none⟩ = some (.slice A1_11 l1_11.length c1_11) := (blk_cell BK101.out 11).trans rfl
                have hfz20_0 := blk_frozen BK101.out 0
                have hfz20_1 := blk_frozen BK101.out 1
                have hfz20_2 := blk_frozen BK101.out 2
                have hfz20_3 := blk_frozen BK101.out 3
                have hfz20_4 := blk_frozen BK101.out 4
                have hfz20_5 := blk_frozen BK101.out 5
                have hfz20_6 := blk_frozen BK101.out 6
                have hfz20_7 := blk_frozen BK101.out 7
                have hfz20_8 := blk_frozen BK101.out 8
                have hfz20_9 := blk_frozen BK101.out 9
                have hfz20_10 := blk_frozen BK101.out 10
                have hfz20_11 := blk_frozen BK101.out 11
                go_wp2
                go_ret
                exact ⟨by first | rfl | (simp [errW_none, errW_some] <;> rfl) | (simp [*, errW_none, errW_some] <;> rfl), by repeat (first | (with_reducible first | exact HB.out | apply below_alloc | apply pw_below_drewN | apply below_drew1 | refine below_set ?_ GE101.out) | exact HB.out)⟩
          · rw [if_neg c13] at H
            have c13b0 : (a1_1 == 0) = false := beq_eq_false_iff_ne.mpr c13
            have c13b1 : (a1_1 != 0) = true := bne_iff_ne.mpr c13
            by_cases c21 : a1_1 = 2
            · rw [if_pos c21] at H
              have c21b0 : (a1_1 == 2) = true := beq_iff_eq.mpr c21
              have c21b1 : (a1_1 != 2) = false := bne_eq_false_iff_eq.mpr c21
              clear c21
              by_cases c22 : a0 = 2
              · rw [if_pos c22] at H
                have c22b0 : (a0 == 2) = true := beq_iff_eq.mpr c22
                have c22b1 : (a0 != 2) = false := bne_eq_false_iff_eq.mpr c22
                clear c22
                obtain rfl := Option.some.inj H
                have hcz23_0 : wc.cell? ⟨gb101, 0, none⟩ = some (.string a1_0) := (blk_cell BK101.out 0).trans rfl
                have hcz23_1 : wc.cell? ⟨gb101, 1, none⟩ = some (.int .i64 a1_1) := (blk_cell BK101.out 1).trans rfl
                have hcz23_2 : wc.cell? ⟨gb101, 2, none⟩ = some (.string a1_2) := (blk_cell BK101.out 2).trans rfl
                have hcz23_3 : wc.cell? ⟨gb101, 3, none⟩ = some (.string a1_3) := (blk_cell BK101.out 3).trans rfl
                have hcz23_4 : wc.cell? ⟨gb101, 4, none⟩ = some (.int .i64 a1_4) := (blk_cell BK101.out 4).trans rfl
                have hcz23_5 : wc.cell? ⟨gb101, 5, none⟩ = some (.int .i64 a1_5) := (blk_cell BK101.out 5).trans rfl
                have hcz23_6 : wc.cell? ⟨gb101, 6, none⟩ = some (.int .i64 a1_6) := (blk_cell BK101.out 6).trans rfl
                have hcz23_7 : wc.cell? ⟨gb101, 7, none⟩ = some (.int .i64 a1_7) := (blk_cell BK101.out 7).trans rfl
                have hcz23_8 : wc.cell? ⟨gb101, 8, none⟩ = some (.int .i64 a1_8) := (blk_cell BK101.out 8).trans rfl
                have hcz23_9 : wc.cell? ⟨gb101, 9, none⟩ = some (.int .i64 a1_9) := (blk_cell BK101.out 9).trans rfl
                have hcz23_10 : wc.cell? ⟨gb101, 10, none⟩ = some (.slice A1_10 l1_10.length c1_10) := (blk_cell BK101.out 10).trans rfl
                have hcz23_11 : wc.cell? ⟨gb101, 11, none⟩ = some (.slice A1_11 l1_11.length c1_11) := (blk_cell BK101.out 11).trans rfl
                have hfz23_0 := blk_frozen BK101.out 0
                have hfz23_1 := blk_frozen BK101.out 1
                have hfz23_2 := blk_frozen BK101.out 2
                have hfz23_3 := blk_frozen BK101.out 3
                have hfz23_4 := blk_frozen BK101.out 4
                have hfz23_5 := blk_frozen BK101.out 5
                have hfz23_6 := blk_frozen BK101.out 6
                have hfz23_7 := blk_frozen BK101.out 7
                have hfz23_8 := blk_frozen BK101.out 8
                have hfz23_9 := blk_frozen BK101.out 9
                have hfz23_10 := blk_frozen BK101.out 10
                have hfz23_11 := blk_frozen BK101.out 11
                go_wp2
                go_ret
                exact ⟨by first | rfl | (simp [errW_none, errW_some] <;> rfl) | (simp [*, errW_none, errW_some] <;> rfl), by repeat (first | (with_reducible first | exact HB.out | apply below_alloc | apply pw_below_drewN | apply below_drew1 | refine below_set ?_ GE101.out) | exact HB.out)⟩
              · rw [if_neg c22] at H
                have c22b0 : (a0 == 2) = false := beq_eq_false_iff_ne.mpr c22
                have c22b1 : (a0 != 2) = true := bne_iff_ne.mpr c22
                obtain rfl := Option.some.inj H
                have hcz24_0 : wc.cell? ⟨gb101, 0, none⟩ = some (.string a1_0) := (blk_cell BK101.out 0).trans rfl
                have hcz24_1 : wc.cell? ⟨gb101, 1, none⟩ = some (.int .i64 a1_1) := (blk_cell BK101.out 1).trans rfl
                have hcz24_2 : wc.cell? ⟨gb101, 2, none⟩ = some (.string a1_2) := (blk_cell BK101.out 2).trans rfl
                have hcz24_3 : wc.cell? ⟨gb101, 3, none⟩ = some (.string a1_3) := (blk_cell BK101.out 3).trans rfl
                have hcz24_4 : wc.cell? ⟨gb101, 4, none⟩ = some (.int .i64 a1_4) := (blk_cell BK101.out 4).trans rfl
                have hcz24_5 : wc.cell? ⟨gb101, 5, none⟩ = some (.int .i64 a1_5) := (blk_cell BK101.out 5).trans rfl
                have hcz24_6 : wc.cell? ⟨gb101, 6, none⟩ = some (.int .i64 a1_6) := (blk_cell BK101.out 6).trans rfl
                have hcz24_7 : wc.cell? ⟨gb101, 7, none⟩ = some (.int .i64 a1_7) := (blk_cell BK101.out 7).trans rfl
                have hcz24_8 : wc.cell? ⟨gb101, 8, none⟩ = some (.int .i64 a1_8) := (blk_cell BK101.out 8).trans rfl
                have hcz24_9 : wc.cell? ⟨gb101, 9, none⟩ = some (.int .i64 a1_9) := (blk_cell BK101.out 9).trans rfl
                have hcz24_10 : wc.cell? ⟨gb101, 10, none⟩ = some (.slice A1_10 l1_10.length c1_10) := (blk_cell BK101.out 10).trans rfl
                have hcz24_11 : wc.cell? ⟨gb101, 11, none⟩ = some (.slice A1_11 l1_11.length c1_11) := (blk_cell BK101.out 11).trans rfl
                have hfz24_0 := blk_frozen BK101.out 0
                have hfz24_1 := blk_frozen BK101.out 1
                have hfz24_2 := blk_frozen BK101.out 2
                have hfz24_3 := blk_frozen BK101.out 3
                have hfz24_4 := blk_frozen BK101.out 4
                have hfz24_5 := blk_frozen BK101.out 5
                have hfz24_6 := blk_frozen BK101.out 6
                have hfz24_7 := blk_frozen BK101.out 7
                have hfz24_8 := blk_frozen BK101.out 8
                have hfz24_9 := blk_frozen BK101.out 9
                have hfz24_10 := blk_frozen BK101.out 10
                have hfz24_11 := blk_frozen BK101.out 11
                go_wp2
                go_ret
                exact ⟨by first | rfl | (simp [errW_none, errW_some] <;> rfl) | (simp [*, errW_none, errW_some] <;> rfl), by repeat (first | (with_reducible first | exact HB.out | apply below_alloc | apply pw_below_drewN | apply below_drew1 | refine below_set ?_ GE101.out) | exact HB.out)⟩
            · rw [if_neg c21] at H
              have c21b0 : (a1_1 == 2) = false := beq_eq_false_iff_ne.mpr c21
              have c21b1 : (a1_1 != 2) = true := bne_iff_ne.mpr c21
              obtain rfl := Option.some.inj H
              have hcz25_0 : wc.cell? ⟨gb101, 0, none⟩ = some (.string a1_0) := (blk_cell BK101.out 0).trans rfl
              have hcz25_1 : wc.cell? ⟨gb101, 1, none⟩ = some (.int .i64 a1_1) := (blk_cell BK101.out 1).trans rfl
              have hcz25_2 : wc.cell? ⟨gb101, 2, none⟩ = some (.string a1_2) := (blk_cell BK101.out 2).trans rfl
              have hcz25_3 : wc.cell? ⟨gb101, 3, none⟩ = some (.string a1_3) := (blk_cell BK101.out 3).trans rfl
              have hcz25_4 : wc.cell? ⟨gb101, 4, none⟩ = some (.int .i64 a1_4) := (blk_cell BK101.out 4).trans rfl
              have hcz25_5 : wc.cell? ⟨gb101, 5, none⟩ = some (.int .i64 a1_5) := (blk_cell BK101.out 5).trans rfl
              have hcz25_6 : wc.cell? ⟨gb101, 6, none⟩ = some (.int .i64 a1_6) := (blk_cell BK101.out 6).trans rfl
              have hcz25_7 : wc.cell? ⟨gb101, 7, none⟩ = some (.int .i64 a1_7) := (blk_cell BK101.out 7).trans rfl
              have hcz25_8 : wc.cell? ⟨gb101, 8, none⟩ = some (.int .i64 a1_8) := (blk_cell BK101.out 8).trans rfl
              have hcz25_9 : wc.cell? ⟨gb101, 9, none⟩ = some (.int .i64 a1_9) := (blk_cell BK101.out 9).trans rfl
              have hcz25_10 : wc.cell? ⟨gb101, 10, none⟩ = some (.slice A1_10 l1_10.length c1_10) := (blk_cell BK101.out 10).trans rfl
              have hcz25_11 : wc.cell? ⟨gb101, 11, none⟩ = some (.slice A1_11 l1_11.length c1_11) := (blk_cell BK101.out 11).trans rfl
              have hfz25_0 := blk_frozen BK101.out 0
              have hfz25_1 := blk_frozen BK101.out 1
              have hfz25_2 := blk_frozen BK101.out 2
              have hfz25_3 := blk_frozen BK101.out 3
              have hfz25_4 := blk_frozen BK101.out 4
              have hfz25_5 := blk_frozen BK101.out 5
              have hfz25_6 := blk_frozen BK101.out 6
              have hfz25_7 := blk_frozen BK101.out 7
              have hfz25_8 := blk_frozen BK101.out 8
              have hfz25_9 := blk_frozen BK101.out 9
              have hfz25_10 := blk_frozen BK101.out 10
              have hfz25_11 := blk_frozen BK101.out 11
              go_wp2
              go_ret
              exact ⟨by first | rfl | (simp [errW_none, errW_some] <;> rfl) | (simp [*, errW_none, errW_some] <;> rfl), by repeat (first | (with_reducible first | exact HB.out | apply below_alloc | apply pw_below_drewN | apply below_drew1 | refine below_set ?_ GE101.out) | exact HB.out)⟩
        · rw [if_neg c12] at H
          have c12b0 : (a0 == 0) = false := beq_eq_false_iff_ne.mpr c12
          have c12b1 : (a0 != 0) = true := bne_iff_ne.mpr c12
          by_cases c26 : a1_1 = 2
          · rw [if_pos c26] at H
            have c26b0 : (a1_1 == 2) = true := beq_iff_eq.mpr c26
            have c26b1 : (a1_1 != 2) = false := bne_eq_false_iff_eq.mpr c26
            clear c26
            by_cases c27 : a0 = 2
            · rw [if_pos c27] at H
              have c27b0 : (a0 == 2) = true := beq_iff_eq.mpr c27
              have c27b1 : (a0 != 2) = false := bne_eq_false_iff_eq.mpr c27
              clear c27
              obtain rfl := Option.some.inj H
              have hcz28_0 : wc.cell? ⟨gb101, 0, none⟩ = some (.string a1_0) := (blk_cell BK101.out 0).trans rfl
              have hcz28_1 : wc.cell? ⟨gb101, 1, none⟩ = some (.int .i64 a1_1) := (blk_cell BK101.out 1).trans rfl
              have hcz28_2 : wc.cell? ⟨gb101, 2, none⟩ = some (.string a1_2) := (blk_cell BK101.out 2).trans rfl
              have hcz28_3 : wc.cell? ⟨gb101, 3, none⟩ = some (.string a1_3) := (blk_cell BK101.out 3).trans rfl
              have hcz28_4 : wc.cell? ⟨gb101, 4, none⟩ = some (.int .i64 a1_4) := (blk_cell BK101.out 4).trans rfl
              have hcz28_5 : wc.cell? ⟨gb101, 5, none⟩ = some (.int .i64 a1_5) := (blk_cell BK101.out 5).trans rfl
              have hcz28_6 : wc.cell? ⟨gb101, 6, none⟩ = some (.int .i64 a1_6) := (blk_cell BK101.out 6).trans rfl
              have hcz28_7 : wc.cell? ⟨gb101, 7, none⟩ = some (.int .i64 a1_7) := (blk_cell BK101.out 7).trans rfl
              have hcz28_8 : wc.cell? ⟨gb101, 8, none⟩ = some (.int .i64 a1_8) := (blk_cell BK101.out 8).trans rfl
              have hcz28_9 : wc.cell? ⟨gb101, 9, none⟩ = some (.int .i64 a1_9) := (blk_cell BK101.out 9).trans rfl
              have hcz28_10 : wc.cell? ⟨gb101, 10, none⟩ = some (.slice A1_10 l1_10.length c1_10) := (blk_cell BK101.out 10).trans rfl
              have hcz28_11 : wc.cell? ⟨gb101, 11, none⟩ = some (.slice A1_11 l1_11.length c1_11) := (blk_cell BK101.out 11).trans rfl
              have hfz28_0 := blk_frozen BK101.out 0
              have hfz28_1 := blk_frozen BK101.out 1
              have hfz28_2 := blk_frozen BK101.out 2
              have hfz28_3 := blk_frozen BK101.out 3
              have hfz28_4 := blk_frozen BK101.out 4
              have hfz28_5 := blk_frozen BK101.out 5
              have hfz28_6 := blk_frozen BK101.out 6
              have hfz28_7 := blk_frozen BK101.out 7
              have hfz28_8 := blk_frozen BK101.out 8
              have hfz28_9 := blk_frozen BK101.out 9
              have hfz28_10 := blk_frozen BK101.out 10
              have hfz28_11 := blk_frozen BK101.out 11
              go_wp2
              go_ret
              exact ⟨by first | rfl | (simp [errW_none, errW_some] <;> rfl) | (simp [*, errW_none, errW_some] <;> rfl), by repeat (first | (with_reducible first | exact HB.out | apply below_alloc | apply pw_below_drewN | apply below_drew1 | refine below_set ?_ GE101.out) | exact HB.out)⟩
            · rw [if_neg c27] at H
              have c27b0 : (a0 == 2) = false := beq_eq_false_iff_ne.mpr c27
              have c27b1 : (a0 != 2) = true := bne_iff_ne.mpr c27
              obtain rfl := Option.some.inj H
              have hcz29_0 : wc.cell? ⟨gb101, 0, none⟩ = some (.string a1_0) := (blk_cell BK101.out 0).trans rfl
              have hcz29_1 : wc.cell? ⟨gb101, 1, none⟩ = some (.int .i64 a1_1) := (blk_cell BK101.out 1).trans rfl
              have hcz29_2 : wc.cell? ⟨gb101, 2, none⟩ = some (.string a1_2) := (blk_cell BK101.out 2).trans rfl
              have hcz29_3 : wc.cell? ⟨gb101, 3, none⟩ = some (.string a1_3) := (blk_cell BK101.out 3).trans rfl
              have hcz29_4 : wc.cell? ⟨gb101, 4, none⟩ = some (.int .i64 a1_4) := (blk_cell BK101.out 4).trans rfl
              have hcz29_5 : wc.cell? ⟨gb101, 5, none⟩ = some (.int .i64 a1_5) := (blk_cell BK101.out 5).trans rfl
              have hcz29_6 : wc.cell? ⟨gb101, 6, none⟩ = some (.int .i64 a1_6) := (blk_cell BK101.out 6).trans rfl
              have hcz29_7 : wc.cell? ⟨gb101, 7, none⟩ = some (.int .i64 a1_7) := (blk_cell BK101.out 7).trans rfl
              have hcz29_8 : wc.cell? ⟨gb101, 8, none⟩ = some (.int .i64 a1_8) := (blk_cell BK101.out 8).trans rfl
              have hcz29_9 : wc.cell? ⟨gb101, 9, none⟩ = some (.int .i64 a1_9) := (blk_cell BK101.out 9).trans rfl
              have hcz29_10 : wc.cell? ⟨gb101, 10, none⟩ = some (.slice A1_10 l1_10.length c1_10) := (blk_cell BK101.out 10).trans rfl
              have hcz29_11 : wc.cell? ⟨gb101, 11, none⟩ = some (.slice A1_11 l1_11.length c1_11) := (blk_cell BK101.out 11).trans rfl
              have hfz29_0 := blk_frozen BK101.out 0
              have hfz29_1 := blk_frozen BK101.out 1
              have hfz29_2 := blk_frozen BK101.out 2
              have hfz29_3 := blk_frozen BK101.out 3
              have hfz29_4 := blk_frozen BK101.out 4
              have hfz29_5 := blk_frozen BK101.out 5
              have hfz29_6 := blk_frozen BK101.out 6
              have hfz29_7 := blk_frozen BK101.out 7
              have hfz29_8 := blk_frozen BK101.out 8
              have hfz29_9 := blk_frozen BK101.out 9
              have hfz29_10 := blk_frozen BK101.out 10
              have hfz29_11 := blk_frozen BK101.out 11
              go_wp2
              go_ret
              exact ⟨by first | rfl | (simp [errW_none, errW_some] <;> rfl) | (simp [*, errW_none, errW_some] <;> rfl), by repeat (first | (with_reducible first | exact HB.out | apply below_alloc | apply pw_below_drewN | apply below_drew1 | refine below_set ?_ GE101.out) | exact HB.out)⟩
          · rw [if_neg c26] at H
            have c26b0 : (a1_1 == 2) = false := beq_eq_false_iff_ne.mpr c26
            have c26b1 : (a1_1 != 2) = true := bne_iff_ne.mpr c26
            obtain rfl := Option.some.inj H
            have hcz30_0 : wc.cell? ⟨gb101, 0, none⟩ = some (.string a1_0) := (blk_cell BK101.out 0).trans rfl
            have hcz30_1 : wc.cell? ⟨gb101, 1, none⟩ = some (.int .i64 a1_1) := (blk_cell BK101.out 1).trans rfl
            have hcz30_2 : wc.cell? ⟨gb101, 2, none⟩ = some (.string a1_2) := (blk_cell BK101.out 2).trans rfl
            have hcz30_3 : wc.cell? ⟨gb101, 3, none⟩ = some (.string a1_3) := (blk_cell BK101.out 3).trans rfl
            have hcz30_4 : wc.cell? ⟨gb101, 4, none⟩ = some (.int .i64 a1_4) := (blk_cell BK101.out 4).trans rfl
            have hcz30_5 : wc.cell? ⟨gb101, 5, none⟩ = some (.int .i64 a1_5) := (blk_cell BK101.out 5).trans rfl
            have hcz30_6 : wc.cell? ⟨gb101, 6, none⟩ = some (.int .i64 a1_6) := (blk_cell BK101.out 6).trans rfl
            have hcz30_7 : wc.cell? ⟨gb101, 7, none⟩ = some (.int .i64 a1_7) := (blk_cell BK101.out 7).trans rfl
            have hcz30_8 : wc.cell? ⟨gb101, 8, none⟩ = some (.int .i64 a1_8) := (blk_cell BK101.out 8).trans rfl
            have hcz30_9 : wc.cell? ⟨gb101, 9, none⟩ = some (.int .i64 a1_9) := (blk_cell BK101.out 9).trans rfl
            have hcz30_10 : wc.cell? ⟨gb101, 10, none⟩ = some (.slice A1_10 l1_10.length c1_10) := (blk_cell BK101.out 10).trans rfl
            have hcz30_11 : wc.cell? ⟨gb101, 11, none⟩ = some (.slice A1_11 l1_11.length c1_11) := (blk_cell BK101.out 11).trans rfl
            have hfz30_0 := blk_frozen BK101.out 0
            have hfz30_1 := blk_frozen BK101.out 1
            have hfz30_2 := blk_frozen BK101.out 2
            have hfz30_3 := blk_frozen BK101.out 3
            have hfz30_4 := blk_frozen BK101.out 4
            have hfz30_5 := blk_frozen BK101.out 5
            have hfz30_6 := blk_frozen BK101.out 6
            have hfz30_7 := blk_frozen BK101.out 7
            have hfz30_8 := blk_frozen BK101.out 8
            have hfz30_9 := blk_frozen BK101.out 9
            have hfz30_10 := blk_frozen BK101.out 10
            have hfz30_11 := blk_frozen BK101.out 11
            go_wp2
            go_ret
            exact ⟨by first | rfl | (simp [errW_none, errW_some] <;> rfl) | (simp [*, errW_none, errW_some] <;> rfl), by repeat (first | (with_reducible first | exact HB.out | apply below_alloc | apply pw_below_drewN | apply below_drew1 | refine below_set ?_ GE101.out) | exact HB.out)⟩
end Go.Proofs.YtabcnplfkfdeaaaGreatDoor.Q7
namespace Go.Proofs.YtabcnplfkfdeaaaGreatDoor.Q7
open Go.RowKit Go.Proofs.YtabcnplfkfdeaaaGreatDoorW.PrintWords Go.Proofs.YtabcnplfkfdeaaaGreatDoorW.PrintLast Go.Proofs.YtabcnplfkfdeaaaGreatDoorW.PrintMore
attribute [local go_sem] max2_int min2_int max_two min_two max_three min_three max_four min_four   -- for this text's walks alone
set_option linter.unusedVariables false
set_option linter.unusedSimpArgs false
def naming_join.f (a0 : ByteArray) (a1 : ByteArray) (a2 : Bool) : Option (ByteArray) := if a2 = true then (some a1) else (if a0.size + 1 ≤ 9223372036854775807 then (if (a0 ++ (⟨#[47]⟩ : ByteArray)).size + a1.size ≤ 9223372036854775807 then (some ((a0 ++ (⟨#[47]⟩ : ByteArray)) ++ a1)) else (none)) else (none))
set_option maxHeartbeats 8000000 in
set_option maxRecDepth 100000 in
theorem naming_join.calls (a0 : ByteArray) (a1 : ByteArray) (a2 : Bool) (r : ByteArray) (w : World) (h : naming_join.f a0 a1 a2 = some r) :
    Calls Tryz.prog 107 #[.string a0, .string a1, .bool a2] w fun e w' => e = .returned (.string r) ∧ Drawn0 w w' := by
  have H : (if a2 = true then (some a1) else (if a0.size + 1 ≤ 9223372036854775807 then (if (a0 ++ (⟨#[47]⟩ : ByteArray)).size + a1.size ≤ 9223372036854775807 then (some ((a0 ++ (⟨#[47]⟩ : ByteArray)) ++ a1)) else (none)) else (none))) = some r := h
  clear h
  by_cases c4 : a2 = true
  · subst c4
    have H1 : (some a1) = some r := by rw [if_pos rfl] at H; exact H
    clear H
    have H := H1
    clear H1
    obtain rfl := Option.some.inj H
    go_enter Tryz.func107, Tryz.ntmps107
    go_wp2
    go_ret
    exact ⟨by first | rfl | (simp; done) | (simp [*]; done), by repeat (first | exact Drawn0.refl _ | apply Drawn0.step)⟩
  · replace c4 := Bool.eq_false_iff.mpr c4
    subst c4
    have H1 : (if a0.size + 1 ≤ 9223372036854775807 then (if (a0 ++ (⟨#[47]⟩ : ByteArray)).size + a1.size ≤ 9223372036854775807 then (some ((a0 ++ (⟨#[47]⟩ : ByteArray)) ++ a1)) else (none)) else (none)) = some r := by rw [if_neg (show ¬ (false = true) by decide)] at H; exact H
    clear H
    have H := H1
    clear H1
    by_cases c5 : a0.size + 1 ≤ 9223372036854775807
    · rw [if_pos c5] at H
      have c5b0 := eq_true c5
      have c5b1 : decide (a0.size + 1 ≤ 9223372036854775807) = true := decide_eq_true c5
      try have c5b2 : (9223372036854775807 < a0.size + 1) = False := eq_false (Nat.not_lt.2 c5)
      by_cases c6 : (a0 ++ (⟨#[47]⟩ : ByteArray)).size + a1.size ≤ 9223372036854775807
      · rw [if_pos c6] at H
        have c6b0 := eq_true c6
        have c6b1 : decide ((a0 ++ (⟨#[47]⟩ : ByteArray)).size + a1.size ≤ 9223372036854775807) = true := decide_eq_true c6
        try have c6b2 : (9223372036854775807 < (a0 ++ (⟨#[47]⟩ : ByteArray)).size + a1.size) = False := eq_false (Nat.not_lt.2 c6)
        obtain rfl := Option.some.inj H
        go_enter Tryz.func107, Tryz.ntmps107
        go_wp2
        go_ret
        exact ⟨by first | rfl | (simp; done) | (simp [*]; done), by repeat (first | exact Drawn0.refl _ | apply Drawn0.step)⟩
      · rw [if_neg c6] at H
        exact absurd H (by simp)
    · rw [if_neg c5] at H
      exact absurd H (by simp)
end Go.Proofs.YtabcnplfkfdeaaaGreatDoor.Q7
namespace Go.Proofs.YtabcnplfkfdeaaaGreatDoor.Q7
open Go.RowKit Go.Proofs.YtabcnplfkfdeaaaGreatDoorW.PrintWords Go.Proofs.YtabcnplfkfdeaaaGreatDoorW.PrintLast Go.Proofs.YtabcnplfkfdeaaaGreatDoorW.PrintMore
attribute [local go_sem] max2_int min2_int max_two min_two max_three min_three max_four min_four   -- for this text's walks alone
end Go.Proofs.YtabcnplfkfdeaaaGreatDoor.Q7
