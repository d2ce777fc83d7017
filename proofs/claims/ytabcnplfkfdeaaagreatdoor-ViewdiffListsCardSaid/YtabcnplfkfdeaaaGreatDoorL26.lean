/- Walks and plain laws that the claim stands on (part 26). -/
import Derived.Test.YtabcnplfkfdeaaaGreatDoorL1
import Derived.Test.YtabcnplfkfdeaaaGreatDoorL3
import Derived.Test.YtabcnplfkfdeaaaGreatDoorL6
import Derived.Test.YtabcnplfkfdeaaaGreatDoorL20
import Derived.Test.YtabcnplfkfdeaaaGreatDoorL0
namespace Go.Proofs.YtabcnplfkfdeaaaGreatDoor.Q6
open Go.RowKit Go.Proofs.YtabcnplfkfdeaaaGreatDoorW.PrintWords Go.Proofs.YtabcnplfkfdeaaaGreatDoorW.PrintLast Go.Proofs.YtabcnplfkfdeaaaGreatDoorW.PrintMore
attribute [local go_sem] max2_int min2_int max_two min_two max_three min_three max_four min_four   -- for this text's walks alone
set_option linter.unusedVariables false
set_option linter.unusedSimpArgs false
def errW : Option Int → Value
  | none => .nilIface
  | some c => .iface 0 (.int .i64 c)
theorem errW_none : errW none = .nilIface := rfl
theorem errW_some (c : Int) : errW (some c) = .iface 0 (.int .i64 c) := rfl
theorem info9 : (Tryz.prog.info? 9).map (fun i => (i.zero, i.size, i.bytes)) = some (some (.string ⟨#[]⟩), 1, 16) := by kernel_rfl
end Go.Proofs.YtabcnplfkfdeaaaGreatDoor.Q6
namespace Go.Proofs.YtabcnplfkfdeaaaGreatDoor.Q6
open Go.RowKit Go.Proofs.YtabcnplfkfdeaaaGreatDoorW.PrintWords Go.Proofs.YtabcnplfkfdeaaaGreatDoorW.PrintLast Go.Proofs.YtabcnplfkfdeaaaGreatDoorW.PrintMore
attribute [local go_sem] max2_int min2_int max_two min_two max_three min_three max_four min_four   -- for this text's walks alone
set_option linter.unusedVariables false
set_option linter.unusedSimpArgs false
mutual
def viewdiff_Format.l0 : Nat → List ByteArray → List ByteArray → List (S34) → Int → Int → Option (List ByteArray)
  | 0, _, _, _, _, _ => none
  | k + 1, x3, x4, x8, x9, x10 => if x10 < x9 then (if 0 ≤ x10 then (if x10 < (x8.length : Int) then (if ((rd_T34 x8 x10).f0) < 0 then (viewdiff_Format.j1 k x3 x4 x8 x9 x10 true ((rd_T34 x8 x10).f0) ((rd_T34 x8 x10).f1)) else (viewdiff_Format.j1 k x3 x4 x8 x9 x10 (decide (((rd_T34 x8 x10).f0) ≥ (x3.length : Int))) ((rd_T34 x8 x10).f0) ((rd_T34 x8 x10).f1))) else (none)) else (none)) else (some x4)
def viewdiff_Format.j1 : Nat → List ByteArray → List ByteArray → List (S34) → Int → Int → Bool → Int → ByteArray → Option (List ByteArray)
  | 0, _, _, _, _, _, _, _, _ => none
  | k + 1, x3, x4, x8, x9, x10, x26, x106000, x106001 => if x26 = true then (if x4.length < 8796093022208 then (viewdiff_Format.l0 k x3 (x4 ++ [(⟨#[]⟩ : ByteArray)]) x8 x9 (wrap64 (x10 + 1))) else (none)) else (if x106001.toList = ([] : List UInt8) then (if 0 ≤ x106000 then (if x106000 < (x3.length : Int) then (if (rdOf ByteArray.empty x3 x106000).size + 2 ≤ 9223372036854775807 then (if x4.length < 8796093022208 then (viewdiff_Format.l0 k x3 (x4 ++ [(rdOf ByteArray.empty x3 x106000) ++ (⟨#[32, 46]⟩ : ByteArray)]) x8 x9 (wrap64 (x10 + 1))) else (none)) else (none)) else (none)) else (none)) else (if 0 ≤ x106000 then (if x106000 < (x3.length : Int) then (if (rdOf ByteArray.empty x3 x106000).size + 1 ≤ 9223372036854775807 then (if ((rdOf ByteArray.empty x3 x106000) ++ (⟨#[32]⟩ : ByteArray)).size + x106001.size ≤ 9223372036854775807 then (if x4.length < 8796093022208 then (viewdiff_Format.l0 k x3 (x4 ++ [((rdOf ByteArray.empty x3 x106000) ++ (⟨#[32]⟩ : ByteArray)) ++ x106001]) x8 x9 (wrap64 (x10 + 1))) else (none)) else (none)) else (none)) else (none)) else (none)))
end
def viewdiff_Format.f (k : Nat) (l0 : List (S34)) : Option (List ByteArray) := viewdiff_Format.l0 k (([(⟨#[109, 105, 115, 115, 105, 110, 103]⟩ : ByteArray), (⟨#[101, 120, 116, 114, 97]⟩ : ByteArray), (⟨#[107, 105, 110, 100]⟩ : ByteArray), (⟨#[100, 97, 116, 97]⟩ : ByteArray), (⟨#[116, 97, 114, 103, 101, 116]⟩ : ByteArray), (⟨#[97, 116, 116, 114, 105, 98, 117, 116, 101, 115]⟩ : ByteArray), (⟨#[116, 105, 109, 101]⟩ : ByteArray), (⟨#[115, 116, 114, 101, 97, 109, 115]⟩ : ByteArray)] : List ByteArray)) ([] : List ByteArray) l0 (l0.length : Int) 0
def viewdiff_Format.T6 : Bool × List (List Nat × List Nat) := (true, [([], []), ([], []), ([], []), ([2], [2]), ([1, 3], [1, 3]), ([4], [4]), ([5], [5]), ([], []), ([7], [7]), ([6, 8], [6, 8]), ([9], [9]), ([0, 10], [0, 10]), ([11, 11, 0, 1, 2, 3, 4, 5, 6, 7, 8, 9, 10, 11], [0, 11])])
def viewdiff_Format.B6 : List Nat := [0, 0, 0, 4, 14, 30, 62, 0, 128, 510, 1022, 2047, 4095]
theorem viewdiff_Format.tab6 : rtab .any (opsOf Tryz.f34 6) = viewdiff_Format.T6 := by kernel_rfl
theorem viewdiff_Format.bits6 : waitsOk viewdiff_Format.T6.2 viewdiff_Format.B6 = true := by kernel_rfl
set_option maxHeartbeats 8000000 in
set_option maxRecDepth 100000 in
theorem viewdiff_Format.calls (k : Nat) (A0 : Option Addr) (c0 : Nat) (l0 : List (S34)) (r : List ByteArray) (w : World) (hr0 : Kd.C k34 w A0 l0.length l0) (hc0 : l0.length ≤ c0) (h : viewdiff_Format.f k l0 = some r) :
    Calls Tryz.prog 34 #[.slice A0 l0.length c0] w fun e w' => ∃ v0_ : Value, e = .returned (v0_) ∧ Kd.R Kd.string 9 w' w.heap.size (fun _ => True) v0_ r ∧ Below w.heap.size w w' := by
  have hu34 := Tryz.underlying34
  have HR0 := Aside0.mk hr0
  have HC0 := Aside0.mk hc0
  clear hr0 hc0
  have HB := Aside0.mk (Below.refl w.heap.size w)
  have H : (viewdiff_Format.l0 k (([(⟨#[109, 105, 115, 115, 105, 110, 103]⟩ : ByteArray), (⟨#[101, 120, 116, 114, 97]⟩ : ByteArray), (⟨#[107, 105, 110, 100]⟩ : ByteArray), (⟨#[100, 97, 116, 97]⟩ : ByteArray), (⟨#[116, 97, 114, 103, 101, 116]⟩ : ByteArray), (⟨#[97, 116, 116, 114, 105, 98, 117, 116, 101, 115]⟩ : ByteArray), (⟨#[116, 105, 109, 101]⟩ : ByteArray), (⟨#[115, 116, 114, 101, 97, 109, 115]⟩ : ByteArray)] : List ByteArray)) ([] : List ByteArray) l0 (l0.length : Int) 0) = some r := h
  clear h
  obtain ⟨y101, hy101⟩ : ∃ y_ : List ByteArray, y_ = (([(⟨#[109, 105, 115, 115, 105, 110, 103]⟩ : ByteArray), (⟨#[101, 120, 116, 114, 97]⟩ : ByteArray), (⟨#[107, 105, 110, 100]⟩ : ByteArray), (⟨#[100, 97, 116, 97]⟩ : ByteArray), (⟨#[116, 97, 114, 103, 101, 116]⟩ : ByteArray), (⟨#[97, 116, 116, 114, 105, 98, 117, 116, 101, 115]⟩ : ByteArray), (⟨#[116, 105, 109, 101]⟩ : ByteArray), (⟨#[115, 116, 114, 101, 97, 109, 115]⟩ : ByteArray)] : List ByteArray)) := ⟨_, rfl⟩
  replace H : (viewdiff_Format.l0 k y101 ([] : List ByteArray) l0 (l0.length : Int) 0) = some r := by first | (rw [hy101]; with_reducible exact H) | (have H2_ := (Option.bind_some _ _).symm.trans H; rw [hy101]; with_reducible exact H2_) | (have H2_ := (Option.bind_some _ _).symm.trans H; with_reducible exact H2_) | with_reducible exact H | (rw [hy101]; exact H) | exact H
  have Ny101 := Aside0.mk hy101
  clear hy101
  have H' := Aside0.mk H
  clear H
  go_enter Tryz.func34, Tryz.ntmps34
  go_wp2_with (first | ((with_reducible refine gate_dst (N := 7) rfl ?_); (try (refine gate_guard (by rfl) ?_; dsimp only)); refine Kd.R_lit Kd.string _ 9 ?hg (N := 7) ?hd (xs := ([(⟨#[109, 105, 115, 115, 105, 110, 103]⟩ : ByteArray), (⟨#[101, 120, 116, 114, 97]⟩ : ByteArray), (⟨#[107, 105, 110, 100]⟩ : ByteArray), (⟨#[100, 97, 116, 97]⟩ : ByteArray), (⟨#[116, 97, 114, 103, 101, 116]⟩ : ByteArray), (⟨#[97, 116, 116, 114, 105, 98, 117, 116, 101, 115]⟩ : ByteArray), (⟨#[116, 105, 109, 101]⟩ : ByteArray), (⟨#[115, 116, 114, 101, 97, 109, 115]⟩ : ByteArray)] : List ByteArray)) (inner := [.string (⟨#[109, 105, 115, 115, 105, 110, 103]⟩ : ByteArray), .string (⟨#[101, 120, 116, 114, 97]⟩ : ByteArray), .string (⟨#[107, 105, 110, 100]⟩ : ByteArray), .string (⟨#[100, 97, 116, 97]⟩ : ByteArray), .string (⟨#[116, 97, 114, 103, 101, 116]⟩ : ByteArray), .string (⟨#[97, 116, 116, 114, 105, 98, 117, 116, 101, 115]⟩ : ByteArray), .string (⟨#[116, 105, 109, 101]⟩ : ByteArray), .string (⟨#[115, 116, 114, 101, 97, 109, 115]⟩ : ByteArray)]) (ok := fun _ => True) (okp := fun _ => True) ?hr ?hp (fun _ hk => hk) trivial (Below.refl _ _) (Nat.le_refl _) (by simp) ?_; (case hd => rfl); (case hg => rfl); (case hr => first | (go_simp; done) | (go_simp; rfl)); (case hp => exact (Reps.one (show Kd.M Kd.string _ _ _ (⟨#[109, 105, 115, 115, 105, 110, 103]⟩ : ByteArray) [.string (⟨#[109, 105, 115, 115, 105, 110, 103]⟩ : ByteArray)] from rfl) (Reps.one (show Kd.M Kd.string _ _ _ (⟨#[101, 120, 116, 114, 97]⟩ : ByteArray) [.string (⟨#[101, 120, 116, 114, 97]⟩ : ByteArray)] from rfl) (Reps.one (show Kd.M Kd.string _ _ _ (⟨#[107, 105, 110, 100]⟩ : ByteArray) [.string (⟨#[107, 105, 110, 100]⟩ : ByteArray)] from rfl) (Reps.one (show Kd.M Kd.string _ _ _ (⟨#[100, 97, 116, 97]⟩ : ByteArray) [.string (⟨#[100, 97, 116, 97]⟩ : ByteArray)] from rfl) (Reps.one (show Kd.M Kd.string _ _ _ (⟨#[116, 97, 114, 103, 101, 116]⟩ : ByteArray) [.string (⟨#[116, 97, 114, 103, 101, 116]⟩ : ByteArray)] from rfl) (Reps.one (show Kd.M Kd.string _ _ _ (⟨#[97, 116, 116, 114, 105, 98, 117, 116, 101, 115]⟩ : ByteArray) [.string (⟨#[97, 116, 116, 114, 105, 98, 117, 116, 101, 115]⟩ : ByteArray)] from rfl) (Reps.one (show Kd.M Kd.string _ _ _ (⟨#[116, 105, 109, 101]⟩ : ByteArray) [.string (⟨#[116, 105, 109, 101]⟩ : ByteArray)] from rfl) (Reps.one (show Kd.M Kd.string _ _ _ (⟨#[115, 116, 114, 101, 97, 109, 115]⟩ : ByteArray) [.string (⟨#[115, 116, 114, 101, 97, 109, 115]⟩ : ByteArray)] from rfl) (Reps.none _ _)))))))))); intro v102 w2 ho3 hb hg_ hnew_; clear hg_ hnew_; (first | rw [← Ny101.out] at ho3 | (simp only [Int.reduceToNat] at ho3; rw [← Ny101.out] at ho3)); have n0_ := Aside0.mk (Kd.R_lower ho3 (below_size (by repeat (first | (with_reducible first | exact HB.out | apply below_alloc | apply pw_below_drewN | apply below_drew1) | exact HB.out)))); have n1_ := Aside0.mk (below_step (by repeat (first | (with_reducible first | exact HB.out | apply below_alloc | apply pw_below_drewN | apply below_drew1) | exact HB.out)) hb); clear HB; have HO103 := n0_; have HB := n1_; clear n0_ n1_; clear hb ho3))
  go_loopg [4, 10] k (fun kq v4 v10 w' => ∃ (x4_1 : List ByteArray) (x10_1 : Int), v10 = .int .i64 x10_1 ∧ Aside0 (viewdiff_Format.l0 kq y101 x4_1 l0 (l0.length : Int) x10_1 = some r) ∧ Aside0 (kq ≤ k) ∧ Aside0 (Kd.R Kd.string 9 w' w.heap.size (fun k_ => some k_ ≠ (v4 : Value).ownBlock) v102 y101) ∧ Aside0 (Kd.R Kd.string 9 w' w.heap.size (fun k_ => some k_ ≠ (v102 : Value).ownBlock) v4 x4_1) ∧ Aside0 (Below w.heap.size w w'))
  case atStart => exact ⟨(([] : List ByteArray)), (0), (by first | rfl | (simp; done) | (simp [*]; done)), H', ⟨Nat.le_refl _⟩, ⟨by (with_reducible repeat (first | apply Kd.R_alloc | apply Kd.R_drewN | apply Kd.R_drew)); exact Kd.R_mono HO103.out (fun _ hk => (by simp [Value.ownBlock]))⟩, ⟨by first | exact Kd.R_nil _ _ _ _ _ | exact Kd.N_nil _ _ _ _ _ | exact Kd.V_nil _ _ _ _ _ | exact Kd.Q_nil _ _ _ _ _ | exact Kd.S_nil _ _ _ _ _⟩, ⟨by repeat (first | (with_reducible first | exact HB.out | apply below_alloc | apply pw_below_drewN | apply below_drew1) | exact HB.out)⟩⟩
  case round =>
    clear H'
    try clear p2
    try clear c3
    obtain ⟨x4_1, x10_1, rfl, HA, HK1, HO_3, HO_4, HB⟩ := hrel
    cases gk with
    | zero => exact absurd HA.out (by simp [viewdiff_Format.l0])
    | succ k1 =>
      have H := HA.out
      clear HA
      simp only [viewdiff_Format.l0] at H
      by_cases c4 : x10_1 < (l0.length : Int)
      · rw [if_pos c4] at H
        have c4b0 : decide (x10_1 < (l0.length : Int)) = true := decide_eq_true c4
        clear c4
        by_cases c5 : 0 ≤ x10_1
        · rw [if_pos c5] at H
          have c5b0 : decide (0 ≤ x10_1) = true := decide_eq_true c5
          clear c5
          by_cases c6 : x10_1 < (l0.length : Int)
          · rw [if_pos c6] at H
            have c6b0 : decide (x10_1 < (l0.length : Int)) = true := decide_eq_true c6
            clear c6
            have HC7 := Aside0.mk H
            clear H
            have p104 : 0 ≤ (x10_1 : Int) := of_decide_eq_true (by first | (with_reducible assumption) | assumption)
            have q104 : x10_1 < (l0.length : Int) := of_decide_eq_true (by first | (with_reducible assumption) | assumption)
            obtain ⟨ad104, e104, hx104_0, hx104_1⟩ := at_T34 HR0.out x10_1 p104 q104
            cases e104
            replace hx104_0 := (HB.out.cell (World.block_lt_of_cell? w _ hx104_0)).trans hx104_0
            replace hx104_1 := (HB.out.cell (World.block_lt_of_cell? w _ hx104_1)).trans hx104_1
            replace p104 := eq_true p104
            replace q104 := eq_true q104
            go_upto_region 7 with (first | ((with_reducible refine gate_dst (N := 6) rfl ?_); (try (refine gate_guard (by rfl) ?_; dsimp only)); refine box_event ?hg (N := 6) ?hd (cs := #[.int .i64 0, .string (⟨#[]⟩ : ByteArray)]) (t := 34) ?hr ?_; (case hd => rfl); (case hg => rfl); (case hr => first | (go_simp; done) | (go_simp; rfl)); intro gb105 hg w8 hbox hb; have n0_ := Aside0.mk (Kd.R_below (by (with_reducible repeat (first | apply Kd.R_alloc | apply Kd.R_drewN | apply Kd.R_drew)); exact HO_3.out) hb); have n1_ := Aside0.mk (Kd.R_below (by (with_reducible repeat (first | apply Kd.R_alloc | apply Kd.R_drewN | apply Kd.R_drew)); exact HO_4.out) hb); have n2_ := Aside0.mk (below_step (by repeat (first | (with_reducible first | exact HB.out | apply below_alloc | apply pw_below_drewN | apply below_drew1) | exact HB.out)) hb); have n3_ := Aside0.mk (hbox); have n4_ := Aside0.mk ((by rw [hg]; exact (below_size (by repeat (first | (with_reducible first | exact HB.out | apply below_alloc | apply pw_below_drewN | apply below_drew1) | exact HB.out))) : w.heap.size ≤ gb105)); have n5_ := Aside0.mk ((by rw [hg]; exact (below_size (by repeat (first | (with_reducible first | exact HB.out | apply below_alloc | apply pw_below_drewN | apply below_drew1) | exact HB.out))) : w.heap.size ≤ gb105)); clear HO_3; clear HO_4; clear HB; have HO_3 := n0_; have HO_4 := n1_; have HB := n2_; have BK105 := n3_; have GW105 := n4_; have GE105 := n5_; clear n0_ n1_ n2_ n3_ n4_ n5_; clear hb hbox hg; have hcz9_0 : w8.cell? ⟨gb105, 0, none⟩ = some (.int .i64 0) := (blk_cell BK105.out 0).trans rfl; have hcz9_1 : w8.cell? ⟨gb105, 1, none⟩ = some (.string (⟨#[]⟩ : ByteArray)) := (blk_cell BK105.out 1).trans rfl; have hfz9_0 := blk_frozen BK105.out 0; have hfz9_1 := blk_frozen BK105.out 1))
            (try simp only [Act.put, List.setIfInBounds_toArray, List.set_cons_zero, List.set_cons_succ])
            go_cut [26] (fun v26 wc => ∃ (kq : Nat) (x26_6 : Bool), v26 = .bool x26_6 ∧ Aside0 (viewdiff_Format.j1 kq y101 x4_1 l0 (l0.length : Int) x10_1 x26_6 ((rd_T34 l0 x10_1).f0) ((rd_T34 l0 x10_1).f1) = some r) ∧ Aside0 (kq ≤ k1) ∧ Aside0 (Kd.R Kd.string 9 wc w.heap.size (fun k_ => some k_ ≠ (u4 : Value).ownBlock) v102 y101) ∧ Aside0 (Kd.R Kd.string 9 wc w.heap.size (fun k_ => some k_ ≠ (v102 : Value).ownBlock) u4 x4_1) ∧ Aside0 (wc.heap[gb105]? = some (.cells #[.int .i64 ((rd_T34 l0 x10_1).f0), .string ((rd_T34 l0 x10_1).f1)] 34 (0, 0))) ∧ Aside0 (Below w.heap.size w wc))
            case first =>
              have H := HC7.out
              clear HC7
              by_cases c10 : ((rd_T34 l0 x10_1).f0) < 0
              · rw [if_pos c10] at H
                have c10b0 : decide (((rd_T34 l0 x10_1).f0) < 0) = true := decide_eq_true c10
                clear c10
                (first | rw [c10b0] | (simp only [i64_w, i32_w]; rw [c10b0]) | skip)
                have H' := Aside0.mk H
                clear H
                have hcz11_0 : w8.cell? ⟨gb105, 0, none⟩ = some (.int .i64 0) := (blk_cell BK105.out 0).trans rfl
                have hcz11_1 : w8.cell? ⟨gb105, 1, none⟩ = some (.string (⟨#[]⟩ : ByteArray)) := (blk_cell BK105.out 1).trans rfl
                have hfz11_0 := blk_frozen BK105.out 0
                have hfz11_1 := blk_frozen BK105.out 1
                go_wp2
                go_meet
                case rel => exact ⟨_, (true), (by first | rfl | (simp; done) | (simp [*]; done)), H', ⟨by have := HK1.out; first | omega | exact Nat.le_refl _⟩, ⟨by (with_reducible repeat (first | apply Kd.R_alloc | apply Kd.R_drewN | apply Kd.R_drew)); exact Kd.R_mono (Kd.R_far (p := ⟨gb105, 1, none⟩) (Kd.R_far (p := ⟨gb105, 0, none⟩) (Kd.R_types HO_3.out BK105.out (by decide)) (fun _ hk => hk.2) (.int .i64 ((rd_T34 l0 x10_1).f0))) (fun _ hk => hk.2) (.string ((rd_T34 l0 x10_1).f1))) (fun _ hk => hk.1)⟩, ⟨by (with_reducible repeat (first | apply Kd.R_alloc | apply Kd.R_drewN | apply Kd.R_drew)); exact Kd.R_mono (Kd.R_far (p := ⟨gb105, 1, none⟩) (Kd.R_far (p := ⟨gb105, 0, none⟩) (Kd.R_types HO_4.out BK105.out (by decide)) (fun _ hk => hk.2) (.int .i64 ((rd_T34 l0 x10_1).f0))) (fun _ hk => hk.2) (.string ((rd_T34 l0 x10_1).f1))) (fun _ hk => hk.1)⟩, ⟨by (with_reducible repeat (first | refine blk_drewN ?_ _ | refine blk_drew ?_ | refine blk_alloc ?_ _)); refine blk_put (cs := #[.int .i64 ((rd_T34 l0 x10_1).f0), .string (⟨#[]⟩ : ByteArray)]) ?_ 1 _ rfl; (with_reducible repeat (first | refine blk_drewN ?_ _ | refine blk_drew ?_ | refine blk_alloc ?_ _)); refine blk_put (cs := #[.int .i64 0, .string (⟨#[]⟩ : ByteArray)]) ?_ 0 _ rfl; (with_reducible repeat (first | refine blk_drewN ?_ _ | refine blk_drew ?_ | refine blk_alloc ?_ _)); exact BK105.out⟩, ⟨by repeat (first | (with_reducible first | exact HB.out | apply below_alloc | apply pw_below_drewN | apply below_drew1 | refine below_set ?_ GE105.out) | exact HB.out)⟩⟩
              · rw [if_neg c10] at H
                have c10b0 : decide (((rd_T34 l0 x10_1).f0) < 0) = false := decide_eq_false c10
                clear c10
                (first | rw [c10b0] | (simp only [i64_w, i32_w]; rw [c10b0]) | skip)
                have H' := Aside0.mk H
                clear H
                have hcz12_0 : w8.cell? ⟨gb105, 0, none⟩ = some (.int .i64 0) := (blk_cell BK105.out 0).trans rfl
                have hcz12_1 : w8.cell? ⟨gb105, 1, none⟩ = some (.string (⟨#[]⟩ : ByteArray)) := (blk_cell BK105.out 1).trans rfl
                have hfz12_0 := blk_frozen BK105.out 0
                have hfz12_1 := blk_frozen BK105.out 1
                obtain ⟨Ao13, co13, eo13⟩ := Kd.R_slice HO_3.out
                subst eo13
                go_wp2
                go_meet
                case rel => exact ⟨_, (decide (((rd_T34 l0 x10_1).f0) ≥ (y101.length : Int))), (by first | rfl | (simp; done) | (simp [*]; done)), H', ⟨by have := HK1.out; first | omega | exact Nat.le_refl _⟩, ⟨by (with_reducible repeat (first | apply Kd.R_alloc | apply Kd.R_drewN | apply Kd.R_drew)); exact Kd.R_mono (Kd.R_far (p := ⟨gb105, 1, none⟩) (Kd.R_far (p := ⟨gb105, 0, none⟩) (Kd.R_types HO_3.out BK105.out (by decide)) (fun _ hk => hk.2) (.int .i64 ((rd_T34 l0 x10_1).f0))) (fun _ hk => hk.2) (.string ((rd_T34 l0 x10_1).f1))) (fun _ hk => hk.1)⟩, ⟨by (with_reducible repeat (first | apply Kd.R_alloc | apply Kd.R_drewN | apply Kd.R_drew)); exact Kd.R_mono (Kd.R_far (p := ⟨gb105, 1, none⟩) (Kd.R_far (p := ⟨gb105, 0, none⟩) (Kd.R_types HO_4.out BK105.out (by decide)) (fun _ hk => hk.2) (.int .i64 ((rd_T34 l0 x10_1).f0))) (fun _ hk => hk.2) (.string ((rd_T34 l0 x10_1).f1))) (fun _ hk => hk.1)⟩, ⟨by (with_reducible repeat (first | refine blk_drewN ?_ _ | refine blk_drew ?_ | refine blk_alloc ?_ _)); refine blk_put (cs := #[.int .i64 ((rd_T34 l0 x10_1).f0), .string (⟨#[]⟩ : ByteArray)]) ?_ 1 _ rfl; (with_reducible repeat (first | refine blk_drewN ?_ _ | refine blk_drew ?_ | refine blk_alloc ?_ _)); refine blk_put (cs := #[.int .i64 0, .string (⟨#[]⟩ : ByteArray)]) ?_ 0 _ rfl; (with_reducible repeat (first | refine blk_drewN ?_ _ | refine blk_drew ?_ | refine blk_alloc ?_ _)); exact BK105.out⟩, ⟨by repeat (first | (with_reducible first | exact HB.out | apply below_alloc | apply pw_below_drewN | apply below_drew1 | refine below_set ?_ GE105.out) | exact HB.out)⟩⟩
            case rest =>
              clear HC7
              try clear c1
              try clear p1
              try clear q1
              try clear hx1
              try clear p2
              try clear c3
              try clear c4
              try clear c4b0
              try clear c5
              try clear c5b0
              try clear c6
              try clear c6b0
              try clear c10
              try clear c10b0
              try clear p10
              try clear q10
              try clear hx10
              try clear hcz11_0
              try clear hcz11_1
              try clear hcz12_0
              try clear hcz12_1
              try clear hcz9_0
              try clear hcz9_1
              try clear hfz11_0
              try clear hfz11_1
              try clear hfz12_0
              try clear hfz12_1
              try clear hfz9_0
              try clear hfz9_1
              try clear hx104_0
              try clear hx104_1
              try clear p104
              try clear p2
              try clear q104
              obtain ⟨kq, x26_6, rfl, HA, HJ6, HO_3, HO_4, BK105, HB⟩ := hcut
              cases kq with
              | zero => exact absurd HA.out (by simp [viewdiff_Format.j1])
              | succ kj6 =>
                have H := HA.out
                clear HA
                simp only [viewdiff_Format.j1] at H
                by_cases c14 : x26_6 = true
                · subst c14
                  have H1 : (if x4_1.length < 8796093022208 then (viewdiff_Format.l0 kj6 y101 (x4_1 ++ [(⟨#[]⟩ : ByteArray)]) l0 (l0.length : Int) (wrap64 (x10_1 + 1))) else (none)) = some r := by rw [if_pos rfl] at H; exact H
                  clear H
                  have H := H1
                  clear H1
                  by_cases c15 : x4_1.length < 8796093022208
                  · rw [if_pos c15] at H
                    have LMc15 := Aside0.mk c15
                    clear c15
                    obtain ⟨y106, hy106⟩ : ∃ y_ : List ByteArray, y_ = (x4_1 ++ [(⟨#[]⟩ : ByteArray)]) := ⟨_, rfl⟩
                    replace H : (viewdiff_Format.l0 kj6 y101 y106 l0 (l0.length : Int) (wrap64 (x10_1 + 1))) = some r := by first | (rw [hy106]; with_reducible exact H) | (have H2_ := (Option.bind_some _ _).symm.trans H; rw [hy106]; with_reducible exact H2_) | (have H2_ := (Option.bind_some _ _).symm.trans H; with_reducible exact H2_) | with_reducible exact H | (rw [hy106]; exact H) | exact H
                    have Ny106 := Aside0.mk hy106
                    clear hy106
                    have H' := Aside0.mk H
                    clear H
                    go_wp2_with (first | ((with_reducible refine gate_builtin (b := .append) (xs := #[.tmp 37, .tmp 38]) rfl ?_); (try (refine gate_guard (by rfl) ?_; dsimp only)); at_builtin; refine Kd.R_append Kd.string (w0 := w) w.heap.size rfl (.tmp 37) (.tmp 38) 46 9 (.string ⟨#[]⟩) 16 rfl Tryz.underlying46 info9 rfl (by decide) (by omega) u4 x4_1 (⟨#[]⟩ : ByteArray) [.string (⟨#[]⟩ : ByteArray)] (fun k_ => some k_ ≠ (v102 : Value).ownBlock) (fun _ => False) rfl rfl ?aP (fun _ hk => hk.elim) ?aF ?aO ?aB ?aS ?aL ?_; (case aP => exact rfl); (case aB => exact (by repeat (first | (with_reducible first | exact HB.out | apply below_alloc | apply pw_below_drewN | apply below_drew1 | refine below_set ?_ GE105.out) | exact HB.out))); (case aF => exact (fun k_ hk => Kd.fresh' (Kd.R_lt (by (with_reducible repeat (first | apply Kd.R_alloc | apply Kd.R_drewN | apply Kd.R_drew)); exact HO_3.out)) k_ hk)); (case aO => exact (by (with_reducible repeat (first | apply Kd.R_alloc | apply Kd.R_drewN | apply Kd.R_drew)); exact HO_4.out)); (case aS => exact (below_size (by repeat (first | (with_reducible first | exact HB.out | apply below_alloc | apply pw_below_drewN | apply below_drew1 | refine below_set ?_ GE105.out) | exact HB.out)))); (case aL => have := LMc15.out; omega); intro v107 w16 ho hb hg hat; rw [← Ny106.out] at ho; have n0_ := Aside0.mk (Kd.R_after (ok := (fun _ => True)) (by (with_reducible repeat (first | apply Kd.R_alloc | apply Kd.R_drewN | apply Kd.R_drew)); exact Kd.R_mono HO_3.out (fun _ hk => ⟨trivial, hk⟩)) hg hat); have n1_ := Aside0.mk (blk_grown (g := gb105) (o := .cells #[.int .i64 ((rd_T34 l0 x10_1).f0), .string ((rd_T34 l0 x10_1).f1)] 34 (0, 0)) (by (with_reducible repeat (first | refine blk_drewN ?_ _ | refine blk_drew ?_ | refine blk_alloc ?_ _)); exact BK105.out) hg (Kd.R_ne HO_4.out BK105.out (by decide))); have n2_ := Aside0.mk (hb); have n3_ := Aside0.mk (ho); clear HO_3; clear BK105; clear HB; clear HO_4; have HO_3 := n0_; have BK105 := n1_; have HB := n2_; have HO108 := n3_; clear n0_ n1_ n2_ n3_; clear ho hb hg hat))
                    go_roundg kj6
                    case measure => have := HK1.out; have := HJ6.out; omega
                    case rel => exact ⟨(y106), (wrap64 (x10_1 + 1)), (by first | rfl | (simp; done) | (simp [*]; done)), H', ⟨by have := HK1.out; have := HJ6.out; omega⟩, ⟨by (with_reducible repeat (first | apply Kd.R_alloc | apply Kd.R_drewN | apply Kd.R_drew)); exact Kd.R_mono HO_3.out (fun _ hk => hk.2)⟩, ⟨by (with_reducible repeat (first | apply Kd.R_alloc | apply Kd.R_drewN | apply Kd.R_drew)); exact HO108.out⟩, ⟨by repeat (first | (with_reducible first | exact HB.out | apply below_alloc | apply pw_below_drewN | apply below_drew1 | refine below_set ?_ GE105.out) | exact HB.out)⟩⟩
                  · rw [if_neg c15] at H
                    exact absurd H (by simp)
                · replace c14 := Bool.eq_false_iff.mpr c14
                  subst c14
                  have H1 : (if ((rd_T34 l0 x10_1).f1).toList = ([] : List UInt8) then (if 0 ≤ ((rd_T34 l0 x10_1).f0) then (if ((rd_T34 l0 x10_1).f0) < (y101.length : Int) then (if (rdOf ByteArray.empty y101 ((rd_T34 l0 x10_1).f0)).size + 2 ≤ 9223372036854775807 then (if x4_1.length < 8796093022208 then (viewdiff_Format.l0 kj6 y101 (x4_1 ++ [(rdOf ByteArray.empty y101 ((rd_T34 l0 x10_1).f0)) ++ (⟨#[32, 46]⟩ : ByteArray)]) l0 (l0.length : Int) (wrap64 (x10_1 + 1))) else (none)) else (none)) else (none)) else (none)) else (if 0 ≤ ((rd_T34 l0 x10_1).f0) then (if ((rd_T34 l0 x10_1).f0) < (y101.length : Int) then (if (rdOf ByteArray.empty y101 ((rd_T34 l0 x10_1).f0)).size + 1 ≤ 9223372036854775807 then (if ((rdOf ByteArray.empty y101 ((rd_T34 l0 x10_1).f0)) ++ (⟨#[32]⟩ : ByteArray)).size + ((rd_T34 l0 x10_1).f1).size ≤ 9223372036854775807 then (if x4_1.length < 8796093022208 then (viewdiff_Format.l0 kj6 y101 (x4_1 ++ [((rdOf ByteArray.empty y101 ((rd_T34 l0 x10_1).f0)) ++ (⟨#[32]⟩ : ByteArray)) ++ ((rd_T34 l0 x10_1).f1)]) l0 (l0.length : Int) (wrap64 (x10_1 + 1))) else (none)) else (none)) else (none)) else (none)) else (none))) = some r := by rw [if_neg (show ¬ (false = true) by decide)] at H; exact H
                  clear H
                  have H := H1
                  clear H1
                  by_cases c17 : ((rd_T34 l0 x10_1).f1).toList = ([] : List UInt8)
                  · rw [if_pos c17] at H
                    have c17b0 : (((rd_T34 l0 x10_1).f1).toList == ([] : List UInt8)) = true := beq_iff_eq.mpr c17
                    have c17b1 : (((rd_T34 l0 x10_1).f1).toList != ([] : List UInt8)) = false := bne_eq_false_iff_eq.mpr c17
                    clear c17
                    by_cases c18 : 0 ≤ ((rd_T34 l0 x10_1).f0)
                    · rw [if_pos c18] at H
                      have c18b0 : decide (0 ≤ ((rd_T34 l0 x10_1).f0)) = true := decide_eq_true c18
                      clear c18
                      by_cases c19 : ((rd_T34 l0 x10_1).f0) < (y101.length : Int)
                      · rw [if_pos c19] at H
                        have c19b0 : decide (((rd_T34 l0 x10_1).f0) < (y101.length : Int)) = true := decide_eq_true c19
                        clear c19
                        by_cases c20 : (rdOf ByteArray.empty y101 ((rd_T34 l0 x10_1).f0)).size + 2 ≤ 9223372036854775807
                        · rw [if_pos c20] at H
                          have c20b0 := eq_true c20
                          have c20b1 : decide ((rdOf ByteArray.empty y101 ((rd_T34 l0 x10_1).f0)).size + 2 ≤ 9223372036854775807) = true := decide_eq_true c20
                          try have c20b2 : (9223372036854775807 < (rdOf ByteArray.empty y101 ((rd_T34 l0 x10_1).f0)).size + 2) = False := eq_false (Nat.not_lt.2 c20)
                          by_cases c21 : x4_1.length < 8796093022208
                          · rw [if_pos c21] at H
                            have LMc21 := Aside0.mk c21
                            clear c21
                            obtain ⟨y110, hy110⟩ : ∃ y_ : List ByteArray, y_ = (x4_1 ++ [(rdOf ByteArray.empty y101 ((rd_T34 l0 x10_1).f0)) ++ (⟨#[32, 46]⟩ : ByteArray)]) := ⟨_, rfl⟩
                            replace H : (viewdiff_Format.l0 kj6 y101 y110 l0 (l0.length : Int) (wrap64 (x10_1 + 1))) = some r := by first | (rw [hy110]; with_reducible exact H) | (have H2_ := (Option.bind_some _ _).symm.trans H; rw [hy110]; with_reducible exact H2_) | (have H2_ := (Option.bind_some _ _).symm.trans H; with_reducible exact H2_) | with_reducible exact H | (rw [hy110]; exact H) | exact H
                            have Ny110 := Aside0.mk hy110
                            clear hy110
                            have H' := Aside0.mk H
                            clear H
                            have hcz22_0 : wc.cell? ⟨gb105, 0, none⟩ = some (.int .i64 ((rd_T34 l0 x10_1).f0)) := (blk_cell BK105.out 0).trans rfl
                            have hcz22_1 : wc.cell? ⟨gb105, 1, none⟩ = some (.string ((rd_T34 l0 x10_1).f1)) := (blk_cell BK105.out 1).trans rfl
                            have hfz22_0 := blk_frozen BK105.out 0
                            have hfz22_1 := blk_frozen BK105.out 1
                            obtain ⟨Ao23, co23, eo23⟩ := Kd.R_slice HO_3.out
                            subst eo23
                            have p109 : 0 ≤ (((rd_T34 l0 x10_1).f0) : Int) := of_decide_eq_true (by first | (with_reducible assumption) | assumption)
                            have q109 : ((rd_T34 l0 x10_1).f0) < (y101.length : Int) := of_decide_eq_true (by first | (with_reducible assumption) | assumption)
                            obtain ⟨ad109, e109, hx109_0⟩ := Kd.at_string (Kd.R_reads' HO_3.out).2.2 ((rd_T34 l0 x10_1).f0) p109 q109
                            cases e109
                            replace p109 := eq_true p109
                            replace q109 := eq_true q109
                            go_wp2_with (first | ((with_reducible refine gate_builtin (b := .append) (xs := #[.tmp 44, .tmp 51]) rfl ?_); (try (refine gate_guard (by rfl) ?_; dsimp only)); at_builtin; refine Kd.R_append Kd.string (w0 := w) w.heap.size rfl (.tmp 44) (.tmp 51) 46 9 (.string ⟨#[]⟩) 16 rfl Tryz.underlying46 info9 rfl (by decide) (by omega) u4 x4_1 ((rdOf ByteArray.empty y101 ((rd_T34 l0 x10_1).f0)) ++ (⟨#[32, 46]⟩ : ByteArray)) [.string ((rdOf ByteArray.empty y101 ((rd_T34 l0 x10_1).f0)) ++ (⟨#[32, 46]⟩ : ByteArray))] (fun k_ => some k_ ≠ (.slice (some ad109) y101.length co23 : Value).ownBlock) (fun _ => False) rfl rfl ?aP (fun _ hk => hk.elim) ?aF ?aO ?aB ?aS ?aL ?_; (case aP => exact rfl); (case aB => exact (by repeat (first | (with_reducible first | exact HB.out | apply below_alloc | apply pw_below_drewN | apply below_drew1 | refine below_set ?_ GE105.out) | exact HB.out))); (case aF => exact (fun k_ hk => Kd.fresh' (Kd.R_lt (by (with_reducible repeat (first | apply Kd.R_alloc | apply Kd.R_drewN | apply Kd.R_drew)); exact HO_3.out)) k_ hk)); (case aO => exact (by (with_reducible repeat (first | apply Kd.R_alloc | apply Kd.R_drewN | apply Kd.R_drew)); exact HO_4.out)); (case aS => exact (below_size (by repeat (first | (with_reducible first | exact HB.out | apply below_alloc | apply pw_below_drewN | apply below_drew1 | refine below_set ?_ GE105.out) | exact HB.out)))); (case aL => have := LMc21.out; omega); intro v111 w24 ho hb hg hat; rw [← Ny110.out] at ho; have n0_ := Aside0.mk (Kd.R_after (ok := (fun _ => True)) (by (with_reducible repeat (first | apply Kd.R_alloc | apply Kd.R_drewN | apply Kd.R_drew)); exact Kd.R_mono HO_3.out (fun _ hk => ⟨trivial, hk⟩)) hg hat); have n1_ := Aside0.mk (blk_grown (g := gb105) (o := .cells #[.int .i64 ((rd_T34 l0 x10_1).f0), .string ((rd_T34 l0 x10_1).f1)] 34 (0, 0)) (by (with_reducible repeat (first | refine blk_drewN ?_ _ | refine blk_drew ?_ | refine blk_alloc ?_ _)); exact BK105.out) hg (Kd.R_ne HO_4.out BK105.out (by decide))); have n2_ := Aside0.mk (hb); have n3_ := Aside0.mk (ho); clear HO_3; clear BK105; clear HB; clear HO_4; have HO_3 := n0_; have BK105 := n1_; have HB := n2_; have HO112 := n3_; clear n0_ n1_ n2_ n3_; clear ho hb hg hat))
                            go_roundg kj6
                            case measure => have := HK1.out; have := HJ6.out; omega
                            case rel => exact ⟨(y110), (wrap64 (x10_1 + 1)), (by first | rfl | (simp; done) | (simp [*]; done)), H', ⟨by have := HK1.out; have := HJ6.out; omega⟩, ⟨by (with_reducible repeat (first | apply Kd.R_alloc | apply Kd.R_drewN | apply Kd.R_drew)); exact Kd.R_mono HO_3.out (fun _ hk => hk.2)⟩, ⟨by (with_reducible repeat (first | apply Kd.R_alloc | apply Kd.R_drewN | apply Kd.R_drew)); exact HO112.out⟩, ⟨by repeat (first | (with_reducible first | exact HB.out | apply below_alloc | apply pw_below_drewN | apply below_drew1 | refine below_set ?_ GE105.out) | exact HB.out)⟩⟩
                          · rw [if_neg c21] at H
                            exact absurd H (by simp)
                        · rw [if_neg c20] at H
                          exact absurd H (by simp)
                      · rw [if_neg c19] at H
                        exact absurd H (by simp)
                    · rw [if_neg c18] at H
                      exact absurd H (by simp)
                  · rw [if_neg c17] at H
                    have c17b0 : (((rd_T34 l0 x10_1).f1).toList == ([] : List UInt8)) = false := beq_eq_false_iff_ne.mpr c17
                    have c17b1 : (((rd_T34 l0 x10_1).f1).toList != ([] : List UInt8)) = true := bne_iff_ne.mpr c17
                    by_cases c25 : 0 ≤ ((rd_T34 l0 x10_1).f0)
                    · rw [if_pos c25] at H
                      have c25b0 : decide (0 ≤ ((rd_T34 l0 x10_1).f0)) = true := decide_eq_true c25
                      clear c25
                      by_cases c26 : ((rd_T34 l0 x10_1).f0) < (y101.length : Int)
                      · rw [if_pos c26] at H
                        have c26b0 : decide (((rd_T34 l0 x10_1).f0) < (y101.length : Int)) = true := decide_eq_true c26
                        clear c26
                        by_cases c27 : (rdOf ByteArray.empty y101 ((rd_T34 l0 x10_1).f0)).size + 1 ≤ 9223372036854775807
                        · rw [if_pos c27] at H
                          have c27b0 := eq_true c27
                          have c27b1 : decide ((rdOf ByteArray.empty y101 ((rd_T34 l0 x10_1).f0)).size + 1 ≤ 9223372036854775807) = true := decide_eq_true c27
                          try have c27b2 : (9223372036854775807 < (rdOf ByteArray.empty y101 ((rd_T34 l0 x10_1).f0)).size + 1) = False := eq_false (Nat.not_lt.2 c27)
                          by_cases c28 : ((rdOf ByteArray.empty y101 ((rd_T34 l0 x10_1).f0)) ++ (⟨#[32]⟩ : ByteArray)).size + ((rd_T34 l0 x10_1).f1).size ≤ 9223372036854775807
                          · rw [if_pos c28] at H
                            have c28b0 := eq_true c28
                            have c28b1 : decide (((rdOf ByteArray.empty y101 ((rd_T34 l0 x10_1).f0)) ++ (⟨#[32]⟩ : ByteArray)).size + ((rd_T34 l0 x10_1).f1).size ≤ 9223372036854775807) = true := decide_eq_true c28
                            try have c28b2 : (9223372036854775807 < ((rdOf ByteArray.empty y101 ((rd_T34 l0 x10_1).f0)) ++ (⟨#[32]⟩ : ByteArray)).size + ((rd_T34 l0 x10_1).f1).size) = False := eq_false (Nat.not_lt.2 c28)
                            have c28n : (rdOf ByteArray.empty y101 ((rd_T34 l0 x10_1).f0)).size + 1 + ((rd_T34 l0 x10_1).f1).size ≤ 9223372036854775807 := by simpa [ByteArray.size_append, show (⟨#[32]⟩ : ByteArray).size = 1 from rfl] using of_decide_eq_true c28b1
                            have c28n2 : (9223372036854775807 < (rdOf ByteArray.empty y101 ((rd_T34 l0 x10_1).f0)).size + 1 + ((rd_T34 l0 x10_1).f1).size) = False := eq_false (Nat.not_lt.2 c28n)
                            replace c28n := eq_true c28n
                            by_cases c29 : x4_1.length < 8796093022208
                            · rw [if_pos c29] at H
                              have LMc29 := Aside0.mk c29
                              clear c29
                              obtain ⟨y114, hy114⟩ : ∃ y_ : List ByteArray, y_ = (x4_1 ++ [((rdOf ByteArray.empty y101 ((rd_T34 l0 x10_1).f0)) ++ (⟨#[32]⟩ : ByteArray)) ++ ((rd_T34 l0 x10_1).f1)]) := ⟨_, rfl⟩
                              replace H : (viewdiff_Format.l0 kj6 y101 y114 l0 (l0.length : Int) (wrap64 (x10_1 + 1))) = some r := by first | (rw [hy114]; with_reducible exact H) | (have H2_ := (Option.bind_some _ _).symm.trans H; rw [hy114]; with_reducible exact H2_) | (have H2_ := (Option.bind_some _ _).symm.trans H; with_reducible exact H2_) | with_reducible exact H | (rw [hy114]; exact H) | exact H
                              have Ny114 := Aside0.mk hy114
                              clear hy114
                              have H' := Aside0.mk H
                              clear H
                              have hcz30_0 : wc.cell? ⟨gb105, 0, none⟩ = some (.int .i64 ((rd_T34 l0 x10_1).f0)) := (blk_cell BK105.out 0).trans rfl
                              have hcz30_1 : wc.cell? ⟨gb105, 1, none⟩ = some (.string ((rd_T34 l0 x10_1).f1)) := (blk_cell BK105.out 1).trans rfl
                              have hfz30_0 := blk_frozen BK105.out 0
                              have hfz30_1 := blk_frozen BK105.out 1
                              try go_wp2
                              have n0_ := Aside0.mk (Kd.R_drew HO_3.out)
                              have n1_ := Aside0.mk (Kd.R_drew HO_4.out)
                              have n2_ := Aside0.mk (blk_drew BK105.out)
                              have n3_ := Aside0.mk (below_drew1 HB.out)
                              clear HO_3
                              clear HO_4
                              clear BK105
                              clear HB
                              have HO_3 := n0_
                              have HO_4 := n1_
                              have BK105 := n2_
                              have HB := n3_
                              clear n0_ n1_ n2_ n3_
                              obtain ⟨Ao32, co32, eo32⟩ := Kd.R_slice HO_3.out
                              (first | subst eo32 | (injection eo32 with f1_ f2_ f3_; have f4_ := f1_.symm; have f5_ := f3_.symm; clear f1_ f2_ f3_; subst f4_; subst f5_))
                              have p113 : 0 ≤ (((rd_T34 l0 x10_1).f0) : Int) := of_decide_eq_true (by first | (with_reducible assumption) | assumption)
                              have q113 : ((rd_T34 l0 x10_1).f0) < (y101.length : Int) := of_decide_eq_true (by first | (with_reducible assumption) | assumption)
                              obtain ⟨ad113, e113, hx113_0⟩ := Kd.at_string (Kd.R_reads' HO_3.out).2.2 ((rd_T34 l0 x10_1).f0) p113 q113
                              cases e113
                              replace p113 := eq_true p113
                              replace q113 := eq_true q113
                              refine start_ (n := 13) (S := fun w' => w'.cell? ⟨gb105, 0, none⟩ = some (.int .i64 ((rd_T34 l0 x10_1).f0)) ∧ w'.cell? ⟨gb105, 1, none⟩ = some (.string ((rd_T34 l0 x10_1).f1)) ∧ w'.cell? (ad113.add (((rd_T34 l0 x10_1).f0)).toNat) = some (.string (rdOf ByteArray.empty y101 ((rd_T34 l0 x10_1).f0)))) (ds := [10, 11]) #[false, false, false, false, false, false, false, false, false, false, false, false, false] (by kernel_rfl) rfl rfl ⟨(blk_cell BK105.out 0).trans rfl, (blk_cell BK105.out 1).trans rfl, hx113_0⟩ (fun hHeld => ?_); refine with_tabW viewdiff_Format.tab6 viewdiff_Format.bits6 (fun HT_ HW_ => ?_)
                              generalize wc.drew = w31 at HO_3 HO_4 BK105 HB hx113_0 hHeld ⊢
                              refine pure_ (i := 0) (N := some 14) (v := ?_) (a' := ?_) #[true, false, false, false, false, false, false, false, false, false, false, false, false] rfl rfl (any_of HT_.out (by kernel_rfl)) (fun _ _ _ h => h) (Or.inl ⟨by rfl, ?_⟩) ?_ ?_
                              rotate_left
                              · intro w'
                                go_simp
                                with_reducible rfl
                              rotate_left
                              · simp only [Act.put, List.setIfInBounds_toArray, List.set_cons_zero, List.set_cons_succ, i64_w, i32_w]
                                rfl
                              refine pure_ (i := 1) (N := some 15) (v := ?_) (a' := ?_) #[true, true, false, false, false, false, false, false, false, false, false, false, false] rfl rfl (any_of HT_.out (by kernel_rfl)) (fun _ _ _ h => h) (Or.inl ⟨by rfl, ?_⟩) ?_ ?_
                              rotate_left
                              · intro w'
                                go_simp
                                with_reducible rfl
                              rotate_left
                              · simp only [Act.put, List.setIfInBounds_toArray, List.set_cons_zero, List.set_cons_succ, i64_w, i32_w]
                                rfl
                              refine pure_ (i := 2) (N := some 16) (v := ?_) (a' := ?_) #[true, true, true, false, false, false, false, false, false, false, false, false, false] rfl rfl (any_of HT_.out (by kernel_rfl)) (fun _ _ _ h => h) (Or.inl ⟨by rfl, ?_⟩) ?_ ?_
                              rotate_left
                              · intro w'
                                go_simp
                                with_reducible rfl
                              rotate_left
                              · simp only [Act.put, List.setIfInBounds_toArray, List.set_cons_zero, List.set_cons_succ, i64_w, i32_w]
                                rfl
                              refine pure_ (i := 7) (N := some 21) (v := ?_) (a' := ?_) #[true, true, true, false, false, false, false, true, false, false, false, false, false] rfl rfl (any_of HT_.out (by kernel_rfl)) (fun _ _ _ h => h) (Or.inl ⟨by rfl, ?_⟩) ?_ ?_
                              rotate_left
                              · intro w'
                                go_simp
                                with_reducible rfl
                              rotate_left
                              · simp only [Act.put, List.setIfInBounds_toArray, List.set_cons_zero, List.set_cons_succ, i64_w, i32_w]
                                rfl
                              refine take_ (i := 3) (N := some 17) (v := ?_) (a' := ?_) #[true, true, true, true, false, false, false, true, false, false, false, false, false] rfl rfl (take_ofW HT_.out HW_.out (by kernel_rfl)) (fun _ _ _ h => h) (Or.inl ⟨by rfl, ?_⟩) hHeld ?_ ?_
                              rotate_left
                              · rintro w' ⟨s0, s1, s2⟩
                                go_simp
                                with_reducible rfl
                              rotate_left
                              · simp only [Act.put, List.setIfInBounds_toArray, List.set_cons_zero, List.set_cons_succ, i64_w, i32_w]
                                rfl
                              refine pure_ (i := 4) (N := some 18) (v := ?_) (a' := ?_) #[true, true, true, true, true, false, false, true, false, false, false, false, false] rfl rfl (any_of HT_.out (by kernel_rfl)) (fun _ _ _ h => h) (Or.inl ⟨by rfl, ?_⟩) ?_ ?_
                              rotate_left
                              · intro w'
                                go_simp
                                with_reducible rfl
                              rotate_left
                              · simp only [Act.put, List.setIfInBounds_toArray, List.set_cons_zero, List.set_cons_succ, i64_w, i32_w]
                                rfl
                              refine take_ (i := 5) (N := some 19) (v := ?_) (a' := ?_) #[true, true, true, true, true, true, false, true, false, false, false, false, false] rfl rfl (take_ofW HT_.out HW_.out (by kernel_rfl)) (fun _ _ _ h => h) (Or.inl ⟨by rfl, ?_⟩) hHeld ?_ ?_
                              rotate_left
                              · rintro w' ⟨s0, s1, s2⟩
                                go_simp
                                with_reducible rfl
                              rotate_left
                              · simp only [Act.put, List.setIfInBounds_toArray, List.set_cons_zero, List.set_cons_succ, i64_w, i32_w]
                                rfl
                              refine pure_ (i := 6) (N := some 20) (v := ?_) (a' := ?_) #[true, true, true, true, true, true, true, true, false, false, false, false, false] rfl rfl (any_of HT_.out (by kernel_rfl)) (fun _ _ _ h => h) (Or.inl ⟨by rfl, ?_⟩) ?_ ?_
                              rotate_left
                              · intro w'
                                go_simp
                                with_reducible rfl
                              rotate_left
                              · simp only [Act.put, List.setIfInBounds_toArray, List.set_cons_zero, List.set_cons_succ, i64_w, i32_w]
                                rfl
                              refine take_ (i := 8) (N := some 22) (v := ?_) (a' := ?_) #[true, true, true, true, true, true, true, true, true, false, false, false, false] rfl rfl (take_ofW HT_.out HW_.out (by kernel_rfl)) (fun _ _ _ h => h) (Or.inl ⟨by rfl, ?_⟩) hHeld ?_ ?_
                              rotate_left
                              · rintro w' ⟨s0, s1, s2⟩
                                go_simp
                                with_reducible rfl
                              rotate_left
                              · simp only [Act.put, List.setIfInBounds_toArray, List.set_cons_zero, List.set_cons_succ, i64_w, i32_w]
                                rfl
                              refine pure_ (i := 9) (N := some 23) (v := ?_) (a' := ?_) #[true, true, true, true, true, true, true, true, true, true, false, false, false] rfl rfl (any_of HT_.out (by kernel_rfl)) (fun _ _ _ h => h) (Or.inl ⟨by rfl, ?_⟩) ?_ ?_
                              rotate_left
                              · intro w'
                                go_simp
                                with_reducible rfl
                              rotate_left
                              · simp only [Act.put, List.setIfInBounds_toArray, List.set_cons_zero, List.set_cons_succ, i64_w, i32_w]
                                rfl
                              refine last_ (i := 10) (N := some 24) #[true, true, true, true, true, true, true, true, true, true, true, false, false] rfl rfl (one_of HT_.out (by kernel_rfl)) (by decide) (fun K hK => ?_)
                              refine value_ (w1 := ?_) (v := ?_) (by rfl) rfl ?_ ?_
                              rotate_left 2
                              · go_simp
                                constructor
                                · rfl
                                · rfl
                              refine hK.out _ _ ?_
                              clear hK K
                              refine norm_ (a' := ?_) ?_ ?_
                              rotate_left
                              · show Act.put _ (some 24) _ = _
                                simp only [Act.put, List.setIfInBounds_toArray, List.set_cons_zero, List.set_cons_succ, i64_w, i32_w]
                                rfl
                              refine last_ (i := 11) (N := some 25) #[true, true, true, true, true, true, true, true, true, true, true, true, false] rfl rfl (one_of HT_.out (by kernel_rfl)) (by decide) (fun K hK => ?_)
                              refine Kd.R_append_step Kd.string (w0 := w) w.heap.size (by rfl) (.tmp 14) (.tmp 24) 46 9 (.string ⟨#[]⟩) 16 rfl Tryz.underlying46 info9 rfl (by decide) (by omega) u4 x4_1 (((rdOf ByteArray.empty y101 ((rd_T34 l0 x10_1).f0)) ++ (⟨#[32]⟩ : ByteArray)) ++ ((rd_T34 l0 x10_1).f1)) [.string (((rdOf ByteArray.empty y101 ((rd_T34 l0 x10_1).f0)) ++ (⟨#[32]⟩ : ByteArray)) ++ ((rd_T34 l0 x10_1).f1))] (fun k_ => some k_ ≠ (.slice (some ad113) y101.length co32 : Value).ownBlock) (fun _ => False) rfl rfl ?aP (fun _ hk => hk.elim) ?aF ?aO ?aB ?aS ?aL ?_
                              (case aP => exact rfl)
                              (case aB => exact (by repeat (first | (with_reducible first | exact HB.out | apply below_alloc | apply pw_below_drewN | apply below_drew1 | refine below_set ?_ GE105.out) | exact HB.out)))
                              (case aF => exact (fun k_ hk => Kd.fresh' (Kd.R_lt (by (with_reducible repeat (first | apply Kd.R_alloc | apply Kd.R_drewN | apply Kd.R_drew)); exact HO_3.out)) k_ hk))
                              (case aO => exact (by (with_reducible repeat (first | apply Kd.R_alloc | apply Kd.R_drewN | apply Kd.R_drew)); exact HO_4.out))
                              (case aS => exact (below_size (by repeat (first | (with_reducible first | exact HB.out | apply below_alloc | apply pw_below_drewN | apply below_drew1 | refine below_set ?_ GE105.out) | exact HB.out))))
                              (case aL => have := LMc29.out; omega)
                              intro v115 w33 ho hb hg hat
                              rw [← Ny114.out] at ho
                              have n0_ := Aside0.mk (Kd.R_after (ok := (fun _ => True)) (by (with_reducible repeat (first | apply Kd.R_alloc | apply Kd.R_drewN | apply Kd.R_drew)); exact Kd.R_mono HO_3.out (fun _ hk => ⟨trivial, hk⟩)) hg hat)
                              have n1_ := Aside0.mk (blk_grown (g := gb105) (o := .cells #[.int .i64 ((rd_T34 l0 x10_1).f0), .string ((rd_T34 l0 x10_1).f1)] 34 (0, 0)) (by (with_reducible repeat (first | refine blk_drewN ?_ _ | refine blk_drew ?_ | refine blk_alloc ?_ _)); exact BK105.out) hg (Kd.R_ne HO_4.out BK105.out (by decide)))
                              have n2_ := Aside0.mk (hb)
                              have n3_ := Aside0.mk (ho)
                              clear HO_3
                              clear BK105
                              clear HB
                              clear HO_4
                              have HO_3 := n0_
                              have BK105 := n1_
                              have HB := n2_
                              have HO116 := n3_
                              clear n0_ n1_ n2_ n3_
                              clear ho hb hg hat
                              refine hK.out _ _ ?_
                              clear hK K
                              refine norm_ (a' := ?_) ?_ ?_
                              rotate_left
                              · show Act.put _ (some 25) _ = _
                                simp only [Act.put, List.setIfInBounds_toArray, List.set_cons_zero, List.set_cons_succ, i64_w, i32_w]
                                rfl
                              refine pure_ (i := 12) (N := some 4) (v := ?_) (a' := ?_) #[true, true, true, true, true, true, true, true, true, true, true, true, true] rfl rfl (any_of HT_.out (by kernel_rfl)) (fun _ _ _ h => h) (Or.inl ⟨by rfl, ?_⟩) ?_ ?_
                              rotate_left
                              · intro w'
                                go_simp
                                with_reducible rfl
                              rotate_left
                              · simp only [Act.put, List.setIfInBounds_toArray, List.set_cons_zero, List.set_cons_succ, i64_w, i32_w]
                                rfl
                              refine done_ (done_of HT_.out (by kernel_rfl)) ?_
                              try go_wp2
                              go_roundg kj6
                              case measure => have := HK1.out; have := HJ6.out; omega
                              case rel => exact ⟨(y114), (wrap64 (x10_1 + 1)), (by first | rfl | (simp; done) | (simp [*]; done)), H', ⟨by have := HK1.out; have := HJ6.out; omega⟩, ⟨by (with_reducible repeat (first | apply Kd.R_alloc | apply Kd.R_drewN | apply Kd.R_drew)); exact Kd.R_mono HO_3.out (fun _ hk => hk.2)⟩, ⟨by (with_reducible repeat (first | apply Kd.R_alloc | apply Kd.R_drewN | apply Kd.R_drew)); exact HO116.out⟩, ⟨by repeat (first | (with_reducible first | exact HB.out | apply below_alloc | apply pw_below_drewN | apply below_drew1 | refine below_set ?_ GE105.out) | exact HB.out)⟩⟩
                            · rw [if_neg c29] at H
                              exact absurd H (by simp)
                          · rw [if_neg c28] at H
                            exact absurd H (by simp)
                        · rw [if_neg c27] at H
                          exact absurd H (by simp)
                      · rw [if_neg c26] at H
                        exact absurd H (by simp)
                    · rw [if_neg c25] at H
                      exact absurd H (by simp)
          · rw [if_neg c6] at H
            exact absurd H (by simp)
        · rw [if_neg c5] at H
          exact absurd H (by simp)
      · rw [if_neg c4] at H
        have c4b0 : decide (x10_1 < (l0.length : Int)) = false := decide_eq_false c4
        clear c4
        obtain rfl := Option.some.inj H
        go_wp2
        go_ret
        exact ⟨_, by first | rfl | (simp [errW_none, errW_some] <;> rfl) | (simp [*, errW_none, errW_some] <;> rfl), by (with_reducible repeat (first | apply Kd.R_alloc | apply Kd.R_drewN | apply Kd.R_drew)); exact Kd.R_mono HO_4.out (fun _ hk => trivial), by repeat (first | (with_reducible first | exact HB.out | apply below_alloc | apply pw_below_drewN | apply below_drew1) | exact HB.out)⟩
end Go.Proofs.YtabcnplfkfdeaaaGreatDoor.Q6
namespace Go.Proofs.YtabcnplfkfdeaaaGreatDoor.Q6
open Go.RowKit Go.Proofs.YtabcnplfkfdeaaaGreatDoorW.PrintWords Go.Proofs.YtabcnplfkfdeaaaGreatDoorW.PrintLast Go.Proofs.YtabcnplfkfdeaaaGreatDoorW.PrintMore
attribute [local go_sem] max2_int min2_int max_two min_two max_three min_three max_four min_four   -- for this text's walks alone
end Go.Proofs.YtabcnplfkfdeaaaGreatDoor.Q6
