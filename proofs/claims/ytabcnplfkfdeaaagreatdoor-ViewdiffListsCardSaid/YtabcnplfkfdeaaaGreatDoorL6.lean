/- Walks and plain laws that the claim stands on (part 6). -/
import Derived.Test.YtabcnplfkfdeaaaGreatDoorL3
import Derived.Shelf.Unicode.DecodeLastEight
namespace Go.Proofs.YtabcnplfkfdeaaaGreatDoor
open Go.RowKit Go.Proofs.YtabcnplfkfdeaaaGreatDoorW.PrintWords Go.Proofs.YtabcnplfkfdeaaaGreatDoorW.PrintLast
set_option linter.unusedVariables false
set_option linter.unusedSimpArgs false
def isChar (n : Int) : Bool := decide (32 ≤ n) && (decide (n ≤ 65533) && (decide (n < 55296) || decide (57343 < n)))
def charset_character.f (a0 : Int) : Option Bool := some (isChar a0)
theorem charset_character.calls (a0 : Int) (r : Bool) (w : World) (h : charset_character.f a0 = some r) :
    Calls Tryz.prog 135 #[.int .i64 a0] w fun e w' => e = .returned (.bool r) ∧ Drawn0 w w' := by
  injection h with h
  subst h
  by_cases h1 : 32 ≤ a0
  · by_cases h2 : a0 ≤ 65533
    · by_cases h3 : a0 < 55296
      · go_enter Tryz.func135, Tryz.ntmps135
        go_wp2
        go_ret
        exact ⟨by simp [isChar, h1, h2, h3], Drawn0.refl _⟩
      · go_enter Tryz.func135, Tryz.ntmps135
        go_wp2
        go_ret
        exact ⟨by simp [isChar, h1, h2]; omega, Drawn0.refl _⟩
    · go_enter Tryz.func135, Tryz.ntmps135
      go_wp2
      go_ret
      exact ⟨by simp [isChar]; omega, Drawn0.refl _⟩
  · go_enter Tryz.func135, Tryz.ntmps135
    go_wp2
    go_ret
    exact ⟨by simp [isChar]; omega, Drawn0.refl _⟩
theorem decodeGo_bd (s : ByteArray) (h : 0 < s.size) : (Lib.decodeGo s).1 ≤ 1114111 ∧ 1 ≤ (Lib.decodeGo s).2 ∧ (Lib.decodeGo s).2 ≤ s.size := by
  refine ⟨?_, ?_, Lib.decodeGo_le_size s⟩
  · unfold Lib.decodeGo
    rw [if_neg (by omega)]
    unfold Utf8.decode
    simp only
    repeat' split
    all_goals (simp only [Utf8.runeError]; try omega)
    all_goals (rename_i hv; simp [Utf8.valid] at hv ⊢; omega)
  · unfold Lib.decodeGo
    rw [if_neg (by omega)]
    unfold Utf8.decode
    simp only
    repeat' split
    all_goals simp
def charsGo : Nat → ByteArray → List Int → Option (List Int × Int)
  | 0, _, _ => none
  | k + 1, s, l => if 0 < s.size then (if isChar (Lib.decodeGo s).1 = false then some ([], 3) else if ((Lib.decodeGo s).1 : Int) = 65533 ∧ ((Lib.decodeGo s).2 : Int) = 1 then some ([], 3) else charsGo k (s.extract (Lib.decodeGo s).2 s.size) (l ++ [((Lib.decodeGo s).1 : Int)])) else some (l, 0)
def charset_Characters.f (a0 : ByteArray) : Option (List Int × Int) := if (a0.size : Int) > 65536 then some ([], 7) else charsGo (a0.size + 1) a0 []
theorem infoInt : (Tryz.prog.info? 3).map (fun i => (i.zero, i.size, i.bytes)) = some (some (.int .i64 0), 1, 8) := by kernel_rfl
set_option maxRecDepth 100000 in
set_option maxHeartbeats 2000000 in
theorem charset_Characters.calls (a0 : ByteArray) (r1 : List Int) (r2 : Int) (w : World) (hT : Tabs w) (h : charset_Characters.f a0 = some (r1, r2)) :
    Calls Tryz.prog 120 #[.string a0] w fun e w' => ∃ v0_ : Value, e = .returned (.tuple #[v0_, .int .i64 r2]) ∧ Kd.R (Kd.int .i64) 3 w' w.heap.size (fun _ => True) v0_ r1 ∧ Below w.heap.size w w' := by
  have HB := Aside0.mk (Below.refl w.heap.size w)
  have HT := Aside0.mk hT
  clear hT
  unfold charset_Characters.f at h
  by_cases c2 : (a0.size : Int) > 65536
  · rw [if_pos c2] at h
    have c2b0 : decide (65536 < (a0.size : Int)) = true := decide_eq_true c2
    have c2b1 : decide (65536 < a0.size) = true := decide_eq_true (by omega)
    clear c2
    simp only [Option.some.injEq, Prod.mk.injEq] at h
    obtain ⟨rfl, rfl⟩ := h
    go_enter Tryz.func120, Tryz.ntmps120
    go_wp2
    go_ret2
    exact ⟨_, rfl, Kd.R_nil _ _ _ _ _, HB.out⟩
  · rw [if_neg c2] at h
    have c2b0 : decide (65536 < (a0.size : Int)) = false := decide_eq_false c2
    have c2b1 : decide (65536 < a0.size) = false := decide_eq_false (by omega)
    have hsz : a0.size ≤ 65536 := by omega
    clear c2
    have H' := Aside0.mk h
    clear h
    go_enter Tryz.func120, Tryz.ntmps120
    obtain ⟨i0, hi, hz0, hz1, hz2⟩ := info_parts infoInt
    go_wp2_with (first | ((with_reducible refine gate_dst (N := 12) rfl ?_); refine wpList_make_own _ rfl (.const (.int .i64 0)) (.tmp 11) 104 rfl w.heap.size 3 i0 (.int .i64 0) 1 Tryz.underlying104 hi hz0 hz1 .i64 .i64 _ a0.size rfl rfl rfl (by rw [hz2]; omega) (by unfold maxLen; omega) (Nat.le_refl _) ?_; intro w1 hown hg; have HB1 := Aside0.mk (HB.out.grown hg (Nat.le_refl _) (by simp)); have HO := Aside0.mk (show Kd.R (Kd.int .i64) 3 w1 w.heap.size (fun _ => True) (.slice (some ⟨w.heap.size, 0, none⟩) 0 a0.size) [] from Kd.R_of_own hown (fun _ _ => trivial)); clear hown hg HB))
    go_loopg [0, 4] (a0.size + 1) (fun kq v0 v4 w' => ∃ (x0 : ByteArray) (x4 : List Int), v0 = .string x0 ∧ Aside0 (charsGo kq x0 x4 = some (r1, r2)) ∧ Aside0 (kq + x4.length ≤ a0.size + 1) ∧ Aside0 (Kd.R (Kd.int .i64) 3 w' w.heap.size (fun _ => True) v4 x4) ∧ Aside0 (Below w.heap.size w w'))
    case atStart => exact ⟨a0, [], rfl, H', ⟨by simp⟩, HO, HB1⟩
    case round =>
      clear H' HO HB1 c2b0 c2b1
      obtain ⟨x0, x4, rfl, HA, HK, HO, HB⟩ := hrel
      cases gk with
      | zero => exact absurd HA.out (by simp [charsGo])
      | succ k1 =>
        have H := HA.out
        clear HA
        simp only [charsGo] at H
        by_cases c3 : 0 < x0.size
        · rw [if_pos c3] at H
          have c3b0 : decide (0 < (x0.size : Int)) = true := decide_eq_true (by omega)
          have c3b1 : decide (0 < x0.size) = true := decide_eq_true c3
          clear c3
          have hbd := decodeGo_bd x0 (of_decide_eq_true c3b1)
          obtain ⟨c, n, hcn⟩ : ∃ c n, Lib.decodeGo x0 = (c, n) := ⟨_, _, rfl⟩
          rw [hcn] at H hbd
          simp only at H hbd
          obtain ⟨hb1, hb2, hb3⟩ := hbd
          have hD : utf8_DecodeRuneInString.f x0 = some ((c : Int), (n : Int)) := by simp [utf8_DecodeRuneInString.f, hcn]
          have HD := Aside0.mk hD
          clear hD hcn
          cases hc : isChar c
          · rw [if_pos hc] at H
            simp only [Option.some.injEq, Prod.mk.injEq] at H
            obtain ⟨rfl, rfl⟩ := H
            have HC := Aside0.mk hc
            clear hc
            go_wp2_with fail
            refine (utf8_DecodeRuneInString.calls x0 c n _ (HT.out.below HB.out) HD.out).mono ?_
            rintro e w2 ⟨rfl, hb⟩
            have HB2 := Aside0.mk (below_step HB.out hb)
            have HO2 := Aside0.mk (Kd.R_below HO.out hb)
            clear hb HB HO
            go_wp2_with fail
            refine (charset_character.calls c false _ (by rw [charset_character.f, HC.out])).mono ?_
            rintro e w' ⟨rfl, ⟨nd, rfl⟩⟩
            go_wp2
            go_ret2
            exact ⟨_, rfl, Kd.R_nil _ _ _ _ _, pw_below_drewN HB2.out _⟩
          · rw [if_neg (by simp [hc])] at H
            have HC := Aside0.mk hc
            clear hc
            by_cases c5 : (c : Int) = 65533 ∧ (n : Int) = 1
            · rw [if_pos c5] at H
              simp only [Option.some.injEq, Prod.mk.injEq] at H
              obtain ⟨rfl, rfl⟩ := H
              obtain ⟨c6, c7⟩ := c5
              have c6b : ((c : Int) == 65533) = true := by simpa using c6
              have c7b : ((n : Int) == 1) = true := by simpa using c7
              clear c6 c7
              go_wp2_with fail
              refine (utf8_DecodeRuneInString.calls x0 c n _ (HT.out.below HB.out) HD.out).mono ?_
              rintro e w2 ⟨rfl, hb⟩
              have HB2 := Aside0.mk (below_step HB.out hb)
              have HO2 := Aside0.mk (Kd.R_below HO.out hb)
              clear hb HB HO
              go_wp2_with fail
              refine (charset_character.calls c true _ (by rw [charset_character.f, HC.out])).mono ?_
              rintro e w' ⟨rfl, ⟨nd, rfl⟩⟩
              go_wp2
              go_ret2
              exact ⟨_, rfl, Kd.R_nil _ _ _ _ _, pw_below_drewN HB2.out _⟩
            · rw [if_neg c5] at H
              have H' := Aside0.mk H
              clear H
              have hn0 : (0 : Int) ≤ (n : Int) := by omega
              have hn1 : (n : Int) ≤ (x0.size : Int) := by omega
              by_cases c6 : (c : Int) = 65533
              · have c7 : ¬ (n : Int) = 1 := fun e => c5 ⟨c6, e⟩
                have c6b : ((c : Int) == 65533) = true := by simpa using c6
                have c7b : ((n : Int) == 1) = false := by simpa using c7
                clear c6 c7 c5
                go_wp2_with fail
                refine (utf8_DecodeRuneInString.calls x0 c n _ (HT.out.below HB.out) HD.out).mono ?_
                rintro e w2 ⟨rfl, hb⟩
                have HB2 := Aside0.mk (below_step HB.out hb)
                have HO2 := Aside0.mk (Kd.R_below HO.out hb)
                clear hb HB HO
                go_wp2_with fail
                refine (charset_character.calls c true _ (by rw [charset_character.f, HC.out])).mono ?_
                rintro e w' ⟨rfl, ⟨nd, rfl⟩⟩
                go_wp2_with (first | ((with_reducible refine gate_builtin (b := .append) (xs := #[.tmp 33, .tmp 36]) rfl ?_); at_builtin; refine Kd.R_append (Kd.int .i64) (w0 := w) w.heap.size rfl (.tmp 33) (.tmp 36) 104 3 (.int .i64 0) 8 rfl Tryz.underlying104 infoInt rfl (by decide) (by omega) u4 x4 c [.int .i64 c] (fun _ => True) (fun _ => False) rfl rfl ?aP (fun _ hk => hk.elim) (fun _ _ => trivial) ?aO ?aB ?aS ?aL ?_; (case aP => exact rfl); (case aB => exact (by repeat (first | (with_reducible first | exact HB2.out | apply below_alloc | apply pw_below_drewN | apply below_drew1) | exact HB2.out))); (case aO => exact (by (with_reducible repeat (first | apply Kd.R_alloc | apply Kd.R_drewN | apply Kd.R_drew)); exact HO2.out)); (case aS => exact (below_size (by repeat (first | (with_reducible first | exact HB2.out | apply below_alloc | apply pw_below_drewN | apply below_drew1) | exact HB2.out)))); (case aL => have := HK.out; omega); intro v118 w11 ho hb hg hat; have HB := Aside0.mk hb; have HO := Aside0.mk ho; clear ho hb hg hat HB2 HO2))
                go_roundg k1
                case measure => omega
                case rel => exact ⟨x0.extract n x0.size, x4 ++ [(c : Int)], (by first | rfl | (simp; done)), ⟨H'.out⟩, ⟨by have := HK.out; simp; omega⟩, HO, HB⟩
              · have c6b : ((c : Int) == 65533) = false := by simpa using c6
                clear c6 c5
                go_wp2_with fail
                refine (utf8_DecodeRuneInString.calls x0 c n _ (HT.out.below HB.out) HD.out).mono ?_
                rintro e w2 ⟨rfl, hb⟩
                have HB2 := Aside0.mk (below_step HB.out hb)
                have HO2 := Aside0.mk (Kd.R_below HO.out hb)
                clear hb HB HO
                go_wp2_with fail
                refine (charset_character.calls c true _ (by rw [charset_character.f, HC.out])).mono ?_
                rintro e w' ⟨rfl, ⟨nd, rfl⟩⟩
                go_wp2_with (first | ((with_reducible refine gate_builtin (b := .append) (xs := #[.tmp 33, .tmp 36]) rfl ?_); at_builtin; refine Kd.R_append (Kd.int .i64) (w0 := w) w.heap.size rfl (.tmp 33) (.tmp 36) 104 3 (.int .i64 0) 8 rfl Tryz.underlying104 infoInt rfl (by decide) (by omega) u4 x4 c [.int .i64 c] (fun _ => True) (fun _ => False) rfl rfl ?aP (fun _ hk => hk.elim) (fun _ _ => trivial) ?aO ?aB ?aS ?aL ?_; (case aP => exact rfl); (case aB => exact (by repeat (first | (with_reducible first | exact HB2.out | apply below_alloc | apply pw_below_drewN | apply below_drew1) | exact HB2.out))); (case aO => exact (by (with_reducible repeat (first | apply Kd.R_alloc | apply Kd.R_drewN | apply Kd.R_drew)); exact HO2.out)); (case aS => exact (below_size (by repeat (first | (with_reducible first | exact HB2.out | apply below_alloc | apply pw_below_drewN | apply below_drew1) | exact HB2.out)))); (case aL => have := HK.out; omega); intro v118 w11 ho hb hg hat; have HB := Aside0.mk hb; have HO := Aside0.mk ho; clear ho hb hg hat HB2 HO2))
                go_roundg k1
                case measure => omega
                case rel => exact ⟨x0.extract n x0.size, x4 ++ [(c : Int)], (by first | rfl | (simp; done)), ⟨H'.out⟩, ⟨by have := HK.out; simp; omega⟩, HO, HB⟩
        · rw [if_neg c3] at H
          have c3b0 : decide (0 < (x0.size : Int)) = false := decide_eq_false (by omega)
          have c3b1 : decide (0 < x0.size) = false := decide_eq_false c3
          clear c3
          simp only [Option.some.injEq, Prod.mk.injEq] at H
          obtain ⟨rfl, rfl⟩ := H
          go_wp2
          go_ret2
          exact ⟨_, rfl, HO.out, HB.out⟩
end Go.Proofs.YtabcnplfkfdeaaaGreatDoor
