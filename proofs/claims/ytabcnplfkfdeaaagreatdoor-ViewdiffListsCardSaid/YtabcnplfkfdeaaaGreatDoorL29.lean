/- Walks and plain laws that the claim stands on (part 29). -/
import Derived.Test.YtabcnplfkfdeaaaGreatDoorL27
import Derived.Test.YtabcnplfkfdeaaaGreatDoorL28
namespace Go.Proofs.YtabcnplfkfdeaaaGreatDoor
open Go.RowKit Go.Proofs.YtabcnplfkfdeaaaGreatDoorW.PrintWords Go.Proofs.YtabcnplfkfdeaaaGreatDoorW.PrintLast Go.Proofs.YtabcnplfkfdeaaaGreatDoorW.PrintMore
set_option linter.unusedVariables false
set_option linter.unusedSimpArgs false
theorem idx_short (l : List S34) : ∀ (k : Nat) (i : Int), 0 ≤ i → i + k = l.length → ¬ 0 ≤ idxGo l i k → ∀ j : Int, i ≤ j → j < l.length → (rd_T34 l j).f1.size ≤ 1000 := by
  intro k
  induction k with
  | zero => intro i h0 hk _ j hj hl; omega
  | succ k ih =>
    intro i h0 hk h j hj hl
    simp only [idxGo] at h
    by_cases c : 1000 < (rd_T34 l i).f1.size
    · rw [if_pos c] at h; exact absurd h0 h
    · rw [if_neg c] at h
      by_cases e : j = i
      · subst e; omega
      · exact ih (i + 1) (by omega) (by omega) h j (by omega) hl
theorem short_all (l : List S34) (h : ¬ 0 ≤ idxOf l) : ∀ d ∈ l, d.f1.size ≤ 1000 := by
  intro d hd
  obtain ⟨n, hn, rfl⟩ := List.getElem_of_mem hd
  have := idx_short l l.length 0 (by omega) (by omega) h (n : Int) (by omega) (by omega)
  unfold rd_T34 at this
  simpa [List.getD_eq_getElem?_getD, List.getElem?_eq_getElem hn] using this
set_option maxRecDepth 100000 in
set_option maxHeartbeats 8000000 in
theorem lists_calls (l : List S34) (kind : Int) (path : ByteArray) (A : Option Addr) (c : Nat) (w : World) (hC : Kd.C k34 w A l.length l) (hc : l.length ≤ c) (hT : Tabs w) :
    Calls Tryz.prog 10 #[.slice A l.length c, .int .i64 kind, .string path] w fun e w' => e = .returned (.bool true) ∧ Below w.heap.size w w' := by
  have HC := Aside0.mk hC
  have HL := Aside0.mk hc
  have HT := Aside0.mk hT
  clear hC hc hT
  go_enter Tryz.func10, Tryz.ntmps10
  go_wp2_with fail
  refine (awake_calls w HT.out).mono ?_
  rintro e w1 ⟨rfl, hb⟩
  have HB1 := Aside0.mk hb
  clear hb
  by_cases h200 : (200 : Int) < (l.length : Int)
  · have d200 : decide ((200 : Int) < (l.length : Int)) = true := decide_eq_true h200
    go_wp2
    go_ret
    exact ⟨rfl, HB1.out⟩
  · have d200 : decide ((200 : Int) < (l.length : Int)) = false := decide_eq_false h200
    have HL2 := Aside0.mk (show l.length ≤ 200 by omega)
    by_cases hp : (1000 : Int) < (path.size : Int)
    · have dp : decide ((1000 : Int) < (path.size : Int)) = true := decide_eq_true hp
      go_wp2
      go_ret
      exact ⟨rfl, HB1.out⟩
    · have dp : decide ((1000 : Int) < (path.size : Int)) = false := decide_eq_false hp
      have HP2 := Aside0.mk (show path.size ≤ 1000 by omega)
      go_wp2_with fail
      refine (contains_calls l A c w1 (Kd.C_below HC.out HB1.out) HL.out).mono ?_
      rintro e w2 ⟨rfl, hb⟩
      have HB2 := Aside0.mk (below_step HB1.out hb)
      clear hb HB1
      by_cases hx : 0 ≤ idxOf l
      · have dx : decide (0 ≤ idxOf l) = true := decide_eq_true hx
        go_wp2
        go_ret
        exact ⟨rfl, HB2.out⟩
      · have dx : decide (0 ≤ idxOf l) = false := decide_eq_false hx
        have HX := Aside0.mk (short_all l hx)
        obtain ⟨F, HF, HFE⟩ : ∃ F : List ByteArray, Aside0 (Q6.viewdiff_Format.f 402 l = some F ∧ Q4.masterdiscref50_Format.f 402 l = some F) ∧ Aside0 (Q2.slices_Equal_string_string.f 202 F F = some true) := ⟨_, ⟨formats l HL2.out HX.out⟩, ⟨strs_eq _ (by rw [List.length_map]; exact HL2.out)⟩⟩
        obtain ⟨N, HCN⟩ : ∃ N : Int, Aside0 (Q2.viewdiff_Count.f 202 l kind = some N ∧ Q4.masterdiscref50_Count.f 202 l kind = some N) := ⟨_, ⟨counts l kind HL2.out⟩⟩
        obtain ⟨M, HBE, HME⟩ : ∃ M : List S34, Aside0 (Q2.viewdiff_Below.f 202 l path = some M ∧ Q4.masterdiscref50_Below.f 202 l path = some M) ∧ Aside0 (Q2.api_Difference.f 202 M M = some true) := ⟨_, ⟨belows l path HL2.out HP2.out HX.out⟩, ⟨difs_eq _ (Nat.le_trans (List.length_filter_le _ _) HL2.out)⟩⟩
        clear hx
        go_wp2_with fail
        refine (Q6.viewdiff_Format.calls 402 A c l F w2 (Kd.C_below HC.out HB2.out) HL.out HF.out.1).mono ?_
        rintro e w3 ⟨v3, rfl, hr, hb⟩
        obtain ⟨A3, c3, rfl, l3, g3⟩ := Kd.R_reads hr
        have HB3 := Aside0.mk (below_step HB2.out hb)
        have L3 := Aside0.mk l3
        have C3 := Aside0.mk g3
        clear hb hr l3 g3 HB2
        go_wp2_with fail
        refine (Q4.masterdiscref50_Format.calls 402 A c l F w3 (Kd.C_below HC.out HB3.out) HL.out HF.out.2).mono ?_
        rintro e w4 ⟨v4, rfl, hr, hb⟩
        obtain ⟨A4, c4, rfl, l4, g4⟩ := Kd.R_reads hr
        have HB4 := Aside0.mk (below_step HB3.out hb)
        have C3 := Aside0.mk (Kd.C_below C3.out hb)
        have L4 := Aside0.mk l4
        have C4 := Aside0.mk g4
        clear hb hr l4 g4 HB3
        go_wp2_with fail
        refine (Q2.slices_Equal_string_string.calls 202 A3 c3 F A4 c4 F true w4 C3.out L3.out C4.out L4.out HFE.out).mono ?_
        rintro e w5 ⟨rfl, hd⟩
        have hb := hd.below
        have HB5 := Aside0.mk (below_step HB4.out hb)
        clear hb hd HB4
        go_wp2_with fail
        refine (Q2.viewdiff_Count.calls 202 A c l kind N w5 (Kd.C_below HC.out HB5.out) HL.out HCN.out.1).mono ?_
        rintro e w6 ⟨rfl, hb⟩
        have HB6 := Aside0.mk (below_step HB5.out hb)
        clear hb HB5
        go_wp2_with fail
        refine (Q4.masterdiscref50_Count.calls 202 A c l kind N w6 (Kd.C_below HC.out HB6.out) HL.out HCN.out.2).mono ?_
        rintro e w7 ⟨rfl, hd⟩
        have hb := hd.below
        have HB7 := Aside0.mk (below_step HB6.out hb)
        clear hb hd HB6
        go_wp2_with fail
        refine (Q2.viewdiff_Below.calls 202 A c l path M w7 (Kd.C_below HC.out HB7.out) HL.out HBE.out.1).mono ?_
        rintro e w8 ⟨v8, rfl, hr, hb⟩
        obtain ⟨A8, c8, rfl, l8, g8⟩ := Kd.R_reads hr
        have HB8 := Aside0.mk (below_step HB7.out hb)
        have L8 := Aside0.mk l8
        have C8 := Aside0.mk g8
        clear hb hr l8 g8 HB7
        go_wp2_with fail
        refine (Q4.masterdiscref50_Below.calls 202 A c l path M w8 (Kd.C_below HC.out HB8.out) HL.out HBE.out.2).mono ?_
        rintro e w9 ⟨v9, rfl, hr, hb⟩
        obtain ⟨A9, c9, rfl, l9, g9⟩ := Kd.R_reads hr
        have HB9 := Aside0.mk (below_step HB8.out hb)
        have C8 := Aside0.mk (Kd.C_below C8.out hb)
        have L9 := Aside0.mk l9
        have C9 := Aside0.mk g9
        clear hb hr l9 g9 HB8
        go_wp2_with fail
        refine (Q2.api_Difference.calls 202 A8 c8 M A9 c9 M true w9 C8.out L8.out C9.out L9.out HME.out).mono ?_
        rintro e w10 ⟨rfl, hd⟩
        have hb := hd.below
        have HB10 := Aside0.mk (below_step HB9.out hb)
        clear hb hd HB9
        go_wp2
        go_ret
        exact ⟨by first | rfl | (simp; done), HB10.out⟩
end Go.Proofs.YtabcnplfkfdeaaaGreatDoor
